/-
  The simplified coordinate of the program.
-/
import Derived.Test.YtdgckinmcnjheaaGreatCQA
import Derived.Test.YtdgckinmcnjheaaGreatCPE
import Derived.Test.YtdgckinmcnjheaaGreatCHA
import Derived.Test.YtdgckinmcnjheaaGreatCGB
set_option linter.unusedVariables false
set_option linter.unusedSimpArgs false
set_option linter.unnecessarySimpa false
namespace Go.PI.Tryz
open Go.Proofs Go.PI
theorem vO1 : FO 142 Tryz.f142 [.cell 2 35] 12 := mkO Tryz.func142 Tryz.ntmps142 Tryz.results142
theorem vVQ (q : Rat) (k : Nat) (hq : sz k q) (hk : k ≤ 2147483596) : Fn 142 [vAZ (cr q)] (.data (vAZ (cr q))) := by
 have hl := zAL hq;have ok := zAI q;have c1 := zHP (cr q).num ok.1 (by omega);have c2 := zHP (cr q).den ok.2 (by omega);have e1 : vA4 (nv (cr q).num) = (cr q).num := by show vA4 (nv (vA4 _)) = vA4 _; rw [zAO]
 have e2 : vA4 (nv (cr q).den) = (cr q).den := by
  unfold cr; dsimp only
  split
  ·rfl
  ·rw [zAO]
 rw [e1] at c1;rw [e2] at c2;refine zAN vA6 hT vO1 (by simp [vAZ]) ?_;refine sts ?_;refine zAA c1 rfl ?_;refine sts ?_;refine zAA c2 rfl ?_;refine sts ?_;exact zAB rfl rfl
theorem vYK : FO 87 Tryz.f87 [.cell 4 35] 23 := mkO Tryz.func87 Tryz.ntmps87 Tryz.results87
theorem uFL (f : QF) (v : Int) (k : Nat) (hf : szF k f) (hk : k ≤ 2147483596) (hs : f.ts.Pairwise (fun p q => p.1 < q.1)) (hl : f.ts.length ≤ 1048576) : Fn 87 [vA5 f, .int .i64 v] (.data (vAZ (cr (cf f.ts v)))) := by
 refine zAN vA6 hT vYK (by simp [vA5]) ?_;refine sts ?_
 refine zAG hT (fun (i : Nat) => [(1, .int .i64 v), (4, .ptr 0 0 0), (8, .imm (f.ts.map vDA)), (9, .int .i64 f.ts.length), (10, .int .i64 i)])
  (fun _ => [(0, ⟨[.agg [.bool false, .nilsl, .nilsl]], 3, true⟩)]) [] 1
  (fun i => i ≤ f.ts.length ∧ ∀ j, j < i → f.ts[j]!.1 ≠ v) (fun i => f.ts.length - i) 0 ⟨Nat.zero_le _, fun j h => by omega⟩ (by decide) (by simp) ?_ ?_
 ·exact ⟨[_], [], [], [], ttt, ⟨zAC rfl rfl, (apy rfl), zAE rfl rfl, zAC rfl (by simp), zAC rfl rfl, trivial⟩, ⟨bbx, trivial⟩, by simp [ren]⟩
 intro i ⟨i1, i2⟩;by_cases hi : i < f.ts.length
 ·have hm := get_mem hi
  have cc := vVQ f.ts[i]!.2 k (hf.2 _ hm) hk;by_cases e : f.ts[i]!.1 = v
  ·rw [vZS hs hm e]
   (repeat' (first|refine stp ?_|with_reducible(refine brr ?_ ?_<;>intro h)));all_goals try(conv=>whnf)
   all_goals try (exfalso; omega)
   all_goals try exact absurd e (by assumption)
   refine zAA cc rfl ?_;refine sts ?_;exact zAB rfl rfl
  ·(repeat' (first|refine stp ?_|with_reducible(refine brr ?_ ?_<;>intro h)));all_goals try(conv=>whnf)
   all_goals try (exfalso; omega)
   all_goals try exact absurd (by assumption) e
   exact ⟨i + 1, ⟨⟨by omega, fun j hj => zA2 (p := fun j => f.ts[j]!.1 ≠ v) i2 e hj⟩, by show f.ts.length - (i + 1) < f.ts.length - i; omega⟩, [0], [], [], [], ttt, ⟨zAC rfl rfl, apx, zAE rfl rfl, zAC rfl rfl, zAC rfl rfl, trivial⟩, ⟨bbx, trivial⟩, by simp [ren]⟩
 ·have e : cf f.ts v = 0 := zMH fun p hp => by
   obtain ⟨j, hj, rfl⟩ := List.getElem_of_mem hp;have := i2 j (by omega)
   rwa [getElem!_pos f.ts j hj] at this
  rw [e, zC1]
  (repeat' (first|refine stp ?_|with_reducible(refine brr ?_ ?_<;>intro h)));all_goals try(conv=>whnf)
  all_goals try (exfalso; omega)
  exact zAB rfl rfl
theorem vSD : FO 102 Tryz.f102 [.cell 4 35] 28 := mkO Tryz.func102 Tryz.ntmps102 Tryz.results102
theorem vZ1 (f : QF) (v : Int) (k : Nat) (hf : szF k f) (hk : k ≤ 2147483596) (hs : f.ts.Pairwise (fun p q => p.1 < q.1)) (hl : f.ts.length ≤ 1048576) : Fn 102 [vA5 f, .int .i64 v] (.data (vAZ (cr (cf f.ts v)))) := by
 refine zAN vA6 hT vSD (by simp [vA5]) ?_;refine sts ?_
 refine zAG hT (fun (i : Nat) => [(1, .int .i64 v), (2, .ptr 1 0 0), (4, .ptr 0 0 0), (5, .int .i64 i)])
  (fun _ => [(0, ⟨[.agg [.bool false, .nilsl, .nilsl]], 3, true⟩), (1, ⟨[vA5 f], 4, true⟩)]) [] 2
  (fun i => i ≤ f.ts.length ∧ ∀ j, j < i → f.ts[j]!.1 ≠ v) (fun i => f.ts.length - i) 0 ⟨Nat.zero_le _, fun j h => by omega⟩ (by decide) (by simp) ?_ ?_
 ·exact ⟨[_, _], [], [], [], ttt, ⟨zAC rfl rfl, (apy rfl), (apy rfl), zAC rfl rfl, trivial⟩, ⟨bbx, bbx, trivial⟩, by simp [ren]⟩
 intro i ⟨i1, i2⟩;by_cases hi : i < f.ts.length
 ·have hm := get_mem hi
  by_cases e : f.ts[i]!.1 = v
  ·rw [vZS hs hm e]
   (repeat' (first|refine stp ?_|with_reducible(refine brr ?_ ?_<;>intro h)));all_goals try(conv=>whnf)
   all_goals try (exfalso; omega)
   all_goals try exact absurd e (by assumption)
   exact zAB rfl rfl
  ·(repeat' (first|refine stp ?_|with_reducible(refine brr ?_ ?_<;>intro h)));all_goals try(conv=>whnf)
   all_goals try (exfalso; omega)
   all_goals try exact absurd (by assumption) e
   exact ⟨i + 1, ⟨⟨by omega, fun j hj => zA2 (p := fun j => f.ts[j]!.1 ≠ v) i2 e hj⟩, by show f.ts.length - (i + 1) < f.ts.length - i; omega⟩, [0, 1], [], [], [], ttt, ⟨zAC rfl rfl, apx, apx, zAC rfl rfl, trivial⟩, ⟨bbx, bbx, trivial⟩, by simp [ren]⟩
 ·have e : cf f.ts v = 0 := zMH fun p hp => by
   obtain ⟨j, hj, rfl⟩ := List.getElem_of_mem hp;have := i2 j (by omega)
   rwa [getElem!_pos f.ts j hj] at this
  rw [e, zC1]
  (repeat' (first|refine stp ?_|with_reducible(refine brr ?_ ?_<;>intro h)));all_goals try(conv=>whnf)
  all_goals try (exfalso; omega)
  exact zAB rfl rfl
abbrev uHN (x : List Rat) (i : Nat) (b : Rat × Rat) : List Blk := [vCN x, ⟨[.own 0 0 x.length], 1, false⟩, ⟨[vAZ (cr b.1)], 3, true⟩, ⟨[vAZ (cr b.2)], 3, true⟩, ⟨[.int .i64 i], 1, false⟩]
theorem zLV : FO 86 Tryz.f86 [] 45 := mkO Tryz.func86 Tryz.ntmps86 Tryz.results86
theorem vGZ (f : QF) (x : List Rat) (i : Nat) (b : Rat × Rat) (k : Nat) (h : szN f x k) (hk : k ≤ 2000000) (hk1 : 1 ≤ k) (hi : i < x.length) (hb1 : sz 20000000 b.1) (hb2 : sz 20000000 b.2) :
 Fn 86 [vA5 f, .ptr 4 0 0, .ptr 1 0 0, .ptr 2 0 0, .ptr 3 0 0] (.frm (uHN x i b) (.tup []) (uHN x i (nar x i b f))) := by
 obtain ⟨lo, hi'⟩ := b;have hxl := h.xl;have hfl := h.len;have hev := h.ev;have hcs := vK9 (v := (i : Int)) hk1 h.ok.1.1 h.ff.2;have l1 := zAL hev;have l2 := zAL hcs;have l3 := zAL (h.xs _ (get_mem hi));have c1 := uFL f i k h.ff (by omega) h.ok.1.1 (by omega);have c2 := zDR (cr (cf f.ts i)) (zAI _) (by omega);rw [zAQ] at c2;have c3 := zK1 f x k 200 h.ff h.xs (fun p hp => h.ok.2 p hp) (by have := Nat.mul_le_mul_right (k + 200 + 1) hfl; omega) (by omega) (by omega);by_cases h0 : cf f.ts i = 0
 ·have e0 := sgnQ_zero.2 h0
  have en : nar x i (lo, hi') f = (lo, hi') := by unfold nar; rw [if_pos h0]
  rw [en];generalize vBS (cf f.ts i) = S at *
  refine zIF vA6 hT zLV (by simp [vA5]) (m := 5) rfl ?_;refine sts ?_;refine zAA c1 rfl ?_;refine sts ?_;refine zAA c2 rfl ?_
  (repeat' (first|refine stp ?_|with_reducible(refine brr ?_ ?_<;>intro h)));all_goals try(conv=>whnf)
  all_goals try exact absurd e0 (by assumption)
  exact zL6 rfl rfl ⟨⟨_, rfl, rfl, rfl⟩, ⟨_, rfl, rfl, rfl⟩, ⟨_, rfl, rfl, rfl⟩, ⟨_, rfl, rfl, rfl⟩, ⟨_, rfl, rfl, rfl⟩, trivial⟩
 ·have e0 : ¬ vBS (cf f.ts i) = 0 := fun e => h0 (sgnQ_zero.1 e)
  obtain ⟨z1, z2⟩ := h.zer hk1 hi h0;have l4 := zAL z1;have l5 := zAL z2;have c4 := vNM (cr (evQ f x)) (cr (cf f.ts i)) (zAI _) (zAI _) (by omega) (by omega) (by omega) (by omega) (by rw [zAQ]; exact h0);rw [zAQ, zAQ] at c4;have c5 := vVK (cr x[i]!) (cr (evQ f x / cf f.ts i)) (zAI _) (zAI _) (by omega) (by omega) (by omega) (by omega);rw [zAQ, zAQ] at c5;have c6 := vVN (cr lo) (cr (zer x i f)) 20000000 (zEI hb1) (zEI (zBE (by omega) z2)) (by decide);have c7 := uIG (cr hi') (cr (zer x i f)) 20000000 (zEI hb2) (zEI (zBE (by omega) z2)) (by decide);rw [zAQ, zAQ] at c6 c7;have ez : x[i]! - evQ f x / cf f.ts i = zer x i f := rfl;rw [ez] at c5;by_cases hp : 0 < cf f.ts i
  ·have en : nar x i (lo, hi') f = (vC5 lo (zer x i f), hi') := by unfold nar; rw [if_neg h0, if_pos hp]
   rw [en];have e1 := sgnQ_pos.2 hp;generalize zer x i f = Z at *
   generalize evQ f x / cf f.ts i = D at *
   generalize evQ f x = V at *
   generalize vBS (cf f.ts i) = S at *
   generalize cf f.ts i = c at *
   refine zIF vA6 hT zLV (by simp [vA5]) (m := 5) rfl ?_;refine sts ?_;refine zAA c1 rfl ?_;refine sts ?_;refine zAA c2 rfl ?_
   (repeat' (first|refine stp ?_|with_reducible(refine brr ?_ ?_<;>intro h)));all_goals try(conv=>whnf)
   all_goals try exact absurd (by assumption) e0
   refine zB5 (r := 0) c3 rfl rfl rfl rfl (zA7 (zAK _)) ?_;refine sts ?_;refine zAA c4 rfl ?_;refine sts ?_;refine zAU i (Nat.zero_add _) hi ?_;refine sts ?_;refine zAA c5 rfl ?_;refine sts ?_;refine zAA c2 rfl ?_
   (repeat' (first|refine stp ?_|with_reducible(refine brr ?_ ?_<;>intro h)));all_goals try(conv=>whnf)
   all_goals try (exfalso; omega)
   refine zAA c6 rfl ?_;refine sts ?_;exact zL6 rfl rfl ⟨⟨_, rfl, rfl, rfl⟩, ⟨_, rfl, rfl, rfl⟩, ⟨_, rfl, rfl, rfl⟩, ⟨_, rfl, rfl, rfl⟩, ⟨_, rfl, rfl, rfl⟩, trivial⟩
  ·have en : nar x i (lo, hi') f = (lo, vP6 hi' (zer x i f)) := by unfold nar; rw [if_neg h0, if_neg hp]
   rw [en];have e1 : ¬ 0 < vBS (cf f.ts i) := fun e => hp (sgnQ_pos.1 e)
   generalize zer x i f = Z at *
   generalize evQ f x / cf f.ts i = D at *
   generalize evQ f x = V at *
   generalize vBS (cf f.ts i) = S at *
   generalize cf f.ts i = c at *
   refine zIF vA6 hT zLV (by simp [vA5]) (m := 5) rfl ?_;refine sts ?_;refine zAA c1 rfl ?_;refine sts ?_;refine zAA c2 rfl ?_
   (repeat' (first|refine stp ?_|with_reducible(refine brr ?_ ?_<;>intro h)));all_goals try(conv=>whnf)
   all_goals try exact absurd (by assumption) e0
   refine zB5 (r := 0) c3 rfl rfl rfl rfl (zA7 (zAK _)) ?_;refine sts ?_;refine zAA c4 rfl ?_;refine sts ?_;refine zAU i (Nat.zero_add _) hi ?_;refine sts ?_;refine zAA c5 rfl ?_;refine sts ?_;refine zAA c2 rfl ?_
   (repeat' (first|refine stp ?_|with_reducible(refine brr ?_ ?_<;>intro h)));all_goals try(conv=>whnf)
   all_goals try (exfalso; omega)
   refine zAA c7 rfl ?_;refine sts ?_;exact zL6 rfl rfl ⟨⟨_, rfl, rfl, rfl⟩, ⟨_, rfl, rfl, rfl⟩, ⟨_, rfl, rfl, rfl⟩, ⟨_, rfl, rfl, rfl⟩, ⟨_, rfl, rfl, rfl⟩, trivial⟩
abbrev uI4 (x : List Rat) (i : Nat) (g : QF) : List Blk := [vCN x, ⟨[.own 0 0 x.length], 1, false⟩, ⟨[vA5 g], 4, true⟩, ⟨[.int .i64 i], 1, false⟩]
theorem vIC : FO 95 Tryz.f95 [.cell 5 35] 40 := mkO Tryz.func95 Tryz.ntmps95 Tryz.results95
theorem vZ9 (g : QF) (x : List Rat) (i : Nat) (e : Rat) (k : Nat) (hg : szF k g) (hgo : okF x.length g) (hgl : g.ts.length ≤ 3) (hx : ∀ q ∈ x, sz 200 q) (hxl : x.length ≤ 3) (hk : k ≤ 20000000) (hk1 : 1 ≤ k) (hi : i < x.length) (he : sz 20000000 e) :
 Fn 95 [vAZ (cr e), .ptr 1 0 0, .ptr 3 0 0, .ptr 2 0 0] (.frm (uI4 x i g) (vAZ (cr (vCT g x i e))) (uI4 x i g)) := by
 have hxs : ∀ q ∈ x.set i e, sz 20000000 q := vQ1 (fun q hq => zBE (by decide) (hx q hq)) he i;have hsl : (x.set i e).length = x.length := by simp
 have hm := Nat.mul_le_mul_right (k + 20000000 + 1) hgl;have c1 := zK1 g (x.set i e) k 20000000 hg hxs (fun p hp => by rw [hsl]; exact hgo.2 p hp) (by omega) (by omega) (by omega);rw [hsl] at c1;have hev := zNR hg hxs (fun t ht => by rw [hsl]; exact hgo.2 t ht);have l1 := zAL hev;have l2 := zAL he;have l3 := zAL (hx _ (get_mem hi));have c2 := zDR (cr (evQ g (x.set i e))) (zAI _) (by omega);rw [zAQ] at c2;have hsum := zBY he (hx _ (get_mem hi));have l4 := zAL hsum;have l5 := zAL zK8;have c3 := zGP (cr e) (cr x[i]!) (zAI _) (zAI _) (by omega) (by omega) (by omega) (by omega);rw [zAQ, zAQ] at c3;have c4 := zF3 (cr vB2) (cr (e + x[i]!)) (zAI _) (zAI _) (by omega) (by omega) (by omega) (by omega);rw [zAQ, zAQ] at c4;have X_all : List.take x.length (x.map vBF) = x.map vBF := List.take_of_length_le (by simp);by_cases h0 : evQ g (x.set i e) = 0
 ·have e0 := sgnQ_zero.2 h0
  have en : vCT g x i e = vB2 * (e + x[i]!) := by unfold vCT; rw [if_pos h0]
  rw [en];generalize vB2 * (e + x[i]!) = H at *
  generalize vBS (evQ g (x.set i e)) = S at *
  generalize evQ g (x.set i e) = V at *
  refine zIF vA6 hT vIC (by simp [vAZ]) (m := 4) rfl ?_;refine sus ?_
  (refine zAX ?_; refine sus ?_)
  refine vB7 [] [(1, .ptr 1 0 0), (2, .ptr 3 0 0), (3, .ptr 2 0 0), (4, .ptr 4 0 0), (5, .ptr 5 0 0), (6, .own 6 0 x.length)] [(0, vCN x), (1, ⟨[.own 0 0 x.length], 1, false⟩), (2, ⟨[vA5 g], 4, true⟩), (3, ⟨[.int .i64 i], 1, false⟩), (4, ⟨[vAZ (cr e)], 3, true⟩), (5, ⟨[.agg [.bool false, .nilsl, .nilsl]], 3, true⟩), (6, vCN x)] [] 7 (by decide) (by simp) trivial
   ⟨[4, 5, 8], [], [], [], ttt, ⟨apx, apx, apx, apx, apx, zAF (by decide) rfl (by simp), trivial⟩, ⟨zAD (by decide) rfl rfl (zAK x) rfl, zA8 (by decide) rfl ⟨by decide, rfl⟩ rfl rfl, bbx, bbx, bbx, bbx, zAD (by decide) rfl X_all (zAK _) rfl, trivial⟩, by simp [ren]⟩ ?_
  refine sus ?_;refine zAU i (Nat.zero_add _) hi ?_;refine sus ?_
  refine vB7 [] [(1, .ptr 1 0 0), (2, .ptr 3 0 0), (3, .ptr 2 0 0), (4, .ptr 4 0 0), (5, .ptr 5 0 0), (6, .own 6 0 x.length)] [(0, vCN x), (1, ⟨[.own 0 0 x.length], 1, false⟩), (2, ⟨[vA5 g], 4, true⟩), (3, ⟨[.int .i64 i], 1, false⟩), (4, ⟨[vAZ (cr e)], 3, true⟩), (5, ⟨[.agg [.bool false, .nilsl, .nilsl]], 3, true⟩), (6, vCN (x.set i e))] [] 7 (by decide) (by simp) trivial
   ⟨[4, 5, 6], [], [], [], ttt, ⟨apx, apx, apx, apx, apx, zAF (by decide) rfl rfl, trivial⟩, ⟨zAD (by decide) rfl rfl (zAK x) rfl, zA8 (by decide) rfl ⟨by decide, rfl⟩ rfl rfl, bbx, bbx, bbx, bbx, zAD (by decide) rfl (zBB (Nat.zero_add _) rfl) (zAK _) rfl, trivial⟩, by simp [ren]⟩ ?_
  refine sus ?_;refine zB5 (r := 6) c1 rfl rfl rfl rfl (zA7 (zAK _)) ?_;refine sus ?_
  (refine zAX ?_; refine sus ?_)
  refine zAA c2 rfl ?_;refine sus ?_;refine zAX ?_; (repeat' (first|refine stu ?_|with_reducible(refine brr ?_ ?_<;>intro h)));all_goals try(conv=>whnf)
  ·exact absurd e0 (by assumption)
  (refine zAX ?_; refine sus ?_)
  refine zAA vVO rfl ?_;refine sus ?_
  (refine zAX ?_; refine sus ?_)
  refine zAU i (Nat.zero_add _) hi ?_;refine sus ?_;refine zAA c3 rfl ?_;refine sus ?_;refine zAA c4 rfl ?_;refine sus ?_
  (refine zAX ?_; refine sus ?_)
  exact zL6 rfl rfl ⟨⟨_, rfl, rfl, rfl⟩, ⟨_, rfl, rfl, rfl⟩, ⟨_, rfl, rfl, rfl⟩, ⟨_, rfl, rfl, rfl⟩, trivial⟩
 ·have e0 : ¬ vBS (evQ g (x.set i e)) = 0 := fun h => h0 (sgnQ_zero.1 h)
  have en : vCT g x i e = e := by unfold vCT; rw [if_neg h0]
  rw [en];generalize vBS (evQ g (x.set i e)) = S at *
  generalize evQ g (x.set i e) = V at *
  refine zIF vA6 hT vIC (by simp [vAZ]) (m := 4) rfl ?_;refine sus ?_
  (refine zAX ?_; refine sus ?_)
  refine vB7 [] [(1, .ptr 1 0 0), (2, .ptr 3 0 0), (3, .ptr 2 0 0), (4, .ptr 4 0 0), (5, .ptr 5 0 0), (6, .own 6 0 x.length)] [(0, vCN x), (1, ⟨[.own 0 0 x.length], 1, false⟩), (2, ⟨[vA5 g], 4, true⟩), (3, ⟨[.int .i64 i], 1, false⟩), (4, ⟨[vAZ (cr e)], 3, true⟩), (5, ⟨[.agg [.bool false, .nilsl, .nilsl]], 3, true⟩), (6, vCN x)] [] 7 (by decide) (by simp) trivial
   ⟨[4, 5, 8], [], [], [], ttt, ⟨apx, apx, apx, apx, apx, zAF (by decide) rfl (by simp), trivial⟩, ⟨zAD (by decide) rfl rfl (zAK x) rfl, zA8 (by decide) rfl ⟨by decide, rfl⟩ rfl rfl, bbx, bbx, bbx, bbx, zAD (by decide) rfl X_all (zAK _) rfl, trivial⟩, by simp [ren]⟩ ?_
  refine sus ?_;refine zAU i (Nat.zero_add _) hi ?_;refine sus ?_
  refine vB7 [] [(1, .ptr 1 0 0), (2, .ptr 3 0 0), (3, .ptr 2 0 0), (4, .ptr 4 0 0), (5, .ptr 5 0 0), (6, .own 6 0 x.length)] [(0, vCN x), (1, ⟨[.own 0 0 x.length], 1, false⟩), (2, ⟨[vA5 g], 4, true⟩), (3, ⟨[.int .i64 i], 1, false⟩), (4, ⟨[vAZ (cr e)], 3, true⟩), (5, ⟨[.agg [.bool false, .nilsl, .nilsl]], 3, true⟩), (6, vCN (x.set i e))] [] 7 (by decide) (by simp) trivial
   ⟨[4, 5, 6], [], [], [], ttt, ⟨apx, apx, apx, apx, apx, zAF (by decide) rfl rfl, trivial⟩, ⟨zAD (by decide) rfl rfl (zAK x) rfl, zA8 (by decide) rfl ⟨by decide, rfl⟩ rfl rfl, bbx, bbx, bbx, bbx, zAD (by decide) rfl (zBB (Nat.zero_add _) rfl) (zAK _) rfl, trivial⟩, by simp [ren]⟩ ?_
  refine sus ?_;refine zB5 (r := 6) c1 rfl rfl rfl rfl (zA7 (zAK _)) ?_;refine sus ?_
  (refine zAX ?_; refine sus ?_)
  refine zAA c2 rfl ?_;refine sus ?_;refine zAX ?_; (repeat' (first|refine stu ?_|with_reducible(refine brr ?_ ?_<;>intro h)));all_goals try(conv=>whnf)
  rotate_left
  ·exact absurd (by assumption) e0
  (refine zAX ?_; refine sus ?_)
  exact zL6 rfl rfl ⟨⟨_, rfl, rfl, rfl⟩, ⟨_, rfl, rfl, rfl⟩, ⟨_, rfl, rfl, rfl⟩, ⟨_, rfl, rfl, rfl⟩, trivial⟩
theorem vOS : FO 115 Tryz.f115 [.tmp 2] 12 := mkO Tryz.func115 Tryz.ntmps115 Tryz.results115
theorem vVB (g : GraL) (hg : vCE 950000000 g) : Fn 115 [vA8 g] (.data (.int .i64 (if dB (VaG g) = true then g.ins + g.units.length else 0))) := by
 have cv := zF0 g hg;have l1 := hg.1.1;refine zAN vA6 hT vOS (by simp [vA8]) ?_;refine sts ?_;refine zAA cv rfl ?_
 (repeat' (first|refine stp ?_|with_reducible(refine brr ?_ ?_<;>intro h)));all_goals try(conv=>whnf)
 ·have hv : VaG g := dB_true.1 (by assumption)
  have h1 := hv.1;refine sts ?_;exact zAB rfl (by rw [if_pos (dB_true.2 hv)]; simp)
 ·have hv : ¬ VaG g := dB_false.1 (by assumption)
  exact zAB rfl (by rw [if_neg (by rw [dB_false.2 hv]; decide)])
structure okQr (q : QryL) : Prop where
 g : vCE 950000000 q.g
 r : vCZ 950000000 q.r
 goal : okA 950000000 q.goal
theorem vOO : FO 54 Tryz.f54 [.tmp 2] 22 := mkO Tryz.func54 Tryz.ntmps54 Tryz.results54
theorem vI8 (q : QryL) (hq : okQr q) : Fn 54 [vA7 q] (.data (.bool (dB (VaQ q)))) := by
 have cv := zF0 q.g hq.g;have cn := vVB q.g hq.g;have cr' := vJD q.r q.g.ins hq.r;have cl := zMO q.goal (q.g.ins + q.g.units.length) (zBZ (by omega) hq.goal);refine zAN vA6 hT vOO (by simp [vA7]) ?_;refine sts ?_;refine zAA cv rfl ?_
 (repeat' (first|refine stp ?_|with_reducible(refine brr ?_ ?_<;>intro h)));all_goals try(conv=>whnf)
 rotate_left
 ·have hv : ¬ VaG q.g := dB_false.1 (by assumption)
  exact zAB rfl (congrArg PV.bool (zIJ fun e => hv e.1))
 have hv : VaG q.g := dB_true.1 (by assumption);rw [if_pos (dB_true.2 hv)] at cn;refine zAA cr' rfl ?_
 (repeat' (first|refine stp ?_|with_reducible(refine brr ?_ ?_<;>intro h)));all_goals try(conv=>whnf)
 rotate_left
 ·have hw : ¬ VaR q.r q.g.ins := dB_false.1 (by assumption)
  exact zAB rfl (congrArg PV.bool (zIJ fun e => hw e.2.1))
 have hw : VaR q.r q.g.ins := dB_true.1 (by assumption);refine zAA cn rfl ?_;refine sts ?_;refine zAA cl rfl ?_;refine sts ?_;refine zAB rfl (congrArg PV.bool ?_);rw [Bool.eq_iff_iff, validB_true, dB_true];exact ⟨fun h => ⟨hv, hw, h⟩, fun h => h.2.2⟩
theorem vOP : FO 39 Tryz.f39 [.tmp 2] 27 := mkO Tryz.func39 Tryz.ntmps39 Tryz.results39
theorem vI9 (q : QryL) (hq : okQr q) : Fn 39 [vA7 q] (.data (.bool (dB (VaQ q)))) := by
 have cv := zIS q.g hq.g;have cr' := vJF q.r q.g.ins hq.r;have l1 := hq.g.1.1;have cl := zK0 q.goal (q.g.ins + q.g.units.length) (zBZ (by omega) hq.goal);refine zAN vA6 hT vOP (by simp [vA7]) ?_;refine sts ?_;refine zAA cv rfl ?_
 (repeat' (first|refine stp ?_|with_reducible(refine brr ?_ ?_<;>intro h)));all_goals try(conv=>whnf)
 rotate_left
 ·have hv : ¬ VaG q.g := dB_false.1 (by assumption)
  exact zAB rfl (congrArg PV.bool (zIJ fun e => hv e.1))
 have hv : VaG q.g := dB_true.1 (by assumption);have h1 := hv.1;refine zAA cr' rfl ?_
 (repeat' (first|refine stp ?_|with_reducible(refine brr ?_ ?_<;>intro h)));all_goals try(conv=>whnf)
 rotate_left
 ·have hw : ¬ VaR q.r q.g.ins := dB_false.1 (by assumption)
  exact zAB rfl (congrArg PV.bool (zIJ fun e => hw e.2.1))
 have hw : VaR q.r q.g.ins := dB_true.1 (by assumption);rw [List.length_map];refine zAA cl rfl ?_;refine sts ?_;refine zAB rfl (congrArg PV.bool ?_);rw [Bool.eq_iff_iff, validB_true, dB_true];exact ⟨fun h => ⟨hv, hw, h⟩, fun h => h.2.2⟩
theorem vO7 : FO 81 Tryz.f81 [.tmp 4, .tmp 5] 18 := mkO Tryz.func81 Tryz.ntmps81 Tryz.results81
theorem vVZ (g : GraL) (x : List RatL) (k K : Nat) (hg : vCE k g) (hk : k ≤ 950000000) (hk1 : 1 ≤ k) (hK1 : 1 ≤ K) (hv : VaG g) (hx : vPB 950000000 x) (hl : (x.length : Int) = g.ins) (hK : ∀ j, j < g.units.length → (∀ q ∈ vBC g.us (x.map qv) j, sz K q) ∧ sz K (vCA g.us (x.map qv))[j]!) (hb : ∀ f ∈ g.units, k + f.terms.length * (k + K + 1) + k + K ≤ 949999990) : Fn 81 [vA8 g, .imm (x.map vAZ)] (.data (.tup [.imm ((vBC g.us (x.map qv) g.us.length).map vBF), .int .i64 0])) := by
 have cc := uIN g x k K hg hk hk1 hK1 hv hx hl hK hb;refine zAN vA6 hT vO7 (by simp [vA8]) ?_;refine sts ?_;refine zAA cc rfl ?_;refine sts ?_;exact zAB rfl rfl
theorem vGX (x : List Rat) : (x.map cr).map vAZ = x.map vBF := by rw [List.map_map]; rfl
theorem vI6 (x : List Rat) : (x.map cr).map qv = x := by
 rw [List.map_map]; conv => rhs; rw [← List.map_id x]
 exact List.map_congr_left fun q _ => by simp [zAQ]
end Go.PI.Tryz
namespace Go.PI
open Go.Proofs Go.PI.Tryz
theorem smQ.okQ {q : QryL} {kg : Nat} (h : smQ q kg) (hkg : kg ≤ 1000000) : okQr q := ⟨zCV (by decide) h.g, zDV (by decide) h.r, zBZ (by omega) h.goal⟩
end Go.PI
namespace Go.PI.Tryz
open Go.Proofs Go.PI
section
variable {q : QryL} {kg n : Nat} {x : List Rat}
theorem vFO (hx : x.length ≤ 1048576) (hs : ∀ r ∈ x, sz 200 r) : vPB 200 (x.map cr) := ⟨by simpa using hx, fun y hy => by
 obtain ⟨r, hr, rfl⟩ := List.mem_map.1 hy
 exact zEI (hs r hr)⟩
theorem uCD (h : smQ q kg) : ∀ f ∈ q.g.units, 200 + f.terms.length * (200 + 40000 + 1) + 200 + 40000 ≤ 949999990 := fun f hf => by
 have := Nat.mul_le_mul_right (200 + 40000 + 1) ((zF5 h).1 f hf);omega
theorem uCC (h : smQ q kg) (hn : q.g.ins = (n : Int)) (hx : x.length = n) (hs : ∀ r ∈ x, sz 200 r) : Fn 81 [vA8 q.g, .imm (x.map vBF)] (.data (.tup [.imm ((vlQ q x).map vBF), .int .i64 0])) := by
 obtain ⟨_, _, m2, m3, _⟩ := h.n;have hv := zK5 h hn hx hs;have := vVZ q.g (x.map cr) 200 40000 (zCV (by decide) h.g) (by decide) (by decide) (by decide) h.va.1 (zJC (by decide) (vFO (by omega) hs)) (by simp; omega) (by rw [vI6]; exact fun j hj => ⟨hv.1 j (by rw [zCJ]; omega), hv.2 j (by rw [zCJ]; exact hj)⟩) (uCD h);rw [vGX, vI6] at this;exact this
theorem vQE (h : smQ q kg) (hn : q.g.ins = (n : Int)) (hx : x.length = n) (hs : ∀ r ∈ x, sz 200 r) : Fn 23 [vA8 q.g, .imm (x.map vBF)] (.data (.tup [.imm ((vlQ q x).map vBF), .int .i64 0])) := by
 obtain ⟨_, _, m2, m3, _⟩ := h.n;have hv := zK5 h hn hx hs;have := vPQ q.g (x.map cr) 200 40000 (zCV (by decide) h.g) (by decide) (by decide) (by decide) (by decide) h.va.1 (zJC (by decide) (vFO (by omega) hs)) (by simp; omega) (by rw [vI6]; exact fun j hj => ⟨hv.1 j (by rw [zCJ]; omega), hv.2 j (by rw [zCJ]; exact hj)⟩) (uCD h);rw [vGX, vI6] at this;exact this
theorem uAO (h : smQ q kg) : ∀ f ∈ q.r.rows, 200 + f.terms.length * (200 + 200 + 1) + 200 + 200 ≤ 949999990 := fun f hf => by
 have := Nat.mul_le_mul_right (200 + 200 + 1) ((zF5 h).2.1 f hf);omega
theorem uJF (h : smQ q kg) (hx : x.length ≤ 1048576) (hs : ∀ r ∈ x, sz 200 r) : Fn 80 [vBG q.r, .imm (x.map vBF)] (.data (.bool (dB (vDT q.r (x.map cr))))) := by
 have := vZ2 q.r (x.map cr) 200 200 (zDV (by decide) h.r) (by decide) (by decide) (vFO hx hs) (uAO h) (by decide) (by decide);rw [vGX] at this;exact this
theorem uF9 (h : smQ q kg) (hx : x.length ≤ 1048576) (hs : ∀ r ∈ x, sz 200 r) : Fn 31 [vBG q.r, .imm (x.map vBF)] (.data (.bool (dB (vDT q.r (x.map cr))))) := by
 have := vZX q.r (x.map cr) 200 200 (zDV (by decide) h.r) (by decide) (by decide) (vFO hx hs) (uAO h) (by decide) (by decide);rw [vGX] at this;exact this
theorem uGA (h : smQ q kg) (hkg : kg ≤ 1000000) (hn : q.g.ins = (n : Int)) (hx : x.length = n) (hs : ∀ r ∈ x, sz 200 r) : Fn 82 [vBD q.goal, .imm ((vlQ q x).map vBF)] (.data (.tup [vAZ (cr (vBX q x)), .int .i64 0])) := by
 obtain ⟨_, _, m2, m3, _⟩ := h.n;have hv := (zK5 h hn hx hs).1 _ (Nat.le_refl _);have hl : (vlQ q x).length = n + q.g.units.length := by unfold vlQ; rw [zC2 _ (Nat.le_refl _), hx, zCJ]
 have hu := h.un;have ht : q.goal.Q.ts.length ≤ 7 := by rw [zF4]; exact (zF5 h).2.2
 have hm := Nat.mul_le_mul_right (1000000 + 40000 + 1) ht;have := uFK q.goal.Q (vlQ q x) 1000000 40000 (zB0 (zBZ hkg h.goal) (by decide)) hv (zIC h hn hx) (by omega) (by omega) (by omega);rw [zGM h.va.2.2] at this;exact this
theorem vQF (h : smQ q kg) (hkg : kg ≤ 1000000) (hn : q.g.ins = (n : Int)) (hx : x.length = n) (hs : ∀ r ∈ x, sz 200 r) : Fn 24 [vBD q.goal, .imm ((vlQ q x).map vBF)] (.data (.tup [vAZ (cr (vBX q x)), .int .i64 0])) := by
 obtain ⟨_, _, m2, m3, _⟩ := h.n;have hv := (zK5 h hn hx hs).1 _ (Nat.le_refl _);have hl : (vlQ q x).length = n + q.g.units.length := by unfold vlQ; rw [zC2 _ (Nat.le_refl _), hx, zCJ]
 have hu := h.un;have ht : q.goal.Q.ts.length ≤ 7 := by rw [zF4]; exact (zF5 h).2.2
 have hm := Nat.mul_le_mul_right (1000000 + 40000 + 1) ht;have := vZ0 q.goal.Q (vlQ q x) 1000000 40000 (zB0 (zBZ hkg h.goal) (by decide)) hv (zIC h hn hx) (by omega) (by omega) (by omega);rw [zGM h.va.2.2] at this;exact this
end
noncomputable def uCF (q : QryL) (x : List Rat) : PV := if dB (vDT q.r (x.map cr)) = true then .tup [vAZ (cr (vBX q x)), .bool true] else .tup [vAZ ⟨false, [], []⟩, .bool false]
theorem vH7 : FO 40 Tryz.f40 [.cell 4 35, .tmp 5] 35 := mkO Tryz.func40 Tryz.ntmps40 Tryz.results40
theorem vNE (q : QryL) (kg n : Nat) (x : List Rat) (h : smQ q kg) (hkg : kg ≤ 1000000) (hn : q.g.ins = (n : Int)) (hx : x.length = n) (hs : ∀ r ∈ x, sz 200 r) : Fn 40 [vA7 q, .imm (x.map vBF)] (.data (uCF q x)) := by
 obtain ⟨_, _, m2, m3, _⟩ := h.n;have c1 := uJF h (x := x) (by omega) hs;have c2 := uCC h hn hx hs;have c3 := uGA h hkg hn hx hs;unfold uCF;by_cases hc : vDT q.r (x.map cr)
 ·rw [dB_true.2 hc] at c1 ⊢
  rw [if_pos rfl];refine zAN vA6 hT vH7 (by simp [vA7]) ?_;refine sts ?_;refine zAA c1 rfl ?_;refine sts ?_;refine zAA c2 rfl ?_;refine sts ?_;refine zAA c3 rfl ?_;refine sts ?_;exact zAB rfl rfl
 ·rw [dB_false.2 hc] at c1 ⊢
  rw [if_neg (by decide)];refine zAN vA6 hT vH7 (by simp [vA7]) ?_;refine sts ?_;refine zAA c1 rfl ?_;refine sts ?_;exact zAB rfl rfl
theorem zI8 : FO 42 Tryz.f42 [.cell 4 35, .tmp 5] 49 := mkO Tryz.func42 Tryz.ntmps42 Tryz.results42
theorem vU9 (q : QryL) (kg n : Nat) (x : List Rat) (h : smQ q kg) (hkg : kg ≤ 1000000) (hn : q.g.ins = (n : Int)) (hx : x.length = n) (hs : ∀ r ∈ x, sz 200 r) : Fn 42 [vA7 q, .imm (x.map vBF)] (.data (uCF q x)) := by
 obtain ⟨_, _, m2, m3, _⟩ := h.n;have c0 := vI8 q (h.okQ hkg);rw [dB_true.2 h.va] at c0;have c1 := uF9 h (x := x) (by omega) hs;have c2 := vQE h hn hx hs;have c3 := vQF h hkg hn hx hs;unfold uCF;by_cases hc : vDT q.r (x.map cr)
 ·rw [dB_true.2 hc] at c1 ⊢
  rw [if_pos rfl];refine zAN vA6 hT zI8 (by simp [vA7]) ?_;refine sts ?_;refine zAA c0 rfl ?_
  (repeat' (first|refine stp ?_|with_reducible(refine brr ?_ ?_<;>intro h)));all_goals try(conv=>whnf)
  all_goals try (exfalso; (try simp only [List.length_map] at *); omega)
  refine zAA c1 rfl ?_;refine sts ?_;refine zAA c2 rfl ?_;refine sts ?_;refine zAA c3 rfl ?_;refine sts ?_;exact zAB rfl rfl
 ·rw [dB_false.2 hc] at c1 ⊢
  rw [if_neg (by decide)];refine zAN vA6 hT zI8 (by simp [vA7]) ?_;refine sts ?_;refine zAA c0 rfl ?_
  (repeat' (first|refine stp ?_|with_reducible(refine brr ?_ ?_<;>intro h)));all_goals try(conv=>whnf)
  all_goals try (exfalso; (try simp only [List.length_map] at *); omega)
  refine zAA c1 rfl ?_;refine sts ?_;exact zAB rfl rfl
def vEE (q : QryL) (x : List Rat) : Prop := (x.length : Int) = q.g.ins ∧ vDT q.r (x.map cr) ∧ vBX q x < 0
theorem zLS : FO 14 Tryz.f14 [.tmp 4] 30 := mkO Tryz.func14 Tryz.ntmps14 Tryz.results14
theorem zE1 (q : QryL) (kg : Nat) (x : List Rat) (h : smQ q kg) (hkg : kg ≤ 1000000) (hxl : x.length ≤ 1048576) (hs : ∀ r ∈ x, sz 200 r) : Fn 14 [vA7 q, .imm (x.map vBF)] (.data (.bool (dB (vEE q x)))) := by
 obtain ⟨n, hn, m2, m3, _⟩ := h.n;have c0 := vI9 q (h.okQ hkg);rw [dB_true.2 h.va] at c0;by_cases hx : x.length = n
 ·have c1 := vNE q kg n x h hkg hn hx hs
  have hsz := (zAL (vEX h hkg hn hx hs)).1;have c2 := zDR (cr (vBX q x)) (zAI _) (by omega);rw [zAQ] at c2;unfold uCF at c1;by_cases hc : vDT q.r (x.map cr)
  ·rw [dB_true.2 hc, if_pos rfl] at c1
   have e : dB (vEE q x) = decide (vBS (vBX q x) < 0) := by
    rw [Bool.eq_iff_iff, dB_true, decide_eq_true_eq, sgnQ_neg];exact ⟨fun h => h.2.2, fun h => ⟨by omega, hc, h⟩⟩
   rw [e];generalize vBX q x = v at *
   refine zAN vA6 hT zLS (by simp [vA7]) ?_;refine sts ?_;refine zAA c0 rfl ?_
   (repeat' (first|refine stp ?_|with_reducible(refine brr ?_ ?_<;>intro h)));all_goals try(conv=>whnf)
   all_goals try (exfalso; (try simp only [List.length_map] at *); omega)
   refine zAA c1 rfl ?_;refine sts ?_;refine zAA c2 rfl ?_;refine sts ?_;exact zAB rfl rfl
  ·rw [dB_false.2 hc, if_neg (by decide)] at c1
   have e : dB (vEE q x) = false := dB_false.2 fun h => hc h.2.1
   rw [e];refine zAN vA6 hT zLS (by simp [vA7]) ?_;refine sts ?_;refine zAA c0 rfl ?_
   (repeat' (first|refine stp ?_|with_reducible(refine brr ?_ ?_<;>intro h)));all_goals try(conv=>whnf)
   all_goals try (exfalso; (try simp only [List.length_map] at *); omega)
   refine zAA c1 rfl ?_;refine sts ?_;exact zAB rfl rfl
 ·have e : dB (vEE q x) = false := dB_false.2 fun h => by have := h.1; omega
  rw [e];refine zAN vA6 hT zLS (by simp [vA7]) ?_;refine sts ?_;refine zAA c0 rfl ?_
  (repeat' (first|refine stp ?_|with_reducible(refine brr ?_ ?_<;>intro h)));all_goals try(conv=>whnf)
  all_goals first | exact zAB rfl rfl | (exfalso; (try simp only [List.length_map] at *); omega)
theorem zI9 : FO 15 Tryz.f15 [.tmp 4] 19 := mkO Tryz.func15 Tryz.ntmps15 Tryz.results15
theorem vVA (q : QryL) (kg : Nat) (x : List Rat) (h : smQ q kg) (hkg : kg ≤ 1000000) (hxl : x.length ≤ 1048576) (hs : ∀ r ∈ x, sz 200 r) : Fn 15 [vA7 q, .imm (x.map vBF)] (.data (.bool (dB (vEE q x)))) := by
 obtain ⟨n, hn, m2, m3, _⟩ := h.n;by_cases hx : x.length = n
 ·have c1 := vU9 q kg n x h hkg hn hx hs
  have hsz := (zAL (vEX h hkg hn hx hs)).1;have c2 := zG2 (cr (vBX q x)) (zAI _) (by omega);rw [zAQ] at c2;unfold uCF at c1;by_cases hc : vDT q.r (x.map cr)
  ·rw [dB_true.2 hc, if_pos rfl] at c1
   have e : dB (vEE q x) = decide (vBS (vBX q x) < 0) := by
    rw [Bool.eq_iff_iff, dB_true, decide_eq_true_eq, sgnQ_neg];exact ⟨fun h => h.2.2, fun h => ⟨by omega, hc, h⟩⟩
   rw [e];generalize vBX q x = v at *
   refine zAN vA6 hT zI9 (by simp [vA7]) ?_;refine sts ?_;refine zAA c1 rfl ?_;refine sts ?_;refine zAA c2 rfl ?_;refine sts ?_;exact zAB rfl rfl
  ·rw [dB_false.2 hc, if_neg (by decide)] at c1
   have e : dB (vEE q x) = false := dB_false.2 fun h => hc h.2.1
   rw [e];refine zAN vA6 hT zI9 (by simp [vA7]) ?_;refine sts ?_;refine zAA c1 rfl ?_;refine sts ?_;exact zAB rfl rfl
 ·have e : dB (vEE q x) = false := dB_false.2 fun h => by have := h.1; omega
  have c0 := vI8 q (h.okQ hkg);rw [dB_true.2 h.va] at c0
  have c1 : Fn 42 [vA7 q, .imm (x.map vBF)] (.data (.tup [vAZ ⟨false, [], []⟩, .bool false])) := by
   refine zAN vA6 hT zI8 (by simp [vA7]) ?_;refine sts ?_;refine zAA c0 rfl ?_
   (repeat' (first|refine stp ?_|with_reducible(refine brr ?_ ?_<;>intro h)));all_goals try(conv=>whnf)
   all_goals first | exact zAB rfl rfl | (exfalso; (try simp only [List.length_map] at *); omega)
  rw [e];refine zAN vA6 hT zI9 (by simp [vA7]) ?_;refine sts ?_;refine zAA c1 rfl ?_;refine sts ?_;exact zAB rfl rfl
open Go.Proofs Go.PI
def vEO (pre : List Rat) (i : Nat) : List Int := (List.range pre.length).map fun j => if j < i then (if pre[j]! < 0 then 2 else 1) else phase pre[j]!
theorem vMJ (pre : List Rat) (i : Nat) : (vEO pre i).length = pre.length := by simp [vEO]
theorem vRV (pre : List Rat) : ofL pre = vEO pre 0 := by
 refine List.ext_getElem (by simp [vEO, ofL, vF2]) fun j h1 h2 => ?_
 have : j < pre.length := by simpa [ofL, vF2] using h1
 simp [vEO, ofL, vF2, this]
theorem vXK {pre : List Rat} {i : Nat} (h : i < pre.length) : (vEO pre i)[i]! = phase pre[i]! := by
 rw [getElem!_pos _ i (by rw [vMJ]; exact h)]; simp [vEO]
theorem vXJ {pre : List Rat} {i : Nat} (h : i < pre.length) (h0 : phase pre[i]! = 0) : (vEO pre i).set i 1 = vEO pre (i + 1) := by
 have hz := phase_zero.1 h0;refine List.ext_getElem (by simp [vEO]) fun j h1 h2 => ?_
 by_cases e : j = i
 ·subst e
  rw [List.getElem_set_self];simp only [vEO, List.getElem_map, List.getElem_range];rw [if_pos (by omega), hz]; rfl
 ·simp only [vEO, List.getElem_set_ne (show i ≠ j by omega), List.getElem_map, List.getElem_range]
  by_cases e2 : j < i
  ·simp only [if_pos e2, if_pos (show j < i + 1 by omega)]
  ·simp only [if_neg e2, if_neg (show ¬ j < i + 1 by omega)]
theorem vRW {pre : List Rat} {i : Nat} (h0 : ¬ phase pre[i]! = 0) : vEO pre i = vEO pre (i + 1) := by
 refine List.ext_getElem (by simp [vEO]) fun j h1 h2 => ?_
 simp only [vEO, List.getElem_map, List.getElem_range];by_cases e : j = i
 ·subst e
  rw [if_neg (Nat.lt_irrefl _), if_pos (by omega)];unfold phase at h0 ⊢
  split <;> rename_i a
  ·rw [if_neg (by grind)]
  ·split <;> rename_i b
   ·rfl
   ·rw [if_neg a, if_neg b] at h0; exact absurd rfl h0
 ·by_cases e2 : j < i
  ·simp only [if_pos e2, if_pos (show j < i + 1 by omega)]
  ·simp only [if_neg e2, if_neg (show ¬ j < i + 1 by omega)]
theorem vXL {q : QryL} {x : List Rat} : vEO (vCA (usQ q) x) (vCA (usQ q) x).length = phO q x := by
 refine List.ext_getElem (by simp [vEO, phO]) fun j h1 h2 => ?_
 have : j < (vCA (usQ q) x).length := by simpa [vEO] using h1
 simp [vEO, phO, this]
theorem vRP (q : QryL) (n : Nat) (p : List Int) : uA5 (usQ q) n p = vCK q n p := by
 unfold uA5 vEN vCK;refine List.map_congr_left fun j hj => ?_
 rw [if_pos (List.mem_range.1 hj)]
theorem uGB {q : QryL} {kg : Nat} (h : smQ q kg) (x : List Rat) : vWN q.g (phO q x) := by
 refine ⟨h.va.1, by rw [zHI]; exact zCJ q, fun i hi => zHJ i (by rw [zHI] at hi; exact hi)⟩
theorem uF8 {q : QryL} {kg n : Nat} (h : smQ q kg) (hn : q.g.ins = (n : Int)) (p : List Int) : szG q.g p n 200 (vDN n) := fun j hj => by
 have hl : (usQ q).length = q.g.units.length := zCJ q;exact ⟨zGI (h.us hn) j (by omega), Nat.le_trans (zGX (h.us hn) (by omega)) (by decide)⟩
abbrev zF : PV := .agg [.nilsl, .bool false, .nilsl, .nilsl]
abbrev pcB (x : List Rat) (q : QryL) : List (Nat × Blk) := [(0, vCN x), (1, ⟨[vA7 q], 10, true⟩), (2, ⟨[zF], 4, true⟩)]
theorem uHW (q : QryL) (g : GraL) (x : List Rat) (k K : Nat) (t : Tm) (F : PV → St → Prop) (hg : vCE k g) (hk : k ≤ 950000000) (hk1 : 1 ≤ k) (hK1 : 1 ≤ K) (hv : VaG g) (hx : ∀ q ∈ x, sz 900000000 q) (hl : (x.length : Int) = g.ins) (hK : ∀ j, j < g.units.length → (∀ q ∈ vBC g.us x j, sz K q) ∧ sz K (vCA g.us x)[j]!) (hb : ∀ f ∈ g.units, k + f.terms.length * (k + K + 1) + k + K ≤ 949999990) (hKb : K ≤ 949999990)
 (hF : ∀ t nx, 7 ≤ nx → F (.tup [.own 6 0 (vCA g.us x).length, .int .i64 0]) ⟨t, Go.PI.hv (pcB x q ++ [(6, ⟨(ofL (vCA g.us x)).map (.int .i64), 1, false⟩)]), zv [], nx⟩) : FnH Tryz.prog G0 146 [vA8 g, .own 0 0 x.length] F ⟨t, Go.PI.hv (pcB x q), zv [], 6⟩ := by
 have cv := zIS g (zCV hk hg);rw [dB_true.2 hv] at cv;have cp := uFO g x k K hg hk hk1 hK1 hv hx hl hK hb;have hnu := hv.2.1;have lu := zHU g;have hpl := zCM g.us x;have hsz : ∀ j, j < (vCA g.us x).length → sz K (vCA g.us x)[j]! := fun j hj => (hK j (by omega)).2
 generalize vCA g.us x = pre at *
 refine uEL vA6 hT uHC (by simp [vA8]) ?_;refine sts ?_;refine zAA cv rfl ?_
 (repeat' (first|refine stp ?_|with_reducible(refine brr ?_ ?_<;>intro h)));all_goals try(conv=>whnf)
 ·exfalso; omega
 refine zB5 (r := 0) cp rfl rfl rfl rfl (zA7 (zAK _)) ?_;refine sts ?_
 all_goals try (exfalso; omega)
 refine zAG hT (fun (i : Nat) => [(8, .own 6 0 pre.length), (32, .imm (pre.map vBF)), (33, .int .i64 pre.length), (34, .int .i64 i)]) (fun i => pcB x q ++ [(6, ⟨(vF2 pre i).map (.int .i64), 1, false⟩)]) [] 7
  (fun i => i ≤ pre.length) (fun i => pre.length - i) 0 (Nat.zero_le _) (by decide) (by simp) ?_ ?_
 ·exact ⟨[_], [], [], [], ttt, ⟨zAF (by decide) rfl (by simp only [List.length_map]; omega), zAE rfl rfl, zAC rfl (by simp only [List.length_map]), zAC rfl rfl, trivial⟩, ⟨zAD (by decide) rfl rfl (zAK x) rfl, bbx, bbx, zAD (by decide) rfl (by rw [← vS8]; exact zG6 (f := PV.int .i64) (x := (0 : Int)) (by first | rfl | omega | simp)) (zHH _) rfl, trivial⟩, by simp [ren]⟩
 intro i i1;have hil := vYS pre i;by_cases hi : i < pre.length
 ·have hs := hsz i hi
  have l3 := zAL hs;have cs := zDR (cr pre[i]!) (zAI _) (by omega);rw [zAQ] at cs
  (repeat' (first|refine stp ?_|with_reducible(refine brr ?_ ?_<;>intro h)));all_goals try(conv=>whnf)
  all_goals try (exfalso; omega)
  refine zAA cs rfl ?_
  (repeat' (first|refine stp ?_|with_reducible(refine brr ?_ ?_<;>intro h)));all_goals try(conv=>whnf)
  ·refine zAU i (Nat.zero_add _) (by omega) ?_
   refine sts ?_;exact ⟨i + 1, ⟨by omega, by show pre.length - (i + 1) < pre.length - i; omega⟩, [_], [], [], [], ttt, ⟨zAF (by decide) rfl rfl, zAE rfl rfl, zAC rfl rfl, zAC rfl rfl, trivial⟩, ⟨zAD (by decide) rfl rfl (zAK x) rfl, bbx, bbx, zAD (by decide) rfl (by rw [← vMO hi, uC5 (by assumption)]; exact zBB (by omega) rfl) (zHH _) rfl, trivial⟩, by simp [ren]⟩
  ·refine zAU i (Nat.zero_add _) (by omega) ?_
   refine sts ?_;exact ⟨i + 1, ⟨by omega, by show pre.length - (i + 1) < pre.length - i; omega⟩, [_], [], [], [], ttt, ⟨zAF (by decide) rfl rfl, zAE rfl rfl, zAC rfl rfl, zAC rfl rfl, trivial⟩, ⟨zAD (by decide) rfl rfl (zAK x) rfl, bbx, bbx, zAD (by decide) rfl (by rw [← vMO hi, uC4 (by assumption)]; exact zBB (by omega) rfl) (zHH _) rfl, trivial⟩, by simp [ren]⟩
  ·exact ⟨i + 1, ⟨by omega, by show pre.length - (i + 1) < pre.length - i; omega⟩, [_], [], [], [], ttt, ⟨zAF (by decide) rfl rfl, zAE rfl rfl, zAC rfl rfl, zAC rfl rfl, trivial⟩, ⟨zAD (by decide) rfl rfl (zAK x) rfl, bbx, bbx, zAD (by decide) rfl (congrArg (List.map (PV.int .i64)) (vS9 hi (uC6 (by assumption) (by assumption)))) (zHH _) rfl, trivial⟩, by simp [ren]⟩
 ·have ei : i = pre.length := by omega
  subst ei
  (repeat' (first|refine stp ?_|with_reducible(refine brr ?_ ?_<;>intro h)));all_goals try(conv=>whnf)
  all_goals try (exfalso; omega)
  exact hF _ _ (by decide)
theorem vRY : FO 92 Tryz.f92 [.tmp 4, .cell 5 37] 78 := mkO Tryz.func92 Tryz.ntmps92 Tryz.results92
theorem vZU (q : QryL) (kg n : Nat) (x : List Rat) (h : smQ q kg) (hkg : kg ≤ 200) (hn : q.g.ins = (n : Int)) (hx : x.length = n) (hs : ∀ r ∈ x, sz 200 r) : Fn 92 [vA7 q, .own 0 0 x.length] (.wrt (vCN x) (.tup [.imm ((vCK q n (phO q x)).map vA5), vA5 (vCP q n x)]) (vCN x)) := by
 obtain ⟨n1, n2, n3, n4⟩ := h.nn hn;have hu := h.us hn;have hun := h.un;have hwv := zK5 h hn hx hs;have hul := zCJ q;have hpl := zCM (usQ q) x;have hfl := zBX (usQ q) n (phO q x) (usQ q).length;have c2 := vZ3 q.g (phO q x) n 200 (vDN n) (zCV (by decide) h.g) (by decide) (by decide) (uGB h x) (by rw [zHI]; omega) hn (uF8 h hn _);have c3 := vVT q.g (phO q x) n 200 (vDN n) (zCV (by decide) h.g) (by decide) (by decide) (uGB h x) (by rw [zHI]; omega) hn (uF8 h hn _);rw [show uA5 q.g.us n (phO q x) = vCK q n (phO q x) from vRP q n _] at c2;have hgoal := zCX h.va.2.2;rw [hn] at hgoal;have hF : szF 200 q.goal.Q := zB0 (zBZ hkg h.goal) (by decide)
 have hfo : okF (vBH q.g.us n (phO q x) q.g.us.length).length q.goal.Q := by
  rw [show vBH q.g.us n (phO q x) q.g.us.length = vBH (usQ q) n (phO q x) (usQ q).length from rfl, hfl, zCJ]; exact_mod_cast hgoal
 have hfr : vP5 n (vDN n) (vBH q.g.us n (phO q x) q.g.us.length) := zGI hu _ (Nat.le_refl _);have hS := zGX (n := n) hu (j := (usQ q).length) (Nat.le_refl _);rw [← hfl] at hS;have hft := Nat.le_trans (Nat.le_of_eq (zF4 q.goal)) (zF5 h).2.2
 have eT : q.goal.terms.map vBW = q.goal.Q.ts.map vDA := by
  conv => lhs; rw [← uI9 h.va.2.2]
  show (q.goal.Q.ts.map tQ).map vBW = _
  rw [List.map_map]; rfl
 have ec : q.goal.const = cr q.goal.Q.c := h.va.2.2.2;refine zCF vA6 hT vRY (by simp [vA7]) ?_;refine sus ?_
 refine vB7 [] [(1, .own 0 0 x.length), (2, .ptr 1 0 0), (5, .ptr 2 0 0)] [(0, vCN x), (1, ⟨[vA7 q], 10, true⟩), (2, ⟨[zF], 4, true⟩)] [] 3 (by decide) (by simp) trivial
  ⟨[1, 3], [], [], [], ttt, ⟨zAF (by decide) rfl rfl, apx, apx, trivial⟩, ⟨zAD (by decide) rfl rfl (zAK x) rfl, bbx, bbx, trivial⟩, by simp [ren]⟩ ?_
 refine sus ?_;refine zJO (uHW q q.g x 200 40000 _ _ (zCV (by decide) h.g) (by decide) (by decide) (by decide) h.va.1 (fun r hr => zBE (by decide) (hs r hr)) (by omega) (fun j hj => ⟨hwv.1 j (by omega), hwv.2 j (by omega)⟩) (uCD h) (by decide) ?_);intro t nx hnx;rw [show vCA q.g.us x = vCA (usQ q) x from rfl, vRV];have hall := vXL (q := q) (x := x);generalize vCA (usQ q) x = pre at *
 refine sus ?_
 (refine zAX ?_; refine sus ?_)
 (refine zAX ?_; refine sus ?_)
 refine zAG hT (fun (i : Nat) => [(2, .ptr 1 0 0), (5, .ptr 2 0 0), (6, .own 3 0 pre.length), (25, .int .i64 pre.length), (26, .int .i64 i)]) (fun i => [(0, vCN x), (1, ⟨[vA7 q], 10, true⟩), (2, ⟨[zF], 4, true⟩), (3, ⟨(vEO pre i).map (.int .i64), 1, false⟩)]) [] 4
  (fun i => i ≤ pre.length) (fun i => pre.length - i) 0 (Nat.zero_le _) (by decide) (by simp) ?_ ?_
 ·exact ⟨[1, 2, 6], [], [], [], ttt, ⟨apx, apx, zAF (by decide) rfl rfl, zAC rfl rfl, zAC rfl rfl, trivial⟩, ⟨zAD (by decide) rfl rfl (zAK x) rfl, bbx, bbx, zAD (by decide) rfl rfl (zHH _) rfl, trivial⟩, by simp [ren]⟩
 intro i i1;have hil := vMJ pre i;by_cases hi : i < pre.length
 ·have hgt := vXK hi
  (repeat' (first|refine stp ?_|with_reducible(refine brr ?_ ?_<;>intro h)));all_goals try(conv=>whnf)
  all_goals try (exfalso; omega)
  refine zAU i (Nat.zero_add _) (by omega) ?_;rw [hgt]
  (repeat' (first|refine stp ?_|with_reducible(refine brr ?_ ?_<;>intro h)));all_goals try(conv=>whnf)
  ·refine zAU i (Nat.zero_add _) (by omega) ?_
   refine sts ?_;exact ⟨i + 1, ⟨by omega, by show pre.length - (i + 1) < pre.length - i; omega⟩, [1, 2, 3], [], [], [], ttt, ⟨apx, apx, zAF (by decide) rfl rfl, zAC rfl rfl, zAC rfl rfl, trivial⟩, ⟨zAD (by decide) rfl rfl (zAK x) rfl, bbx, bbx, zAD (by decide) rfl (by rw [← vXJ hi (by assumption)]; exact zBB (by omega) rfl) (zHH _) rfl, trivial⟩, by simp [ren]⟩
  ·exact ⟨i + 1, ⟨by omega, by show pre.length - (i + 1) < pre.length - i; omega⟩, [1, 2, 3], [], [], [], ttt, ⟨apx, apx, zAF (by decide) rfl rfl, zAC rfl rfl, zAC rfl rfl, trivial⟩, ⟨zAD (by decide) rfl rfl (zAK x) rfl, bbx, bbx, zAD (by decide) rfl (congrArg (List.map (PV.int .i64)) (vRW (by assumption))) (zHH _) rfl, trivial⟩, by simp [ren]⟩
 have ei : i = pre.length := by omega
 rw [ei, hall];refine sus ?_;refine zAX ?_
 (repeat' (first|refine stu ?_|with_reducible(refine brr ?_ ?_<;>intro h)));all_goals try(conv=>whnf)
 all_goals try (exfalso; omega)
 have hphl : (phO q x).length = pre.length := by rw [zHI]; omega
 refine vB7 [] [(2, .ptr 1 0 0), (5, .ptr 2 0 0), (6, ints (phO q x))] [(0, vCN x), (1, ⟨[vA7 q], 10, true⟩), (2, ⟨[zF], 4, true⟩)] [] 3 (by decide) (by simp) trivial
  ⟨[1, 2], [3], [(6, ints (phO q x))], [], ⟨⟨⟨_, rfl⟩, trivial⟩, ⟨⟨6, _, zAH rfl rfl (by omega) fun _ => rfl, rfl⟩, trivial⟩, trivial⟩, ⟨apx, apx, zAE rfl rfl, trivial⟩, ⟨zAD (by decide) rfl rfl (zAK x) rfl, bbx, bbx, trivial⟩, by simp [ren]⟩ ?_
 refine sts ?_;refine zAA c2 rfl ?_;refine sts ?_;refine zAA c3 rfl ?_;refine sts ?_;have eW : vCP q n x = vBE q.goal.Q (vBH q.g.us n (phO q x) q.g.us.length) := rfl;rw [eW];rw [show vBH (usQ q) n (phO q x) (usQ q).length = vBH q.g.us n (phO q x) q.g.us.length from rfl] at *
 rw [eT, ec];generalize vBH q.g.us n (phO q x) q.g.us.length = vars at *
 generalize vCK q n (phO q x) = R at *
 generalize q.goal.Q = F at *
 refine zAG hT (fun (i : Nat) => [(5, .ptr 1 0 0), (9, .imm (R.map vA5)), (11, .imm (vars.map vA5)), (14, .ptr 2 0 0), (59, .imm (F.ts.map vDA)), (60, .int .i64 F.ts.length), (61, .int .i64 i)])
  (fun i => [(0, vCN x), (1, ⟨[zF], 4, true⟩), (2, ⟨[vA5 (vEJ F vars i)], 4, true⟩)]) [] 3
  (fun i => i ≤ F.ts.length) (fun i => F.ts.length - i) 0 (Nat.zero_le _) (by decide) (by simp) ?_ ?_
 ·exact ⟨[2, 27], [], [], [(27, [vA5 ⟨[], F.c⟩])], ⟨trivial, trivial, ⟨⟨_, 6, _, rfl, rfl, rfl⟩, trivial⟩⟩, ⟨apx, zAE rfl rfl, zAE rfl rfl, apx, zAE rfl rfl, zAC rfl (by simp), zAC rfl rfl, trivial⟩,
   ⟨zAD (by decide) rfl rfl (zAK x) rfl, bbx, bbx, trivial⟩, by simp [ren]⟩
 intro i i1;obtain ⟨a1, a2, a3⟩ := zMU hfr hF hfo i (by omega);by_cases hi : i < F.ts.length
 ·have hmem : F.ts[i]! ∈ F.ts := get_mem hi
  have hvi := hfo.2 _ hmem;have hvi2 : 0 ≤ (tQ F.ts[i]!).var ∧ (tQ F.ts[i]!).var < vars.length := hvi;have hj : F.ts[i]!.1.toNat < vars.length := by omega
  obtain ⟨v1, v2, v3⟩ := hfr _ hj;have hk1 : vDN n F.ts[i]!.1.toNat + 200 + 1 ≤ vC8 (fun v => vDN n v + 200 + 1) 0 vars.length := zLP (fun v => vDN n v + 200 + 1) hj;have cs := zIR vars[F.ts[i]!.1.toNat]! F.ts[i]!.2 (vDN n F.ts[i]!.1.toNat) 200 v2 (hF.2 _ hmem) (by omega) (by omega);have sm := zDJ (zDT 1 (by decide)) v2 (hF.2 _ hmem) (Nat.le_refl _);have sl : (vA3 zeroQ vars[F.ts[i]!.1.toNat]! F.ts[i]!.2).ts.length ≤ n := (vJS v1 F.ts[i]!.2).2;have ca := vVY (vEJ F vars i) (vA3 zeroQ vars[F.ts[i]!.1.toNat]! F.ts[i]!.2) _ _ a2 sm (by omega) (by omega) (by omega);rw [zHM a1.1 v1.1, ← zFM hi] at ca
  (repeat' (first|refine stp ?_|with_reducible(refine brr ?_ ?_<;>intro h)));all_goals try(conv=>whnf)
  all_goals try (exfalso; omega)
  refine zA4 (j := F.ts[i]!.1.toNat) (show F.ts[i]!.1 = _ by omega) hj ?_;refine sts ?_;refine zAA cs rfl ?_;refine sts ?_;refine zAA ca rfl ?_;refine sts ?_
  exact ⟨i + 1, ⟨by omega, by show F.ts.length - (i + 1) < F.ts.length - i; omega⟩, [1, 2], [], [], [], ttt, ⟨apx, zAE rfl rfl, zAE rfl rfl, apx, zAE rfl rfl, zAC rfl rfl, zAC rfl rfl, trivial⟩,
   ⟨zAD (by decide) rfl rfl (zAK x) rfl, bbx, bbx, trivial⟩, by simp [ren]⟩
 ·have e : i = F.ts.length := by omega
  (repeat' (first|refine stp ?_|with_reducible(refine brr ?_ ?_<;>intro h)));all_goals try(conv=>whnf)
  all_goals try (exfalso; omega)
  subst e;rw [zG5];exact zBU rfl rfl rfl rfl rfl (zIX x)
def vIY (y : List Rat) : PV := .imm (y.map vBF)
theorem uIP {q : QryL} {kg n : Nat} (h : smQ q kg) (hkg : kg ≤ 1000000) (hn : q.g.ins = (n : Int)) {l : List (List Rat)} (hl : ∀ y ∈ l, y.length = n ∧ ∀ r ∈ y, sz 200 r) : ∀ i, i ≤ l.length → sz 9000000 (vBY q l i).2.1 := fun i hi => by
 obtain ⟨h1, h2⟩ := zIT q l i hi;cases hb : (vBY q l i).2.2 with
 | true =>
   obtain ⟨a1, a2, a3, _⟩ := h1 hb;rw [a3];obtain ⟨g1, g2⟩ := hl l[(vBY q l i).1]! (get_mem (by omega));exact vEX h hkg hn g1 g2
 | false =>
   rw [(h2 hb).2.1];exact zBE (by decide) (⟨by decide, by decide⟩ : sz 1 (0 : Rat))
theorem uB1 {q : QryL} {l : List (List Rat)} {i : Nat} : vBY q l (i + 1) = if dB (vDT q.r (l[i]!.map cr)) = true ∧ ((vBY q l i).2.2 = false ∨ vBX q l[i]! < (vBY q l i).2.1) then (i, vBX q l[i]!, true) else vBY q l i := rfl
theorem vV5 {q : QryL} {l : List (List Rat)} : ∀ i, (vBY q l i).1 ≤ i
 | 0 => Nat.le_refl _
 | i + 1 => by
   have := vV5 (q := q) (l := l) i;rw [uB1]
   split
   ·show i ≤ i + 1; omega
   ·omega
theorem vOQ : FO 52 Tryz.f52 [.tmp 4, .tmp 5] 42 := mkO Tryz.func52 Tryz.ntmps52 Tryz.results52
theorem vJA (q : QryL) (kg n : Nat) (l : List (List Rat)) (h : smQ q kg) (hkg : kg ≤ 1000000) (hn : q.g.ins = (n : Int)) (hl : ∀ y ∈ l, y.length = n ∧ ∀ r ∈ y, sz 200 r) (hll : l.length ≤ 1000) : Fn 52 [vA7 q, .imm (l.map vIY)] (.data (.tup [.int .i64 (vBY q l l.length).1, .bool (vBY q l l.length).2.2])) := by
 refine zAN vA6 hT vOQ (by simp [vA7]) ?_;refine sts ?_
 refine zAG hT (fun (i : Nat) => [(2, .ptr 0 0 0), (6, .int .i64 (vBY q l i).1), (7, .bool (vBY q l i).2.2), (8, .ptr 1 0 0), (13, .imm (l.map vIY)), (14, .int .i64 l.length), (15, .int .i64 i)])
  (fun i => [(0, ⟨[vA7 q], 10, true⟩), (1, ⟨[vAZ (cr (vBY q l i).2.1)], 3, true⟩)]) [] 2
  (fun i => i ≤ l.length) (fun i => l.length - i) 0 (Nat.zero_le _) (by decide) (by simp) ?_ ?_
 ·exact ⟨[0, 5], [], [], [(5, [vAZ (cr 0)])], ⟨trivial, trivial, ⟨⟨_, 6, _, rfl, rfl, rfl⟩, trivial⟩⟩, ⟨apx, zAC rfl rfl, zBF rfl rfl, apx, zAE rfl rfl, zAC rfl (by simp), zAC rfl rfl, trivial⟩, ⟨bbx, bbx, trivial⟩, by simp [ren]⟩
 intro i i1;by_cases hi : i < l.length
 ·obtain ⟨y1, y2⟩ := hl l[i]! (get_mem hi)
  have c1 := vNE q kg n l[i]! h hkg hn y1 y2;have z1 := zAL (vEX h hkg hn y1 y2);have z2 := zAL (uIP h hkg hn hl i i1);have hlt := vV5 (q := q) (l := l) i;have eb := uB1 (q := q) (l := l) (i := i);have c2 := zHC (cr (vBX q l[i]!)) (cr (vBY q l i).2.1) (zAI _) (zAI _) (by omega) (by omega) (by omega) (by omega);rw [zAQ, zAQ] at c2;unfold uCF at c1;rcases hb : vBY q l i with ⟨I, L, F⟩
  rw [hb] at eb c2 z2 hlt;simp only [hb];have fin : ∀ {I' : Nat} {L' : Rat} {F' : Bool}, vBY q l (i + 1) = (I', L', F') → (vBY q l (i + 1)).1 = I' ∧ (vBY q l (i + 1)).2.1 = L' ∧ (vBY q l (i + 1)).2.2 = F' := fun e => by rw [e]; exact ⟨rfl, rfl, rfl⟩
  dsimp only at eb c2 z2 hlt;by_cases hc : vDT q.r (l[i]!.map cr)
  ·rw [dB_true.2 hc, if_pos rfl] at c1
   cases F with
   | false =>
     rw [if_pos ⟨dB_true.2 hc, Or.inl rfl⟩] at eb;obtain ⟨f1, f2, f3⟩ := fin eb;generalize vBX q l[i]! = v at *
     (repeat' (first|refine stp ?_|with_reducible(refine brr ?_ ?_<;>intro h)));all_goals try(conv=>whnf)
     all_goals try (exfalso; omega)
     refine zAA c1 rfl ?_;refine sts ?_;exact ⟨i + 1, ⟨by omega, by show l.length - (i + 1) < l.length - i; omega⟩, [0, 1], [], [], [], ttt, ⟨apx, zAC rfl (by omega), zBF rfl f3.symm, apx, zAE rfl rfl, zAC rfl rfl, zAC rfl rfl, trivial⟩, ⟨bbx, zD6 (by decide) rfl (by rw [f2] <;> rfl) rfl rfl rfl, trivial⟩, by simp [ren]⟩
   | true =>
     by_cases hlt2 : vBX q l[i]! < L
     ·rw [if_pos ⟨dB_true.2 hc, Or.inr hlt2⟩] at eb
      obtain ⟨f1, f2, f3⟩ := fin eb;have e2 : vBS (vBX q l[i]! - L) < 0 := sgnQ_neg.2 (by grind);generalize vBS (vBX q l[i]! - L) = C at *
      generalize vBX q l[i]! = v at *
      (repeat' (first|refine stp ?_|with_reducible(refine brr ?_ ?_<;>intro h)));all_goals try(conv=>whnf)
      all_goals try (exfalso; omega)
      refine zAA c1 rfl ?_;refine sts ?_;refine zAA c2 rfl ?_
      (repeat' (first|refine stp ?_|with_reducible(refine brr ?_ ?_<;>intro h)));all_goals try(conv=>whnf)
      all_goals try (exfalso; omega)
      exact ⟨i + 1, ⟨by omega, by show l.length - (i + 1) < l.length - i; omega⟩, [0, 1], [], [], [], ttt, ⟨apx, zAC rfl (by omega), zBF rfl f3.symm, apx, zAE rfl rfl, zAC rfl rfl, zAC rfl rfl, trivial⟩, ⟨bbx, zD6 (by decide) rfl (by rw [f2] <;> rfl) rfl rfl rfl, trivial⟩, by simp [ren]⟩
     ·rw [if_neg (by rintro ⟨_, h | h⟩; cases h; exact hlt2 h)] at eb
      obtain ⟨f1, f2, f3⟩ := fin eb;have e2 : ¬ vBS (vBX q l[i]! - L) < 0 := fun e => hlt2 (by have := sgnQ_neg.1 e; grind)
      generalize vBS (vBX q l[i]! - L) = C at *
      generalize vBX q l[i]! = v at *
      (repeat' (first|refine stp ?_|with_reducible(refine brr ?_ ?_<;>intro h)));all_goals try(conv=>whnf)
      all_goals try (exfalso; omega)
      refine zAA c1 rfl ?_;refine sts ?_;refine zAA c2 rfl ?_
      (repeat' (first|refine stp ?_|with_reducible(refine brr ?_ ?_<;>intro h)));all_goals try(conv=>whnf)
      all_goals try (exfalso; omega)
      exact ⟨i + 1, ⟨by omega, by show l.length - (i + 1) < l.length - i; omega⟩, [0, 1], [], [], [], ttt, ⟨apx, zAC rfl (by omega), zBF rfl f3.symm, apx, zAE rfl rfl, zAC rfl rfl, zAC rfl rfl, trivial⟩, ⟨bbx, zD6 (by decide) rfl (by rw [f2] <;> rfl) rfl rfl rfl, trivial⟩, by simp [ren]⟩
  ·rw [dB_false.2 hc, if_neg (by decide)] at c1
   rw [if_neg (by rintro ⟨h, _⟩; rw [dB_false.2 hc] at h; cases h)] at eb;obtain ⟨f1, f2, f3⟩ := fin eb
   (repeat' (first|refine stp ?_|with_reducible(refine brr ?_ ?_<;>intro h)));all_goals try(conv=>whnf)
   all_goals try (exfalso; omega)
   refine zAA c1 rfl ?_;refine sts ?_;exact ⟨i + 1, ⟨by omega, by show l.length - (i + 1) < l.length - i; omega⟩, [0, 1], [], [], [], ttt, ⟨apx, zAC rfl (by omega), zBF rfl f3.symm, apx, zAE rfl rfl, zAC rfl rfl, zAC rfl rfl, trivial⟩, ⟨bbx, zD6 (by decide) rfl (by rw [f2] <;> rfl) rfl rfl rfl, trivial⟩, by simp [ren]⟩
 ·have ei : i = l.length := by omega
  subst ei;have hlt := vV5 (q := q) (l := l) l.length
  (repeat' (first|refine stp ?_|with_reducible(refine brr ?_ ?_<;>intro h)));all_goals try(conv=>whnf)
  all_goals try (exfalso; omega)
  exact zAB rfl rfl
theorem vG9 {ρ : Nat → Nat} {k : Nat} {t : Tm} {j : Nat} {fn : Go.Fn} {a b c d : Nat} (ha : a < k) (hb : b < k) (hc : c < k) (hd : d < k) (h : t j = .func fn [] [.ptr (ρ a) 0 0, .ptr (ρ b) 0 0, .ptr (ρ c) 0 0, .ptr (ρ d) 0 0]) : at' ρ k t j (.func fn [] [.ptr a 0 0, .ptr b 0 0, .ptr c 0 0, .ptr d 0 0]) := by
 unfold at'; rw [h]; exact ⟨rfl, trivial, ⟨ha, rfl⟩, ⟨hb, rfl⟩, ⟨hc, rfl⟩, ⟨hd, rfl⟩, trivial⟩
def vKV (R : List QF) (x : List Rat) (i : Nat) (b : Rat × Rat) (j : Nat) : Rat × Rat := (R.take j).foldl (nar x i) b
theorem vII {R : List QF} {x : List Rat} {i : Nat} {b : Rat × Rat} {j : Nat} (h : j < R.length) : vKV R x i b (j + 1) = nar x i (vKV R x i b j) R[j]! := by
 unfold vKV;rw [List.take_succ_eq_append_getElem h, List.foldl_append, getElem!_pos R j h]; rfl
theorem vF8 {R : List QF} {x : List Rat} {i : Nat} {b : Rat × Rat} (hi : i < x.length) (hr : ∀ f ∈ R, szN f x 40001) (hb : sz 20000000 b.1 ∧ sz 20000000 b.2) (j : Nat) : sz 20000000 (vKV R x i b j).1 ∧ sz 20000000 (vKV R x i b j).2 :=
 vF7 hi _ _ (fun f hf => hr f (List.mem_of_mem_take hf)) hb
abbrev cdB (q : QryL) (x : List Rat) (i : Nat) (g : QF) (b : Rat × Rat) : List (Nat × Blk) := [(0, vCN x), (1, ⟨[vA7 q], 10, true⟩), (2, ⟨[.own 0 0 x.length], 1, false⟩), (3, ⟨[.int .i64 i], 1, false⟩), (4, ⟨[.agg [.bool false, .nilsl, .nilsl]], 3, true⟩), (5, ⟨[vAZ (cr b.1)], 3, true⟩), (6, ⟨[vAZ (cr b.2)], 3, true⟩), (7, ⟨[vA5 g], 4, true⟩)]
abbrev cdS : List (Nat × PV) := [(3, .ptr 1 0 0), (4, .ptr 2 0 0), (5, .ptr 3 0 0), (6, .ptr 4 0 0), (7, .ptr 5 0 0), (8, .ptr 6 0 0), (9, .func (.func 86) [] [.ptr 3 0 0, .ptr 2 0 0, .ptr 5 0 0, .ptr 6 0 0]), (11, .ptr 7 0 0)]
theorem vQD {x : List Rat} (i : Nat) : vCN x ≠ vC9 i := fun e => absurd (show (3 : Nat) = 1 from congrArg Blk.sz e) (by decide)
theorem vRZ : FO 44 Tryz.f44 [.cell 6 35] 77 := mkO Tryz.func44 Tryz.ntmps44 Tryz.results44
theorem vZV (q : QryL) (kg n : Nat) (x : List Rat) (i : Nat) (h : smQ q kg) (hkg : kg ≤ 200) (hn : q.g.ins = (n : Int)) (hin : inQ q x) (hv : vBX q x < 0) (hs : ∀ r ∈ x, sz 200 r) (hi : i < n) : Fn 44 [vA7 q, .own 0 0 x.length, .int .i64 i] (.wrt (vCN x) (vAZ (cr (vGW q n x i))) (vCN x)) := by
 have hx : x.length = n := by have := hin.1; omega
 obtain ⟨n1, n2, n3, n4⟩ := h.nn hn;have cp := vZU q kg n x h hkg hn hx hs;obtain ⟨_, _, _, b4, b5⟩ := h.bnd (i := i) (by omega);have hrw := vW8 h hn hx hs;have hb0 := uEC h (i := i) (by omega);obtain ⟨g1, g2, g3⟩ := zKR h hkg hn (phO q x);have hgn := vTX h hkg hn hx hs (phO q x);rw [show vCF q n (phO q x) = vCP q n x from rfl] at g1 g2 g3 hgn;have hR1 : ∀ f ∈ vCK q n (phO q x), szN f x 40001 := fun f hf => hrw f (List.mem_append_left _ hf)
 have hR2 : ∀ f ∈ q.r.rows.map AffL.Q, szN f x 40001 := fun f hf => hrw f (List.mem_append_right _ hf)
 have hl1 : (vCK q n (phO q x)).length ≤ 4 := by have := h.un; simp [vCK, zCJ]; omega
 have hl2 : (q.r.rows.map AffL.Q).length ≤ 8 := by have := h.rows; simpa using this
 have eR2 : q.r.rows.map vBD = (q.r.rows.map AffL.Q).map vA5 := by
  rw [List.map_map];refine List.map_congr_left fun a ha => ?_
  obtain ⟨j, hj, rfl⟩ := List.getElem_of_mem ha;have h1 := h.va.2.1.2.2.2.2.2 j hj;rw [getElem!_pos _ j hj] at h1;exact (zGM h1).symm
 have eC : vGW q n x i = vE9 (vCT (vCP q n x) x i (nar x i ((q.r.rows.map AffL.Q).foldl (nar x i) ((vCK q n (phO q x)).foldl (nar x i) (qv q.r.lo[i]!, qv q.r.hi[i]!))) (vA3 zeroQ (vCP q n x) (-1))).1) (vCT (vCP q n x) x i (nar x i ((q.r.rows.map AffL.Q).foldl (nar x i) ((vCK q n (phO q x)).foldl (nar x i) (qv q.r.lo[i]!, qv q.r.hi[i]!))) (vA3 zeroQ (vCP q n x) (-1))).2) := by
  unfold vGW uI7 vG3 vEL;rw [List.foldl_append]
 have hle := (vUE (i := i) (rows := vEL q n x) (g := vCP q n x) (by omega) (vFC h hn hx hin) (vMX h hn _) (by unfold vCP; rw [vGE h hn hx (zHJ (q := q) (x := x)) (vMB q x)]; exact hv) (hin.2.1 i (by omega)).1 (hin.2.1 i (by omega)).2);have hle := Rat.le_trans hle.c hle.d;unfold vG3 vEL at hle;rw [List.foldl_append] at hle;rw [eC];have ci := fun (e : Rat) (he : sz 20000000 e) => vZ9 (vCP q n x) x i e 40000 g2 (by rw [hx]; exact g1) (by omega) hs (by omega) (by decide) (by decide) (by omega) he
 have cs := zIR (vCP q n x) (-1) 40000 1 g2 (zF6 (z := -1) (by decide)) (by omega) (by omega);have co := vVL (-1) (by decide);rw [show (((-1 : Int)) : Rat) = -1 by rfl] at co;generalize vCP q n x = g at *
 generalize qv q.r.lo[i]! = lo at *
 generalize qv q.r.hi[i]! = hi' at *
 generalize q.r.rows.map AffL.Q = R2 at *
 generalize vCK q n (phO q x) = R at *
 refine zCF vA6 hT vRZ (by simp [vA7]) ?_;refine sus ?_
 (refine zAX ?_; refine sus ?_)
 all_goals try (exfalso; omega)
 refine vB7 [] [(3, .ptr 1 0 0), (4, .ptr 2 0 0), (5, .ptr 3 0 0), (6, .ptr 4 0 0), (7, .ptr 5 0 0), (8, .ptr 6 0 0)] [(0, vCN x), (1, ⟨[vA7 q], 10, true⟩), (2, ⟨[.own 0 0 x.length], 1, false⟩), (3, ⟨[.int .i64 i], 1, false⟩), (4, ⟨[.agg [.bool false, .nilsl, .nilsl]], 3, true⟩), (5, ⟨[vAZ (cr lo)], 3, true⟩), (6, ⟨[vAZ (cr hi')], 3, true⟩)] [] 7 (by decide) (by simp) trivial
  ⟨[1, 2, 3, 4, 17, 18], [], [], [], ttt, ⟨apx, apx, apx, apx, apx, apx, trivial⟩, ⟨zAD (by decide) rfl rfl (zAK x) rfl, bbx, zA8 (by decide) rfl ⟨by decide, rfl⟩ rfl rfl, bbx, bbx, zD6 (by decide) rfl (congrArg vAZ b4) rfl rfl rfl, zD6 (by decide) rfl (congrArg vAZ b5) rfl rfl rfl, trivial⟩, by simp [ren]⟩ ?_
 refine sus ?_
 (refine zAX ?_; refine sus ?_)
 refine zB5 (r := 0) cp rfl rfl rfl rfl (zA7 (zAK _)) ?_;refine sus ?_
 (refine zAX ?_; refine sus ?_)
 (refine zAX ?_; refine sus ?_)
 obtain ⟨b1, hb1⟩ : ∃ b1, b1 = (lo, hi') := ⟨_, rfl⟩
 refine zAG hT (fun (j : Nat) => cdS ++ [(10, .imm (R.map vA5)), (38, .imm (R.map vA5)), (39, .int .i64 R.length), (40, .int .i64 j)]) (fun j => cdB q x i g (vKV R x i (lo, hi') j)) [] 8
  (fun j => j ≤ R.length) (fun j => R.length - j) 0 (Nat.zero_le _) (by decide) (by simp) ?_ ?_
 ·exact ⟨[1, 2, 3, 4, 5, 6, 15], [], [], [], ttt, ⟨apx, apx, apx, apx, apx, apx, vG9 (by decide) (by decide) (by decide) (by decide) rfl, apx, zAE rfl rfl, zAE rfl rfl, zAC rfl (by simp), zAC rfl rfl, trivial⟩, ⟨zAD (by decide) rfl rfl (zAK x) rfl, bbx, zA8 (by decide) rfl ⟨by decide, rfl⟩ rfl rfl, bbx, bbx, bbx, bbx, bbx, trivial⟩, by simp [ren]⟩
 intro j j1;by_cases hj : j < R.length
 ·have cn := vGZ R[j]! x i (vKV R x i (lo, hi') j) 40001 (hR1 _ (get_mem hj)) (by decide) (by decide) (by omega) (vF8 (by omega) hR1 hb0 j).1 (vF8 (by omega) hR1 hb0 j).2
  rw [← vII hj] at cn
  (repeat' (first|refine stp ?_|with_reducible(refine brr ?_ ?_<;>intro h)));all_goals try(conv=>whnf)
  all_goals try (exfalso; omega)
  refine zGO (cs' := uHN x i (vKV R x i (lo, hi') (j + 1))) [0, 2, 5, 6, 3] cn rfl (by decide) ⟨⟨_, rfl, zG9 (zA7 (zAK x)), rfl, Or.inr vQD⟩, ⟨_, rfl, rfl, rfl, Or.inl (by decide)⟩, ⟨_, rfl, rfl, rfl, Or.inl (by decide)⟩, ⟨_, rfl, rfl, rfl, Or.inl (by decide)⟩, ⟨_, rfl, rfl, rfl, Or.inl (by decide)⟩, trivial⟩ ⟨zG9 (zA7 (zAK x)), rfl, rfl, rfl, rfl, trivial⟩ rfl ⟨zE3 (zA7 (zAK x)), zA9 (by show 0 < 5; decide), zA9 rfl, zA9 rfl, zA9 rfl, trivial⟩ ⟨zE3 (zA7 (zAK x)), zA9 (by show 0 < 5; decide), zA9 rfl, zA9 rfl, zA9 rfl, trivial⟩ ⟨rfl, (by decide : _ < _), (by decide : _ < _), (by decide : _ < _), (by decide : _ < _), trivial⟩ ?_;refine sts ?_;exact ⟨j + 1, ⟨by omega, by show R.length - (j + 1) < R.length - j; omega⟩, [1, 2, 3, 4, 5, 6, 7], [], [], [], ttt, ⟨apx, apx, apx, apx, apx, apx, vG9 (by decide) (by decide) (by decide) (by decide) rfl, apx, zAE rfl rfl, zAE rfl rfl, zAC rfl rfl, zAC rfl rfl, trivial⟩, ⟨zAD (by decide) rfl rfl (zAK x) rfl, bbx, zA8 (by decide) rfl ⟨by decide, rfl⟩ rfl rfl, bbx, bbx, bbx, bbx, bbx, trivial⟩, by simp [ren]⟩
 have ej : j = R.length := by omega
 rw [show vKV R x i (lo, hi') j = R.foldl (nar x i) (lo, hi') by unfold vKV; rw [ej, List.take_length]];have hz1 := vF7 (i := i) (by omega) R (lo, hi') hR1 hb0;generalize R.foldl (nar x i) (lo, hi') = b2 at *
 (repeat' (first|refine stp ?_|with_reducible(refine brr ?_ ?_<;>intro h)));all_goals try(conv=>whnf)
 all_goals try (exfalso; omega)
 refine zAG hT (fun (j : Nat) => cdS ++ [(50, .imm (R2.map vA5)), (51, .int .i64 R2.length), (52, .int .i64 j)]) (fun j => cdB q x i g (vKV R2 x i b2 j)) [] 8
  (fun j => j ≤ R2.length) (fun j => R2.length - j) 0 (Nat.zero_le _) (by decide) (by simp) ?_ ?_
 ·exact ⟨[1, 2, 3, 4, 5, 6, 7], [], [], [], ttt, ⟨apx, apx, apx, apx, apx, apx, vG9 (by decide) (by decide) (by decide) (by decide) rfl, apx, zAE rfl eR2, zAC rfl (by rw [eR2]; simp), zAC rfl rfl, trivial⟩, ⟨zAD (by decide) rfl rfl (zAK x) rfl, bbx, zA8 (by decide) rfl ⟨by decide, rfl⟩ rfl rfl, bbx, bbx, bbx, bbx, bbx, trivial⟩, by simp [ren]⟩
 intro m m1;by_cases hm : m < R2.length
 ·have cn := vGZ R2[m]! x i (vKV R2 x i b2 m) 40001 (hR2 _ (get_mem hm)) (by decide) (by decide) (by omega) (vF8 (by omega) hR2 hz1 m).1 (vF8 (by omega) hR2 hz1 m).2
  rw [← vII hm] at cn
  (repeat' (first|refine stp ?_|with_reducible(refine brr ?_ ?_<;>intro h)));all_goals try(conv=>whnf)
  all_goals try (exfalso; omega)
  refine zGO (cs' := uHN x i (vKV R2 x i b2 (m + 1))) [0, 2, 5, 6, 3] cn rfl (by decide) ⟨⟨_, rfl, zG9 (zA7 (zAK x)), rfl, Or.inr vQD⟩, ⟨_, rfl, rfl, rfl, Or.inl (by decide)⟩, ⟨_, rfl, rfl, rfl, Or.inl (by decide)⟩, ⟨_, rfl, rfl, rfl, Or.inl (by decide)⟩, ⟨_, rfl, rfl, rfl, Or.inl (by decide)⟩, trivial⟩ ⟨zG9 (zA7 (zAK x)), rfl, rfl, rfl, rfl, trivial⟩ rfl ⟨zE3 (zA7 (zAK x)), zA9 (by show 0 < 5; decide), zA9 rfl, zA9 rfl, zA9 rfl, trivial⟩ ⟨zE3 (zA7 (zAK x)), zA9 (by show 0 < 5; decide), zA9 rfl, zA9 rfl, zA9 rfl, trivial⟩ ⟨rfl, (by decide : _ < _), (by decide : _ < _), (by decide : _ < _), (by decide : _ < _), trivial⟩ ?_;refine sts ?_;exact ⟨m + 1, ⟨by omega, by show R2.length - (m + 1) < R2.length - m; omega⟩, [1, 2, 3, 4, 5, 6, 7], [], [], [], ttt, ⟨apx, apx, apx, apx, apx, apx, vG9 (by decide) (by decide) (by decide) (by decide) rfl, apx, zAE rfl rfl, zAC rfl rfl, zAC rfl rfl, trivial⟩, ⟨zAD (by decide) rfl rfl (zAK x) rfl, bbx, zA8 (by decide) rfl ⟨by decide, rfl⟩ rfl rfl, bbx, bbx, bbx, bbx, bbx, trivial⟩, by simp [ren]⟩
 have em : m = R2.length := by omega
 rw [show vKV R2 x i b2 m = R2.foldl (nar x i) b2 by unfold vKV; rw [em, List.take_length]];have hz2 := vF7 (i := i) (by omega) R2 b2 hR2 hz1;generalize R2.foldl (nar x i) b2 = b3 at *
 have cn := vGZ (vA3 zeroQ g (-1)) x i b3 40001 hgn (by decide) (by decide) (by omega) hz2.1 hz2.2;have hz3 := hgn.nar (i := i) (by decide) (by decide) (by omega) hz2;generalize vA3 zeroQ g (-1) = g' at *
 generalize nar x i b3 g' = b4' at *
 have cl := ci b4'.1 hz3.1;have ch := ci b4'.2 hz3.2;have zl := vTQ (g := g) (i := i) (by omega) hs hz3.1;have zh := vTQ (g := g) (i := i) (by omega) hs hz3.2;have cq := vLG _ _ 20000300 (by decide) (by decide) zl zh hle;generalize vCT g x i b4'.1 = e1 at *
 generalize vCT g x i b4'.2 = e2 at *
 generalize vE9 e1 e2 = e3 at *
 (repeat' (first|refine stp ?_|with_reducible(refine brr ?_ ?_<;>intro h)));all_goals try(conv=>whnf)
 all_goals try (exfalso; omega)
 refine zAA co rfl ?_;refine sts ?_;refine zAA cs rfl ?_;refine sts ?_;refine zGO (cs' := uHN x i b4') [0, 2, 5, 6, 3] cn rfl (by decide) ⟨⟨_, rfl, zG9 (zA7 (zAK x)), rfl, Or.inr vQD⟩, ⟨_, rfl, rfl, rfl, Or.inl (by decide)⟩, ⟨_, rfl, rfl, rfl, Or.inl (by decide)⟩, ⟨_, rfl, rfl, rfl, Or.inl (by decide)⟩, ⟨_, rfl, rfl, rfl, Or.inl (by decide)⟩, trivial⟩ ⟨zG9 (zA7 (zAK x)), rfl, rfl, rfl, rfl, trivial⟩ rfl ⟨zE3 (zA7 (zAK x)), zA9 (by show 0 < 5; decide), zA9 rfl, zA9 rfl, zA9 rfl, trivial⟩ ⟨zE3 (zA7 (zAK x)), zA9 (by show 0 < 5; decide), zA9 rfl, zA9 rfl, zA9 rfl, trivial⟩ ⟨rfl, (by decide : _ < _), (by decide : _ < _), (by decide : _ < _), (by decide : _ < _), trivial⟩ ?_;refine sts ?_;refine zGO (cs' := uI4 x i g) [0, 2, 7, 3] cl rfl (by decide) ⟨⟨_, rfl, zG9 (zA7 (zAK x)), rfl, Or.inr vQD⟩, ⟨_, rfl, rfl, rfl, Or.inl (by decide)⟩, ⟨_, rfl, rfl, rfl, Or.inl (by decide)⟩, ⟨_, rfl, rfl, rfl, Or.inl (by decide)⟩, trivial⟩ ⟨zG9 (zA7 (zAK x)), rfl, rfl, rfl, trivial⟩ rfl ⟨zE3 (zA7 (zAK x)), zA9 (by show 0 < 4; decide), zA9 rfl, zA9 rfl, trivial⟩ ⟨zE3 (zA7 (zAK x)), zA9 (by show 0 < 4; decide), zA9 rfl, zA9 rfl, trivial⟩ ⟨rfl, (by decide : _ < _), (by decide : _ < _), (by decide : _ < _), trivial⟩ ?_;refine sts ?_;refine zGO (cs' := uI4 x i g) [0, 2, 7, 3] ch rfl (by decide) ⟨⟨_, rfl, zG9 (zA7 (zAK x)), rfl, Or.inr vQD⟩, ⟨_, rfl, rfl, rfl, Or.inl (by decide)⟩, ⟨_, rfl, rfl, rfl, Or.inl (by decide)⟩, ⟨_, rfl, rfl, rfl, Or.inl (by decide)⟩, trivial⟩ ⟨zG9 (zA7 (zAK x)), rfl, rfl, rfl, trivial⟩ rfl ⟨zE3 (zA7 (zAK x)), zA9 (by show 0 < 4; decide), zA9 rfl, zA9 rfl, trivial⟩ ⟨zE3 (zA7 (zAK x)), zA9 (by show 0 < 4; decide), zA9 rfl, zA9 rfl, trivial⟩ ⟨rfl, (by decide : _ < _), (by decide : _ < _), (by decide : _ < _), trivial⟩ ?_;refine sts ?_;refine zAA cq rfl ?_;refine sts ?_;exact zBU rfl rfl rfl rfl rfl (zIX x)
end Go.PI.Tryz
