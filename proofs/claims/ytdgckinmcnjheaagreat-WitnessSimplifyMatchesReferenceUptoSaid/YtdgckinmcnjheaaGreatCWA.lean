/-
  The simplified coordinate of the program.
-/
import Derived.Test.YtdgckinmcnjheaaGreatCQA
import Derived.Test.YtdgckinmcnjheaaGreatCPE
import Derived.Test.YtdgckinmcnjheaaGreatCHA
import Derived.Test.YtdgckinmcnjheaaGreatCGB
set_option linter.unusedVariables false
set_option linter.unusedSimpArgs false
set_option linter.unnecessarySimpa false
namespace Go.PI.Tryz
open Go.Proofs Go.PI
theorem ok_qcopied : FO 142 Tryz.f142 [.cell 2 35] 12 := mkO Tryz.func142 Tryz.ntmps142 Tryz.results142
theorem c_qcopied (q : Rat) (k : Nat) (hq : sz k q) (hk : k ≤ 2147483596) : Fn 142 [encRat (cr q)] (.data (encRat (cr q))) := by
 have hl := zAJ hq;have ok := zAF q;have c1 := zH9 (cr q).num ok.1 (by omega);have c2 := zH9 (cr q).den ok.2 (by omega);have e1 : lims (nv (cr q).num) = (cr q).num := by show lims (nv (lims _)) = lims _; rw [zAP]
 have e2 : lims (nv (cr q).den) = (cr q).den := by
  unfold cr; dsimp only
  split
  ·rfl
  ·rw [zAP]
 rw [e1] at c1;rw [e2] at c2;refine zAM hmix hT ok_qcopied (by simp [encRat]) ?_;refine sts ?_;refine zAA c1 rfl ?_;refine sts ?_;refine zAA c2 rfl ?_;refine sts ?_;exact zAB rfl rfl
theorem ok_lcoef : FO 87 Tryz.f87 [.cell 4 35] 23 := mkO Tryz.func87 Tryz.ntmps87 Tryz.results87
theorem c_lcoef (f : QF) (v : Int) (k : Nat) (hf : szF k f) (hk : k ≤ 2147483596) (hs : f.ts.Pairwise (fun p q => p.1 < q.1)) (hl : f.ts.length ≤ 1048576) : Fn 87 [encF f, .int .i64 v] (.data (encRat (cr (cf f.ts v)))) := by
 refine zAM hmix hT ok_lcoef (by simp [encF]) ?_;refine sts ?_
 refine zAG hT (fun (i : Nat) => [(1, .int .i64 v), (4, .ptr 0 0 0), (8, .imm (f.ts.map encQ)), (9, .int .i64 f.ts.length), (10, .int .i64 i)])
  (fun _ => [(0, ⟨[.agg [.bool false, .nilsl, .nilsl]], 3, true⟩)]) [] 1
  (fun i => i ≤ f.ts.length ∧ ∀ j, j < i → f.ts[j]!.1 ≠ v) (fun i => f.ts.length - i) 0 ⟨Nat.zero_le _, fun j h => by omega⟩ (by decide) (by simp) ?_ ?_
 ·exact ⟨[_], [], [], [], ttt, ⟨zAC rfl rfl, (apy rfl), zAD rfl rfl, zAC rfl (by simp), zAC rfl rfl, trivial⟩, ⟨bbx, trivial⟩, by simp [ren]⟩
 intro i ⟨i1, i2⟩;by_cases hi : i < f.ts.length
 ·have hm := get_mem hi
  have cc := c_qcopied f.ts[i]!.2 k (hf.2 _ hm) hk;by_cases e : f.ts[i]!.1 = v
  ·rw [cf_at hs hm e]
   (repeat' (first|refine stp ?_|with_reducible(refine brr ?_ ?_<;>intro h)));all_goals try(conv=>whnf)
   all_goals try (exfalso; omega)
   all_goals try exact absurd e (by assumption)
   refine zAA cc rfl ?_;refine sts ?_;exact zAB rfl rfl
  ·(repeat' (first|refine stp ?_|with_reducible(refine brr ?_ ?_<;>intro h)));all_goals try(conv=>whnf)
   all_goals try (exfalso; omega)
   all_goals try exact absurd (by assumption) e
   exact ⟨i + 1, ⟨⟨by omega, fun j hj => zA2 (p := fun j => f.ts[j]!.1 ≠ v) i2 e hj⟩, by show f.ts.length - (i + 1) < f.ts.length - i; omega⟩, [0], [], [], [], ttt, ⟨zAC rfl rfl, apx, zAD rfl rfl, zAC rfl rfl, zAC rfl rfl, trivial⟩, ⟨bbx, trivial⟩, by simp [ren]⟩
 ·have e : cf f.ts v = 0 := zNB fun p hp => by
   obtain ⟨j, hj, rfl⟩ := List.getElem_of_mem hp;have := i2 j (by omega)
   rwa [getElem!_pos f.ts j hj] at this
  rw [e, zGB]
  (repeat' (first|refine stp ?_|with_reducible(refine brr ?_ ?_<;>intro h)));all_goals try(conv=>whnf)
  all_goals try (exfalso; omega)
  exact zAB rfl rfl
theorem ok_rlcoef : FO 102 Tryz.f102 [.cell 4 35] 28 := mkO Tryz.func102 Tryz.ntmps102 Tryz.results102
theorem c_rlcoef (f : QF) (v : Int) (k : Nat) (hf : szF k f) (hk : k ≤ 2147483596) (hs : f.ts.Pairwise (fun p q => p.1 < q.1)) (hl : f.ts.length ≤ 1048576) : Fn 102 [encF f, .int .i64 v] (.data (encRat (cr (cf f.ts v)))) := by
 refine zAM hmix hT ok_rlcoef (by simp [encF]) ?_;refine sts ?_
 refine zAG hT (fun (i : Nat) => [(1, .int .i64 v), (2, .ptr 1 0 0), (4, .ptr 0 0 0), (5, .int .i64 i)])
  (fun _ => [(0, ⟨[.agg [.bool false, .nilsl, .nilsl]], 3, true⟩), (1, ⟨[encF f], 4, true⟩)]) [] 2
  (fun i => i ≤ f.ts.length ∧ ∀ j, j < i → f.ts[j]!.1 ≠ v) (fun i => f.ts.length - i) 0 ⟨Nat.zero_le _, fun j h => by omega⟩ (by decide) (by simp) ?_ ?_
 ·exact ⟨[_, _], [], [], [], ttt, ⟨zAC rfl rfl, (apy rfl), (apy rfl), zAC rfl rfl, trivial⟩, ⟨bbx, bbx, trivial⟩, by simp [ren]⟩
 intro i ⟨i1, i2⟩;by_cases hi : i < f.ts.length
 ·have hm := get_mem hi
  by_cases e : f.ts[i]!.1 = v
  ·rw [cf_at hs hm e]
   (repeat' (first|refine stp ?_|with_reducible(refine brr ?_ ?_<;>intro h)));all_goals try(conv=>whnf)
   all_goals try (exfalso; omega)
   all_goals try exact absurd e (by assumption)
   exact zAB rfl rfl
  ·(repeat' (first|refine stp ?_|with_reducible(refine brr ?_ ?_<;>intro h)));all_goals try(conv=>whnf)
   all_goals try (exfalso; omega)
   all_goals try exact absurd (by assumption) e
   exact ⟨i + 1, ⟨⟨by omega, fun j hj => zA2 (p := fun j => f.ts[j]!.1 ≠ v) i2 e hj⟩, by show f.ts.length - (i + 1) < f.ts.length - i; omega⟩, [0, 1], [], [], [], ttt, ⟨zAC rfl rfl, apx, apx, zAC rfl rfl, trivial⟩, ⟨bbx, bbx, trivial⟩, by simp [ren]⟩
 ·have e : cf f.ts v = 0 := zNB fun p hp => by
   obtain ⟨j, hj, rfl⟩ := List.getElem_of_mem hp;have := i2 j (by omega)
   rwa [getElem!_pos f.ts j hj] at this
  rw [e, zGB]
  (repeat' (first|refine stp ?_|with_reducible(refine brr ?_ ?_<;>intro h)));all_goals try(conv=>whnf)
  all_goals try (exfalso; omega)
  exact zAB rfl rfl
end Go.PI.Tryz
namespace Go.PI.Tryz
open Go.Proofs Go.PI
abbrev narB (x : List Rat) (i : Nat) (b : Rat × Rat) : List Blk := [rowX x, ⟨[.own 0 0 x.length], 1, false⟩, ⟨[encRat (cr b.1)], 3, true⟩, ⟨[encRat (cr b.2)], 3, true⟩, ⟨[.int .i64 i], 1, false⟩]
theorem zMO : FO 86 Tryz.f86 [] 45 := mkO Tryz.func86 Tryz.ntmps86 Tryz.results86
theorem c_narrow (f : QF) (x : List Rat) (i : Nat) (b : Rat × Rat) (k : Nat) (h : szN f x k) (hk : k ≤ 2000000) (hk1 : 1 ≤ k) (hi : i < x.length) (hb1 : sz 20000000 b.1) (hb2 : sz 20000000 b.2) :
 Fn 86 [encF f, .ptr 4 0 0, .ptr 1 0 0, .ptr 2 0 0, .ptr 3 0 0] (.frm (narB x i b) (.tup []) (narB x i (nar x i b f))) := by
 obtain ⟨lo, hi'⟩ := b;have hxl := h.xl;have hfl := h.len;have hev := h.ev;have hcs := cf_sz (v := (i : Int)) hk1 h.ok.1.1 h.ff.2;have l1 := zAJ hev;have l2 := zAJ hcs;have l3 := zAJ (h.xs _ (get_mem hi));have c1 := c_lcoef f i k h.ff (by omega) h.ok.1.1 (by omega);have c2 := zD1 (cr (cf f.ts i)) (zAF _) (by omega);rw [zAL] at c2;have c3 := zLS f x k 200 h.ff h.xs (fun p hp => h.ok.2 p hp) (by have := Nat.mul_le_mul_right (k + 200 + 1) hfl; omega) (by omega) (by omega);by_cases h0 : cf f.ts i = 0
 ·have e0 := sgnQ_zero.2 h0
  have en : nar x i (lo, hi') f = (lo, hi') := by unfold nar; rw [if_pos h0]
  rw [en];generalize sgnQ (cf f.ts i) = S at *
  refine zI2 hmix hT zMO (by simp [encF]) (m := 5) rfl ?_;refine sts ?_;refine zAA c1 rfl ?_;refine sts ?_;refine zAA c2 rfl ?_
  (repeat' (first|refine stp ?_|with_reducible(refine brr ?_ ?_<;>intro h)));all_goals try(conv=>whnf)
  all_goals try exact absurd e0 (by assumption)
  exact zMZ rfl rfl ⟨⟨_, rfl, rfl, rfl⟩, ⟨_, rfl, rfl, rfl⟩, ⟨_, rfl, rfl, rfl⟩, ⟨_, rfl, rfl, rfl⟩, ⟨_, rfl, rfl, rfl⟩, trivial⟩
 ·have e0 : ¬ sgnQ (cf f.ts i) = 0 := fun e => h0 (sgnQ_zero.1 e)
  obtain ⟨z1, z2⟩ := h.zer hk1 hi h0;have l4 := zAJ z1;have l5 := zAJ z2;have c4 := c_qdiv (cr (evQ f x)) (cr (cf f.ts i)) (zAF _) (zAF _) (by omega) (by omega) (by omega) (by omega) (by rw [zAL]; exact h0);rw [zAL, zAL] at c4;have c5 := c_qsub (cr x[i]!) (cr (evQ f x / cf f.ts i)) (zAF _) (zAF _) (by omega) (by omega) (by omega) (by omega);rw [zAL, zAL] at c5;have c6 := c_qmax (cr lo) (cr (zer x i f)) 20000000 (zB7 hb1) (zB7 (zA4 (by omega) z2)) (by decide);have c7 := c_qmin (cr hi') (cr (zer x i f)) 20000000 (zB7 hb2) (zB7 (zA4 (by omega) z2)) (by decide);rw [zAL, zAL] at c6 c7;have ez : x[i]! - evQ f x / cf f.ts i = zer x i f := rfl;rw [ez] at c5;by_cases hp : 0 < cf f.ts i
  ·have en : nar x i (lo, hi') f = (maxQ lo (zer x i f), hi') := by unfold nar; rw [if_neg h0, if_pos hp]
   rw [en];have e1 := sgnQ_pos.2 hp;generalize zer x i f = Z at *
   generalize evQ f x / cf f.ts i = D at *
   generalize evQ f x = V at *
   generalize sgnQ (cf f.ts i) = S at *
   generalize cf f.ts i = c at *
   refine zI2 hmix hT zMO (by simp [encF]) (m := 5) rfl ?_;refine sts ?_;refine zAA c1 rfl ?_;refine sts ?_;refine zAA c2 rfl ?_
   (repeat' (first|refine stp ?_|with_reducible(refine brr ?_ ?_<;>intro h)));all_goals try(conv=>whnf)
   all_goals try exact absurd (by assumption) e0
   refine zB5 (r := 0) c3 rfl rfl rfl rfl (zBA (zAN _)) ?_;refine sts ?_;refine zAA c4 rfl ?_;refine sts ?_;refine zA0 i (Nat.zero_add _) hi ?_;refine sts ?_;refine zAA c5 rfl ?_;refine sts ?_;refine zAA c2 rfl ?_
   (repeat' (first|refine stp ?_|with_reducible(refine brr ?_ ?_<;>intro h)));all_goals try(conv=>whnf)
   all_goals try (exfalso; omega)
   refine zAA c6 rfl ?_;refine sts ?_;exact zMZ rfl rfl ⟨⟨_, rfl, rfl, rfl⟩, ⟨_, rfl, rfl, rfl⟩, ⟨_, rfl, rfl, rfl⟩, ⟨_, rfl, rfl, rfl⟩, ⟨_, rfl, rfl, rfl⟩, trivial⟩
  ·have en : nar x i (lo, hi') f = (lo, minQ hi' (zer x i f)) := by unfold nar; rw [if_neg h0, if_neg hp]
   rw [en];have e1 : ¬ 0 < sgnQ (cf f.ts i) := fun e => hp (sgnQ_pos.1 e)
   generalize zer x i f = Z at *
   generalize evQ f x / cf f.ts i = D at *
   generalize evQ f x = V at *
   generalize sgnQ (cf f.ts i) = S at *
   generalize cf f.ts i = c at *
   refine zI2 hmix hT zMO (by simp [encF]) (m := 5) rfl ?_;refine sts ?_;refine zAA c1 rfl ?_;refine sts ?_;refine zAA c2 rfl ?_
   (repeat' (first|refine stp ?_|with_reducible(refine brr ?_ ?_<;>intro h)));all_goals try(conv=>whnf)
   all_goals try exact absurd (by assumption) e0
   refine zB5 (r := 0) c3 rfl rfl rfl rfl (zBA (zAN _)) ?_;refine sts ?_;refine zAA c4 rfl ?_;refine sts ?_;refine zA0 i (Nat.zero_add _) hi ?_;refine sts ?_;refine zAA c5 rfl ?_;refine sts ?_;refine zAA c2 rfl ?_
   (repeat' (first|refine stp ?_|with_reducible(refine brr ?_ ?_<;>intro h)));all_goals try(conv=>whnf)
   all_goals try (exfalso; omega)
   refine zAA c7 rfl ?_;refine sts ?_;exact zMZ rfl rfl ⟨⟨_, rfl, rfl, rfl⟩, ⟨_, rfl, rfl, rfl⟩, ⟨_, rfl, rfl, rfl⟩, ⟨_, rfl, rfl, rfl⟩, ⟨_, rfl, rfl, rfl⟩, trivial⟩
abbrev insB (x : List Rat) (i : Nat) (g : QF) : List Blk := [rowX x, ⟨[.own 0 0 x.length], 1, false⟩, ⟨[encF g], 4, true⟩, ⟨[.int .i64 i], 1, false⟩]
theorem ok_inside : FO 95 Tryz.f95 [.cell 5 35] 40 := mkO Tryz.func95 Tryz.ntmps95 Tryz.results95
theorem c_inside (g : QF) (x : List Rat) (i : Nat) (e : Rat) (k : Nat) (hg : szF k g) (hgo : okF x.length g) (hgl : g.ts.length ≤ 3) (hx : ∀ q ∈ x, sz 200 q) (hxl : x.length ≤ 3) (hk : k ≤ 20000000) (hk1 : 1 ≤ k) (hi : i < x.length) (he : sz 20000000 e) :
 Fn 95 [encRat (cr e), .ptr 1 0 0, .ptr 3 0 0, .ptr 2 0 0] (.frm (insB x i g) (encRat (cr (insW g x i e))) (insB x i g)) := by
 have hxs : ∀ q ∈ x.set i e, sz 20000000 q := set_sz (fun q hq => zA4 (by decide) (hx q hq)) he i;have hsl : (x.set i e).length = x.length := by simp
 have hm := Nat.mul_le_mul_right (k + 20000000 + 1) hgl;have c1 := zLS g (x.set i e) k 20000000 hg hxs (fun p hp => by rw [hsl]; exact hgo.2 p hp) (by omega) (by omega) (by omega);rw [hsl] at c1;have hev := zM3 hg hxs (fun t ht => by rw [hsl]; exact hgo.2 t ht);have l1 := zAJ hev;have l2 := zAJ he;have l3 := zAJ (hx _ (get_mem hi));have c2 := zD1 (cr (evQ g (x.set i e))) (zAF _) (by omega);rw [zAL] at c2;have hsum := zBR he (hx _ (get_mem hi));have l4 := zAJ hsum;have l5 := zAJ zHX;have c3 := zG2 (cr e) (cr x[i]!) (zAF _) (zAF _) (by omega) (by omega) (by omega) (by omega);rw [zAL, zAL] at c3;have c4 := zGG (cr halfQ) (cr (e + x[i]!)) (zAF _) (zAF _) (by omega) (by omega) (by omega) (by omega);rw [zAL, zAL] at c4;have X_all : List.take x.length (x.map encX) = x.map encX := List.take_of_length_le (by simp);by_cases h0 : evQ g (x.set i e) = 0
 ·have e0 := sgnQ_zero.2 h0
  have en : insW g x i e = halfQ * (e + x[i]!) := by unfold insW; rw [if_pos h0]
  rw [en];generalize halfQ * (e + x[i]!) = H at *
  generalize sgnQ (evQ g (x.set i e)) = S at *
  generalize evQ g (x.set i e) = V at *
  refine zI2 hmix hT ok_inside (by simp [encRat]) (m := 4) rfl ?_;refine sus ?_
  (refine zA5 ?_; refine sus ?_)
  refine tellV [] [(1, .ptr 1 0 0), (2, .ptr 3 0 0), (3, .ptr 2 0 0), (4, .ptr 4 0 0), (5, .ptr 5 0 0), (6, .own 6 0 x.length)] [(0, rowX x), (1, ⟨[.own 0 0 x.length], 1, false⟩), (2, ⟨[encF g], 4, true⟩), (3, ⟨[.int .i64 i], 1, false⟩), (4, ⟨[encRat (cr e)], 3, true⟩), (5, ⟨[.agg [.bool false, .nilsl, .nilsl]], 3, true⟩), (6, rowX x)] [] 7 (by decide) (by simp) trivial
   ⟨[4, 5, 8], [], [], [], ttt, ⟨apx, apx, apx, apx, apx, zAH (by decide) rfl (by simp), trivial⟩, ⟨zAE (by decide) rfl rfl (zAN x) rfl, zA8 (by decide) rfl ⟨by decide, rfl⟩ rfl rfl, bbx, bbx, bbx, bbx, zAE (by decide) rfl X_all (zAN _) rfl, trivial⟩, by simp [ren]⟩ ?_
  refine sus ?_;refine zA0 i (Nat.zero_add _) hi ?_;refine sus ?_
  refine tellV [] [(1, .ptr 1 0 0), (2, .ptr 3 0 0), (3, .ptr 2 0 0), (4, .ptr 4 0 0), (5, .ptr 5 0 0), (6, .own 6 0 x.length)] [(0, rowX x), (1, ⟨[.own 0 0 x.length], 1, false⟩), (2, ⟨[encF g], 4, true⟩), (3, ⟨[.int .i64 i], 1, false⟩), (4, ⟨[encRat (cr e)], 3, true⟩), (5, ⟨[.agg [.bool false, .nilsl, .nilsl]], 3, true⟩), (6, rowX (x.set i e))] [] 7 (by decide) (by simp) trivial
   ⟨[4, 5, 6], [], [], [], ttt, ⟨apx, apx, apx, apx, apx, zAH (by decide) rfl rfl, trivial⟩, ⟨zAE (by decide) rfl rfl (zAN x) rfl, zA8 (by decide) rfl ⟨by decide, rfl⟩ rfl rfl, bbx, bbx, bbx, bbx, zAE (by decide) rfl (zBJ (Nat.zero_add _) rfl) (zAN _) rfl, trivial⟩, by simp [ren]⟩ ?_
  refine sus ?_;refine zB5 (r := 6) c1 rfl rfl rfl rfl (zBA (zAN _)) ?_;refine sus ?_
  (refine zA5 ?_; refine sus ?_)
  refine zAA c2 rfl ?_;refine sus ?_;refine zA5 ?_; (repeat' (first|refine stu ?_|with_reducible(refine brr ?_ ?_<;>intro h)));all_goals try(conv=>whnf)
  ·exact absurd e0 (by assumption)
  (refine zA5 ?_; refine sus ?_)
  refine zAA c_qhalf rfl ?_;refine sus ?_
  (refine zA5 ?_; refine sus ?_)
  refine zA0 i (Nat.zero_add _) hi ?_;refine sus ?_;refine zAA c3 rfl ?_;refine sus ?_;refine zAA c4 rfl ?_;refine sus ?_
  (refine zA5 ?_; refine sus ?_)
  exact zMZ rfl rfl ⟨⟨_, rfl, rfl, rfl⟩, ⟨_, rfl, rfl, rfl⟩, ⟨_, rfl, rfl, rfl⟩, ⟨_, rfl, rfl, rfl⟩, trivial⟩
 ·have e0 : ¬ sgnQ (evQ g (x.set i e)) = 0 := fun h => h0 (sgnQ_zero.1 h)
  have en : insW g x i e = e := by unfold insW; rw [if_neg h0]
  rw [en];generalize sgnQ (evQ g (x.set i e)) = S at *
  generalize evQ g (x.set i e) = V at *
  refine zI2 hmix hT ok_inside (by simp [encRat]) (m := 4) rfl ?_;refine sus ?_
  (refine zA5 ?_; refine sus ?_)
  refine tellV [] [(1, .ptr 1 0 0), (2, .ptr 3 0 0), (3, .ptr 2 0 0), (4, .ptr 4 0 0), (5, .ptr 5 0 0), (6, .own 6 0 x.length)] [(0, rowX x), (1, ⟨[.own 0 0 x.length], 1, false⟩), (2, ⟨[encF g], 4, true⟩), (3, ⟨[.int .i64 i], 1, false⟩), (4, ⟨[encRat (cr e)], 3, true⟩), (5, ⟨[.agg [.bool false, .nilsl, .nilsl]], 3, true⟩), (6, rowX x)] [] 7 (by decide) (by simp) trivial
   ⟨[4, 5, 8], [], [], [], ttt, ⟨apx, apx, apx, apx, apx, zAH (by decide) rfl (by simp), trivial⟩, ⟨zAE (by decide) rfl rfl (zAN x) rfl, zA8 (by decide) rfl ⟨by decide, rfl⟩ rfl rfl, bbx, bbx, bbx, bbx, zAE (by decide) rfl X_all (zAN _) rfl, trivial⟩, by simp [ren]⟩ ?_
  refine sus ?_;refine zA0 i (Nat.zero_add _) hi ?_;refine sus ?_
  refine tellV [] [(1, .ptr 1 0 0), (2, .ptr 3 0 0), (3, .ptr 2 0 0), (4, .ptr 4 0 0), (5, .ptr 5 0 0), (6, .own 6 0 x.length)] [(0, rowX x), (1, ⟨[.own 0 0 x.length], 1, false⟩), (2, ⟨[encF g], 4, true⟩), (3, ⟨[.int .i64 i], 1, false⟩), (4, ⟨[encRat (cr e)], 3, true⟩), (5, ⟨[.agg [.bool false, .nilsl, .nilsl]], 3, true⟩), (6, rowX (x.set i e))] [] 7 (by decide) (by simp) trivial
   ⟨[4, 5, 6], [], [], [], ttt, ⟨apx, apx, apx, apx, apx, zAH (by decide) rfl rfl, trivial⟩, ⟨zAE (by decide) rfl rfl (zAN x) rfl, zA8 (by decide) rfl ⟨by decide, rfl⟩ rfl rfl, bbx, bbx, bbx, bbx, zAE (by decide) rfl (zBJ (Nat.zero_add _) rfl) (zAN _) rfl, trivial⟩, by simp [ren]⟩ ?_
  refine sus ?_;refine zB5 (r := 6) c1 rfl rfl rfl rfl (zBA (zAN _)) ?_;refine sus ?_
  (refine zA5 ?_; refine sus ?_)
  refine zAA c2 rfl ?_;refine sus ?_;refine zA5 ?_; (repeat' (first|refine stu ?_|with_reducible(refine brr ?_ ?_<;>intro h)));all_goals try(conv=>whnf)
  rotate_left
  ·exact absurd (by assumption) e0
  (refine zA5 ?_; refine sus ?_)
  exact zMZ rfl rfl ⟨⟨_, rfl, rfl, rfl⟩, ⟨_, rfl, rfl, rfl⟩, ⟨_, rfl, rfl, rfl⟩, ⟨_, rfl, rfl, rfl⟩, trivial⟩
end Go.PI.Tryz
namespace Go.PI.Tryz
open Go.Proofs Go.PI
theorem ok_w15vars : FO 115 Tryz.f115 [.tmp 2] 12 := mkO Tryz.func115 Tryz.ntmps115 Tryz.results115
theorem c_w15vars (g : GraL) (hg : okGra 950000000 g) : Fn 115 [encGra g] (.data (.int .i64 (if dB (VaG g) = true then g.ins + g.units.length else 0))) := by
 have cv := zEX g hg;have l1 := hg.1.1;refine zAM hmix hT ok_w15vars (by simp [encGra]) ?_;refine sts ?_;refine zAA cv rfl ?_
 (repeat' (first|refine stp ?_|with_reducible(refine brr ?_ ?_<;>intro h)));all_goals try(conv=>whnf)
 ·have hv : VaG g := dB_true.1 (by assumption)
  have h1 := hv.1;refine sts ?_;exact zAB rfl (by rw [if_pos (dB_true.2 hv)]; simp)
 ·have hv : ¬ VaG g := dB_false.1 (by assumption)
  exact zAB rfl (by rw [if_neg (by rw [dB_false.2 hv]; decide)])
structure okQr (q : QryL) : Prop where
 g : okGra 950000000 q.g
 r : okReg 950000000 q.r
 goal : okA 950000000 q.goal
theorem ok_wrvalid : FO 54 Tryz.f54 [.tmp 2] 22 := mkO Tryz.func54 Tryz.ntmps54 Tryz.results54
theorem zNE (q : QryL) (hq : okQr q) : Fn 54 [encQry q] (.data (.bool (dB (VaQ q)))) := by
 have cv := zEX q.g hq.g;have cn := c_w15vars q.g hq.g;have cr' := c_sgvalid q.r q.g.ins hq.r;have cl := zNJ q.goal (q.g.ins + q.g.units.length) (zB0 (by omega) hq.goal);refine zAM hmix hT ok_wrvalid (by simp [encQry]) ?_;refine sts ?_;refine zAA cv rfl ?_
 (repeat' (first|refine stp ?_|with_reducible(refine brr ?_ ?_<;>intro h)));all_goals try(conv=>whnf)
 rotate_left
 ·have hv : ¬ VaG q.g := dB_false.1 (by assumption)
  exact zAB rfl (congrArg PV.bool (zI8 fun e => hv e.1))
 have hv : VaG q.g := dB_true.1 (by assumption);rw [if_pos (dB_true.2 hv)] at cn;refine zAA cr' rfl ?_
 (repeat' (first|refine stp ?_|with_reducible(refine brr ?_ ?_<;>intro h)));all_goals try(conv=>whnf)
 rotate_left
 ·have hw : ¬ VaR q.r q.g.ins := dB_false.1 (by assumption)
  exact zAB rfl (congrArg PV.bool (zI8 fun e => hw e.2.1))
 have hw : VaR q.r q.g.ins := dB_true.1 (by assumption);refine zAA cn rfl ?_;refine sts ?_;refine zAA cl rfl ?_;refine sts ?_;refine zAB rfl (congrArg PV.bool ?_);rw [Bool.eq_iff_iff, validB_true, dB_true];exact ⟨fun h => ⟨hv, hw, h⟩, fun h => h.2.2⟩
theorem ok_wpvalid : FO 39 Tryz.f39 [.tmp 2] 27 := mkO Tryz.func39 Tryz.ntmps39 Tryz.results39
theorem zJD (q : QryL) (hq : okQr q) : Fn 39 [encQry q] (.data (.bool (dB (VaQ q)))) := by
 have cv := zJJ q.g hq.g;have cr' := c_rgvalid q.r q.g.ins hq.r;have l1 := hq.g.1.1;have cl := zLR q.goal (q.g.ins + q.g.units.length) (zB0 (by omega) hq.goal);refine zAM hmix hT ok_wpvalid (by simp [encQry]) ?_;refine sts ?_;refine zAA cv rfl ?_
 (repeat' (first|refine stp ?_|with_reducible(refine brr ?_ ?_<;>intro h)));all_goals try(conv=>whnf)
 rotate_left
 ·have hv : ¬ VaG q.g := dB_false.1 (by assumption)
  exact zAB rfl (congrArg PV.bool (zI8 fun e => hv e.1))
 have hv : VaG q.g := dB_true.1 (by assumption);have h1 := hv.1;refine zAA cr' rfl ?_
 (repeat' (first|refine stp ?_|with_reducible(refine brr ?_ ?_<;>intro h)));all_goals try(conv=>whnf)
 rotate_left
 ·have hw : ¬ VaR q.r q.g.ins := dB_false.1 (by assumption)
  exact zAB rfl (congrArg PV.bool (zI8 fun e => hw e.2.1))
 have hw : VaR q.r q.g.ins := dB_true.1 (by assumption);rw [List.length_map];refine zAA cl rfl ?_;refine sts ?_;refine zAB rfl (congrArg PV.bool ?_);rw [Bool.eq_iff_iff, validB_true, dB_true];exact ⟨fun h => ⟨hv, hw, h⟩, fun h => h.2.2⟩
theorem ok_gvalues : FO 81 Tryz.f81 [.tmp 4, .tmp 5] 18 := mkO Tryz.func81 Tryz.ntmps81 Tryz.results81
theorem c_gvalues (g : GraL) (x : List RatL) (k K : Nat) (hg : okGra k g) (hk : k ≤ 950000000) (hk1 : 1 ≤ k) (hK1 : 1 ≤ K) (hv : VaG g) (hx : okLs 950000000 x) (hl : (x.length : Int) = g.ins) (hK : ∀ j, j < g.units.length → (∀ q ∈ valsN g.us (x.map qv) j, sz K q) ∧ sz K (preL g.us (x.map qv))[j]!) (hb : ∀ f ∈ g.units, k + f.terms.length * (k + K + 1) + k + K ≤ 949999990) : Fn 81 [encGra g, .imm (x.map encRat)] (.data (.tup [.imm ((valsN g.us (x.map qv) g.us.length).map encX), .int .i64 0])) := by
 have cc := c_grun g x k K hg hk hk1 hK1 hv hx hl hK hb;refine zAM hmix hT ok_gvalues (by simp [encGra]) ?_;refine sts ?_;refine zAA cc rfl ?_;refine sts ?_;exact zAB rfl rfl
theorem zH6 (x : List Rat) : (x.map cr).map encRat = x.map encX := by rw [List.map_map]; rfl
theorem zJB (x : List Rat) : (x.map cr).map qv = x := by
 rw [List.map_map]; conv => rhs; rw [← List.map_id x]
 exact List.map_congr_left fun q _ => by simp [zAL]
end Go.PI.Tryz
namespace Go.PI
open Go.Proofs Go.PI.Tryz
theorem smQ.okQ {q : QryL} {kg : Nat} (h : smQ q kg) (hkg : kg ≤ 1000000) : okQr q := ⟨zCF (by decide) h.g, zCE (by decide) h.r, zB0 (by omega) h.goal⟩
end Go.PI
namespace Go.PI.Tryz
open Go.Proofs Go.PI
section
variable {q : QryL} {kg n : Nat} {x : List Rat}
theorem zMF (hx : x.length ≤ 1048576) (hs : ∀ r ∈ x, sz 200 r) : okLs 200 (x.map cr) := ⟨by simpa using hx, fun y hy => by
 obtain ⟨r, hr, rfl⟩ := List.mem_map.1 hy
 exact zB7 (hs r hr)⟩
theorem w_fin (h : smQ q kg) : ∀ f ∈ q.g.units, 200 + f.terms.length * (200 + 40000 + 1) + 200 + 40000 ≤ 949999990 := fun f hf => by
 have := Nat.mul_le_mul_right (200 + 40000 + 1) ((zE8 h).1 f hf);omega
theorem w_gvals (h : smQ q kg) (hn : q.g.ins = (n : Int)) (hx : x.length = n) (hs : ∀ r ∈ x, sz 200 r) : Fn 81 [encGra q.g, .imm (x.map encX)] (.data (.tup [.imm ((vlQ q x).map encX), .int .i64 0])) := by
 obtain ⟨_, _, m2, m3, _⟩ := h.n;have hv := zKP h hn hx hs;have := c_gvalues q.g (x.map cr) 200 40000 (zCF (by decide) h.g) (by decide) (by decide) (by decide) h.va.1 (zH3 (by decide) (zMF (by omega) hs)) (by simp; omega) (by rw [zJB]; exact fun j hj => ⟨hv.1 j (by rw [zB6]; omega), hv.2 j (by rw [zB6]; exact hj)⟩) (w_fin h);rw [zH6, zJB] at this;exact this
theorem w_rvals (h : smQ q kg) (hn : q.g.ins = (n : Int)) (hx : x.length = n) (hs : ∀ r ∈ x, sz 200 r) : Fn 23 [encGra q.g, .imm (x.map encX)] (.data (.tup [.imm ((vlQ q x).map encX), .int .i64 0])) := by
 obtain ⟨_, _, m2, m3, _⟩ := h.n;have hv := zKP h hn hx hs;have := zOX q.g (x.map cr) 200 40000 (zCF (by decide) h.g) (by decide) (by decide) (by decide) (by decide) h.va.1 (zH3 (by decide) (zMF (by omega) hs)) (by simp; omega) (by rw [zJB]; exact fun j hj => ⟨hv.1 j (by rw [zB6]; omega), hv.2 j (by rw [zB6]; exact hj)⟩) (w_fin h);rw [zH6, zJB] at this;exact this
theorem w_rows (h : smQ q kg) : ∀ f ∈ q.r.rows, 200 + f.terms.length * (200 + 200 + 1) + 200 + 200 ≤ 949999990 := fun f hf => by
 have := Nat.mul_le_mul_right (200 + 200 + 1) ((zE8 h).2.1 f hf);omega
theorem w_con (h : smQ q kg) (hx : x.length ≤ 1048576) (hs : ∀ r ∈ x, sz 200 r) : Fn 80 [encReg q.r, .imm (x.map encX)] (.data (.bool (dB (conR q.r (x.map cr))))) := by
 have := c_rgcont q.r (x.map cr) 200 200 (zCE (by decide) h.r) (by decide) (by decide) (zMF hx hs) (w_rows h) (by decide) (by decide);rw [zH6] at this;exact this
theorem w_scon (h : smQ q kg) (hx : x.length ≤ 1048576) (hs : ∀ r ∈ x, sz 200 r) : Fn 31 [encReg q.r, .imm (x.map encX)] (.data (.bool (dB (conR q.r (x.map cr))))) := by
 have := c_sgcont q.r (x.map cr) 200 200 (zCE (by decide) h.r) (by decide) (by decide) (zMF hx hs) (w_rows h) (by decide) (by decide);rw [zH6] at this;exact this
theorem w_eval (h : smQ q kg) (hkg : kg ≤ 1000000) (hn : q.g.ins = (n : Int)) (hx : x.length = n) (hs : ∀ r ∈ x, sz 200 r) : Fn 82 [encAff q.goal, .imm ((vlQ q x).map encX)] (.data (.tup [encRat (cr (wval q x)), .int .i64 0])) := by
 obtain ⟨_, _, m2, m3, _⟩ := h.n;have hv := (zKP h hn hx hs).1 _ (Nat.le_refl _);have hl : (vlQ q x).length = n + q.g.units.length := by unfold vlQ; rw [zCI _ (Nat.le_refl _), hx, zB6]
 have hu := h.un;have ht : q.goal.Q.ts.length ≤ 7 := by rw [zE1]; exact (zE8 h).2.2
 have hm := Nat.mul_le_mul_right (1000000 + 40000 + 1) ht;have := c_leval q.goal.Q (vlQ q x) 1000000 40000 (zBT (zB0 hkg h.goal) (by decide)) hv (zIZ h hn hx) (by omega) (by omega) (by omega);rw [zE6 h.va.2.2] at this;exact this
theorem w_reval (h : smQ q kg) (hkg : kg ≤ 1000000) (hn : q.g.ins = (n : Int)) (hx : x.length = n) (hs : ∀ r ∈ x, sz 200 r) : Fn 24 [encAff q.goal, .imm ((vlQ q x).map encX)] (.data (.tup [encRat (cr (wval q x)), .int .i64 0])) := by
 obtain ⟨_, _, m2, m3, _⟩ := h.n;have hv := (zKP h hn hx hs).1 _ (Nat.le_refl _);have hl : (vlQ q x).length = n + q.g.units.length := by unfold vlQ; rw [zCI _ (Nat.le_refl _), hx, zB6]
 have hu := h.un;have ht : q.goal.Q.ts.length ≤ 7 := by rw [zE1]; exact (zE8 h).2.2
 have hm := Nat.mul_le_mul_right (1000000 + 40000 + 1) ht;have := c_rleval q.goal.Q (vlQ q x) 1000000 40000 (zBT (zB0 hkg h.goal) (by decide)) hv (zIZ h hn hx) (by omega) (by omega) (by omega);rw [zE6 h.va.2.2] at this;exact this
end
noncomputable def valV (q : QryL) (x : List Rat) : PV := if dB (conR q.r (x.map cr)) = true then .tup [encRat (cr (wval q x)), .bool true] else .tup [encRat ⟨false, [], []⟩, .bool false]
theorem ok_wvalue : FO 40 Tryz.f40 [.cell 4 35, .tmp 5] 35 := mkO Tryz.func40 Tryz.ntmps40 Tryz.results40
theorem c_wvalue (q : QryL) (kg n : Nat) (x : List Rat) (h : smQ q kg) (hkg : kg ≤ 1000000) (hn : q.g.ins = (n : Int)) (hx : x.length = n) (hs : ∀ r ∈ x, sz 200 r) : Fn 40 [encQry q, .imm (x.map encX)] (.data (valV q x)) := by
 obtain ⟨_, _, m2, m3, _⟩ := h.n;have c1 := w_con h (x := x) (by omega) hs;have c2 := w_gvals h hn hx hs;have c3 := w_eval h hkg hn hx hs;unfold valV;by_cases hc : conR q.r (x.map cr)
 ·rw [dB_true.2 hc] at c1 ⊢
  rw [if_pos rfl];refine zAM hmix hT ok_wvalue (by simp [encQry]) ?_;refine sts ?_;refine zAA c1 rfl ?_;refine sts ?_;refine zAA c2 rfl ?_;refine sts ?_;refine zAA c3 rfl ?_;refine sts ?_;exact zAB rfl rfl
 ·rw [dB_false.2 hc] at c1 ⊢
  rw [if_neg (by decide)];refine zAM hmix hT ok_wvalue (by simp [encQry]) ?_;refine sts ?_;refine zAA c1 rfl ?_;refine sts ?_;exact zAB rfl rfl
theorem zJ0 : FO 42 Tryz.f42 [.cell 4 35, .tmp 5] 49 := mkO Tryz.func42 Tryz.ntmps42 Tryz.results42
theorem c_wrvalue (q : QryL) (kg n : Nat) (x : List Rat) (h : smQ q kg) (hkg : kg ≤ 1000000) (hn : q.g.ins = (n : Int)) (hx : x.length = n) (hs : ∀ r ∈ x, sz 200 r) : Fn 42 [encQry q, .imm (x.map encX)] (.data (valV q x)) := by
 obtain ⟨_, _, m2, m3, _⟩ := h.n;have c0 := zNE q (h.okQ hkg);rw [dB_true.2 h.va] at c0;have c1 := w_scon h (x := x) (by omega) hs;have c2 := w_rvals h hn hx hs;have c3 := w_reval h hkg hn hx hs;unfold valV;by_cases hc : conR q.r (x.map cr)
 ·rw [dB_true.2 hc] at c1 ⊢
  rw [if_pos rfl];refine zAM hmix hT zJ0 (by simp [encQry]) ?_;refine sts ?_;refine zAA c0 rfl ?_
  (repeat' (first|refine stp ?_|with_reducible(refine brr ?_ ?_<;>intro h)));all_goals try(conv=>whnf)
  all_goals try (exfalso; (try simp only [List.length_map] at *); omega)
  refine zAA c1 rfl ?_;refine sts ?_;refine zAA c2 rfl ?_;refine sts ?_;refine zAA c3 rfl ?_;refine sts ?_;exact zAB rfl rfl
 ·rw [dB_false.2 hc] at c1 ⊢
  rw [if_neg (by decide)];refine zAM hmix hT zJ0 (by simp [encQry]) ?_;refine sts ?_;refine zAA c0 rfl ?_
  (repeat' (first|refine stp ?_|with_reducible(refine brr ?_ ?_<;>intro h)));all_goals try(conv=>whnf)
  all_goals try (exfalso; (try simp only [List.length_map] at *); omega)
  refine zAA c1 rfl ?_;refine sts ?_;exact zAB rfl rfl
def witP (q : QryL) (x : List Rat) : Prop := (x.length : Int) = q.g.ins ∧ conR q.r (x.map cr) ∧ wval q x < 0
theorem zIQ : FO 14 Tryz.f14 [.tmp 4] 30 := mkO Tryz.func14 Tryz.ntmps14 Tryz.results14
theorem zC4 (q : QryL) (kg : Nat) (x : List Rat) (h : smQ q kg) (hkg : kg ≤ 1000000) (hxl : x.length ≤ 1048576) (hs : ∀ r ∈ x, sz 200 r) : Fn 14 [encQry q, .imm (x.map encX)] (.data (.bool (dB (witP q x)))) := by
 obtain ⟨n, hn, m2, m3, _⟩ := h.n;have c0 := zJD q (h.okQ hkg);rw [dB_true.2 h.va] at c0;by_cases hx : x.length = n
 ·have c1 := c_wvalue q kg n x h hkg hn hx hs
  have hsz := (zAJ (zHV h hkg hn hx hs)).1;have c2 := zD1 (cr (wval q x)) (zAF _) (by omega);rw [zAL] at c2;unfold valV at c1;by_cases hc : conR q.r (x.map cr)
  ·rw [dB_true.2 hc, if_pos rfl] at c1
   have e : dB (witP q x) = decide (sgnQ (wval q x) < 0) := by
    rw [Bool.eq_iff_iff, dB_true, decide_eq_true_eq, sgnQ_neg];exact ⟨fun h => h.2.2, fun h => ⟨by omega, hc, h⟩⟩
   rw [e];generalize wval q x = v at *
   refine zAM hmix hT zIQ (by simp [encQry]) ?_;refine sts ?_;refine zAA c0 rfl ?_
   (repeat' (first|refine stp ?_|with_reducible(refine brr ?_ ?_<;>intro h)));all_goals try(conv=>whnf)
   all_goals try (exfalso; (try simp only [List.length_map] at *); omega)
   refine zAA c1 rfl ?_;refine sts ?_;refine zAA c2 rfl ?_;refine sts ?_;exact zAB rfl rfl
  ·rw [dB_false.2 hc, if_neg (by decide)] at c1
   have e : dB (witP q x) = false := dB_false.2 fun h => hc h.2.1
   rw [e];refine zAM hmix hT zIQ (by simp [encQry]) ?_;refine sts ?_;refine zAA c0 rfl ?_
   (repeat' (first|refine stp ?_|with_reducible(refine brr ?_ ?_<;>intro h)));all_goals try(conv=>whnf)
   all_goals try (exfalso; (try simp only [List.length_map] at *); omega)
   refine zAA c1 rfl ?_;refine sts ?_;exact zAB rfl rfl
 ·have e : dB (witP q x) = false := dB_false.2 fun h => by have := h.1; omega
  rw [e];refine zAM hmix hT zIQ (by simp [encQry]) ?_;refine sts ?_;refine zAA c0 rfl ?_
  (repeat' (first|refine stp ?_|with_reducible(refine brr ?_ ?_<;>intro h)));all_goals try(conv=>whnf)
  all_goals first | exact zAB rfl rfl | (exfalso; (try simp only [List.length_map] at *); omega)
theorem c_wcheckN (q : QryL) (xs : List PV) (hq : okQr q) (h : ¬ VaQ q) : Fn 14 [encQry q, .imm xs] (.data (.bool false)) := by
 have c0 := zJD q hq;rw [dB_false.2 h] at c0;refine zAM hmix hT zIQ (by simp [encQry]) ?_;refine sts ?_;refine zAA c0 rfl ?_;refine sts ?_;exact zAB rfl rfl
theorem zJ1 : FO 15 Tryz.f15 [.tmp 4] 19 := mkO Tryz.func15 Tryz.ntmps15 Tryz.results15
theorem zCK (q : QryL) (kg : Nat) (x : List Rat) (h : smQ q kg) (hkg : kg ≤ 1000000) (hxl : x.length ≤ 1048576) (hs : ∀ r ∈ x, sz 200 r) : Fn 15 [encQry q, .imm (x.map encX)] (.data (.bool (dB (witP q x)))) := by
 obtain ⟨n, hn, m2, m3, _⟩ := h.n;by_cases hx : x.length = n
 ·have c1 := c_wrvalue q kg n x h hkg hn hx hs
  have hsz := (zAJ (zHV h hkg hn hx hs)).1;have c2 := zDG (cr (wval q x)) (zAF _) (by omega);rw [zAL] at c2;unfold valV at c1;by_cases hc : conR q.r (x.map cr)
  ·rw [dB_true.2 hc, if_pos rfl] at c1
   have e : dB (witP q x) = decide (sgnQ (wval q x) < 0) := by
    rw [Bool.eq_iff_iff, dB_true, decide_eq_true_eq, sgnQ_neg];exact ⟨fun h => h.2.2, fun h => ⟨by omega, hc, h⟩⟩
   rw [e];generalize wval q x = v at *
   refine zAM hmix hT zJ1 (by simp [encQry]) ?_;refine sts ?_;refine zAA c1 rfl ?_;refine sts ?_;refine zAA c2 rfl ?_;refine sts ?_;exact zAB rfl rfl
  ·rw [dB_false.2 hc, if_neg (by decide)] at c1
   have e : dB (witP q x) = false := dB_false.2 fun h => hc h.2.1
   rw [e];refine zAM hmix hT zJ1 (by simp [encQry]) ?_;refine sts ?_;refine zAA c1 rfl ?_;refine sts ?_;exact zAB rfl rfl
 ·have e : dB (witP q x) = false := dB_false.2 fun h => by have := h.1; omega
  have c0 := zNE q (h.okQ hkg);rw [dB_true.2 h.va] at c0
  have c1 : Fn 42 [encQry q, .imm (x.map encX)] (.data (.tup [encRat ⟨false, [], []⟩, .bool false])) := by
   refine zAM hmix hT zJ0 (by simp [encQry]) ?_;refine sts ?_;refine zAA c0 rfl ?_
   (repeat' (first|refine stp ?_|with_reducible(refine brr ?_ ?_<;>intro h)));all_goals try(conv=>whnf)
   all_goals first | exact zAB rfl rfl | (exfalso; (try simp only [List.length_map] at *); omega)
  rw [e];refine zAM hmix hT zJ1 (by simp [encQry]) ?_;refine sts ?_;refine zAA c1 rfl ?_;refine sts ?_;exact zAB rfl rfl
end Go.PI.Tryz
namespace Go.PI.Tryz
open Go.Proofs Go.PI
def opnI (pre : List Rat) (i : Nat) : List Int := (List.range pre.length).map fun j => if j < i then (if pre[j]! < 0 then 2 else 1) else phase pre[j]!
theorem opnI_len (pre : List Rat) (i : Nat) : (opnI pre i).length = pre.length := by simp [opnI]
theorem opnI_zero (pre : List Rat) : ofL pre = opnI pre 0 := by
 refine List.ext_getElem (by simp [opnI, ofL, offI]) fun j h1 h2 => ?_
 have : j < pre.length := by simpa [ofL, offI] using h1
 simp [opnI, ofL, offI, this]
theorem opnI_get {pre : List Rat} {i : Nat} (h : i < pre.length) : (opnI pre i)[i]! = phase pre[i]! := by
 rw [getElem!_pos _ i (by rw [opnI_len]; exact h)]; simp [opnI]
theorem opnI_set {pre : List Rat} {i : Nat} (h : i < pre.length) (h0 : phase pre[i]! = 0) : (opnI pre i).set i 1 = opnI pre (i + 1) := by
 have hz := phase_zero.1 h0;refine List.ext_getElem (by simp [opnI]) fun j h1 h2 => ?_
 by_cases e : j = i
 ·subst e
  rw [List.getElem_set_self];simp only [opnI, List.getElem_map, List.getElem_range];rw [if_pos (by omega), hz]; rfl
 ·simp only [opnI, List.getElem_set_ne (show i ≠ j by omega), List.getElem_map, List.getElem_range]
  by_cases e2 : j < i
  ·simp only [if_pos e2, if_pos (show j < i + 1 by omega)]
  ·simp only [if_neg e2, if_neg (show ¬ j < i + 1 by omega)]
theorem opnI_keep {pre : List Rat} {i : Nat} (h0 : ¬ phase pre[i]! = 0) : opnI pre i = opnI pre (i + 1) := by
 refine List.ext_getElem (by simp [opnI]) fun j h1 h2 => ?_
 simp only [opnI, List.getElem_map, List.getElem_range];by_cases e : j = i
 ·subst e
  rw [if_neg (Nat.lt_irrefl _), if_pos (by omega)];unfold phase at h0 ⊢
  split <;> rename_i a
  ·rw [if_neg (by grind)]
  ·split <;> rename_i b
   ·rfl
   ·rw [if_neg a, if_neg b] at h0; exact absurd rfl h0
 ·by_cases e2 : j < i
  ·simp only [if_pos e2, if_pos (show j < i + 1 by omega)]
  ·simp only [if_neg e2, if_neg (show ¬ j < i + 1 by omega)]
theorem opnI_all {q : QryL} {x : List Rat} : opnI (preL (usQ q) x) (preL (usQ q) x).length = phO q x := by
 refine List.ext_getElem (by simp [opnI, phO]) fun j h1 h2 => ?_
 have : j < (preL (usQ q) x).length := by simpa [opnI] using h1
 simp [opnI, phO, this]
theorem pieL_rows (q : QryL) (n : Nat) (p : List Int) : pieL (usQ q) n p = rowsP q n p := by
 unfold pieL pieI rowsP;refine List.map_congr_left fun j hj => ?_
 rw [if_pos (List.mem_range.1 hj)]
theorem w_com {q : QryL} {kg : Nat} (h : smQ q kg) (x : List Rat) : comP q.g (phO q x) := by
 refine ⟨h.va.1, by rw [zF6]; exact zB6 q, fun i hi => zHZ i (by rw [zF6] at hi; exact hi)⟩
theorem w_szG {q : QryL} {kg n : Nat} (h : smQ q kg) (hn : q.g.ins = (n : Int)) (p : List Int) : szG q.g p n 200 (kapW n) := fun j hj => by
 have hl : (usQ q).length = q.g.units.length := zB6 q;exact ⟨zGU (h.us hn) j (by omega), Nat.le_trans (zHE (h.us hn) (by omega)) (by decide)⟩
abbrev zF : PV := .agg [.nilsl, .bool false, .nilsl, .nilsl]
abbrev pcB (x : List Rat) (q : QryL) : List (Nat × Blk) := [(0, rowX x), (1, ⟨[encQry q], 10, true⟩), (2, ⟨[zF], 4, true⟩)]
theorem h_pofI (q : QryL) (g : GraL) (x : List Rat) (k K : Nat) (t : Tm) (F : PV → St → Prop) (hg : okGra k g) (hk : k ≤ 950000000) (hk1 : 1 ≤ k) (hK1 : 1 ≤ K) (hv : VaG g) (hx : ∀ q ∈ x, sz 900000000 q) (hl : (x.length : Int) = g.ins) (hK : ∀ j, j < g.units.length → (∀ q ∈ valsN g.us x j, sz K q) ∧ sz K (preL g.us x)[j]!) (hb : ∀ f ∈ g.units, k + f.terms.length * (k + K + 1) + k + K ≤ 949999990) (hKb : K ≤ 949999990)
 (hF : ∀ t nx, 7 ≤ nx → F (.tup [.own 6 0 (preL g.us x).length, .int .i64 0]) ⟨t, Go.PI.hv (pcB x q ++ [(6, ⟨(ofL (preL g.us x)).map (.int .i64), 1, false⟩)]), zv [], nx⟩) : FnH Tryz.prog G0 146 [encGra g, .own 0 0 x.length] F ⟨t, Go.PI.hv (pcB x q), zv [], 6⟩ := by
 have cv := zJJ g (zCF hk hg);rw [dB_true.2 hv] at cv;have cp := c_gpreB g x k K hg hk hk1 hK1 hv hx hl hK hb;have hnu := hv.2.1;have lu := zGD g;have hpl := zB9 g.us x;have hsz : ∀ j, j < (preL g.us x).length → sz K (preL g.us x)[j]! := fun j hj => (hK j (by omega)).2
 generalize preL g.us x = pre at *
 refine fnH_v hmix hT ok_pof (by simp [encGra]) ?_;refine sts ?_;refine zAA cv rfl ?_
 (repeat' (first|refine stp ?_|with_reducible(refine brr ?_ ?_<;>intro h)));all_goals try(conv=>whnf)
 ·exfalso; omega
 refine zB5 (r := 0) cp rfl rfl rfl rfl (zBA (zAN _)) ?_;refine sts ?_
 all_goals try (exfalso; omega)
 refine zAG hT (fun (i : Nat) => [(8, .own 6 0 pre.length), (32, .imm (pre.map encX)), (33, .int .i64 pre.length), (34, .int .i64 i)]) (fun i => pcB x q ++ [(6, ⟨(offI pre i).map (.int .i64), 1, false⟩)]) [] 7
  (fun i => i ≤ pre.length) (fun i => pre.length - i) 0 (Nat.zero_le _) (by decide) (by simp) ?_ ?_
 ·exact ⟨[_], [], [], [], ttt, ⟨zAH (by decide) rfl (by simp only [List.length_map]; omega), zAD rfl rfl, zAC rfl (by simp only [List.length_map]), zAC rfl rfl, trivial⟩, ⟨zAE (by decide) rfl rfl (zAN x) rfl, bbx, bbx, zAE (by decide) rfl (by rw [← offI_zero]; exact zIJ (f := PV.int .i64) (x := (0 : Int)) (by first | rfl | omega | simp)) (zDH _) rfl, trivial⟩, by simp [ren]⟩
 intro i i1;have hil := zLE pre i;by_cases hi : i < pre.length
 ·have hs := hsz i hi
  have l3 := zAJ hs;have cs := zD1 (cr pre[i]!) (zAF _) (by omega);rw [zAL] at cs
  (repeat' (first|refine stp ?_|with_reducible(refine brr ?_ ?_<;>intro h)));all_goals try(conv=>whnf)
  all_goals try (exfalso; omega)
  refine zAA cs rfl ?_
  (repeat' (first|refine stp ?_|with_reducible(refine brr ?_ ?_<;>intro h)));all_goals try(conv=>whnf)
  ·refine zA0 i (Nat.zero_add _) (by omega) ?_
   refine sts ?_;exact ⟨i + 1, ⟨by omega, by show pre.length - (i + 1) < pre.length - i; omega⟩, [_], [], [], [], ttt, ⟨zAH (by decide) rfl rfl, zAD rfl rfl, zAC rfl rfl, zAC rfl rfl, trivial⟩, ⟨zAE (by decide) rfl rfl (zAN x) rfl, bbx, bbx, zAE (by decide) rfl (by rw [← zLD hi, phase_1 (by assumption)]; exact zBJ (by omega) rfl) (zDH _) rfl, trivial⟩, by simp [ren]⟩
  ·refine zA0 i (Nat.zero_add _) (by omega) ?_
   refine sts ?_;exact ⟨i + 1, ⟨by omega, by show pre.length - (i + 1) < pre.length - i; omega⟩, [_], [], [], [], ttt, ⟨zAH (by decide) rfl rfl, zAD rfl rfl, zAC rfl rfl, zAC rfl rfl, trivial⟩, ⟨zAE (by decide) rfl rfl (zAN x) rfl, bbx, bbx, zAE (by decide) rfl (by rw [← zLD hi, phase_2 (by assumption)]; exact zBJ (by omega) rfl) (zDH _) rfl, trivial⟩, by simp [ren]⟩
  ·exact ⟨i + 1, ⟨by omega, by show pre.length - (i + 1) < pre.length - i; omega⟩, [_], [], [], [], ttt, ⟨zAH (by decide) rfl rfl, zAD rfl rfl, zAC rfl rfl, zAC rfl rfl, trivial⟩, ⟨zAE (by decide) rfl rfl (zAN x) rfl, bbx, bbx, zAE (by decide) rfl (congrArg (List.map (PV.int .i64)) (offI_keep hi (phase_0 (by assumption) (by assumption)))) (zDH _) rfl, trivial⟩, by simp [ren]⟩
 ·have ei : i = pre.length := by omega
  subst ei
  (repeat' (first|refine stp ?_|with_reducible(refine brr ?_ ?_<;>intro h)));all_goals try(conv=>whnf)
  all_goals try (exfalso; omega)
  exact hF _ _ (by decide)
theorem ok_wpiece : FO 92 Tryz.f92 [.tmp 4, .cell 5 37] 78 := mkO Tryz.func92 Tryz.ntmps92 Tryz.results92
theorem c_wpiece (q : QryL) (kg n : Nat) (x : List Rat) (h : smQ q kg) (hkg : kg ≤ 200) (hn : q.g.ins = (n : Int)) (hx : x.length = n) (hs : ∀ r ∈ x, sz 200 r) : Fn 92 [encQry q, .own 0 0 x.length] (.wrt (rowX x) (.tup [.imm ((rowsP q n (phO q x)).map encF), encF (goalW q n x)]) (rowX x)) := by
 obtain ⟨n1, n2, n3, n4⟩ := h.nn hn;have hu := h.us hn;have hun := h.un;have hwv := zKP h hn hx hs;have hul := zB6 q;have hpl := zB9 (usQ q) x;have hfl := zBZ (usQ q) n (phO q x) (usQ q).length;have c2 := c_ppiece q.g (phO q x) n 200 (kapW n) (zCF (by decide) h.g) (by decide) (by decide) (w_com h x) (by rw [zF6]; omega) hn (w_szG h hn _);have c3 := c_pFormsX q.g (phO q x) n 200 (kapW n) (zCF (by decide) h.g) (by decide) (by decide) (w_com h x) (by rw [zF6]; omega) hn (w_szG h hn _);rw [show pieL q.g.us n (phO q x) = rowsP q n (phO q x) from pieL_rows q n _] at c2;have hgoal := zCC h.va.2.2;rw [hn] at hgoal;have hF : szF 200 q.goal.Q := zBT (zB0 hkg h.goal) (by decide)
 have hfo : okF (frmN q.g.us n (phO q x) q.g.us.length).length q.goal.Q := by
  rw [show frmN q.g.us n (phO q x) q.g.us.length = frmN (usQ q) n (phO q x) (usQ q).length from rfl, hfl, zB6]; exact_mod_cast hgoal
 have hfr : okVr n (kapW n) (frmN q.g.us n (phO q x) q.g.us.length) := zGU hu _ (Nat.le_refl _);have hS := zHE (n := n) hu (j := (usQ q).length) (Nat.le_refl _);rw [← hfl] at hS;have hft := Nat.le_trans (Nat.le_of_eq (zE1 q.goal)) (zE8 h).2.2
 have eT : q.goal.terms.map encTerm = q.goal.Q.ts.map encQ := by
  conv => lhs; rw [← canF h.va.2.2]
  show (q.goal.Q.ts.map tQ).map encTerm = _
  rw [List.map_map]; rfl
 have ec : q.goal.const = cr q.goal.Q.c := h.va.2.2.2;refine zCT hmix hT ok_wpiece (by simp [encQry]) ?_;refine sus ?_
 refine tellV [] [(1, .own 0 0 x.length), (2, .ptr 1 0 0), (5, .ptr 2 0 0)] [(0, rowX x), (1, ⟨[encQry q], 10, true⟩), (2, ⟨[zF], 4, true⟩)] [] 3 (by decide) (by simp) trivial
  ⟨[1, 3], [], [], [], ttt, ⟨zAH (by decide) rfl rfl, apx, apx, trivial⟩, ⟨zAE (by decide) rfl rfl (zAN x) rfl, bbx, bbx, trivial⟩, by simp [ren]⟩ ?_
 refine sus ?_;refine zKH (h_pofI q q.g x 200 40000 _ _ (zCF (by decide) h.g) (by decide) (by decide) (by decide) h.va.1 (fun r hr => zA4 (by decide) (hs r hr)) (by omega) (fun j hj => ⟨hwv.1 j (by omega), hwv.2 j (by omega)⟩) (w_fin h) (by decide) ?_);intro t nx hnx;rw [show preL q.g.us x = preL (usQ q) x from rfl, opnI_zero];have hall := opnI_all (q := q) (x := x);generalize preL (usQ q) x = pre at *
 refine sus ?_
 (refine zA5 ?_; refine sus ?_)
 (refine zA5 ?_; refine sus ?_)
 refine zAG hT (fun (i : Nat) => [(2, .ptr 1 0 0), (5, .ptr 2 0 0), (6, .own 3 0 pre.length), (25, .int .i64 pre.length), (26, .int .i64 i)]) (fun i => [(0, rowX x), (1, ⟨[encQry q], 10, true⟩), (2, ⟨[zF], 4, true⟩), (3, ⟨(opnI pre i).map (.int .i64), 1, false⟩)]) [] 4
  (fun i => i ≤ pre.length) (fun i => pre.length - i) 0 (Nat.zero_le _) (by decide) (by simp) ?_ ?_
 ·exact ⟨[1, 2, 6], [], [], [], ttt, ⟨apx, apx, zAH (by decide) rfl rfl, zAC rfl rfl, zAC rfl rfl, trivial⟩, ⟨zAE (by decide) rfl rfl (zAN x) rfl, bbx, bbx, zAE (by decide) rfl rfl (zDH _) rfl, trivial⟩, by simp [ren]⟩
 intro i i1;have hil := opnI_len pre i;by_cases hi : i < pre.length
 ·have hgt := opnI_get hi
  (repeat' (first|refine stp ?_|with_reducible(refine brr ?_ ?_<;>intro h)));all_goals try(conv=>whnf)
  all_goals try (exfalso; omega)
  refine zA0 i (Nat.zero_add _) (by omega) ?_;rw [hgt]
  (repeat' (first|refine stp ?_|with_reducible(refine brr ?_ ?_<;>intro h)));all_goals try(conv=>whnf)
  ·refine zA0 i (Nat.zero_add _) (by omega) ?_
   refine sts ?_;exact ⟨i + 1, ⟨by omega, by show pre.length - (i + 1) < pre.length - i; omega⟩, [1, 2, 3], [], [], [], ttt, ⟨apx, apx, zAH (by decide) rfl rfl, zAC rfl rfl, zAC rfl rfl, trivial⟩, ⟨zAE (by decide) rfl rfl (zAN x) rfl, bbx, bbx, zAE (by decide) rfl (by rw [← opnI_set hi (by assumption)]; exact zBJ (by omega) rfl) (zDH _) rfl, trivial⟩, by simp [ren]⟩
  ·exact ⟨i + 1, ⟨by omega, by show pre.length - (i + 1) < pre.length - i; omega⟩, [1, 2, 3], [], [], [], ttt, ⟨apx, apx, zAH (by decide) rfl rfl, zAC rfl rfl, zAC rfl rfl, trivial⟩, ⟨zAE (by decide) rfl rfl (zAN x) rfl, bbx, bbx, zAE (by decide) rfl (congrArg (List.map (PV.int .i64)) (opnI_keep (by assumption))) (zDH _) rfl, trivial⟩, by simp [ren]⟩
 have ei : i = pre.length := by omega
 rw [ei, hall];refine sus ?_;refine zA5 ?_
 (repeat' (first|refine stu ?_|with_reducible(refine brr ?_ ?_<;>intro h)));all_goals try(conv=>whnf)
 all_goals try (exfalso; omega)
 have hphl : (phO q x).length = pre.length := by rw [zF6]; omega
 refine tellV [] [(2, .ptr 1 0 0), (5, .ptr 2 0 0), (6, ints (phO q x))] [(0, rowX x), (1, ⟨[encQry q], 10, true⟩), (2, ⟨[zF], 4, true⟩)] [] 3 (by decide) (by simp) trivial
  ⟨[1, 2], [3], [(6, ints (phO q x))], [], ⟨⟨⟨_, rfl⟩, trivial⟩, ⟨⟨6, _, zAI rfl rfl (by omega) fun _ => rfl, rfl⟩, trivial⟩, trivial⟩, ⟨apx, apx, zAD rfl rfl, trivial⟩, ⟨zAE (by decide) rfl rfl (zAN x) rfl, bbx, bbx, trivial⟩, by simp [ren]⟩ ?_
 refine sts ?_;refine zAA c2 rfl ?_;refine sts ?_;refine zAA c3 rfl ?_;refine sts ?_;have eW : goalW q n x = applyQ q.goal.Q (frmN q.g.us n (phO q x) q.g.us.length) := rfl;rw [eW];rw [show frmN (usQ q) n (phO q x) (usQ q).length = frmN q.g.us n (phO q x) q.g.us.length from rfl] at *
 rw [eT, ec];generalize frmN q.g.us n (phO q x) q.g.us.length = vars at *
 generalize rowsP q n (phO q x) = R at *
 generalize q.goal.Q = F at *
 refine zAG hT (fun (i : Nat) => [(5, .ptr 1 0 0), (9, .imm (R.map encF)), (11, .imm (vars.map encF)), (14, .ptr 2 0 0), (59, .imm (F.ts.map encQ)), (60, .int .i64 F.ts.length), (61, .int .i64 i)])
  (fun i => [(0, rowX x), (1, ⟨[zF], 4, true⟩), (2, ⟨[encF (appN F vars i)], 4, true⟩)]) [] 3
  (fun i => i ≤ F.ts.length) (fun i => F.ts.length - i) 0 (Nat.zero_le _) (by decide) (by simp) ?_ ?_
 ·exact ⟨[2, 27], [], [], [(27, [encF ⟨[], F.c⟩])], ⟨trivial, trivial, ⟨⟨_, 6, _, rfl, rfl, rfl⟩, trivial⟩⟩, ⟨apx, zAD rfl rfl, zAD rfl rfl, apx, zAD rfl rfl, zAC rfl (by simp), zAC rfl rfl, trivial⟩,
   ⟨zAE (by decide) rfl rfl (zAN x) rfl, bbx, bbx, trivial⟩, by simp [ren]⟩
 intro i i1;obtain ⟨a1, a2, a3⟩ := zNO hfr hF hfo i (by omega);by_cases hi : i < F.ts.length
 ·have hmem : F.ts[i]! ∈ F.ts := get_mem hi
  have hvi := hfo.2 _ hmem;have hvi2 : 0 ≤ (tQ F.ts[i]!).var ∧ (tQ F.ts[i]!).var < vars.length := hvi;have hj : F.ts[i]!.1.toNat < vars.length := by omega
  obtain ⟨v1, v2, v3⟩ := hfr _ hj;have hk1 : kapW n F.ts[i]!.1.toNat + 200 + 1 ≤ sumF (fun v => kapW n v + 200 + 1) 0 vars.length := zMJ (fun v => kapW n v + 200 + 1) hj;have cs := zJI vars[F.ts[i]!.1.toNat]! F.ts[i]!.2 (kapW n F.ts[i]!.1.toNat) 200 v2 (hF.2 _ hmem) (by omega) (by omega);have sm := zFS (zEH 1 (by decide)) v2 (hF.2 _ hmem) (Nat.le_refl _);have sl : (mergeQ zeroQ vars[F.ts[i]!.1.toNat]! F.ts[i]!.2).ts.length ≤ n := (zero_ok v1 F.ts[i]!.2).2;have ca := c_ladd (appN F vars i) (mergeQ zeroQ vars[F.ts[i]!.1.toNat]! F.ts[i]!.2) _ _ a2 sm (by omega) (by omega) (by omega);rw [zH4 a1.1 v1.1, ← zF0 hi] at ca
  (repeat' (first|refine stp ?_|with_reducible(refine brr ?_ ?_<;>intro h)));all_goals try(conv=>whnf)
  all_goals try (exfalso; omega)
  refine zBB (j := F.ts[i]!.1.toNat) (show F.ts[i]!.1 = _ by omega) hj ?_;refine sts ?_;refine zAA cs rfl ?_;refine sts ?_;refine zAA ca rfl ?_;refine sts ?_
  exact ⟨i + 1, ⟨by omega, by show F.ts.length - (i + 1) < F.ts.length - i; omega⟩, [1, 2], [], [], [], ttt, ⟨apx, zAD rfl rfl, zAD rfl rfl, apx, zAD rfl rfl, zAC rfl rfl, zAC rfl rfl, trivial⟩,
   ⟨zAE (by decide) rfl rfl (zAN x) rfl, bbx, bbx, trivial⟩, by simp [ren]⟩
 ·have e : i = F.ts.length := by omega
  (repeat' (first|refine stp ?_|with_reducible(refine brr ?_ ?_<;>intro h)));all_goals try(conv=>whnf)
  all_goals try (exfalso; omega)
  subst e;rw [zHL];exact zCP rfl rfl rfl rfl rfl (zJO x)
end Go.PI.Tryz
namespace Go.PI.Tryz
open Go.Proofs Go.PI
def encPt (y : List Rat) : PV := .imm (y.map encX)
theorem bst_sz {q : QryL} {kg n : Nat} (h : smQ q kg) (hkg : kg ≤ 1000000) (hn : q.g.ins = (n : Int)) {l : List (List Rat)} (hl : ∀ y ∈ l, y.length = n ∧ ∀ r ∈ y, sz 200 r) : ∀ i, i ≤ l.length → sz 9000000 (bstN q l i).2.1 := fun i hi => by
 obtain ⟨h1, h2⟩ := zHJ q l i hi;cases hb : (bstN q l i).2.2 with
 | true =>
   obtain ⟨a1, a2, a3, _⟩ := h1 hb;rw [a3];obtain ⟨g1, g2⟩ := hl l[(bstN q l i).1]! (get_mem (by omega));exact zHV h hkg hn g1 g2
 | false =>
   rw [(h2 hb).2.1];exact zA4 (by decide) (⟨by decide, by decide⟩ : sz 1 (0 : Rat))
theorem bst_at {q : QryL} {l : List (List Rat)} {i : Nat} : bstN q l (i + 1) = if dB (conR q.r (l[i]!.map cr)) = true ∧ ((bstN q l i).2.2 = false ∨ wval q l[i]! < (bstN q l i).2.1) then (i, wval q l[i]!, true) else bstN q l i := rfl
theorem bst_lt {q : QryL} {l : List (List Rat)} : ∀ i, (bstN q l i).1 ≤ i
 | 0 => Nat.le_refl _
 | i + 1 => by
   have := bst_lt (q := q) (l := l) i;rw [bst_at]
   split
   ·show i ≤ i + 1; omega
   ·omega
theorem ok_wbetter : FO 52 Tryz.f52 [.tmp 4, .tmp 5] 42 := mkO Tryz.func52 Tryz.ntmps52 Tryz.results52
theorem c_wbetter (q : QryL) (kg n : Nat) (l : List (List Rat)) (h : smQ q kg) (hkg : kg ≤ 1000000) (hn : q.g.ins = (n : Int)) (hl : ∀ y ∈ l, y.length = n ∧ ∀ r ∈ y, sz 200 r) (hll : l.length ≤ 1000) : Fn 52 [encQry q, .imm (l.map encPt)] (.data (.tup [.int .i64 (bstN q l l.length).1, .bool (bstN q l l.length).2.2])) := by
 refine zAM hmix hT ok_wbetter (by simp [encQry]) ?_;refine sts ?_
 refine zAG hT (fun (i : Nat) => [(2, .ptr 0 0 0), (6, .int .i64 (bstN q l i).1), (7, .bool (bstN q l i).2.2), (8, .ptr 1 0 0), (13, .imm (l.map encPt)), (14, .int .i64 l.length), (15, .int .i64 i)])
  (fun i => [(0, ⟨[encQry q], 10, true⟩), (1, ⟨[encRat (cr (bstN q l i).2.1)], 3, true⟩)]) [] 2
  (fun i => i ≤ l.length) (fun i => l.length - i) 0 (Nat.zero_le _) (by decide) (by simp) ?_ ?_
 ·exact ⟨[0, 5], [], [], [(5, [encRat (cr 0)])], ⟨trivial, trivial, ⟨⟨_, 6, _, rfl, rfl, rfl⟩, trivial⟩⟩, ⟨apx, zAC rfl rfl, zBP rfl rfl, apx, zAD rfl rfl, zAC rfl (by simp), zAC rfl rfl, trivial⟩, ⟨bbx, bbx, trivial⟩, by simp [ren]⟩
 intro i i1;by_cases hi : i < l.length
 ·obtain ⟨y1, y2⟩ := hl l[i]! (get_mem hi)
  have c1 := c_wvalue q kg n l[i]! h hkg hn y1 y2;have z1 := zAJ (zHV h hkg hn y1 y2);have z2 := zAJ (bst_sz h hkg hn hl i i1);have hlt := bst_lt (q := q) (l := l) i;have eb := bst_at (q := q) (l := l) (i := i);have c2 := zHT (cr (wval q l[i]!)) (cr (bstN q l i).2.1) (zAF _) (zAF _) (by omega) (by omega) (by omega) (by omega);rw [zAL, zAL] at c2;unfold valV at c1;rcases hb : bstN q l i with ⟨I, L, F⟩
  rw [hb] at eb c2 z2 hlt;simp only [hb];have fin : ∀ {I' : Nat} {L' : Rat} {F' : Bool}, bstN q l (i + 1) = (I', L', F') → (bstN q l (i + 1)).1 = I' ∧ (bstN q l (i + 1)).2.1 = L' ∧ (bstN q l (i + 1)).2.2 = F' := fun e => by rw [e]; exact ⟨rfl, rfl, rfl⟩
  dsimp only at eb c2 z2 hlt;by_cases hc : conR q.r (l[i]!.map cr)
  ·rw [dB_true.2 hc, if_pos rfl] at c1
   cases F with
   | false =>
     rw [if_pos ⟨dB_true.2 hc, Or.inl rfl⟩] at eb;obtain ⟨f1, f2, f3⟩ := fin eb;generalize wval q l[i]! = v at *
     (repeat' (first|refine stp ?_|with_reducible(refine brr ?_ ?_<;>intro h)));all_goals try(conv=>whnf)
     all_goals try (exfalso; omega)
     refine zAA c1 rfl ?_;refine sts ?_;exact ⟨i + 1, ⟨by omega, by show l.length - (i + 1) < l.length - i; omega⟩, [0, 1], [], [], [], ttt, ⟨apx, zAC rfl (by omega), zBP rfl f3.symm, apx, zAD rfl rfl, zAC rfl rfl, zAC rfl rfl, trivial⟩, ⟨bbx, zBF (by decide) rfl (by rw [f2] <;> rfl) rfl rfl rfl, trivial⟩, by simp [ren]⟩
   | true =>
     by_cases hlt2 : wval q l[i]! < L
     ·rw [if_pos ⟨dB_true.2 hc, Or.inr hlt2⟩] at eb
      obtain ⟨f1, f2, f3⟩ := fin eb;have e2 : sgnQ (wval q l[i]! - L) < 0 := sgnQ_neg.2 (by grind);generalize sgnQ (wval q l[i]! - L) = C at *
      generalize wval q l[i]! = v at *
      (repeat' (first|refine stp ?_|with_reducible(refine brr ?_ ?_<;>intro h)));all_goals try(conv=>whnf)
      all_goals try (exfalso; omega)
      refine zAA c1 rfl ?_;refine sts ?_;refine zAA c2 rfl ?_
      (repeat' (first|refine stp ?_|with_reducible(refine brr ?_ ?_<;>intro h)));all_goals try(conv=>whnf)
      all_goals try (exfalso; omega)
      exact ⟨i + 1, ⟨by omega, by show l.length - (i + 1) < l.length - i; omega⟩, [0, 1], [], [], [], ttt, ⟨apx, zAC rfl (by omega), zBP rfl f3.symm, apx, zAD rfl rfl, zAC rfl rfl, zAC rfl rfl, trivial⟩, ⟨bbx, zBF (by decide) rfl (by rw [f2] <;> rfl) rfl rfl rfl, trivial⟩, by simp [ren]⟩
     ·rw [if_neg (by rintro ⟨_, h | h⟩; cases h; exact hlt2 h)] at eb
      obtain ⟨f1, f2, f3⟩ := fin eb;have e2 : ¬ sgnQ (wval q l[i]! - L) < 0 := fun e => hlt2 (by have := sgnQ_neg.1 e; grind)
      generalize sgnQ (wval q l[i]! - L) = C at *
      generalize wval q l[i]! = v at *
      (repeat' (first|refine stp ?_|with_reducible(refine brr ?_ ?_<;>intro h)));all_goals try(conv=>whnf)
      all_goals try (exfalso; omega)
      refine zAA c1 rfl ?_;refine sts ?_;refine zAA c2 rfl ?_
      (repeat' (first|refine stp ?_|with_reducible(refine brr ?_ ?_<;>intro h)));all_goals try(conv=>whnf)
      all_goals try (exfalso; omega)
      exact ⟨i + 1, ⟨by omega, by show l.length - (i + 1) < l.length - i; omega⟩, [0, 1], [], [], [], ttt, ⟨apx, zAC rfl (by omega), zBP rfl f3.symm, apx, zAD rfl rfl, zAC rfl rfl, zAC rfl rfl, trivial⟩, ⟨bbx, zBF (by decide) rfl (by rw [f2] <;> rfl) rfl rfl rfl, trivial⟩, by simp [ren]⟩
  ·rw [dB_false.2 hc, if_neg (by decide)] at c1
   rw [if_neg (by rintro ⟨h, _⟩; rw [dB_false.2 hc] at h; cases h)] at eb;obtain ⟨f1, f2, f3⟩ := fin eb
   (repeat' (first|refine stp ?_|with_reducible(refine brr ?_ ?_<;>intro h)));all_goals try(conv=>whnf)
   all_goals try (exfalso; omega)
   refine zAA c1 rfl ?_;refine sts ?_;exact ⟨i + 1, ⟨by omega, by show l.length - (i + 1) < l.length - i; omega⟩, [0, 1], [], [], [], ttt, ⟨apx, zAC rfl (by omega), zBP rfl f3.symm, apx, zAD rfl rfl, zAC rfl rfl, zAC rfl rfl, trivial⟩, ⟨bbx, zBF (by decide) rfl (by rw [f2] <;> rfl) rfl rfl rfl, trivial⟩, by simp [ren]⟩
 ·have ei : i = l.length := by omega
  subst ei;have hlt := bst_lt (q := q) (l := l) l.length
  (repeat' (first|refine stp ?_|with_reducible(refine brr ?_ ?_<;>intro h)));all_goals try(conv=>whnf)
  all_goals try (exfalso; omega)
  exact zAB rfl rfl
end Go.PI.Tryz
namespace Go.PI.Tryz
open Go.Proofs Go.PI
def bstO (q : QryL) (l : List (List Rat)) (b : Nat × Rat × Bool) : List PV := if b.2.2 = true then l[b.1]!.map encX else []
theorem ok_rbest : FO 55 Tryz.f55 [.tmp 4, .tmp 5] 45 := mkO Tryz.func55 Tryz.ntmps55 Tryz.results55
theorem c_rbest (q : QryL) (kg n : Nat) (l : List (List Rat)) (h : smQ q kg) (hkg : kg ≤ 1000000) (hn : q.g.ins = (n : Int)) (hl : ∀ y ∈ l, y.length = n ∧ ∀ r ∈ y, sz 200 r) (hll : l.length ≤ 1000) : Fn 55 [encQry q, .imm (l.map encPt)] (.data (.tup [.imm (bstO q l (bstN q l l.length)), .bool (bstN q l l.length).2.2])) := by
 refine zAM hmix hT ok_rbest (by simp [encQry]) ?_;refine sts ?_
 refine zAG hT (fun (i : Nat) => [(1, .imm (l.map encPt)), (2, .ptr 0 0 0), (6, .imm (bstO q l (bstN q l i))), (7, .ptr 1 0 0), (8, .bool (bstN q l i).2.2), (9, .int .i64 i)])
  (fun i => [(0, ⟨[encQry q], 10, true⟩), (1, ⟨[encRat (cr (bstN q l i).2.1)], 3, true⟩)]) [] 2
  (fun i => i ≤ l.length) (fun i => l.length - i) 0 (Nat.zero_le _) (by decide) (by simp) ?_ ?_
 ·exact ⟨[0, 4], [], [(6, .imm [])], [(4, [encRat (cr 0)])], ⟨trivial, ⟨⟨6, _, rfl, rfl⟩, trivial⟩, ⟨⟨_, 6, _, rfl, rfl, rfl⟩, trivial⟩⟩, ⟨zAD rfl rfl, apx, zAD rfl rfl, apx, zBP rfl rfl, zAC rfl rfl, trivial⟩, ⟨bbx, bbx, trivial⟩, by simp [ren]⟩
 intro i i1;by_cases hi : i < l.length
 ·obtain ⟨y1, y2⟩ := hl l[i]! (get_mem hi)
  have c1 := c_wrvalue q kg n l[i]! h hkg hn y1 y2;have z1 := zAJ (zHV h hkg hn y1 y2);have z2 := zAJ (bst_sz h hkg hn hl i i1);have hlt := bst_lt (q := q) (l := l) i;have eb := bst_at (q := q) (l := l) (i := i);have c2 := zDK (cr (wval q l[i]!)) (cr (bstN q l i).2.1) (zAF _) (zAF _) (by omega) (by omega) (by omega) (by omega);rw [zAL, zAL] at c2;unfold valV at c1;rcases hb : bstN q l i with ⟨I, L, F⟩
  rw [hb] at eb c2 z2 hlt;simp only [hb];have fin : ∀ {I' : Nat} {L' : Rat} {F' : Bool}, bstN q l (i + 1) = (I', L', F') → (bstN q l (i + 1)).1 = I' ∧ (bstN q l (i + 1)).2.1 = L' ∧ (bstN q l (i + 1)).2.2 = F' := fun e => by rw [e]; exact ⟨rfl, rfl, rfl⟩
  dsimp only at eb c2 z2 hlt;by_cases hc : conR q.r (l[i]!.map cr)
  ·rw [dB_true.2 hc, if_pos rfl] at c1
   cases F with
   | false =>
     rw [if_pos ⟨dB_true.2 hc, Or.inl rfl⟩] at eb;obtain ⟨f1, f2, f3⟩ := fin eb;generalize wval q l[i]! = v at *
     (repeat' (first|refine stp ?_|with_reducible(refine brr ?_ ?_<;>intro h)));all_goals try(conv=>whnf)
     all_goals try (exfalso; omega)
     refine zAA c1 rfl ?_;refine sts ?_;exact ⟨i + 1, ⟨by omega, by show l.length - (i + 1) < l.length - i; omega⟩, [0, 1], [], [], [], ttt, ⟨zAD rfl rfl, apx, zAD rfl (by rw [eb] <;> rfl), apx, zBP rfl f3.symm, zAC rfl rfl, trivial⟩, ⟨bbx, zBF (by decide) rfl (by rw [f2] <;> rfl) rfl rfl rfl, trivial⟩, by simp [ren]⟩
   | true =>
     by_cases hlt2 : wval q l[i]! < L
     ·rw [if_pos ⟨dB_true.2 hc, Or.inr hlt2⟩] at eb
      obtain ⟨f1, f2, f3⟩ := fin eb;have e2 : sgnQ (wval q l[i]! - L) < 0 := sgnQ_neg.2 (by grind);generalize sgnQ (wval q l[i]! - L) = C at *
      generalize wval q l[i]! = v at *
      (repeat' (first|refine stp ?_|with_reducible(refine brr ?_ ?_<;>intro h)));all_goals try(conv=>whnf)
      all_goals try (exfalso; omega)
      refine zAA c1 rfl ?_;refine sts ?_;refine zAA c2 rfl ?_
      (repeat' (first|refine stp ?_|with_reducible(refine brr ?_ ?_<;>intro h)));all_goals try(conv=>whnf)
      all_goals try (exfalso; omega)
      exact ⟨i + 1, ⟨by omega, by show l.length - (i + 1) < l.length - i; omega⟩, [0, 1], [], [], [], ttt, ⟨zAD rfl rfl, apx, zAD rfl (by rw [eb] <;> rfl), apx, zBP rfl f3.symm, zAC rfl rfl, trivial⟩, ⟨bbx, zBF (by decide) rfl (by rw [f2] <;> rfl) rfl rfl rfl, trivial⟩, by simp [ren]⟩
     ·rw [if_neg (by rintro ⟨_, h | h⟩; cases h; exact hlt2 h)] at eb
      obtain ⟨f1, f2, f3⟩ := fin eb;have e2 : ¬ sgnQ (wval q l[i]! - L) < 0 := fun e => hlt2 (by have := sgnQ_neg.1 e; grind)
      generalize sgnQ (wval q l[i]! - L) = C at *
      generalize wval q l[i]! = v at *
      (repeat' (first|refine stp ?_|with_reducible(refine brr ?_ ?_<;>intro h)));all_goals try(conv=>whnf)
      all_goals try (exfalso; omega)
      refine zAA c1 rfl ?_;refine sts ?_;refine zAA c2 rfl ?_
      (repeat' (first|refine stp ?_|with_reducible(refine brr ?_ ?_<;>intro h)));all_goals try(conv=>whnf)
      all_goals try (exfalso; omega)
      exact ⟨i + 1, ⟨by omega, by show l.length - (i + 1) < l.length - i; omega⟩, [0, 1], [], [], [], ttt, ⟨zAD rfl rfl, apx, zAD rfl (by rw [eb] <;> rfl), apx, zBP rfl f3.symm, zAC rfl rfl, trivial⟩, ⟨bbx, zBF (by decide) rfl (by rw [f2] <;> rfl) rfl rfl rfl, trivial⟩, by simp [ren]⟩
  ·rw [dB_false.2 hc, if_neg (by decide)] at c1
   rw [if_neg (by rintro ⟨h, _⟩; rw [dB_false.2 hc] at h; cases h)] at eb;obtain ⟨f1, f2, f3⟩ := fin eb
   (repeat' (first|refine stp ?_|with_reducible(refine brr ?_ ?_<;>intro h)));all_goals try(conv=>whnf)
   all_goals try (exfalso; omega)
   refine zAA c1 rfl ?_;refine sts ?_;exact ⟨i + 1, ⟨by omega, by show l.length - (i + 1) < l.length - i; omega⟩, [0, 1], [], [], [], ttt, ⟨zAD rfl rfl, apx, zAD rfl (by rw [eb] <;> rfl), apx, zBP rfl f3.symm, zAC rfl rfl, trivial⟩, ⟨bbx, zBF (by decide) rfl (by rw [f2] <;> rfl) rfl rfl rfl, trivial⟩, by simp [ren]⟩
 ·have ei : i = l.length := by omega
  subst ei;have hlt := bst_lt (q := q) (l := l) l.length
  (repeat' (first|refine stp ?_|with_reducible(refine brr ?_ ?_<;>intro h)));all_goals try(conv=>whnf)
  all_goals try (exfalso; omega)
  exact zAB rfl rfl
end Go.PI.Tryz
namespace Go.PI.Tryz
open Go.Proofs Go.PI
theorem at_fun4 {ρ : Nat → Nat} {k : Nat} {t : Tm} {j : Nat} {fn : Go.Fn} {a b c d : Nat} (ha : a < k) (hb : b < k) (hc : c < k) (hd : d < k) (h : t j = .func fn [] [.ptr (ρ a) 0 0, .ptr (ρ b) 0 0, .ptr (ρ c) 0 0, .ptr (ρ d) 0 0]) : at' ρ k t j (.func fn [] [.ptr a 0 0, .ptr b 0 0, .ptr c 0 0, .ptr d 0 0]) := by
 unfold at'; rw [h]; exact ⟨rfl, trivial, ⟨ha, rfl⟩, ⟨hb, rfl⟩, ⟨hc, rfl⟩, ⟨hd, rfl⟩, trivial⟩
def narI (R : List QF) (x : List Rat) (i : Nat) (b : Rat × Rat) (j : Nat) : Rat × Rat := (R.take j).foldl (nar x i) b
theorem narI_succ {R : List QF} {x : List Rat} {i : Nat} {b : Rat × Rat} {j : Nat} (h : j < R.length) : narI R x i b (j + 1) = nar x i (narI R x i b j) R[j]! := by
 unfold narI;rw [List.take_succ_eq_append_getElem h, List.foldl_append, getElem!_pos R j h]; rfl
theorem narI_sz {R : List QF} {x : List Rat} {i : Nat} {b : Rat × Rat} (hi : i < x.length) (hr : ∀ f ∈ R, szN f x 40001) (hb : sz 20000000 b.1 ∧ sz 20000000 b.2) (j : Nat) : sz 20000000 (narI R x i b j).1 ∧ sz 20000000 (narI R x i b j).2 :=
 zJ8 hi _ _ (fun f hf => hr f (List.mem_of_mem_take hf)) hb
abbrev cdB (q : QryL) (x : List Rat) (i : Nat) (g : QF) (b : Rat × Rat) : List (Nat × Blk) := [(0, rowX x), (1, ⟨[encQry q], 10, true⟩), (2, ⟨[.own 0 0 x.length], 1, false⟩), (3, ⟨[.int .i64 i], 1, false⟩), (4, ⟨[.agg [.bool false, .nilsl, .nilsl]], 3, true⟩), (5, ⟨[encRat (cr b.1)], 3, true⟩), (6, ⟨[encRat (cr b.2)], 3, true⟩), (7, ⟨[encF g], 4, true⟩)]
abbrev cdS : List (Nat × PV) := [(3, .ptr 1 0 0), (4, .ptr 2 0 0), (5, .ptr 3 0 0), (6, .ptr 4 0 0), (7, .ptr 5 0 0), (8, .ptr 6 0 0), (9, .func (.func 86) [] [.ptr 3 0 0, .ptr 2 0 0, .ptr 5 0 0, .ptr 6 0 0]), (11, .ptr 7 0 0)]
theorem x_ngb {x : List Rat} (i : Nat) : rowX x ≠ gblk i := fun e => absurd (show (3 : Nat) = 1 from congrArg Blk.sz e) (by decide)
theorem ok_wcoord : FO 44 Tryz.f44 [.cell 6 35] 77 := mkO Tryz.func44 Tryz.ntmps44 Tryz.results44
theorem c_wcoord (q : QryL) (kg n : Nat) (x : List Rat) (i : Nat) (h : smQ q kg) (hkg : kg ≤ 200) (hn : q.g.ins = (n : Int)) (hin : inQ q x) (hv : wval q x < 0) (hs : ∀ r ∈ x, sz 200 r) (hi : i < n) : Fn 44 [encQry q, .own 0 0 x.length, .int .i64 i] (.wrt (rowX x) (encRat (cr (crdQ q n x i))) (rowX x)) := by
 have hx : x.length = n := by have := hin.1; omega
 obtain ⟨n1, n2, n3, n4⟩ := h.nn hn;have cp := c_wpiece q kg n x h hkg hn hx hs;obtain ⟨_, _, _, b4, b5⟩ := h.bnd (i := i) (by omega);have hrw := rowsW_sz h hn hx hs;have hb0 := lohi_sz h (i := i) (by omega);obtain ⟨g1, g2, g3⟩ := goalP_sz h hkg hn (phO q x);have hgn := goalM_szN h hkg hn hx hs (phO q x);rw [show goalP q n (phO q x) = goalW q n x from rfl] at g1 g2 g3 hgn;have hR1 : ∀ f ∈ rowsP q n (phO q x), szN f x 40001 := fun f hf => hrw f (List.mem_append_left _ hf)
 have hR2 : ∀ f ∈ q.r.rows.map AffL.Q, szN f x 40001 := fun f hf => hrw f (List.mem_append_right _ hf)
 have hl1 : (rowsP q n (phO q x)).length ≤ 4 := by have := h.un; simp [rowsP, zB6]; omega
 have hl2 : (q.r.rows.map AffL.Q).length ≤ 8 := by have := h.rows; simpa using this
 have eR2 : q.r.rows.map encAff = (q.r.rows.map AffL.Q).map encF := by
  rw [List.map_map];refine List.map_congr_left fun a ha => ?_
  obtain ⟨j, hj, rfl⟩ := List.getElem_of_mem ha;have h1 := h.va.2.1.2.2.2.2.2 j hj;rw [getElem!_pos _ j hj] at h1;exact (zE6 h1).symm
 have eC : crdQ q n x i = simp2 (insW (goalW q n x) x i (nar x i ((q.r.rows.map AffL.Q).foldl (nar x i) ((rowsP q n (phO q x)).foldl (nar x i) (qv q.r.lo[i]!, qv q.r.hi[i]!))) (mergeQ zeroQ (goalW q n x) (-1))).1) (insW (goalW q n x) x i (nar x i ((q.r.rows.map AffL.Q).foldl (nar x i) ((rowsP q n (phO q x)).foldl (nar x i) (qv q.r.lo[i]!, qv q.r.hi[i]!))) (mergeQ zeroQ (goalW q n x) (-1))).2) := by
  unfold crdQ crdW bndW rowsW;rw [List.foldl_append]
 have hle := (ends_ok (i := i) (rows := rowsW q n x) (g := goalW q n x) (by omega) (zLA h hn hx hin) (zLJ h hn _) (by unfold goalW; rw [goal_at h hn hx (zHZ (q := q) (x := x)) (phO_ag q x)]; exact hv) (hin.2.1 i (by omega)).1 (hin.2.1 i (by omega)).2);have hle := Rat.le_trans hle.c hle.d;unfold bndW rowsW at hle;rw [List.foldl_append] at hle;rw [eC];have ci := fun (e : Rat) (he : sz 20000000 e) => c_inside (goalW q n x) x i e 40000 g2 (by rw [hx]; exact g1) (by omega) hs (by omega) (by decide) (by decide) (by omega) he
 have cs := zJI (goalW q n x) (-1) 40000 1 g2 (zGI (z := -1) (by decide)) (by omega) (by omega);have co := c_qof (-1) (by decide);rw [show (((-1 : Int)) : Rat) = -1 by rfl] at co;generalize goalW q n x = g at *
 generalize qv q.r.lo[i]! = lo at *
 generalize qv q.r.hi[i]! = hi' at *
 generalize q.r.rows.map AffL.Q = R2 at *
 generalize rowsP q n (phO q x) = R at *
 refine zCT hmix hT ok_wcoord (by simp [encQry]) ?_;refine sus ?_
 (refine zA5 ?_; refine sus ?_)
 all_goals try (exfalso; omega)
 refine tellV [] [(3, .ptr 1 0 0), (4, .ptr 2 0 0), (5, .ptr 3 0 0), (6, .ptr 4 0 0), (7, .ptr 5 0 0), (8, .ptr 6 0 0)] [(0, rowX x), (1, ⟨[encQry q], 10, true⟩), (2, ⟨[.own 0 0 x.length], 1, false⟩), (3, ⟨[.int .i64 i], 1, false⟩), (4, ⟨[.agg [.bool false, .nilsl, .nilsl]], 3, true⟩), (5, ⟨[encRat (cr lo)], 3, true⟩), (6, ⟨[encRat (cr hi')], 3, true⟩)] [] 7 (by decide) (by simp) trivial
  ⟨[1, 2, 3, 4, 17, 18], [], [], [], ttt, ⟨apx, apx, apx, apx, apx, apx, trivial⟩, ⟨zAE (by decide) rfl rfl (zAN x) rfl, bbx, zA8 (by decide) rfl ⟨by decide, rfl⟩ rfl rfl, bbx, bbx, zBF (by decide) rfl (congrArg encRat b4) rfl rfl rfl, zBF (by decide) rfl (congrArg encRat b5) rfl rfl rfl, trivial⟩, by simp [ren]⟩ ?_
 refine sus ?_
 (refine zA5 ?_; refine sus ?_)
 refine zB5 (r := 0) cp rfl rfl rfl rfl (zBA (zAN _)) ?_;refine sus ?_
 (refine zA5 ?_; refine sus ?_)
 (refine zA5 ?_; refine sus ?_)
 obtain ⟨b1, hb1⟩ : ∃ b1, b1 = (lo, hi') := ⟨_, rfl⟩
 refine zAG hT (fun (j : Nat) => cdS ++ [(10, .imm (R.map encF)), (38, .imm (R.map encF)), (39, .int .i64 R.length), (40, .int .i64 j)]) (fun j => cdB q x i g (narI R x i (lo, hi') j)) [] 8
  (fun j => j ≤ R.length) (fun j => R.length - j) 0 (Nat.zero_le _) (by decide) (by simp) ?_ ?_
 ·exact ⟨[1, 2, 3, 4, 5, 6, 15], [], [], [], ttt, ⟨apx, apx, apx, apx, apx, apx, at_fun4 (by decide) (by decide) (by decide) (by decide) rfl, apx, zAD rfl rfl, zAD rfl rfl, zAC rfl (by simp), zAC rfl rfl, trivial⟩, ⟨zAE (by decide) rfl rfl (zAN x) rfl, bbx, zA8 (by decide) rfl ⟨by decide, rfl⟩ rfl rfl, bbx, bbx, bbx, bbx, bbx, trivial⟩, by simp [ren]⟩
 intro j j1;by_cases hj : j < R.length
 ·have cn := c_narrow R[j]! x i (narI R x i (lo, hi') j) 40001 (hR1 _ (get_mem hj)) (by decide) (by decide) (by omega) (narI_sz (by omega) hR1 hb0 j).1 (narI_sz (by omega) hR1 hb0 j).2
  rw [← narI_succ hj] at cn
  (repeat' (first|refine stp ?_|with_reducible(refine brr ?_ ?_<;>intro h)));all_goals try(conv=>whnf)
  all_goals try (exfalso; omega)
  refine zGZ (cs' := narB x i (narI R x i (lo, hi') (j + 1))) [0, 2, 5, 6, 3] cn rfl (by decide) ⟨⟨_, rfl, zHQ (zBA (zAN x)), rfl, Or.inr x_ngb⟩, ⟨_, rfl, rfl, rfl, Or.inl (by decide)⟩, ⟨_, rfl, rfl, rfl, Or.inl (by decide)⟩, ⟨_, rfl, rfl, rfl, Or.inl (by decide)⟩, ⟨_, rfl, rfl, rfl, Or.inl (by decide)⟩, trivial⟩ ⟨zHQ (zBA (zAN x)), rfl, rfl, rfl, rfl, trivial⟩ rfl ⟨zFB (zBA (zAN x)), zA9 (by show 0 < 5; decide), zA9 rfl, zA9 rfl, zA9 rfl, trivial⟩ ⟨zFB (zBA (zAN x)), zA9 (by show 0 < 5; decide), zA9 rfl, zA9 rfl, zA9 rfl, trivial⟩ ⟨rfl, (by decide : _ < _), (by decide : _ < _), (by decide : _ < _), (by decide : _ < _), trivial⟩ ?_;refine sts ?_;exact ⟨j + 1, ⟨by omega, by show R.length - (j + 1) < R.length - j; omega⟩, [1, 2, 3, 4, 5, 6, 7], [], [], [], ttt, ⟨apx, apx, apx, apx, apx, apx, at_fun4 (by decide) (by decide) (by decide) (by decide) rfl, apx, zAD rfl rfl, zAD rfl rfl, zAC rfl rfl, zAC rfl rfl, trivial⟩, ⟨zAE (by decide) rfl rfl (zAN x) rfl, bbx, zA8 (by decide) rfl ⟨by decide, rfl⟩ rfl rfl, bbx, bbx, bbx, bbx, bbx, trivial⟩, by simp [ren]⟩
 have ej : j = R.length := by omega
 rw [show narI R x i (lo, hi') j = R.foldl (nar x i) (lo, hi') by unfold narI; rw [ej, List.take_length]];have hz1 := zJ8 (i := i) (by omega) R (lo, hi') hR1 hb0;generalize R.foldl (nar x i) (lo, hi') = b2 at *
 (repeat' (first|refine stp ?_|with_reducible(refine brr ?_ ?_<;>intro h)));all_goals try(conv=>whnf)
 all_goals try (exfalso; omega)
 refine zAG hT (fun (j : Nat) => cdS ++ [(50, .imm (R2.map encF)), (51, .int .i64 R2.length), (52, .int .i64 j)]) (fun j => cdB q x i g (narI R2 x i b2 j)) [] 8
  (fun j => j ≤ R2.length) (fun j => R2.length - j) 0 (Nat.zero_le _) (by decide) (by simp) ?_ ?_
 ·exact ⟨[1, 2, 3, 4, 5, 6, 7], [], [], [], ttt, ⟨apx, apx, apx, apx, apx, apx, at_fun4 (by decide) (by decide) (by decide) (by decide) rfl, apx, zAD rfl eR2, zAC rfl (by rw [eR2]; simp), zAC rfl rfl, trivial⟩, ⟨zAE (by decide) rfl rfl (zAN x) rfl, bbx, zA8 (by decide) rfl ⟨by decide, rfl⟩ rfl rfl, bbx, bbx, bbx, bbx, bbx, trivial⟩, by simp [ren]⟩
 intro m m1;by_cases hm : m < R2.length
 ·have cn := c_narrow R2[m]! x i (narI R2 x i b2 m) 40001 (hR2 _ (get_mem hm)) (by decide) (by decide) (by omega) (narI_sz (by omega) hR2 hz1 m).1 (narI_sz (by omega) hR2 hz1 m).2
  rw [← narI_succ hm] at cn
  (repeat' (first|refine stp ?_|with_reducible(refine brr ?_ ?_<;>intro h)));all_goals try(conv=>whnf)
  all_goals try (exfalso; omega)
  refine zGZ (cs' := narB x i (narI R2 x i b2 (m + 1))) [0, 2, 5, 6, 3] cn rfl (by decide) ⟨⟨_, rfl, zHQ (zBA (zAN x)), rfl, Or.inr x_ngb⟩, ⟨_, rfl, rfl, rfl, Or.inl (by decide)⟩, ⟨_, rfl, rfl, rfl, Or.inl (by decide)⟩, ⟨_, rfl, rfl, rfl, Or.inl (by decide)⟩, ⟨_, rfl, rfl, rfl, Or.inl (by decide)⟩, trivial⟩ ⟨zHQ (zBA (zAN x)), rfl, rfl, rfl, rfl, trivial⟩ rfl ⟨zFB (zBA (zAN x)), zA9 (by show 0 < 5; decide), zA9 rfl, zA9 rfl, zA9 rfl, trivial⟩ ⟨zFB (zBA (zAN x)), zA9 (by show 0 < 5; decide), zA9 rfl, zA9 rfl, zA9 rfl, trivial⟩ ⟨rfl, (by decide : _ < _), (by decide : _ < _), (by decide : _ < _), (by decide : _ < _), trivial⟩ ?_;refine sts ?_;exact ⟨m + 1, ⟨by omega, by show R2.length - (m + 1) < R2.length - m; omega⟩, [1, 2, 3, 4, 5, 6, 7], [], [], [], ttt, ⟨apx, apx, apx, apx, apx, apx, at_fun4 (by decide) (by decide) (by decide) (by decide) rfl, apx, zAD rfl rfl, zAC rfl rfl, zAC rfl rfl, trivial⟩, ⟨zAE (by decide) rfl rfl (zAN x) rfl, bbx, zA8 (by decide) rfl ⟨by decide, rfl⟩ rfl rfl, bbx, bbx, bbx, bbx, bbx, trivial⟩, by simp [ren]⟩
 have em : m = R2.length := by omega
 rw [show narI R2 x i b2 m = R2.foldl (nar x i) b2 by unfold narI; rw [em, List.take_length]];have hz2 := zJ8 (i := i) (by omega) R2 b2 hR2 hz1;generalize R2.foldl (nar x i) b2 = b3 at *
 have cn := c_narrow (mergeQ zeroQ g (-1)) x i b3 40001 hgn (by decide) (by decide) (by omega) hz2.1 hz2.2;have hz3 := hgn.nar (i := i) (by decide) (by decide) (by omega) hz2;generalize mergeQ zeroQ g (-1) = g' at *
 generalize nar x i b3 g' = b4' at *
 have cl := ci b4'.1 hz3.1;have ch := ci b4'.2 hz3.2;have zl := insW_sz (g := g) (i := i) (by omega) hs hz3.1;have zh := insW_sz (g := g) (i := i) (by omega) hs hz3.2;have cq := c_qsimplest _ _ 20000300 (by decide) (by decide) zl zh hle;generalize insW g x i b4'.1 = e1 at *
 generalize insW g x i b4'.2 = e2 at *
 generalize simp2 e1 e2 = e3 at *
 (repeat' (first|refine stp ?_|with_reducible(refine brr ?_ ?_<;>intro h)));all_goals try(conv=>whnf)
 all_goals try (exfalso; omega)
 refine zAA co rfl ?_;refine sts ?_;refine zAA cs rfl ?_;refine sts ?_;refine zGZ (cs' := narB x i b4') [0, 2, 5, 6, 3] cn rfl (by decide) ⟨⟨_, rfl, zHQ (zBA (zAN x)), rfl, Or.inr x_ngb⟩, ⟨_, rfl, rfl, rfl, Or.inl (by decide)⟩, ⟨_, rfl, rfl, rfl, Or.inl (by decide)⟩, ⟨_, rfl, rfl, rfl, Or.inl (by decide)⟩, ⟨_, rfl, rfl, rfl, Or.inl (by decide)⟩, trivial⟩ ⟨zHQ (zBA (zAN x)), rfl, rfl, rfl, rfl, trivial⟩ rfl ⟨zFB (zBA (zAN x)), zA9 (by show 0 < 5; decide), zA9 rfl, zA9 rfl, zA9 rfl, trivial⟩ ⟨zFB (zBA (zAN x)), zA9 (by show 0 < 5; decide), zA9 rfl, zA9 rfl, zA9 rfl, trivial⟩ ⟨rfl, (by decide : _ < _), (by decide : _ < _), (by decide : _ < _), (by decide : _ < _), trivial⟩ ?_;refine sts ?_;refine zGZ (cs' := insB x i g) [0, 2, 7, 3] cl rfl (by decide) ⟨⟨_, rfl, zHQ (zBA (zAN x)), rfl, Or.inr x_ngb⟩, ⟨_, rfl, rfl, rfl, Or.inl (by decide)⟩, ⟨_, rfl, rfl, rfl, Or.inl (by decide)⟩, ⟨_, rfl, rfl, rfl, Or.inl (by decide)⟩, trivial⟩ ⟨zHQ (zBA (zAN x)), rfl, rfl, rfl, trivial⟩ rfl ⟨zFB (zBA (zAN x)), zA9 (by show 0 < 4; decide), zA9 rfl, zA9 rfl, trivial⟩ ⟨zFB (zBA (zAN x)), zA9 (by show 0 < 4; decide), zA9 rfl, zA9 rfl, trivial⟩ ⟨rfl, (by decide : _ < _), (by decide : _ < _), (by decide : _ < _), trivial⟩ ?_;refine sts ?_;refine zGZ (cs' := insB x i g) [0, 2, 7, 3] ch rfl (by decide) ⟨⟨_, rfl, zHQ (zBA (zAN x)), rfl, Or.inr x_ngb⟩, ⟨_, rfl, rfl, rfl, Or.inl (by decide)⟩, ⟨_, rfl, rfl, rfl, Or.inl (by decide)⟩, ⟨_, rfl, rfl, rfl, Or.inl (by decide)⟩, trivial⟩ ⟨zHQ (zBA (zAN x)), rfl, rfl, rfl, trivial⟩ rfl ⟨zFB (zBA (zAN x)), zA9 (by show 0 < 4; decide), zA9 rfl, zA9 rfl, trivial⟩ ⟨zFB (zBA (zAN x)), zA9 (by show 0 < 4; decide), zA9 rfl, zA9 rfl, trivial⟩ ⟨rfl, (by decide : _ < _), (by decide : _ < _), (by decide : _ < _), trivial⟩ ?_;refine sts ?_;refine zAA cq rfl ?_;refine sts ?_;exact zCP rfl rfl rfl rfl rfl (zJO x)
end Go.PI.Tryz
