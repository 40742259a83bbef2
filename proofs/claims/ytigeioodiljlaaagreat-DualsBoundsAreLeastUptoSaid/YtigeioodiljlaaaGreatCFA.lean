/-
  The reference's elimination: the ends of the last variable.
-/
import Derived.Test.YtigeioodiljlaaaGreatCRC
import Derived.Test.YtigeioodiljlaaaGreatCPE
set_option linter.unusedVariables false
set_option linter.unusedSimpArgs false
set_option linter.unnecessarySimpa false
namespace Go.PI.Tryz
open Go.Proofs Go.PI
theorem zKO : FO 99 Tryz.f99 [.tmp 2, .tmp 3] 20 := mkO Tryz.func99 Tryz.ntmps99 Tryz.results99
theorem c_small27 (xs : List Int) (hx : okN xs) (hl : xs.length < 2147483648) : Fn 99 [encN xs] (.data (.tup [.int .i64 (smN xs).1, .bool (smN xs).2])) := by
 unfold smN;by_cases h0 : xs = []
 ·subst h0
  refine zAO hmix hT zKO (by simp [encN]) ?_;refine sts ?_;exact zAB rfl rfl
 ·rw [if_neg h0]
  have h1 : 0 < xs.length := List.length_pos_iff.2 h0;have hb := hx xs[0]! (get_mem h1);refine zAO hmix hT zKO (by simp [encN]) ?_
  (repeat' (first|refine stp ?_|with_reducible(refine brr ?_ ?_<;>intro h)));all_goals try(conv=>whnf)
  all_goals try (exfalso; omega)
  ·exact zAB rfl (by simp [show xs.length = 1 by omega])
  ·exact zAB rfl (by simp [show ¬ xs.length = 1 by omega])
theorem ok_gcd27 : FO 100 Tryz.f100 [.tmp 4] 12 := mkO Tryz.func100 Tryz.ntmps100 Tryz.results100
theorem c_gcd27 (a b : Nat) (ha : a < 9223372036854775808) (hb : b < 9223372036854775808) : Fn 100 [.int .i64 a, .int .i64 b] (.data (.int .i64 (Nat.gcd a b : Nat))) := by
 refine zAO hmix hT ok_gcd27 (by simp) ?_;refine sts ?_;refine zA9 hT (fun ((x, y) : Nat × Nat) => [(0, .int .i64 x), (1, .int .i64 y)]) (fun (x, y) => Nat.gcd x y = Nat.gcd a b ∧ x < 9223372036854775808 ∧ y < 9223372036854775808) (fun (_, y) => y) (a, b) ⟨rfl, ha, hb⟩ ?_ ?_
 ·exact ⟨zAC rfl rfl, zAC rfl rfl, trivial⟩
 intro ⟨x, y⟩ ⟨i1, i2, i3⟩;by_cases hy : y = 0
 ·subst hy
  rw [Nat.gcd_zero_right] at i1;rw [← i1];refine sts ?_
  all_goals try (exfalso; omega)
  exact zAB rfl rfl
 ·have e : ((x : Int).tmod (y : Int)) = ((x % y : Nat) : Int) := by rw [Int.tmod_eq_emod_of_nonneg (by omega)]; omega
  have hlt := Nat.mod_lt x (show 0 < y by omega);have hg : Nat.gcd y (x % y) = Nat.gcd a b := by rw [← i1, Nat.gcd_comm x y, Nat.gcd_rec y x, Nat.gcd_comm]
  (repeat' (first|refine stp ?_|with_reducible(refine brr ?_ ?_<;>intro h)));all_goals try(conv=>whnf)
  all_goals try (exfalso; omega)
  exact ⟨(y, x % y), ⟨⟨hg, by omega, by omega⟩, hlt⟩, zAC rfl rfl, zAC rfl e, trivial⟩
abbrev rowZ (c : List Int) : Blk := ⟨c.map (.int .i64), 1, false⟩
theorem zA1 (l : List Int) : ∀ e ∈ l.map (PV.int .i64), nr 3 e = true ∧ e ≠ .any := zAW fun _ => ⟨rfl, by simp⟩
theorem zIU (l : List Int) : ∀ e ∈ l.map (PV.int .i64), nr 3 e = true := fun e he => (zA1 l e he).1
theorem redI_keep {c : List Int} {i : Nat} (h : i < c.length) (hd : ¬ 1 < gcD c) : redI c i = redI c (i + 1) := by
 rw [← redI_set h, show divR (gcD c) c[i]! = c[i]! by unfold divR; rw [if_neg hd]];have h1 : i < (redI c i).length := by rw [zEI c (by omega)]; exact h
 have h2 := redI_get h;rw [getElem!_pos _ i h1] at h2;rw [← h2]; exact (List.set_getElem_self h1).symm
theorem ok_reduce27 : FO 101 Tryz.f101 [.tmp 2] 53 := mkO Tryz.func101 Tryz.ntmps101 Tryz.results101
theorem zKZ (c : List Int) (hc : ∀ x ∈ c, x.natAbs ≤ 4611686018427387904) (hl : c.length ≤ 1000000) : Fn 101 [.own 0 0 c.length] (.wrt (rowZ c) (.bool (redB c)) (rowZ (redR c))) := by
 have hd := gcI_le hc c.length (Nat.le_refl _);have hdd : gcD c = gcI c c.length := rfl;refine fnC_vmut hmix hT ok_reduce27 (by simp) ?_;refine sts ?_
 refine zAH hT (fun (i : Nat) => [(0, .own 0 0 c.length), (3, .int .i64 (gcI c i)), (4, .int .i64 i)]) (fun i => [(0, rowZ c)]) [] 1
  (fun i => i ≤ c.length) (fun i => c.length - i) 0 (Nat.zero_le _) (by decide) (by simp) ?_ ?_
 ·exact ⟨[], [], [], [], ttt, ⟨zAG (by decide) rfl rfl, zAC rfl rfl, zAC rfl rfl, trivial⟩, ⟨zAE (by decide) rfl rfl (zA1 c) rfl, trivial⟩, by simp [ren]⟩
 intro i i1;by_cases hi : i < c.length
 ·have hx := hc c[i]! (get_mem hi)
  have hg := gcI_le hc i (by omega);have cg := c_gcd27 c[i]!.natAbs (gcI c i) (by omega) (by omega);rw [← gcI_succ hi] at cg;have hm : (if 0 - c[i]! > c[i]! then 0 - c[i]! else c[i]!) = (c[i]!.natAbs : Int) := by split <;> omega
  (repeat' (first|refine stp ?_|with_reducible(refine brr ?_ ?_<;>intro h)));all_goals try(conv=>whnf)
  all_goals try (exfalso; omega)
  refine zAU i (Nat.zero_add _) hi ?_;refine sts ?_;refine zAU i (Nat.zero_add _) hi ?_;refine sts ?_;rw [hm];refine zAA cg rfl ?_;refine sts ?_;exact ⟨i + 1, ⟨by omega, by show c.length - (i + 1) < c.length - i; omega⟩, [], [], [], [], ttt, ⟨zAG (by decide) rfl rfl, zAC rfl rfl, zAC rfl rfl, trivial⟩, ⟨zAE (by decide) rfl rfl (zA1 c) rfl, trivial⟩, by simp [ren]⟩
 have ei : i = c.length := by omega
 rw [ei, ← hdd]
 (repeat' (first|refine stp ?_|with_reducible(refine brr ?_ ?_<;>intro h)));all_goals try(conv=>whnf)
 all_goals try (exfalso; omega)
 refine zAH hT (fun (i : Nat) => [(0, .own 0 0 c.length), (3, .int .i64 (gcD c)), (5, .int .i64 i)]) (fun i => [(0, rowZ (redI c i))]) [] 1
  (fun i => i ≤ c.length ∧ i ≤ redK (gcD c) c) (fun i => c.length - i) 0 ⟨Nat.zero_le _, Nat.zero_le _⟩ (by decide) (by simp) ?_ ?_
 ·exact ⟨[], [], [], [], ttt, ⟨zAG (by decide) rfl rfl, zAC rfl rfl, zAC rfl rfl, trivial⟩, ⟨zAE (by decide) rfl (by rw [redI_zero]) (zA1 _) rfl, trivial⟩, by simp [ren]⟩
 intro i ⟨i1, i2⟩;have hil := zEI c i1;by_cases hi : i < c.length
 ·have hx := hc c[i]! (get_mem hi)
  have hgt := redI_get hi;have hgn := redI_at hi;have hln := zEI c (i := i + 1) (by omega);have hdv := divR_le (d := gcD c) (x := c[i]!) (B := 4611686018427387904) (by omega)
  have hok : i < redK (gcD c) c ↔ okG (divR (gcD c) c[i]!) := by
   constructor
   ·exact redK_lt _ c i
   ·intro h
    refine Nat.lt_of_le_of_ne i2 fun e => ?_
    have := redK_at (gcD c) c (by omega);rw [← e] at this; exact this h
  have hred : ¬ i < redK (gcD c) c → redR c = redI c (i + 1) ∧ redB c = false := fun h => by
   have e : redK (gcD c) c = i := by omega
   exact ⟨by unfold redR; rw [e, Nat.min_eq_left (by omega)], decide_eq_false (by omega)⟩
  unfold okG at hok;by_cases hg : 1 < gcD c
  ·have hdr : divR (gcD c) c[i]! = c[i]!.tdiv (gcD c) := by unfold divR; rw [if_pos hg]
   have hst := redI_set hi;rw [hdr] at hst hgn hdv hok;refine sus ?_
   all_goals try (exfalso; omega)
   refine zBF ?_; (repeat' (first|refine stu ?_|with_reducible(refine brr ?_ ?_<;>intro h)));all_goals try(conv=>whnf)
   (refine zBF ?_; refine sus ?_)
   refine zBF ?_; (repeat' (first|refine stu ?_|with_reducible(refine brr ?_ ?_<;>intro h)));all_goals try(conv=>whnf)
   all_goals try (exfalso; omega)
   refine zAU i (Nat.zero_add _) (by omega) ?_;rw [hgt];refine sus ?_;refine zAU i (Nat.zero_add _) (by omega) ?_;refine sus ?_
   refine tellV [] [(0, .own 0 0 c.length), (3, .int .i64 (gcD c)), (5, .int .i64 i)] [(0, rowZ (redI c (i + 1)))] [] 1 (by decide) (by simp) trivial
    ⟨[], [], [], [], ttt, ⟨zAG (by decide) rfl rfl, zAC rfl rfl, zAC rfl rfl, trivial⟩, ⟨zAE (by decide) rfl (by rw [← hst]; exact zBB (Nat.zero_add _) rfl) (zA1 _) rfl, trivial⟩, by simp [ren]⟩ ?_
   refine sus ?_
   all_goals try (exfalso; omega)
   refine zAU i (Nat.zero_add _) (by omega) ?_;rw [hgn]
   (repeat' (first|refine stu ?_|with_reducible(refine brr ?_ ?_<;>intro h)));all_goals try(conv=>whnf)
   ·(refine zBF ?_; refine sus ?_)
    obtain ⟨e1, e2⟩ := hred (by omega);rw [e1, e2];refine sts ?_;exact zG8 rfl rfl rfl rfl rfl (zIU _)
   refine zAU i (Nat.zero_add _) (by omega) ?_;rw [hgn];refine sus ?_;refine zBF ?_; (repeat' (first|refine stu ?_|with_reducible(refine brr ?_ ?_<;>intro h)));all_goals try(conv=>whnf)
   ·obtain ⟨e1, e2⟩ := hred (by omega)
    rw [e1, e2];refine sts ?_;exact zG8 rfl rfl rfl rfl rfl (zIU _)
   (refine zBF ?_; refine sus ?_)
   exact ⟨i + 1, ⟨⟨by omega, by omega⟩, by show c.length - (i + 1) < c.length - i; omega⟩, [], [], [], [], ttt, ⟨zAG (by decide) rfl rfl, zAC rfl rfl, zAC rfl rfl, trivial⟩, ⟨zAE (by decide) rfl rfl (zA1 _) rfl, trivial⟩, by simp [ren]⟩
  ·have hdr : divR (gcD c) c[i]! = c[i]! := by unfold divR; rw [if_neg hg]
   have hst := redI_keep hi hg;rw [hdr] at hgn hdv hok;refine sus ?_
   all_goals try (exfalso; omega)
   refine zBF ?_; (repeat' (first|refine stu ?_|with_reducible(refine brr ?_ ?_<;>intro h)));all_goals try(conv=>whnf)
   (refine zBF ?_; refine sus ?_)
   refine zBF ?_; (repeat' (first|refine stu ?_|with_reducible(refine brr ?_ ?_<;>intro h)));all_goals try(conv=>whnf)
   all_goals try (exfalso; omega)
   refine tellV [] [(0, .own 0 0 c.length), (3, .int .i64 (gcD c)), (5, .int .i64 i)] [(0, rowZ (redI c (i + 1)))] [] 1 (by decide) (by simp) trivial
    ⟨[], [], [], [], ttt, ⟨zAG (by decide) rfl rfl, zAC rfl rfl, zAC rfl rfl, trivial⟩, ⟨zAE (by decide) rfl (congrArg (List.map (PV.int .i64)) hst) (zA1 _) rfl, trivial⟩, by simp [ren]⟩ ?_
   refine sus ?_
   all_goals try (exfalso; omega)
   refine zAU i (Nat.zero_add _) (by omega) ?_;rw [hgn]
   (repeat' (first|refine stu ?_|with_reducible(refine brr ?_ ?_<;>intro h)));all_goals try(conv=>whnf)
   ·(refine zBF ?_; refine sus ?_)
    obtain ⟨e1, e2⟩ := hred (by omega);rw [e1, e2];refine sts ?_;exact zG8 rfl rfl rfl rfl rfl (zIU _)
   refine zAU i (Nat.zero_add _) (by omega) ?_;rw [hgn];refine sus ?_;refine zBF ?_; (repeat' (first|refine stu ?_|with_reducible(refine brr ?_ ?_<;>intro h)));all_goals try(conv=>whnf)
   ·obtain ⟨e1, e2⟩ := hred (by omega)
    rw [e1, e2];refine sts ?_;exact zG8 rfl rfl rfl rfl rfl (zIU _)
   (refine zBF ?_; refine sus ?_)
   exact ⟨i + 1, ⟨⟨by omega, by omega⟩, by show c.length - (i + 1) < c.length - i; omega⟩, [], [], [], [], ttt, ⟨zAG (by decide) rfl rfl, zAC rfl rfl, zAC rfl rfl, trivial⟩, ⟨zAE (by decide) rfl rfl (zA1 _) rfl, trivial⟩, by simp [ren]⟩
 have ei2 : i = c.length := by omega
 have hk : redK (gcD c) c = c.length := by have := redK_le (gcD c) c; omega
 have e1 : redR c = redI c i := by unfold redR; rw [hk, ei2, Nat.min_eq_right (by omega)]
 have e2 : redB c = true := decide_eq_true hk;rw [e1, e2]
 (repeat' (first|refine stp ?_|with_reducible(refine brr ?_ ?_<;>intro h)));all_goals try(conv=>whnf)
 all_goals try (exfalso; omega)
 exact zG8 rfl rfl rfl rfl rfl (zIU _)
theorem ok_bits27 : FO 102 Tryz.f102 [.tmp 2] 14 := mkO Tryz.func102 Tryz.ntmps102 Tryz.results102
theorem c_bits27 (x : Nat) (hx : x < 18446744073709551616) : Fn 102 [.int .u64 x] (.data (.int .i64 (bitsN x : Nat))) := by
 have h64 : x < 2 ^ 64 := hx;refine zAO hmix hT ok_bits27 (by simp) ?_;refine sts ?_;refine zA9 hT (fun ((k, y, s) : Nat × Nat × Nat) => [(0, .int .u64 y), (3, .int .i64 s)]) (fun (k, y, s) => s + k ≤ 64 ∧ y < 2 ^ k ∧ s + bitsK k y = bitsN x) (fun (k, _, _) => k) (64, x, 0) ⟨Nat.le_refl _, h64, Nat.zero_add _⟩ ?_ ?_
 ·exact ⟨zAC rfl rfl, zAC rfl rfl, trivial⟩
 intro ⟨k, y, s⟩ ⟨i0, i1, i2⟩;by_cases hy : y = 0
 ·subst hy
  have e : bitsK k 0 = 0 := by cases k <;> simp [bitsK]
  rw [← i2, e];refine sts ?_
  all_goals try (exfalso; omega)
  exact zAB rfl rfl
 ·have hk : k ≠ 0 := by rintro rfl; simp at i1; omega
  obtain ⟨k, rfl⟩ := Nat.exists_eq_succ_of_ne_zero hk;have e2 : bitsK (k + 1) y = y % 2 + bitsK k (y / 2) := by simp [bitsK, hy]
  have hb := bitsK_le k (y / 2);have i1' : y / 2 < 2 ^ k := by rw [Nat.pow_succ] at i1; omega
  have hyl : y < 18446744073709551616 := Nat.lt_of_lt_of_le i1 (show 2 ^ (k + 1) ≤ 2 ^ 64 from Nat.pow_le_pow_right (by decide) (by omega));rw [e2] at i2;have e3 : ((y : Int).tmod 2) = ((y % 2 : Nat) : Int) := by rw [Int.tmod_eq_emod_of_nonneg (by omega)]; omega
  have e4 : ((y : Int).tdiv 2) = ((y / 2 : Nat) : Int) := by rw [Int.tdiv_eq_ediv_of_nonneg (by omega)]; omega
  (repeat' (first|refine stp ?_|with_reducible(refine brr ?_ ?_<;>intro h)));all_goals try(conv=>whnf)
  all_goals try (exfalso; omega)
  exact ⟨(k, y / 2, s + y % 2), ⟨⟨by omega, i1', by omega⟩, Nat.lt_succ_self _⟩, zAC rfl e4, zAC rfl (by rw [e3]; omega), trivial⟩
end Go.PI.Tryz
namespace Go.PI.Tryz
open Go.Proofs Go.PI
theorem ok_rlcoefF : FO 98 Tryz.f98 [.cell 4 27] 28 := mkO Tryz.func98 Tryz.ntmps98 Tryz.results98
theorem c_rlcoefF (f : QF) (v : Int) (k : Nat) (hf : szF k f) (hk : k ≤ 2147483596) (hs : f.ts.Pairwise (fun p q => p.1 < q.1)) (hl : f.ts.length ≤ 1048576) : Fn 98 [encF f, .int .i64 v] (.data (encRat (cr (cf f.ts v)))) := by
 refine zAO hmix hT ok_rlcoefF (by simp [encF]) ?_;refine sts ?_
 refine zAH hT (fun (i : Nat) => [(1, .int .i64 v), (2, .ptr 1 0 0), (4, .ptr 0 0 0), (5, .int .i64 i)])
  (fun _ => [(0, ⟨[.agg [.bool false, .nilsl, .nilsl]], 3, true⟩), (1, ⟨[encF f], 4, true⟩)]) [] 2
  (fun i => i ≤ f.ts.length ∧ ∀ j, j < i → f.ts[j]!.1 ≠ v) (fun i => f.ts.length - i) 0 ⟨Nat.zero_le _, fun j h => by omega⟩ (by decide) (by simp) ?_ ?_
 ·exact ⟨[_, _], [], [], [], ttt, ⟨zAC rfl rfl, (apy rfl), (apy rfl), zAC rfl rfl, trivial⟩, ⟨bbx, bbx, trivial⟩, by simp [ren]⟩
 intro i ⟨i1, i2⟩;by_cases hi : i < f.ts.length
 ·have hm := get_mem hi
  by_cases e : f.ts[i]!.1 = v
  ·rw [cf_at hs hm e]
   (repeat' (first|refine stp ?_|with_reducible(refine brr ?_ ?_<;>intro h)));all_goals try(conv=>whnf)
   all_goals try (exfalso; omega)
   all_goals try exact absurd e (by assumption)
   exact zAB rfl rfl
  ·(repeat' (first|refine stp ?_|with_reducible(refine brr ?_ ?_<;>intro h)));all_goals try(conv=>whnf)
   all_goals try (exfalso; omega)
   all_goals try exact absurd (by assumption) e
   exact ⟨i + 1, ⟨⟨by omega, fun j hj => zDA (p := fun j => f.ts[j]!.1 ≠ v) i2 e hj⟩, by show f.ts.length - (i + 1) < f.ts.length - i; omega⟩, [0, 1], [], [], [], ttt, ⟨zAC rfl rfl, apx, apx, zAC rfl rfl, trivial⟩, ⟨bbx, bbx, trivial⟩, by simp [ren]⟩
 ·have e : cf f.ts v = 0 := cf_none fun p hp => by
   obtain ⟨j, hj, rfl⟩ := List.getElem_of_mem hp;have := i2 j (by omega)
   rwa [getElem!_pos f.ts j hj] at this
  rw [e, zCU]
  (repeat' (first|refine stp ?_|with_reducible(refine brr ?_ ?_<;>intro h)));all_goals try(conv=>whnf)
  all_goals try (exfalso; omega)
  exact zAB rfl rfl
end Go.PI.Tryz
namespace Go.PI.Tryz
open Go.Proofs Go.PI
set_option maxHeartbeats 2000000
theorem ok_dense27 : FO 67 Tryz.f67 [.tmp 4, .tmp 5] 109 := mkO Tryz.func67 Tryz.ntmps67 Tryz.results67
theorem c_dense27 (f : QF) (vars k : Nat) (hf : szF k f) (hk : k ≤ 900000000) (hs : f.ts.Pairwise (fun p q => p.1 < q.1)) (hl : f.ts.length ≤ 1048576) (hv : vars ≤ 1000) (hk1 : 1 ≤ k) : Fn 67 [encF f, .int .i64 vars] (.data (.tup [encI (denV (frX f vars)).1, .bool (denV (frX f vars)).2])) := by
 have hxl := frX_len f vars;have hxg : ∀ i, i < vars + 1 → (frX f vars)[i]! = if i < vars then cf f.ts i else f.c := fun i hi => zJC hi
 have hxs : ∀ i, i < vars + 1 → sz k (frX f vars)[i]! := fun i hi => by
  rw [hxg i hi]; split
  ·exact Go.PI.cf_sz hk1 hs hf.2
  ·exact hf.1
 have no1 : ¬ okXs (frX f vars) → denV (frX f vars) = ([], false) := fun h => by unfold denV; rw [if_neg (fun e => h e.1)]
 have no2 : ¬ laOk (frX f vars) (frX f vars).length → denV (frX f vars) = ([], false) := fun h => by unfold denV; rw [if_neg (fun e => h e.2)]
 have yes : okXs (frX f vars) ∧ laOk (frX f vars) (frX f vars).length → denV (frX f vars) = (redR (meL (frX f vars)), redB (meL (frX f vars))) := fun h => by unfold denV; rw [if_pos h]
 generalize frX f vars = xs at *
 generalize denV xs = DV at *
 have hn0 : List.replicate xs.length (0 : Int) = nuI xs 0 := (zI6 _ _ _).symm;have hd0 : List.replicate xs.length (0 : Int) = deI xs 0 := (zI6 _ _ _).symm;refine zAO hmix hT ok_dense27 (by simp [encF]) ?_;refine sts ?_
 all_goals try (exfalso; omega)
 refine zAH hT (fun (i : Nat) => [(1, .int .i64 vars), (2, .ptr 0 0 0), (6, .own 1 0 xs.length), (7, .own 2 0 xs.length), (8, .int .i64 i)]) (fun i => [(0, ⟨[encF f], 4, true⟩), (1, rowZ (nuI xs i)), (2, rowZ (deI xs i))]) [] 3
  (fun i => i ≤ xs.length ∧ ∀ j, j < i → okX xs[j]!) (fun i => xs.length - i) 0 ⟨Nat.zero_le _, fun j h => by omega⟩ (by decide) (by simp) ?_ ?_
 ·exact ⟨[0, 5, 9], [], [], [], ttt, ⟨zAC rfl rfl, apx, zAG (by decide) rfl (by omega), zAG (by decide) rfl (by omega), zAC rfl rfl, trivial⟩, ⟨bbx, zAE (by decide) rfl (by rw [← hn0, hxl]; simp [List.replicate_succ]) (zA1 _) rfl, zAE (by decide) rfl (by rw [← hd0, hxl]; simp [List.replicate_succ]) (zA1 _) rfl, trivial⟩, by simp [ren]⟩
 intro i ⟨i1, i2⟩;have hnl := nuI_len xs i;have hdl := deI_len xs i;by_cases hi : i < xs.length
 ·have hX := hxg i (by omega)
  have hXs := hxs i (by omega);have hnu := nuI_set hi;have hde := deI_set hi;have hno : ¬ okX xs[i]! → DV = ([], false) := fun h => no1 fun e => h (e i hi)
  have hst : okX xs[i]! → ∀ j, j < i + 1 → okX xs[j]! := fun h j hj => zDA (p := fun j => okX xs[j]!) i2 h hj
  generalize xs[i]! = X at *
  have lX := zAY hXs;have okr := zAR X;have s1 := c_small27 (cr X).num okr.1 (by omega);have s2 := c_small27 (cr X).den okr.2 (by omega);obtain ⟨a1, a2⟩ := sm_num X;obtain ⟨b1, b2⟩ := sm_den X;have hxn := cr_neg X;rcases hm1 : smN (cr X).num with ⟨N, NB⟩
  rcases hm2 : smN (cr X).den with ⟨D, DB⟩
  rw [hm1] at a1 a2 s1;rw [hm2] at b1 b2 s2;dsimp only at a1 a2 b1 b2 s1 s2;by_cases hv2 : i < vars
  ·have d1 := c_rlcoefF f i k hf (by omega) hs hl
   rw [if_pos hv2] at hX;rw [← hX] at d1;refine sus ?_;refine zBF ?_; (repeat' (first|refine stu ?_|with_reducible(refine brr ?_ ?_<;>intro h)));all_goals try(conv=>whnf)
   all_goals try (exfalso; omega)
   (refine zBF ?_; refine sus ?_)
   (refine zBF ?_; refine sus ?_)
   all_goals try (exfalso; omega)
   refine zBF ?_; (repeat' (first|refine stu ?_|with_reducible(refine brr ?_ ?_<;>intro h)));all_goals try(conv=>whnf)
   all_goals try (exfalso; omega)
   refine zAA d1 rfl ?_;refine sus ?_
   refine tellV [] [(1, .int .i64 vars), (2, .ptr 0 0 0), (6, .own 1 0 xs.length), (7, .own 2 0 xs.length), (8, .int .i64 i), (9, .ptr 3 0 0)] [(0, ⟨[encF f], 4, true⟩), (1, rowZ (nuI xs i)), (2, rowZ (deI xs i)), (3, ⟨[encRat (cr X)], 3, true⟩)] [] 4 (by decide) (by simp) trivial
    ⟨[0, 1, 2, 8], [], [], [], ttt, ⟨zAC rfl rfl, apx, zAG (by decide) rfl rfl, zAG (by decide) rfl rfl, zAC rfl rfl, apx, trivial⟩, ⟨bbx, zAE (by decide) rfl rfl (zA1 _) rfl, zAE (by decide) rfl rfl (zA1 _) rfl, bbx, trivial⟩, by simp [ren]⟩ ?_
   cases NB with
   | false =>
     have hne : ¬ okX X := fun e => absurd (a1.2 e.1) (by decide)
     rw [hno hne];refine sts ?_;refine zAA s1 rfl ?_;refine sts ?_;refine zAA s2 rfl ?_;refine sts ?_;exact zAB rfl rfl
   | true =>
     cases DB with
     | false =>
       have hne : ¬ okX X := fun e => absurd (b1.2 e.2) (by decide)
       rw [hno hne];refine sts ?_;refine zAA s1 rfl ?_;refine sts ?_;refine zAA s2 rfl ?_;refine sts ?_;exact zAB rfl rfl
     | true =>
       have ho : okX X := ⟨a1.1 rfl, b1.1 rfl⟩;have e1 := a2 ho.1;have e2 := b2 ho.2;have hb1 := ho.1;refine sts ?_;refine zAA s1 rfl ?_;refine sts ?_;refine zAA s2 rfl ?_
       (repeat' (first|refine stp ?_|with_reducible(refine brr ?_ ?_<;>intro h)));all_goals try(conv=>whnf)
       ·have hxn2 : X.num = 0 - N := by
         have h9 := (by assumption : (cr X).neg = true);rw [hxn] at h9;have := of_decide_eq_true h9; omega
        refine zAU i (Nat.zero_add _) (by omega) ?_;refine sts ?_;refine zAU i (Nat.zero_add _) (by omega) ?_;refine sts ?_;exact ⟨i + 1, ⟨⟨by omega, hst ho⟩, by show xs.length - (i + 1) < xs.length - i; omega⟩, [0, 1, 2], [], [], [], ttt, ⟨zAC rfl rfl, apx, zAG (by decide) rfl rfl, zAG (by decide) rfl rfl, zAC rfl rfl, trivial⟩, ⟨bbx, zAE (by decide) rfl (by rw [← hnu, hxn2]; exact zBB (Nat.zero_add _) rfl) (zA1 _) rfl, zAE (by decide) rfl (by rw [← hde, ← e2]; exact zBB (Nat.zero_add _) rfl) (zA1 _) rfl, trivial⟩, by simp [ren]⟩
       ·have hxn2 : X.num = N := by
         have h9 := (by assumption : (cr X).neg = false);rw [hxn] at h9;have := of_decide_eq_false h9;omega
        refine zAU i (Nat.zero_add _) (by omega) ?_;refine sts ?_;refine zAU i (Nat.zero_add _) (by omega) ?_;refine sts ?_;exact ⟨i + 1, ⟨⟨by omega, hst ho⟩, by show xs.length - (i + 1) < xs.length - i; omega⟩, [0, 1, 2], [], [], [], ttt, ⟨zAC rfl rfl, apx, zAG (by decide) rfl rfl, zAG (by decide) rfl rfl, zAC rfl rfl, trivial⟩, ⟨bbx, zAE (by decide) rfl (by rw [← hnu, hxn2]; exact zBB (Nat.zero_add _) rfl) (zA1 _) rfl, zAE (by decide) rfl (by rw [← hde, ← e2]; exact zBB (Nat.zero_add _) rfl) (zA1 _) rfl, trivial⟩, by simp [ren]⟩
  ·rw [if_neg hv2] at hX
   refine sus ?_;refine zBF ?_; (repeat' (first|refine stu ?_|with_reducible(refine brr ?_ ?_<;>intro h)));all_goals try(conv=>whnf)
   all_goals try (exfalso; omega)
   (refine zBF ?_; refine sus ?_)
   (refine zBF ?_; refine sus ?_)
   all_goals try (exfalso; omega)
   refine zBF ?_; (repeat' (first|refine stu ?_|with_reducible(refine brr ?_ ?_<;>intro h)));all_goals try(conv=>whnf)
   all_goals try (exfalso; omega)
   refine tellV [] [(1, .int .i64 vars), (2, .ptr 0 0 0), (6, .own 1 0 xs.length), (7, .own 2 0 xs.length), (8, .int .i64 i), (9, .ptr 3 0 0)] [(0, ⟨[encF f], 4, true⟩), (1, rowZ (nuI xs i)), (2, rowZ (deI xs i)), (3, ⟨[encRat (cr X)], 3, true⟩)] [] 4 (by decide) (by simp) trivial
    ⟨[0, 1, 2, 8], [], [], [], ttt, ⟨zAC rfl rfl, apx, zAG (by decide) rfl rfl, zAG (by decide) rfl rfl, zAC rfl rfl, apx, trivial⟩, ⟨bbx, zAE (by decide) rfl rfl (zA1 _) rfl, zAE (by decide) rfl rfl (zA1 _) rfl, blk_box (by decide) rfl (by rw [hX]; rfl) rfl rfl rfl, trivial⟩, by simp [ren]⟩ ?_
   cases NB with
   | false =>
     have hne : ¬ okX X := fun e => absurd (a1.2 e.1) (by decide)
     rw [hno hne];refine sts ?_;refine zAA s1 rfl ?_;refine sts ?_;refine zAA s2 rfl ?_;refine sts ?_;exact zAB rfl rfl
   | true =>
     cases DB with
     | false =>
       have hne : ¬ okX X := fun e => absurd (b1.2 e.2) (by decide)
       rw [hno hne];refine sts ?_;refine zAA s1 rfl ?_;refine sts ?_;refine zAA s2 rfl ?_;refine sts ?_;exact zAB rfl rfl
     | true =>
       have ho : okX X := ⟨a1.1 rfl, b1.1 rfl⟩;have e1 := a2 ho.1;have e2 := b2 ho.2;have hb1 := ho.1;refine sts ?_;refine zAA s1 rfl ?_;refine sts ?_;refine zAA s2 rfl ?_
       (repeat' (first|refine stp ?_|with_reducible(refine brr ?_ ?_<;>intro h)));all_goals try(conv=>whnf)
       ·have hxn2 : X.num = 0 - N := by
         have h9 := (by assumption : (cr X).neg = true);rw [hxn] at h9;have := of_decide_eq_true h9; omega
        refine zAU i (Nat.zero_add _) (by omega) ?_;refine sts ?_;refine zAU i (Nat.zero_add _) (by omega) ?_;refine sts ?_;exact ⟨i + 1, ⟨⟨by omega, hst ho⟩, by show xs.length - (i + 1) < xs.length - i; omega⟩, [0, 1, 2], [], [], [], ttt, ⟨zAC rfl rfl, apx, zAG (by decide) rfl rfl, zAG (by decide) rfl rfl, zAC rfl rfl, trivial⟩, ⟨bbx, zAE (by decide) rfl (by rw [← hnu, hxn2]; exact zBB (Nat.zero_add _) rfl) (zA1 _) rfl, zAE (by decide) rfl (by rw [← hde, ← e2]; exact zBB (Nat.zero_add _) rfl) (zA1 _) rfl, trivial⟩, by simp [ren]⟩
       ·have hxn2 : X.num = N := by
         have h9 := (by assumption : (cr X).neg = false);rw [hxn] at h9;have := of_decide_eq_false h9;omega
        refine zAU i (Nat.zero_add _) (by omega) ?_;refine sts ?_;refine zAU i (Nat.zero_add _) (by omega) ?_;refine sts ?_;exact ⟨i + 1, ⟨⟨by omega, hst ho⟩, by show xs.length - (i + 1) < xs.length - i; omega⟩, [0, 1, 2], [], [], [], ttt, ⟨zAC rfl rfl, apx, zAG (by decide) rfl rfl, zAG (by decide) rfl rfl, zAC rfl rfl, trivial⟩, ⟨bbx, zAE (by decide) rfl (by rw [← hnu, hxn2]; exact zBB (Nat.zero_add _) rfl) (zA1 _) rfl, zAE (by decide) rfl (by rw [← hde, ← e2]; exact zBB (Nat.zero_add _) rfl) (zA1 _) rfl, trivial⟩, by simp [ren]⟩
 have ei : i = xs.length := by omega
 have hall : okXs xs := fun j hj => i2 j (by omega)
 rw [ei]
 (repeat' (first|refine stp ?_|with_reducible(refine brr ?_ ?_<;>intro h)));all_goals try(conv=>whnf)
 all_goals try (exfalso; omega)
 refine zAH hT (fun (i : Nat) => [(1, .int .i64 vars), (6, .own 1 0 xs.length), (7, .own 2 0 xs.length), (14, .int .i64 (laI xs i)), (15, .int .i64 i)]) (fun i => [(1, rowZ (nuI xs xs.length)), (2, rowZ (deI xs xs.length))]) [] 3
  (fun i => i ≤ xs.length ∧ laOk xs i) (fun i => xs.length - i) 0 ⟨Nat.zero_le _, fun j h => by omega⟩ (by decide) (by simp) ?_ ?_
 ·exact ⟨[0, 1, 2], [], [], [], ttt, ⟨zAC rfl rfl, zAG (by decide) rfl rfl, zAG (by decide) rfl rfl, zAC rfl rfl, zAC rfl rfl, trivial⟩, ⟨zAE (by decide) rfl rfl (zA1 _) rfl, zAE (by decide) rfl rfl (zA1 _) rfl, trivial⟩, by simp [ren]⟩
 intro i ⟨i1, i2⟩;have hnl := nuI_len xs xs.length;have hdl := deI_len xs xs.length;by_cases hi : i < xs.length
 ·have hdg := deI_get hi
  have hd := (hall i hi).2;have hdp := xs[i]!.den_pos;have hla := laOk_le i2;have hlp := laI_pos xs i;have hll := laI_le xs i;have hmul : laI xs i * xs[i]!.den ≤ 1073741824 * 1073741824 := Nat.mul_le_mul hla hd;have cg := c_gcd27 (laI xs i) xs[i]!.den (by omega) (by omega);have hgp : 0 < Nat.gcd (laI xs i) xs[i]!.den := Nat.gcd_pos_of_pos_left _ hlp
  have eq1 : ((laI xs i : Int).tdiv (Nat.gcd (laI xs i) xs[i]!.den : Nat)) = ((laI xs i / Nat.gcd (laI xs i) xs[i]!.den : Nat) : Int) := by
   rw [Int.tdiv_eq_ediv_of_nonneg (by omega)]; exact_mod_cast rfl
  have eq2 : ((laI xs i / Nat.gcd (laI xs i) xs[i]!.den : Nat) : Int) * (xs[i]!.den : Int) = (laI xs (i + 1) : Int) := by
   show _ = ((laI xs i / Nat.gcd (laI xs i) xs[i]!.den * xs[i]!.den : Nat) : Int)
   rw [Int.natCast_mul]
  have hno : ¬ laI xs (i + 1) ≤ 1073741824 → DV = ([], false) := fun h => no2 fun e => h (e i hi)
  have hst : laI xs (i + 1) ≤ 1073741824 → laOk xs (i + 1) := fun h j hj => zDA (p := fun j => laI xs (j + 1) ≤ 1073741824) i2 h hj
  generalize Nat.gcd (laI xs i) xs[i]!.den = gg at *
  have hqb := Int.natAbs_tdiv_le_natAbs (laI xs i : Int) (gg : Int)
  (repeat' (first|refine stp ?_|with_reducible(refine brr ?_ ?_<;>intro h)));all_goals try(conv=>whnf)
  all_goals try (exfalso; omega)
  refine zAU i (Nat.zero_add _) (by omega) ?_;rw [hdg];refine sts ?_;refine zAA cg rfl ?_;refine sts ?_
  all_goals try (exfalso; omega)
  refine zAU i (Nat.zero_add _) (by omega) ?_;rw [hdg, eq1]
  (repeat' (first|refine stp ?_|with_reducible(refine brr ?_ ?_<;>intro h)));all_goals try(conv=>whnf)
  ·rw [hno (by omega)]
   exact zAB rfl rfl
  ·exact ⟨i + 1, ⟨⟨by omega, hst (by omega)⟩, by show xs.length - (i + 1) < xs.length - i; omega⟩, [0, 1, 2], [], [], [], ttt, ⟨zAC rfl rfl, zAG (by decide) rfl rfl, zAG (by decide) rfl rfl, zAC rfl eq2, zAC rfl rfl, trivial⟩, ⟨zAE (by decide) rfl rfl (zA1 _) rfl, zAE (by decide) rfl rfl (zA1 _) rfl, trivial⟩, by simp [ren]⟩
 have ei : i = xs.length := by omega
 rw [ei] at i2 ⊢;have hla := laOk_le i2;have hsz := me_sz hall hla
 (repeat' (first|refine stp ?_|with_reducible(refine brr ?_ ?_<;>intro h)));all_goals try(conv=>whnf)
 all_goals try (exfalso; omega)
 refine zAH hT (fun (i : Nat) => [(1, .int .i64 vars), (6, .own 1 0 xs.length), (7, .own 2 0 xs.length), (14, .int .i64 (laI xs xs.length)), (16, .int .i64 i)]) (fun i => [(1, rowZ (meI xs i)), (2, rowZ (deI xs xs.length))]) [] 3
  (fun i => i ≤ xs.length) (fun i => xs.length - i) 0 (Nat.zero_le _) (by decide) (by simp) ?_ ?_
 ·exact ⟨[0, 1, 2], [], [], [], ttt, ⟨zAC rfl rfl, zAG (by decide) rfl rfl, zAG (by decide) rfl rfl, zAC rfl rfl, zAC rfl rfl, trivial⟩, ⟨zAE (by decide) rfl (by rw [meI_zero]) (zA1 _) rfl, zAE (by decide) rfl rfl (zA1 _) rfl, trivial⟩, by simp [ren]⟩
 intro i i1;have hml := zHC xs i;have hdl := deI_len xs xs.length;by_cases hi : i < xs.length
 ·have hdg := deI_get hi
  have hmg := meI_get hi;have hms := meI_set hi;have hdp := xs[i]!.den_pos;have hnb := (hall i hi).1
  have eq1 : ((laI xs xs.length : Int).tdiv (xs[i]!.den : Int)) = ((laI xs xs.length / xs[i]!.den : Nat) : Int) := by
   rw [Int.tdiv_eq_ediv_of_nonneg (by omega)]; exact_mod_cast rfl
  have hqb : laI xs xs.length / xs[i]!.den ≤ 1073741824 := Nat.le_trans (Nat.div_le_self _ _) hla
  have hpb : (xs[i]!.num * ((laI xs xs.length / xs[i]!.den : Nat) : Int)).natAbs ≤ 1073741824 * 1073741824 := by
   rw [Int.natAbs_mul, Int.natAbs_natCast]; exact Nat.mul_le_mul hnb hqb
  generalize laI xs xs.length / xs[i]!.den = qq at *
  (repeat' (first|refine stp ?_|with_reducible(refine brr ?_ ?_<;>intro h)));all_goals try(conv=>whnf)
  all_goals try (exfalso; omega)
  refine zAU i (Nat.zero_add _) (by omega) ?_;rw [hmg];refine sts ?_;refine zAU i (Nat.zero_add _) (by omega) ?_;rw [hdg];refine sts ?_
  all_goals try (exfalso; omega)
  rw [eq1];refine sts ?_;refine zAU i (Nat.zero_add _) (by omega) ?_;refine sts ?_;exact ⟨i + 1, ⟨by omega, by show xs.length - (i + 1) < xs.length - i; omega⟩, [0, 1, 2], [], [], [], ttt, ⟨zAC rfl rfl, zAG (by decide) rfl rfl, zAG (by decide) rfl rfl, zAC rfl rfl, zAC rfl rfl, trivial⟩, ⟨zAE (by decide) rfl (by rw [← hms]; exact zBB (Nat.zero_add _) rfl) (zA1 _) rfl, zAE (by decide) rfl rfl (zA1 _) rfl, trivial⟩, by simp [ren]⟩
 have ei : i = xs.length := by omega
 rw [ei, show meI xs xs.length = meL xs from rfl];have hml2 : (meL xs).length = xs.length := zHC xs _;have cr' := zKZ (meL xs) (fun x hx => Nat.le_trans (hsz _ (Nat.le_refl _) x hx) (by decide)) (by omega);rw [hml2] at cr';have hrl : (redR (meL xs)).length = xs.length := by rw [zH5]; exact hml2
 rw [yes ⟨hall, i2⟩]
 (repeat' (first|refine stp ?_|with_reducible(refine brr ?_ ?_<;>intro h)));all_goals try(conv=>whnf)
 all_goals try (exfalso; omega)
 refine zGM (r := 1) cr' rfl rfl rfl rfl (zC3 (zA1 _)) (by decide) ?_;refine sts ?_;exact zAB (frz_tupL (zAV (zAN rfl rfl hrl.symm fun _ => rfl) rfl)) rfl
end Go.PI.Tryz
namespace Go.PI.Tryz
open Go.Proofs Go.PI
set_option maxHeartbeats 2000000
theorem ok_pairs27 : FO 68 Tryz.f68 [.tmp 4] 39 := mkO Tryz.func68 Tryz.ntmps68 Tryz.results68
theorem c_pairs27 (l : List FR) (v m : Nat) (hl : l.length ≤ 1000000) (hr : ∀ r ∈ l, okRw m r) (hv : v < m) : Fn 68 [.imm (l.map encFR), .int .i64 v] (.data (.int .i64 (pairsN l v : Nat))) := by
 refine zAO hmix hT ok_pairs27 (by simp) ?_;refine sts ?_;refine zA9 hT (fun (i : Nat) => [(0, .imm (l.map encFR)), (1, .int .i64 v), (5, .int .i64 (upI l v i)), (6, .int .i64 (dnI l v i)), (7, .int .i64 i)]) (fun i => i ≤ l.length) (fun i => l.length - i) 0 (Nat.zero_le _) ?_ ?_
 ·exact ⟨zAD rfl rfl, zAC rfl rfl, zAC rfl rfl, zAC rfl rfl, zAC rfl rfl, trivial⟩
 intro i i1;have hu := upI_le l v i;have hd := dnI_le l v i;by_cases hi : i < l.length
 ·have ho := hr l[i]! (get_mem hi)
  have hcl := ho.len;have hus := upI_succ (v := v) hi;have hds := dnI_succ (v := v) hi;by_cases h1 : 0 < l[i]!.c[v]!
  ·rw [if_pos h1] at hus
   rw [if_neg (by omega)] at hds
   (repeat' (first|refine stp ?_|with_reducible(refine brr ?_ ?_<;>intro h)));all_goals try(conv=>whnf)
   all_goals try (exfalso; omega)
   exact ⟨i + 1, ⟨by omega, by show l.length - (i + 1) < l.length - i; omega⟩, zAD rfl rfl, zAC rfl rfl, zAC rfl (by rw [hus]; rfl), zAC rfl (by rw [hds]), zAC rfl rfl, trivial⟩
  ·rw [if_neg h1] at hus
   by_cases h2 : l[i]!.c[v]! < 0
   ·rw [if_pos h2] at hds
    (repeat' (first|refine stp ?_|with_reducible(refine brr ?_ ?_<;>intro h)));all_goals try(conv=>whnf)
    all_goals try (exfalso; omega)
    exact ⟨i + 1, ⟨by omega, by show l.length - (i + 1) < l.length - i; omega⟩, zAD rfl rfl, zAC rfl rfl, zAC rfl (by rw [hus]), zAC rfl (by rw [hds]; rfl), zAC rfl rfl, trivial⟩
   ·rw [if_neg h2] at hds
    (repeat' (first|refine stp ?_|with_reducible(refine brr ?_ ?_<;>intro h)));all_goals try(conv=>whnf)
    all_goals try (exfalso; omega)
    exact ⟨i + 1, ⟨by omega, by show l.length - (i + 1) < l.length - i; omega⟩, zAD rfl rfl, zAC rfl rfl, zAC rfl (by rw [hus]), zAC rfl (by rw [hds]), zAC rfl rfl, trivial⟩
 ·have ei : i = l.length := by omega
  subst ei;have hm : upI l v l.length * dnI l v l.length ≤ 1000000 * 1000000 := Nat.mul_le_mul (by omega) (by omega);unfold pairsN
  (repeat' (first|refine stp ?_|with_reducible(refine brr ?_ ?_<;>intro h)));all_goals try(conv=>whnf)
  all_goals try (exfalso; omega)
  exact zAB rfl (by rw [Int.natCast_mul])
abbrev rowR (l : List FR) : Blk := ⟨l.map encFR, 2, true⟩
theorem zCN (l : List FR) : ∀ e ∈ l.map encFR, nr 3 e = true ∧ e ≠ .any := zAW fun _ => ⟨rfl, by simp [encFR]⟩
theorem frz_FR {h : Hp} {n : Nat} (r : FR) : frz h (n + 2) (encFR r) = some (encFR r, []) := rfl
theorem ok_elim27 : FO 69 Tryz.f69 [.tmp 6, .tmp 7] 157 := mkO Tryz.func69 Tryz.ntmps69 Tryz.results69
theorem c_elim27 (l : List FR) (v k m : Nat) (hl : l.length ≤ 1000000) (hr : ∀ r ∈ l, okRw m r) (hv : v < m) (hk : k ≤ 1000) (hm : m ≤ 1000) (hp : pairsN l v ≤ 20000) : Fn 69 [.imm (l.map encFR), .int .i64 v, .int .i64 k] (.data (match elmO l v k with | some out => .tup [.imm (out.map encFR), .bool true] | none => .tup [.imm [], .bool false])) := by
 refine zAO hmix hT ok_elim27 (by simp) ?_;refine sts ?_
 refine zKR hT [(.sl 8, 2, true)] (fun (i : Nat) => [(0, .imm (l.map encFR)), (1, .int .i64 v), (2, .int .i64 k), (8, .own 0 0 (zerI l v i).length), (9, .int .i64 i)]) (fun i => [(0, rowR (zerI l v i))]) [] 1
  (fun i => i ≤ l.length) (fun i => l.length - i) 0 (Nat.zero_le _) (by decide) (by simp) ⟨rfl, trivial⟩ ?_ ?_
 ·exact ⟨[_], [], [], [], ttt, ⟨zAD rfl rfl, zAC rfl rfl, zAC rfl rfl, zAG (by decide) rfl rfl, zAC rfl rfl, trivial⟩, ⟨zAE (by decide) rfl rfl (zCN []) rfl, trivial⟩, by simp [ren]⟩
 intro i i1;have hz := zerI_le l v i;by_cases hi : i < l.length
 ·have ho := hr l[i]! (get_mem hi)
  have hcl := ho.len;have hzs := zerI_succ (v := v) hi;by_cases h0 : l[i]!.c[v]! = 0
  ·rw [if_pos h0] at hzs
   (repeat' (first|refine stp ?_|with_reducible(refine brr ?_ ?_<;>intro h)));all_goals try(conv=>whnf)
   all_goals try (exfalso; omega)
   exact ⟨i + 1, ⟨by omega, by show l.length - (i + 1) < l.length - i; omega⟩, [_], [], [], [], ttt, ⟨zAD rfl rfl, zAC rfl rfl, zAC rfl rfl, zAG (by decide) rfl (by rw [hzs]; simp), zAC rfl rfl, trivial⟩, ⟨zAE (by decide) rfl (by rw [hzs, List.map_append]; rfl) (zCN _) rfl, trivial⟩, by simp [ren]⟩
  ·rw [if_neg h0] at hzs
   (repeat' (first|refine stp ?_|with_reducible(refine brr ?_ ?_<;>intro h)));all_goals try(conv=>whnf)
   all_goals try (exfalso; omega)
   exact ⟨i + 1, ⟨by omega, by show l.length - (i + 1) < l.length - i; omega⟩, [0], [], [], [], ttt, ⟨zAD rfl rfl, zAC rfl rfl, zAC rfl rfl, zAG (by decide) rfl (by rw [hzs]), zAC rfl rfl, trivial⟩, ⟨zAE (by decide) rfl (by rw [hzs]) (zCN _) rfl, trivial⟩, by simp [ren]⟩
 have ei : i = l.length := by omega
 rw [ei] at hz ⊢
 have hZo : ∀ r ∈ zerI l v l.length, okRw m r := fun r h => by
  unfold zerI at h; exact hr r (List.mem_of_mem_take (List.mem_filter.1 h).1)
 have hE : elmO l v k = elI v k l (some (zerI l v l.length)) l.length := rfl;generalize zerI l v l.length = Z at *
 generalize elmO l v k = E at *
 (repeat' (first|refine stp ?_|with_reducible(refine brr ?_ ?_<;>intro h)));all_goals try(conv=>whnf)
 all_goals try (exfalso; omega)
 refine zAH hT (fun ((i, O) : Nat × List FR) => [(0, .imm (l.map encFR)), (1, .int .i64 v), (2, .int .i64 k), (8, .own 0 0 O.length), (10, .int .i64 i)]) (fun (_, O) => [(0, rowR O)]) [] 1
  (fun (i, O) => i ≤ l.length ∧ elI v k l (some Z) i = some O ∧ (∀ r ∈ O, okRw m r) ∧ O.length ≤ l.length + upI l v i * dnI l v l.length) (fun (i, _) => l.length - i) (0, Z) ⟨Nat.zero_le _, rfl, hZo, by omega⟩ (by decide) (by simp) ?_ ?_
 ·exact ⟨[0], [], [], [], ttt, ⟨zAD rfl rfl, zAC rfl rfl, zAC rfl rfl, zAG (by decide) rfl rfl, zAC rfl rfl, trivial⟩, ⟨zAE (by decide) rfl rfl (zCN _) rfl, trivial⟩, by simp [ren]⟩
 intro ⟨i, O⟩ ⟨i1, i2, i3, i4⟩;have hup : upI l v i * dnI l v l.length ≤ 20000 := Nat.le_trans (Nat.mul_le_mul_right _ (upI_mono l v i1 (Nat.le_refl _))) hp;by_cases hi : i < l.length
 ·have ha := hr l[i]! (get_mem hi)
  have hal := ha.len;have hus := upI_succ (v := v) hi;have hup2 : upI l v (i + 1) * dnI l v l.length ≤ 20000 := Nat.le_trans (Nat.mul_le_mul_right _ (upI_mono l v (by omega) (Nat.le_refl _))) hp;have hsuc := elI_succ (v := v) (k := k) (o := some Z) hi;rw [i2] at hsuc;have hstop : elI v k l (some Z) (i + 1) = none → E = none := fun h => by rw [hE]; exact elI_stop h (by omega)
  rw [hsuc] at hstop
  have hdm : ∀ j, j ≤ l.length → (if 0 < l[i]!.c[v]! then dnI l v j else 0) ≤ 1000000 := fun j hj => by
   have := dnI_le l v j
   split <;> omega
  (repeat' (first|refine stp ?_|with_reducible(refine brr ?_ ?_<;>intro h)));all_goals try(conv=>whnf)
  all_goals try (exfalso; omega)
  refine zAH hT (fun ((j, Q) : Nat × List FR) => [(0, .imm (l.map encFR)), (1, .int .i64 v), (2, .int .i64 k), (8, .own 0 0 Q.length), (10, .int .i64 i), (11, .int .i64 j)]) (fun (_, Q) => [(0, rowR Q)]) [] 1
   (fun (j, Q) => j ≤ l.length ∧ elJ v k l l[i]! (some O) j = some Q ∧ (∀ r ∈ Q, okRw m r) ∧ Q.length ≤ l.length + upI l v i * dnI l v l.length + (if 0 < l[i]!.c[v]! then dnI l v j else 0)) (fun (j, _) => l.length - j) (0, O) ⟨Nat.zero_le _, rfl, i3, by omega⟩ (by decide) (by simp) ?_ ?_
  ·exact ⟨[0], [], [], [], ttt, ⟨zAD rfl rfl, zAC rfl rfl, zAC rfl rfl, zAG (by decide) rfl rfl, zAC rfl rfl, zAC rfl rfl, trivial⟩, ⟨zAE (by decide) rfl rfl (zCN _) rfl, trivial⟩, by simp [ren]⟩
  intro ⟨j, Q⟩ ⟨j1, j2, j3, j4⟩;have hdj := hdm j j1;by_cases hj : j < l.length
  ·have hb := hr l[j]! (get_mem hj)
   have hbl := hb.len;have hds := dnI_succ (v := v) hj;have hjs := elJ_succ (v := v) (k := k) (a := l[i]!) (o := some O) hj;rw [j2] at hjs;have hlen := fun out h => elS_len (v := v) (k := k) (O := Q) (a := l[i]!) (b := l[j]!) (out := out) h
   have hbits := c_bits27 (l[i]!.fm ||| l[j]!.fm) (by have := Nat.or_lt_two_pow (x := l[i]!.fm) (y := l[j]!.fm) (n := 62) ha.fm hb.fm; omega);have hor := bitF_orN (a := l[i]!.fm) (b := l[j]!.fm) (by have := ha.fm; omega) (by have := hb.fm; omega);have hbn : bitsN (l[i]!.fm ||| l[j]!.fm) ≤ 64 := bitsK_le _ _
   have hmono : (if 0 < l[i]!.c[v]! then dnI l v j else 0) ≤ (if 0 < l[i]!.c[v]! then dnI l v (j + 1) else 0) := by
    rw [hds]; split <;> (try split) <;> omega
   by_cases hg : goodP l[i]! l[j]! v k
   ·obtain ⟨g1, g2, g3⟩ := id hg
    have hsz := cmb_sz ha hb hv;have hcm : (cmbE l[i]! l[j]! v).length = m := by unfold cmbE; rw [List.length_map, List.length_range]; exact hal
    have hz0 : List.replicate m (0 : Int) = cmbI l[i]! l[j]! v 0 := by rw [← hal]; exact (zI6 _ _ _).symm
    have hbv := ha.at hv;have hcv := hb.at hv;have hok := fun h => cmbR_ok (v := v) ha hb h
    (repeat' (first|refine stp ?_|with_reducible(refine brr ?_ ?_<;>intro h)));all_goals try(conv=>whnf)
    all_goals try (exfalso; omega)
    rw [hor];refine zAA hbits rfl ?_
    (repeat' (first|refine stp ?_|with_reducible(refine brr ?_ ?_<;>intro h)));all_goals try(conv=>whnf)
    all_goals try (exfalso; omega)
    refine zAH hT (fun (n : Nat) => [(0, .imm (l.map encFR)), (1, .int .i64 v), (2, .int .i64 k), (8, .own 0 0 Q.length), (10, .int .i64 i), (11, .int .i64 j), (12, .own 1 0 m), (13, .int .i64 n)]) (fun n => [(0, rowR Q), (1, rowZ (cmbI l[i]! l[j]! v n))]) [] 2
     (fun n => n ≤ m) (fun n => m - n) 0 (Nat.zero_le _) (by decide) (by simp) ?_ ?_
    ·exact ⟨[0, 48], [], [], [], ttt, ⟨zAD rfl rfl, zAC rfl rfl, zAC rfl rfl, zAG (by decide) rfl rfl, zAC rfl rfl, zAC rfl rfl, zAG (by decide) rfl (by rw [List.length_map, hal]; omega), zAC rfl rfl, trivial⟩, ⟨zAE (by decide) rfl rfl (zCN _) rfl, zAE (by decide) rfl (by rw [← hz0]; exact zFY (f := PV.int .i64) (x := (0 : Int)) (by rw [List.length_map, hal]; omega)) (zA1 _) rfl, trivial⟩, by simp [ren]⟩
    intro n n1;have hcl := cmbI_len l[i]! l[j]! v n;by_cases hn : n < m
    ·have m1 := mul_sm (ha.at hn) (okG_neg hcv)
     have m2 := mul_sm (hb.at hn) hbv;have hset := cmbI_set (a := l[i]!) (b := l[j]!) (v := v) (i := n) (by omega);have o1 := okG_neg hcv;unfold okG at o1
     (repeat' (first|refine stp ?_|with_reducible(refine brr ?_ ?_<;>intro h)));all_goals try(conv=>whnf)
     all_goals try (exfalso; omega)
     refine zAU n (Nat.zero_add _) (by omega) ?_;refine sts ?_;exact ⟨n + 1, ⟨by omega, by show m - (n + 1) < m - n; omega⟩, [0, 1], [], [], [], ttt, ⟨zAD rfl rfl, zAC rfl rfl, zAC rfl rfl, zAG (by decide) rfl rfl, zAC rfl rfl, zAC rfl rfl, zAG (by decide) rfl rfl, zAC rfl rfl, trivial⟩, ⟨zAE (by decide) rfl rfl (zCN _) rfl, zAE (by decide) rfl (by rw [← hset]; exact zBB (Nat.zero_add _) rfl) (zA1 _) rfl, trivial⟩, by simp [ren]⟩
    have en : n = m := by omega
    rw [en, show cmbI l[i]! l[j]! v m = cmbE l[i]! l[j]! v by rw [← hal]; exact cmbI_all _ _ _];have cr' := zKZ (cmbE l[i]! l[j]! v) hsz (by omega);rw [hcm] at cr';have hrl : (redR (cmbE l[i]! l[j]! v)).length = m := by rw [zH5]; exact hcm
    cases hB : redB (cmbE l[i]! l[j]! v) with
    | false =>
      have hsn : elS v k (some Q) l[i]! l[j]! = none := by unfold elS; dsimp only; rw [if_pos hg, hB, if_neg (by decide)]
      rw [hsn] at hjs;rw [hstop (elJ_stop hjs (by omega))];rw [hB] at cr'
      (repeat' (first|refine stp ?_|with_reducible(refine brr ?_ ?_<;>intro h)));all_goals try(conv=>whnf)
      all_goals try (exfalso; omega)
      refine zGM (r := 1) cr' rfl rfl rfl rfl (zC3 (zA1 _)) (by decide) ?_;refine sts ?_;exact zAB rfl rfl
    | true =>
      have hsn : elS v k (some Q) l[i]! l[j]! = some (Q ++ [cmbR l[i]! l[j]! v]) := by unfold elS; dsimp only; rw [if_pos hg, if_pos hB]
      rw [hsn] at hjs;have hl2 := hlen _ hsn;rw [if_pos ⟨g1, g2⟩] at hl2;have hds2 := hds;rw [if_pos g2] at hds2;rw [if_pos g1] at j4;have hdj2 := dnI_le l v j;rw [hB] at cr'
      (repeat' (first|refine stp ?_|with_reducible(refine brr ?_ ?_<;>intro h)));all_goals try(conv=>whnf)
      all_goals try (exfalso; omega)
      refine zGM (r := 1) cr' rfl rfl rfl rfl (zC3 (zA1 _)) (by decide) ?_;refine sts ?_
      exact ⟨(j + 1, Q ++ [cmbR l[i]! l[j]! v]), ⟨⟨by omega, hjs, fun r hr' => by
       rcases List.mem_append.1 hr' with h | h
       ·exact j3 r h
       ·rw [List.mem_singleton.1 h]; exact hok hB, by rw [if_pos g1, hds2]; omega⟩, by show l.length - (j + 1) < l.length - j; omega⟩, [24], [1], [], [(24, Q.map encFR ++ [.agg [.imm ((redR (cmbE l[i]! l[j]! v)).map (.int .i64)), .int .u64 (bitF .or .u64 l[i]!.fm l[j]!.fm)]])], ⟨⟨⟨_, rfl⟩, trivial⟩, trivial, ⟨⟨_, 6, _, rfl, mapF_snoc (zEO (zAV (zAN rfl rfl hrl.symm fun _ => rfl) rfl)) (mapF_id frz_FR _), rfl⟩, trivial⟩⟩, ⟨zAD rfl rfl, zAC rfl rfl, zAC rfl rfl, zAG (by decide) rfl (by simp), zAC rfl rfl, zAC rfl rfl, trivial⟩, ⟨zAE (by decide) rfl (by rw [hor, List.map_append]; rfl) (zCN _) rfl, trivial⟩, by simp [ren]⟩
   ·have hsk : elS v k (some Q) l[i]! l[j]! = some Q := by unfold elS; dsimp only; rw [if_neg hg]
    rw [hsk] at hjs;by_cases h1 : l[i]!.c[v]! ≤ 0
    ·(repeat' (first|refine stp ?_|with_reducible(refine brr ?_ ?_<;>intro h)));all_goals try(conv=>whnf)
     all_goals try (exfalso; omega)
     exact ⟨(j + 1, Q), ⟨⟨by omega, hjs, j3, by omega⟩, by show l.length - (j + 1) < l.length - j; omega⟩, [0], [], [], [], ttt, ⟨zAD rfl rfl, zAC rfl rfl, zAC rfl rfl, zAG (by decide) rfl rfl, zAC rfl rfl, zAC rfl rfl, trivial⟩, ⟨zAE (by decide) rfl rfl (zCN _) rfl, trivial⟩, by simp [ren]⟩
    ·by_cases h2 : 0 ≤ l[j]!.c[v]!
     ·(repeat' (first|refine stp ?_|with_reducible(refine brr ?_ ?_<;>intro h)));all_goals try(conv=>whnf)
      all_goals try (exfalso; omega)
      exact ⟨(j + 1, Q), ⟨⟨by omega, hjs, j3, by omega⟩, by show l.length - (j + 1) < l.length - j; omega⟩, [0], [], [], [], ttt, ⟨zAD rfl rfl, zAC rfl rfl, zAC rfl rfl, zAG (by decide) rfl rfl, zAC rfl rfl, zAC rfl rfl, trivial⟩, ⟨zAE (by decide) rfl rfl (zCN _) rfl, trivial⟩, by simp [ren]⟩
     ·have h3 : ¬ bitsN (l[i]!.fm ||| l[j]!.fm) ≤ k + 1 := fun e => hg ⟨by omega, by omega, e⟩
      (repeat' (first|refine stp ?_|with_reducible(refine brr ?_ ?_<;>intro h)));all_goals try(conv=>whnf)
      all_goals try (exfalso; omega)
      rw [hor];refine zAA hbits rfl ?_
      (repeat' (first|refine stp ?_|with_reducible(refine brr ?_ ?_<;>intro h)));all_goals try(conv=>whnf)
      all_goals try (exfalso; omega)
      exact ⟨(j + 1, Q), ⟨⟨by omega, hjs, j3, by omega⟩, by show l.length - (j + 1) < l.length - j; omega⟩, [0], [], [], [], ttt, ⟨zAD rfl rfl, zAC rfl rfl, zAC rfl rfl, zAG (by decide) rfl rfl, zAC rfl rfl, zAC rfl rfl, trivial⟩, ⟨zAE (by decide) rfl rfl (zCN _) rfl, trivial⟩, by simp [ren]⟩
  ·have ej : j = l.length := by omega
   rw [ej] at j2 j4;rw [j2] at hsuc
   have hfin : upI l v i * dnI l v l.length + (if 0 < l[i]!.c[v]! then dnI l v l.length else 0) ≤ upI l v (i + 1) * dnI l v l.length := by
    rw [hus]; split
    ·rw [Nat.add_mul, Nat.one_mul]; omega
    ·omega
   (repeat' (first|refine stp ?_|with_reducible(refine brr ?_ ?_<;>intro h)));all_goals try(conv=>whnf)
   all_goals try (exfalso; omega)
   exact ⟨(i + 1, Q), ⟨⟨by omega, hsuc, j3, by omega⟩, by show l.length - (i + 1) < l.length - i; omega⟩, [0], [], [], [], ttt, ⟨zAD rfl rfl, zAC rfl rfl, zAC rfl rfl, zAG (by decide) rfl rfl, zAC rfl rfl, trivial⟩, ⟨zAE (by decide) rfl rfl (zCN _) rfl, trivial⟩, by simp [ren]⟩
 ·have ei : i = l.length := by omega
  rw [ei] at i2;rw [hE, i2]
  (repeat' (first|refine stp ?_|with_reducible(refine brr ?_ ?_<;>intro h)));all_goals try(conv=>whnf)
  all_goals try (exfalso; omega)
  exact zAB (frz_tupL (zAV (zAN rfl rfl rfl frz_FR) rfl)) rfl
end Go.PI.Tryz
namespace Go.PI.Tryz
open Go.Proofs Go.PI
set_option maxHeartbeats 2000000
theorem ok_rqfracM : FO 34 Tryz.f34 [.cell 4 27, .tmp 5] 13 := mkO Tryz.func34 Tryz.ntmps34 Tryz.results34
theorem c_rqfracM (x y : Int) (hx : -9223372036854775807 ≤ x ∧ x < 9223372036854775808) (hy : -9223372036854775807 ≤ y ∧ y < 0) : Fn 34 [.int .i64 x, .int .i64 y] (.data (.tup [encRat (cr (mkRat (-x) y.natAbs)), .int .i64 0])) := by
 have hle : x.natAbs < pw 2 := by rw [zAS, zAS, zBQ]; omega
 have hle2 : y.natAbs < pw 2 := by rw [zAS, zAS, zBQ]; omega
 have hl := zA4 hle;have hl2 := zA4 hle2;have cm := c_rqmake (cz x) (cz y) (zAI _) (zAI _) (by show nv (lims _) ≠ 0; rw [zAJ]; omega) (by show (lims _).length < _; omega) (by show (lims _).length < _; omega)
 have es : mkRat (sg ((cz x).neg != (cz y).neg) (nv (cz x).mag)) (nv (cz y).mag) = mkRat (-x) y.natAbs := by
  rw [show (cz y).neg = true by unfold cz; simp; omega, show nv (cz y).mag = y.natAbs from zAJ _, show nv (cz x).mag = x.natAbs from zAJ _]
  congr 1
  have hn : (cz x).neg = decide (x < 0) := rfl;rw [hn];unfold sg;by_cases h : x < 0
  ·simp [h]; omega
  ·simp [h]; omega
 rw [es] at cm;refine zAO hmix hT ok_rqfracM (by simp) ?_;refine sts ?_;refine zAA (c_riof x (by omega)) rfl ?_;refine sts ?_;refine zAA (c_riof y (by omega)) rfl ?_;refine sts ?_;refine zAA cm rfl ?_;refine sts ?_;exact zAB rfl rfl
theorem ok_ends27 : FO 70 Tryz.f70 [.tmp 4, .cell 5 27] 85 := mkO Tryz.func70 Tryz.ntmps70 Tryz.results70
theorem c_ends27 (l : List FR) (n m : Nat) (hl : l.length ≤ 1000000) (hr : ∀ r ∈ l, okRw m r) (hn : n + 1 < m) (hm : m ≤ 1000) : Fn 70 [.imm (l.map encFR), .int .i64 n] (.data (.tup [.int .i64 (endV l n).1, encRat (cr (endV l n).2)])) := by
 refine zAO hmix hT ok_ends27 (by simp) ?_;refine sts ?_
 refine zAH hT (fun ((i, s) : Nat × EnS) => [(0, .imm (l.map encFR)), (1, .int .i64 n), (5, .ptr 0 0 0), (6, .bool s.low), (7, .bool s.high), (8, .ptr 1 0 0), (9, .ptr 2 0 0), (10, .int .i64 i)]) (fun (_, s) => [(0, ⟨[.agg [.bool false, .nilsl, .nilsl]], 3, true⟩), (1, ⟨[encRat (cr s.least)], 3, true⟩), (2, ⟨[encRat (cr s.most)], 3, true⟩)]) [] 3
  (fun (i, s) => i ≤ l.length ∧ enI l n i = some s ∧ sz 2 s.least ∧ sz 2 s.most) (fun (i, _) => l.length - i) (0, ⟨false, false, 0, 0⟩) ⟨Nat.zero_le _, rfl, sz_0 (by decide), sz_0 (by decide)⟩ (by decide) (by simp) ?_ ?_
 ·exact ⟨[1, 4, 5], [], [], [(4, [encRat (cr 0)]), (5, [encRat (cr 0)])], ⟨trivial, trivial, ⟨⟨_, 6, _, rfl, rfl, rfl⟩, ⟨_, 6, _, rfl, rfl, rfl⟩, trivial⟩⟩, ⟨zAD rfl rfl, zAC rfl rfl, apx, zBA rfl rfl, zBA rfl rfl, apx, apx, zAC rfl rfl, trivial⟩, ⟨bbx, bbx, bbx, trivial⟩, by simp [ren]⟩
 intro ⟨i, ⟨low, high, L, M⟩⟩ ⟨i1, i2, z1, z2⟩;dsimp only at z1 z2;by_cases hi : i < l.length
 ·have ho := hr l[i]! (get_mem hi)
  have hol := ho.len;have ga := ho.at (i := n) (by omega);have gc := ho.at (i := n + 1) hn
  have hst : enI l n (i + 1) = if l[i]!.c[n]! = 0 ∧ l[i]!.c[n + 1]! < 0 then none else some (enS ⟨low, high, L, M⟩ l[i]!.c[n]! l[i]!.c[n + 1]!) := by
   conv => lhs; unfold enI
   rw [i2]
  have hz := enS_sz ga gc (s := ⟨low, high, L, M⟩) ⟨z1, z2⟩;have hnone : enI l n (i + 1) = none → endV l n = (2, 0) := fun h => by unfold endV; rw [enI_none h _ (by omega)]; rfl
  have hco : ∀ x : FR, (x.c[n + 1]! : Int) = x.c[n + 1]! := fun _ => rfl
  have hvz := fun h0 => enV_sz ga gc h0
  have hfp : 0 < l[i]!.c[n]! → mkRat (0 - l[i]!.c[n + 1]!) l[i]!.c[n]!.natAbs = enV l[i]!.c[n]! l[i]!.c[n + 1]! := fun h => by unfold enV; rw [if_pos h]
  have hfn : l[i]!.c[n]! < 0 → mkRat (-(0 - l[i]!.c[n + 1]!)) l[i]!.c[n]!.natAbs = enV l[i]!.c[n]! l[i]!.c[n + 1]! := fun h => by unfold enV; rw [if_neg (by omega), show -(0 - l[i]!.c[n + 1]!) = l[i]!.c[n + 1]! by omega]
  have hes : enS ⟨low, high, L, M⟩ l[i]!.c[n]! l[i]!.c[n + 1]! = if l[i]!.c[n]! = 0 then ⟨low, high, L, M⟩ else if 0 < l[i]!.c[n]! then ⟨true, high, if low = false ∨ L < enV l[i]!.c[n]! l[i]!.c[n + 1]! then enV l[i]!.c[n]! l[i]!.c[n + 1]! else L, M⟩ else ⟨low, true, L, if high = false ∨ enV l[i]!.c[n]! l[i]!.c[n + 1]! < M then enV l[i]!.c[n]! l[i]!.c[n + 1]! else M⟩ := rfl
  rw [hes] at hst hz;unfold okG at ga gc;by_cases h0 : l[i]!.c[n]! = 0
  ·by_cases hc : l[i]!.c[n + 1]! < 0
   ·rw [if_pos ⟨h0, hc⟩] at hst
    rw [hnone hst]
    (repeat' (first|refine stp ?_|with_reducible(refine brr ?_ ?_<;>intro h)));all_goals try(conv=>whnf)
    all_goals try (exfalso; omega)
    refine zA0 (j := n + 1) (by omega) (by omega) ?_
    (repeat' (first|refine stp ?_|with_reducible(refine brr ?_ ?_<;>intro h)));all_goals try(conv=>whnf)
    all_goals try (exfalso; omega)
    exact zAB rfl (by rw [zCU]; rfl)
   ·rw [if_neg (fun e => hc e.2), if_pos h0] at hst
    rw [if_pos h0] at hz;have hen := hst
    (repeat' (first|refine stp ?_|with_reducible(refine brr ?_ ?_<;>intro h)));all_goals try(conv=>whnf)
    all_goals try (exfalso; omega)
    refine zA0 (j := n + 1) (by omega) (by omega) ?_
    (repeat' (first|refine stp ?_|with_reducible(refine brr ?_ ?_<;>intro h)));all_goals try(conv=>whnf)
    all_goals try (exfalso; omega)
    exact ⟨(i + 1, ⟨low, high, L, M⟩), ⟨⟨by omega, hen, by first | exact hz.1 | exact z1, by first | exact hz.2 | exact z2⟩, by show l.length - (i + 1) < l.length - i; omega⟩, [0, 1, 2], [], [], [], ttt, ⟨zAD rfl rfl, zAC rfl rfl, apx, zBA rfl rfl, zBA rfl rfl, apx, apx, zAC rfl rfl, trivial⟩, ⟨bbx, bbx, bbx, trivial⟩, by simp [ren]⟩
  ·rw [if_neg (fun e => h0 e.1), if_neg h0] at hst
   rw [if_neg h0] at hz;have hvs := hvz h0;have lv := zAY hvs;have lL := zAY z1;have lM := zAY z2;by_cases hp : 0 < l[i]!.c[n]!
   ·rw [if_pos hp] at hst hz
    have d1 := c_rqfrac (0 - l[i]!.c[n + 1]!) l[i]!.c[n]! (by omega) (by omega);rw [hfp hp] at d1;have d2 := zJQ (cr (enV l[i]!.c[n]! l[i]!.c[n + 1]!)) (cr L) (zAR _) (zAR _) (by omega) (by omega) (by omega) (by omega);rw [zA3, zA3] at d2;generalize enV l[i]!.c[n]! l[i]!.c[n + 1]! = V at *
    have hD : sgnQ (V - L) > 0 ↔ L < V := ⟨fun h => by have := sgnQ_pos.1 h; grind, fun h => sgnQ_pos.2 (by grind)⟩;cases low with
    | false =>
      rw [if_pos (Or.inl rfl)] at hst hz;have hen := hst
      (repeat' (first|refine stp ?_|with_reducible(refine brr ?_ ?_<;>intro h)));all_goals try(conv=>whnf)
      all_goals try (exfalso; omega)
      refine zA0 (j := n + 1) (by omega) (by omega) ?_
      (repeat' (first|refine stp ?_|with_reducible(refine brr ?_ ?_<;>intro h)));all_goals try(conv=>whnf)
      all_goals try (exfalso; omega)
      refine zAA d1 rfl ?_
      (repeat' (first|refine stp ?_|with_reducible(refine brr ?_ ?_<;>intro h)));all_goals try(conv=>whnf)
      all_goals try (exfalso; omega)
      exact ⟨(i + 1, ⟨true, high, V, M⟩), ⟨⟨by omega, hen, by first | exact hz.1 | exact z1, by first | exact hz.2 | exact z2⟩, by show l.length - (i + 1) < l.length - i; omega⟩, [0, 1, 2], [], [], [], ttt, ⟨zAD rfl rfl, zAC rfl rfl, apx, zBA rfl rfl, zBA rfl rfl, apx, apx, zAC rfl rfl, trivial⟩, ⟨bbx, bbx, bbx, trivial⟩, by simp [ren]⟩
    | true =>
      by_cases hlt : L < V
      ·rw [if_pos (Or.inr hlt)] at hst hz
       have hen := hst;have hD2 := hD.2 hlt;clear hD;generalize sgnQ (V - L) = D at *
       (repeat' (first|refine stp ?_|with_reducible(refine brr ?_ ?_<;>intro h)));all_goals try(conv=>whnf)
       all_goals try (exfalso; omega)
       refine zA0 (j := n + 1) (by omega) (by omega) ?_
       (repeat' (first|refine stp ?_|with_reducible(refine brr ?_ ?_<;>intro h)));all_goals try(conv=>whnf)
       all_goals try (exfalso; omega)
       refine zAA d1 rfl ?_
       (repeat' (first|refine stp ?_|with_reducible(refine brr ?_ ?_<;>intro h)));all_goals try(conv=>whnf)
       all_goals try (exfalso; omega)
       refine zAA d2 rfl ?_
       (repeat' (first|refine stp ?_|with_reducible(refine brr ?_ ?_<;>intro h)));all_goals try(conv=>whnf)
       all_goals try (exfalso; omega)
       exact ⟨(i + 1, ⟨true, high, V, M⟩), ⟨⟨by omega, hen, by first | exact hz.1 | exact z1, by first | exact hz.2 | exact z2⟩, by show l.length - (i + 1) < l.length - i; omega⟩, [0, 1, 2], [], [], [], ttt, ⟨zAD rfl rfl, zAC rfl rfl, apx, zBA rfl rfl, zBA rfl rfl, apx, apx, zAC rfl rfl, trivial⟩, ⟨bbx, bbx, bbx, trivial⟩, by simp [ren]⟩
      ·rw [if_neg (by rintro (h | h); cases h; exact hlt h)] at hst hz
       have hen := hst;have hD2 : ¬ sgnQ (V - L) > 0 := fun h => hlt (hD.1 h)
       clear hD;generalize sgnQ (V - L) = D at *
       (repeat' (first|refine stp ?_|with_reducible(refine brr ?_ ?_<;>intro h)));all_goals try(conv=>whnf)
       all_goals try (exfalso; omega)
       refine zA0 (j := n + 1) (by omega) (by omega) ?_
       (repeat' (first|refine stp ?_|with_reducible(refine brr ?_ ?_<;>intro h)));all_goals try(conv=>whnf)
       all_goals try (exfalso; omega)
       refine zAA d1 rfl ?_
       (repeat' (first|refine stp ?_|with_reducible(refine brr ?_ ?_<;>intro h)));all_goals try(conv=>whnf)
       all_goals try (exfalso; omega)
       refine zAA d2 rfl ?_
       (repeat' (first|refine stp ?_|with_reducible(refine brr ?_ ?_<;>intro h)));all_goals try(conv=>whnf)
       all_goals try (exfalso; omega)
       exact ⟨(i + 1, ⟨true, high, L, M⟩), ⟨⟨by omega, hen, by first | exact hz.1 | exact z1, by first | exact hz.2 | exact z2⟩, by show l.length - (i + 1) < l.length - i; omega⟩, [0, 1, 2], [], [], [], ttt, ⟨zAD rfl rfl, zAC rfl rfl, apx, zBA rfl rfl, zBA rfl rfl, apx, apx, zAC rfl rfl, trivial⟩, ⟨bbx, bbx, bbx, trivial⟩, by simp [ren]⟩
   ·rw [if_neg hp] at hst hz
    have d1 := c_rqfracM (0 - l[i]!.c[n + 1]!) l[i]!.c[n]! (by omega) (by omega);rw [hfn (by omega)] at d1;have d2 := zJQ (cr (enV l[i]!.c[n]! l[i]!.c[n + 1]!)) (cr M) (zAR _) (zAR _) (by omega) (by omega) (by omega) (by omega);rw [zA3, zA3] at d2;generalize enV l[i]!.c[n]! l[i]!.c[n + 1]! = V at *
    have hD : sgnQ (V - M) < 0 ↔ V < M := ⟨fun h => by have := sgnQ_neg.1 h; grind, fun h => sgnQ_neg.2 (by grind)⟩;cases high with
    | false =>
      rw [if_pos (Or.inl rfl)] at hst hz;have hen := hst
      (repeat' (first|refine stp ?_|with_reducible(refine brr ?_ ?_<;>intro h)));all_goals try(conv=>whnf)
      all_goals try (exfalso; omega)
      refine zA0 (j := n + 1) (by omega) (by omega) ?_
      (repeat' (first|refine stp ?_|with_reducible(refine brr ?_ ?_<;>intro h)));all_goals try(conv=>whnf)
      all_goals try (exfalso; omega)
      refine zAA d1 rfl ?_
      (repeat' (first|refine stp ?_|with_reducible(refine brr ?_ ?_<;>intro h)));all_goals try(conv=>whnf)
      all_goals try (exfalso; omega)
      exact ⟨(i + 1, ⟨low, true, L, V⟩), ⟨⟨by omega, hen, by first | exact hz.1 | exact z1, by first | exact hz.2 | exact z2⟩, by show l.length - (i + 1) < l.length - i; omega⟩, [0, 1, 2], [], [], [], ttt, ⟨zAD rfl rfl, zAC rfl rfl, apx, zBA rfl rfl, zBA rfl rfl, apx, apx, zAC rfl rfl, trivial⟩, ⟨bbx, bbx, bbx, trivial⟩, by simp [ren]⟩
    | true =>
      by_cases hlt : V < M
      ·rw [if_pos (Or.inr hlt)] at hst hz
       have hen := hst;have hD2 := hD.2 hlt;clear hD;generalize sgnQ (V - M) = D at *
       (repeat' (first|refine stp ?_|with_reducible(refine brr ?_ ?_<;>intro h)));all_goals try(conv=>whnf)
       all_goals try (exfalso; omega)
       refine zA0 (j := n + 1) (by omega) (by omega) ?_
       (repeat' (first|refine stp ?_|with_reducible(refine brr ?_ ?_<;>intro h)));all_goals try(conv=>whnf)
       all_goals try (exfalso; omega)
       refine zAA d1 rfl ?_
       (repeat' (first|refine stp ?_|with_reducible(refine brr ?_ ?_<;>intro h)));all_goals try(conv=>whnf)
       all_goals try (exfalso; omega)
       refine zAA d2 rfl ?_
       (repeat' (first|refine stp ?_|with_reducible(refine brr ?_ ?_<;>intro h)));all_goals try(conv=>whnf)
       all_goals try (exfalso; omega)
       exact ⟨(i + 1, ⟨low, true, L, V⟩), ⟨⟨by omega, hen, by first | exact hz.1 | exact z1, by first | exact hz.2 | exact z2⟩, by show l.length - (i + 1) < l.length - i; omega⟩, [0, 1, 2], [], [], [], ttt, ⟨zAD rfl rfl, zAC rfl rfl, apx, zBA rfl rfl, zBA rfl rfl, apx, apx, zAC rfl rfl, trivial⟩, ⟨bbx, bbx, bbx, trivial⟩, by simp [ren]⟩
      ·rw [if_neg (by rintro (h | h); cases h; exact hlt h)] at hst hz
       have hen := hst;have hD2 : ¬ sgnQ (V - M) < 0 := fun h => hlt (hD.1 h)
       clear hD;generalize sgnQ (V - M) = D at *
       (repeat' (first|refine stp ?_|with_reducible(refine brr ?_ ?_<;>intro h)));all_goals try(conv=>whnf)
       all_goals try (exfalso; omega)
       refine zA0 (j := n + 1) (by omega) (by omega) ?_
       (repeat' (first|refine stp ?_|with_reducible(refine brr ?_ ?_<;>intro h)));all_goals try(conv=>whnf)
       all_goals try (exfalso; omega)
       refine zAA d1 rfl ?_
       (repeat' (first|refine stp ?_|with_reducible(refine brr ?_ ?_<;>intro h)));all_goals try(conv=>whnf)
       all_goals try (exfalso; omega)
       refine zAA d2 rfl ?_
       (repeat' (first|refine stp ?_|with_reducible(refine brr ?_ ?_<;>intro h)));all_goals try(conv=>whnf)
       all_goals try (exfalso; omega)
       exact ⟨(i + 1, ⟨low, true, L, M⟩), ⟨⟨by omega, hen, by first | exact hz.1 | exact z1, by first | exact hz.2 | exact z2⟩, by show l.length - (i + 1) < l.length - i; omega⟩, [0, 1, 2], [], [], [], ttt, ⟨zAD rfl rfl, zAC rfl rfl, apx, zBA rfl rfl, zBA rfl rfl, apx, apx, zAC rfl rfl, trivial⟩, ⟨bbx, bbx, bbx, trivial⟩, by simp [ren]⟩
 ·have ei : i = l.length := by omega
  have hv : endV l n = enR (some ⟨low, high, L, M⟩) := by unfold endV; rw [← ei, i2]
  have he : enR (some ⟨low, high, L, M⟩) = if low = true ∧ high = true ∧ M < L then (2, 0) else if low = false then (3, 0) else (1, L) := rfl
  have lL := zAY z1;have lM := zAY z2;have d2 := zJQ (cr M) (cr L) (zAR _) (zAR _) (by omega) (by omega) (by omega) (by omega);rw [zA3, zA3] at d2;have hD : sgnQ (M - L) < 0 ↔ M < L := ⟨fun h => by have := sgnQ_neg.1 h; grind, fun h => sgnQ_neg.2 (by grind)⟩;rw [hv, he];cases low with
  | false =>
    rw [if_neg (by rintro ⟨h, _⟩; cases h), if_pos rfl]
    (repeat' (first|refine stp ?_|with_reducible(refine brr ?_ ?_<;>intro h)));all_goals try(conv=>whnf)
    all_goals try (exfalso; omega)
    exact zAB rfl (by rw [zCU]; rfl)
  | true =>
    cases high with
    | false =>
      rw [if_neg (by rintro ⟨_, h, _⟩; cases h), if_neg (by decide)]
      (repeat' (first|refine stp ?_|with_reducible(refine brr ?_ ?_<;>intro h)));all_goals try(conv=>whnf)
      all_goals try (exfalso; omega)
      exact zAB rfl rfl
    | true =>
      by_cases hlt : M < L
      ·rw [if_pos ⟨rfl, rfl, hlt⟩]
       have hD2 := hD.2 hlt;clear hD;generalize sgnQ (M - L) = D at *
       (repeat' (first|refine stp ?_|with_reducible(refine brr ?_ ?_<;>intro h)));all_goals try(conv=>whnf)
       all_goals try (exfalso; omega)
       refine zAA d2 rfl ?_
       (repeat' (first|refine stp ?_|with_reducible(refine brr ?_ ?_<;>intro h)));all_goals try(conv=>whnf)
       all_goals try (exfalso; omega)
       exact zAB rfl (by rw [zCU]; rfl)
      ·rw [if_neg (fun h => hlt h.2.2), if_neg (by decide)]
       have hD2 : ¬ sgnQ (M - L) < 0 := fun h => hlt (hD.1 h)
       clear hD;generalize sgnQ (M - L) = D at *
       (repeat' (first|refine stp ?_|with_reducible(refine brr ?_ ?_<;>intro h)));all_goals try(conv=>whnf)
       all_goals try (exfalso; omega)
       refine zAA d2 rfl ?_
       (repeat' (first|refine stp ?_|with_reducible(refine brr ?_ ?_<;>intro h)));all_goals try(conv=>whnf)
       all_goals try (exfalso; omega)
       exact zAB rfl rfl
end Go.PI.Tryz
