/-
  The reference's elimination: the ends of the last variable.
-/
import Derived.Test.YtdgckinmcnjheaaGreatCQA
import Derived.Test.YtdgckinmcnjheaaGreatCPE
import Derived.Test.YtdgckinmcnjheaaGreatCWA
import Derived.Test.YtdgckinmcnjheaaGreatCHA
import Derived.Test.YtdgckinmcnjheaaGreatCWD
set_option linter.unusedVariables false
set_option linter.unusedSimpArgs false
set_option linter.unnecessarySimpa false
namespace Go.PI.Tryz
open Go.Proofs Go.PI
theorem zNI : FO 165 Tryz.f165 [.tmp 2, .tmp 3] 20 := mkO Tryz.func165 Tryz.ntmps165 Tryz.results165
theorem vJC (xs : List Int) (hx : okN xs) (hl : xs.length < 2147483648) : Fn 165 [vA9 xs] (.data (.tup [.int .i64 (smN xs).1, .bool (smN xs).2])) := by
 unfold smN;by_cases h0 : xs = []
 ·subst h0
  refine zAN vA6 hT zNI (by simp [vA9]) ?_;refine sts ?_;exact zAB rfl rfl
 ·rw [if_neg h0]
  have h1 : 0 < xs.length := List.length_pos_iff.2 h0;have hb := hx xs[0]! (get_mem h1);refine zAN vA6 hT zNI (by simp [vA9]) ?_
  (repeat' (first|refine stp ?_|with_reducible(refine brr ?_ ?_<;>intro h)));all_goals try(conv=>whnf)
  all_goals try (exfalso; omega)
  ·exact zAB rfl (by simp [show xs.length = 1 by omega])
  ·exact zAB rfl (by simp [show ¬ xs.length = 1 by omega])
theorem vYN : FO 166 Tryz.f166 [.tmp 4] 12 := mkO Tryz.func166 Tryz.ntmps166 Tryz.results166
theorem vV0 (a b : Nat) (ha : a < 9223372036854775808) (hb : b < 9223372036854775808) : Fn 166 [.int .i64 a, .int .i64 b] (.data (.int .i64 (Nat.gcd a b : Nat))) := by
 refine zAN vA6 hT vYN (by simp) ?_;refine sts ?_;refine zA6 hT (fun ((x, y) : Nat × Nat) => [(0, .int .i64 x), (1, .int .i64 y)]) (fun (x, y) => Nat.gcd x y = Nat.gcd a b ∧ x < 9223372036854775808 ∧ y < 9223372036854775808) (fun (_, y) => y) (a, b) ⟨rfl, ha, hb⟩ ?_ ?_
 ·exact ⟨zAC rfl rfl, zAC rfl rfl, trivial⟩
 intro ⟨x, y⟩ ⟨i1, i2, i3⟩;by_cases hy : y = 0
 ·subst hy
  rw [Nat.gcd_zero_right] at i1;rw [← i1];refine sts ?_
  all_goals try (exfalso; omega)
  exact zAB rfl rfl
 ·have e : ((x : Int).tmod (y : Int)) = ((x % y : Nat) : Int) := by rw [Int.tmod_eq_emod_of_nonneg (by omega)]; omega
  have hlt := Nat.mod_lt x (show 0 < y by omega);have hg : Nat.gcd y (x % y) = Nat.gcd a b := by rw [← i1, Nat.gcd_comm x y, Nat.gcd_rec y x, Nat.gcd_comm]
  (repeat' (first|refine stp ?_|with_reducible(refine brr ?_ ?_<;>intro h)));all_goals try(conv=>whnf)
  all_goals try (exfalso; omega)
  exact ⟨(y, x % y), ⟨⟨hg, by omega, by omega⟩, hlt⟩, zAC rfl rfl, zAC rfl e, trivial⟩
abbrev vHV (c : List Int) : Blk := ⟨c.map (.int .i64), 1, false⟩
theorem zBA (l : List Int) : ∀ e ∈ l.map (PV.int .i64), nr 3 e = true ∧ e ≠ .any := zAW fun _ => ⟨rfl, by simp⟩
theorem zLG (l : List Int) : ∀ e ∈ l.map (PV.int .i64), nr 3 e = true := fun e he => (zBA l e he).1
theorem vRG {c : List Int} {i : Nat} (h : i < c.length) (hd : ¬ 1 < gcD c) : vDX c i = vDX c (i + 1) := by
 rw [← vFM h, show vEV (gcD c) c[i]! = c[i]! by unfold vEV; rw [if_neg hd]];have h1 : i < (vDX c i).length := by rw [zFT c (by omega)]; exact h
 have h2 := vL4 h;rw [getElem!_pos _ i h1] at h2;rw [← h2]; exact (List.set_getElem_self h1).symm
theorem vKK : FO 167 Tryz.f167 [.tmp 2] 53 := mkO Tryz.func167 Tryz.ntmps167 Tryz.results167
theorem zNW (c : List Int) (hc : ∀ x ∈ c, x.natAbs ≤ 4611686018427387904) (hl : c.length ≤ 1000000) : Fn 167 [.own 0 0 c.length] (.wrt (vHV c) (.bool (vH0 c)) (vHV (vD4 c))) := by
 have hd := vT0 hc c.length (Nat.le_refl _);have hdd : gcD c = gcI c c.length := rfl;refine zCF vA6 hT vKK (by simp) ?_;refine sts ?_
 refine zAG hT (fun (i : Nat) => [(0, .own 0 0 c.length), (3, .int .i64 (gcI c i)), (4, .int .i64 i)]) (fun i => [(0, vHV c)]) [] 1
  (fun i => i ≤ c.length) (fun i => c.length - i) 0 (Nat.zero_le _) (by decide) (by simp) ?_ ?_
 ·exact ⟨[], [], [], [], ttt, ⟨zAF (by decide) rfl rfl, zAC rfl rfl, zAC rfl rfl, trivial⟩, ⟨zAD (by decide) rfl rfl (zBA c) rfl, trivial⟩, by simp [ren]⟩
 intro i i1;by_cases hi : i < c.length
 ·have hx := hc c[i]! (get_mem hi)
  have hg := vT0 hc i (by omega);have cg := vV0 c[i]!.natAbs (gcI c i) (by omega) (by omega);rw [← vGI hi] at cg;have hm : (if 0 - c[i]! > c[i]! then 0 - c[i]! else c[i]!) = (c[i]!.natAbs : Int) := by split <;> omega
  (repeat' (first|refine stp ?_|with_reducible(refine brr ?_ ?_<;>intro h)));all_goals try(conv=>whnf)
  all_goals try (exfalso; omega)
  refine zAU i (Nat.zero_add _) hi ?_;refine sts ?_;refine zAU i (Nat.zero_add _) hi ?_;refine sts ?_;rw [hm];refine zAA cg rfl ?_;refine sts ?_;exact ⟨i + 1, ⟨by omega, by show c.length - (i + 1) < c.length - i; omega⟩, [], [], [], [], ttt, ⟨zAF (by decide) rfl rfl, zAC rfl rfl, zAC rfl rfl, trivial⟩, ⟨zAD (by decide) rfl rfl (zBA c) rfl, trivial⟩, by simp [ren]⟩
 have ei : i = c.length := by omega
 rw [ei, ← hdd]
 (repeat' (first|refine stp ?_|with_reducible(refine brr ?_ ?_<;>intro h)));all_goals try(conv=>whnf)
 all_goals try (exfalso; omega)
 refine zAG hT (fun (i : Nat) => [(0, .own 0 0 c.length), (3, .int .i64 (gcD c)), (5, .int .i64 i)]) (fun i => [(0, vHV (vDX c i))]) [] 1
  (fun i => i ≤ c.length ∧ i ≤ vFL (gcD c) c) (fun i => c.length - i) 0 ⟨Nat.zero_le _, Nat.zero_le _⟩ (by decide) (by simp) ?_ ?_
 ·exact ⟨[], [], [], [], ttt, ⟨zAF (by decide) rfl rfl, zAC rfl rfl, zAC rfl rfl, trivial⟩, ⟨zAD (by decide) rfl (by rw [vRF]) (zBA _) rfl, trivial⟩, by simp [ren]⟩
 intro i ⟨i1, i2⟩;have hil := zFT c i1;by_cases hi : i < c.length
 ·have hx := hc c[i]! (get_mem hi)
  have hgt := vL4 hi;have hgn := uC0 hi;have hln := zFT c (i := i + 1) (by omega);have hdv := uEX (d := gcD c) (x := c[i]!) (B := 4611686018427387904) (by omega)
  have hok : i < vFL (gcD c) c ↔ okG (vEV (gcD c) c[i]!) := by
   constructor
   ·exact vJ7 _ c i
   ·intro h
    refine Nat.lt_of_le_of_ne i2 fun e => ?_
    have := vRE (gcD c) c (by omega);rw [← e] at this; exact this h
  have hred : ¬ i < vFL (gcD c) c → vD4 c = vDX c (i + 1) ∧ vH0 c = false := fun h => by
   have e : vFL (gcD c) c = i := by omega
   exact ⟨by unfold vD4; rw [e, Nat.min_eq_left (by omega)], decide_eq_false (by omega)⟩
  unfold okG at hok;by_cases hg : 1 < gcD c
  ·have hdr : vEV (gcD c) c[i]! = c[i]!.tdiv (gcD c) := by unfold vEV; rw [if_pos hg]
   have hst := vFM hi;rw [hdr] at hst hgn hdv hok;refine sus ?_
   all_goals try (exfalso; omega)
   refine zAX ?_; (repeat' (first|refine stu ?_|with_reducible(refine brr ?_ ?_<;>intro h)));all_goals try(conv=>whnf)
   (refine zAX ?_; refine sus ?_)
   refine zAX ?_; (repeat' (first|refine stu ?_|with_reducible(refine brr ?_ ?_<;>intro h)));all_goals try(conv=>whnf)
   all_goals try (exfalso; omega)
   refine zAU i (Nat.zero_add _) (by omega) ?_;rw [hgt];refine sus ?_;refine zAU i (Nat.zero_add _) (by omega) ?_;refine sus ?_
   refine vB7 [] [(0, .own 0 0 c.length), (3, .int .i64 (gcD c)), (5, .int .i64 i)] [(0, vHV (vDX c (i + 1)))] [] 1 (by decide) (by simp) trivial
    ⟨[], [], [], [], ttt, ⟨zAF (by decide) rfl rfl, zAC rfl rfl, zAC rfl rfl, trivial⟩, ⟨zAD (by decide) rfl (by rw [← hst]; exact zBB (Nat.zero_add _) rfl) (zBA _) rfl, trivial⟩, by simp [ren]⟩ ?_
   refine sus ?_
   all_goals try (exfalso; omega)
   refine zAU i (Nat.zero_add _) (by omega) ?_;rw [hgn]
   (repeat' (first|refine stu ?_|with_reducible(refine brr ?_ ?_<;>intro h)));all_goals try(conv=>whnf)
   ·(refine zAX ?_; refine sus ?_)
    obtain ⟨e1, e2⟩ := hred (by omega);rw [e1, e2];refine sts ?_;exact zBU rfl rfl rfl rfl rfl (zLG _)
   refine zAU i (Nat.zero_add _) (by omega) ?_;rw [hgn];refine sus ?_;refine zAX ?_; (repeat' (first|refine stu ?_|with_reducible(refine brr ?_ ?_<;>intro h)));all_goals try(conv=>whnf)
   ·obtain ⟨e1, e2⟩ := hred (by omega)
    rw [e1, e2];refine sts ?_;exact zBU rfl rfl rfl rfl rfl (zLG _)
   (refine zAX ?_; refine sus ?_)
   exact ⟨i + 1, ⟨⟨by omega, by omega⟩, by show c.length - (i + 1) < c.length - i; omega⟩, [], [], [], [], ttt, ⟨zAF (by decide) rfl rfl, zAC rfl rfl, zAC rfl rfl, trivial⟩, ⟨zAD (by decide) rfl rfl (zBA _) rfl, trivial⟩, by simp [ren]⟩
  ·have hdr : vEV (gcD c) c[i]! = c[i]! := by unfold vEV; rw [if_neg hg]
   have hst := vRG hi hg;rw [hdr] at hgn hdv hok;refine sus ?_
   all_goals try (exfalso; omega)
   refine zAX ?_; (repeat' (first|refine stu ?_|with_reducible(refine brr ?_ ?_<;>intro h)));all_goals try(conv=>whnf)
   (refine zAX ?_; refine sus ?_)
   refine zAX ?_; (repeat' (first|refine stu ?_|with_reducible(refine brr ?_ ?_<;>intro h)));all_goals try(conv=>whnf)
   all_goals try (exfalso; omega)
   refine vB7 [] [(0, .own 0 0 c.length), (3, .int .i64 (gcD c)), (5, .int .i64 i)] [(0, vHV (vDX c (i + 1)))] [] 1 (by decide) (by simp) trivial
    ⟨[], [], [], [], ttt, ⟨zAF (by decide) rfl rfl, zAC rfl rfl, zAC rfl rfl, trivial⟩, ⟨zAD (by decide) rfl (congrArg (List.map (PV.int .i64)) hst) (zBA _) rfl, trivial⟩, by simp [ren]⟩ ?_
   refine sus ?_
   all_goals try (exfalso; omega)
   refine zAU i (Nat.zero_add _) (by omega) ?_;rw [hgn]
   (repeat' (first|refine stu ?_|with_reducible(refine brr ?_ ?_<;>intro h)));all_goals try(conv=>whnf)
   ·(refine zAX ?_; refine sus ?_)
    obtain ⟨e1, e2⟩ := hred (by omega);rw [e1, e2];refine sts ?_;exact zBU rfl rfl rfl rfl rfl (zLG _)
   refine zAU i (Nat.zero_add _) (by omega) ?_;rw [hgn];refine sus ?_;refine zAX ?_; (repeat' (first|refine stu ?_|with_reducible(refine brr ?_ ?_<;>intro h)));all_goals try(conv=>whnf)
   ·obtain ⟨e1, e2⟩ := hred (by omega)
    rw [e1, e2];refine sts ?_;exact zBU rfl rfl rfl rfl rfl (zLG _)
   (refine zAX ?_; refine sus ?_)
   exact ⟨i + 1, ⟨⟨by omega, by omega⟩, by show c.length - (i + 1) < c.length - i; omega⟩, [], [], [], [], ttt, ⟨zAF (by decide) rfl rfl, zAC rfl rfl, zAC rfl rfl, trivial⟩, ⟨zAD (by decide) rfl rfl (zBA _) rfl, trivial⟩, by simp [ren]⟩
 have ei2 : i = c.length := by omega
 have hk : vFL (gcD c) c = c.length := by have := vRD (gcD c) c; omega
 have e1 : vD4 c = vDX c i := by unfold vD4; rw [hk, ei2, Nat.min_eq_right (by omega)]
 have e2 : vH0 c = true := decide_eq_true hk;rw [e1, e2]
 (repeat' (first|refine stp ?_|with_reducible(refine brr ?_ ?_<;>intro h)));all_goals try(conv=>whnf)
 all_goals try (exfalso; omega)
 exact zBU rfl rfl rfl rfl rfl (zLG _)
theorem vS4 : FO 168 Tryz.f168 [.tmp 2] 14 := mkO Tryz.func168 Tryz.ntmps168 Tryz.results168
theorem uAF (x : Nat) (hx : x < 18446744073709551616) : Fn 168 [.int .u64 x] (.data (.int .i64 (vV7 x : Nat))) := by
 have h64 : x < 2 ^ 64 := hx;refine zAN vA6 hT vS4 (by simp) ?_;refine sts ?_;refine zA6 hT (fun ((k, y, s) : Nat × Nat × Nat) => [(0, .int .u64 y), (3, .int .i64 s)]) (fun (k, y, s) => s + k ≤ 64 ∧ y < 2 ^ k ∧ s + vEQ k y = vV7 x) (fun (k, _, _) => k) (64, x, 0) ⟨Nat.le_refl _, h64, Nat.zero_add _⟩ ?_ ?_
 ·exact ⟨zAC rfl rfl, zAC rfl rfl, trivial⟩
 intro ⟨k, y, s⟩ ⟨i0, i1, i2⟩;by_cases hy : y = 0
 ·subst hy
  have e : vEQ k 0 = 0 := by cases k <;> simp [vEQ]
  rw [← i2, e];refine sts ?_
  all_goals try (exfalso; omega)
  exact zAB rfl rfl
 ·have hk : k ≠ 0 := by rintro rfl; simp at i1; omega
  obtain ⟨k, rfl⟩ := Nat.exists_eq_succ_of_ne_zero hk;have e2 : vEQ (k + 1) y = y % 2 + vEQ k (y / 2) := by simp [vEQ, hy]
  have hb := vG5 k (y / 2);have i1' : y / 2 < 2 ^ k := by rw [Nat.pow_succ] at i1; omega
  have hyl : y < 18446744073709551616 := Nat.lt_of_lt_of_le i1 (show 2 ^ (k + 1) ≤ 2 ^ 64 from Nat.pow_le_pow_right (by decide) (by omega));rw [e2] at i2;have e3 : ((y : Int).tmod 2) = ((y % 2 : Nat) : Int) := by rw [Int.tmod_eq_emod_of_nonneg (by omega)]; omega
  have e4 : ((y : Int).tdiv 2) = ((y / 2 : Nat) : Int) := by rw [Int.tdiv_eq_ediv_of_nonneg (by omega)]; omega
  (repeat' (first|refine stp ?_|with_reducible(refine brr ?_ ?_<;>intro h)));all_goals try(conv=>whnf)
  all_goals try (exfalso; omega)
  exact ⟨(k, y / 2, s + y % 2), ⟨⟨by omega, i1', by omega⟩, Nat.lt_succ_self _⟩, zAC rfl e4, zAC rfl (by rw [e3]; omega), trivial⟩
set_option maxHeartbeats 2000000
theorem vO8 : FO 122 Tryz.f122 [.tmp 4, .tmp 5] 109 := mkO Tryz.func122 Tryz.ntmps122 Tryz.results122
theorem vV2 (f : QF) (vars k : Nat) (hf : szF k f) (hk : k ≤ 900000000) (hs : f.ts.Pairwise (fun p q => p.1 < q.1)) (hl : f.ts.length ≤ 1048576) (hv : vars ≤ 1000) (hk1 : 1 ≤ k) : Fn 122 [vA5 f, .int .i64 vars] (.data (.tup [encI (vEH (frX f vars)).1, .bool (vEH (frX f vars)).2])) := by
 have hxl := vGL f vars;have hxg : ∀ i, i < vars + 1 → (frX f vars)[i]! = if i < vars then cf f.ts i else f.c := fun i hi => vK0 hi
 have hxs : ∀ i, i < vars + 1 → sz k (frX f vars)[i]! := fun i hi => by
  rw [hxg i hi]; split
  ·exact Go.PI.vK9 hk1 hs hf.2
  ·exact hf.1
 have no1 : ¬ uHH (frX f vars) → vEH (frX f vars) = ([], false) := fun h => by unfold vEH; rw [if_neg (fun e => h e.1)]
 have no2 : ¬ uF4 (frX f vars) (frX f vars).length → vEH (frX f vars) = ([], false) := fun h => by unfold vEH; rw [if_neg (fun e => h e.2)]
 have yes : uHH (frX f vars) ∧ uF4 (frX f vars) (frX f vars).length → vEH (frX f vars) = (vD4 (meL (frX f vars)), vH0 (meL (frX f vars))) := fun h => by unfold vEH; rw [if_pos h]
 generalize frX f vars = xs at *
 generalize vEH xs = DV at *
 have hn0 : List.replicate xs.length (0 : Int) = nuI xs 0 := (zLY _ _ _).symm;have hd0 : List.replicate xs.length (0 : Int) = deI xs 0 := (zLY _ _ _).symm;refine zAN vA6 hT vO8 (by simp [vA5]) ?_;refine sts ?_
 all_goals try (exfalso; omega)
 refine zAG hT (fun (i : Nat) => [(1, .int .i64 vars), (2, .ptr 0 0 0), (6, .own 1 0 xs.length), (7, .own 2 0 xs.length), (8, .int .i64 i)]) (fun i => [(0, ⟨[vA5 f], 4, true⟩), (1, vHV (nuI xs i)), (2, vHV (deI xs i))]) [] 3
  (fun i => i ≤ xs.length ∧ ∀ j, j < i → okX xs[j]!) (fun i => xs.length - i) 0 ⟨Nat.zero_le _, fun j h => by omega⟩ (by decide) (by simp) ?_ ?_
 ·exact ⟨[0, 5, 9], [], [], [], ttt, ⟨zAC rfl rfl, apx, zAF (by decide) rfl (by omega), zAF (by decide) rfl (by omega), zAC rfl rfl, trivial⟩, ⟨bbx, zAD (by decide) rfl (by rw [← hn0, hxl]; simp [List.replicate_succ]) (zBA _) rfl, zAD (by decide) rfl (by rw [← hd0, hxl]; simp [List.replicate_succ]) (zBA _) rfl, trivial⟩, by simp [ren]⟩
 intro i ⟨i1, i2⟩;have hnl := vTB xs i;have hdl := vGU xs i;by_cases hi : i < xs.length
 ·have hX := hxg i (by omega)
  have hXs := hxs i (by omega);have hnu := uD6 hi;have hde := uEZ hi;have hno : ¬ okX xs[i]! → DV = ([], false) := fun h => no1 fun e => h (e i hi)
  have hst : okX xs[i]! → ∀ j, j < i + 1 → okX xs[j]! := fun h j hj => zA2 (p := fun j => okX xs[j]!) i2 h hj
  generalize xs[i]! = X at *
  have lX := zAL hXs;have okr := zAI X;have s1 := vJC (cr X).num okr.1 (by omega);have s2 := vJC (cr X).den okr.2 (by omega);obtain ⟨a1, a2⟩ := uGL X;obtain ⟨b1, b2⟩ := uGM X;have hxn := uIA X;rcases hm1 : smN (cr X).num with ⟨N, NB⟩
  rcases hm2 : smN (cr X).den with ⟨D, DB⟩
  rw [hm1] at a1 a2 s1;rw [hm2] at b1 b2 s2;dsimp only at a1 a2 b1 b2 s1 s2;by_cases hv2 : i < vars
  ·have d1 := vZ1 f i k hf (by omega) hs hl
   rw [if_pos hv2] at hX;rw [← hX] at d1;refine sus ?_;refine zAX ?_; (repeat' (first|refine stu ?_|with_reducible(refine brr ?_ ?_<;>intro h)));all_goals try(conv=>whnf)
   all_goals try (exfalso; omega)
   (refine zAX ?_; refine sus ?_)
   (refine zAX ?_; refine sus ?_)
   all_goals try (exfalso; omega)
   refine zAX ?_; (repeat' (first|refine stu ?_|with_reducible(refine brr ?_ ?_<;>intro h)));all_goals try(conv=>whnf)
   all_goals try (exfalso; omega)
   refine zAA d1 rfl ?_;refine sus ?_
   refine vB7 [] [(1, .int .i64 vars), (2, .ptr 0 0 0), (6, .own 1 0 xs.length), (7, .own 2 0 xs.length), (8, .int .i64 i), (9, .ptr 3 0 0)] [(0, ⟨[vA5 f], 4, true⟩), (1, vHV (nuI xs i)), (2, vHV (deI xs i)), (3, ⟨[vAZ (cr X)], 3, true⟩)] [] 4 (by decide) (by simp) trivial
    ⟨[0, 1, 2, 8], [], [], [], ttt, ⟨zAC rfl rfl, apx, zAF (by decide) rfl rfl, zAF (by decide) rfl rfl, zAC rfl rfl, apx, trivial⟩, ⟨bbx, zAD (by decide) rfl rfl (zBA _) rfl, zAD (by decide) rfl rfl (zBA _) rfl, bbx, trivial⟩, by simp [ren]⟩ ?_
   cases NB with
   | false =>
     have hne : ¬ okX X := fun e => absurd (a1.2 e.1) (by decide)
     rw [hno hne];refine sts ?_;refine zAA s1 rfl ?_;refine sts ?_;refine zAA s2 rfl ?_;refine sts ?_;exact zAB rfl rfl
   | true =>
     cases DB with
     | false =>
       have hne : ¬ okX X := fun e => absurd (b1.2 e.2) (by decide)
       rw [hno hne];refine sts ?_;refine zAA s1 rfl ?_;refine sts ?_;refine zAA s2 rfl ?_;refine sts ?_;exact zAB rfl rfl
     | true =>
       have ho : okX X := ⟨a1.1 rfl, b1.1 rfl⟩;have e1 := a2 ho.1;have e2 := b2 ho.2;have hb1 := ho.1;refine sts ?_;refine zAA s1 rfl ?_;refine sts ?_;refine zAA s2 rfl ?_
       (repeat' (first|refine stp ?_|with_reducible(refine brr ?_ ?_<;>intro h)));all_goals try(conv=>whnf)
       ·have hxn2 : X.num = 0 - N := by
         have h9 := (by assumption : (cr X).neg = true);rw [hxn] at h9;have := of_decide_eq_true h9; omega
        refine zAU i (Nat.zero_add _) (by omega) ?_;refine sts ?_;refine zAU i (Nat.zero_add _) (by omega) ?_;refine sts ?_;exact ⟨i + 1, ⟨⟨by omega, hst ho⟩, by show xs.length - (i + 1) < xs.length - i; omega⟩, [0, 1, 2], [], [], [], ttt, ⟨zAC rfl rfl, apx, zAF (by decide) rfl rfl, zAF (by decide) rfl rfl, zAC rfl rfl, trivial⟩, ⟨bbx, zAD (by decide) rfl (by rw [← hnu, hxn2]; exact zBB (Nat.zero_add _) rfl) (zBA _) rfl, zAD (by decide) rfl (by rw [← hde, ← e2]; exact zBB (Nat.zero_add _) rfl) (zBA _) rfl, trivial⟩, by simp [ren]⟩
       ·have hxn2 : X.num = N := by
         have h9 := (by assumption : (cr X).neg = false);rw [hxn] at h9;have := of_decide_eq_false h9;omega
        refine zAU i (Nat.zero_add _) (by omega) ?_;refine sts ?_;refine zAU i (Nat.zero_add _) (by omega) ?_;refine sts ?_;exact ⟨i + 1, ⟨⟨by omega, hst ho⟩, by show xs.length - (i + 1) < xs.length - i; omega⟩, [0, 1, 2], [], [], [], ttt, ⟨zAC rfl rfl, apx, zAF (by decide) rfl rfl, zAF (by decide) rfl rfl, zAC rfl rfl, trivial⟩, ⟨bbx, zAD (by decide) rfl (by rw [← hnu, hxn2]; exact zBB (Nat.zero_add _) rfl) (zBA _) rfl, zAD (by decide) rfl (by rw [← hde, ← e2]; exact zBB (Nat.zero_add _) rfl) (zBA _) rfl, trivial⟩, by simp [ren]⟩
  ·rw [if_neg hv2] at hX
   refine sus ?_;refine zAX ?_; (repeat' (first|refine stu ?_|with_reducible(refine brr ?_ ?_<;>intro h)));all_goals try(conv=>whnf)
   all_goals try (exfalso; omega)
   (refine zAX ?_; refine sus ?_)
   (refine zAX ?_; refine sus ?_)
   all_goals try (exfalso; omega)
   refine zAX ?_; (repeat' (first|refine stu ?_|with_reducible(refine brr ?_ ?_<;>intro h)));all_goals try(conv=>whnf)
   all_goals try (exfalso; omega)
   refine vB7 [] [(1, .int .i64 vars), (2, .ptr 0 0 0), (6, .own 1 0 xs.length), (7, .own 2 0 xs.length), (8, .int .i64 i), (9, .ptr 3 0 0)] [(0, ⟨[vA5 f], 4, true⟩), (1, vHV (nuI xs i)), (2, vHV (deI xs i)), (3, ⟨[vAZ (cr X)], 3, true⟩)] [] 4 (by decide) (by simp) trivial
    ⟨[0, 1, 2, 8], [], [], [], ttt, ⟨zAC rfl rfl, apx, zAF (by decide) rfl rfl, zAF (by decide) rfl rfl, zAC rfl rfl, apx, trivial⟩, ⟨bbx, zAD (by decide) rfl rfl (zBA _) rfl, zAD (by decide) rfl rfl (zBA _) rfl, zD6 (by decide) rfl (by rw [hX]; rfl) rfl rfl rfl, trivial⟩, by simp [ren]⟩ ?_
   cases NB with
   | false =>
     have hne : ¬ okX X := fun e => absurd (a1.2 e.1) (by decide)
     rw [hno hne];refine sts ?_;refine zAA s1 rfl ?_;refine sts ?_;refine zAA s2 rfl ?_;refine sts ?_;exact zAB rfl rfl
   | true =>
     cases DB with
     | false =>
       have hne : ¬ okX X := fun e => absurd (b1.2 e.2) (by decide)
       rw [hno hne];refine sts ?_;refine zAA s1 rfl ?_;refine sts ?_;refine zAA s2 rfl ?_;refine sts ?_;exact zAB rfl rfl
     | true =>
       have ho : okX X := ⟨a1.1 rfl, b1.1 rfl⟩;have e1 := a2 ho.1;have e2 := b2 ho.2;have hb1 := ho.1;refine sts ?_;refine zAA s1 rfl ?_;refine sts ?_;refine zAA s2 rfl ?_
       (repeat' (first|refine stp ?_|with_reducible(refine brr ?_ ?_<;>intro h)));all_goals try(conv=>whnf)
       ·have hxn2 : X.num = 0 - N := by
         have h9 := (by assumption : (cr X).neg = true);rw [hxn] at h9;have := of_decide_eq_true h9; omega
        refine zAU i (Nat.zero_add _) (by omega) ?_;refine sts ?_;refine zAU i (Nat.zero_add _) (by omega) ?_;refine sts ?_;exact ⟨i + 1, ⟨⟨by omega, hst ho⟩, by show xs.length - (i + 1) < xs.length - i; omega⟩, [0, 1, 2], [], [], [], ttt, ⟨zAC rfl rfl, apx, zAF (by decide) rfl rfl, zAF (by decide) rfl rfl, zAC rfl rfl, trivial⟩, ⟨bbx, zAD (by decide) rfl (by rw [← hnu, hxn2]; exact zBB (Nat.zero_add _) rfl) (zBA _) rfl, zAD (by decide) rfl (by rw [← hde, ← e2]; exact zBB (Nat.zero_add _) rfl) (zBA _) rfl, trivial⟩, by simp [ren]⟩
       ·have hxn2 : X.num = N := by
         have h9 := (by assumption : (cr X).neg = false);rw [hxn] at h9;have := of_decide_eq_false h9;omega
        refine zAU i (Nat.zero_add _) (by omega) ?_;refine sts ?_;refine zAU i (Nat.zero_add _) (by omega) ?_;refine sts ?_;exact ⟨i + 1, ⟨⟨by omega, hst ho⟩, by show xs.length - (i + 1) < xs.length - i; omega⟩, [0, 1, 2], [], [], [], ttt, ⟨zAC rfl rfl, apx, zAF (by decide) rfl rfl, zAF (by decide) rfl rfl, zAC rfl rfl, trivial⟩, ⟨bbx, zAD (by decide) rfl (by rw [← hnu, hxn2]; exact zBB (Nat.zero_add _) rfl) (zBA _) rfl, zAD (by decide) rfl (by rw [← hde, ← e2]; exact zBB (Nat.zero_add _) rfl) (zBA _) rfl, trivial⟩, by simp [ren]⟩
 have ei : i = xs.length := by omega
 have hall : uHH xs := fun j hj => i2 j (by omega)
 rw [ei]
 (repeat' (first|refine stp ?_|with_reducible(refine brr ?_ ?_<;>intro h)));all_goals try(conv=>whnf)
 all_goals try (exfalso; omega)
 refine zAG hT (fun (i : Nat) => [(1, .int .i64 vars), (6, .own 1 0 xs.length), (7, .own 2 0 xs.length), (14, .int .i64 (laI xs i)), (15, .int .i64 i)]) (fun i => [(1, vHV (nuI xs xs.length)), (2, vHV (deI xs xs.length))]) [] 3
  (fun i => i ≤ xs.length ∧ uF4 xs i) (fun i => xs.length - i) 0 ⟨Nat.zero_le _, fun j h => by omega⟩ (by decide) (by simp) ?_ ?_
 ·exact ⟨[0, 1, 2], [], [], [], ttt, ⟨zAC rfl rfl, zAF (by decide) rfl rfl, zAF (by decide) rfl rfl, zAC rfl rfl, zAC rfl rfl, trivial⟩, ⟨zAD (by decide) rfl rfl (zBA _) rfl, zAD (by decide) rfl rfl (zBA _) rfl, trivial⟩, by simp [ren]⟩
 intro i ⟨i1, i2⟩;have hnl := vTB xs xs.length;have hdl := vGU xs xs.length;by_cases hi : i < xs.length
 ·have hdg := vUT hi
  have hd := (hall i hi).2;have hdp := xs[i]!.den_pos;have hla := vTM i2;have hlp := vKW xs i;have hll := uHR xs i;have hmul : laI xs i * xs[i]!.den ≤ 1073741824 * 1073741824 := Nat.mul_le_mul hla hd;have cg := vV0 (laI xs i) xs[i]!.den (by omega) (by omega);have hgp : 0 < Nat.gcd (laI xs i) xs[i]!.den := Nat.gcd_pos_of_pos_left _ hlp
  have eq1 : ((laI xs i : Int).tdiv (Nat.gcd (laI xs i) xs[i]!.den : Nat)) = ((laI xs i / Nat.gcd (laI xs i) xs[i]!.den : Nat) : Int) := by
   rw [Int.tdiv_eq_ediv_of_nonneg (by omega)]; exact_mod_cast rfl
  have eq2 : ((laI xs i / Nat.gcd (laI xs i) xs[i]!.den : Nat) : Int) * (xs[i]!.den : Int) = (laI xs (i + 1) : Int) := by
   show _ = ((laI xs i / Nat.gcd (laI xs i) xs[i]!.den * xs[i]!.den : Nat) : Int)
   rw [Int.natCast_mul]
  have hno : ¬ laI xs (i + 1) ≤ 1073741824 → DV = ([], false) := fun h => no2 fun e => h (e i hi)
  have hst : laI xs (i + 1) ≤ 1073741824 → uF4 xs (i + 1) := fun h j hj => zA2 (p := fun j => laI xs (j + 1) ≤ 1073741824) i2 h hj
  generalize Nat.gcd (laI xs i) xs[i]!.den = gg at *
  have hqb := Int.natAbs_tdiv_le_natAbs (laI xs i : Int) (gg : Int)
  (repeat' (first|refine stp ?_|with_reducible(refine brr ?_ ?_<;>intro h)));all_goals try(conv=>whnf)
  all_goals try (exfalso; omega)
  refine zAU i (Nat.zero_add _) (by omega) ?_;rw [hdg];refine sts ?_;refine zAA cg rfl ?_;refine sts ?_
  all_goals try (exfalso; omega)
  refine zAU i (Nat.zero_add _) (by omega) ?_;rw [hdg, eq1]
  (repeat' (first|refine stp ?_|with_reducible(refine brr ?_ ?_<;>intro h)));all_goals try(conv=>whnf)
  ·rw [hno (by omega)]
   exact zAB rfl rfl
  ·exact ⟨i + 1, ⟨⟨by omega, hst (by omega)⟩, by show xs.length - (i + 1) < xs.length - i; omega⟩, [0, 1, 2], [], [], [], ttt, ⟨zAC rfl rfl, zAF (by decide) rfl rfl, zAF (by decide) rfl rfl, zAC rfl eq2, zAC rfl rfl, trivial⟩, ⟨zAD (by decide) rfl rfl (zBA _) rfl, zAD (by decide) rfl rfl (zBA _) rfl, trivial⟩, by simp [ren]⟩
 have ei : i = xs.length := by omega
 rw [ei] at i2 ⊢;have hla := vTM i2;have hsz := uJR hall hla
 (repeat' (first|refine stp ?_|with_reducible(refine brr ?_ ?_<;>intro h)));all_goals try(conv=>whnf)
 all_goals try (exfalso; omega)
 refine zAG hT (fun (i : Nat) => [(1, .int .i64 vars), (6, .own 1 0 xs.length), (7, .own 2 0 xs.length), (14, .int .i64 (laI xs xs.length)), (16, .int .i64 i)]) (fun i => [(1, vHV (meI xs i)), (2, vHV (deI xs xs.length))]) [] 3
  (fun i => i ≤ xs.length) (fun i => xs.length - i) 0 (Nat.zero_le _) (by decide) (by simp) ?_ ?_
 ·exact ⟨[0, 1, 2], [], [], [], ttt, ⟨zAC rfl rfl, zAF (by decide) rfl rfl, zAF (by decide) rfl rfl, zAC rfl rfl, zAC rfl rfl, trivial⟩, ⟨zAD (by decide) rfl (by rw [vYV]) (zBA _) rfl, zAD (by decide) rfl rfl (zBA _) rfl, trivial⟩, by simp [ren]⟩
 intro i i1;have hml := zJJ xs i;have hdl := vGU xs xs.length;by_cases hi : i < xs.length
 ·have hdg := vUT hi
  have hmg := uEB hi;have hms := uEA hi;have hdp := xs[i]!.den_pos;have hnb := (hall i hi).1
  have eq1 : ((laI xs xs.length : Int).tdiv (xs[i]!.den : Int)) = ((laI xs xs.length / xs[i]!.den : Nat) : Int) := by
   rw [Int.tdiv_eq_ediv_of_nonneg (by omega)]; exact_mod_cast rfl
  have hqb : laI xs xs.length / xs[i]!.den ≤ 1073741824 := Nat.le_trans (Nat.div_le_self _ _) hla
  have hpb : (xs[i]!.num * ((laI xs xs.length / xs[i]!.den : Nat) : Int)).natAbs ≤ 1073741824 * 1073741824 := by
   rw [Int.natAbs_mul, Int.natAbs_natCast]; exact Nat.mul_le_mul hnb hqb
  generalize laI xs xs.length / xs[i]!.den = qq at *
  (repeat' (first|refine stp ?_|with_reducible(refine brr ?_ ?_<;>intro h)));all_goals try(conv=>whnf)
  all_goals try (exfalso; omega)
  refine zAU i (Nat.zero_add _) (by omega) ?_;rw [hmg];refine sts ?_;refine zAU i (Nat.zero_add _) (by omega) ?_;rw [hdg];refine sts ?_
  all_goals try (exfalso; omega)
  rw [eq1];refine sts ?_;refine zAU i (Nat.zero_add _) (by omega) ?_;refine sts ?_;exact ⟨i + 1, ⟨by omega, by show xs.length - (i + 1) < xs.length - i; omega⟩, [0, 1, 2], [], [], [], ttt, ⟨zAC rfl rfl, zAF (by decide) rfl rfl, zAF (by decide) rfl rfl, zAC rfl rfl, zAC rfl rfl, trivial⟩, ⟨zAD (by decide) rfl (by rw [← hms]; exact zBB (Nat.zero_add _) rfl) (zBA _) rfl, zAD (by decide) rfl rfl (zBA _) rfl, trivial⟩, by simp [ren]⟩
 have ei : i = xs.length := by omega
 rw [ei, show meI xs xs.length = meL xs from rfl];have hml2 : (meL xs).length = xs.length := zJJ xs _;have cr' := zNW (meL xs) (fun x hx => Nat.le_trans (hsz _ (Nat.le_refl _) x hx) (by decide)) (by omega);rw [hml2] at cr';have hrl : (vD4 (meL xs)).length = xs.length := by rw [zKJ]; exact hml2
 rw [yes ⟨hall, i2⟩]
 (repeat' (first|refine stp ?_|with_reducible(refine brr ?_ ?_<;>intro h)));all_goals try(conv=>whnf)
 all_goals try (exfalso; omega)
 refine zIN (r := 1) cr' rfl rfl rfl rfl (zA7 (zBA _)) (by decide) ?_;refine sts ?_;exact zAB (zE0 (zAP (zAH rfl rfl hrl.symm fun _ => rfl) rfl)) rfl
set_option maxHeartbeats 2000000
theorem vO2 : FO 123 Tryz.f123 [.tmp 4] 39 := mkO Tryz.func123 Tryz.ntmps123 Tryz.results123
theorem vVS (l : List FR) (v m : Nat) (hl : l.length ≤ 1000000) (hr : ∀ r ∈ l, okRw m r) (hv : v < m) : Fn 123 [.imm (l.map vCH), .int .i64 v] (.data (.int .i64 (vB1 l v : Nat))) := by
 refine zAN vA6 hT vO2 (by simp) ?_;refine sts ?_;refine zA6 hT (fun (i : Nat) => [(0, .imm (l.map vCH)), (1, .int .i64 v), (5, .int .i64 (upI l v i)), (6, .int .i64 (dnI l v i)), (7, .int .i64 i)]) (fun i => i ≤ l.length) (fun i => l.length - i) 0 (Nat.zero_le _) ?_ ?_
 ·exact ⟨zAE rfl rfl, zAC rfl rfl, zAC rfl rfl, zAC rfl rfl, zAC rfl rfl, trivial⟩
 intro i i1;have hu := uGD l v i;have hd := vUN l v i;by_cases hi : i < l.length
 ·have ho := hr l[i]! (get_mem hi)
  have hcl := ho.len;have hus := vE2 (v := v) hi;have hds := vGS (v := v) hi;by_cases h1 : 0 < l[i]!.c[v]!
  ·rw [if_pos h1] at hus
   rw [if_neg (by omega)] at hds
   (repeat' (first|refine stp ?_|with_reducible(refine brr ?_ ?_<;>intro h)));all_goals try(conv=>whnf)
   all_goals try (exfalso; omega)
   exact ⟨i + 1, ⟨by omega, by show l.length - (i + 1) < l.length - i; omega⟩, zAE rfl rfl, zAC rfl rfl, zAC rfl (by rw [hus]; rfl), zAC rfl (by rw [hds]), zAC rfl rfl, trivial⟩
  ·rw [if_neg h1] at hus
   by_cases h2 : l[i]!.c[v]! < 0
   ·rw [if_pos h2] at hds
    (repeat' (first|refine stp ?_|with_reducible(refine brr ?_ ?_<;>intro h)));all_goals try(conv=>whnf)
    all_goals try (exfalso; omega)
    exact ⟨i + 1, ⟨by omega, by show l.length - (i + 1) < l.length - i; omega⟩, zAE rfl rfl, zAC rfl rfl, zAC rfl (by rw [hus]), zAC rfl (by rw [hds]; rfl), zAC rfl rfl, trivial⟩
   ·rw [if_neg h2] at hds
    (repeat' (first|refine stp ?_|with_reducible(refine brr ?_ ?_<;>intro h)));all_goals try(conv=>whnf)
    all_goals try (exfalso; omega)
    exact ⟨i + 1, ⟨by omega, by show l.length - (i + 1) < l.length - i; omega⟩, zAE rfl rfl, zAC rfl rfl, zAC rfl (by rw [hus]), zAC rfl (by rw [hds]), zAC rfl rfl, trivial⟩
 ·have ei : i = l.length := by omega
  subst ei;have hm : upI l v l.length * dnI l v l.length ≤ 1000000 * 1000000 := Nat.mul_le_mul (by omega) (by omega);unfold vB1
  (repeat' (first|refine stp ?_|with_reducible(refine brr ?_ ?_<;>intro h)));all_goals try(conv=>whnf)
  all_goals try (exfalso; omega)
  exact zAB rfl (by rw [Int.natCast_mul])
abbrev uGT (l : List FR) : Blk := ⟨l.map vCH, 2, true⟩
theorem zDH (l : List FR) : ∀ e ∈ l.map vCH, nr 3 e = true ∧ e ≠ .any := zAW fun _ => ⟨rfl, by simp [vCH]⟩
theorem vT4 {h : Hp} {n : Nat} (r : FR) : frz h (n + 2) (vCH r) = some (vCH r, []) := rfl
theorem vS3 : FO 124 Tryz.f124 [.tmp 6, .tmp 7] 157 := mkO Tryz.func124 Tryz.ntmps124 Tryz.results124
theorem uAE (l : List FR) (v k m : Nat) (hl : l.length ≤ 1000000) (hr : ∀ r ∈ l, okRw m r) (hv : v < m) (hk : k ≤ 1000) (hm : m ≤ 1000) (hp : vB1 l v ≤ 20000) : Fn 124 [.imm (l.map vCH), .int .i64 v, .int .i64 k] (.data (match vWM l v k with | some out => .tup [.imm (out.map vCH), .bool true] | none => .tup [.imm [], .bool false])) := by
 refine zAN vA6 hT vS3 (by simp) ?_;refine sts ?_
 refine zBP hT [(.sl 8, 2, true)] (fun (i : Nat) => [(0, .imm (l.map vCH)), (1, .int .i64 v), (2, .int .i64 k), (8, .own 0 0 (vN0 l v i).length), (9, .int .i64 i)]) (fun i => [(0, uGT (vN0 l v i))]) [] 1
  (fun i => i ≤ l.length) (fun i => l.length - i) 0 (Nat.zero_le _) (by decide) (by simp) ⟨rfl, trivial⟩ ?_ ?_
 ·exact ⟨[_], [], [], [], ttt, ⟨zAE rfl rfl, zAC rfl rfl, zAC rfl rfl, zAF (by decide) rfl rfl, zAC rfl rfl, trivial⟩, ⟨zAD (by decide) rfl rfl (zDH []) rfl, trivial⟩, by simp [ren]⟩
 intro i i1;have hz := vQB l v i;by_cases hi : i < l.length
 ·have ho := hr l[i]! (get_mem hi)
  have hcl := ho.len;have hzs := vQA (v := v) hi;by_cases h0 : l[i]!.c[v]! = 0
  ·rw [if_pos h0] at hzs
   (repeat' (first|refine stp ?_|with_reducible(refine brr ?_ ?_<;>intro h)));all_goals try(conv=>whnf)
   all_goals try (exfalso; omega)
   exact ⟨i + 1, ⟨by omega, by show l.length - (i + 1) < l.length - i; omega⟩, [_], [], [], [], ttt, ⟨zAE rfl rfl, zAC rfl rfl, zAC rfl rfl, zAF (by decide) rfl (by rw [hzs]; simp), zAC rfl rfl, trivial⟩, ⟨zAD (by decide) rfl (by rw [hzs, List.map_append]; rfl) (zDH _) rfl, trivial⟩, by simp [ren]⟩
  ·rw [if_neg h0] at hzs
   (repeat' (first|refine stp ?_|with_reducible(refine brr ?_ ?_<;>intro h)));all_goals try(conv=>whnf)
   all_goals try (exfalso; omega)
   exact ⟨i + 1, ⟨by omega, by show l.length - (i + 1) < l.length - i; omega⟩, [0], [], [], [], ttt, ⟨zAE rfl rfl, zAC rfl rfl, zAC rfl rfl, zAF (by decide) rfl (by rw [hzs]), zAC rfl rfl, trivial⟩, ⟨zAD (by decide) rfl (by rw [hzs]) (zDH _) rfl, trivial⟩, by simp [ren]⟩
 have ei : i = l.length := by omega
 rw [ei] at hz ⊢
 have hZo : ∀ r ∈ vN0 l v l.length, okRw m r := fun r h => by
  unfold vN0 at h; exact hr r (List.mem_of_mem_take (List.mem_filter.1 h).1)
 have hE : vWM l v k = elI v k l (some (vN0 l v l.length)) l.length := rfl;generalize vN0 l v l.length = Z at *
 generalize vWM l v k = E at *
 (repeat' (first|refine stp ?_|with_reducible(refine brr ?_ ?_<;>intro h)));all_goals try(conv=>whnf)
 all_goals try (exfalso; omega)
 refine zAG hT (fun ((i, O) : Nat × List FR) => [(0, .imm (l.map vCH)), (1, .int .i64 v), (2, .int .i64 k), (8, .own 0 0 O.length), (10, .int .i64 i)]) (fun (_, O) => [(0, uGT O)]) [] 1
  (fun (i, O) => i ≤ l.length ∧ elI v k l (some Z) i = some O ∧ (∀ r ∈ O, okRw m r) ∧ O.length ≤ l.length + upI l v i * dnI l v l.length) (fun (i, _) => l.length - i) (0, Z) ⟨Nat.zero_le _, rfl, hZo, by omega⟩ (by decide) (by simp) ?_ ?_
 ·exact ⟨[0], [], [], [], ttt, ⟨zAE rfl rfl, zAC rfl rfl, zAC rfl rfl, zAF (by decide) rfl rfl, zAC rfl rfl, trivial⟩, ⟨zAD (by decide) rfl rfl (zDH _) rfl, trivial⟩, by simp [ren]⟩
 intro ⟨i, O⟩ ⟨i1, i2, i3, i4⟩;have hup : upI l v i * dnI l v l.length ≤ 20000 := Nat.le_trans (Nat.mul_le_mul_right _ (vLN l v i1 (Nat.le_refl _))) hp;by_cases hi : i < l.length
 ·have ha := hr l[i]! (get_mem hi)
  have hal := ha.len;have hus := vE2 (v := v) hi;have hup2 : upI l v (i + 1) * dnI l v l.length ≤ 20000 := Nat.le_trans (Nat.mul_le_mul_right _ (vLN l v (by omega) (Nat.le_refl _))) hp;have hsuc := vM8 (v := v) (k := k) (o := some Z) hi;rw [i2] at hsuc;have hstop : elI v k l (some Z) (i + 1) = none → E = none := fun h => by rw [hE]; exact vZC h (by omega)
  rw [hsuc] at hstop
  have hdm : ∀ j, j ≤ l.length → (if 0 < l[i]!.c[v]! then dnI l v j else 0) ≤ 1000000 := fun j hj => by
   have := vUN l v j
   split <;> omega
  (repeat' (first|refine stp ?_|with_reducible(refine brr ?_ ?_<;>intro h)));all_goals try(conv=>whnf)
  all_goals try (exfalso; omega)
  refine zAG hT (fun ((j, Q) : Nat × List FR) => [(0, .imm (l.map vCH)), (1, .int .i64 v), (2, .int .i64 k), (8, .own 0 0 Q.length), (10, .int .i64 i), (11, .int .i64 j)]) (fun (_, Q) => [(0, uGT Q)]) [] 1
   (fun (j, Q) => j ≤ l.length ∧ elJ v k l l[i]! (some O) j = some Q ∧ (∀ r ∈ Q, okRw m r) ∧ Q.length ≤ l.length + upI l v i * dnI l v l.length + (if 0 < l[i]!.c[v]! then dnI l v j else 0)) (fun (j, _) => l.length - j) (0, O) ⟨Nat.zero_le _, rfl, i3, by omega⟩ (by decide) (by simp) ?_ ?_
  ·exact ⟨[0], [], [], [], ttt, ⟨zAE rfl rfl, zAC rfl rfl, zAC rfl rfl, zAF (by decide) rfl rfl, zAC rfl rfl, zAC rfl rfl, trivial⟩, ⟨zAD (by decide) rfl rfl (zDH _) rfl, trivial⟩, by simp [ren]⟩
  intro ⟨j, Q⟩ ⟨j1, j2, j3, j4⟩;have hdj := hdm j j1;by_cases hj : j < l.length
  ·have hb := hr l[j]! (get_mem hj)
   have hbl := hb.len;have hds := vGS (v := v) hj;have hjs := vM7 (v := v) (k := k) (a := l[i]!) (o := some O) hj;rw [j2] at hjs;have hlen := fun out h => vUG (v := v) (k := k) (O := Q) (a := l[i]!) (b := l[j]!) (out := out) h
   have hbits := uAF (l[i]!.fm ||| l[j]!.fm) (by have := Nat.or_lt_two_pow (x := l[i]!.fm) (y := l[j]!.fm) (n := 62) ha.fm hb.fm; omega);have hor := uAG (a := l[i]!.fm) (b := l[j]!.fm) (by have := ha.fm; omega) (by have := hb.fm; omega);have hbn : vV7 (l[i]!.fm ||| l[j]!.fm) ≤ 64 := vG5 _ _
   have hmono : (if 0 < l[i]!.c[v]! then dnI l v j else 0) ≤ (if 0 < l[i]!.c[v]! then dnI l v (j + 1) else 0) := by
    rw [hds]; split <;> (try split) <;> omega
   by_cases hg : vIO l[i]! l[j]! v k
   ·obtain ⟨g1, g2, g3⟩ := id hg
    have hsz := uID ha hb hv;have hcm : (vC3 l[i]! l[j]! v).length = m := by unfold vC3; rw [List.length_map, List.length_range]; exact hal
    have hz0 : List.replicate m (0 : Int) = vZR l[i]! l[j]! v 0 := by rw [← hal]; exact (zLY _ _ _).symm
    have hbv := ha.at hv;have hcv := hb.at hv;have hok := fun h => vUX (v := v) ha hb h
    (repeat' (first|refine stp ?_|with_reducible(refine brr ?_ ?_<;>intro h)));all_goals try(conv=>whnf)
    all_goals try (exfalso; omega)
    rw [hor];refine zAA hbits rfl ?_
    (repeat' (first|refine stp ?_|with_reducible(refine brr ?_ ?_<;>intro h)));all_goals try(conv=>whnf)
    all_goals try (exfalso; omega)
    refine zAG hT (fun (n : Nat) => [(0, .imm (l.map vCH)), (1, .int .i64 v), (2, .int .i64 k), (8, .own 0 0 Q.length), (10, .int .i64 i), (11, .int .i64 j), (12, .own 1 0 m), (13, .int .i64 n)]) (fun n => [(0, uGT Q), (1, vHV (vZR l[i]! l[j]! v n))]) [] 2
     (fun n => n ≤ m) (fun n => m - n) 0 (Nat.zero_le _) (by decide) (by simp) ?_ ?_
    ·exact ⟨[0, 48], [], [], [], ttt, ⟨zAE rfl rfl, zAC rfl rfl, zAC rfl rfl, zAF (by decide) rfl rfl, zAC rfl rfl, zAC rfl rfl, zAF (by decide) rfl (by rw [List.length_map, hal]; omega), zAC rfl rfl, trivial⟩, ⟨zAD (by decide) rfl rfl (zDH _) rfl, zAD (by decide) rfl (by rw [← hz0]; exact zG6 (f := PV.int .i64) (x := (0 : Int)) (by rw [List.length_map, hal]; omega)) (zBA _) rfl, trivial⟩, by simp [ren]⟩
    intro n n1;have hcl := vZP l[i]! l[j]! v n;by_cases hn : n < m
    ·have m1 := vMT (ha.at hn) (vKQ hcv)
     have m2 := vMT (hb.at hn) hbv;have hset := vZO (a := l[i]!) (b := l[j]!) (v := v) (i := n) (by omega);have o1 := vKQ hcv;unfold okG at o1
     (repeat' (first|refine stp ?_|with_reducible(refine brr ?_ ?_<;>intro h)));all_goals try(conv=>whnf)
     all_goals try (exfalso; omega)
     refine zAU n (Nat.zero_add _) (by omega) ?_;refine sts ?_;exact ⟨n + 1, ⟨by omega, by show m - (n + 1) < m - n; omega⟩, [0, 1], [], [], [], ttt, ⟨zAE rfl rfl, zAC rfl rfl, zAC rfl rfl, zAF (by decide) rfl rfl, zAC rfl rfl, zAC rfl rfl, zAF (by decide) rfl rfl, zAC rfl rfl, trivial⟩, ⟨zAD (by decide) rfl rfl (zDH _) rfl, zAD (by decide) rfl (by rw [← hset]; exact zBB (Nat.zero_add _) rfl) (zBA _) rfl, trivial⟩, by simp [ren]⟩
    have en : n = m := by omega
    rw [en, show vZR l[i]! l[j]! v m = vC3 l[i]! l[j]! v by rw [← hal]; exact vZQ _ _ _];have cr' := zNW (vC3 l[i]! l[j]! v) hsz (by omega);rw [hcm] at cr';have hrl : (vD4 (vC3 l[i]! l[j]! v)).length = m := by rw [zKJ]; exact hcm
    cases hB : vH0 (vC3 l[i]! l[j]! v) with
    | false =>
      have hsn : elS v k (some Q) l[i]! l[j]! = none := by unfold elS; dsimp only; rw [if_pos hg, hB, if_neg (by decide)]
      rw [hsn] at hjs;rw [hstop (vZB hjs (by omega))];rw [hB] at cr'
      (repeat' (first|refine stp ?_|with_reducible(refine brr ?_ ?_<;>intro h)));all_goals try(conv=>whnf)
      all_goals try (exfalso; omega)
      refine zIN (r := 1) cr' rfl rfl rfl rfl (zA7 (zBA _)) (by decide) ?_;refine sts ?_;exact zAB rfl rfl
    | true =>
      have hsn : elS v k (some Q) l[i]! l[j]! = some (Q ++ [vPL l[i]! l[j]! v]) := by unfold elS; dsimp only; rw [if_pos hg, if_pos hB]
      rw [hsn] at hjs;have hl2 := hlen _ hsn;rw [if_pos ⟨g1, g2⟩] at hl2;have hds2 := hds;rw [if_pos g2] at hds2;rw [if_pos g1] at j4;have hdj2 := vUN l v j;rw [hB] at cr'
      (repeat' (first|refine stp ?_|with_reducible(refine brr ?_ ?_<;>intro h)));all_goals try(conv=>whnf)
      all_goals try (exfalso; omega)
      refine zIN (r := 1) cr' rfl rfl rfl rfl (zA7 (zBA _)) (by decide) ?_;refine sts ?_
      exact ⟨(j + 1, Q ++ [vPL l[i]! l[j]! v]), ⟨⟨by omega, hjs, fun r hr' => by
       rcases List.mem_append.1 hr' with h | h
       ·exact j3 r h
       ·rw [List.mem_singleton.1 h]; exact hok hB, by rw [if_pos g1, hds2]; omega⟩, by show l.length - (j + 1) < l.length - j; omega⟩, [24], [1], [], [(24, Q.map vCH ++ [.agg [.imm ((vD4 (vC3 l[i]! l[j]! v)).map (.int .i64)), .int .u64 (vDJ .or .u64 l[i]!.fm l[j]!.fm)]])], ⟨⟨⟨_, rfl⟩, trivial⟩, trivial, ⟨⟨_, 6, _, rfl, zEK (zC7 (zAP (zAH rfl rfl hrl.symm fun _ => rfl) rfl)) (zHN vT4 _), rfl⟩, trivial⟩⟩, ⟨zAE rfl rfl, zAC rfl rfl, zAC rfl rfl, zAF (by decide) rfl (by simp), zAC rfl rfl, zAC rfl rfl, trivial⟩, ⟨zAD (by decide) rfl (by rw [hor, List.map_append]; rfl) (zDH _) rfl, trivial⟩, by simp [ren]⟩
   ·have hsk : elS v k (some Q) l[i]! l[j]! = some Q := by unfold elS; dsimp only; rw [if_neg hg]
    rw [hsk] at hjs;by_cases h1 : l[i]!.c[v]! ≤ 0
    ·(repeat' (first|refine stp ?_|with_reducible(refine brr ?_ ?_<;>intro h)));all_goals try(conv=>whnf)
     all_goals try (exfalso; omega)
     exact ⟨(j + 1, Q), ⟨⟨by omega, hjs, j3, by omega⟩, by show l.length - (j + 1) < l.length - j; omega⟩, [0], [], [], [], ttt, ⟨zAE rfl rfl, zAC rfl rfl, zAC rfl rfl, zAF (by decide) rfl rfl, zAC rfl rfl, zAC rfl rfl, trivial⟩, ⟨zAD (by decide) rfl rfl (zDH _) rfl, trivial⟩, by simp [ren]⟩
    ·by_cases h2 : 0 ≤ l[j]!.c[v]!
     ·(repeat' (first|refine stp ?_|with_reducible(refine brr ?_ ?_<;>intro h)));all_goals try(conv=>whnf)
      all_goals try (exfalso; omega)
      exact ⟨(j + 1, Q), ⟨⟨by omega, hjs, j3, by omega⟩, by show l.length - (j + 1) < l.length - j; omega⟩, [0], [], [], [], ttt, ⟨zAE rfl rfl, zAC rfl rfl, zAC rfl rfl, zAF (by decide) rfl rfl, zAC rfl rfl, zAC rfl rfl, trivial⟩, ⟨zAD (by decide) rfl rfl (zDH _) rfl, trivial⟩, by simp [ren]⟩
     ·have h3 : ¬ vV7 (l[i]!.fm ||| l[j]!.fm) ≤ k + 1 := fun e => hg ⟨by omega, by omega, e⟩
      (repeat' (first|refine stp ?_|with_reducible(refine brr ?_ ?_<;>intro h)));all_goals try(conv=>whnf)
      all_goals try (exfalso; omega)
      rw [hor];refine zAA hbits rfl ?_
      (repeat' (first|refine stp ?_|with_reducible(refine brr ?_ ?_<;>intro h)));all_goals try(conv=>whnf)
      all_goals try (exfalso; omega)
      exact ⟨(j + 1, Q), ⟨⟨by omega, hjs, j3, by omega⟩, by show l.length - (j + 1) < l.length - j; omega⟩, [0], [], [], [], ttt, ⟨zAE rfl rfl, zAC rfl rfl, zAC rfl rfl, zAF (by decide) rfl rfl, zAC rfl rfl, zAC rfl rfl, trivial⟩, ⟨zAD (by decide) rfl rfl (zDH _) rfl, trivial⟩, by simp [ren]⟩
  ·have ej : j = l.length := by omega
   rw [ej] at j2 j4;rw [j2] at hsuc
   have hfin : upI l v i * dnI l v l.length + (if 0 < l[i]!.c[v]! then dnI l v l.length else 0) ≤ upI l v (i + 1) * dnI l v l.length := by
    rw [hus]; split
    ·rw [Nat.add_mul, Nat.one_mul]; omega
    ·omega
   (repeat' (first|refine stp ?_|with_reducible(refine brr ?_ ?_<;>intro h)));all_goals try(conv=>whnf)
   all_goals try (exfalso; omega)
   exact ⟨(i + 1, Q), ⟨⟨by omega, hsuc, j3, by omega⟩, by show l.length - (i + 1) < l.length - i; omega⟩, [0], [], [], [], ttt, ⟨zAE rfl rfl, zAC rfl rfl, zAC rfl rfl, zAF (by decide) rfl rfl, zAC rfl rfl, trivial⟩, ⟨zAD (by decide) rfl rfl (zDH _) rfl, trivial⟩, by simp [ren]⟩
 ·have ei : i = l.length := by omega
  rw [ei] at i2;rw [hE, i2]
  (repeat' (first|refine stp ?_|with_reducible(refine brr ?_ ?_<;>intro h)));all_goals try(conv=>whnf)
  all_goals try (exfalso; omega)
  exact zAB (zE0 (zAP (zAH rfl rfl rfl vT4) rfl)) rfl
set_option maxHeartbeats 2000000
theorem vOV : FO 32 Tryz.f32 [.cell 4 35, .tmp 5] 13 := mkO Tryz.func32 Tryz.ntmps32 Tryz.results32
theorem vVD (x y : Int) (hx : -9223372036854775807 ≤ x ∧ x < 9223372036854775808) (hy : -9223372036854775807 ≤ y ∧ y < 0) : Fn 32 [.int .i64 x, .int .i64 y] (.data (.tup [vAZ (cr (mkRat (-x) y.natAbs)), .int .i64 0])) := by
 have hle : x.natAbs < pw 2 := by rw [zA0, zA0, zB8]; omega
 have hle2 : y.natAbs < pw 2 := by rw [zA0, zA0, zB8]; omega
 have hl := zBD hle;have hl2 := zBD hle2;have cm := vNF (cz x) (cz y) (zAM _) (zAM _) (by show nv (vA4 _) ≠ 0; rw [zAO]; omega) (by show (vA4 _).length < _; omega) (by show (vA4 _).length < _; omega)
 have es : mkRat (sg ((cz x).neg != (cz y).neg) (nv (cz x).mag)) (nv (cz y).mag) = mkRat (-x) y.natAbs := by
  rw [show (cz y).neg = true by unfold cz; simp; omega, show nv (cz y).mag = y.natAbs from zAO _, show nv (cz x).mag = x.natAbs from zAO _]
  congr 1
  have hn : (cz x).neg = decide (x < 0) := rfl;rw [hn];unfold sg;by_cases h : x < 0
  ·simp [h]; omega
  ·simp [h]; omega
 rw [es] at cm;refine zAN vA6 hT vOV (by simp) ?_;refine sts ?_;refine zAA (vJE x (by omega)) rfl ?_;refine sts ?_;refine zAA (vJE y (by omega)) rfl ?_;refine sts ?_;refine zAA cm rfl ?_;refine sts ?_;exact zAB rfl rfl
theorem vS2 : FO 125 Tryz.f125 [.tmp 4, .cell 5 35] 85 := mkO Tryz.func125 Tryz.ntmps125 Tryz.results125
theorem uAD (l : List FR) (n m : Nat) (hl : l.length ≤ 1000000) (hr : ∀ r ∈ l, okRw m r) (hn : n + 1 < m) (hm : m ≤ 1000) : Fn 125 [.imm (l.map vCH), .int .i64 n] (.data (.tup [.int .i64 (vM4 l n).1, vAZ (cr (vM4 l n).2)])) := by
 refine zAN vA6 hT vS2 (by simp) ?_;refine sts ?_
 refine zAG hT (fun ((i, s) : Nat × EnS) => [(0, .imm (l.map vCH)), (1, .int .i64 n), (5, .ptr 0 0 0), (6, .bool s.low), (7, .bool s.high), (8, .ptr 1 0 0), (9, .ptr 2 0 0), (10, .int .i64 i)]) (fun (_, s) => [(0, ⟨[.agg [.bool false, .nilsl, .nilsl]], 3, true⟩), (1, ⟨[vAZ (cr s.least)], 3, true⟩), (2, ⟨[vAZ (cr s.most)], 3, true⟩)]) [] 3
  (fun (i, s) => i ≤ l.length ∧ enI l n i = some s ∧ sz 2 s.least ∧ sz 2 s.most) (fun (i, _) => l.length - i) (0, ⟨false, false, 0, 0⟩) ⟨Nat.zero_le _, rfl, vP3 (by decide), vP3 (by decide)⟩ (by decide) (by simp) ?_ ?_
 ·exact ⟨[1, 4, 5], [], [], [(4, [vAZ (cr 0)]), (5, [vAZ (cr 0)])], ⟨trivial, trivial, ⟨⟨_, 6, _, rfl, rfl, rfl⟩, ⟨_, 6, _, rfl, rfl, rfl⟩, trivial⟩⟩, ⟨zAE rfl rfl, zAC rfl rfl, apx, zBF rfl rfl, zBF rfl rfl, apx, apx, zAC rfl rfl, trivial⟩, ⟨bbx, bbx, bbx, trivial⟩, by simp [ren]⟩
 intro ⟨i, ⟨low, high, L, M⟩⟩ ⟨i1, i2, z1, z2⟩;dsimp only at z1 z2;by_cases hi : i < l.length
 ·have ho := hr l[i]! (get_mem hi)
  have hol := ho.len;have ga := ho.at (i := n) (by omega);have gc := ho.at (i := n + 1) hn
  have hst : enI l n (i + 1) = if l[i]!.c[n]! = 0 ∧ l[i]!.c[n + 1]! < 0 then none else some (enS ⟨low, high, L, M⟩ l[i]!.c[n]! l[i]!.c[n + 1]!) := by
   conv => lhs; unfold enI
   rw [i2]
  have hz := uBP ga gc (s := ⟨low, high, L, M⟩) ⟨z1, z2⟩;have hnone : enI l n (i + 1) = none → vM4 l n = (2, 0) := fun h => by unfold vM4; rw [vM6 h _ (by omega)]; rfl
  have hco : ∀ x : FR, (x.c[n + 1]! : Int) = x.c[n + 1]! := fun _ => rfl
  have hvz := fun h0 => uBO ga gc h0
  have hfp : 0 < l[i]!.c[n]! → mkRat (0 - l[i]!.c[n + 1]!) l[i]!.c[n]!.natAbs = enV l[i]!.c[n]! l[i]!.c[n + 1]! := fun h => by unfold enV; rw [if_pos h]
  have hfn : l[i]!.c[n]! < 0 → mkRat (-(0 - l[i]!.c[n + 1]!)) l[i]!.c[n]!.natAbs = enV l[i]!.c[n]! l[i]!.c[n + 1]! := fun h => by unfold enV; rw [if_neg (by omega), show -(0 - l[i]!.c[n + 1]!) = l[i]!.c[n + 1]! by omega]
  have hes : enS ⟨low, high, L, M⟩ l[i]!.c[n]! l[i]!.c[n + 1]! = if l[i]!.c[n]! = 0 then ⟨low, high, L, M⟩ else if 0 < l[i]!.c[n]! then ⟨true, high, if low = false ∨ L < enV l[i]!.c[n]! l[i]!.c[n + 1]! then enV l[i]!.c[n]! l[i]!.c[n + 1]! else L, M⟩ else ⟨low, true, L, if high = false ∨ enV l[i]!.c[n]! l[i]!.c[n + 1]! < M then enV l[i]!.c[n]! l[i]!.c[n + 1]! else M⟩ := rfl
  rw [hes] at hst hz;unfold okG at ga gc;by_cases h0 : l[i]!.c[n]! = 0
  ·by_cases hc : l[i]!.c[n + 1]! < 0
   ·rw [if_pos ⟨h0, hc⟩] at hst
    rw [hnone hst]
    (repeat' (first|refine stp ?_|with_reducible(refine brr ?_ ?_<;>intro h)));all_goals try(conv=>whnf)
    all_goals try (exfalso; omega)
    refine zA4 (j := n + 1) (by omega) (by omega) ?_
    (repeat' (first|refine stp ?_|with_reducible(refine brr ?_ ?_<;>intro h)));all_goals try(conv=>whnf)
    all_goals try (exfalso; omega)
    exact zAB rfl (by rw [zC1]; rfl)
   ·rw [if_neg (fun e => hc e.2), if_pos h0] at hst
    rw [if_pos h0] at hz;have hen := hst
    (repeat' (first|refine stp ?_|with_reducible(refine brr ?_ ?_<;>intro h)));all_goals try(conv=>whnf)
    all_goals try (exfalso; omega)
    refine zA4 (j := n + 1) (by omega) (by omega) ?_
    (repeat' (first|refine stp ?_|with_reducible(refine brr ?_ ?_<;>intro h)));all_goals try(conv=>whnf)
    all_goals try (exfalso; omega)
    exact ⟨(i + 1, ⟨low, high, L, M⟩), ⟨⟨by omega, hen, by first | exact hz.1 | exact z1, by first | exact hz.2 | exact z2⟩, by show l.length - (i + 1) < l.length - i; omega⟩, [0, 1, 2], [], [], [], ttt, ⟨zAE rfl rfl, zAC rfl rfl, apx, zBF rfl rfl, zBF rfl rfl, apx, apx, zAC rfl rfl, trivial⟩, ⟨bbx, bbx, bbx, trivial⟩, by simp [ren]⟩
  ·rw [if_neg (fun e => h0 e.1), if_neg h0] at hst
   rw [if_neg h0] at hz;have hvs := hvz h0;have lv := zAL hvs;have lL := zAL z1;have lM := zAL z2;by_cases hp : 0 < l[i]!.c[n]!
   ·rw [if_pos hp] at hst hz
    have d1 := zIO (0 - l[i]!.c[n + 1]!) l[i]!.c[n]! (by omega) (by omega);rw [hfp hp] at d1;have d2 := zEP (cr (enV l[i]!.c[n]! l[i]!.c[n + 1]!)) (cr L) (zAI _) (zAI _) (by omega) (by omega) (by omega) (by omega);rw [zAQ, zAQ] at d2;generalize enV l[i]!.c[n]! l[i]!.c[n + 1]! = V at *
    have hD : vBS (V - L) > 0 ↔ L < V := ⟨fun h => by have := sgnQ_pos.1 h; grind, fun h => sgnQ_pos.2 (by grind)⟩;cases low with
    | false =>
      rw [if_pos (Or.inl rfl)] at hst hz;have hen := hst
      (repeat' (first|refine stp ?_|with_reducible(refine brr ?_ ?_<;>intro h)));all_goals try(conv=>whnf)
      all_goals try (exfalso; omega)
      refine zA4 (j := n + 1) (by omega) (by omega) ?_
      (repeat' (first|refine stp ?_|with_reducible(refine brr ?_ ?_<;>intro h)));all_goals try(conv=>whnf)
      all_goals try (exfalso; omega)
      refine zAA d1 rfl ?_
      (repeat' (first|refine stp ?_|with_reducible(refine brr ?_ ?_<;>intro h)));all_goals try(conv=>whnf)
      all_goals try (exfalso; omega)
      exact ⟨(i + 1, ⟨true, high, V, M⟩), ⟨⟨by omega, hen, by first | exact hz.1 | exact z1, by first | exact hz.2 | exact z2⟩, by show l.length - (i + 1) < l.length - i; omega⟩, [0, 1, 2], [], [], [], ttt, ⟨zAE rfl rfl, zAC rfl rfl, apx, zBF rfl rfl, zBF rfl rfl, apx, apx, zAC rfl rfl, trivial⟩, ⟨bbx, bbx, bbx, trivial⟩, by simp [ren]⟩
    | true =>
      by_cases hlt : L < V
      ·rw [if_pos (Or.inr hlt)] at hst hz
       have hen := hst;have hD2 := hD.2 hlt;clear hD;generalize vBS (V - L) = D at *
       (repeat' (first|refine stp ?_|with_reducible(refine brr ?_ ?_<;>intro h)));all_goals try(conv=>whnf)
       all_goals try (exfalso; omega)
       refine zA4 (j := n + 1) (by omega) (by omega) ?_
       (repeat' (first|refine stp ?_|with_reducible(refine brr ?_ ?_<;>intro h)));all_goals try(conv=>whnf)
       all_goals try (exfalso; omega)
       refine zAA d1 rfl ?_
       (repeat' (first|refine stp ?_|with_reducible(refine brr ?_ ?_<;>intro h)));all_goals try(conv=>whnf)
       all_goals try (exfalso; omega)
       refine zAA d2 rfl ?_
       (repeat' (first|refine stp ?_|with_reducible(refine brr ?_ ?_<;>intro h)));all_goals try(conv=>whnf)
       all_goals try (exfalso; omega)
       exact ⟨(i + 1, ⟨true, high, V, M⟩), ⟨⟨by omega, hen, by first | exact hz.1 | exact z1, by first | exact hz.2 | exact z2⟩, by show l.length - (i + 1) < l.length - i; omega⟩, [0, 1, 2], [], [], [], ttt, ⟨zAE rfl rfl, zAC rfl rfl, apx, zBF rfl rfl, zBF rfl rfl, apx, apx, zAC rfl rfl, trivial⟩, ⟨bbx, bbx, bbx, trivial⟩, by simp [ren]⟩
      ·rw [if_neg (by rintro (h | h); cases h; exact hlt h)] at hst hz
       have hen := hst;have hD2 : ¬ vBS (V - L) > 0 := fun h => hlt (hD.1 h)
       clear hD;generalize vBS (V - L) = D at *
       (repeat' (first|refine stp ?_|with_reducible(refine brr ?_ ?_<;>intro h)));all_goals try(conv=>whnf)
       all_goals try (exfalso; omega)
       refine zA4 (j := n + 1) (by omega) (by omega) ?_
       (repeat' (first|refine stp ?_|with_reducible(refine brr ?_ ?_<;>intro h)));all_goals try(conv=>whnf)
       all_goals try (exfalso; omega)
       refine zAA d1 rfl ?_
       (repeat' (first|refine stp ?_|with_reducible(refine brr ?_ ?_<;>intro h)));all_goals try(conv=>whnf)
       all_goals try (exfalso; omega)
       refine zAA d2 rfl ?_
       (repeat' (first|refine stp ?_|with_reducible(refine brr ?_ ?_<;>intro h)));all_goals try(conv=>whnf)
       all_goals try (exfalso; omega)
       exact ⟨(i + 1, ⟨true, high, L, M⟩), ⟨⟨by omega, hen, by first | exact hz.1 | exact z1, by first | exact hz.2 | exact z2⟩, by show l.length - (i + 1) < l.length - i; omega⟩, [0, 1, 2], [], [], [], ttt, ⟨zAE rfl rfl, zAC rfl rfl, apx, zBF rfl rfl, zBF rfl rfl, apx, apx, zAC rfl rfl, trivial⟩, ⟨bbx, bbx, bbx, trivial⟩, by simp [ren]⟩
   ·rw [if_neg hp] at hst hz
    have d1 := vVD (0 - l[i]!.c[n + 1]!) l[i]!.c[n]! (by omega) (by omega);rw [hfn (by omega)] at d1;have d2 := zEP (cr (enV l[i]!.c[n]! l[i]!.c[n + 1]!)) (cr M) (zAI _) (zAI _) (by omega) (by omega) (by omega) (by omega);rw [zAQ, zAQ] at d2;generalize enV l[i]!.c[n]! l[i]!.c[n + 1]! = V at *
    have hD : vBS (V - M) < 0 ↔ V < M := ⟨fun h => by have := sgnQ_neg.1 h; grind, fun h => sgnQ_neg.2 (by grind)⟩;cases high with
    | false =>
      rw [if_pos (Or.inl rfl)] at hst hz;have hen := hst
      (repeat' (first|refine stp ?_|with_reducible(refine brr ?_ ?_<;>intro h)));all_goals try(conv=>whnf)
      all_goals try (exfalso; omega)
      refine zA4 (j := n + 1) (by omega) (by omega) ?_
      (repeat' (first|refine stp ?_|with_reducible(refine brr ?_ ?_<;>intro h)));all_goals try(conv=>whnf)
      all_goals try (exfalso; omega)
      refine zAA d1 rfl ?_
      (repeat' (first|refine stp ?_|with_reducible(refine brr ?_ ?_<;>intro h)));all_goals try(conv=>whnf)
      all_goals try (exfalso; omega)
      exact ⟨(i + 1, ⟨low, true, L, V⟩), ⟨⟨by omega, hen, by first | exact hz.1 | exact z1, by first | exact hz.2 | exact z2⟩, by show l.length - (i + 1) < l.length - i; omega⟩, [0, 1, 2], [], [], [], ttt, ⟨zAE rfl rfl, zAC rfl rfl, apx, zBF rfl rfl, zBF rfl rfl, apx, apx, zAC rfl rfl, trivial⟩, ⟨bbx, bbx, bbx, trivial⟩, by simp [ren]⟩
    | true =>
      by_cases hlt : V < M
      ·rw [if_pos (Or.inr hlt)] at hst hz
       have hen := hst;have hD2 := hD.2 hlt;clear hD;generalize vBS (V - M) = D at *
       (repeat' (first|refine stp ?_|with_reducible(refine brr ?_ ?_<;>intro h)));all_goals try(conv=>whnf)
       all_goals try (exfalso; omega)
       refine zA4 (j := n + 1) (by omega) (by omega) ?_
       (repeat' (first|refine stp ?_|with_reducible(refine brr ?_ ?_<;>intro h)));all_goals try(conv=>whnf)
       all_goals try (exfalso; omega)
       refine zAA d1 rfl ?_
       (repeat' (first|refine stp ?_|with_reducible(refine brr ?_ ?_<;>intro h)));all_goals try(conv=>whnf)
       all_goals try (exfalso; omega)
       refine zAA d2 rfl ?_
       (repeat' (first|refine stp ?_|with_reducible(refine brr ?_ ?_<;>intro h)));all_goals try(conv=>whnf)
       all_goals try (exfalso; omega)
       exact ⟨(i + 1, ⟨low, true, L, V⟩), ⟨⟨by omega, hen, by first | exact hz.1 | exact z1, by first | exact hz.2 | exact z2⟩, by show l.length - (i + 1) < l.length - i; omega⟩, [0, 1, 2], [], [], [], ttt, ⟨zAE rfl rfl, zAC rfl rfl, apx, zBF rfl rfl, zBF rfl rfl, apx, apx, zAC rfl rfl, trivial⟩, ⟨bbx, bbx, bbx, trivial⟩, by simp [ren]⟩
      ·rw [if_neg (by rintro (h | h); cases h; exact hlt h)] at hst hz
       have hen := hst;have hD2 : ¬ vBS (V - M) < 0 := fun h => hlt (hD.1 h)
       clear hD;generalize vBS (V - M) = D at *
       (repeat' (first|refine stp ?_|with_reducible(refine brr ?_ ?_<;>intro h)));all_goals try(conv=>whnf)
       all_goals try (exfalso; omega)
       refine zA4 (j := n + 1) (by omega) (by omega) ?_
       (repeat' (first|refine stp ?_|with_reducible(refine brr ?_ ?_<;>intro h)));all_goals try(conv=>whnf)
       all_goals try (exfalso; omega)
       refine zAA d1 rfl ?_
       (repeat' (first|refine stp ?_|with_reducible(refine brr ?_ ?_<;>intro h)));all_goals try(conv=>whnf)
       all_goals try (exfalso; omega)
       refine zAA d2 rfl ?_
       (repeat' (first|refine stp ?_|with_reducible(refine brr ?_ ?_<;>intro h)));all_goals try(conv=>whnf)
       all_goals try (exfalso; omega)
       exact ⟨(i + 1, ⟨low, true, L, M⟩), ⟨⟨by omega, hen, by first | exact hz.1 | exact z1, by first | exact hz.2 | exact z2⟩, by show l.length - (i + 1) < l.length - i; omega⟩, [0, 1, 2], [], [], [], ttt, ⟨zAE rfl rfl, zAC rfl rfl, apx, zBF rfl rfl, zBF rfl rfl, apx, apx, zAC rfl rfl, trivial⟩, ⟨bbx, bbx, bbx, trivial⟩, by simp [ren]⟩
 ·have ei : i = l.length := by omega
  have hv : vM4 l n = enR (some ⟨low, high, L, M⟩) := by unfold vM4; rw [← ei, i2]
  have he : enR (some ⟨low, high, L, M⟩) = if low = true ∧ high = true ∧ M < L then (2, 0) else if low = false then (3, 0) else (1, L) := rfl
  have lL := zAL z1;have lM := zAL z2;have d2 := zEP (cr M) (cr L) (zAI _) (zAI _) (by omega) (by omega) (by omega) (by omega);rw [zAQ, zAQ] at d2;have hD : vBS (M - L) < 0 ↔ M < L := ⟨fun h => by have := sgnQ_neg.1 h; grind, fun h => sgnQ_neg.2 (by grind)⟩;rw [hv, he];cases low with
  | false =>
    rw [if_neg (by rintro ⟨h, _⟩; cases h), if_pos rfl]
    (repeat' (first|refine stp ?_|with_reducible(refine brr ?_ ?_<;>intro h)));all_goals try(conv=>whnf)
    all_goals try (exfalso; omega)
    exact zAB rfl (by rw [zC1]; rfl)
  | true =>
    cases high with
    | false =>
      rw [if_neg (by rintro ⟨_, h, _⟩; cases h), if_neg (by decide)]
      (repeat' (first|refine stp ?_|with_reducible(refine brr ?_ ?_<;>intro h)));all_goals try(conv=>whnf)
      all_goals try (exfalso; omega)
      exact zAB rfl rfl
    | true =>
      by_cases hlt : M < L
      ·rw [if_pos ⟨rfl, rfl, hlt⟩]
       have hD2 := hD.2 hlt;clear hD;generalize vBS (M - L) = D at *
       (repeat' (first|refine stp ?_|with_reducible(refine brr ?_ ?_<;>intro h)));all_goals try(conv=>whnf)
       all_goals try (exfalso; omega)
       refine zAA d2 rfl ?_
       (repeat' (first|refine stp ?_|with_reducible(refine brr ?_ ?_<;>intro h)));all_goals try(conv=>whnf)
       all_goals try (exfalso; omega)
       exact zAB rfl (by rw [zC1]; rfl)
      ·rw [if_neg (fun h => hlt h.2.2), if_neg (by decide)]
       have hD2 : ¬ vBS (M - L) < 0 := fun h => hlt (hD.1 h)
       clear hD;generalize vBS (M - L) = D at *
       (repeat' (first|refine stp ?_|with_reducible(refine brr ?_ ?_<;>intro h)));all_goals try(conv=>whnf)
       all_goals try (exfalso; omega)
       refine zAA d2 rfl ?_
       (repeat' (first|refine stp ?_|with_reducible(refine brr ?_ ?_<;>intro h)));all_goals try(conv=>whnf)
       all_goals try (exfalso; omega)
       exact zAB rfl rfl
end Go.PI.Tryz
