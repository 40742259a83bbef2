/-
  The reference's natural numbers: Gcd.
-/
import Derived.Test.YtcinkbieboiffaaGreatCNA
import Derived.Test.YtcinkbieboiffaaGreatCPD
set_option linter.unusedVariables false
set_option linter.unusedSimpArgs false
set_option linter.unnecessarySimpa false
namespace Go.PI.Tryz
open Go.Proofs Go.PI
theorem ok_rnmake : FO 128 Tryz.f128 [.tmp 2] 23 := mkO Tryz.func128 Tryz.ntmps128 Tryz.results128
theorem zCN (xs : List Int) (ho : okN xs) (hl : xs.length < 2147483648) : Fn 128 [encN xs] (.data (encN (lims (nv xs)))) := by
 refine zAJ hmix hT ok_rnmake (by simp) ?_;refine sts ?_;refine zBH hT (fun n : Nat => [(0, encN xs), (3, .int .i64 n)]) (fun n => n ≤ xs.length ∧ ∀ j, n ≤ j → j < xs.length → xs[j]! = 0) (fun n => n) xs.length ⟨Nat.le_refl _, fun j h1 h2 => by omega⟩ ?_ ?_
 ·exact ⟨zAD rfl rfl, zAC rfl (by simp), trivial⟩
 ·intro n ⟨hn, hz⟩
  (repeat' (first|refine stp ?_|with_reducible(refine brr ?_ ?_<;>intro h)));all_goals try(conv=>whnf)
  ·refine zAY (j := n - 1) (by omega) (by omega) ?_
   (repeat' (first|refine stp ?_|with_reducible(refine brr ?_ ?_<;>intro h)));all_goals try(conv=>whnf)
   ·refine ⟨n - 1, ⟨⟨by omega, fun j h1 h2 => ?_⟩, by omega⟩, zAD rfl rfl, zAC rfl (by omega), trivial⟩
    by_cases e : j = n - 1
    ·subst e; assumption
    ·exact hz j (by omega) h2
   ·refine zCY (l' := xs.take n) (by simp) ?_
    refine sts ?_;refine zAB (zAN (f := PV.int .u32) (l := xs.take n) rfl rfl (by simp) (fun x => zBZ x)) ?_;rw [zH7 ho hn hz (Or.inr h)]
  ·have h0 : n = 0 := by omega
   subst h0;refine zCY (l' := []) (by simp) ?_;refine sts ?_;refine zAB (zAN (f := PV.int .u32) (l := []) rfl rfl (by simp) (fun x => zBZ x)) ?_;rw [← zH7 ho hn hz (Or.inl rfl)]; rfl
theorem ok_rnlimb : FO 133 Tryz.f133 [.tmp 4] 13 := mkO Tryz.func133 Tryz.ntmps133 Tryz.results133
theorem zGL (xs : List Int) (i : Int) (ho : okN xs) (hi : 0 ≤ i) (hl : xs.length < 2147483648) : Fn 133 [encN xs, .int .i64 i] (.data (.int .u32 (lb xs i.toNat))) := by
 obtain ⟨j, rfl⟩ := Int.eq_ofNat_of_zero_le hi;refine zAJ hmix hT ok_rnlimb (by simp) ?_
 (repeat' (first|refine stp ?_|with_reducible(refine brr ?_ ?_<;>intro h)));all_goals try(conv=>whnf)
 ·refine zAB rfl ?_
  rw [← zBF (by omega) ho]; rfl
 ·refine zAB rfl ?_
  rw [show ((j : Int)).toNat = j from rfl, zG4 (by omega)]; rfl
theorem ok_rnof : FO 118 Tryz.f118 [.tmp 2] 10 := mkO Tryz.func118 Tryz.ntmps118 Tryz.results118
theorem c_rnof (n : Nat) (hn : n < 18446744073709551616) : Fn 118 [.int .u64 n] (.data (encN (lims n))) := by
 refine zAJ hmix hT ok_rnof (by simp) ?_;refine sts ?_;refine zCD ?_;refine sts ?_;rw [zC0];refine sts ?_;have hv : nv [(n : Int) % 4294967296, (n : Int) / 4294967296] = n := by simp only [nv]; omega
 have cm := zCN [(n : Int) % 4294967296, (n : Int) / 4294967296] (by intro x hx; simp only [List.mem_cons, List.not_mem_nil, or_false] at hx; omega) (by simp);rw [hv] at cm;refine zAA cm rfl ?_;refine sts ?_;exact zAB rfl rfl
theorem ok_rncmp : FO 159 Tryz.f159 [.tmp 4] 30 := mkO Tryz.func159 Tryz.ntmps159 Tryz.results159
theorem c_rncmp (xs ys : List Int) (hx : okN xs) (hy : okN ys) (hl : xs.length < 2147483648) (hl2 : ys.length < 2147483648) : Fn 159 [encN xs, encN ys] (.data (.int .i64 (cmpI (nv xs) (nv ys)))) := by
 refine zAJ hmix hT ok_rncmp (by simp) ?_;refine sts ?_;obtain ⟨M, hM⟩ : ∃ M, max xs.length ys.length = M := ⟨_, rfl⟩;refine zBH hT (fun n : Nat => [(0, encN xs), (1, encN ys), (5, .int .i64 ((n : Int) - 1))]) (fun n => n ≤ 2147483648 ∧ nt xs n = nt ys n) (fun n => n) M ⟨by omega, by rw [zEA (by omega), zEA (by omega)]⟩ ?_ ?_
 ·exact ⟨zAD rfl rfl, zAD rfl rfl, zAC rfl (by simp only [List.length_map]; split <;> omega), trivial⟩
 intro n ⟨hn, hnt⟩;have hsa := zCU hx (n - 1);have hsb := zCU hy (n - 1)
 (repeat' (first|refine stp ?_|with_reducible(refine brr ?_ ?_<;>intro h)));all_goals try(conv=>whnf)
 ·have cl1 := zGL xs ((n : Int) - 1) hx (by omega) hl
  have cl2 := zGL ys ((n : Int) - 1) hy (by omega) hl2;have hn1 : ((n : Int) - 1).toNat = n - 1 := by omega
  have h0 : n - 1 + 1 = n := by omega
  rw [hn1] at cl1 cl2;rw [h0] at hsa hsb;refine zAA cl1 rfl ?_;refine sts ?_;refine zAA cl2 rfl ?_
  (repeat' (first|refine stp ?_|with_reducible(refine brr ?_ ?_<;>intro h)));all_goals try(conv=>whnf)
  ·have := zIQ hx hy (i := n - 1) (by rw [h0]; exact hnt) (Or.inr (by rw [h0]; exact hsa)) (Or.inr (by rw [h0]; exact hsb)) (by omega)
   refine zAB rfl ?_;unfold cmpI;rw [if_pos (by omega)]
  refine zAA cl1 rfl ?_;refine sts ?_;refine zAA cl2 rfl ?_
  (repeat' (first|refine stp ?_|with_reducible(refine brr ?_ ?_<;>intro h)));all_goals try(conv=>whnf)
  ·have := zIQ hy hx (i := n - 1) (by rw [h0]; exact hnt.symm) (Or.inr (by rw [h0]; exact hsb)) (Or.inr (by rw [h0]; exact hsa)) (by omega)
   refine zAB rfl ?_;unfold cmpI;rw [if_neg (by omega), if_pos (by omega)]
  ·exact ⟨n - 1, ⟨⟨by omega, by omega⟩, by omega⟩, zAD rfl rfl, zAD rfl rfl, zAC rfl (by omega), trivial⟩
 ·have h0 : n = 0 := by omega
  subst h0;rw [zG1, zG1] at hnt;refine zAB rfl ?_;unfold cmpI;rw [if_neg (by omega), if_neg (by omega)]
theorem ok_rnsame : FO 102 Tryz.f102 [.tmp 4] 26 := mkO Tryz.func102 Tryz.ntmps102 Tryz.results102
theorem c_rnsame (xs ys : List Int) (hl : xs.length < 2147483648) (hl2 : ys.length < 2147483648) : Fn 102 [encN xs, encN ys] (.data (.bool (decide (xs = ys)))) := by
 refine zAJ hmix hT ok_rnsame (by simp) ?_
 (repeat' (first|refine stp ?_|with_reducible(refine brr ?_ ?_<;>intro h)));all_goals try(conv=>whnf)
 ·refine zAB rfl ?_
  rw [decide_eq_false (fun e => by subst e; exact h rfl)]
 ·have hlen : xs.length = ys.length := by omega
  refine zBH hT (fun n : Nat => [(0, encN xs), (1, encN ys), (5, .int .i64 n)]) (fun n => n ≤ xs.length ∧ ∀ j, j < n → xs[j]! = ys[j]!) (fun n => xs.length - n) 0 ⟨by omega, fun j hj => by omega⟩ ?_ ?_
  ·exact ⟨zAD rfl rfl, zAD rfl rfl, zAC rfl rfl, trivial⟩
  intro n ⟨hn, he⟩
  (repeat' (first|refine stp ?_|with_reducible(refine brr ?_ ?_<;>intro h)));all_goals try(conv=>whnf)
  ·refine zAB rfl ?_
   rw [decide_eq_false (fun e => by subst e; exact h rfl)]
  ·exact ⟨n + 1, ⟨⟨by omega, fun j hj => by
    rcases Nat.lt_or_ge j n with q | q
    ·exact he j q
    ·obtain rfl : j = n := by omega
     exact h⟩, by omega⟩, zAD rfl rfl, zAD rfl rfl, zAC rfl (by omega), trivial⟩
  ·refine zAB rfl ?_
   rw [decide_eq_true];refine List.ext_getElem hlen fun j h1 h2 => ?_
   have := he j (by omega);rw [getElem!_pos xs j h1, getElem!_pos ys j h2] at this;exact this
end Go.PI.Tryz
namespace Go.PI.Tryz
open Go.Proofs Go.PI
def growS (j : Nat) (O : List Int) : Nat × PV := match O with
 | [] => (j, .nilsl)
 | _ :: _ => (j, .own 0 0 O.length)
def growH (O : List Int) : List (Nat × Blk) := match O with
 | [] => []
 | x :: l => [(0, ⟨(x :: l).map (.int .u32), 1, false⟩)]
theorem nv_one (y : Nat) : nv [(y : Int)] = y := by simp [nv]
theorem zJO {O : List Int} {i y : Nat} (h : O.length = i) : nv (O ++ [(y : Int)]) = nv O + pw i * y := by rw [zG0, h, nv_one]
theorem zK3 {O xs ys : List Int} {i c c' y : Nat} (h : O.length = i) (i5 : nv O + pw i * c = nk xs i + nk ys i) (e : c + (lb xs i + lb ys i) = c' * 4294967296 + y) :
 nv (O ++ [(y : Int)]) + pw (i + 1) * c' = nk xs (i + 1) + nk ys (i + 1) := by
 rw [zJO h, zA7, zA7, zA2]
 have : pw i * c + pw i * lb xs i + pw i * lb ys i = 4294967296 * pw i * c' + pw i * y := by
  rw [← Nat.mul_add, ← Nat.mul_add, Nat.mul_comm 4294967296, Nat.mul_assoc, ← Nat.mul_add]
  congr 1
  omega
 omega
theorem zC5 {O : List Int} {y : Nat} (h : okN O) (hy : y < 4294967296) : okN (O ++ [(y : Int)]) := okN_append.2 ⟨h, fun x hx => by rw [List.mem_singleton.1 hx]; omega⟩
theorem ok_rnadd : FO 134 Tryz.f134 [.tmp 4] 44 := mkO Tryz.func134 Tryz.ntmps134 Tryz.results134
theorem c_rnadd (xs ys : List Int) (hx : okN xs) (hy : okN ys) (hl : xs.length < 2147483647) (hl2 : ys.length < 2147483647) : Fn 134 [encN xs, encN ys] (.data (encN (lims (nv xs + nv ys)))) := by
 refine zAJ hmix hT ok_rnadd (by simp) ?_;refine sts ?_
 refine zAL hT (fun ((i, O, c) : Nat × List Int × Nat) => [(0, encN xs), (1, encN ys), growS 5 O, (6, .int .u64 c), (7, .int .i64 i)]) (fun (_, O, _) => growH O) [] 1
  (fun (i, O, c) => O.length = i ∧ i ≤ 2147483646 ∧ okN O ∧ c < 2 ∧ nv O + pw i * c = nk xs i + nk ys i) (fun (i, _, _) => 2147483648 - i) (0, [], 0) ⟨rfl, by omega, zDQ, by omega, by rw [zBW, zBW]; rfl⟩ (by decide) (by simp) ?_ ?_
 ·exact ⟨[], [], [], [], ttt, ⟨zAD rfl rfl, zAD rfl rfl, at_nilsl rfl, zAC rfl rfl, zAC rfl rfl, trivial⟩, trivial, by simp [growH]⟩
 intro ⟨i, O, c⟩ ⟨i1, i2, i3, i4, i5⟩;have cl1 := zGL xs (i : Int) hx (by omega) (by omega);have cl2 := zGL ys (i : Int) hy (by omega) (by omega);rw [show ((i : Int)).toNat = i from rfl] at cl1 cl2;have b1 := zCI hx i;have b2 := zCI hy i;rcases O with _ | ⟨o, O⟩
 ·(repeat' (first|refine stp ?_|with_reducible(refine brr ?_ ?_<;>intro h)));all_goals try(conv=>whnf)
  ·refine zAA cl1 rfl ?_
   refine sts ?_;refine zAA cl2 rfl ?_;refine sts ?_;obtain ⟨c', y, e1, e2⟩ : ∃ c' y, c + (lb xs i + lb ys i) = c' * 4294967296 + y ∧ y < 4294967296 := ⟨(c + (lb xs i + lb ys i)) / 4294967296, (c + (lb xs i + lb ys i)) % 4294967296, by omega, by omega⟩;have hst := zK3 i1 i5 e1;refine zCD ?_;rw [show ((c : Int) + ((lb xs i : Int) + (lb ys i : Int))) % 4294967296 = (y : Int) by omega];refine sts ?_
   exact ⟨(i + 1, [] ++ [(y : Int)], c'), ⟨⟨by simp at i1 ⊢ <;> omega, by omega, zC5 i3 e2, by omega, hst⟩, by show 2147483648 - (i + 1) < 2147483648 - i; omega⟩, [_], [], [], [], ttt,
    ⟨zAD rfl rfl, zAD rfl rfl, zAU (by decide) rfl rfl, zAC rfl (by rw [zC0]; omega), zAC rfl (by omega), trivial⟩, ⟨zAE (by decide) rfl rfl (zAM fun _ => ⟨rfl, by simp⟩) rfl, trivial⟩, by simp [growH]⟩
  ·refine zAA cl1 rfl ?_
   refine sts ?_;refine zAA cl2 rfl ?_;refine sts ?_;obtain ⟨c', y, e1, e2⟩ : ∃ c' y, c + (lb xs i + lb ys i) = c' * 4294967296 + y ∧ y < 4294967296 := ⟨(c + (lb xs i + lb ys i)) / 4294967296, (c + (lb xs i + lb ys i)) % 4294967296, by omega, by omega⟩;have hst := zK3 i1 i5 e1;refine zCD ?_;rw [show ((c : Int) + ((lb xs i : Int) + (lb ys i : Int))) % 4294967296 = (y : Int) by omega];refine sts ?_
   exact ⟨(i + 1, [] ++ [(y : Int)], c'), ⟨⟨by simp at i1 ⊢ <;> omega, by omega, zC5 i3 e2, by omega, hst⟩, by show 2147483648 - (i + 1) < 2147483648 - i; omega⟩, [_], [], [], [], ttt,
    ⟨zAD rfl rfl, zAD rfl rfl, zAU (by decide) rfl rfl, zAC rfl (by rw [zC0]; omega), zAC rfl (by omega), trivial⟩, ⟨zAE (by decide) rfl rfl (zAM fun _ => ⟨rfl, by simp⟩) rfl, trivial⟩, by simp [growH]⟩
  ·have hv : nv ([] ++ [(c : Int)]) = nv xs + nv ys := by rw [zJO i1, i5, zBS (by omega), zBS (by omega)]
   have cm := zCN ([] ++ [(c : Int)]) (zC5 i3 (by omega)) (by simp at i1 ⊢ <;> omega);rw [hv] at cm;refine zAA cm (zAF (zAN rfl rfl (by simp) (fun x => zBZ x)) rfl) ?_;refine sts ?_;exact zAB rfl rfl
 ·(repeat' (first|refine stp ?_|with_reducible(refine brr ?_ ?_<;>intro h)));all_goals try(conv=>whnf)
  ·refine zAA cl1 rfl ?_
   refine sts ?_;refine zAA cl2 rfl ?_;refine sts ?_;obtain ⟨c', y, e1, e2⟩ : ∃ c' y, c + (lb xs i + lb ys i) = c' * 4294967296 + y ∧ y < 4294967296 := ⟨(c + (lb xs i + lb ys i)) / 4294967296, (c + (lb xs i + lb ys i)) % 4294967296, by omega, by omega⟩;have hst := zK3 i1 i5 e1;refine zCD ?_;rw [show ((c : Int) + ((lb xs i : Int) + (lb ys i : Int))) % 4294967296 = (y : Int) by omega];refine sts ?_;refine zA9 ⟨rfl, by simp, by simp at i1 ⊢ <;> omega⟩ ?_;refine sts ?_
   exact ⟨(i + 1, (o :: O) ++ [(y : Int)], c'), ⟨⟨by simp at i1 ⊢ <;> omega, by omega, zC5 i3 e2, by omega, hst⟩, by show 2147483648 - (i + 1) < 2147483648 - i; omega⟩, [_], [], [], [], ttt,
    ⟨zAD rfl rfl, zAD rfl rfl, zAU (by decide) rfl (by simp), zAC rfl (by rw [zC0]; omega), zAC rfl (by omega), trivial⟩, ⟨zAE (by decide) rfl (by simp) (zAM fun _ => ⟨rfl, by simp⟩) rfl, trivial⟩, by simp [growH]⟩
  ·refine zAA cl1 rfl ?_
   refine sts ?_;refine zAA cl2 rfl ?_;refine sts ?_;obtain ⟨c', y, e1, e2⟩ : ∃ c' y, c + (lb xs i + lb ys i) = c' * 4294967296 + y ∧ y < 4294967296 := ⟨(c + (lb xs i + lb ys i)) / 4294967296, (c + (lb xs i + lb ys i)) % 4294967296, by omega, by omega⟩;have hst := zK3 i1 i5 e1;refine zCD ?_;rw [show ((c : Int) + ((lb xs i : Int) + (lb ys i : Int))) % 4294967296 = (y : Int) by omega];refine sts ?_;refine zA9 ⟨rfl, by simp, by simp at i1 ⊢ <;> omega⟩ ?_;refine sts ?_
   exact ⟨(i + 1, (o :: O) ++ [(y : Int)], c'), ⟨⟨by simp at i1 ⊢ <;> omega, by omega, zC5 i3 e2, by omega, hst⟩, by show 2147483648 - (i + 1) < 2147483648 - i; omega⟩, [_], [], [], [], ttt,
    ⟨zAD rfl rfl, zAD rfl rfl, zAU (by decide) rfl (by simp), zAC rfl (by rw [zC0]; omega), zAC rfl (by omega), trivial⟩, ⟨zAE (by decide) rfl (by simp) (zAM fun _ => ⟨rfl, by simp⟩) rfl, trivial⟩, by simp [growH]⟩
  ·have hv : nv ((o :: O) ++ [(c : Int)]) = nv xs + nv ys := by rw [zJO i1, i5, zBS (by omega), zBS (by omega)]
   have cm := zCN ((o :: O) ++ [(c : Int)]) (zC5 i3 (by omega)) (by simp at i1 ⊢ <;> omega);rw [hv] at cm;refine zA9 ⟨rfl, by simp, by simp at i1 ⊢ <;> omega⟩ ?_;refine sts ?_;refine zAA cm (zAF (zAN rfl (by simp) (by simp) (fun x => zBZ x)) rfl) ?_;refine sts ?_;exact zAB rfl rfl
theorem zKL {O xs ys : List Int} {i c c' y : Nat} (h : O.length = i) (i5 : nv O + nk ys i = nk xs i + pw i * c) (e : lb xs i + c' * 4294967296 = lb ys i + c + y) :
 nv (O ++ [(y : Int)]) + nk ys (i + 1) = nk xs (i + 1) + pw (i + 1) * c' := by
 rw [zJO h, zA7, zA7, zA2]
 have : pw i * c + pw i * y + pw i * lb ys i = 4294967296 * pw i * c' + pw i * lb xs i := by
  rw [← Nat.mul_add, ← Nat.mul_add, Nat.mul_comm 4294967296, Nat.mul_assoc, ← Nat.mul_add]
  congr 1
  omega
 omega
theorem sub_done {O xs ys : List Int} {i c : Nat} (h : O.length = i) (ho : okN O) (hc : c < 2) (e : nv O + nk ys i = nk xs i + pw i * c) (hi : xs.length ≤ i) (hx : okN xs) (hle : nv ys ≤ nv xs) : nv O = nv xs - nv ys := by
 have h1 := zD1 hx;have h2 := zCH hi;have h3 := zCA ys i;have h4 := zD1 ho;rw [h] at h4;rw [zBS hi] at e
 have h5 : nt ys i = 0 := by
  rcases Nat.eq_zero_or_pos (nt ys i) with z | z
  ·exact z
  ·have := Nat.mul_le_mul_left (pw i) z
   omega
 rw [h5] at h3;rcases (show c = 0 ∨ c = 1 by omega) with rfl | rfl <;> omega
theorem ok_rnsub : FO 135 Tryz.f135 [.tmp 4, .tmp 5] 45 := mkO Tryz.func135 Tryz.ntmps135 Tryz.results135
theorem c_rnsub (xs ys : List Int) (hx : okN xs) (hy : okN ys) (hl : xs.length < 2147483647) (hl2 : ys.length < 2147483647) : Fn 135 [encN xs, encN ys] (.data (subR (nv xs) (nv ys))) := by
 have cc := c_rncmp xs ys hx hy (by omega) (by omega);have hcmp := zL7 (nv xs) (nv ys);refine zAJ hmix hT ok_rnsub (by simp) ?_;refine sts ?_;refine zAA cc rfl ?_
 (repeat' (first|refine stp ?_|with_reducible(refine brr ?_ ?_<;>intro h)));all_goals try(conv=>whnf)
 ·refine zAB rfl ?_
  unfold subR;rw [if_pos (by omega)]
 refine zAL hT (fun ((i, O, c) : Nat × List Int × Nat) => [(0, encN xs), (1, encN ys), growS 6 O, (7, .int .u64 c), (8, .int .i64 i)]) (fun (_, O, _) => growH O) [] 1
  (fun (i, O, c) => O.length = i ∧ i ≤ xs.length ∧ okN O ∧ c < 2 ∧ nv O + nk ys i = nk xs i + pw i * c) (fun (i, _, _) => xs.length - i) (0, [], 0) ⟨rfl, by omega, zDQ, by omega, by rw [zBW, zBW]; rfl⟩ (by decide) (by simp) ?_ ?_
 ·exact ⟨[], [], [], [], ttt, ⟨zAD rfl rfl, zAD rfl rfl, at_nilsl rfl, zAC rfl rfl, zAC rfl rfl, trivial⟩, trivial, by simp [growH]⟩
 intro ⟨i, O, c⟩ ⟨i1, i2, i3, i4, i5⟩;have cl1 := zGL xs (i : Int) hx (by omega) (by omega);have cl2 := zGL ys (i : Int) hy (by omega) (by omega);rw [show ((i : Int)).toNat = i from rfl] at cl1 cl2;have b1 := zCI hx i;have b2 := zCI hy i;rcases O with _ | ⟨o, O⟩
 ·(repeat' (first|refine stp ?_|with_reducible(refine brr ?_ ?_<;>intro h)));all_goals try(conv=>whnf)
  ·refine zAA cl1 rfl ?_
   refine sts ?_;refine zAA cl2 rfl ?_
   (repeat' (first|refine stp ?_|with_reducible(refine brr ?_ ?_<;>intro h)));all_goals try(conv=>whnf)
   ·obtain ⟨b', y, eb, e1, e2⟩ : ∃ b' y, b' = 1 ∧ lb xs i + b' * 4294967296 = lb ys i + c + y ∧ y < 4294967296 := ⟨1, lb xs i + 1 * 4294967296 - (lb ys i + c), rfl, by omega, by omega⟩
    have hst := zKL i1 i5 e1
    exact ⟨(i + 1, [] ++ [(y : Int)], b'), ⟨⟨by simp at i1 ⊢ <;> omega, by omega, zC5 i3 e2, by omega, hst⟩, by show xs.length - (i + 1) < xs.length - i; omega⟩, [_], [], [], [], ttt,
     ⟨zAD rfl rfl, zAD rfl rfl, zAU (by decide) rfl rfl, zAC rfl (by omega), zAC rfl (by omega), trivial⟩, ⟨zAE (by decide) rfl (by simp; omega) (zAM fun _ => ⟨rfl, by simp⟩) rfl, trivial⟩, by simp [growH]⟩
   ·obtain ⟨b', y, eb, e1, e2⟩ : ∃ b' y, b' = 0 ∧ lb xs i + b' * 4294967296 = lb ys i + c + y ∧ y < 4294967296 := ⟨0, lb xs i + 0 * 4294967296 - (lb ys i + c), rfl, by omega, by omega⟩
    have hst := zKL i1 i5 e1
    exact ⟨(i + 1, [] ++ [(y : Int)], b'), ⟨⟨by simp at i1 ⊢ <;> omega, by omega, zC5 i3 e2, by omega, hst⟩, by show xs.length - (i + 1) < xs.length - i; omega⟩, [_], [], [], [], ttt,
     ⟨zAD rfl rfl, zAD rfl rfl, zAU (by decide) rfl rfl, zAC rfl (by omega), zAC rfl (by omega), trivial⟩, ⟨zAE (by decide) rfl (by simp; omega) (zAM fun _ => ⟨rfl, by simp⟩) rfl, trivial⟩, by simp [growH]⟩
  ·have hO := sub_done (O := []) i1 i3 i4 i5 (by omega) hx (by omega)
   have cm := zCN [] i3 (by simp at i1 ⊢ <;> omega);rw [hO] at cm;refine zAA cm rfl ?_;refine sts ?_;refine zAB rfl ?_;unfold subR;rw [if_neg (by omega)]
 ·(repeat' (first|refine stp ?_|with_reducible(refine brr ?_ ?_<;>intro h)));all_goals try(conv=>whnf)
  ·refine zAA cl1 rfl ?_
   refine sts ?_;refine zAA cl2 rfl ?_
   (repeat' (first|refine stp ?_|with_reducible(refine brr ?_ ?_<;>intro h)));all_goals try(conv=>whnf)
   ·obtain ⟨b', y, eb, e1, e2⟩ : ∃ b' y, b' = 1 ∧ lb xs i + b' * 4294967296 = lb ys i + c + y ∧ y < 4294967296 := ⟨1, lb xs i + 1 * 4294967296 - (lb ys i + c), rfl, by omega, by omega⟩
    have hst := zKL i1 i5 e1;refine zA9 ⟨rfl, by simp, by simp at i1 ⊢ <;> omega⟩ ?_;refine sts ?_
    exact ⟨(i + 1, (o :: O) ++ [(y : Int)], b'), ⟨⟨by simp at i1 ⊢ <;> omega, by omega, zC5 i3 e2, by omega, hst⟩, by show xs.length - (i + 1) < xs.length - i; omega⟩, [_], [], [], [], ttt,
     ⟨zAD rfl rfl, zAD rfl rfl, zAU (by decide) rfl (by simp), zAC rfl (by omega), zAC rfl (by omega), trivial⟩, ⟨zAE (by decide) rfl (by simp; omega) (zAM fun _ => ⟨rfl, by simp⟩) rfl, trivial⟩, by simp [growH]⟩
   ·obtain ⟨b', y, eb, e1, e2⟩ : ∃ b' y, b' = 0 ∧ lb xs i + b' * 4294967296 = lb ys i + c + y ∧ y < 4294967296 := ⟨0, lb xs i + 0 * 4294967296 - (lb ys i + c), rfl, by omega, by omega⟩
    have hst := zKL i1 i5 e1;refine zA9 ⟨rfl, by simp, by simp at i1 ⊢ <;> omega⟩ ?_;refine sts ?_
    exact ⟨(i + 1, (o :: O) ++ [(y : Int)], b'), ⟨⟨by simp at i1 ⊢ <;> omega, by omega, zC5 i3 e2, by omega, hst⟩, by show xs.length - (i + 1) < xs.length - i; omega⟩, [_], [], [], [], ttt,
     ⟨zAD rfl rfl, zAD rfl rfl, zAU (by decide) rfl (by simp), zAC rfl (by omega), zAC rfl (by omega), trivial⟩, ⟨zAE (by decide) rfl (by simp; omega) (zAM fun _ => ⟨rfl, by simp⟩) rfl, trivial⟩, by simp [growH]⟩
  ·have hO := sub_done (O := (o :: O)) i1 i3 i4 i5 (by omega) hx (by omega)
   have cm := zCN (o :: O) i3 (by simp at i1 ⊢ <;> omega);rw [hO] at cm;refine zAA cm (zAF (zAN rfl rfl (by simp) (fun x => zBZ x)) rfl) ?_;refine sts ?_;refine zAB rfl ?_;unfold subR;rw [if_neg (by omega)]
end Go.PI.Tryz
namespace Go.PI.Tryz
open Go.Proofs Go.PI
theorem ok_rnmul : FO 105 Tryz.f105 [.tmp 4] 59 := mkO Tryz.func105 Tryz.ntmps105 Tryz.results105
theorem zMC (A B : List Int) (ha : okN A) (hb : okN B) (hl : A.length < 1073741823) (hl2 : B.length < 1073741823) : Fn 105 [encN A, encN B] (.data (encN (lims (nv A * nv B)))) := by
 refine zAJ hmix hT ok_rnmul (by simp) ?_;refine sts ?_
 refine zAL hT (fun ((i, O) : Nat × List Int) => [(0, encN A), (1, encN B), (5, .own 0 0 (A.length + B.length + 1)), (6, .int .i64 i)]) (fun (_, O) => [(0, ⟨O.map (.int .u32), 1, false⟩)]) [] 1
  (fun (i, O) => i ≤ A.length ∧ O.length = A.length + B.length + 1 ∧ okN O ∧ nv O = nk A i * nv B ∧ ∀ j, i + B.length ≤ j → lb O j = 0) (fun (i, _) => A.length - i) (0, List.replicate (A.length + B.length + 1) 0) ⟨by simp, by simp, zC2 _, by simp [zIO, zBW], fun j _ => zKT _ j⟩ (by decide) (by simp) ?_ ?_
 ·exact ⟨[_], [], [], [], ttt, ⟨zAD rfl rfl, zAD rfl rfl, zAU (by decide) rfl (by simp only [List.length_map]; omega), zAC rfl rfl, trivial⟩, ⟨zAE (by decide) rfl (zLI (f := PV.int .u32) (x := 0) (by simp only [List.length_map]; omega)) (zAM fun _ => ⟨rfl, by simp⟩) rfl, trivial⟩, by simp [ren]⟩
 intro ⟨i, O⟩ ⟨hi, hO, hok, hv, hz⟩
 (repeat' (first|refine stp ?_|with_reducible(refine brr ?_ ?_<;>intro h)));all_goals try(conv=>whnf)
 ·refine zAL hT (fun ((k, P, c) : Nat × List Int × Nat) => [(0, encN A), (1, encN B), (5, .own 0 0 (A.length + B.length + 1)), (6, .int .i64 i), (7, .int .u64 c), (8, .int .i64 k)]) (fun (_, P, _) => [(0, ⟨P.map (.int .u32), 1, false⟩)]) [] 1
   (fun (k, P, c) => k ≤ B.length + 1 ∧ P.length = A.length + B.length + 1 ∧ okN P ∧ c < 4294967296 ∧ nv P + c * pw (i + k) = nv O + pw i * (lb A i * nk B k) ∧ (∀ j, i + B.length + 1 ≤ j → lb P j = 0) ∧ (k ≤ B.length → lb P (i + B.length) = 0) ∧ (k = B.length + 1 → c = 0)) (fun (k, _, _) => B.length + 1 - k) (0, O, 0)
   ⟨by simp, hO, hok, by simp, by simp [zBW], fun j hj => hz j (by omega), fun _ => hz _ (by omega), fun _ => rfl⟩ (by decide) (by simp) ?_ ?_
  ·exact ⟨[0], [], [], [], ttt, ⟨zAD rfl rfl, zAD rfl rfl, zAU (by decide) rfl rfl, zAC rfl rfl, zAC rfl rfl, zAC rfl rfl, trivial⟩, ⟨zAE (by decide) rfl rfl (zAM fun _ => ⟨rfl, by simp⟩) rfl, trivial⟩, by simp [ren]⟩
  intro ⟨k, P, c⟩ ⟨hk, hP, hokP, hc, hvP, hzP, hzk, hck⟩;have cl := zGL B (k : Int) hb (by omega) (by omega);rw [show ((k : Int)).toNat = k from rfl] at cl;have ha1 : 0 ≤ A[i]! ∧ A[i]! < 4294967296 := zCT ha (by omega);have h1 := zBF (show i < A.length by omega) ha;have hBk := zCI hb k;have hpr : 0 ≤ A[i]! * (lb B k : Int) ∧ A[i]! * (lb B k : Int) ≤ 18446744065119617025 := prod_le ha1 (by omega);have hPk : k ≤ B.length → 0 ≤ P[i + k]! ∧ P[i + k]! < 4294967296 := fun h => zCT hokP (by omega)
  (repeat' (first|refine stp ?_|with_reducible(refine brr ?_ ?_<;>intro h)));all_goals try(conv=>whnf)
  ·refine zAA cl rfl ?_
   refine sts ?_;refine zBP (i + k) (by omega) (by omega) ?_;have hP1 := hPk (by omega);have h3 := zBF (show i + k < P.length by omega) hokP;obtain ⟨s, hs⟩ : ∃ s, c + (lb A i * lb B k + lb P (i + k)) = s := ⟨_, rfl⟩
   have hsI : (s : Int) = ↑c + (A[i]! * (lb B k : Int) + P[i + k]!) := by
    rw [← hs]; simp only [Int.natCast_add, Int.natCast_mul, h1, h3]
   refine sts ?_;refine zCD ?_;refine sts ?_;refine zBP (i + k) (by omega) (by omega) ?_;refine sts ?_
   refine ⟨(k + 1, P.set (i + k) ((s % 4294967296 : Nat) : Int), s / 4294967296), ⟨⟨by omega, by simp [hP], zBV hokP _ (by omega), by omega, ?_, fun j hj => by rw [zIW (by omega)]; exact hzP j hj, fun hk2 => by rw [zIW (by omega)]; exact hzk (by omega), fun hk2 => ?_⟩, by show B.length + 1 - (k + 1) < B.length + 1 - k; omega⟩, [0], [], [], [], ttt,
    ⟨zAD rfl rfl, zAD rfl rfl, zAU (by decide) rfl rfl, zAC rfl rfl, zAC rfl (by rw [zC0, ← hsI]; omega), zAC rfl (by omega), trivial⟩, ⟨zAE (by decide) rfl (zCR (by omega) (by rw [← hsI]; omega)) (zAM fun _ => ⟨rfl, by simp⟩) rfl, trivial⟩, by simp [ren]⟩
   ·have e1 := zJ7 (a := P) (j := i + k) ((s % 4294967296 : Nat) : Int) (by omega)
    have e2 := zDS (pw (i + k)) s;rw [Int.toNat_natCast] at e1;rw [zA7, show i + (k + 1) = i + k + 1 by omega, zA2];rw [← hs] at e1 e2 ⊢;simp only [Nat.mul_add, zLK] at e1 e2 hvP ⊢;simp only [Nat.mul_comm, Nat.mul_left_comm, Nat.mul_assoc] at e1 e2 hvP ⊢;omega
   ·have hkB : k = B.length := by omega
    subst hkB;rw [zG4 (Nat.le_refl _), hzk (Nat.le_refl _), Nat.mul_zero] at hs;omega
  ·have hk1 : k = B.length + 1 := by omega
   have hc0 := hck hk1;subst hc0
   exact ⟨(i + 1, P), ⟨⟨by omega, hP, hokP, by rw [hk1, zA7, zG4 (Nat.le_refl _), zBS (a := B) (Nat.le_refl _)] at hvP; simp only [Nat.mul_zero, Nat.add_zero, Nat.zero_mul] at hvP; rw [zA7, Nat.add_mul, ← hv, Nat.mul_assoc]; omega, fun j hj => hzP j (by omega)⟩, by show A.length - (i + 1) < A.length - i; omega⟩, [0], [], [], [], ttt,
    ⟨zAD rfl rfl, zAD rfl rfl, zAU (by decide) rfl rfl, zAC rfl (by omega), trivial⟩, ⟨zAE (by decide) rfl rfl (zAM fun _ => ⟨rfl, by simp⟩) rfl, trivial⟩, by simp [ren]⟩
 ·have hi' : i = A.length := by omega
  rw [hi', zBS (a := A) (Nat.le_refl _)] at hv;have ct := zCN O hok (by omega);rw [hv] at ct;refine zAA ct (zAF (zAN rfl rfl (by omega) (fun x => zBZ x)) rfl) ?_;refine sts ?_;exact zAB rfl rfl
end Go.PI.Tryz
namespace Go.PI.Tryz
open Go.Proofs Go.PI
theorem ok_rnuint : FO 156 Tryz.f156 [.tmp 2, .tmp 3] 28 := mkO Tryz.func156 Tryz.ntmps156 Tryz.results156
theorem c_rnuint (xs : List Int) (hx : okN xs) (hl : xs.length < 2147483647) : Fn 156 [encN xs] (.data (if nv xs < 18446744073709551616 then .tup [.int .u64 (nv xs), .bool true] else .tup [.int .u64 0, .bool false])) := by
 have ct := zCN xs hx (by omega);have h2 := zAT hx;have ha := zDY (nv xs);have hv := zAQ (nv xs);generalize nv xs = N at *
 have hnil : lims N = [] → N = 0 := zCM;generalize lims N = A at *
 have p2 : pw 2 = 18446744073709551616 := by rw [zA2, zA2, zCG]
 have p1 : pw 1 = 4294967296 := by rw [zA2, zCG]
 have hlt := zD1 ha.1;refine zAJ hmix hT ok_rnuint (by simp) ?_;refine sts ?_;refine zAA ct rfl ?_
 (repeat' (first|refine stp ?_|with_reducible(refine brr ?_ ?_<;>intro h)));all_goals try(conv=>whnf)
 ·have := hnil (List.length_eq_zero_iff.1 (by omega))
  subst this;rw [if_pos (by omega)];exact zAB rfl rfl
 ·have hl1 : A.length = 1 := by omega
  have g := zBF (a := A) (k := 0) (by omega) ha.1;have b := zCI ha.1 0;have e : nv A = lb A 0 := by rw [← zBS (a := A) (k := 1) (by omega), zA7, zBW, zCG]; omega
  have hA0 : 0 ≤ A[0]! ∧ A[0]! < 4294967296 := by omega
  rw [if_pos (by omega)];refine sts ?_;refine zAB rfl ?_;rw [← g, ← e, hv]
 ·have hl1 : A.length = 2 := by omega
  have g0 := zBF (a := A) (k := 0) (by omega) ha.1;have b0 := zCI ha.1 0;have g1 := zBF (a := A) (k := 1) (by omega) ha.1;have b1 := zCI ha.1 1;have e : nv A = lb A 0 + 4294967296 * lb A 1 := by rw [← zBS (a := A) (k := 2) (by omega), zA7, zA7, zBW, zCG, p1]; omega
  have hA0 : 0 ≤ A[0]! ∧ A[0]! < 4294967296 := by omega
  have hA1 : 0 ≤ A[1]! ∧ A[1]! < 4294967296 := by omega
  have ee : bitF .or .u64 A[0]! (A[1]! * shl2 .u64 32) = (N : Int) := by rw [or_limb' hA1 hA0]; omega
  rw [if_pos (by omega)];refine sts ?_;refine zAY (j := 1) rfl (by omega) ?_;refine sts ?_;refine zC1 ?_ ?_
  ·rw [zGC]; omega
  refine sts ?_;refine zAB rfl ?_;rw [ee]
 ·have hge := zL9 ha (fun e => by subst e; simp at *)
  have := zCH (show 2 ≤ A.length - 1 by omega);rw [if_neg (by omega)];refine sts ?_;exact zAB rfl rfl
end Go.PI.Tryz
namespace Go.PI.Tryz
open Go.Proofs Go.PI
theorem ok_rnbits : FO 157 Tryz.f157 [.tmp 2] 27 := mkO Tryz.func157 Tryz.ntmps157 Tryz.results157
theorem c_rnbits (xs : List Int) (hx : okN xs) (hl : xs.length < 2147483647) : Fn 157 [encN xs] (.data (.int .i64 (bitsV (nv xs)))) := by
 have h2 := zAT hx;have hok := zAO (nv xs);refine zAJ hmix hT ok_rnbits (by simp) ?_;refine sts ?_;refine zAA (zCN xs hx (by omega)) rfl ?_
 (repeat' (first|refine stp ?_|with_reducible(refine brr ?_ ?_<;>intro h)));all_goals try(conv=>whnf)
 ·refine zAB rfl ?_
  have : lims (nv xs) = [] := List.length_eq_zero_iff.1 (by omega);have := zCM this;unfold bitsV;rw [if_pos this]
 ·refine zAY (j := (lims (nv xs)).length - 1) (by simp only [List.length_map]; omega) (by omega) ?_
  refine sts ?_;have hg := zBF (show (lims (nv xs)).length - 1 < (lims (nv xs)).length by omega) hok;have hlt := zCI hok ((lims (nv xs)).length - 1)
  have hne : nv xs ≠ 0 := fun e => by
   have : (lims (nv xs)).length = 0 := by rw [e]; rfl
   omega
  have hbv : bitsV (nv xs) = 32 * ((lims (nv xs)).length - 1 : Nat) + bl (lb (lims (nv xs)) ((lims (nv xs)).length - 1)) := by unfold bitsV; rw [if_neg hne]
  rw [hbv];generalize lb (lims (nv xs)) ((lims (nv xs)).length - 1) = T at *
  refine zBH hT (fun ((n, t) : Nat × Nat) => [(3, .int .i64 n), (4, .int .u32 t)]) (fun (n, t) => t < 4294967296 ∧ n + bl t = 32 * ((lims (nv xs)).length - 1) + bl T) (fun (_, t) => t) (32 * ((lims (nv xs)).length - 1), T) ⟨hlt, rfl⟩ ?_ ?_
  ·exact ⟨zAC rfl (by simp only [List.length_map]; omega), zAC rfl hg.symm, trivial⟩
  intro ⟨n, t⟩ ⟨i1, i2⟩;have hT32 := (zB7 32 T hlt (by decide)).2.2;have ht32 := (zB7 32 t i1 (by decide)).2.2
  (repeat' (first|refine stp ?_|with_reducible(refine brr ?_ ?_<;>intro h)));all_goals try(conv=>whnf)
  ·have hh := zFU (n := t) (by omega) (by omega)
   have hf : (t : Int).fdiv (shl2 .u32 1) = ((t / 2 : Nat) : Int) := by rw [zI2 (j := 1) rfl]; omega
   exact ⟨(n + 1, t / 2), ⟨⟨by omega, by omega⟩, by show t / 2 < t; omega⟩, zAC rfl (by omega), zAC rfl hf, trivial⟩
  ·have h0 : t = 0 := by omega
   subst h0;rw [bl_zero] at i2;refine zAB rfl ?_
   congr 1
   omega
end Go.PI.Tryz
namespace Go.PI.Tryz
open Go.Proofs Go.PI
theorem ok_rnshl : FO 158 Tryz.f158 [.tmp 4] 40 := mkO Tryz.func158 Tryz.ntmps158 Tryz.results158
theorem c_rnshl (xs : List Int) (hx : okN xs) (hl : xs.length < 2147483646) : Fn 158 [encN xs, .int .i64 1] (.data (encN (lims (2 * nv xs)))) := by
 refine zAJ hmix hT ok_rnshl (by simp) ?_;have eq : (1 : Int).tdiv 32 = 0 := rfl;have em : (1 : Int).tmod 32 = 1 := rfl;refine sts ?_
 refine zAL hT (fun ((i, O, c) : Nat × List Int × Nat) => [(0, encN xs), (1, .int .i64 1), (5, .own 0 0 i), (6, .int .u64 c), (7, .int .i64 i)]) (fun (_, O, _) => [(0, ⟨O.map (.int .u32), 1, false⟩)]) [] 1
  (fun (i, O, c) => O.length = i ∧ i ≤ xs.length ∧ okN O ∧ c < 2 ∧ nv O + pw i * c = 2 * nk xs i) (fun (i, _, _) => xs.length - i) (0, [], 0) ⟨rfl, by omega, zDQ, by omega, by rw [zBW]; rfl⟩ (by decide) (by simp) ?_ ?_
 ·exact ⟨[_], [], [], [], ttt, ⟨zAD rfl rfl, zAC rfl rfl, zAU (by decide) rfl rfl, zAC rfl rfl, zAC rfl rfl, trivial⟩, ⟨zAE (by decide) rfl rfl (by simp) rfl, trivial⟩, by simp [ren]⟩
 intro ⟨i, O, c⟩ ⟨i1, i2, i3, i4, i5⟩;have b1 := zCI hx i;have hXi : i < xs.length → xs[i]! = (lb xs i : Int) := fun h => (zBF h hx).symm
 (repeat' (first|refine stp ?_|with_reducible(refine brr ?_ ?_<;>intro h)));all_goals try(conv=>whnf)
 ·have hx1 := hXi (by omega)
  have e2 : shl2 .u64 1 = 2 := by rw [zLE (by decide)]; rfl
  have eo : bitF .or .u64 (c : Int) ((lb xs i : Int) * 2) = ((2 * lb xs i + c : Nat) : Int) := by
   have := zJ2 (a := lb xs i) (b := c) (i := 1) (by omega) (by omega);rw [show ((2 ^ 1 * lb xs i : Nat) : Int) = (lb xs i : Int) * 2 by omega] at this;rw [this]
  rw [hx1, em, e2];obtain ⟨c', y, e1, e3⟩ : ∃ c' y, 2 * lb xs i + c = c' * 4294967296 + y ∧ y < 4294967296 := ⟨(2 * lb xs i + c) / 4294967296, (2 * lb xs i + c) % 4294967296, by omega, by omega⟩;refine zC1 (by omega) ?_;refine sts ?_;rw [eo];refine zCD ?_;refine sts ?_
  refine ⟨(i + 1, O ++ [(y : Int)], c'), ⟨⟨by simp [i1], by omega, zC5 i3 e3, by omega, ?_⟩, by show xs.length - (i + 1) < xs.length - i; omega⟩, [_], [], [], [], ttt,
   ⟨zAD rfl rfl, zAC rfl rfl, zAU (by decide) rfl (by simp), zAC rfl (by rw [zC0]; omega), zAC rfl (by omega), trivial⟩, ⟨zAE (by decide) rfl (by simp; omega) (zAM fun _ => ⟨rfl, by simp⟩) rfl, trivial⟩, by simp [ren]⟩
  rw [zJO i1, zA7, zA2]
  have : pw i * c + pw i * (2 * lb xs i) = 4294967296 * pw i * c' + pw i * y := by
   rw [← Nat.mul_add, Nat.mul_comm 4294967296, Nat.mul_assoc, ← Nat.mul_add]
   congr 1
   omega
  rw [Nat.mul_left_comm] at this;omega
 ·have hi : i = xs.length := by omega
  have hv : nv (O ++ [(c : Int)]) = 2 * nv xs := by rw [zJO i1, i5, zBS (by omega)]
  have cm := zCN (O ++ [(c : Int)]) (zC5 i3 (by omega)) (by simp; omega);rw [hv] at cm;refine zAA cm (zAF (zAN rfl (by simp) (by simp [i1]) (fun x => zBZ x)) rfl) ?_;refine sts ?_;exact zAB rfl rfl
end Go.PI.Tryz
namespace Go.PI.Tryz
open Go.Proofs Go.PI
theorem bits_lt (N : Nat) : ∃ m : Nat, bitsV N = m ∧ N < 2 ^ m ∧ m ≤ 32 * (lims N).length := by
 unfold bitsV;by_cases h : N = 0
 ·subst h; exact ⟨0, rfl, by decide, by simp⟩
 ·rw [if_neg h]
  have hn : lims N ≠ [] := fun e => h (zCM e)
  have hl : 0 < (lims N).length := List.length_pos_iff.2 hn;have ho := zAO N;obtain ⟨L, hL⟩ : ∃ L, (lims N).length = L + 1 := ⟨(lims N).length - 1, by omega⟩;rw [hL];have hlt := zCI ho L;have hb := zB7 32 _ hlt (by decide);refine ⟨32 * L + bl (lb (lims N) L), by simp, ?_, by omega⟩;have e : N = nk (lims N) L + pw L * lb (lims N) L := by rw [← zA7, zBS (by omega), zAQ]
  have h1 := zMT ho L;rw [Nat.pow_add, ← pw_two];have h2 := Nat.mul_le_mul_left (pw L) (show lb (lims N) L + 1 ≤ 2 ^ bl (lb (lims N) L) by omega);rw [Nat.mul_add] at h2;omega
theorem ok_rndivmod : FO 132 Tryz.f132 [.tmp 4, .tmp 5, .tmp 6] 89 := mkO Tryz.func132 Tryz.ntmps132 Tryz.results132
theorem zJ0 (xs ys : List Int) (hx : okN xs) (hy : okN ys) (hl : xs.length < 2147483636) (hl2 : ys.length < 2147483636) : Fn 132 [encN xs, encN ys] (.data (.tup [encN (lims (nv xs / nv ys)), encN (if nv ys = 0 then [] else lims (nv xs % nv ys)), .int .i64 (if nv ys = 0 then 3 else 0)])) := by
 have cu1 := c_rnuint xs hx (by omega);have cu2 := c_rnuint ys hy (by omega);have cb := c_rnbits xs hx (by omega);obtain ⟨m0, em, hm1, hm2⟩ := bits_lt (nv xs);rw [em] at cb;have hm3 : m0 ≤ 32 * xs.length := by have := zAT hx; omega
 refine zAJ hmix hT ok_rndivmod (by simp) ?_
 (repeat' (first|refine stp ?_|with_reducible(refine brr ?_ ?_<;>intro h)));all_goals try(conv=>whnf)
 by_cases k1 : nv xs < 18446744073709551616 <;> by_cases k2 : nv ys < 18446744073709551616
 all_goals first | rw [if_pos k1] at cu1 | rw [if_neg k1] at cu1
 all_goals first | rw [if_pos k2] at cu2 | rw [if_neg k2] at cu2
 all_goals (refine zAA cu1 rfl ?_; (repeat' (first|refine stp ?_|with_reducible(refine brr ?_ ?_<;>intro h)));all_goals try(conv=>whnf))
 all_goals (refine zAA cu2 rfl ?_; (repeat' (first|refine stp ?_|with_reducible(refine brr ?_ ?_<;>intro h)));all_goals try(conv=>whnf))
 ·have h0 : nv ys = 0 := by omega
  refine zAB rfl ?_;rw [h0, Nat.div_zero, if_pos rfl, if_pos rfl]; rfl
 ·have h0 : nv ys ≠ 0 := by omega
  obtain ⟨q, hq⟩ : ∃ q, q = nv xs / nv ys := ⟨_, rfl⟩;obtain ⟨r, hr⟩ : ∃ r, r = nv xs % nv ys := ⟨_, rfl⟩;have e1 : (nv xs : Int).tdiv (nv ys) = (q : Int) := by rw [hq]; exact (Int.ofNat_tdiv ..).symm
  have e2 : (nv xs : Int).tmod (nv ys) = (r : Int) := by rw [hr]; exact (Int.ofNat_tmod ..).symm
  have b1 : q ≤ nv xs := hq ▸ Nat.div_le_self ..;have b2 : r ≤ nv xs := hr ▸ Nat.mod_le ..;rw [e1];refine zC1 (by omega) ?_
  (repeat' (first|refine stp ?_|with_reducible(refine brr ?_ ?_<;>intro h)));all_goals try(conv=>whnf)
  refine zAA (c_rnof _ (by omega)) rfl ?_
  (repeat' (first|refine stp ?_|with_reducible(refine brr ?_ ?_<;>intro h)));all_goals try(conv=>whnf)
  rw [e2];refine zAA (c_rnof _ (by omega)) rfl ?_
  (repeat' (first|refine stp ?_|with_reducible(refine brr ?_ ?_<;>intro h)));all_goals try(conv=>whnf)
  refine zAB rfl ?_;rw [if_neg h0, if_neg h0, ← hq, ← hr]
 rotate_left
 ·have h0 : nv ys = 0 := by omega
  refine zAB rfl ?_;rw [h0, Nat.div_zero, if_pos rfl, if_pos rfl]; rfl
 all_goals
  have hM : nv ys ≠ 0 := by omega
  refine zAA cb rfl ?_
  (repeat' (first|refine stp ?_|with_reducible(refine brr ?_ ?_<;>intro h)));all_goals try(conv=>whnf)
  refine zAL hT (fun ((m, Q, q, R) : Nat × List Int × Nat × Nat) => [(0, encN xs), (1, encN ys), (11, .own 0 0 xs.length), (12, encN (lims R)), (13, .int .i64 ((m : Int) - 1))]) (fun (_, Q, _) => [(0, ⟨Q.map (.int .u32), 1, false⟩)]) [] 1
   (fun (m, Q, q, R) => m ≤ 32 * xs.length ∧ Q.length = xs.length ∧ okN Q ∧ nv Q = 2 ^ m * q ∧ nv xs / 2 ^ m = q * nv ys + R ∧ R < nv ys) (fun (m, _) => m) (m0, List.replicate xs.length 0, 0, 0) ⟨hm3, by simp, zC2 _, by rw [zIO]; rfl, by rw [Nat.div_eq_of_lt hm1]; simp, by omega⟩ (by decide) (by simp) ?_ ?_
  ·exact ⟨[28], [29], [(12, encN (lims 0))], [], ⟨⟨⟨_, rfl⟩, trivial⟩, ⟨⟨4, [29], zAN (f := PV.int .u32) (l := []) rfl rfl rfl (fun x => zBZ x), rfl⟩, trivial⟩, trivial⟩,
    ⟨zAD rfl rfl, zAD rfl rfl, zAU (by decide) rfl (by simp only [List.length_map]; omega), zAD rfl rfl, zAC rfl rfl, trivial⟩, ⟨zAE (by decide) rfl (zLI (f := PV.int .u32) (x := 0) (by simp only [List.length_map]; omega)) (zAM fun _ => ⟨rfl, by simp⟩) rfl, trivial⟩, by simp [ren]⟩
  intro ⟨m, Q, q, R⟩ ⟨i1, i2, i3, i4, i5, i6⟩;have hR : R < pw ys.length := Nat.lt_trans i6 (zD1 hy);have hRl := zBN hR
  (repeat' (first|refine stp ?_|with_reducible(refine brr ?_ ?_<;>intro h)));all_goals try(conv=>whnf)
  ·have hm : 1 ≤ m := by omega
   obtain ⟨j, hj⟩ : ∃ j, j = (m - 1) / 32 := ⟨_, rfl⟩;obtain ⟨s, hs⟩ : ∃ s, s = (m - 1) % 32 := ⟨_, rfl⟩;have e3 : ((m : Int) - 1).tdiv 32 = (j : Int) := by rw [Int.tdiv_eq_ediv_of_nonneg (by omega)]; omega
   have e4 : ((m : Int) - 1).tmod 32 = (s : Int) := by rw [Int.tmod_eq_emod_of_nonneg (by omega)]; omega
   have c1 := c_rnshl (lims R) (zAO R) (by omega);rw [zAQ] at c1;refine zAA c1 rfl ?_
   (repeat' (first|refine stp ?_|with_reducible(refine brr ?_ ?_<;>intro h)));all_goals try(conv=>whnf)
   have b := zCI hx j;have hj2 : j < xs.length := by omega
   have hg := zBF hj2 hx;refine zAY (j := j) (by rw [e3]) (by omega) ?_;obtain ⟨bit, hbit⟩ : ∃ bit, bit = nv xs / 2 ^ (m - 1) % 2 := ⟨_, rfl⟩;have hb2 : bit < 2 := by omega
   have hs2 : s < 32 := by omega
   have eb : bitF .and .u32 ((xs[j]!).fdiv (shl2 .u32 (((m : Int) - 1).tmod 32))) 1 = (bit : Int) := by
    rw [e4, ← hg, shl2_32u (by omega), show ((2 : Int) ^ ((s : Int).toNat)) = ((2 ^ s : Nat) : Int) by simp, Int.fdiv_eq_ediv_of_nonneg _ (Int.natCast_nonneg _), ← Int.natCast_ediv, bitF_and1 (Nat.lt_of_le_of_lt (Nat.div_le_self ..) b), hbit, bit_of hx, ← hj, ← hs]
   have hp1 : pw (ys.length + 1) = 4294967296 * pw ys.length := zA2 _;have hl1 : (lims (2 * R)).length ≤ ys.length + 1 := zBN (by omega);have ca := c_rnadd (lims (2 * R)) [(bit : Int)] (zAO _) (okN_cons.2 ⟨by omega, zDQ⟩) (by omega) (by simp);rw [zAQ, show nv [(bit : Int)] = bit by simp [nv]] at ca;obtain ⟨X, hX⟩ : ∃ X, X = 2 * R + bit := ⟨_, rfl⟩;rw [← hX] at ca;have hl3 : (lims X).length ≤ ys.length + 1 := zBN (by omega);have cc := c_rncmp (lims X) ys (zAO _) hy (by omega) (by omega);have cs := c_rnsub (lims X) ys (zAO _) hy (by omega) (by omega);rw [zAQ] at cc cs
   have h5 : nv xs / 2 ^ (m - 1) = 2 * (nv xs / 2 ^ m) + bit := by
    have : 2 ^ m = 2 ^ (m - 1) * 2 := by rw [← Nat.pow_succ]; congr 1; omega
    rw [this, ← Nat.div_div_eq_div_mul]; omega
   rw [i5, Nat.mul_add, ← Nat.mul_assoc] at h5
   have h4 : nv Q = 2 ^ (m - 1) * (2 * q) := by
    have : 2 ^ m = 2 ^ (m - 1) * 2 := by rw [← Nat.pow_succ]; congr 1; omega
    rw [i4, this, Nat.mul_assoc]
   (repeat' (first|refine stp ?_|with_reducible(refine brr ?_ ?_<;>intro h)));all_goals try(conv=>whnf)
   refine zAA ca (zAF rfl (zAF (zAN rfl (by rw [eb]; rfl) rfl (fun x => zBZ x)) rfl)) ?_
   (repeat' (first|refine stp ?_|with_reducible(refine brr ?_ ?_<;>intro h)));all_goals try(conv=>whnf)
   refine zAA cc rfl ?_
   (repeat' (first|refine stp ?_|with_reducible(refine brr ?_ ?_<;>intro h)));all_goals try(conv=>whnf)
   ·have hge : nv ys ≤ X := by have := (zL7 X (nv ys)); omega
    unfold subR at cs;rw [if_neg (by omega)] at cs;refine zAA cs rfl ?_
    (repeat' (first|refine stp ?_|with_reducible(refine brr ?_ ?_<;>intro h)));all_goals try(conv=>whnf)
    obtain ⟨c, hc⟩ := limb_dvd (i := m - 1) (q := q) i3 (by rw [Nat.sub_add_cancel hm]; exact i4);rw [← hj, ← hs] at hc;have bQ := zCI i3 j;have hgQ := zBF (show j < Q.length by omega) i3;have ho := limb_or (s := s) (c := c) hs2 (by omega);refine zBP j (by rw [e3]; simp) (by omega) ?_
    (repeat' (first|refine stp ?_|with_reducible(refine brr ?_ ?_<;>intro h)));all_goals try(conv=>whnf)
    obtain ⟨p, hp⟩ : ∃ p, p = 2 ^ s := ⟨_, rfl⟩;rw [← hp] at ho;have es : (1 : Int) * shl2 .u32 (((m : Int) - 1).tmod 32) = (p : Int) := by rw [e4, shl2_32u (by omega), hp]; simp
    have eo : bitF .or .u32 (Q[j]!) (p : Int) = ((lb Q j + p : Nat) : Int) := by rw [← hgQ, hc]; exact ho.1
    rw [← hc] at ho
    have hQ' : nv (Q.set j ((lb Q j + p : Nat) : Int)) = 2 ^ (m - 1) * (2 * q + 1) := by
     have h6 := zJ7 (a := Q) (j := j) ((lb Q j + p : Nat) : Int) (by omega);rw [Int.toNat_natCast, Nat.mul_add] at h6;have h7 : pw j * p = 2 ^ (m - 1) := by rw [pw_two, hp, ← Nat.pow_add]; congr 1; omega
     rw [h7] at h6;rw [Nat.mul_add, Nat.mul_one, ← h4];omega
    have hok' : okN (Q.set j ((lb Q j + p : Nat) : Int)) := zBV i3 j ⟨by omega, by omega⟩;rw [es];refine zGY (by omega) ?_
    (repeat' (first|refine stp ?_|with_reducible(refine brr ?_ ?_<;>intro h)));all_goals try(conv=>whnf)
    refine zBP j (by rw [e3]; simp) (by omega) ?_
    (repeat' (first|refine stp ?_|with_reducible(refine brr ?_ ?_<;>intro h)));all_goals try(conv=>whnf)
    exact ⟨(m - 1, Q.set j ((lb Q j + p : Nat) : Int), 2 * q + 1, X - nv ys), ⟨⟨by omega, by simp [i2], hok', hQ', by rw [Nat.add_mul]; omega, by omega⟩, by show m - 1 < m; omega⟩, [_], [], [], [], ttt,
     ⟨zAD rfl rfl, zAD rfl rfl, zAU (by decide) rfl rfl, zAD rfl rfl, zAC rfl (by omega), trivial⟩, ⟨zAE (by decide) rfl (zCR (by rw [e3]; simp) eo) (zAM fun _ => ⟨rfl, by simp⟩) rfl, trivial⟩, by simp [ren]⟩
   ·have hge : X < nv ys := by have := (zL7 X (nv ys)); omega
    exact ⟨(m - 1, Q, 2 * q, X), ⟨⟨by omega, i2, i3, h4, by omega, hge⟩, by show m - 1 < m; omega⟩, [_], [], [], [], ttt,
     ⟨zAD rfl rfl, zAD rfl rfl, zAU (by decide) rfl rfl, zAD rfl rfl, zAC rfl (by omega), trivial⟩, ⟨zAE (by decide) rfl rfl (zAM fun _ => ⟨rfl, by simp⟩) rfl, trivial⟩, by simp [ren]⟩
  ·have h0 : m = 0 := by omega
   subst h0;have cm := zCN Q i3 (by omega);rw [Nat.pow_zero, Nat.div_one] at i5;rw [Nat.pow_zero, Nat.one_mul] at i4;refine zAA cm (zAF (zAN rfl rfl (by omega) (fun x => zBZ x)) rfl) ?_
   (repeat' (first|refine stp ?_|with_reducible(refine brr ?_ ?_<;>intro h)));all_goals try(conv=>whnf)
   refine zAB rfl ?_;have e1 : nv xs / nv ys = nv Q := by rw [i5, i4, Nat.mul_comm, Nat.mul_add_div (by omega), Nat.div_eq_of_lt i6]; rfl
   have e2 : nv xs % nv ys = R := by rw [i5, Nat.mul_comm, Nat.mul_add_mod, Nat.mod_eq_of_lt i6]
   rw [if_neg hM, if_neg hM, e1, e2]
end Go.PI.Tryz
namespace Go.PI.Tryz
open Go.Proofs Go.PI
theorem ok_rngcd : FO 131 Tryz.f131 [.tmp 4] 25 := mkO Tryz.func131 Tryz.ntmps131 Tryz.results131
theorem c_rngcd (xs ys : List Int) (hx : okN xs) (hy : okN ys) (hl : xs.length < 2147483636) (hl2 : ys.length < 2147483636) : Fn 131 [encN xs, encN ys] (.data (encN (lims (Nat.gcd (nv xs) (nv ys))))) := by
 have ct1 := zCN xs hx (by omega);have ct2 := zCN ys hy (by omega);have h1 := zAT hx;have h2 := zAT hy;generalize nv xs = P0 at *
 generalize nv ys = Q0 at *
 obtain ⟨g, eg⟩ : ∃ g, Nat.gcd P0 Q0 = g := ⟨_, rfl⟩;rw [eg];refine zAJ hmix hT ok_rngcd (by simp) ?_;refine sts ?_;refine zAA ct1 rfl ?_;refine sts ?_;refine zAA ct2 rfl ?_;refine sts ?_;refine zBH hT (fun ((P, Q) : Nat × Nat) => [(0, encN (lims P)), (1, encN (lims Q))]) (fun (P, Q) => Nat.gcd P Q = g ∧ (lims P).length < 2147483636 ∧ (lims Q).length < 2147483636) (fun (_, Q) => Q) (P0, Q0) ⟨eg, by omega, by omega⟩ ?_ ?_
 ·exact ⟨zAD rfl rfl, zAD rfl rfl, trivial⟩
 intro ⟨P, Q⟩ ⟨i1, i2, i3⟩;have cd := zJ0 (lims P) (lims Q) (zAO P) (zAO Q) i2 i3;rw [zAQ, zAQ] at cd
 (repeat' (first|refine stp ?_|with_reducible(refine brr ?_ ?_<;>intro h)));all_goals try(conv=>whnf)
 ·have hQ : Q ≠ 0 := fun e => by subst e; rw [zC3] at h; simp at h
  rw [if_neg hQ, if_neg hQ] at cd;refine zAA cd rfl ?_;refine sts ?_;have hm := Nat.mod_lt P (show Q > 0 by omega);have hml := zDA (Nat.le_of_lt hm);exact ⟨(Q, P % Q), ⟨⟨by rw [zKU]; exact i1, i3, by omega⟩, hm⟩, zAD rfl rfl, zAD rfl rfl, trivial⟩
 ·have hQ : Q = 0 := zCM (List.length_eq_zero_iff.1 (by omega))
  subst hQ;rw [Nat.gcd_zero_right] at i1;subst i1;exact zAB rfl rfl
end Go.PI.Tryz
