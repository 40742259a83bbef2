/-
  The reference's natural numbers: Gcd.
-/
import Derived.Test.YtdgckinmcnjheaaGreatCNA
import Derived.Test.YtdgckinmcnjheaaGreatCPD
set_option linter.unusedVariables false
set_option linter.unusedSimpArgs false
set_option linter.unnecessarySimpa false
namespace Go.PI.Tryz
open Go.Proofs Go.PI
theorem ok_rnmake : FO 107 Tryz.f107 [.tmp 2] 23 := mkO Tryz.func107 Tryz.ntmps107 Tryz.results107
theorem zCU (xs : List Int) (ho : okN xs) (hl : xs.length < 2147483648) : Fn 107 [encN xs] (.data (encN (lims (nv xs)))) := by
 refine zAM hmix hT ok_rnmake (by simp) ?_;refine sts ?_;refine zA6 hT (fun n : Nat => [(0, encN xs), (3, .int .i64 n)]) (fun n => n ≤ xs.length ∧ ∀ j, n ≤ j → j < xs.length → xs[j]! = 0) (fun n => n) xs.length ⟨Nat.le_refl _, fun j h1 h2 => by omega⟩ ?_ ?_
 ·exact ⟨zAD rfl rfl, zAC rfl (by simp), trivial⟩
 ·intro n ⟨hn, hz⟩
  (repeat' (first|refine stp ?_|with_reducible(refine brr ?_ ?_<;>intro h)));all_goals try(conv=>whnf)
  ·refine zBB (j := n - 1) (by omega) (by omega) ?_
   (repeat' (first|refine stp ?_|with_reducible(refine brr ?_ ?_<;>intro h)));all_goals try(conv=>whnf)
   ·refine ⟨n - 1, ⟨⟨by omega, fun j h1 h2 => ?_⟩, by omega⟩, zAD rfl rfl, zAC rfl (by omega), trivial⟩
    by_cases e : j = n - 1
    ·subst e; assumption
    ·exact hz j (by omega) h2
   ·refine zC6 (l' := xs.take n) (by simp) ?_
    refine sts ?_;refine zAB (zAI (f := PV.int .u32) (l := xs.take n) rfl rfl (by simp) (fun x => zB1 x)) ?_;rw [zIG ho hn hz (Or.inr h)]
  ·have h0 : n = 0 := by omega
   subst h0;refine zC6 (l' := []) (by simp) ?_;refine sts ?_;refine zAB (zAI (f := PV.int .u32) (l := []) rfl rfl (by simp) (fun x => zB1 x)) ?_;rw [← zIG ho hn hz (Or.inl rfl)]; rfl
theorem ok_rnlimb : FO 47 Tryz.f47 [.tmp 4] 13 := mkO Tryz.func47 Tryz.ntmps47 Tryz.results47
theorem zGC (xs : List Int) (i : Int) (ho : okN xs) (hi : 0 ≤ i) (hl : xs.length < 2147483648) : Fn 47 [encN xs, .int .i64 i] (.data (.int .u32 (lb xs i.toNat))) := by
 obtain ⟨j, rfl⟩ := Int.eq_ofNat_of_zero_le hi;refine zAM hmix hT ok_rnlimb (by simp) ?_
 (repeat' (first|refine stp ?_|with_reducible(refine brr ?_ ?_<;>intro h)));all_goals try(conv=>whnf)
 ·refine zAB rfl ?_
  rw [← zBE (by omega) ho]; rfl
 ·refine zAB rfl ?_
  rw [show ((j : Int)).toNat = j from rfl, zGT (by omega)]; rfl
theorem ok_rnof : FO 76 Tryz.f76 [.tmp 2] 10 := mkO Tryz.func76 Tryz.ntmps76 Tryz.results76
theorem c_rnof (n : Nat) (hn : n < 18446744073709551616) : Fn 76 [.int .u64 n] (.data (encN (lims n))) := by
 refine zAM hmix hT ok_rnof (by simp) ?_;refine sts ?_;refine zCJ ?_;refine sts ?_;rw [zC8];refine sts ?_;have hv : nv [(n : Int) % 4294967296, (n : Int) / 4294967296] = n := by simp only [nv]; omega
 have cm := zCU [(n : Int) % 4294967296, (n : Int) / 4294967296] (by intro x hx; simp only [List.mem_cons, List.not_mem_nil, or_false] at hx; omega) (by simp);rw [hv] at cm;refine zAA cm rfl ?_;refine sts ?_;exact zAB rfl rfl
theorem ok_rncmp : FO 19 Tryz.f19 [.tmp 4] 30 := mkO Tryz.func19 Tryz.ntmps19 Tryz.results19
theorem c_rncmp (xs ys : List Int) (hx : okN xs) (hy : okN ys) (hl : xs.length < 2147483648) (hl2 : ys.length < 2147483648) : Fn 19 [encN xs, encN ys] (.data (.int .i64 (cmpI (nv xs) (nv ys)))) := by
 refine zAM hmix hT ok_rncmp (by simp) ?_;refine sts ?_;obtain ⟨M, hM⟩ : ∃ M, max xs.length ys.length = M := ⟨_, rfl⟩;refine zA6 hT (fun n : Nat => [(0, encN xs), (1, encN ys), (5, .int .i64 ((n : Int) - 1))]) (fun n => n ≤ 2147483648 ∧ nt xs n = nt ys n) (fun n => n) M ⟨by omega, by rw [zEE (by omega), zEE (by omega)]⟩ ?_ ?_
 ·exact ⟨zAD rfl rfl, zAD rfl rfl, zAC rfl (by simp only [List.length_map]; split <;> omega), trivial⟩
 intro n ⟨hn, hnt⟩;have hsa := zC0 hx (n - 1);have hsb := zC0 hy (n - 1)
 (repeat' (first|refine stp ?_|with_reducible(refine brr ?_ ?_<;>intro h)));all_goals try(conv=>whnf)
 ·have cl1 := zGC xs ((n : Int) - 1) hx (by omega) hl
  have cl2 := zGC ys ((n : Int) - 1) hy (by omega) hl2;have hn1 : ((n : Int) - 1).toNat = n - 1 := by omega
  have h0 : n - 1 + 1 = n := by omega
  rw [hn1] at cl1 cl2;rw [h0] at hsa hsb;refine zAA cl1 rfl ?_;refine sts ?_;refine zAA cl2 rfl ?_
  (repeat' (first|refine stp ?_|with_reducible(refine brr ?_ ?_<;>intro h)));all_goals try(conv=>whnf)
  ·have := zIT hx hy (i := n - 1) (by rw [h0]; exact hnt) (Or.inr (by rw [h0]; exact hsa)) (Or.inr (by rw [h0]; exact hsb)) (by omega)
   refine zAB rfl ?_;unfold cmpI;rw [if_pos (by omega)]
  refine zAA cl1 rfl ?_;refine sts ?_;refine zAA cl2 rfl ?_
  (repeat' (first|refine stp ?_|with_reducible(refine brr ?_ ?_<;>intro h)));all_goals try(conv=>whnf)
  ·have := zIT hy hx (i := n - 1) (by rw [h0]; exact hnt.symm) (Or.inr (by rw [h0]; exact hsb)) (Or.inr (by rw [h0]; exact hsa)) (by omega)
   refine zAB rfl ?_;unfold cmpI;rw [if_neg (by omega), if_pos (by omega)]
  ·exact ⟨n - 1, ⟨⟨by omega, by omega⟩, by omega⟩, zAD rfl rfl, zAD rfl rfl, zAC rfl (by omega), trivial⟩
 ·have h0 : n = 0 := by omega
  subst h0;rw [zGP, zGP] at hnt;refine zAB rfl ?_;unfold cmpI;rw [if_neg (by omega), if_neg (by omega)]
theorem ok_rnsame : FO 163 Tryz.f163 [.tmp 4] 26 := mkO Tryz.func163 Tryz.ntmps163 Tryz.results163
theorem c_rnsame (xs ys : List Int) (hl : xs.length < 2147483648) (hl2 : ys.length < 2147483648) : Fn 163 [encN xs, encN ys] (.data (.bool (decide (xs = ys)))) := by
 refine zAM hmix hT ok_rnsame (by simp) ?_
 (repeat' (first|refine stp ?_|with_reducible(refine brr ?_ ?_<;>intro h)));all_goals try(conv=>whnf)
 ·refine zAB rfl ?_
  rw [decide_eq_false (fun e => by subst e; exact h rfl)]
 ·have hlen : xs.length = ys.length := by omega
  refine zA6 hT (fun n : Nat => [(0, encN xs), (1, encN ys), (5, .int .i64 n)]) (fun n => n ≤ xs.length ∧ ∀ j, j < n → xs[j]! = ys[j]!) (fun n => xs.length - n) 0 ⟨by omega, fun j hj => by omega⟩ ?_ ?_
  ·exact ⟨zAD rfl rfl, zAD rfl rfl, zAC rfl rfl, trivial⟩
  intro n ⟨hn, he⟩
  (repeat' (first|refine stp ?_|with_reducible(refine brr ?_ ?_<;>intro h)));all_goals try(conv=>whnf)
  ·refine zAB rfl ?_
   rw [decide_eq_false (fun e => by subst e; exact h rfl)]
  ·exact ⟨n + 1, ⟨⟨by omega, fun j hj => by
    rcases Nat.lt_or_ge j n with q | q
    ·exact he j q
    ·obtain rfl : j = n := by omega
     exact h⟩, by omega⟩, zAD rfl rfl, zAD rfl rfl, zAC rfl (by omega), trivial⟩
  ·refine zAB rfl ?_
   rw [decide_eq_true];refine List.ext_getElem hlen fun j h1 h2 => ?_
   have := he j (by omega);rw [getElem!_pos xs j h1, getElem!_pos ys j h2] at this;exact this
end Go.PI.Tryz
namespace Go.PI.Tryz
open Go.Proofs Go.PI
def growS (j : Nat) (O : List Int) : Nat × PV := match O with
 | [] => (j, .nilsl)
 | _ :: _ => (j, .own 0 0 O.length)
def growH (O : List Int) : List (Nat × Blk) := match O with
 | [] => []
 | x :: l => [(0, ⟨(x :: l).map (.int .u32), 1, false⟩)]
theorem nv_one (y : Nat) : nv [(y : Int)] = y := by simp [nv]
theorem zJ7 {O : List Int} {i y : Nat} (h : O.length = i) : nv (O ++ [(y : Int)]) = nv O + pw i * y := by rw [zGN, h, nv_one]
theorem zLT {O xs ys : List Int} {i c c' y : Nat} (h : O.length = i) (i5 : nv O + pw i * c = nk xs i + nk ys i) (e : c + (lb xs i + lb ys i) = c' * 4294967296 + y) :
 nv (O ++ [(y : Int)]) + pw (i + 1) * c' = nk xs (i + 1) + nk ys (i + 1) := by
 rw [zJ7 h, zA3, zA3, zAZ]
 have : pw i * c + pw i * lb xs i + pw i * lb ys i = 4294967296 * pw i * c' + pw i * y := by
  rw [← Nat.mul_add, ← Nat.mul_add, Nat.mul_comm 4294967296, Nat.mul_assoc, ← Nat.mul_add]
  congr 1
  omega
 omega
theorem zDD {O : List Int} {y : Nat} (h : okN O) (hy : y < 4294967296) : okN (O ++ [(y : Int)]) := okN_append.2 ⟨h, fun x hx => by rw [List.mem_singleton.1 hx]; omega⟩
theorem ok_rnadd : FO 129 Tryz.f129 [.tmp 4] 44 := mkO Tryz.func129 Tryz.ntmps129 Tryz.results129
theorem c_rnadd (xs ys : List Int) (hx : okN xs) (hy : okN ys) (hl : xs.length < 2147483647) (hl2 : ys.length < 2147483647) : Fn 129 [encN xs, encN ys] (.data (encN (lims (nv xs + nv ys)))) := by
 refine zAM hmix hT ok_rnadd (by simp) ?_;refine sts ?_
 refine zAG hT (fun ((i, O, c) : Nat × List Int × Nat) => [(0, encN xs), (1, encN ys), growS 5 O, (6, .int .u64 c), (7, .int .i64 i)]) (fun (_, O, _) => growH O) [] 1
  (fun (i, O, c) => O.length = i ∧ i ≤ 2147483646 ∧ okN O ∧ c < 2 ∧ nv O + pw i * c = nk xs i + nk ys i) (fun (i, _, _) => 2147483648 - i) (0, [], 0) ⟨rfl, by omega, zED, by omega, by rw [zBX, zBX]; rfl⟩ (by decide) (by simp) ?_ ?_
 ·exact ⟨[], [], [], [], ttt, ⟨zAD rfl rfl, zAD rfl rfl, at_nilsl rfl, zAC rfl rfl, zAC rfl rfl, trivial⟩, trivial, by simp [growH]⟩
 intro ⟨i, O, c⟩ ⟨i1, i2, i3, i4, i5⟩;have cl1 := zGC xs (i : Int) hx (by omega) (by omega);have cl2 := zGC ys (i : Int) hy (by omega) (by omega);rw [show ((i : Int)).toNat = i from rfl] at cl1 cl2;have b1 := zCQ hx i;have b2 := zCQ hy i;rcases O with _ | ⟨o, O⟩
 ·(repeat' (first|refine stp ?_|with_reducible(refine brr ?_ ?_<;>intro h)));all_goals try(conv=>whnf)
  ·refine zAA cl1 rfl ?_
   refine sts ?_;refine zAA cl2 rfl ?_;refine sts ?_;obtain ⟨c', y, e1, e2⟩ : ∃ c' y, c + (lb xs i + lb ys i) = c' * 4294967296 + y ∧ y < 4294967296 := ⟨(c + (lb xs i + lb ys i)) / 4294967296, (c + (lb xs i + lb ys i)) % 4294967296, by omega, by omega⟩;have hst := zLT i1 i5 e1;refine zCJ ?_;rw [show ((c : Int) + ((lb xs i : Int) + (lb ys i : Int))) % 4294967296 = (y : Int) by omega];refine sts ?_
   exact ⟨(i + 1, [] ++ [(y : Int)], c'), ⟨⟨by simp at i1 ⊢ <;> omega, by omega, zDD i3 e2, by omega, hst⟩, by show 2147483648 - (i + 1) < 2147483648 - i; omega⟩, [_], [], [], [], ttt,
    ⟨zAD rfl rfl, zAD rfl rfl, zAH (by decide) rfl rfl, zAC rfl (by rw [zC8]; omega), zAC rfl (by omega), trivial⟩, ⟨zAE (by decide) rfl rfl (zAV fun _ => ⟨rfl, by simp⟩) rfl, trivial⟩, by simp [growH]⟩
  ·refine zAA cl1 rfl ?_
   refine sts ?_;refine zAA cl2 rfl ?_;refine sts ?_;obtain ⟨c', y, e1, e2⟩ : ∃ c' y, c + (lb xs i + lb ys i) = c' * 4294967296 + y ∧ y < 4294967296 := ⟨(c + (lb xs i + lb ys i)) / 4294967296, (c + (lb xs i + lb ys i)) % 4294967296, by omega, by omega⟩;have hst := zLT i1 i5 e1;refine zCJ ?_;rw [show ((c : Int) + ((lb xs i : Int) + (lb ys i : Int))) % 4294967296 = (y : Int) by omega];refine sts ?_
   exact ⟨(i + 1, [] ++ [(y : Int)], c'), ⟨⟨by simp at i1 ⊢ <;> omega, by omega, zDD i3 e2, by omega, hst⟩, by show 2147483648 - (i + 1) < 2147483648 - i; omega⟩, [_], [], [], [], ttt,
    ⟨zAD rfl rfl, zAD rfl rfl, zAH (by decide) rfl rfl, zAC rfl (by rw [zC8]; omega), zAC rfl (by omega), trivial⟩, ⟨zAE (by decide) rfl rfl (zAV fun _ => ⟨rfl, by simp⟩) rfl, trivial⟩, by simp [growH]⟩
  ·have hv : nv ([] ++ [(c : Int)]) = nv xs + nv ys := by rw [zJ7 i1, i5, zBU (by omega), zBU (by omega)]
   have cm := zCU ([] ++ [(c : Int)]) (zDD i3 (by omega)) (by simp at i1 ⊢ <;> omega);rw [hv] at cm;refine zAA cm (zAR (zAI rfl rfl (by simp) (fun x => zB1 x)) rfl) ?_;refine sts ?_;exact zAB rfl rfl
 ·(repeat' (first|refine stp ?_|with_reducible(refine brr ?_ ?_<;>intro h)));all_goals try(conv=>whnf)
  ·refine zAA cl1 rfl ?_
   refine sts ?_;refine zAA cl2 rfl ?_;refine sts ?_;obtain ⟨c', y, e1, e2⟩ : ∃ c' y, c + (lb xs i + lb ys i) = c' * 4294967296 + y ∧ y < 4294967296 := ⟨(c + (lb xs i + lb ys i)) / 4294967296, (c + (lb xs i + lb ys i)) % 4294967296, by omega, by omega⟩;have hst := zLT i1 i5 e1;refine zCJ ?_;rw [show ((c : Int) + ((lb xs i : Int) + (lb ys i : Int))) % 4294967296 = (y : Int) by omega];refine sts ?_;refine zBL ⟨rfl, by simp, by simp at i1 ⊢ <;> omega⟩ ?_;refine sts ?_
   exact ⟨(i + 1, (o :: O) ++ [(y : Int)], c'), ⟨⟨by simp at i1 ⊢ <;> omega, by omega, zDD i3 e2, by omega, hst⟩, by show 2147483648 - (i + 1) < 2147483648 - i; omega⟩, [_], [], [], [], ttt,
    ⟨zAD rfl rfl, zAD rfl rfl, zAH (by decide) rfl (by simp), zAC rfl (by rw [zC8]; omega), zAC rfl (by omega), trivial⟩, ⟨zAE (by decide) rfl (by simp) (zAV fun _ => ⟨rfl, by simp⟩) rfl, trivial⟩, by simp [growH]⟩
  ·refine zAA cl1 rfl ?_
   refine sts ?_;refine zAA cl2 rfl ?_;refine sts ?_;obtain ⟨c', y, e1, e2⟩ : ∃ c' y, c + (lb xs i + lb ys i) = c' * 4294967296 + y ∧ y < 4294967296 := ⟨(c + (lb xs i + lb ys i)) / 4294967296, (c + (lb xs i + lb ys i)) % 4294967296, by omega, by omega⟩;have hst := zLT i1 i5 e1;refine zCJ ?_;rw [show ((c : Int) + ((lb xs i : Int) + (lb ys i : Int))) % 4294967296 = (y : Int) by omega];refine sts ?_;refine zBL ⟨rfl, by simp, by simp at i1 ⊢ <;> omega⟩ ?_;refine sts ?_
   exact ⟨(i + 1, (o :: O) ++ [(y : Int)], c'), ⟨⟨by simp at i1 ⊢ <;> omega, by omega, zDD i3 e2, by omega, hst⟩, by show 2147483648 - (i + 1) < 2147483648 - i; omega⟩, [_], [], [], [], ttt,
    ⟨zAD rfl rfl, zAD rfl rfl, zAH (by decide) rfl (by simp), zAC rfl (by rw [zC8]; omega), zAC rfl (by omega), trivial⟩, ⟨zAE (by decide) rfl (by simp) (zAV fun _ => ⟨rfl, by simp⟩) rfl, trivial⟩, by simp [growH]⟩
  ·have hv : nv ((o :: O) ++ [(c : Int)]) = nv xs + nv ys := by rw [zJ7 i1, i5, zBU (by omega), zBU (by omega)]
   have cm := zCU ((o :: O) ++ [(c : Int)]) (zDD i3 (by omega)) (by simp at i1 ⊢ <;> omega);rw [hv] at cm;refine zBL ⟨rfl, by simp, by simp at i1 ⊢ <;> omega⟩ ?_;refine sts ?_;refine zAA cm (zAR (zAI rfl (by simp) (by simp) (fun x => zB1 x)) rfl) ?_;refine sts ?_;exact zAB rfl rfl
theorem zK9 {O xs ys : List Int} {i c c' y : Nat} (h : O.length = i) (i5 : nv O + nk ys i = nk xs i + pw i * c) (e : lb xs i + c' * 4294967296 = lb ys i + c + y) :
 nv (O ++ [(y : Int)]) + nk ys (i + 1) = nk xs (i + 1) + pw (i + 1) * c' := by
 rw [zJ7 h, zA3, zA3, zAZ]
 have : pw i * c + pw i * y + pw i * lb ys i = 4294967296 * pw i * c' + pw i * lb xs i := by
  rw [← Nat.mul_add, ← Nat.mul_add, Nat.mul_comm 4294967296, Nat.mul_assoc, ← Nat.mul_add]
  congr 1
  omega
 omega
theorem sub_done {O xs ys : List Int} {i c : Nat} (h : O.length = i) (ho : okN O) (hc : c < 2) (e : nv O + nk ys i = nk xs i + pw i * c) (hi : xs.length ≤ i) (hx : okN xs) (hle : nv ys ≤ nv xs) : nv O = nv xs - nv ys := by
 have h1 := zDR hx;have h2 := zEC hi;have h3 := zCG ys i;have h4 := zDR ho;rw [h] at h4;rw [zBU hi] at e
 have h5 : nt ys i = 0 := by
  rcases Nat.eq_zero_or_pos (nt ys i) with z | z
  ·exact z
  ·have := Nat.mul_le_mul_left (pw i) z
   omega
 rw [h5] at h3;rcases (show c = 0 ∨ c = 1 by omega) with rfl | rfl <;> omega
theorem ok_rnsub : FO 130 Tryz.f130 [.tmp 4, .tmp 5] 45 := mkO Tryz.func130 Tryz.ntmps130 Tryz.results130
theorem c_rnsub (xs ys : List Int) (hx : okN xs) (hy : okN ys) (hl : xs.length < 2147483647) (hl2 : ys.length < 2147483647) : Fn 130 [encN xs, encN ys] (.data (subR (nv xs) (nv ys))) := by
 have cc := c_rncmp xs ys hx hy (by omega) (by omega);have hcmp := zM9 (nv xs) (nv ys);refine zAM hmix hT ok_rnsub (by simp) ?_;refine sts ?_;refine zAA cc rfl ?_
 (repeat' (first|refine stp ?_|with_reducible(refine brr ?_ ?_<;>intro h)));all_goals try(conv=>whnf)
 ·refine zAB rfl ?_
  unfold subR;rw [if_pos (by omega)]
 refine zAG hT (fun ((i, O, c) : Nat × List Int × Nat) => [(0, encN xs), (1, encN ys), growS 6 O, (7, .int .u64 c), (8, .int .i64 i)]) (fun (_, O, _) => growH O) [] 1
  (fun (i, O, c) => O.length = i ∧ i ≤ xs.length ∧ okN O ∧ c < 2 ∧ nv O + nk ys i = nk xs i + pw i * c) (fun (i, _, _) => xs.length - i) (0, [], 0) ⟨rfl, by omega, zED, by omega, by rw [zBX, zBX]; rfl⟩ (by decide) (by simp) ?_ ?_
 ·exact ⟨[], [], [], [], ttt, ⟨zAD rfl rfl, zAD rfl rfl, at_nilsl rfl, zAC rfl rfl, zAC rfl rfl, trivial⟩, trivial, by simp [growH]⟩
 intro ⟨i, O, c⟩ ⟨i1, i2, i3, i4, i5⟩;have cl1 := zGC xs (i : Int) hx (by omega) (by omega);have cl2 := zGC ys (i : Int) hy (by omega) (by omega);rw [show ((i : Int)).toNat = i from rfl] at cl1 cl2;have b1 := zCQ hx i;have b2 := zCQ hy i;rcases O with _ | ⟨o, O⟩
 ·(repeat' (first|refine stp ?_|with_reducible(refine brr ?_ ?_<;>intro h)));all_goals try(conv=>whnf)
  ·refine zAA cl1 rfl ?_
   refine sts ?_;refine zAA cl2 rfl ?_
   (repeat' (first|refine stp ?_|with_reducible(refine brr ?_ ?_<;>intro h)));all_goals try(conv=>whnf)
   ·obtain ⟨b', y, eb, e1, e2⟩ : ∃ b' y, b' = 1 ∧ lb xs i + b' * 4294967296 = lb ys i + c + y ∧ y < 4294967296 := ⟨1, lb xs i + 1 * 4294967296 - (lb ys i + c), rfl, by omega, by omega⟩
    have hst := zK9 i1 i5 e1
    exact ⟨(i + 1, [] ++ [(y : Int)], b'), ⟨⟨by simp at i1 ⊢ <;> omega, by omega, zDD i3 e2, by omega, hst⟩, by show xs.length - (i + 1) < xs.length - i; omega⟩, [_], [], [], [], ttt,
     ⟨zAD rfl rfl, zAD rfl rfl, zAH (by decide) rfl rfl, zAC rfl (by omega), zAC rfl (by omega), trivial⟩, ⟨zAE (by decide) rfl (by simp; omega) (zAV fun _ => ⟨rfl, by simp⟩) rfl, trivial⟩, by simp [growH]⟩
   ·obtain ⟨b', y, eb, e1, e2⟩ : ∃ b' y, b' = 0 ∧ lb xs i + b' * 4294967296 = lb ys i + c + y ∧ y < 4294967296 := ⟨0, lb xs i + 0 * 4294967296 - (lb ys i + c), rfl, by omega, by omega⟩
    have hst := zK9 i1 i5 e1
    exact ⟨(i + 1, [] ++ [(y : Int)], b'), ⟨⟨by simp at i1 ⊢ <;> omega, by omega, zDD i3 e2, by omega, hst⟩, by show xs.length - (i + 1) < xs.length - i; omega⟩, [_], [], [], [], ttt,
     ⟨zAD rfl rfl, zAD rfl rfl, zAH (by decide) rfl rfl, zAC rfl (by omega), zAC rfl (by omega), trivial⟩, ⟨zAE (by decide) rfl (by simp; omega) (zAV fun _ => ⟨rfl, by simp⟩) rfl, trivial⟩, by simp [growH]⟩
  ·have hO := sub_done (O := []) i1 i3 i4 i5 (by omega) hx (by omega)
   have cm := zCU [] i3 (by simp at i1 ⊢ <;> omega);rw [hO] at cm;refine zAA cm rfl ?_;refine sts ?_;refine zAB rfl ?_;unfold subR;rw [if_neg (by omega)]
 ·(repeat' (first|refine stp ?_|with_reducible(refine brr ?_ ?_<;>intro h)));all_goals try(conv=>whnf)
  ·refine zAA cl1 rfl ?_
   refine sts ?_;refine zAA cl2 rfl ?_
   (repeat' (first|refine stp ?_|with_reducible(refine brr ?_ ?_<;>intro h)));all_goals try(conv=>whnf)
   ·obtain ⟨b', y, eb, e1, e2⟩ : ∃ b' y, b' = 1 ∧ lb xs i + b' * 4294967296 = lb ys i + c + y ∧ y < 4294967296 := ⟨1, lb xs i + 1 * 4294967296 - (lb ys i + c), rfl, by omega, by omega⟩
    have hst := zK9 i1 i5 e1;refine zBL ⟨rfl, by simp, by simp at i1 ⊢ <;> omega⟩ ?_;refine sts ?_
    exact ⟨(i + 1, (o :: O) ++ [(y : Int)], b'), ⟨⟨by simp at i1 ⊢ <;> omega, by omega, zDD i3 e2, by omega, hst⟩, by show xs.length - (i + 1) < xs.length - i; omega⟩, [_], [], [], [], ttt,
     ⟨zAD rfl rfl, zAD rfl rfl, zAH (by decide) rfl (by simp), zAC rfl (by omega), zAC rfl (by omega), trivial⟩, ⟨zAE (by decide) rfl (by simp; omega) (zAV fun _ => ⟨rfl, by simp⟩) rfl, trivial⟩, by simp [growH]⟩
   ·obtain ⟨b', y, eb, e1, e2⟩ : ∃ b' y, b' = 0 ∧ lb xs i + b' * 4294967296 = lb ys i + c + y ∧ y < 4294967296 := ⟨0, lb xs i + 0 * 4294967296 - (lb ys i + c), rfl, by omega, by omega⟩
    have hst := zK9 i1 i5 e1;refine zBL ⟨rfl, by simp, by simp at i1 ⊢ <;> omega⟩ ?_;refine sts ?_
    exact ⟨(i + 1, (o :: O) ++ [(y : Int)], b'), ⟨⟨by simp at i1 ⊢ <;> omega, by omega, zDD i3 e2, by omega, hst⟩, by show xs.length - (i + 1) < xs.length - i; omega⟩, [_], [], [], [], ttt,
     ⟨zAD rfl rfl, zAD rfl rfl, zAH (by decide) rfl (by simp), zAC rfl (by omega), zAC rfl (by omega), trivial⟩, ⟨zAE (by decide) rfl (by simp; omega) (zAV fun _ => ⟨rfl, by simp⟩) rfl, trivial⟩, by simp [growH]⟩
  ·have hO := sub_done (O := (o :: O)) i1 i3 i4 i5 (by omega) hx (by omega)
   have cm := zCU (o :: O) i3 (by simp at i1 ⊢ <;> omega);rw [hO] at cm;refine zAA cm (zAR (zAI rfl rfl (by simp) (fun x => zB1 x)) rfl) ?_;refine sts ?_;refine zAB rfl ?_;unfold subR;rw [if_neg (by omega)]
end Go.PI.Tryz
namespace Go.PI.Tryz
open Go.Proofs Go.PI
theorem ok_rnmul : FO 72 Tryz.f72 [.tmp 4] 59 := mkO Tryz.func72 Tryz.ntmps72 Tryz.results72
theorem zH8 (A B : List Int) (ha : okN A) (hb : okN B) (hl : A.length < 1073741823) (hl2 : B.length < 1073741823) : Fn 72 [encN A, encN B] (.data (encN (lims (nv A * nv B)))) := by
 refine zAM hmix hT ok_rnmul (by simp) ?_;refine sts ?_
 refine zAG hT (fun ((i, O) : Nat × List Int) => [(0, encN A), (1, encN B), (5, .own 0 0 (A.length + B.length + 1)), (6, .int .i64 i)]) (fun (_, O) => [(0, ⟨O.map (.int .u32), 1, false⟩)]) [] 1
  (fun (i, O) => i ≤ A.length ∧ O.length = A.length + B.length + 1 ∧ okN O ∧ nv O = nk A i * nv B ∧ ∀ j, i + B.length ≤ j → lb O j = 0) (fun (i, _) => A.length - i) (0, List.replicate (A.length + B.length + 1) 0) ⟨by simp, by simp, zDA _, by simp [zIR, zBX], fun j _ => zLH _ j⟩ (by decide) (by simp) ?_ ?_
 ·exact ⟨[_], [], [], [], ttt, ⟨zAD rfl rfl, zAD rfl rfl, zAH (by decide) rfl (by simp only [List.length_map]; omega), zAC rfl rfl, trivial⟩, ⟨zAE (by decide) rfl (zIJ (f := PV.int .u32) (x := 0) (by simp only [List.length_map]; omega)) (zAV fun _ => ⟨rfl, by simp⟩) rfl, trivial⟩, by simp [ren]⟩
 intro ⟨i, O⟩ ⟨hi, hO, hok, hv, hz⟩
 (repeat' (first|refine stp ?_|with_reducible(refine brr ?_ ?_<;>intro h)));all_goals try(conv=>whnf)
 ·refine zAG hT (fun ((k, P, c) : Nat × List Int × Nat) => [(0, encN A), (1, encN B), (5, .own 0 0 (A.length + B.length + 1)), (6, .int .i64 i), (7, .int .u64 c), (8, .int .i64 k)]) (fun (_, P, _) => [(0, ⟨P.map (.int .u32), 1, false⟩)]) [] 1
   (fun (k, P, c) => k ≤ B.length + 1 ∧ P.length = A.length + B.length + 1 ∧ okN P ∧ c < 4294967296 ∧ nv P + c * pw (i + k) = nv O + pw i * (lb A i * nk B k) ∧ (∀ j, i + B.length + 1 ≤ j → lb P j = 0) ∧ (k ≤ B.length → lb P (i + B.length) = 0) ∧ (k = B.length + 1 → c = 0)) (fun (k, _, _) => B.length + 1 - k) (0, O, 0)
   ⟨by simp, hO, hok, by simp, by simp [zBX], fun j hj => hz j (by omega), fun _ => hz _ (by omega), fun _ => rfl⟩ (by decide) (by simp) ?_ ?_
  ·exact ⟨[0], [], [], [], ttt, ⟨zAD rfl rfl, zAD rfl rfl, zAH (by decide) rfl rfl, zAC rfl rfl, zAC rfl rfl, zAC rfl rfl, trivial⟩, ⟨zAE (by decide) rfl rfl (zAV fun _ => ⟨rfl, by simp⟩) rfl, trivial⟩, by simp [ren]⟩
  intro ⟨k, P, c⟩ ⟨hk, hP, hokP, hc, hvP, hzP, hzk, hck⟩;have cl := zGC B (k : Int) hb (by omega) (by omega);rw [show ((k : Int)).toNat = k from rfl] at cl;have ha1 : 0 ≤ A[i]! ∧ A[i]! < 4294967296 := zCZ ha (by omega);have h1 := zBE (show i < A.length by omega) ha;have hBk := zCQ hb k;have hpr : 0 ≤ A[i]! * (lb B k : Int) ∧ A[i]! * (lb B k : Int) ≤ 18446744065119617025 := prod_le ha1 (by omega);have hPk : k ≤ B.length → 0 ≤ P[i + k]! ∧ P[i + k]! < 4294967296 := fun h => zCZ hokP (by omega)
  (repeat' (first|refine stp ?_|with_reducible(refine brr ?_ ?_<;>intro h)));all_goals try(conv=>whnf)
  ·refine zAA cl rfl ?_
   refine sts ?_;refine zA0 (i + k) (by omega) (by omega) ?_;have hP1 := hPk (by omega);have h3 := zBE (show i + k < P.length by omega) hokP;obtain ⟨s, hs⟩ : ∃ s, c + (lb A i * lb B k + lb P (i + k)) = s := ⟨_, rfl⟩
   have hsI : (s : Int) = ↑c + (A[i]! * (lb B k : Int) + P[i + k]!) := by
    rw [← hs]; simp only [Int.natCast_add, Int.natCast_mul, h1, h3]
   refine sts ?_;refine zCJ ?_;refine sts ?_;refine zA0 (i + k) (by omega) (by omega) ?_;refine sts ?_
   refine ⟨(k + 1, P.set (i + k) ((s % 4294967296 : Nat) : Int), s / 4294967296), ⟨⟨by omega, by simp [hP], zBW hokP _ (by omega), by omega, ?_, fun j hj => by rw [zIX (by omega)]; exact hzP j hj, fun hk2 => by rw [zIX (by omega)]; exact hzk (by omega), fun hk2 => ?_⟩, by show B.length + 1 - (k + 1) < B.length + 1 - k; omega⟩, [0], [], [], [], ttt,
    ⟨zAD rfl rfl, zAD rfl rfl, zAH (by decide) rfl rfl, zAC rfl rfl, zAC rfl (by rw [zC8, ← hsI]; omega), zAC rfl (by omega), trivial⟩, ⟨zAE (by decide) rfl (zBJ (by omega) (by rw [← hsI]; omega)) (zAV fun _ => ⟨rfl, by simp⟩) rfl, trivial⟩, by simp [ren]⟩
   ·have e1 := zKW (a := P) (j := i + k) ((s % 4294967296 : Nat) : Int) (by omega)
    have e2 := zDY (pw (i + k)) s;rw [Int.toNat_natCast] at e1;rw [zA3, show i + (k + 1) = i + k + 1 by omega, zAZ];rw [← hs] at e1 e2 ⊢;simp only [Nat.mul_add, zMC] at e1 e2 hvP ⊢;simp only [Nat.mul_comm, Nat.mul_left_comm, Nat.mul_assoc] at e1 e2 hvP ⊢;omega
   ·have hkB : k = B.length := by omega
    subst hkB;rw [zGT (Nat.le_refl _), hzk (Nat.le_refl _), Nat.mul_zero] at hs;omega
  ·have hk1 : k = B.length + 1 := by omega
   have hc0 := hck hk1;subst hc0
   exact ⟨(i + 1, P), ⟨⟨by omega, hP, hokP, by rw [hk1, zA3, zGT (Nat.le_refl _), zBU (a := B) (Nat.le_refl _)] at hvP; simp only [Nat.mul_zero, Nat.add_zero, Nat.zero_mul] at hvP; rw [zA3, Nat.add_mul, ← hv, Nat.mul_assoc]; omega, fun j hj => hzP j (by omega)⟩, by show A.length - (i + 1) < A.length - i; omega⟩, [0], [], [], [], ttt,
    ⟨zAD rfl rfl, zAD rfl rfl, zAH (by decide) rfl rfl, zAC rfl (by omega), trivial⟩, ⟨zAE (by decide) rfl rfl (zAV fun _ => ⟨rfl, by simp⟩) rfl, trivial⟩, by simp [ren]⟩
 ·have hi' : i = A.length := by omega
  rw [hi', zBU (a := A) (Nat.le_refl _)] at hv;have ct := zCU O hok (by omega);rw [hv] at ct;refine zAA ct (zAR (zAI rfl rfl (by omega) (fun x => zB1 x)) rfl) ?_;refine sts ?_;exact zAB rfl rfl
end Go.PI.Tryz
namespace Go.PI.Tryz
open Go.Proofs Go.PI
theorem ok_rnuint : FO 169 Tryz.f169 [.tmp 2, .tmp 3] 28 := mkO Tryz.func169 Tryz.ntmps169 Tryz.results169
theorem c_rnuint (xs : List Int) (hx : okN xs) (hl : xs.length < 2147483647) : Fn 169 [encN xs] (.data (if nv xs < 18446744073709551616 then .tup [.int .u64 (nv xs), .bool true] else .tup [.int .u64 0, .bool false])) := by
 have ct := zCU xs hx (by omega);have h2 := zAT hx;have ha := zD5 (nv xs);have hv := zAP (nv xs);generalize nv xs = N at *
 have hnil : lims N = [] → N = 0 := zCS;generalize lims N = A at *
 have p2 : pw 2 = 18446744073709551616 := by rw [zAZ, zAZ, zCO]
 have p1 : pw 1 = 4294967296 := by rw [zAZ, zCO]
 have hlt := zDR ha.1;refine zAM hmix hT ok_rnuint (by simp) ?_;refine sts ?_;refine zAA ct rfl ?_
 (repeat' (first|refine stp ?_|with_reducible(refine brr ?_ ?_<;>intro h)));all_goals try(conv=>whnf)
 ·have := hnil (List.length_eq_zero_iff.1 (by omega))
  subst this;rw [if_pos (by omega)];exact zAB rfl rfl
 ·have hl1 : A.length = 1 := by omega
  have g := zBE (a := A) (k := 0) (by omega) ha.1;have b := zCQ ha.1 0;have e : nv A = lb A 0 := by rw [← zBU (a := A) (k := 1) (by omega), zA3, zBX, zCO]; omega
  have hA0 : 0 ≤ A[0]! ∧ A[0]! < 4294967296 := by omega
  rw [if_pos (by omega)];refine sts ?_;refine zAB rfl ?_;rw [← g, ← e, hv]
 ·have hl1 : A.length = 2 := by omega
  have g0 := zBE (a := A) (k := 0) (by omega) ha.1;have b0 := zCQ ha.1 0;have g1 := zBE (a := A) (k := 1) (by omega) ha.1;have b1 := zCQ ha.1 1;have e : nv A = lb A 0 + 4294967296 * lb A 1 := by rw [← zBU (a := A) (k := 2) (by omega), zA3, zA3, zBX, zCO, p1]; omega
  have hA0 : 0 ≤ A[0]! ∧ A[0]! < 4294967296 := by omega
  have hA1 : 0 ≤ A[1]! ∧ A[1]! < 4294967296 := by omega
  have ee : bitF .or .u64 A[0]! (A[1]! * shl2 .u64 32) = (N : Int) := by rw [or_limb' hA1 hA0]; omega
  rw [if_pos (by omega)];refine sts ?_;refine zBB (j := 1) rfl (by omega) ?_;refine sts ?_;refine zDU ?_ ?_
  ·rw [zF2]; omega
  refine sts ?_;refine zAB rfl ?_;rw [ee]
 ·have hge := zNC ha (fun e => by subst e; simp at *)
  have := zEC (show 2 ≤ A.length - 1 by omega);rw [if_neg (by omega)];refine sts ?_;exact zAB rfl rfl
end Go.PI.Tryz
namespace Go.PI.Tryz
open Go.Proofs Go.PI
theorem ok_rnbits : FO 170 Tryz.f170 [.tmp 2] 27 := mkO Tryz.func170 Tryz.ntmps170 Tryz.results170
theorem c_rnbits (xs : List Int) (hx : okN xs) (hl : xs.length < 2147483647) : Fn 170 [encN xs] (.data (.int .i64 (bitsV (nv xs)))) := by
 have h2 := zAT hx;have hok := zAO (nv xs);refine zAM hmix hT ok_rnbits (by simp) ?_;refine sts ?_;refine zAA (zCU xs hx (by omega)) rfl ?_
 (repeat' (first|refine stp ?_|with_reducible(refine brr ?_ ?_<;>intro h)));all_goals try(conv=>whnf)
 ·refine zAB rfl ?_
  have : lims (nv xs) = [] := List.length_eq_zero_iff.1 (by omega);have := zCS this;unfold bitsV;rw [if_pos this]
 ·refine zBB (j := (lims (nv xs)).length - 1) (by simp only [List.length_map]; omega) (by omega) ?_
  refine sts ?_;have hg := zBE (show (lims (nv xs)).length - 1 < (lims (nv xs)).length by omega) hok;have hlt := zCQ hok ((lims (nv xs)).length - 1)
  have hne : nv xs ≠ 0 := fun e => by
   have : (lims (nv xs)).length = 0 := by rw [e]; rfl
   omega
  have hbv : bitsV (nv xs) = 32 * ((lims (nv xs)).length - 1 : Nat) + bl (lb (lims (nv xs)) ((lims (nv xs)).length - 1)) := by unfold bitsV; rw [if_neg hne]
  rw [hbv];generalize lb (lims (nv xs)) ((lims (nv xs)).length - 1) = T at *
  refine zA6 hT (fun ((n, t) : Nat × Nat) => [(3, .int .i64 n), (4, .int .u32 t)]) (fun (n, t) => t < 4294967296 ∧ n + bl t = 32 * ((lims (nv xs)).length - 1) + bl T) (fun (_, t) => t) (32 * ((lims (nv xs)).length - 1), T) ⟨hlt, rfl⟩ ?_ ?_
  ·exact ⟨zAC rfl (by simp only [List.length_map]; omega), zAC rfl hg.symm, trivial⟩
  intro ⟨n, t⟩ ⟨i1, i2⟩;have hT32 := (zCB 32 T hlt (by decide)).2.2;have ht32 := (zCB 32 t i1 (by decide)).2.2
  (repeat' (first|refine stp ?_|with_reducible(refine brr ?_ ?_<;>intro h)));all_goals try(conv=>whnf)
  ·have hh := zFE (n := t) (by omega) (by omega)
   have hf : (t : Int).fdiv (shl2 .u32 1) = ((t / 2 : Nat) : Int) := by rw [zGA (j := 1) rfl]; omega
   exact ⟨(n + 1, t / 2), ⟨⟨by omega, by omega⟩, by show t / 2 < t; omega⟩, zAC rfl (by omega), zAC rfl hf, trivial⟩
  ·have h0 : t = 0 := by omega
   subst h0;rw [bl_zero] at i2;refine zAB rfl ?_
   congr 1
   omega
end Go.PI.Tryz
namespace Go.PI.Tryz
open Go.Proofs Go.PI
theorem ok_rnshl : FO 171 Tryz.f171 [.tmp 4] 40 := mkO Tryz.func171 Tryz.ntmps171 Tryz.results171
theorem c_rnshl (xs : List Int) (hx : okN xs) (hl : xs.length < 2147483646) : Fn 171 [encN xs, .int .i64 1] (.data (encN (lims (2 * nv xs)))) := by
 refine zAM hmix hT ok_rnshl (by simp) ?_;have eq : (1 : Int).tdiv 32 = 0 := rfl;have em : (1 : Int).tmod 32 = 1 := rfl;refine sts ?_
 refine zAG hT (fun ((i, O, c) : Nat × List Int × Nat) => [(0, encN xs), (1, .int .i64 1), (5, .own 0 0 i), (6, .int .u64 c), (7, .int .i64 i)]) (fun (_, O, _) => [(0, ⟨O.map (.int .u32), 1, false⟩)]) [] 1
  (fun (i, O, c) => O.length = i ∧ i ≤ xs.length ∧ okN O ∧ c < 2 ∧ nv O + pw i * c = 2 * nk xs i) (fun (i, _, _) => xs.length - i) (0, [], 0) ⟨rfl, by omega, zED, by omega, by rw [zBX]; rfl⟩ (by decide) (by simp) ?_ ?_
 ·exact ⟨[_], [], [], [], ttt, ⟨zAD rfl rfl, zAC rfl rfl, zAH (by decide) rfl rfl, zAC rfl rfl, zAC rfl rfl, trivial⟩, ⟨zAE (by decide) rfl rfl (by simp) rfl, trivial⟩, by simp [ren]⟩
 intro ⟨i, O, c⟩ ⟨i1, i2, i3, i4, i5⟩;have b1 := zCQ hx i;have hXi : i < xs.length → xs[i]! = (lb xs i : Int) := fun h => (zBE h hx).symm
 (repeat' (first|refine stp ?_|with_reducible(refine brr ?_ ?_<;>intro h)));all_goals try(conv=>whnf)
 ·have hx1 := hXi (by omega)
  have e2 : shl2 .u64 1 = 2 := by rw [zL2 (by decide)]; rfl
  have eo : bitF .or .u64 (c : Int) ((lb xs i : Int) * 2) = ((2 * lb xs i + c : Nat) : Int) := by
   have := zKN (a := lb xs i) (b := c) (i := 1) (by omega) (by omega);rw [show ((2 ^ 1 * lb xs i : Nat) : Int) = (lb xs i : Int) * 2 by omega] at this;rw [this]
  rw [hx1, em, e2];obtain ⟨c', y, e1, e3⟩ : ∃ c' y, 2 * lb xs i + c = c' * 4294967296 + y ∧ y < 4294967296 := ⟨(2 * lb xs i + c) / 4294967296, (2 * lb xs i + c) % 4294967296, by omega, by omega⟩;refine zDU (by omega) ?_;refine sts ?_;rw [eo];refine zCJ ?_;refine sts ?_
  refine ⟨(i + 1, O ++ [(y : Int)], c'), ⟨⟨by simp [i1], by omega, zDD i3 e3, by omega, ?_⟩, by show xs.length - (i + 1) < xs.length - i; omega⟩, [_], [], [], [], ttt,
   ⟨zAD rfl rfl, zAC rfl rfl, zAH (by decide) rfl (by simp), zAC rfl (by rw [zC8]; omega), zAC rfl (by omega), trivial⟩, ⟨zAE (by decide) rfl (by simp; omega) (zAV fun _ => ⟨rfl, by simp⟩) rfl, trivial⟩, by simp [ren]⟩
  rw [zJ7 i1, zA3, zAZ]
  have : pw i * c + pw i * (2 * lb xs i) = 4294967296 * pw i * c' + pw i * y := by
   rw [← Nat.mul_add, Nat.mul_comm 4294967296, Nat.mul_assoc, ← Nat.mul_add]
   congr 1
   omega
  rw [Nat.mul_left_comm] at this;omega
 ·have hi : i = xs.length := by omega
  have hv : nv (O ++ [(c : Int)]) = 2 * nv xs := by rw [zJ7 i1, i5, zBU (by omega)]
  have cm := zCU (O ++ [(c : Int)]) (zDD i3 (by omega)) (by simp; omega);rw [hv] at cm;refine zAA cm (zAR (zAI rfl (by simp) (by simp [i1]) (fun x => zB1 x)) rfl) ?_;refine sts ?_;exact zAB rfl rfl
end Go.PI.Tryz
namespace Go.PI.Tryz
open Go.Proofs Go.PI
theorem bits_lt (N : Nat) : ∃ m : Nat, bitsV N = m ∧ N < 2 ^ m ∧ m ≤ 32 * (lims N).length := by
 unfold bitsV;by_cases h : N = 0
 ·subst h; exact ⟨0, rfl, by decide, by simp⟩
 ·rw [if_neg h]
  have hn : lims N ≠ [] := fun e => h (zCS e)
  have hl : 0 < (lims N).length := List.length_pos_iff.2 hn;have ho := zAO N;obtain ⟨L, hL⟩ : ∃ L, (lims N).length = L + 1 := ⟨(lims N).length - 1, by omega⟩;rw [hL];have hlt := zCQ ho L;have hb := zCB 32 _ hlt (by decide);refine ⟨32 * L + bl (lb (lims N) L), by simp, ?_, by omega⟩;have e : N = nk (lims N) L + pw L * lb (lims N) L := by rw [← zA3, zBU (by omega), zAP]
  have h1 := zNW ho L;rw [Nat.pow_add, ← pw_two];have h2 := Nat.mul_le_mul_left (pw L) (show lb (lims N) L + 1 ≤ 2 ^ bl (lb (lims N) L) by omega);rw [Nat.mul_add] at h2;omega
theorem ok_rndivmod : FO 132 Tryz.f132 [.tmp 4, .tmp 5, .tmp 6] 89 := mkO Tryz.func132 Tryz.ntmps132 Tryz.results132
theorem zHI (xs ys : List Int) (hx : okN xs) (hy : okN ys) (hl : xs.length < 2147483636) (hl2 : ys.length < 2147483636) : Fn 132 [encN xs, encN ys] (.data (.tup [encN (lims (nv xs / nv ys)), encN (if nv ys = 0 then [] else lims (nv xs % nv ys)), .int .i64 (if nv ys = 0 then 3 else 0)])) := by
 have cu1 := c_rnuint xs hx (by omega);have cu2 := c_rnuint ys hy (by omega);have cb := c_rnbits xs hx (by omega);obtain ⟨m0, em, hm1, hm2⟩ := bits_lt (nv xs);rw [em] at cb;have hm3 : m0 ≤ 32 * xs.length := by have := zAT hx; omega
 refine zAM hmix hT ok_rndivmod (by simp) ?_
 (repeat' (first|refine stp ?_|with_reducible(refine brr ?_ ?_<;>intro h)));all_goals try(conv=>whnf)
 by_cases k1 : nv xs < 18446744073709551616 <;> by_cases k2 : nv ys < 18446744073709551616
 all_goals first | rw [if_pos k1] at cu1 | rw [if_neg k1] at cu1
 all_goals first | rw [if_pos k2] at cu2 | rw [if_neg k2] at cu2
 all_goals (refine zAA cu1 rfl ?_; (repeat' (first|refine stp ?_|with_reducible(refine brr ?_ ?_<;>intro h)));all_goals try(conv=>whnf))
 all_goals (refine zAA cu2 rfl ?_; (repeat' (first|refine stp ?_|with_reducible(refine brr ?_ ?_<;>intro h)));all_goals try(conv=>whnf))
 ·have h0 : nv ys = 0 := by omega
  refine zAB rfl ?_;rw [h0, Nat.div_zero, if_pos rfl, if_pos rfl]; rfl
 ·have h0 : nv ys ≠ 0 := by omega
  obtain ⟨q, hq⟩ : ∃ q, q = nv xs / nv ys := ⟨_, rfl⟩;obtain ⟨r, hr⟩ : ∃ r, r = nv xs % nv ys := ⟨_, rfl⟩;have e1 : (nv xs : Int).tdiv (nv ys) = (q : Int) := by rw [hq]; exact (Int.ofNat_tdiv ..).symm
  have e2 : (nv xs : Int).tmod (nv ys) = (r : Int) := by rw [hr]; exact (Int.ofNat_tmod ..).symm
  have b1 : q ≤ nv xs := hq ▸ Nat.div_le_self ..;have b2 : r ≤ nv xs := hr ▸ Nat.mod_le ..;rw [e1];refine zDU (by omega) ?_
  (repeat' (first|refine stp ?_|with_reducible(refine brr ?_ ?_<;>intro h)));all_goals try(conv=>whnf)
  refine zAA (c_rnof _ (by omega)) rfl ?_
  (repeat' (first|refine stp ?_|with_reducible(refine brr ?_ ?_<;>intro h)));all_goals try(conv=>whnf)
  rw [e2];refine zAA (c_rnof _ (by omega)) rfl ?_
  (repeat' (first|refine stp ?_|with_reducible(refine brr ?_ ?_<;>intro h)));all_goals try(conv=>whnf)
  refine zAB rfl ?_;rw [if_neg h0, if_neg h0, ← hq, ← hr]
 rotate_left
 ·have h0 : nv ys = 0 := by omega
  refine zAB rfl ?_;rw [h0, Nat.div_zero, if_pos rfl, if_pos rfl]; rfl
 all_goals
  have hM : nv ys ≠ 0 := by omega
  refine zAA cb rfl ?_
  (repeat' (first|refine stp ?_|with_reducible(refine brr ?_ ?_<;>intro h)));all_goals try(conv=>whnf)
  refine zAG hT (fun ((m, Q, q, R) : Nat × List Int × Nat × Nat) => [(0, encN xs), (1, encN ys), (11, .own 0 0 xs.length), (12, encN (lims R)), (13, .int .i64 ((m : Int) - 1))]) (fun (_, Q, _) => [(0, ⟨Q.map (.int .u32), 1, false⟩)]) [] 1
   (fun (m, Q, q, R) => m ≤ 32 * xs.length ∧ Q.length = xs.length ∧ okN Q ∧ nv Q = 2 ^ m * q ∧ nv xs / 2 ^ m = q * nv ys + R ∧ R < nv ys) (fun (m, _) => m) (m0, List.replicate xs.length 0, 0, 0) ⟨hm3, by simp, zDA _, by rw [zIR]; rfl, by rw [Nat.div_eq_of_lt hm1]; simp, by omega⟩ (by decide) (by simp) ?_ ?_
  ·exact ⟨[28], [29], [(12, encN (lims 0))], [], ⟨⟨⟨_, rfl⟩, trivial⟩, ⟨⟨4, [29], zAI (f := PV.int .u32) (l := []) rfl rfl rfl (fun x => zB1 x), rfl⟩, trivial⟩, trivial⟩,
    ⟨zAD rfl rfl, zAD rfl rfl, zAH (by decide) rfl (by simp only [List.length_map]; omega), zAD rfl rfl, zAC rfl rfl, trivial⟩, ⟨zAE (by decide) rfl (zIJ (f := PV.int .u32) (x := 0) (by simp only [List.length_map]; omega)) (zAV fun _ => ⟨rfl, by simp⟩) rfl, trivial⟩, by simp [ren]⟩
  intro ⟨m, Q, q, R⟩ ⟨i1, i2, i3, i4, i5, i6⟩;have hR : R < pw ys.length := Nat.lt_trans i6 (zDR hy);have hRl := zBC hR
  (repeat' (first|refine stp ?_|with_reducible(refine brr ?_ ?_<;>intro h)));all_goals try(conv=>whnf)
  ·have hm : 1 ≤ m := by omega
   obtain ⟨j, hj⟩ : ∃ j, j = (m - 1) / 32 := ⟨_, rfl⟩;obtain ⟨s, hs⟩ : ∃ s, s = (m - 1) % 32 := ⟨_, rfl⟩;have e3 : ((m : Int) - 1).tdiv 32 = (j : Int) := by rw [Int.tdiv_eq_ediv_of_nonneg (by omega)]; omega
   have e4 : ((m : Int) - 1).tmod 32 = (s : Int) := by rw [Int.tmod_eq_emod_of_nonneg (by omega)]; omega
   have c1 := c_rnshl (lims R) (zAO R) (by omega);rw [zAP] at c1;refine zAA c1 rfl ?_
   (repeat' (first|refine stp ?_|with_reducible(refine brr ?_ ?_<;>intro h)));all_goals try(conv=>whnf)
   have b := zCQ hx j;have hj2 : j < xs.length := by omega
   have hg := zBE hj2 hx;refine zBB (j := j) (by rw [e3]) (by omega) ?_;obtain ⟨bit, hbit⟩ : ∃ bit, bit = nv xs / 2 ^ (m - 1) % 2 := ⟨_, rfl⟩;have hb2 : bit < 2 := by omega
   have hs2 : s < 32 := by omega
   have eb : bitF .and .u32 ((xs[j]!).fdiv (shl2 .u32 (((m : Int) - 1).tmod 32))) 1 = (bit : Int) := by
    rw [e4, ← hg, shl2_32u (by omega), show ((2 : Int) ^ ((s : Int).toNat)) = ((2 ^ s : Nat) : Int) by simp, Int.fdiv_eq_ediv_of_nonneg _ (Int.natCast_nonneg _), ← Int.natCast_ediv, bitF_and1 (Nat.lt_of_le_of_lt (Nat.div_le_self ..) b), hbit, bit_of hx, ← hj, ← hs]
   have hp1 : pw (ys.length + 1) = 4294967296 * pw ys.length := zAZ _;have hl1 : (lims (2 * R)).length ≤ ys.length + 1 := zBC (by omega);have ca := c_rnadd (lims (2 * R)) [(bit : Int)] (zAO _) (okN_cons.2 ⟨by omega, zED⟩) (by omega) (by simp);rw [zAP, show nv [(bit : Int)] = bit by simp [nv]] at ca;obtain ⟨X, hX⟩ : ∃ X, X = 2 * R + bit := ⟨_, rfl⟩;rw [← hX] at ca;have hl3 : (lims X).length ≤ ys.length + 1 := zBC (by omega);have cc := c_rncmp (lims X) ys (zAO _) hy (by omega) (by omega);have cs := c_rnsub (lims X) ys (zAO _) hy (by omega) (by omega);rw [zAP] at cc cs
   have h5 : nv xs / 2 ^ (m - 1) = 2 * (nv xs / 2 ^ m) + bit := by
    have : 2 ^ m = 2 ^ (m - 1) * 2 := by rw [← Nat.pow_succ]; congr 1; omega
    rw [this, ← Nat.div_div_eq_div_mul]; omega
   rw [i5, Nat.mul_add, ← Nat.mul_assoc] at h5
   have h4 : nv Q = 2 ^ (m - 1) * (2 * q) := by
    have : 2 ^ m = 2 ^ (m - 1) * 2 := by rw [← Nat.pow_succ]; congr 1; omega
    rw [i4, this, Nat.mul_assoc]
   (repeat' (first|refine stp ?_|with_reducible(refine brr ?_ ?_<;>intro h)));all_goals try(conv=>whnf)
   refine zAA ca (zAR rfl (zAR (zAI rfl (by rw [eb]; rfl) rfl (fun x => zB1 x)) rfl)) ?_
   (repeat' (first|refine stp ?_|with_reducible(refine brr ?_ ?_<;>intro h)));all_goals try(conv=>whnf)
   refine zAA cc rfl ?_
   (repeat' (first|refine stp ?_|with_reducible(refine brr ?_ ?_<;>intro h)));all_goals try(conv=>whnf)
   ·have hge : nv ys ≤ X := by have := (zM9 X (nv ys)); omega
    unfold subR at cs;rw [if_neg (by omega)] at cs;refine zAA cs rfl ?_
    (repeat' (first|refine stp ?_|with_reducible(refine brr ?_ ?_<;>intro h)));all_goals try(conv=>whnf)
    obtain ⟨c, hc⟩ := limb_dvd (i := m - 1) (q := q) i3 (by rw [Nat.sub_add_cancel hm]; exact i4);rw [← hj, ← hs] at hc;have bQ := zCQ i3 j;have hgQ := zBE (show j < Q.length by omega) i3;have ho := limb_or (s := s) (c := c) hs2 (by omega);refine zA0 j (by rw [e3]; simp) (by omega) ?_
    (repeat' (first|refine stp ?_|with_reducible(refine brr ?_ ?_<;>intro h)));all_goals try(conv=>whnf)
    obtain ⟨p, hp⟩ : ∃ p, p = 2 ^ s := ⟨_, rfl⟩;rw [← hp] at ho;have es : (1 : Int) * shl2 .u32 (((m : Int) - 1).tmod 32) = (p : Int) := by rw [e4, shl2_32u (by omega), hp]; simp
    have eo : bitF .or .u32 (Q[j]!) (p : Int) = ((lb Q j + p : Nat) : Int) := by rw [← hgQ, hc]; exact ho.1
    rw [← hc] at ho
    have hQ' : nv (Q.set j ((lb Q j + p : Nat) : Int)) = 2 ^ (m - 1) * (2 * q + 1) := by
     have h6 := zKW (a := Q) (j := j) ((lb Q j + p : Nat) : Int) (by omega);rw [Int.toNat_natCast, Nat.mul_add] at h6;have h7 : pw j * p = 2 ^ (m - 1) := by rw [pw_two, hp, ← Nat.pow_add]; congr 1; omega
     rw [h7] at h6;rw [Nat.mul_add, Nat.mul_one, ← h4];omega
    have hok' : okN (Q.set j ((lb Q j + p : Nat) : Int)) := zBW i3 j ⟨by omega, by omega⟩;rw [es];refine zKU (by omega) ?_
    (repeat' (first|refine stp ?_|with_reducible(refine brr ?_ ?_<;>intro h)));all_goals try(conv=>whnf)
    refine zA0 j (by rw [e3]; simp) (by omega) ?_
    (repeat' (first|refine stp ?_|with_reducible(refine brr ?_ ?_<;>intro h)));all_goals try(conv=>whnf)
    exact ⟨(m - 1, Q.set j ((lb Q j + p : Nat) : Int), 2 * q + 1, X - nv ys), ⟨⟨by omega, by simp [i2], hok', hQ', by rw [Nat.add_mul]; omega, by omega⟩, by show m - 1 < m; omega⟩, [_], [], [], [], ttt,
     ⟨zAD rfl rfl, zAD rfl rfl, zAH (by decide) rfl rfl, zAD rfl rfl, zAC rfl (by omega), trivial⟩, ⟨zAE (by decide) rfl (zBJ (by rw [e3]; simp) eo) (zAV fun _ => ⟨rfl, by simp⟩) rfl, trivial⟩, by simp [ren]⟩
   ·have hge : X < nv ys := by have := (zM9 X (nv ys)); omega
    exact ⟨(m - 1, Q, 2 * q, X), ⟨⟨by omega, i2, i3, h4, by omega, hge⟩, by show m - 1 < m; omega⟩, [_], [], [], [], ttt,
     ⟨zAD rfl rfl, zAD rfl rfl, zAH (by decide) rfl rfl, zAD rfl rfl, zAC rfl (by omega), trivial⟩, ⟨zAE (by decide) rfl rfl (zAV fun _ => ⟨rfl, by simp⟩) rfl, trivial⟩, by simp [ren]⟩
  ·have h0 : m = 0 := by omega
   subst h0;have cm := zCU Q i3 (by omega);rw [Nat.pow_zero, Nat.div_one] at i5;rw [Nat.pow_zero, Nat.one_mul] at i4;refine zAA cm (zAR (zAI rfl rfl (by omega) (fun x => zB1 x)) rfl) ?_
   (repeat' (first|refine stp ?_|with_reducible(refine brr ?_ ?_<;>intro h)));all_goals try(conv=>whnf)
   refine zAB rfl ?_;have e1 : nv xs / nv ys = nv Q := by rw [i5, i4, Nat.mul_comm, Nat.mul_add_div (by omega), Nat.div_eq_of_lt i6]; rfl
   have e2 : nv xs % nv ys = R := by rw [i5, Nat.mul_comm, Nat.mul_add_mod, Nat.mod_eq_of_lt i6]
   rw [if_neg hM, if_neg hM, e1, e2]
end Go.PI.Tryz
namespace Go.PI.Tryz
open Go.Proofs Go.PI
theorem ok_rngcd : FO 131 Tryz.f131 [.tmp 4] 25 := mkO Tryz.func131 Tryz.ntmps131 Tryz.results131
theorem c_rngcd (xs ys : List Int) (hx : okN xs) (hy : okN ys) (hl : xs.length < 2147483636) (hl2 : ys.length < 2147483636) : Fn 131 [encN xs, encN ys] (.data (encN (lims (Nat.gcd (nv xs) (nv ys))))) := by
 have ct1 := zCU xs hx (by omega);have ct2 := zCU ys hy (by omega);have h1 := zAT hx;have h2 := zAT hy;generalize nv xs = P0 at *
 generalize nv ys = Q0 at *
 obtain ⟨g, eg⟩ : ∃ g, Nat.gcd P0 Q0 = g := ⟨_, rfl⟩;rw [eg];refine zAM hmix hT ok_rngcd (by simp) ?_;refine sts ?_;refine zAA ct1 rfl ?_;refine sts ?_;refine zAA ct2 rfl ?_;refine sts ?_;refine zA6 hT (fun ((P, Q) : Nat × Nat) => [(0, encN (lims P)), (1, encN (lims Q))]) (fun (P, Q) => Nat.gcd P Q = g ∧ (lims P).length < 2147483636 ∧ (lims Q).length < 2147483636) (fun (_, Q) => Q) (P0, Q0) ⟨eg, by omega, by omega⟩ ?_ ?_
 ·exact ⟨zAD rfl rfl, zAD rfl rfl, trivial⟩
 intro ⟨P, Q⟩ ⟨i1, i2, i3⟩;have cd := zHI (lims P) (lims Q) (zAO P) (zAO Q) i2 i3;rw [zAP, zAP] at cd
 (repeat' (first|refine stp ?_|with_reducible(refine brr ?_ ?_<;>intro h)));all_goals try(conv=>whnf)
 ·have hQ : Q ≠ 0 := fun e => by subst e; rw [zDB] at h; simp at h
  rw [if_neg hQ, if_neg hQ] at cd;refine zAA cd rfl ?_;refine sts ?_;have hm := Nat.mod_lt P (show Q > 0 by omega);have hml := zDJ (Nat.le_of_lt hm);exact ⟨(Q, P % Q), ⟨⟨by rw [zLK]; exact i1, i3, by omega⟩, hm⟩, zAD rfl rfl, zAD rfl rfl, trivial⟩
 ·have hQ : Q = 0 := zCS (List.length_eq_zero_iff.1 (by omega))
  subst hQ;rw [Nat.gcd_zero_right] at i1;subst i1;exact zAB rfl rfl
end Go.PI.Tryz
