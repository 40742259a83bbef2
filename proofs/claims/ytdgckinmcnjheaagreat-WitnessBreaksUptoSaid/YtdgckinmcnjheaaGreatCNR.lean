/-
  The reference's natural numbers: Gcd.
-/
import Derived.Test.YtdgckinmcnjheaaGreatCNA
import Derived.Test.YtdgckinmcnjheaaGreatCPD
set_option linter.unusedVariables false
set_option linter.unusedSimpArgs false
set_option linter.unnecessarySimpa false
namespace Go.PI.Tryz
open Go.Proofs Go.PI
theorem vSA : FO 107 Tryz.f107 [.tmp 2] 23 := mkO Tryz.func107 Tryz.ntmps107 Tryz.results107
theorem zCO (xs : List Int) (ho : okN xs) (hl : xs.length < 2147483648) : Fn 107 [vA9 xs] (.data (vA9 (vA4 (nv xs)))) := by
 refine zAN vA6 hT vSA (by simp) ?_;refine sts ?_;refine zA6 hT (fun n : Nat => [(0, vA9 xs), (3, .int .i64 n)]) (fun n => n ≤ xs.length ∧ ∀ j, n ≤ j → j < xs.length → xs[j]! = 0) (fun n => n) xs.length ⟨Nat.le_refl _, fun j h1 h2 => by omega⟩ ?_ ?_
 ·exact ⟨zAE rfl rfl, zAC rfl (by simp), trivial⟩
 ·intro n ⟨hn, hz⟩
  (repeat' (first|refine stp ?_|with_reducible(refine brr ?_ ?_<;>intro h)));all_goals try(conv=>whnf)
  ·refine zA4 (j := n - 1) (by omega) (by omega) ?_
   (repeat' (first|refine stp ?_|with_reducible(refine brr ?_ ?_<;>intro h)));all_goals try(conv=>whnf)
   ·refine ⟨n - 1, ⟨⟨by omega, fun j h1 h2 => ?_⟩, by omega⟩, zAE rfl rfl, zAC rfl (by omega), trivial⟩
    by_cases e : j = n - 1
    ·subst e; assumption
    ·exact hz j (by omega) h2
   ·refine zCY (l' := xs.take n) (by simp) ?_
    refine sts ?_;refine zAB (zAH (f := PV.int .u32) (l := xs.take n) rfl rfl (by simp) (fun x => zB1 x)) ?_;rw [zHW ho hn hz (Or.inr h)]
  ·have h0 : n = 0 := by omega
   subst h0;refine zCY (l' := []) (by simp) ?_;refine sts ?_;refine zAB (zAH (f := PV.int .u32) (l := []) rfl rfl (by simp) (fun x => zB1 x)) ?_;rw [← zHW ho hn hz (Or.inl rfl)]; rfl
theorem vSB : FO 47 Tryz.f47 [.tmp 4] 13 := mkO Tryz.func47 Tryz.ntmps47 Tryz.results47
theorem zFZ (xs : List Int) (i : Int) (ho : okN xs) (hi : 0 ≤ i) (hl : xs.length < 2147483648) : Fn 47 [vA9 xs, .int .i64 i] (.data (.int .u32 (lb xs i.toNat))) := by
 obtain ⟨j, rfl⟩ := Int.eq_ofNat_of_zero_le hi;refine zAN vA6 hT vSB (by simp) ?_
 (repeat' (first|refine stp ?_|with_reducible(refine brr ?_ ?_<;>intro h)));all_goals try(conv=>whnf)
 ·refine zAB rfl ?_
  rw [← zBC (by omega) ho]; rfl
 ·refine zAB rfl ?_
  rw [show ((j : Int)).toNat = j from rfl, zGG (by omega)]; rfl
theorem uDA : FO 76 Tryz.f76 [.tmp 2] 10 := mkO Tryz.func76 Tryz.ntmps76 Tryz.results76
theorem vNI (n : Nat) (hn : n < 18446744073709551616) : Fn 76 [.int .u64 n] (.data (vA9 (vA4 n))) := by
 refine zAN vA6 hT uDA (by simp) ?_;refine sts ?_;refine zCG ?_;refine sts ?_;rw [zC0];refine sts ?_;have hv : nv [(n : Int) % 4294967296, (n : Int) / 4294967296] = n := by simp only [nv]; omega
 have cm := zCO [(n : Int) % 4294967296, (n : Int) / 4294967296] (by intro x hx; simp only [List.mem_cons, List.not_mem_nil, or_false] at hx; omega) (by simp);rw [hv] at cm;refine zAA cm rfl ?_;refine sts ?_;exact zAB rfl rfl
theorem vX4 : FO 19 Tryz.f19 [.tmp 4] 30 := mkO Tryz.func19 Tryz.ntmps19 Tryz.results19
theorem vVF (xs ys : List Int) (hx : okN xs) (hy : okN ys) (hl : xs.length < 2147483648) (hl2 : ys.length < 2147483648) : Fn 19 [vA9 xs, vA9 ys] (.data (.int .i64 (vC7 (nv xs) (nv ys)))) := by
 refine zAN vA6 hT vX4 (by simp) ?_;refine sts ?_;obtain ⟨M, hM⟩ : ∃ M, max xs.length ys.length = M := ⟨_, rfl⟩;refine zA6 hT (fun n : Nat => [(0, vA9 xs), (1, vA9 ys), (5, .int .i64 ((n : Int) - 1))]) (fun n => n ≤ 2147483648 ∧ nt xs n = nt ys n) (fun n => n) M ⟨by omega, by rw [zD3 (by omega), zD3 (by omega)]⟩ ?_ ?_
 ·exact ⟨zAE rfl rfl, zAE rfl rfl, zAC rfl (by simp only [List.length_map]; split <;> omega), trivial⟩
 intro n ⟨hn, hnt⟩;have hsa := zCU hx (n - 1);have hsb := zCU hy (n - 1)
 (repeat' (first|refine stp ?_|with_reducible(refine brr ?_ ?_<;>intro h)));all_goals try(conv=>whnf)
 ·have cl1 := zFZ xs ((n : Int) - 1) hx (by omega) hl
  have cl2 := zFZ ys ((n : Int) - 1) hy (by omega) hl2;have hn1 : ((n : Int) - 1).toNat = n - 1 := by omega
  have h0 : n - 1 + 1 = n := by omega
  rw [hn1] at cl1 cl2;rw [h0] at hsa hsb;refine zAA cl1 rfl ?_;refine sts ?_;refine zAA cl2 rfl ?_
  (repeat' (first|refine stp ?_|with_reducible(refine brr ?_ ?_<;>intro h)));all_goals try(conv=>whnf)
  ·have := zH6 hx hy (i := n - 1) (by rw [h0]; exact hnt) (Or.inr (by rw [h0]; exact hsa)) (Or.inr (by rw [h0]; exact hsb)) (by omega)
   refine zAB rfl ?_;unfold vC7;rw [if_pos (by omega)]
  refine zAA cl1 rfl ?_;refine sts ?_;refine zAA cl2 rfl ?_
  (repeat' (first|refine stp ?_|with_reducible(refine brr ?_ ?_<;>intro h)));all_goals try(conv=>whnf)
  ·have := zH6 hy hx (i := n - 1) (by rw [h0]; exact hnt.symm) (Or.inr (by rw [h0]; exact hsb)) (Or.inr (by rw [h0]; exact hsa)) (by omega)
   refine zAB rfl ?_;unfold vC7;rw [if_neg (by omega), if_pos (by omega)]
  ·exact ⟨n - 1, ⟨⟨by omega, by omega⟩, by omega⟩, zAE rfl rfl, zAE rfl rfl, zAC rfl (by omega), trivial⟩
 ·have h0 : n = 0 := by omega
  subst h0;rw [zGD, zGD] at hnt;refine zAB rfl ?_;unfold vC7;rw [if_neg (by omega), if_neg (by omega)]
theorem vR9 : FO 163 Tryz.f163 [.tmp 4] 26 := mkO Tryz.func163 Tryz.ntmps163 Tryz.results163
theorem vNH (xs ys : List Int) (hl : xs.length < 2147483648) (hl2 : ys.length < 2147483648) : Fn 163 [vA9 xs, vA9 ys] (.data (.bool (decide (xs = ys)))) := by
 refine zAN vA6 hT vR9 (by simp) ?_
 (repeat' (first|refine stp ?_|with_reducible(refine brr ?_ ?_<;>intro h)));all_goals try(conv=>whnf)
 ·refine zAB rfl ?_
  rw [decide_eq_false (fun e => by subst e; exact h rfl)]
 ·have hlen : xs.length = ys.length := by omega
  refine zA6 hT (fun n : Nat => [(0, vA9 xs), (1, vA9 ys), (5, .int .i64 n)]) (fun n => n ≤ xs.length ∧ ∀ j, j < n → xs[j]! = ys[j]!) (fun n => xs.length - n) 0 ⟨by omega, fun j hj => by omega⟩ ?_ ?_
  ·exact ⟨zAE rfl rfl, zAE rfl rfl, zAC rfl rfl, trivial⟩
  intro n ⟨hn, he⟩
  (repeat' (first|refine stp ?_|with_reducible(refine brr ?_ ?_<;>intro h)));all_goals try(conv=>whnf)
  ·refine zAB rfl ?_
   rw [decide_eq_false (fun e => by subst e; exact h rfl)]
  ·exact ⟨n + 1, ⟨⟨by omega, fun j hj => by
    rcases Nat.lt_or_ge j n with q | q
    ·exact he j q
    ·obtain rfl : j = n := by omega
     exact h⟩, by omega⟩, zAE rfl rfl, zAE rfl rfl, zAC rfl (by omega), trivial⟩
  ·refine zAB rfl ?_
   rw [decide_eq_true];refine List.ext_getElem hlen fun j h1 h2 => ?_
   have := he j (by omega);rw [getElem!_pos xs j h1, getElem!_pos ys j h2] at this;exact this
def uHX (j : Nat) (O : List Int) : Nat × PV := match O with
 | [] => (j, .nilsl)
 | _ :: _ => (j, .own 0 0 O.length)
def vDS (O : List Int) : List (Nat × Blk) := match O with
 | [] => []
 | x :: l => [(0, ⟨(x :: l).map (.int .u32), 1, false⟩)]
theorem uHK (y : Nat) : nv [(y : Int)] = y := by simp [nv]
theorem zJE {O : List Int} {i y : Nat} (h : O.length = i) : nv (O ++ [(y : Int)]) = nv O + pw i * y := by rw [zGB, h, uHK]
theorem zK3 {O xs ys : List Int} {i c c' y : Nat} (h : O.length = i) (i5 : nv O + pw i * c = nk xs i + nk ys i) (e : c + (lb xs i + lb ys i) = c' * 4294967296 + y) :
 nv (O ++ [(y : Int)]) + pw (i + 1) * c' = nk xs (i + 1) + nk ys (i + 1) := by
 rw [zJE h, zA5, zA5, zA0]
 have : pw i * c + pw i * lb xs i + pw i * lb ys i = 4294967296 * pw i * c' + pw i * y := by
  rw [← Nat.mul_add, ← Nat.mul_add, Nat.mul_comm 4294967296, Nat.mul_assoc, ← Nat.mul_add]
  congr 1
  omega
 omega
theorem zC6 {O : List Int} {y : Nat} (h : okN O) (hy : y < 4294967296) : okN (O ++ [(y : Int)]) := okN_append.2 ⟨h, fun x hx => by rw [List.mem_singleton.1 hx]; omega⟩
theorem vX5 : FO 129 Tryz.f129 [.tmp 4] 44 := mkO Tryz.func129 Tryz.ntmps129 Tryz.results129
theorem vVG (xs ys : List Int) (hx : okN xs) (hy : okN ys) (hl : xs.length < 2147483647) (hl2 : ys.length < 2147483647) : Fn 129 [vA9 xs, vA9 ys] (.data (vA9 (vA4 (nv xs + nv ys)))) := by
 refine zAN vA6 hT vX5 (by simp) ?_;refine sts ?_
 refine zAG hT (fun ((i, O, c) : Nat × List Int × Nat) => [(0, vA9 xs), (1, vA9 ys), uHX 5 O, (6, .int .u64 c), (7, .int .i64 i)]) (fun (_, O, _) => vDS O) [] 1
  (fun (i, O, c) => O.length = i ∧ i ≤ 2147483646 ∧ okN O ∧ c < 2 ∧ nv O + pw i * c = nk xs i + nk ys i) (fun (i, _, _) => 2147483648 - i) (0, [], 0) ⟨rfl, by omega, zFV, by omega, by rw [zBT, zBT]; rfl⟩ (by decide) (by simp) ?_ ?_
 ·exact ⟨[], [], [], [], ttt, ⟨zAE rfl rfl, zAE rfl rfl, vG8 rfl, zAC rfl rfl, zAC rfl rfl, trivial⟩, trivial, by simp [vDS]⟩
 intro ⟨i, O, c⟩ ⟨i1, i2, i3, i4, i5⟩;have cl1 := zFZ xs (i : Int) hx (by omega) (by omega);have cl2 := zFZ ys (i : Int) hy (by omega) (by omega);rw [show ((i : Int)).toNat = i from rfl] at cl1 cl2;have b1 := zCK hx i;have b2 := zCK hy i;rcases O with _ | ⟨o, O⟩
 ·(repeat' (first|refine stp ?_|with_reducible(refine brr ?_ ?_<;>intro h)));all_goals try(conv=>whnf)
  ·refine zAA cl1 rfl ?_
   refine sts ?_;refine zAA cl2 rfl ?_;refine sts ?_;obtain ⟨c', y, e1, e2⟩ : ∃ c' y, c + (lb xs i + lb ys i) = c' * 4294967296 + y ∧ y < 4294967296 := ⟨(c + (lb xs i + lb ys i)) / 4294967296, (c + (lb xs i + lb ys i)) % 4294967296, by omega, by omega⟩;have hst := zK3 i1 i5 e1;refine zCG ?_;rw [show ((c : Int) + ((lb xs i : Int) + (lb ys i : Int))) % 4294967296 = (y : Int) by omega];refine sts ?_
   exact ⟨(i + 1, [] ++ [(y : Int)], c'), ⟨⟨by simp at i1 ⊢ <;> omega, by omega, zC6 i3 e2, by omega, hst⟩, by show 2147483648 - (i + 1) < 2147483648 - i; omega⟩, [_], [], [], [], ttt,
    ⟨zAE rfl rfl, zAE rfl rfl, zAF (by decide) rfl rfl, zAC rfl (by rw [zC0]; omega), zAC rfl (by omega), trivial⟩, ⟨zAD (by decide) rfl rfl (zAW fun _ => ⟨rfl, by simp⟩) rfl, trivial⟩, by simp [vDS]⟩
  ·refine zAA cl1 rfl ?_
   refine sts ?_;refine zAA cl2 rfl ?_;refine sts ?_;obtain ⟨c', y, e1, e2⟩ : ∃ c' y, c + (lb xs i + lb ys i) = c' * 4294967296 + y ∧ y < 4294967296 := ⟨(c + (lb xs i + lb ys i)) / 4294967296, (c + (lb xs i + lb ys i)) % 4294967296, by omega, by omega⟩;have hst := zK3 i1 i5 e1;refine zCG ?_;rw [show ((c : Int) + ((lb xs i : Int) + (lb ys i : Int))) % 4294967296 = (y : Int) by omega];refine sts ?_
   exact ⟨(i + 1, [] ++ [(y : Int)], c'), ⟨⟨by simp at i1 ⊢ <;> omega, by omega, zC6 i3 e2, by omega, hst⟩, by show 2147483648 - (i + 1) < 2147483648 - i; omega⟩, [_], [], [], [], ttt,
    ⟨zAE rfl rfl, zAE rfl rfl, zAF (by decide) rfl rfl, zAC rfl (by rw [zC0]; omega), zAC rfl (by omega), trivial⟩, ⟨zAD (by decide) rfl rfl (zAW fun _ => ⟨rfl, by simp⟩) rfl, trivial⟩, by simp [vDS]⟩
  ·have hv : nv ([] ++ [(c : Int)]) = nv xs + nv ys := by rw [zJE i1, i5, zBR (by omega), zBR (by omega)]
   have cm := zCO ([] ++ [(c : Int)]) (zC6 i3 (by omega)) (by simp at i1 ⊢ <;> omega);rw [hv] at cm;refine zAA cm (zAP (zAH rfl rfl (by simp) (fun x => zB1 x)) rfl) ?_;refine sts ?_;exact zAB rfl rfl
 ·(repeat' (first|refine stp ?_|with_reducible(refine brr ?_ ?_<;>intro h)));all_goals try(conv=>whnf)
  ·refine zAA cl1 rfl ?_
   refine sts ?_;refine zAA cl2 rfl ?_;refine sts ?_;obtain ⟨c', y, e1, e2⟩ : ∃ c' y, c + (lb xs i + lb ys i) = c' * 4294967296 + y ∧ y < 4294967296 := ⟨(c + (lb xs i + lb ys i)) / 4294967296, (c + (lb xs i + lb ys i)) % 4294967296, by omega, by omega⟩;have hst := zK3 i1 i5 e1;refine zCG ?_;rw [show ((c : Int) + ((lb xs i : Int) + (lb ys i : Int))) % 4294967296 = (y : Int) by omega];refine sts ?_;refine zBL ⟨rfl, by simp, by simp at i1 ⊢ <;> omega⟩ ?_;refine sts ?_
   exact ⟨(i + 1, (o :: O) ++ [(y : Int)], c'), ⟨⟨by simp at i1 ⊢ <;> omega, by omega, zC6 i3 e2, by omega, hst⟩, by show 2147483648 - (i + 1) < 2147483648 - i; omega⟩, [_], [], [], [], ttt,
    ⟨zAE rfl rfl, zAE rfl rfl, zAF (by decide) rfl (by simp), zAC rfl (by rw [zC0]; omega), zAC rfl (by omega), trivial⟩, ⟨zAD (by decide) rfl (by simp) (zAW fun _ => ⟨rfl, by simp⟩) rfl, trivial⟩, by simp [vDS]⟩
  ·refine zAA cl1 rfl ?_
   refine sts ?_;refine zAA cl2 rfl ?_;refine sts ?_;obtain ⟨c', y, e1, e2⟩ : ∃ c' y, c + (lb xs i + lb ys i) = c' * 4294967296 + y ∧ y < 4294967296 := ⟨(c + (lb xs i + lb ys i)) / 4294967296, (c + (lb xs i + lb ys i)) % 4294967296, by omega, by omega⟩;have hst := zK3 i1 i5 e1;refine zCG ?_;rw [show ((c : Int) + ((lb xs i : Int) + (lb ys i : Int))) % 4294967296 = (y : Int) by omega];refine sts ?_;refine zBL ⟨rfl, by simp, by simp at i1 ⊢ <;> omega⟩ ?_;refine sts ?_
   exact ⟨(i + 1, (o :: O) ++ [(y : Int)], c'), ⟨⟨by simp at i1 ⊢ <;> omega, by omega, zC6 i3 e2, by omega, hst⟩, by show 2147483648 - (i + 1) < 2147483648 - i; omega⟩, [_], [], [], [], ttt,
    ⟨zAE rfl rfl, zAE rfl rfl, zAF (by decide) rfl (by simp), zAC rfl (by rw [zC0]; omega), zAC rfl (by omega), trivial⟩, ⟨zAD (by decide) rfl (by simp) (zAW fun _ => ⟨rfl, by simp⟩) rfl, trivial⟩, by simp [vDS]⟩
  ·have hv : nv ((o :: O) ++ [(c : Int)]) = nv xs + nv ys := by rw [zJE i1, i5, zBR (by omega), zBR (by omega)]
   have cm := zCO ((o :: O) ++ [(c : Int)]) (zC6 i3 (by omega)) (by simp at i1 ⊢ <;> omega);rw [hv] at cm;refine zBL ⟨rfl, by simp, by simp at i1 ⊢ <;> omega⟩ ?_;refine sts ?_;refine zAA cm (zAP (zAH rfl (by simp) (by simp) (fun x => zB1 x)) rfl) ?_;refine sts ?_;exact zAB rfl rfl
theorem zKH {O xs ys : List Int} {i c c' y : Nat} (h : O.length = i) (i5 : nv O + nk ys i = nk xs i + pw i * c) (e : lb xs i + c' * 4294967296 = lb ys i + c + y) :
 nv (O ++ [(y : Int)]) + nk ys (i + 1) = nk xs (i + 1) + pw (i + 1) * c' := by
 rw [zJE h, zA5, zA5, zA0]
 have : pw i * c + pw i * y + pw i * lb ys i = 4294967296 * pw i * c' + pw i * lb xs i := by
  rw [← Nat.mul_add, ← Nat.mul_add, Nat.mul_comm 4294967296, Nat.mul_assoc, ← Nat.mul_add]
  congr 1
  omega
 omega
theorem vLR {O xs ys : List Int} {i c : Nat} (h : O.length = i) (ho : okN O) (hc : c < 2) (e : nv O + nk ys i = nk xs i + pw i * c) (hi : xs.length ≤ i) (hx : okN xs) (hle : nv ys ≤ nv xs) : nv O = nv xs - nv ys := by
 have h1 := zDO hx;have h2 := zD2 hi;have h3 := zCE ys i;have h4 := zDO ho;rw [h] at h4;rw [zBR hi] at e
 have h5 : nt ys i = 0 := by
  rcases Nat.eq_zero_or_pos (nt ys i) with z | z
  ·exact z
  ·have := Nat.mul_le_mul_left (pw i) z
   omega
 rw [h5] at h3;rcases (show c = 0 ∨ c = 1 by omega) with rfl | rfl <;> omega
theorem vX0 : FO 130 Tryz.f130 [.tmp 4, .tmp 5] 45 := mkO Tryz.func130 Tryz.ntmps130 Tryz.results130
theorem vLC (xs ys : List Int) (hx : okN xs) (hy : okN ys) (hl : xs.length < 2147483647) (hl2 : ys.length < 2147483647) : Fn 130 [vA9 xs, vA9 ys] (.data (vP4 (nv xs) (nv ys))) := by
 have cc := vVF xs ys hx hy (by omega) (by omega);have hcmp := zMF (nv xs) (nv ys);refine zAN vA6 hT vX0 (by simp) ?_;refine sts ?_;refine zAA cc rfl ?_
 (repeat' (first|refine stp ?_|with_reducible(refine brr ?_ ?_<;>intro h)));all_goals try(conv=>whnf)
 ·refine zAB rfl ?_
  unfold vP4;rw [if_pos (by omega)]
 refine zAG hT (fun ((i, O, c) : Nat × List Int × Nat) => [(0, vA9 xs), (1, vA9 ys), uHX 6 O, (7, .int .u64 c), (8, .int .i64 i)]) (fun (_, O, _) => vDS O) [] 1
  (fun (i, O, c) => O.length = i ∧ i ≤ xs.length ∧ okN O ∧ c < 2 ∧ nv O + nk ys i = nk xs i + pw i * c) (fun (i, _, _) => xs.length - i) (0, [], 0) ⟨rfl, by omega, zFV, by omega, by rw [zBT, zBT]; rfl⟩ (by decide) (by simp) ?_ ?_
 ·exact ⟨[], [], [], [], ttt, ⟨zAE rfl rfl, zAE rfl rfl, vG8 rfl, zAC rfl rfl, zAC rfl rfl, trivial⟩, trivial, by simp [vDS]⟩
 intro ⟨i, O, c⟩ ⟨i1, i2, i3, i4, i5⟩;have cl1 := zFZ xs (i : Int) hx (by omega) (by omega);have cl2 := zFZ ys (i : Int) hy (by omega) (by omega);rw [show ((i : Int)).toNat = i from rfl] at cl1 cl2;have b1 := zCK hx i;have b2 := zCK hy i;rcases O with _ | ⟨o, O⟩
 ·(repeat' (first|refine stp ?_|with_reducible(refine brr ?_ ?_<;>intro h)));all_goals try(conv=>whnf)
  ·refine zAA cl1 rfl ?_
   refine sts ?_;refine zAA cl2 rfl ?_
   (repeat' (first|refine stp ?_|with_reducible(refine brr ?_ ?_<;>intro h)));all_goals try(conv=>whnf)
   ·obtain ⟨b', y, eb, e1, e2⟩ : ∃ b' y, b' = 1 ∧ lb xs i + b' * 4294967296 = lb ys i + c + y ∧ y < 4294967296 := ⟨1, lb xs i + 1 * 4294967296 - (lb ys i + c), rfl, by omega, by omega⟩
    have hst := zKH i1 i5 e1
    exact ⟨(i + 1, [] ++ [(y : Int)], b'), ⟨⟨by simp at i1 ⊢ <;> omega, by omega, zC6 i3 e2, by omega, hst⟩, by show xs.length - (i + 1) < xs.length - i; omega⟩, [_], [], [], [], ttt,
     ⟨zAE rfl rfl, zAE rfl rfl, zAF (by decide) rfl rfl, zAC rfl (by omega), zAC rfl (by omega), trivial⟩, ⟨zAD (by decide) rfl (by simp; omega) (zAW fun _ => ⟨rfl, by simp⟩) rfl, trivial⟩, by simp [vDS]⟩
   ·obtain ⟨b', y, eb, e1, e2⟩ : ∃ b' y, b' = 0 ∧ lb xs i + b' * 4294967296 = lb ys i + c + y ∧ y < 4294967296 := ⟨0, lb xs i + 0 * 4294967296 - (lb ys i + c), rfl, by omega, by omega⟩
    have hst := zKH i1 i5 e1
    exact ⟨(i + 1, [] ++ [(y : Int)], b'), ⟨⟨by simp at i1 ⊢ <;> omega, by omega, zC6 i3 e2, by omega, hst⟩, by show xs.length - (i + 1) < xs.length - i; omega⟩, [_], [], [], [], ttt,
     ⟨zAE rfl rfl, zAE rfl rfl, zAF (by decide) rfl rfl, zAC rfl (by omega), zAC rfl (by omega), trivial⟩, ⟨zAD (by decide) rfl (by simp; omega) (zAW fun _ => ⟨rfl, by simp⟩) rfl, trivial⟩, by simp [vDS]⟩
  ·have hO := vLR (O := []) i1 i3 i4 i5 (by omega) hx (by omega)
   have cm := zCO [] i3 (by simp at i1 ⊢ <;> omega);rw [hO] at cm;refine zAA cm rfl ?_;refine sts ?_;refine zAB rfl ?_;unfold vP4;rw [if_neg (by omega)]
 ·(repeat' (first|refine stp ?_|with_reducible(refine brr ?_ ?_<;>intro h)));all_goals try(conv=>whnf)
  ·refine zAA cl1 rfl ?_
   refine sts ?_;refine zAA cl2 rfl ?_
   (repeat' (first|refine stp ?_|with_reducible(refine brr ?_ ?_<;>intro h)));all_goals try(conv=>whnf)
   ·obtain ⟨b', y, eb, e1, e2⟩ : ∃ b' y, b' = 1 ∧ lb xs i + b' * 4294967296 = lb ys i + c + y ∧ y < 4294967296 := ⟨1, lb xs i + 1 * 4294967296 - (lb ys i + c), rfl, by omega, by omega⟩
    have hst := zKH i1 i5 e1;refine zBL ⟨rfl, by simp, by simp at i1 ⊢ <;> omega⟩ ?_;refine sts ?_
    exact ⟨(i + 1, (o :: O) ++ [(y : Int)], b'), ⟨⟨by simp at i1 ⊢ <;> omega, by omega, zC6 i3 e2, by omega, hst⟩, by show xs.length - (i + 1) < xs.length - i; omega⟩, [_], [], [], [], ttt,
     ⟨zAE rfl rfl, zAE rfl rfl, zAF (by decide) rfl (by simp), zAC rfl (by omega), zAC rfl (by omega), trivial⟩, ⟨zAD (by decide) rfl (by simp; omega) (zAW fun _ => ⟨rfl, by simp⟩) rfl, trivial⟩, by simp [vDS]⟩
   ·obtain ⟨b', y, eb, e1, e2⟩ : ∃ b' y, b' = 0 ∧ lb xs i + b' * 4294967296 = lb ys i + c + y ∧ y < 4294967296 := ⟨0, lb xs i + 0 * 4294967296 - (lb ys i + c), rfl, by omega, by omega⟩
    have hst := zKH i1 i5 e1;refine zBL ⟨rfl, by simp, by simp at i1 ⊢ <;> omega⟩ ?_;refine sts ?_
    exact ⟨(i + 1, (o :: O) ++ [(y : Int)], b'), ⟨⟨by simp at i1 ⊢ <;> omega, by omega, zC6 i3 e2, by omega, hst⟩, by show xs.length - (i + 1) < xs.length - i; omega⟩, [_], [], [], [], ttt,
     ⟨zAE rfl rfl, zAE rfl rfl, zAF (by decide) rfl (by simp), zAC rfl (by omega), zAC rfl (by omega), trivial⟩, ⟨zAD (by decide) rfl (by simp; omega) (zAW fun _ => ⟨rfl, by simp⟩) rfl, trivial⟩, by simp [vDS]⟩
  ·have hO := vLR (O := (o :: O)) i1 i3 i4 i5 (by omega) hx (by omega)
   have cm := zCO (o :: O) i3 (by simp at i1 ⊢ <;> omega);rw [hO] at cm;refine zAA cm (zAP (zAH rfl rfl (by simp) (fun x => zB1 x)) rfl) ?_;refine sts ?_;refine zAB rfl ?_;unfold vP4;rw [if_neg (by omega)]
theorem vX2 : FO 72 Tryz.f72 [.tmp 4] 59 := mkO Tryz.func72 Tryz.ntmps72 Tryz.results72
theorem zMN (A B : List Int) (ha : okN A) (hb : okN B) (hl : A.length < 1073741823) (hl2 : B.length < 1073741823) : Fn 72 [vA9 A, vA9 B] (.data (vA9 (vA4 (nv A * nv B)))) := by
 refine zAN vA6 hT vX2 (by simp) ?_;refine sts ?_
 refine zAG hT (fun ((i, O) : Nat × List Int) => [(0, vA9 A), (1, vA9 B), (5, .own 0 0 (A.length + B.length + 1)), (6, .int .i64 i)]) (fun (_, O) => [(0, ⟨O.map (.int .u32), 1, false⟩)]) [] 1
  (fun (i, O) => i ≤ A.length ∧ O.length = A.length + B.length + 1 ∧ okN O ∧ nv O = nk A i * nv B ∧ ∀ j, i + B.length ≤ j → lb O j = 0) (fun (i, _) => A.length - i) (0, List.replicate (A.length + B.length + 1) 0) ⟨by simp, by simp, zC3 _, by simp [zH4, zBT], fun j _ => zKP _ j⟩ (by decide) (by simp) ?_ ?_
 ·exact ⟨[_], [], [], [], ttt, ⟨zAE rfl rfl, zAE rfl rfl, zAF (by decide) rfl (by simp only [List.length_map]; omega), zAC rfl rfl, trivial⟩, ⟨zAD (by decide) rfl (zG6 (f := PV.int .u32) (x := 0) (by simp only [List.length_map]; omega)) (zAW fun _ => ⟨rfl, by simp⟩) rfl, trivial⟩, by simp [ren]⟩
 intro ⟨i, O⟩ ⟨hi, hO, hok, hv, hz⟩
 (repeat' (first|refine stp ?_|with_reducible(refine brr ?_ ?_<;>intro h)));all_goals try(conv=>whnf)
 ·refine zAG hT (fun ((k, P, c) : Nat × List Int × Nat) => [(0, vA9 A), (1, vA9 B), (5, .own 0 0 (A.length + B.length + 1)), (6, .int .i64 i), (7, .int .u64 c), (8, .int .i64 k)]) (fun (_, P, _) => [(0, ⟨P.map (.int .u32), 1, false⟩)]) [] 1
   (fun (k, P, c) => k ≤ B.length + 1 ∧ P.length = A.length + B.length + 1 ∧ okN P ∧ c < 4294967296 ∧ nv P + c * pw (i + k) = nv O + pw i * (lb A i * nk B k) ∧ (∀ j, i + B.length + 1 ≤ j → lb P j = 0) ∧ (k ≤ B.length → lb P (i + B.length) = 0) ∧ (k = B.length + 1 → c = 0)) (fun (k, _, _) => B.length + 1 - k) (0, O, 0)
   ⟨by simp, hO, hok, by simp, by simp [zBT], fun j hj => hz j (by omega), fun _ => hz _ (by omega), fun _ => rfl⟩ (by decide) (by simp) ?_ ?_
  ·exact ⟨[0], [], [], [], ttt, ⟨zAE rfl rfl, zAE rfl rfl, zAF (by decide) rfl rfl, zAC rfl rfl, zAC rfl rfl, zAC rfl rfl, trivial⟩, ⟨zAD (by decide) rfl rfl (zAW fun _ => ⟨rfl, by simp⟩) rfl, trivial⟩, by simp [ren]⟩
  intro ⟨k, P, c⟩ ⟨hk, hP, hokP, hc, hvP, hzP, hzk, hck⟩;have cl := zFZ B (k : Int) hb (by omega) (by omega);rw [show ((k : Int)).toNat = k from rfl] at cl;have ha1 : 0 ≤ A[i]! ∧ A[i]! < 4294967296 := zCT ha (by omega);have h1 := zBC (show i < A.length by omega) ha;have hBk := zCK hb k;have hpr : 0 ≤ A[i]! * (lb B k : Int) ∧ A[i]! * (lb B k : Int) ≤ 18446744065119617025 := vRM ha1 (by omega);have hPk : k ≤ B.length → 0 ≤ P[i + k]! ∧ P[i + k]! < 4294967296 := fun h => zCT hokP (by omega)
  (repeat' (first|refine stp ?_|with_reducible(refine brr ?_ ?_<;>intro h)));all_goals try(conv=>whnf)
  ·refine zAA cl rfl ?_
   refine sts ?_;refine zAU (i + k) (by omega) (by omega) ?_;have hP1 := hPk (by omega);have h3 := zBC (show i + k < P.length by omega) hokP;obtain ⟨s, hs⟩ : ∃ s, c + (lb A i * lb B k + lb P (i + k)) = s := ⟨_, rfl⟩
   have hsI : (s : Int) = ↑c + (A[i]! * (lb B k : Int) + P[i + k]!) := by
    rw [← hs]; simp only [Int.natCast_add, Int.natCast_mul, h1, h3]
   refine sts ?_;refine zCG ?_;refine sts ?_;refine zAU (i + k) (by omega) (by omega) ?_;refine sts ?_
   refine ⟨(k + 1, P.set (i + k) ((s % 4294967296 : Nat) : Int), s / 4294967296), ⟨⟨by omega, by simp [hP], zBS hokP _ (by omega), by omega, ?_, fun j hj => by rw [zIA (by omega)]; exact hzP j hj, fun hk2 => by rw [zIA (by omega)]; exact hzk (by omega), fun hk2 => ?_⟩, by show B.length + 1 - (k + 1) < B.length + 1 - k; omega⟩, [0], [], [], [], ttt,
    ⟨zAE rfl rfl, zAE rfl rfl, zAF (by decide) rfl rfl, zAC rfl rfl, zAC rfl (by rw [zC0, ← hsI]; omega), zAC rfl (by omega), trivial⟩, ⟨zAD (by decide) rfl (zBB (by omega) (by rw [← hsI]; omega)) (zAW fun _ => ⟨rfl, by simp⟩) rfl, trivial⟩, by simp [ren]⟩
   ·have e1 := zJ3 (a := P) (j := i + k) ((s % 4294967296 : Nat) : Int) (by omega)
    have e2 := zDP (pw (i + k)) s;rw [Int.toNat_natCast] at e1;rw [zA5, show i + (k + 1) = i + k + 1 by omega, zA0];rw [← hs] at e1 e2 ⊢;simp only [Nat.mul_add, zLJ] at e1 e2 hvP ⊢;simp only [Nat.mul_comm, Nat.mul_left_comm, Nat.mul_assoc] at e1 e2 hvP ⊢;omega
   ·have hkB : k = B.length := by omega
    subst hkB;rw [zGG (Nat.le_refl _), hzk (Nat.le_refl _), Nat.mul_zero] at hs;omega
  ·have hk1 : k = B.length + 1 := by omega
   have hc0 := hck hk1;subst hc0
   exact ⟨(i + 1, P), ⟨⟨by omega, hP, hokP, by rw [hk1, zA5, zGG (Nat.le_refl _), zBR (a := B) (Nat.le_refl _)] at hvP; simp only [Nat.mul_zero, Nat.add_zero, Nat.zero_mul] at hvP; rw [zA5, Nat.add_mul, ← hv, Nat.mul_assoc]; omega, fun j hj => hzP j (by omega)⟩, by show A.length - (i + 1) < A.length - i; omega⟩, [0], [], [], [], ttt,
    ⟨zAE rfl rfl, zAE rfl rfl, zAF (by decide) rfl rfl, zAC rfl (by omega), trivial⟩, ⟨zAD (by decide) rfl rfl (zAW fun _ => ⟨rfl, by simp⟩) rfl, trivial⟩, by simp [ren]⟩
 ·have hi' : i = A.length := by omega
  rw [hi', zBR (a := A) (Nat.le_refl _)] at hv;have ct := zCO O hok (by omega);rw [hv] at ct;refine zAA ct (zAP (zAH rfl rfl (by omega) (fun x => zB1 x)) rfl) ?_;refine sts ?_;exact zAB rfl rfl
theorem vR8 : FO 169 Tryz.f169 [.tmp 2, .tmp 3] 28 := mkO Tryz.func169 Tryz.ntmps169 Tryz.results169
theorem vNG (xs : List Int) (hx : okN xs) (hl : xs.length < 2147483647) : Fn 169 [vA9 xs] (.data (if nv xs < 18446744073709551616 then .tup [.int .u64 (nv xs), .bool true] else .tup [.int .u64 0, .bool false])) := by
 have ct := zCO xs hx (by omega);have h2 := zAT hx;have ha := zDW (nv xs);have hv := zAO (nv xs);generalize nv xs = N at *
 have hnil : vA4 N = [] → N = 0 := zCN;generalize vA4 N = A at *
 have p2 : pw 2 = 18446744073709551616 := by rw [zA0, zA0, zB8]
 have p1 : pw 1 = 4294967296 := by rw [zA0, zB8]
 have hlt := zDO ha.1;refine zAN vA6 hT vR8 (by simp) ?_;refine sts ?_;refine zAA ct rfl ?_
 (repeat' (first|refine stp ?_|with_reducible(refine brr ?_ ?_<;>intro h)));all_goals try(conv=>whnf)
 ·have := hnil (List.length_eq_zero_iff.1 (by omega))
  subst this;rw [if_pos (by omega)];exact zAB rfl rfl
 ·have hl1 : A.length = 1 := by omega
  have g := zBC (a := A) (k := 0) (by omega) ha.1;have b := zCK ha.1 0;have e : nv A = lb A 0 := by rw [← zBR (a := A) (k := 1) (by omega), zA5, zBT, zB8]; omega
  have hA0 : 0 ≤ A[0]! ∧ A[0]! < 4294967296 := by omega
  rw [if_pos (by omega)];refine sts ?_;refine zAB rfl ?_;rw [← g, ← e, hv]
 ·have hl1 : A.length = 2 := by omega
  have g0 := zBC (a := A) (k := 0) (by omega) ha.1;have b0 := zCK ha.1 0;have g1 := zBC (a := A) (k := 1) (by omega) ha.1;have b1 := zCK ha.1 1;have e : nv A = lb A 0 + 4294967296 * lb A 1 := by rw [← zBR (a := A) (k := 2) (by omega), zA5, zA5, zBT, zB8, p1]; omega
  have hA0 : 0 ≤ A[0]! ∧ A[0]! < 4294967296 := by omega
  have hA1 : 0 ≤ A[1]! ∧ A[1]! < 4294967296 := by omega
  have ee : vDJ .or .u64 A[0]! (A[1]! * vCW .u64 32) = (N : Int) := by rw [vFU hA1 hA0]; omega
  rw [if_pos (by omega)];refine sts ?_;refine zA4 (j := 1) rfl (by omega) ?_;refine sts ?_;refine zDM ?_ ?_
  ·rw [zFP]; omega
  refine sts ?_;refine zAB rfl ?_;rw [ee]
 ·have hge := zMI ha (fun e => by subst e; simp at *)
  have := zD2 (show 2 ≤ A.length - 1 by omega);rw [if_neg (by omega)];refine sts ?_;exact zAB rfl rfl
theorem vSC : FO 170 Tryz.f170 [.tmp 2] 27 := mkO Tryz.func170 Tryz.ntmps170 Tryz.results170
theorem vZZ (xs : List Int) (hx : okN xs) (hl : xs.length < 2147483647) : Fn 170 [vA9 xs] (.data (.int .i64 (vEA (nv xs)))) := by
 have h2 := zAT hx;have hok := zAM (nv xs);refine zAN vA6 hT vSC (by simp) ?_;refine sts ?_;refine zAA (zCO xs hx (by omega)) rfl ?_
 (repeat' (first|refine stp ?_|with_reducible(refine brr ?_ ?_<;>intro h)));all_goals try(conv=>whnf)
 ·refine zAB rfl ?_
  have : vA4 (nv xs) = [] := List.length_eq_zero_iff.1 (by omega);have := zCN this;unfold vEA;rw [if_pos this]
 ·refine zA4 (j := (vA4 (nv xs)).length - 1) (by simp only [List.length_map]; omega) (by omega) ?_
  refine sts ?_;have hg := zBC (show (vA4 (nv xs)).length - 1 < (vA4 (nv xs)).length by omega) hok;have hlt := zCK hok ((vA4 (nv xs)).length - 1)
  have hne : nv xs ≠ 0 := fun e => by
   have : (vA4 (nv xs)).length = 0 := by rw [e]; rfl
   omega
  have hbv : vEA (nv xs) = 32 * ((vA4 (nv xs)).length - 1 : Nat) + bl (lb (vA4 (nv xs)) ((vA4 (nv xs)).length - 1)) := by unfold vEA; rw [if_neg hne]
  rw [hbv];generalize lb (vA4 (nv xs)) ((vA4 (nv xs)).length - 1) = T at *
  refine zA6 hT (fun ((n, t) : Nat × Nat) => [(3, .int .i64 n), (4, .int .u32 t)]) (fun (n, t) => t < 4294967296 ∧ n + bl t = 32 * ((vA4 (nv xs)).length - 1) + bl T) (fun (_, t) => t) (32 * ((vA4 (nv xs)).length - 1), T) ⟨hlt, rfl⟩ ?_ ?_
  ·exact ⟨zAC rfl (by simp only [List.length_map]; omega), zAC rfl hg.symm, trivial⟩
  intro ⟨n, t⟩ ⟨i1, i2⟩;have hT32 := (zCA 32 T hlt (by decide)).2.2;have ht32 := (zCA 32 t i1 (by decide)).2.2
  (repeat' (first|refine stp ?_|with_reducible(refine brr ?_ ?_<;>intro h)));all_goals try(conv=>whnf)
  ·have hh := zE5 (n := t) (by omega) (by omega)
   have hf : (t : Int).fdiv (vCW .u32 1) = ((t / 2 : Nat) : Int) := by rw [zGY (j := 1) rfl]; omega
   exact ⟨(n + 1, t / 2), ⟨⟨by omega, by omega⟩, by show t / 2 < t; omega⟩, zAC rfl (by omega), zAC rfl hf, trivial⟩
  ·have h0 : t = 0 := by omega
   subst h0;rw [vG4] at i2;refine zAB rfl ?_
   congr 1
   omega
theorem vX1 : FO 171 Tryz.f171 [.tmp 4] 40 := mkO Tryz.func171 Tryz.ntmps171 Tryz.results171
theorem uFD (xs : List Int) (hx : okN xs) (hl : xs.length < 2147483646) : Fn 171 [vA9 xs, .int .i64 1] (.data (vA9 (vA4 (2 * nv xs)))) := by
 refine zAN vA6 hT vX1 (by simp) ?_;have eq : (1 : Int).tdiv 32 = 0 := rfl;have em : (1 : Int).tmod 32 = 1 := rfl;refine sts ?_
 refine zAG hT (fun ((i, O, c) : Nat × List Int × Nat) => [(0, vA9 xs), (1, .int .i64 1), (5, .own 0 0 i), (6, .int .u64 c), (7, .int .i64 i)]) (fun (_, O, _) => [(0, ⟨O.map (.int .u32), 1, false⟩)]) [] 1
  (fun (i, O, c) => O.length = i ∧ i ≤ xs.length ∧ okN O ∧ c < 2 ∧ nv O + pw i * c = 2 * nk xs i) (fun (i, _, _) => xs.length - i) (0, [], 0) ⟨rfl, by omega, zFV, by omega, by rw [zBT]; rfl⟩ (by decide) (by simp) ?_ ?_
 ·exact ⟨[_], [], [], [], ttt, ⟨zAE rfl rfl, zAC rfl rfl, zAF (by decide) rfl rfl, zAC rfl rfl, zAC rfl rfl, trivial⟩, ⟨zAD (by decide) rfl rfl (by simp) rfl, trivial⟩, by simp [ren]⟩
 intro ⟨i, O, c⟩ ⟨i1, i2, i3, i4, i5⟩;have b1 := zCK hx i;have hXi : i < xs.length → xs[i]! = (lb xs i : Int) := fun h => (zBC h hx).symm
 (repeat' (first|refine stp ?_|with_reducible(refine brr ?_ ?_<;>intro h)));all_goals try(conv=>whnf)
 ·have hx1 := hXi (by omega)
  have e2 : vCW .u64 1 = 2 := by rw [zIW (by decide)]; rfl
  have eo : vDJ .or .u64 (c : Int) ((lb xs i : Int) * 2) = ((2 * lb xs i + c : Nat) : Int) := by
   have := zJV (a := lb xs i) (b := c) (i := 1) (by omega) (by omega);rw [show ((2 ^ 1 * lb xs i : Nat) : Int) = (lb xs i : Int) * 2 by omega] at this;rw [this]
  rw [hx1, em, e2];obtain ⟨c', y, e1, e3⟩ : ∃ c' y, 2 * lb xs i + c = c' * 4294967296 + y ∧ y < 4294967296 := ⟨(2 * lb xs i + c) / 4294967296, (2 * lb xs i + c) % 4294967296, by omega, by omega⟩;refine zDM (by omega) ?_;refine sts ?_;rw [eo];refine zCG ?_;refine sts ?_
  refine ⟨(i + 1, O ++ [(y : Int)], c'), ⟨⟨by simp [i1], by omega, zC6 i3 e3, by omega, ?_⟩, by show xs.length - (i + 1) < xs.length - i; omega⟩, [_], [], [], [], ttt,
   ⟨zAE rfl rfl, zAC rfl rfl, zAF (by decide) rfl (by simp), zAC rfl (by rw [zC0]; omega), zAC rfl (by omega), trivial⟩, ⟨zAD (by decide) rfl (by simp; omega) (zAW fun _ => ⟨rfl, by simp⟩) rfl, trivial⟩, by simp [ren]⟩
  rw [zJE i1, zA5, zA0]
  have : pw i * c + pw i * (2 * lb xs i) = 4294967296 * pw i * c' + pw i * y := by
   rw [← Nat.mul_add, Nat.mul_comm 4294967296, Nat.mul_assoc, ← Nat.mul_add]
   congr 1
   omega
  rw [Nat.mul_left_comm] at this;omega
 ·have hi : i = xs.length := by omega
  have hv : nv (O ++ [(c : Int)]) = 2 * nv xs := by rw [zJE i1, i5, zBR (by omega)]
  have cm := zCO (O ++ [(c : Int)]) (zC6 i3 (by omega)) (by simp; omega);rw [hv] at cm;refine zAA cm (zAP (zAH rfl (by simp) (by simp [i1]) (fun x => zB1 x)) rfl) ?_;refine sts ?_;exact zAB rfl rfl
theorem uFT (N : Nat) : ∃ m : Nat, vEA N = m ∧ N < 2 ^ m ∧ m ≤ 32 * (vA4 N).length := by
 unfold vEA;by_cases h : N = 0
 ·subst h; exact ⟨0, rfl, by decide, by simp⟩
 ·rw [if_neg h]
  have hn : vA4 N ≠ [] := fun e => h (zCN e)
  have hl : 0 < (vA4 N).length := List.length_pos_iff.2 hn;have ho := zAM N;obtain ⟨L, hL⟩ : ∃ L, (vA4 N).length = L + 1 := ⟨(vA4 N).length - 1, by omega⟩;rw [hL];have hlt := zCK ho L;have hb := zCA 32 _ hlt (by decide);refine ⟨32 * L + bl (lb (vA4 N) L), by simp, ?_, by omega⟩;have e : N = nk (vA4 N) L + pw L * lb (vA4 N) L := by rw [← zA5, zBR (by omega), zAO]
  have h1 := zM1 ho L;rw [Nat.pow_add, ← vL5];have h2 := Nat.mul_le_mul_left (pw L) (show lb (vA4 N) L + 1 ≤ 2 ^ bl (lb (vA4 N) L) by omega);rw [Nat.mul_add] at h2;omega
theorem vKE : FO 132 Tryz.f132 [.tmp 4, .tmp 5, .tmp 6] 89 := mkO Tryz.func132 Tryz.ntmps132 Tryz.results132
theorem zJQ (xs ys : List Int) (hx : okN xs) (hy : okN ys) (hl : xs.length < 2147483636) (hl2 : ys.length < 2147483636) : Fn 132 [vA9 xs, vA9 ys] (.data (.tup [vA9 (vA4 (nv xs / nv ys)), vA9 (if nv ys = 0 then [] else vA4 (nv xs % nv ys)), .int .i64 (if nv ys = 0 then 3 else 0)])) := by
 have cu1 := vNG xs hx (by omega);have cu2 := vNG ys hy (by omega);have cb := vZZ xs hx (by omega);obtain ⟨m0, em, hm1, hm2⟩ := uFT (nv xs);rw [em] at cb;have hm3 : m0 ≤ 32 * xs.length := by have := zAT hx; omega
 refine zAN vA6 hT vKE (by simp) ?_
 (repeat' (first|refine stp ?_|with_reducible(refine brr ?_ ?_<;>intro h)));all_goals try(conv=>whnf)
 by_cases k1 : nv xs < 18446744073709551616 <;> by_cases k2 : nv ys < 18446744073709551616
 all_goals first | rw [if_pos k1] at cu1 | rw [if_neg k1] at cu1
 all_goals first | rw [if_pos k2] at cu2 | rw [if_neg k2] at cu2
 all_goals (refine zAA cu1 rfl ?_; (repeat' (first|refine stp ?_|with_reducible(refine brr ?_ ?_<;>intro h)));all_goals try(conv=>whnf))
 all_goals (refine zAA cu2 rfl ?_; (repeat' (first|refine stp ?_|with_reducible(refine brr ?_ ?_<;>intro h)));all_goals try(conv=>whnf))
 ·have h0 : nv ys = 0 := by omega
  refine zAB rfl ?_;rw [h0, Nat.div_zero, if_pos rfl, if_pos rfl]; rfl
 ·have h0 : nv ys ≠ 0 := by omega
  obtain ⟨q, hq⟩ : ∃ q, q = nv xs / nv ys := ⟨_, rfl⟩;obtain ⟨r, hr⟩ : ∃ r, r = nv xs % nv ys := ⟨_, rfl⟩;have e1 : (nv xs : Int).tdiv (nv ys) = (q : Int) := by rw [hq]; exact (Int.ofNat_tdiv ..).symm
  have e2 : (nv xs : Int).tmod (nv ys) = (r : Int) := by rw [hr]; exact (Int.ofNat_tmod ..).symm
  have b1 : q ≤ nv xs := hq ▸ Nat.div_le_self ..;have b2 : r ≤ nv xs := hr ▸ Nat.mod_le ..;rw [e1];refine zDM (by omega) ?_
  (repeat' (first|refine stp ?_|with_reducible(refine brr ?_ ?_<;>intro h)));all_goals try(conv=>whnf)
  refine zAA (vNI _ (by omega)) rfl ?_
  (repeat' (first|refine stp ?_|with_reducible(refine brr ?_ ?_<;>intro h)));all_goals try(conv=>whnf)
  rw [e2];refine zAA (vNI _ (by omega)) rfl ?_
  (repeat' (first|refine stp ?_|with_reducible(refine brr ?_ ?_<;>intro h)));all_goals try(conv=>whnf)
  refine zAB rfl ?_;rw [if_neg h0, if_neg h0, ← hq, ← hr]
 rotate_left
 ·have h0 : nv ys = 0 := by omega
  refine zAB rfl ?_;rw [h0, Nat.div_zero, if_pos rfl, if_pos rfl]; rfl
 all_goals
  have hM : nv ys ≠ 0 := by omega
  refine zAA cb rfl ?_
  (repeat' (first|refine stp ?_|with_reducible(refine brr ?_ ?_<;>intro h)));all_goals try(conv=>whnf)
  refine zAG hT (fun ((m, Q, q, R) : Nat × List Int × Nat × Nat) => [(0, vA9 xs), (1, vA9 ys), (11, .own 0 0 xs.length), (12, vA9 (vA4 R)), (13, .int .i64 ((m : Int) - 1))]) (fun (_, Q, _) => [(0, ⟨Q.map (.int .u32), 1, false⟩)]) [] 1
   (fun (m, Q, q, R) => m ≤ 32 * xs.length ∧ Q.length = xs.length ∧ okN Q ∧ nv Q = 2 ^ m * q ∧ nv xs / 2 ^ m = q * nv ys + R ∧ R < nv ys) (fun (m, _) => m) (m0, List.replicate xs.length 0, 0, 0) ⟨hm3, by simp, zC3 _, by rw [zH4]; rfl, by rw [Nat.div_eq_of_lt hm1]; simp, by omega⟩ (by decide) (by simp) ?_ ?_
  ·exact ⟨[28], [29], [(12, vA9 (vA4 0))], [], ⟨⟨⟨_, rfl⟩, trivial⟩, ⟨⟨4, [29], zAH (f := PV.int .u32) (l := []) rfl rfl rfl (fun x => zB1 x), rfl⟩, trivial⟩, trivial⟩,
    ⟨zAE rfl rfl, zAE rfl rfl, zAF (by decide) rfl (by simp only [List.length_map]; omega), zAE rfl rfl, zAC rfl rfl, trivial⟩, ⟨zAD (by decide) rfl (zG6 (f := PV.int .u32) (x := 0) (by simp only [List.length_map]; omega)) (zAW fun _ => ⟨rfl, by simp⟩) rfl, trivial⟩, by simp [ren]⟩
  intro ⟨m, Q, q, R⟩ ⟨i1, i2, i3, i4, i5, i6⟩;have hR : R < pw ys.length := Nat.lt_trans i6 (zDO hy);have hRl := zBD hR
  (repeat' (first|refine stp ?_|with_reducible(refine brr ?_ ?_<;>intro h)));all_goals try(conv=>whnf)
  ·have hm : 1 ≤ m := by omega
   obtain ⟨j, hj⟩ : ∃ j, j = (m - 1) / 32 := ⟨_, rfl⟩;obtain ⟨s, hs⟩ : ∃ s, s = (m - 1) % 32 := ⟨_, rfl⟩;have e3 : ((m : Int) - 1).tdiv 32 = (j : Int) := by rw [Int.tdiv_eq_ediv_of_nonneg (by omega)]; omega
   have e4 : ((m : Int) - 1).tmod 32 = (s : Int) := by rw [Int.tmod_eq_emod_of_nonneg (by omega)]; omega
   have c1 := uFD (vA4 R) (zAM R) (by omega);rw [zAO] at c1;refine zAA c1 rfl ?_
   (repeat' (first|refine stp ?_|with_reducible(refine brr ?_ ?_<;>intro h)));all_goals try(conv=>whnf)
   have b := zCK hx j;have hj2 : j < xs.length := by omega
   have hg := zBC hj2 hx;refine zA4 (j := j) (by rw [e3]) (by omega) ?_;obtain ⟨bit, hbit⟩ : ∃ bit, bit = nv xs / 2 ^ (m - 1) % 2 := ⟨_, rfl⟩;have hb2 : bit < 2 := by omega
   have hs2 : s < 32 := by omega
   have eb : vDJ .and .u32 ((xs[j]!).fdiv (vCW .u32 (((m : Int) - 1).tmod 32))) 1 = (bit : Int) := by
    rw [e4, ← hg, vLV (by omega), show ((2 : Int) ^ ((s : Int).toNat)) = ((2 ^ s : Nat) : Int) by simp, Int.fdiv_eq_ediv_of_nonneg _ (Int.natCast_nonneg _), ← Int.natCast_ediv, vV8 (Nat.lt_of_le_of_lt (Nat.div_le_self ..) b), hbit, uIR hx, ← hj, ← hs]
   have hp1 : pw (ys.length + 1) = 4294967296 * pw ys.length := zA0 _;have hl1 : (vA4 (2 * R)).length ≤ ys.length + 1 := zBD (by omega);have ca := vVG (vA4 (2 * R)) [(bit : Int)] (zAM _) (okN_cons.2 ⟨by omega, zFV⟩) (by omega) (by simp);rw [zAO, show nv [(bit : Int)] = bit by simp [nv]] at ca;obtain ⟨X, hX⟩ : ∃ X, X = 2 * R + bit := ⟨_, rfl⟩;rw [← hX] at ca;have hl3 : (vA4 X).length ≤ ys.length + 1 := zBD (by omega);have cc := vVF (vA4 X) ys (zAM _) hy (by omega) (by omega);have cs := vLC (vA4 X) ys (zAM _) hy (by omega) (by omega);rw [zAO] at cc cs
   have h5 : nv xs / 2 ^ (m - 1) = 2 * (nv xs / 2 ^ m) + bit := by
    have : 2 ^ m = 2 ^ (m - 1) * 2 := by rw [← Nat.pow_succ]; congr 1; omega
    rw [this, ← Nat.div_div_eq_div_mul]; omega
   rw [i5, Nat.mul_add, ← Nat.mul_assoc] at h5
   have h4 : nv Q = 2 ^ (m - 1) * (2 * q) := by
    have : 2 ^ m = 2 ^ (m - 1) * 2 := by rw [← Nat.pow_succ]; congr 1; omega
    rw [i4, this, Nat.mul_assoc]
   (repeat' (first|refine stp ?_|with_reducible(refine brr ?_ ?_<;>intro h)));all_goals try(conv=>whnf)
   refine zAA ca (zAP rfl (zAP (zAH rfl (by rw [eb]; rfl) rfl (fun x => zB1 x)) rfl)) ?_
   (repeat' (first|refine stp ?_|with_reducible(refine brr ?_ ?_<;>intro h)));all_goals try(conv=>whnf)
   refine zAA cc rfl ?_
   (repeat' (first|refine stp ?_|with_reducible(refine brr ?_ ?_<;>intro h)));all_goals try(conv=>whnf)
   ·have hge : nv ys ≤ X := by have := (zMF X (nv ys)); omega
    unfold vP4 at cs;rw [if_neg (by omega)] at cs;refine zAA cs rfl ?_
    (repeat' (first|refine stp ?_|with_reducible(refine brr ?_ ?_<;>intro h)));all_goals try(conv=>whnf)
    obtain ⟨c, hc⟩ := vYX (i := m - 1) (q := q) i3 (by rw [Nat.sub_add_cancel hm]; exact i4);rw [← hj, ← hs] at hc;have bQ := zCK i3 j;have hgQ := zBC (show j < Q.length by omega) i3;have ho := uED (s := s) (c := c) hs2 (by omega);refine zAU j (by rw [e3]; simp) (by omega) ?_
    (repeat' (first|refine stp ?_|with_reducible(refine brr ?_ ?_<;>intro h)));all_goals try(conv=>whnf)
    obtain ⟨p, hp⟩ : ∃ p, p = 2 ^ s := ⟨_, rfl⟩;rw [← hp] at ho;have es : (1 : Int) * vCW .u32 (((m : Int) - 1).tmod 32) = (p : Int) := by rw [e4, vLV (by omega), hp]; simp
    have eo : vDJ .or .u32 (Q[j]!) (p : Int) = ((lb Q j + p : Nat) : Int) := by rw [← hgQ, hc]; exact ho.1
    rw [← hc] at ho
    have hQ' : nv (Q.set j ((lb Q j + p : Nat) : Int)) = 2 ^ (m - 1) * (2 * q + 1) := by
     have h6 := zJ3 (a := Q) (j := j) ((lb Q j + p : Nat) : Int) (by omega);rw [Int.toNat_natCast, Nat.mul_add] at h6;have h7 : pw j * p = 2 ^ (m - 1) := by rw [vL5, hp, ← Nat.pow_add]; congr 1; omega
     rw [h7] at h6;rw [Nat.mul_add, Nat.mul_one, ← h4];omega
    have hok' : okN (Q.set j ((lb Q j + p : Nat) : Int)) := zBS i3 j ⟨by omega, by omega⟩;rw [es];refine zJ2 (by omega) ?_
    (repeat' (first|refine stp ?_|with_reducible(refine brr ?_ ?_<;>intro h)));all_goals try(conv=>whnf)
    refine zAU j (by rw [e3]; simp) (by omega) ?_
    (repeat' (first|refine stp ?_|with_reducible(refine brr ?_ ?_<;>intro h)));all_goals try(conv=>whnf)
    exact ⟨(m - 1, Q.set j ((lb Q j + p : Nat) : Int), 2 * q + 1, X - nv ys), ⟨⟨by omega, by simp [i2], hok', hQ', by rw [Nat.add_mul]; omega, by omega⟩, by show m - 1 < m; omega⟩, [_], [], [], [], ttt,
     ⟨zAE rfl rfl, zAE rfl rfl, zAF (by decide) rfl rfl, zAE rfl rfl, zAC rfl (by omega), trivial⟩, ⟨zAD (by decide) rfl (zBB (by rw [e3]; simp) eo) (zAW fun _ => ⟨rfl, by simp⟩) rfl, trivial⟩, by simp [ren]⟩
   ·have hge : X < nv ys := by have := (zMF X (nv ys)); omega
    exact ⟨(m - 1, Q, 2 * q, X), ⟨⟨by omega, i2, i3, h4, by omega, hge⟩, by show m - 1 < m; omega⟩, [_], [], [], [], ttt,
     ⟨zAE rfl rfl, zAE rfl rfl, zAF (by decide) rfl rfl, zAE rfl rfl, zAC rfl (by omega), trivial⟩, ⟨zAD (by decide) rfl rfl (zAW fun _ => ⟨rfl, by simp⟩) rfl, trivial⟩, by simp [ren]⟩
  ·have h0 : m = 0 := by omega
   subst h0;have cm := zCO Q i3 (by omega);rw [Nat.pow_zero, Nat.div_one] at i5;rw [Nat.pow_zero, Nat.one_mul] at i4;refine zAA cm (zAP (zAH rfl rfl (by omega) (fun x => zB1 x)) rfl) ?_
   (repeat' (first|refine stp ?_|with_reducible(refine brr ?_ ?_<;>intro h)));all_goals try(conv=>whnf)
   refine zAB rfl ?_;have e1 : nv xs / nv ys = nv Q := by rw [i5, i4, Nat.mul_comm, Nat.mul_add_div (by omega), Nat.div_eq_of_lt i6]; rfl
   have e2 : nv xs % nv ys = R := by rw [i5, Nat.mul_comm, Nat.mul_add_mod, Nat.mod_eq_of_lt i6]
   rw [if_neg hM, if_neg hM, e1, e2]
theorem vX3 : FO 131 Tryz.f131 [.tmp 4] 25 := mkO Tryz.func131 Tryz.ntmps131 Tryz.results131
theorem uFE (xs ys : List Int) (hx : okN xs) (hy : okN ys) (hl : xs.length < 2147483636) (hl2 : ys.length < 2147483636) : Fn 131 [vA9 xs, vA9 ys] (.data (vA9 (vA4 (Nat.gcd (nv xs) (nv ys))))) := by
 have ct1 := zCO xs hx (by omega);have ct2 := zCO ys hy (by omega);have h1 := zAT hx;have h2 := zAT hy;generalize nv xs = P0 at *
 generalize nv ys = Q0 at *
 obtain ⟨g, eg⟩ : ∃ g, Nat.gcd P0 Q0 = g := ⟨_, rfl⟩;rw [eg];refine zAN vA6 hT vX3 (by simp) ?_;refine sts ?_;refine zAA ct1 rfl ?_;refine sts ?_;refine zAA ct2 rfl ?_;refine sts ?_;refine zA6 hT (fun ((P, Q) : Nat × Nat) => [(0, vA9 (vA4 P)), (1, vA9 (vA4 Q))]) (fun (P, Q) => Nat.gcd P Q = g ∧ (vA4 P).length < 2147483636 ∧ (vA4 Q).length < 2147483636) (fun (_, Q) => Q) (P0, Q0) ⟨eg, by omega, by omega⟩ ?_ ?_
 ·exact ⟨zAE rfl rfl, zAE rfl rfl, trivial⟩
 intro ⟨P, Q⟩ ⟨i1, i2, i3⟩;have cd := zJQ (vA4 P) (vA4 Q) (zAM P) (zAM Q) i2 i3;rw [zAO, zAO] at cd
 (repeat' (first|refine stp ?_|with_reducible(refine brr ?_ ?_<;>intro h)));all_goals try(conv=>whnf)
 ·have hQ : Q ≠ 0 := fun e => by subst e; rw [zC4] at h; simp at h
  rw [if_neg hQ, if_neg hQ] at cd;refine zAA cd rfl ?_;refine sts ?_;have hm := Nat.mod_lt P (show Q > 0 by omega);have hml := zDA (Nat.le_of_lt hm);exact ⟨(Q, P % Q), ⟨⟨by rw [zKS]; exact i1, i3, by omega⟩, hm⟩, zAE rfl rfl, zAE rfl rfl, trivial⟩
 ·have hQ : Q = 0 := zCN (List.length_eq_zero_iff.1 (by omega))
  subst hQ;rw [Nat.gcd_zero_right] at i1;subst i1;exact zAB rfl rfl
end Go.PI.Tryz
