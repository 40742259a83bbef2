/-
  The reference's natural numbers: Gcd.
-/
import Derived.Test.YtigeioodiljlaaaGreatCNA
import Derived.Test.YtigeioodiljlaaaGreatCPD
set_option linter.unusedVariables false
set_option linter.unusedSimpArgs false
set_option linter.unnecessarySimpa false
namespace Go.PI.Tryz
open Go.Proofs Go.PI
theorem ok_rnmake : FO 126 Tryz.f126 [.tmp 2] 23 := mkO Tryz.func126 Tryz.ntmps126 Tryz.results126
theorem zB1 (xs : List Int) (ho : okN xs) (hl : xs.length < 2147483648) : Fn 126 [encN xs] (.data (encN (lims (nv xs)))) := by
 refine zAO hmix hT ok_rnmake (by simp) ?_;refine sts ?_;refine zA9 hT (fun n : Nat => [(0, encN xs), (3, .int .i64 n)]) (fun n => n ≤ xs.length ∧ ∀ j, n ≤ j → j < xs.length → xs[j]! = 0) (fun n => n) xs.length ⟨Nat.le_refl _, fun j h1 h2 => by omega⟩ ?_ ?_
 ·exact ⟨zAD rfl rfl, zAC rfl (by simp), trivial⟩
 ·intro n ⟨hn, hz⟩
  (repeat' (first|refine stp ?_|with_reducible(refine brr ?_ ?_<;>intro h)));all_goals try(conv=>whnf)
  ·refine zA0 (j := n - 1) (by omega) (by omega) ?_
   (repeat' (first|refine stp ?_|with_reducible(refine brr ?_ ?_<;>intro h)));all_goals try(conv=>whnf)
   ·refine ⟨n - 1, ⟨⟨by omega, fun j h1 h2 => ?_⟩, by omega⟩, zAD rfl rfl, zAC rfl (by omega), trivial⟩
    by_cases e : j = n - 1
    ·subst e; assumption
    ·exact hz j (by omega) h2
   ·refine zB9 (l' := xs.take n) (by simp) ?_
    refine sts ?_;refine zAB (zAN (f := PV.int .u32) (l := xs.take n) rfl rfl (by simp) (fun x => zBK x)) ?_;rw [zFT ho hn hz (Or.inr h)]
  ·have h0 : n = 0 := by omega
   subst h0;refine zB9 (l' := []) (by simp) ?_;refine sts ?_;refine zAB (zAN (f := PV.int .u32) (l := []) rfl rfl (by simp) (fun x => zBK x)) ?_;rw [← zFT ho hn hz (Or.inl rfl)]; rfl
theorem ok_rnlimb : FO 134 Tryz.f134 [.tmp 4] 13 := mkO Tryz.func134 Tryz.ntmps134 Tryz.results134
theorem zEP (xs : List Int) (i : Int) (ho : okN xs) (hi : 0 ≤ i) (hl : xs.length < 2147483648) : Fn 134 [encN xs, .int .i64 i] (.data (.int .u32 (lb xs i.toNat))) := by
 obtain ⟨j, rfl⟩ := Int.eq_ofNat_of_zero_le hi;refine zAO hmix hT ok_rnlimb (by simp) ?_
 (repeat' (first|refine stp ?_|with_reducible(refine brr ?_ ?_<;>intro h)));all_goals try(conv=>whnf)
 ·refine zAB rfl ?_
  rw [← zA2 (by omega) ho]; rfl
 ·refine zAB rfl ?_
  rw [show ((j : Int)).toNat = j from rfl, zE0 (by omega)]; rfl
theorem ok_rnof : FO 106 Tryz.f106 [.tmp 2] 10 := mkO Tryz.func106 Tryz.ntmps106 Tryz.results106
theorem c_rnof (n : Nat) (hn : n < 18446744073709551616) : Fn 106 [.int .u64 n] (.data (encN (lims n))) := by
 refine zAO hmix hT ok_rnof (by simp) ?_;refine sts ?_;refine zBU ?_;refine sts ?_;rw [zCB];refine sts ?_;have hv : nv [(n : Int) % 4294967296, (n : Int) / 4294967296] = n := by simp only [nv]; omega
 have cm := zB1 [(n : Int) % 4294967296, (n : Int) / 4294967296] (by intro x hx; simp only [List.mem_cons, List.not_mem_nil, or_false] at hx; omega) (by simp);rw [hv] at cm;refine zAA cm rfl ?_;refine sts ?_;exact zAB rfl rfl
theorem ok_rncmp : FO 143 Tryz.f143 [.tmp 4] 30 := mkO Tryz.func143 Tryz.ntmps143 Tryz.results143
theorem c_rncmp (xs ys : List Int) (hx : okN xs) (hy : okN ys) (hl : xs.length < 2147483648) (hl2 : ys.length < 2147483648) : Fn 143 [encN xs, encN ys] (.data (.int .i64 (cmpI (nv xs) (nv ys)))) := by
 refine zAO hmix hT ok_rncmp (by simp) ?_;refine sts ?_;obtain ⟨M, hM⟩ : ∃ M, max xs.length ys.length = M := ⟨_, rfl⟩;refine zA9 hT (fun n : Nat => [(0, encN xs), (1, encN ys), (5, .int .i64 ((n : Int) - 1))]) (fun n => n ≤ 2147483648 ∧ nt xs n = nt ys n) (fun n => n) M ⟨by omega, by rw [zC7 (by omega), zC7 (by omega)]⟩ ?_ ?_
 ·exact ⟨zAD rfl rfl, zAD rfl rfl, zAC rfl (by simp only [List.length_map]; split <;> omega), trivial⟩
 intro n ⟨hn, hnt⟩;have hsa := zB6 hx (n - 1);have hsb := zB6 hy (n - 1)
 (repeat' (first|refine stp ?_|with_reducible(refine brr ?_ ?_<;>intro h)));all_goals try(conv=>whnf)
 ·have cl1 := zEP xs ((n : Int) - 1) hx (by omega) hl
  have cl2 := zEP ys ((n : Int) - 1) hy (by omega) hl2;have hn1 : ((n : Int) - 1).toNat = n - 1 := by omega
  have h0 : n - 1 + 1 = n := by omega
  rw [hn1] at cl1 cl2;rw [h0] at hsa hsb;refine zAA cl1 rfl ?_;refine sts ?_;refine zAA cl2 rfl ?_
  (repeat' (first|refine stp ?_|with_reducible(refine brr ?_ ?_<;>intro h)));all_goals try(conv=>whnf)
  ·have := zF6 hx hy (i := n - 1) (by rw [h0]; exact hnt) (Or.inr (by rw [h0]; exact hsa)) (Or.inr (by rw [h0]; exact hsb)) (by omega)
   refine zAB rfl ?_;unfold cmpI;rw [if_pos (by omega)]
  refine zAA cl1 rfl ?_;refine sts ?_;refine zAA cl2 rfl ?_
  (repeat' (first|refine stp ?_|with_reducible(refine brr ?_ ?_<;>intro h)));all_goals try(conv=>whnf)
  ·have := zF6 hy hx (i := n - 1) (by rw [h0]; exact hnt.symm) (Or.inr (by rw [h0]; exact hsb)) (Or.inr (by rw [h0]; exact hsa)) (by omega)
   refine zAB rfl ?_;unfold cmpI;rw [if_neg (by omega), if_pos (by omega)]
  ·exact ⟨n - 1, ⟨⟨by omega, by omega⟩, by omega⟩, zAD rfl rfl, zAD rfl rfl, zAC rfl (by omega), trivial⟩
 ·have h0 : n = 0 := by omega
  subst h0;rw [zEX, zEX] at hnt;refine zAB rfl ?_;unfold cmpI;rw [if_neg (by omega), if_neg (by omega)]
theorem ok_rnsame : FO 133 Tryz.f133 [.tmp 4] 26 := mkO Tryz.func133 Tryz.ntmps133 Tryz.results133
theorem c_rnsame (xs ys : List Int) (hl : xs.length < 2147483648) (hl2 : ys.length < 2147483648) : Fn 133 [encN xs, encN ys] (.data (.bool (decide (xs = ys)))) := by
 refine zAO hmix hT ok_rnsame (by simp) ?_
 (repeat' (first|refine stp ?_|with_reducible(refine brr ?_ ?_<;>intro h)));all_goals try(conv=>whnf)
 ·refine zAB rfl ?_
  rw [decide_eq_false (fun e => by subst e; exact h rfl)]
 ·have hlen : xs.length = ys.length := by omega
  refine zA9 hT (fun n : Nat => [(0, encN xs), (1, encN ys), (5, .int .i64 n)]) (fun n => n ≤ xs.length ∧ ∀ j, j < n → xs[j]! = ys[j]!) (fun n => xs.length - n) 0 ⟨by omega, fun j hj => by omega⟩ ?_ ?_
  ·exact ⟨zAD rfl rfl, zAD rfl rfl, zAC rfl rfl, trivial⟩
  intro n ⟨hn, he⟩
  (repeat' (first|refine stp ?_|with_reducible(refine brr ?_ ?_<;>intro h)));all_goals try(conv=>whnf)
  ·refine zAB rfl ?_
   rw [decide_eq_false (fun e => by subst e; exact h rfl)]
  ·exact ⟨n + 1, ⟨⟨by omega, fun j hj => by
    rcases Nat.lt_or_ge j n with q | q
    ·exact he j q
    ·obtain rfl : j = n := by omega
     exact h⟩, by omega⟩, zAD rfl rfl, zAD rfl rfl, zAC rfl (by omega), trivial⟩
  ·refine zAB rfl ?_
   rw [decide_eq_true];refine List.ext_getElem hlen fun j h1 h2 => ?_
   have := he j (by omega);rw [getElem!_pos xs j h1, getElem!_pos ys j h2] at this;exact this
end Go.PI.Tryz
namespace Go.PI.Tryz
open Go.Proofs Go.PI
def growS (j : Nat) (O : List Int) : Nat × PV := match O with
 | [] => (j, .nilsl)
 | _ :: _ => (j, .own 0 0 O.length)
def growH (O : List Int) : List (Nat × Blk) := match O with
 | [] => []
 | x :: l => [(0, ⟨(x :: l).map (.int .u32), 1, false⟩)]
theorem nv_one (y : Nat) : nv [(y : Int)] = y := by simp [nv]
theorem zG7 {O : List Int} {i y : Nat} (h : O.length = i) : nv (O ++ [(y : Int)]) = nv O + pw i * y := by rw [zEW, h, nv_one]
theorem zIN {O xs ys : List Int} {i c c' y : Nat} (h : O.length = i) (i5 : nv O + pw i * c = nk xs i + nk ys i) (e : c + (lb xs i + lb ys i) = c' * 4294967296 + y) :
 nv (O ++ [(y : Int)]) + pw (i + 1) * c' = nk xs (i + 1) + nk ys (i + 1) := by
 rw [zG7 h, zAZ, zAZ, zAS]
 have : pw i * c + pw i * lb xs i + pw i * lb ys i = 4294967296 * pw i * c' + pw i * y := by
  rw [← Nat.mul_add, ← Nat.mul_add, Nat.mul_comm 4294967296, Nat.mul_assoc, ← Nat.mul_add]
  congr 1
  omega
 omega
theorem zCF {O : List Int} {y : Nat} (h : okN O) (hy : y < 4294967296) : okN (O ++ [(y : Int)]) := okN_append.2 ⟨h, fun x hx => by rw [List.mem_singleton.1 hx]; omega⟩
theorem ok_rnadd : FO 135 Tryz.f135 [.tmp 4] 44 := mkO Tryz.func135 Tryz.ntmps135 Tryz.results135
theorem c_rnadd (xs ys : List Int) (hx : okN xs) (hy : okN ys) (hl : xs.length < 2147483647) (hl2 : ys.length < 2147483647) : Fn 135 [encN xs, encN ys] (.data (encN (lims (nv xs + nv ys)))) := by
 refine zAO hmix hT ok_rnadd (by simp) ?_;refine sts ?_
 refine zAH hT (fun ((i, O, c) : Nat × List Int × Nat) => [(0, encN xs), (1, encN ys), growS 5 O, (6, .int .u64 c), (7, .int .i64 i)]) (fun (_, O, _) => growH O) [] 1
  (fun (i, O, c) => O.length = i ∧ i ≤ 2147483646 ∧ okN O ∧ c < 2 ∧ nv O + pw i * c = nk xs i + nk ys i) (fun (i, _, _) => 2147483648 - i) (0, [], 0) ⟨rfl, by omega, zEK, by omega, by rw [zBI, zBI]; rfl⟩ (by decide) (by simp) ?_ ?_
 ·exact ⟨[], [], [], [], ttt, ⟨zAD rfl rfl, zAD rfl rfl, at_nilsl rfl, zAC rfl rfl, zAC rfl rfl, trivial⟩, trivial, by simp [growH]⟩
 intro ⟨i, O, c⟩ ⟨i1, i2, i3, i4, i5⟩;have cl1 := zEP xs (i : Int) hx (by omega) (by omega);have cl2 := zEP ys (i : Int) hy (by omega) (by omega);rw [show ((i : Int)).toNat = i from rfl] at cl1 cl2;have b1 := zBY hx i;have b2 := zBY hy i;rcases O with _ | ⟨o, O⟩
 ·(repeat' (first|refine stp ?_|with_reducible(refine brr ?_ ?_<;>intro h)));all_goals try(conv=>whnf)
  ·refine zAA cl1 rfl ?_
   refine sts ?_;refine zAA cl2 rfl ?_;refine sts ?_;obtain ⟨c', y, e1, e2⟩ : ∃ c' y, c + (lb xs i + lb ys i) = c' * 4294967296 + y ∧ y < 4294967296 := ⟨(c + (lb xs i + lb ys i)) / 4294967296, (c + (lb xs i + lb ys i)) % 4294967296, by omega, by omega⟩;have hst := zIN i1 i5 e1;refine zBU ?_;rw [show ((c : Int) + ((lb xs i : Int) + (lb ys i : Int))) % 4294967296 = (y : Int) by omega];refine sts ?_
   exact ⟨(i + 1, [] ++ [(y : Int)], c'), ⟨⟨by simp at i1 ⊢ <;> omega, by omega, zCF i3 e2, by omega, hst⟩, by show 2147483648 - (i + 1) < 2147483648 - i; omega⟩, [_], [], [], [], ttt,
    ⟨zAD rfl rfl, zAD rfl rfl, zAG (by decide) rfl rfl, zAC rfl (by rw [zCB]; omega), zAC rfl (by omega), trivial⟩, ⟨zAE (by decide) rfl rfl (zAW fun _ => ⟨rfl, by simp⟩) rfl, trivial⟩, by simp [growH]⟩
  ·refine zAA cl1 rfl ?_
   refine sts ?_;refine zAA cl2 rfl ?_;refine sts ?_;obtain ⟨c', y, e1, e2⟩ : ∃ c' y, c + (lb xs i + lb ys i) = c' * 4294967296 + y ∧ y < 4294967296 := ⟨(c + (lb xs i + lb ys i)) / 4294967296, (c + (lb xs i + lb ys i)) % 4294967296, by omega, by omega⟩;have hst := zIN i1 i5 e1;refine zBU ?_;rw [show ((c : Int) + ((lb xs i : Int) + (lb ys i : Int))) % 4294967296 = (y : Int) by omega];refine sts ?_
   exact ⟨(i + 1, [] ++ [(y : Int)], c'), ⟨⟨by simp at i1 ⊢ <;> omega, by omega, zCF i3 e2, by omega, hst⟩, by show 2147483648 - (i + 1) < 2147483648 - i; omega⟩, [_], [], [], [], ttt,
    ⟨zAD rfl rfl, zAD rfl rfl, zAG (by decide) rfl rfl, zAC rfl (by rw [zCB]; omega), zAC rfl (by omega), trivial⟩, ⟨zAE (by decide) rfl rfl (zAW fun _ => ⟨rfl, by simp⟩) rfl, trivial⟩, by simp [growH]⟩
  ·have hv : nv ([] ++ [(c : Int)]) = nv xs + nv ys := by rw [zG7 i1, i5, zBG (by omega), zBG (by omega)]
   have cm := zB1 ([] ++ [(c : Int)]) (zCF i3 (by omega)) (by simp at i1 ⊢ <;> omega);rw [hv] at cm;refine zAA cm (zAV (zAN rfl rfl (by simp) (fun x => zBK x)) rfl) ?_;refine sts ?_;exact zAB rfl rfl
 ·(repeat' (first|refine stp ?_|with_reducible(refine brr ?_ ?_<;>intro h)));all_goals try(conv=>whnf)
  ·refine zAA cl1 rfl ?_
   refine sts ?_;refine zAA cl2 rfl ?_;refine sts ?_;obtain ⟨c', y, e1, e2⟩ : ∃ c' y, c + (lb xs i + lb ys i) = c' * 4294967296 + y ∧ y < 4294967296 := ⟨(c + (lb xs i + lb ys i)) / 4294967296, (c + (lb xs i + lb ys i)) % 4294967296, by omega, by omega⟩;have hst := zIN i1 i5 e1;refine zBU ?_;rw [show ((c : Int) + ((lb xs i : Int) + (lb ys i : Int))) % 4294967296 = (y : Int) by omega];refine sts ?_;refine zA7 ⟨rfl, by simp, by simp at i1 ⊢ <;> omega⟩ ?_;refine sts ?_
   exact ⟨(i + 1, (o :: O) ++ [(y : Int)], c'), ⟨⟨by simp at i1 ⊢ <;> omega, by omega, zCF i3 e2, by omega, hst⟩, by show 2147483648 - (i + 1) < 2147483648 - i; omega⟩, [_], [], [], [], ttt,
    ⟨zAD rfl rfl, zAD rfl rfl, zAG (by decide) rfl (by simp), zAC rfl (by rw [zCB]; omega), zAC rfl (by omega), trivial⟩, ⟨zAE (by decide) rfl (by simp) (zAW fun _ => ⟨rfl, by simp⟩) rfl, trivial⟩, by simp [growH]⟩
  ·refine zAA cl1 rfl ?_
   refine sts ?_;refine zAA cl2 rfl ?_;refine sts ?_;obtain ⟨c', y, e1, e2⟩ : ∃ c' y, c + (lb xs i + lb ys i) = c' * 4294967296 + y ∧ y < 4294967296 := ⟨(c + (lb xs i + lb ys i)) / 4294967296, (c + (lb xs i + lb ys i)) % 4294967296, by omega, by omega⟩;have hst := zIN i1 i5 e1;refine zBU ?_;rw [show ((c : Int) + ((lb xs i : Int) + (lb ys i : Int))) % 4294967296 = (y : Int) by omega];refine sts ?_;refine zA7 ⟨rfl, by simp, by simp at i1 ⊢ <;> omega⟩ ?_;refine sts ?_
   exact ⟨(i + 1, (o :: O) ++ [(y : Int)], c'), ⟨⟨by simp at i1 ⊢ <;> omega, by omega, zCF i3 e2, by omega, hst⟩, by show 2147483648 - (i + 1) < 2147483648 - i; omega⟩, [_], [], [], [], ttt,
    ⟨zAD rfl rfl, zAD rfl rfl, zAG (by decide) rfl (by simp), zAC rfl (by rw [zCB]; omega), zAC rfl (by omega), trivial⟩, ⟨zAE (by decide) rfl (by simp) (zAW fun _ => ⟨rfl, by simp⟩) rfl, trivial⟩, by simp [growH]⟩
  ·have hv : nv ((o :: O) ++ [(c : Int)]) = nv xs + nv ys := by rw [zG7 i1, i5, zBG (by omega), zBG (by omega)]
   have cm := zB1 ((o :: O) ++ [(c : Int)]) (zCF i3 (by omega)) (by simp at i1 ⊢ <;> omega);rw [hv] at cm;refine zA7 ⟨rfl, by simp, by simp at i1 ⊢ <;> omega⟩ ?_;refine sts ?_;refine zAA cm (zAV (zAN rfl (by simp) (by simp) (fun x => zBK x)) rfl) ?_;refine sts ?_;exact zAB rfl rfl
theorem zH4 {O xs ys : List Int} {i c c' y : Nat} (h : O.length = i) (i5 : nv O + nk ys i = nk xs i + pw i * c) (e : lb xs i + c' * 4294967296 = lb ys i + c + y) :
 nv (O ++ [(y : Int)]) + nk ys (i + 1) = nk xs (i + 1) + pw (i + 1) * c' := by
 rw [zG7 h, zAZ, zAZ, zAS]
 have : pw i * c + pw i * y + pw i * lb ys i = 4294967296 * pw i * c' + pw i * lb xs i := by
  rw [← Nat.mul_add, ← Nat.mul_add, Nat.mul_comm 4294967296, Nat.mul_assoc, ← Nat.mul_add]
  congr 1
  omega
 omega
theorem sub_done {O xs ys : List Int} {i c : Nat} (h : O.length = i) (ho : okN O) (hc : c < 2) (e : nv O + nk ys i = nk xs i + pw i * c) (hi : xs.length ≤ i) (hx : okN xs) (hle : nv ys ≤ nv xs) : nv O = nv xs - nv ys := by
 have h1 := zC6 hx;have h2 := zDP hi;have h3 := zBT ys i;have h4 := zC6 ho;rw [h] at h4;rw [zBG hi] at e
 have h5 : nt ys i = 0 := by
  rcases Nat.eq_zero_or_pos (nt ys i) with z | z
  ·exact z
  ·have := Nat.mul_le_mul_left (pw i) z
   omega
 rw [h5] at h3;rcases (show c = 0 ∨ c = 1 by omega) with rfl | rfl <;> omega
theorem ok_rnsub : FO 136 Tryz.f136 [.tmp 4, .tmp 5] 45 := mkO Tryz.func136 Tryz.ntmps136 Tryz.results136
theorem c_rnsub (xs ys : List Int) (hx : okN xs) (hy : okN ys) (hl : xs.length < 2147483647) (hl2 : ys.length < 2147483647) : Fn 136 [encN xs, encN ys] (.data (subR (nv xs) (nv ys))) := by
 have cc := c_rncmp xs ys hx hy (by omega) (by omega);have hcmp := zJK (nv xs) (nv ys);refine zAO hmix hT ok_rnsub (by simp) ?_;refine sts ?_;refine zAA cc rfl ?_
 (repeat' (first|refine stp ?_|with_reducible(refine brr ?_ ?_<;>intro h)));all_goals try(conv=>whnf)
 ·refine zAB rfl ?_
  unfold subR;rw [if_pos (by omega)]
 refine zAH hT (fun ((i, O, c) : Nat × List Int × Nat) => [(0, encN xs), (1, encN ys), growS 6 O, (7, .int .u64 c), (8, .int .i64 i)]) (fun (_, O, _) => growH O) [] 1
  (fun (i, O, c) => O.length = i ∧ i ≤ xs.length ∧ okN O ∧ c < 2 ∧ nv O + nk ys i = nk xs i + pw i * c) (fun (i, _, _) => xs.length - i) (0, [], 0) ⟨rfl, by omega, zEK, by omega, by rw [zBI, zBI]; rfl⟩ (by decide) (by simp) ?_ ?_
 ·exact ⟨[], [], [], [], ttt, ⟨zAD rfl rfl, zAD rfl rfl, at_nilsl rfl, zAC rfl rfl, zAC rfl rfl, trivial⟩, trivial, by simp [growH]⟩
 intro ⟨i, O, c⟩ ⟨i1, i2, i3, i4, i5⟩;have cl1 := zEP xs (i : Int) hx (by omega) (by omega);have cl2 := zEP ys (i : Int) hy (by omega) (by omega);rw [show ((i : Int)).toNat = i from rfl] at cl1 cl2;have b1 := zBY hx i;have b2 := zBY hy i;rcases O with _ | ⟨o, O⟩
 ·(repeat' (first|refine stp ?_|with_reducible(refine brr ?_ ?_<;>intro h)));all_goals try(conv=>whnf)
  ·refine zAA cl1 rfl ?_
   refine sts ?_;refine zAA cl2 rfl ?_
   (repeat' (first|refine stp ?_|with_reducible(refine brr ?_ ?_<;>intro h)));all_goals try(conv=>whnf)
   ·obtain ⟨b', y, eb, e1, e2⟩ : ∃ b' y, b' = 1 ∧ lb xs i + b' * 4294967296 = lb ys i + c + y ∧ y < 4294967296 := ⟨1, lb xs i + 1 * 4294967296 - (lb ys i + c), rfl, by omega, by omega⟩
    have hst := zH4 i1 i5 e1
    exact ⟨(i + 1, [] ++ [(y : Int)], b'), ⟨⟨by simp at i1 ⊢ <;> omega, by omega, zCF i3 e2, by omega, hst⟩, by show xs.length - (i + 1) < xs.length - i; omega⟩, [_], [], [], [], ttt,
     ⟨zAD rfl rfl, zAD rfl rfl, zAG (by decide) rfl rfl, zAC rfl (by omega), zAC rfl (by omega), trivial⟩, ⟨zAE (by decide) rfl (by simp; omega) (zAW fun _ => ⟨rfl, by simp⟩) rfl, trivial⟩, by simp [growH]⟩
   ·obtain ⟨b', y, eb, e1, e2⟩ : ∃ b' y, b' = 0 ∧ lb xs i + b' * 4294967296 = lb ys i + c + y ∧ y < 4294967296 := ⟨0, lb xs i + 0 * 4294967296 - (lb ys i + c), rfl, by omega, by omega⟩
    have hst := zH4 i1 i5 e1
    exact ⟨(i + 1, [] ++ [(y : Int)], b'), ⟨⟨by simp at i1 ⊢ <;> omega, by omega, zCF i3 e2, by omega, hst⟩, by show xs.length - (i + 1) < xs.length - i; omega⟩, [_], [], [], [], ttt,
     ⟨zAD rfl rfl, zAD rfl rfl, zAG (by decide) rfl rfl, zAC rfl (by omega), zAC rfl (by omega), trivial⟩, ⟨zAE (by decide) rfl (by simp; omega) (zAW fun _ => ⟨rfl, by simp⟩) rfl, trivial⟩, by simp [growH]⟩
  ·have hO := sub_done (O := []) i1 i3 i4 i5 (by omega) hx (by omega)
   have cm := zB1 [] i3 (by simp at i1 ⊢ <;> omega);rw [hO] at cm;refine zAA cm rfl ?_;refine sts ?_;refine zAB rfl ?_;unfold subR;rw [if_neg (by omega)]
 ·(repeat' (first|refine stp ?_|with_reducible(refine brr ?_ ?_<;>intro h)));all_goals try(conv=>whnf)
  ·refine zAA cl1 rfl ?_
   refine sts ?_;refine zAA cl2 rfl ?_
   (repeat' (first|refine stp ?_|with_reducible(refine brr ?_ ?_<;>intro h)));all_goals try(conv=>whnf)
   ·obtain ⟨b', y, eb, e1, e2⟩ : ∃ b' y, b' = 1 ∧ lb xs i + b' * 4294967296 = lb ys i + c + y ∧ y < 4294967296 := ⟨1, lb xs i + 1 * 4294967296 - (lb ys i + c), rfl, by omega, by omega⟩
    have hst := zH4 i1 i5 e1;refine zA7 ⟨rfl, by simp, by simp at i1 ⊢ <;> omega⟩ ?_;refine sts ?_
    exact ⟨(i + 1, (o :: O) ++ [(y : Int)], b'), ⟨⟨by simp at i1 ⊢ <;> omega, by omega, zCF i3 e2, by omega, hst⟩, by show xs.length - (i + 1) < xs.length - i; omega⟩, [_], [], [], [], ttt,
     ⟨zAD rfl rfl, zAD rfl rfl, zAG (by decide) rfl (by simp), zAC rfl (by omega), zAC rfl (by omega), trivial⟩, ⟨zAE (by decide) rfl (by simp; omega) (zAW fun _ => ⟨rfl, by simp⟩) rfl, trivial⟩, by simp [growH]⟩
   ·obtain ⟨b', y, eb, e1, e2⟩ : ∃ b' y, b' = 0 ∧ lb xs i + b' * 4294967296 = lb ys i + c + y ∧ y < 4294967296 := ⟨0, lb xs i + 0 * 4294967296 - (lb ys i + c), rfl, by omega, by omega⟩
    have hst := zH4 i1 i5 e1;refine zA7 ⟨rfl, by simp, by simp at i1 ⊢ <;> omega⟩ ?_;refine sts ?_
    exact ⟨(i + 1, (o :: O) ++ [(y : Int)], b'), ⟨⟨by simp at i1 ⊢ <;> omega, by omega, zCF i3 e2, by omega, hst⟩, by show xs.length - (i + 1) < xs.length - i; omega⟩, [_], [], [], [], ttt,
     ⟨zAD rfl rfl, zAD rfl rfl, zAG (by decide) rfl (by simp), zAC rfl (by omega), zAC rfl (by omega), trivial⟩, ⟨zAE (by decide) rfl (by simp; omega) (zAW fun _ => ⟨rfl, by simp⟩) rfl, trivial⟩, by simp [growH]⟩
  ·have hO := sub_done (O := (o :: O)) i1 i3 i4 i5 (by omega) hx (by omega)
   have cm := zB1 (o :: O) i3 (by simp at i1 ⊢ <;> omega);rw [hO] at cm;refine zAA cm (zAV (zAN rfl rfl (by simp) (fun x => zBK x)) rfl) ?_;refine sts ?_;refine zAB rfl ?_;unfold subR;rw [if_neg (by omega)]
end Go.PI.Tryz
namespace Go.PI.Tryz
open Go.Proofs Go.PI
theorem ok_rnmul : FO 116 Tryz.f116 [.tmp 4] 59 := mkO Tryz.func116 Tryz.ntmps116 Tryz.results116
theorem zJR (A B : List Int) (ha : okN A) (hb : okN B) (hl : A.length < 1073741823) (hl2 : B.length < 1073741823) : Fn 116 [encN A, encN B] (.data (encN (lims (nv A * nv B)))) := by
 refine zAO hmix hT ok_rnmul (by simp) ?_;refine sts ?_
 refine zAH hT (fun ((i, O) : Nat × List Int) => [(0, encN A), (1, encN B), (5, .own 0 0 (A.length + B.length + 1)), (6, .int .i64 i)]) (fun (_, O) => [(0, ⟨O.map (.int .u32), 1, false⟩)]) [] 1
  (fun (i, O) => i ≤ A.length ∧ O.length = A.length + B.length + 1 ∧ okN O ∧ nv O = nk A i * nv B ∧ ∀ j, i + B.length ≤ j → lb O j = 0) (fun (i, _) => A.length - i) (0, List.replicate (A.length + B.length + 1) 0) ⟨by simp, by simp, zCC _, by simp [zF4, zBI], fun j _ => zIA _ j⟩ (by decide) (by simp) ?_ ?_
 ·exact ⟨[_], [], [], [], ttt, ⟨zAD rfl rfl, zAD rfl rfl, zAG (by decide) rfl (by simp only [List.length_map]; omega), zAC rfl rfl, trivial⟩, ⟨zAE (by decide) rfl (zFY (f := PV.int .u32) (x := 0) (by simp only [List.length_map]; omega)) (zAW fun _ => ⟨rfl, by simp⟩) rfl, trivial⟩, by simp [ren]⟩
 intro ⟨i, O⟩ ⟨hi, hO, hok, hv, hz⟩
 (repeat' (first|refine stp ?_|with_reducible(refine brr ?_ ?_<;>intro h)));all_goals try(conv=>whnf)
 ·refine zAH hT (fun ((k, P, c) : Nat × List Int × Nat) => [(0, encN A), (1, encN B), (5, .own 0 0 (A.length + B.length + 1)), (6, .int .i64 i), (7, .int .u64 c), (8, .int .i64 k)]) (fun (_, P, _) => [(0, ⟨P.map (.int .u32), 1, false⟩)]) [] 1
   (fun (k, P, c) => k ≤ B.length + 1 ∧ P.length = A.length + B.length + 1 ∧ okN P ∧ c < 4294967296 ∧ nv P + c * pw (i + k) = nv O + pw i * (lb A i * nk B k) ∧ (∀ j, i + B.length + 1 ≤ j → lb P j = 0) ∧ (k ≤ B.length → lb P (i + B.length) = 0) ∧ (k = B.length + 1 → c = 0)) (fun (k, _, _) => B.length + 1 - k) (0, O, 0)
   ⟨by simp, hO, hok, by simp, by simp [zBI], fun j hj => hz j (by omega), fun _ => hz _ (by omega), fun _ => rfl⟩ (by decide) (by simp) ?_ ?_
  ·exact ⟨[0], [], [], [], ttt, ⟨zAD rfl rfl, zAD rfl rfl, zAG (by decide) rfl rfl, zAC rfl rfl, zAC rfl rfl, zAC rfl rfl, trivial⟩, ⟨zAE (by decide) rfl rfl (zAW fun _ => ⟨rfl, by simp⟩) rfl, trivial⟩, by simp [ren]⟩
  intro ⟨k, P, c⟩ ⟨hk, hP, hokP, hc, hvP, hzP, hzk, hck⟩;have cl := zEP B (k : Int) hb (by omega) (by omega);rw [show ((k : Int)).toNat = k from rfl] at cl;have ha1 : 0 ≤ A[i]! ∧ A[i]! < 4294967296 := zB5 ha (by omega);have h1 := zA2 (show i < A.length by omega) ha;have hBk := zBY hb k;have hpr : 0 ≤ A[i]! * (lb B k : Int) ∧ A[i]! * (lb B k : Int) ≤ 18446744065119617025 := prod_le ha1 (by omega);have hPk : k ≤ B.length → 0 ≤ P[i + k]! ∧ P[i + k]! < 4294967296 := fun h => zB5 hokP (by omega)
  (repeat' (first|refine stp ?_|with_reducible(refine brr ?_ ?_<;>intro h)));all_goals try(conv=>whnf)
  ·refine zAA cl rfl ?_
   refine sts ?_;refine zAU (i + k) (by omega) (by omega) ?_;have hP1 := hPk (by omega);have h3 := zA2 (show i + k < P.length by omega) hokP;obtain ⟨s, hs⟩ : ∃ s, c + (lb A i * lb B k + lb P (i + k)) = s := ⟨_, rfl⟩
   have hsI : (s : Int) = ↑c + (A[i]! * (lb B k : Int) + P[i + k]!) := by
    rw [← hs]; simp only [Int.natCast_add, Int.natCast_mul, h1, h3]
   refine sts ?_;refine zBU ?_;refine sts ?_;refine zAU (i + k) (by omega) (by omega) ?_;refine sts ?_
   refine ⟨(k + 1, P.set (i + k) ((s % 4294967296 : Nat) : Int), s / 4294967296), ⟨⟨by omega, by simp [hP], zBH hokP _ (by omega), by omega, ?_, fun j hj => by rw [zGA (by omega)]; exact hzP j hj, fun hk2 => by rw [zGA (by omega)]; exact hzk (by omega), fun hk2 => ?_⟩, by show B.length + 1 - (k + 1) < B.length + 1 - k; omega⟩, [0], [], [], [], ttt,
    ⟨zAD rfl rfl, zAD rfl rfl, zAG (by decide) rfl rfl, zAC rfl rfl, zAC rfl (by rw [zCB, ← hsI]; omega), zAC rfl (by omega), trivial⟩, ⟨zAE (by decide) rfl (zBB (by omega) (by rw [← hsI]; omega)) (zAW fun _ => ⟨rfl, by simp⟩) rfl, trivial⟩, by simp [ren]⟩
   ·have e1 := zHP (a := P) (j := i + k) ((s % 4294967296 : Nat) : Int) (by omega)
    have e2 := zCV (pw (i + k)) s;rw [Int.toNat_natCast] at e1;rw [zAZ, show i + (k + 1) = i + k + 1 by omega, zAS];rw [← hs] at e1 e2 ⊢;simp only [Nat.mul_add, zKL] at e1 e2 hvP ⊢;simp only [Nat.mul_comm, Nat.mul_left_comm, Nat.mul_assoc] at e1 e2 hvP ⊢;omega
   ·have hkB : k = B.length := by omega
    subst hkB;rw [zE0 (Nat.le_refl _), hzk (Nat.le_refl _), Nat.mul_zero] at hs;omega
  ·have hk1 : k = B.length + 1 := by omega
   have hc0 := hck hk1;subst hc0
   exact ⟨(i + 1, P), ⟨⟨by omega, hP, hokP, by rw [hk1, zAZ, zE0 (Nat.le_refl _), zBG (a := B) (Nat.le_refl _)] at hvP; simp only [Nat.mul_zero, Nat.add_zero, Nat.zero_mul] at hvP; rw [zAZ, Nat.add_mul, ← hv, Nat.mul_assoc]; omega, fun j hj => hzP j (by omega)⟩, by show A.length - (i + 1) < A.length - i; omega⟩, [0], [], [], [], ttt,
    ⟨zAD rfl rfl, zAD rfl rfl, zAG (by decide) rfl rfl, zAC rfl (by omega), trivial⟩, ⟨zAE (by decide) rfl rfl (zAW fun _ => ⟨rfl, by simp⟩) rfl, trivial⟩, by simp [ren]⟩
 ·have hi' : i = A.length := by omega
  rw [hi', zBG (a := A) (Nat.le_refl _)] at hv;have ct := zB1 O hok (by omega);rw [hv] at ct;refine zAA ct (zAV (zAN rfl rfl (by omega) (fun x => zBK x)) rfl) ?_;refine sts ?_;exact zAB rfl rfl
end Go.PI.Tryz
namespace Go.PI.Tryz
open Go.Proofs Go.PI
theorem ok_rnuint : FO 140 Tryz.f140 [.tmp 2, .tmp 3] 28 := mkO Tryz.func140 Tryz.ntmps140 Tryz.results140
theorem c_rnuint (xs : List Int) (hx : okN xs) (hl : xs.length < 2147483647) : Fn 140 [encN xs] (.data (if nv xs < 18446744073709551616 then .tup [.int .u64 (nv xs), .bool true] else .tup [.int .u64 0, .bool false])) := by
 have ct := zB1 xs hx (by omega);have h2 := zAM hx;have ha := zCZ (nv xs);have hv := zAJ (nv xs);generalize nv xs = N at *
 have hnil : lims N = [] → N = 0 := zB0;generalize lims N = A at *
 have p2 : pw 2 = 18446744073709551616 := by rw [zAS, zAS, zBQ]
 have p1 : pw 1 = 4294967296 := by rw [zAS, zBQ]
 have hlt := zC6 ha.1;refine zAO hmix hT ok_rnuint (by simp) ?_;refine sts ?_;refine zAA ct rfl ?_
 (repeat' (first|refine stp ?_|with_reducible(refine brr ?_ ?_<;>intro h)));all_goals try(conv=>whnf)
 ·have := hnil (List.length_eq_zero_iff.1 (by omega))
  subst this;rw [if_pos (by omega)];exact zAB rfl rfl
 ·have hl1 : A.length = 1 := by omega
  have g := zA2 (a := A) (k := 0) (by omega) ha.1;have b := zBY ha.1 0;have e : nv A = lb A 0 := by rw [← zBG (a := A) (k := 1) (by omega), zAZ, zBI, zBQ]; omega
  have hA0 : 0 ≤ A[0]! ∧ A[0]! < 4294967296 := by omega
  rw [if_pos (by omega)];refine sts ?_;refine zAB rfl ?_;rw [← g, ← e, hv]
 ·have hl1 : A.length = 2 := by omega
  have g0 := zA2 (a := A) (k := 0) (by omega) ha.1;have b0 := zBY ha.1 0;have g1 := zA2 (a := A) (k := 1) (by omega) ha.1;have b1 := zBY ha.1 1;have e : nv A = lb A 0 + 4294967296 * lb A 1 := by rw [← zBG (a := A) (k := 2) (by omega), zAZ, zAZ, zBI, zBQ, p1]; omega
  have hA0 : 0 ≤ A[0]! ∧ A[0]! < 4294967296 := by omega
  have hA1 : 0 ≤ A[1]! ∧ A[1]! < 4294967296 := by omega
  have ee : bitF .or .u64 A[0]! (A[1]! * shl2 .u64 32) = (N : Int) := by rw [or_limb' hA1 hA0]; omega
  rw [if_pos (by omega)];refine sts ?_;refine zA0 (j := 1) rfl (by omega) ?_;refine sts ?_;refine zCS ?_ ?_
  ·rw [zEF]; omega
  refine sts ?_;refine zAB rfl ?_;rw [ee]
 ·have hge := zJM ha (fun e => by subst e; simp at *)
  have := zDP (show 2 ≤ A.length - 1 by omega);rw [if_neg (by omega)];refine sts ?_;exact zAB rfl rfl
end Go.PI.Tryz
namespace Go.PI.Tryz
open Go.Proofs Go.PI
theorem ok_rnbits : FO 141 Tryz.f141 [.tmp 2] 27 := mkO Tryz.func141 Tryz.ntmps141 Tryz.results141
theorem c_rnbits (xs : List Int) (hx : okN xs) (hl : xs.length < 2147483647) : Fn 141 [encN xs] (.data (.int .i64 (bitsV (nv xs)))) := by
 have h2 := zAM hx;have hok := zAI (nv xs);refine zAO hmix hT ok_rnbits (by simp) ?_;refine sts ?_;refine zAA (zB1 xs hx (by omega)) rfl ?_
 (repeat' (first|refine stp ?_|with_reducible(refine brr ?_ ?_<;>intro h)));all_goals try(conv=>whnf)
 ·refine zAB rfl ?_
  have : lims (nv xs) = [] := List.length_eq_zero_iff.1 (by omega);have := zB0 this;unfold bitsV;rw [if_pos this]
 ·refine zA0 (j := (lims (nv xs)).length - 1) (by simp only [List.length_map]; omega) (by omega) ?_
  refine sts ?_;have hg := zA2 (show (lims (nv xs)).length - 1 < (lims (nv xs)).length by omega) hok;have hlt := zBY hok ((lims (nv xs)).length - 1)
  have hne : nv xs ≠ 0 := fun e => by
   have : (lims (nv xs)).length = 0 := by rw [e]; rfl
   omega
  have hbv : bitsV (nv xs) = 32 * ((lims (nv xs)).length - 1 : Nat) + bl (lb (lims (nv xs)) ((lims (nv xs)).length - 1)) := by unfold bitsV; rw [if_neg hne]
  rw [hbv];generalize lb (lims (nv xs)) ((lims (nv xs)).length - 1) = T at *
  refine zA9 hT (fun ((n, t) : Nat × Nat) => [(3, .int .i64 n), (4, .int .u32 t)]) (fun (n, t) => t < 4294967296 ∧ n + bl t = 32 * ((lims (nv xs)).length - 1) + bl T) (fun (_, t) => t) (32 * ((lims (nv xs)).length - 1), T) ⟨hlt, rfl⟩ ?_ ?_
  ·exact ⟨zAC rfl (by simp only [List.length_map]; omega), zAC rfl hg.symm, trivial⟩
  intro ⟨n, t⟩ ⟨i1, i2⟩;have hT32 := (zBR 32 T hlt (by decide)).2.2;have ht32 := (zBR 32 t i1 (by decide)).2.2
  (repeat' (first|refine stp ?_|with_reducible(refine brr ?_ ?_<;>intro h)));all_goals try(conv=>whnf)
  ·have hh := zDY (n := t) (by omega) (by omega)
   have hf : (t : Int).fdiv (shl2 .u32 1) = ((t / 2 : Nat) : Int) := by rw [zGG (j := 1) rfl]; omega
   exact ⟨(n + 1, t / 2), ⟨⟨by omega, by omega⟩, by show t / 2 < t; omega⟩, zAC rfl (by omega), zAC rfl hf, trivial⟩
  ·have h0 : t = 0 := by omega
   subst h0;rw [bl_zero] at i2;refine zAB rfl ?_
   congr 1
   omega
end Go.PI.Tryz
namespace Go.PI.Tryz
open Go.Proofs Go.PI
theorem ok_rnshl : FO 142 Tryz.f142 [.tmp 4] 40 := mkO Tryz.func142 Tryz.ntmps142 Tryz.results142
theorem c_rnshl (xs : List Int) (hx : okN xs) (hl : xs.length < 2147483646) : Fn 142 [encN xs, .int .i64 1] (.data (encN (lims (2 * nv xs)))) := by
 refine zAO hmix hT ok_rnshl (by simp) ?_;have eq : (1 : Int).tdiv 32 = 0 := rfl;have em : (1 : Int).tmod 32 = 1 := rfl;refine sts ?_
 refine zAH hT (fun ((i, O, c) : Nat × List Int × Nat) => [(0, encN xs), (1, .int .i64 1), (5, .own 0 0 i), (6, .int .u64 c), (7, .int .i64 i)]) (fun (_, O, _) => [(0, ⟨O.map (.int .u32), 1, false⟩)]) [] 1
  (fun (i, O, c) => O.length = i ∧ i ≤ xs.length ∧ okN O ∧ c < 2 ∧ nv O + pw i * c = 2 * nk xs i) (fun (i, _, _) => xs.length - i) (0, [], 0) ⟨rfl, by omega, zEK, by omega, by rw [zBI]; rfl⟩ (by decide) (by simp) ?_ ?_
 ·exact ⟨[_], [], [], [], ttt, ⟨zAD rfl rfl, zAC rfl rfl, zAG (by decide) rfl rfl, zAC rfl rfl, zAC rfl rfl, trivial⟩, ⟨zAE (by decide) rfl rfl (by simp) rfl, trivial⟩, by simp [ren]⟩
 intro ⟨i, O, c⟩ ⟨i1, i2, i3, i4, i5⟩;have b1 := zBY hx i;have hXi : i < xs.length → xs[i]! = (lb xs i : Int) := fun h => (zA2 h hx).symm
 (repeat' (first|refine stp ?_|with_reducible(refine brr ?_ ?_<;>intro h)));all_goals try(conv=>whnf)
 ·have hx1 := hXi (by omega)
  have e2 : shl2 .u64 1 = 2 := by rw [zGS (by decide)]; rfl
  have eo : bitF .or .u64 (c : Int) ((lb xs i : Int) * 2) = ((2 * lb xs i + c : Nat) : Int) := by
   have := zHJ (a := lb xs i) (b := c) (i := 1) (by omega) (by omega);rw [show ((2 ^ 1 * lb xs i : Nat) : Int) = (lb xs i : Int) * 2 by omega] at this;rw [this]
  rw [hx1, em, e2];obtain ⟨c', y, e1, e3⟩ : ∃ c' y, 2 * lb xs i + c = c' * 4294967296 + y ∧ y < 4294967296 := ⟨(2 * lb xs i + c) / 4294967296, (2 * lb xs i + c) % 4294967296, by omega, by omega⟩;refine zCS (by omega) ?_;refine sts ?_;rw [eo];refine zBU ?_;refine sts ?_
  refine ⟨(i + 1, O ++ [(y : Int)], c'), ⟨⟨by simp [i1], by omega, zCF i3 e3, by omega, ?_⟩, by show xs.length - (i + 1) < xs.length - i; omega⟩, [_], [], [], [], ttt,
   ⟨zAD rfl rfl, zAC rfl rfl, zAG (by decide) rfl (by simp), zAC rfl (by rw [zCB]; omega), zAC rfl (by omega), trivial⟩, ⟨zAE (by decide) rfl (by simp; omega) (zAW fun _ => ⟨rfl, by simp⟩) rfl, trivial⟩, by simp [ren]⟩
  rw [zG7 i1, zAZ, zAS]
  have : pw i * c + pw i * (2 * lb xs i) = 4294967296 * pw i * c' + pw i * y := by
   rw [← Nat.mul_add, Nat.mul_comm 4294967296, Nat.mul_assoc, ← Nat.mul_add]
   congr 1
   omega
  rw [Nat.mul_left_comm] at this;omega
 ·have hi : i = xs.length := by omega
  have hv : nv (O ++ [(c : Int)]) = 2 * nv xs := by rw [zG7 i1, i5, zBG (by omega)]
  have cm := zB1 (O ++ [(c : Int)]) (zCF i3 (by omega)) (by simp; omega);rw [hv] at cm;refine zAA cm (zAV (zAN rfl (by simp) (by simp [i1]) (fun x => zBK x)) rfl) ?_;refine sts ?_;exact zAB rfl rfl
end Go.PI.Tryz
namespace Go.PI.Tryz
open Go.Proofs Go.PI
theorem bits_lt (N : Nat) : ∃ m : Nat, bitsV N = m ∧ N < 2 ^ m ∧ m ≤ 32 * (lims N).length := by
 unfold bitsV;by_cases h : N = 0
 ·subst h; exact ⟨0, rfl, by decide, by simp⟩
 ·rw [if_neg h]
  have hn : lims N ≠ [] := fun e => h (zB0 e)
  have hl : 0 < (lims N).length := List.length_pos_iff.2 hn;have ho := zAI N;obtain ⟨L, hL⟩ : ∃ L, (lims N).length = L + 1 := ⟨(lims N).length - 1, by omega⟩;rw [hL];have hlt := zBY ho L;have hb := zBR 32 _ hlt (by decide);refine ⟨32 * L + bl (lb (lims N) L), by simp, ?_, by omega⟩;have e : N = nk (lims N) L + pw L * lb (lims N) L := by rw [← zAZ, zBG (by omega), zAJ]
  have h1 := zJ8 ho L;rw [Nat.pow_add, ← pw_two];have h2 := Nat.mul_le_mul_left (pw L) (show lb (lims N) L + 1 ≤ 2 ^ bl (lb (lims N) L) by omega);rw [Nat.mul_add] at h2;omega
theorem ok_rndivmod : FO 125 Tryz.f125 [.tmp 4, .tmp 5, .tmp 6] 89 := mkO Tryz.func125 Tryz.ntmps125 Tryz.results125
theorem zHG (xs ys : List Int) (hx : okN xs) (hy : okN ys) (hl : xs.length < 2147483636) (hl2 : ys.length < 2147483636) : Fn 125 [encN xs, encN ys] (.data (.tup [encN (lims (nv xs / nv ys)), encN (if nv ys = 0 then [] else lims (nv xs % nv ys)), .int .i64 (if nv ys = 0 then 3 else 0)])) := by
 have cu1 := c_rnuint xs hx (by omega);have cu2 := c_rnuint ys hy (by omega);have cb := c_rnbits xs hx (by omega);obtain ⟨m0, em, hm1, hm2⟩ := bits_lt (nv xs);rw [em] at cb;have hm3 : m0 ≤ 32 * xs.length := by have := zAM hx; omega
 refine zAO hmix hT ok_rndivmod (by simp) ?_
 (repeat' (first|refine stp ?_|with_reducible(refine brr ?_ ?_<;>intro h)));all_goals try(conv=>whnf)
 by_cases k1 : nv xs < 18446744073709551616 <;> by_cases k2 : nv ys < 18446744073709551616
 all_goals first | rw [if_pos k1] at cu1 | rw [if_neg k1] at cu1
 all_goals first | rw [if_pos k2] at cu2 | rw [if_neg k2] at cu2
 all_goals (refine zAA cu1 rfl ?_; (repeat' (first|refine stp ?_|with_reducible(refine brr ?_ ?_<;>intro h)));all_goals try(conv=>whnf))
 all_goals (refine zAA cu2 rfl ?_; (repeat' (first|refine stp ?_|with_reducible(refine brr ?_ ?_<;>intro h)));all_goals try(conv=>whnf))
 ·have h0 : nv ys = 0 := by omega
  refine zAB rfl ?_;rw [h0, Nat.div_zero, if_pos rfl, if_pos rfl]; rfl
 ·have h0 : nv ys ≠ 0 := by omega
  obtain ⟨q, hq⟩ : ∃ q, q = nv xs / nv ys := ⟨_, rfl⟩;obtain ⟨r, hr⟩ : ∃ r, r = nv xs % nv ys := ⟨_, rfl⟩;have e1 : (nv xs : Int).tdiv (nv ys) = (q : Int) := by rw [hq]; exact (Int.ofNat_tdiv ..).symm
  have e2 : (nv xs : Int).tmod (nv ys) = (r : Int) := by rw [hr]; exact (Int.ofNat_tmod ..).symm
  have b1 : q ≤ nv xs := hq ▸ Nat.div_le_self ..;have b2 : r ≤ nv xs := hr ▸ Nat.mod_le ..;rw [e1];refine zCS (by omega) ?_
  (repeat' (first|refine stp ?_|with_reducible(refine brr ?_ ?_<;>intro h)));all_goals try(conv=>whnf)
  refine zAA (c_rnof _ (by omega)) rfl ?_
  (repeat' (first|refine stp ?_|with_reducible(refine brr ?_ ?_<;>intro h)));all_goals try(conv=>whnf)
  rw [e2];refine zAA (c_rnof _ (by omega)) rfl ?_
  (repeat' (first|refine stp ?_|with_reducible(refine brr ?_ ?_<;>intro h)));all_goals try(conv=>whnf)
  refine zAB rfl ?_;rw [if_neg h0, if_neg h0, ← hq, ← hr]
 rotate_left
 ·have h0 : nv ys = 0 := by omega
  refine zAB rfl ?_;rw [h0, Nat.div_zero, if_pos rfl, if_pos rfl]; rfl
 all_goals
  have hM : nv ys ≠ 0 := by omega
  refine zAA cb rfl ?_
  (repeat' (first|refine stp ?_|with_reducible(refine brr ?_ ?_<;>intro h)));all_goals try(conv=>whnf)
  refine zAH hT (fun ((m, Q, q, R) : Nat × List Int × Nat × Nat) => [(0, encN xs), (1, encN ys), (11, .own 0 0 xs.length), (12, encN (lims R)), (13, .int .i64 ((m : Int) - 1))]) (fun (_, Q, _) => [(0, ⟨Q.map (.int .u32), 1, false⟩)]) [] 1
   (fun (m, Q, q, R) => m ≤ 32 * xs.length ∧ Q.length = xs.length ∧ okN Q ∧ nv Q = 2 ^ m * q ∧ nv xs / 2 ^ m = q * nv ys + R ∧ R < nv ys) (fun (m, _) => m) (m0, List.replicate xs.length 0, 0, 0) ⟨hm3, by simp, zCC _, by rw [zF4]; rfl, by rw [Nat.div_eq_of_lt hm1]; simp, by omega⟩ (by decide) (by simp) ?_ ?_
  ·exact ⟨[28], [29], [(12, encN (lims 0))], [], ⟨⟨⟨_, rfl⟩, trivial⟩, ⟨⟨4, [29], zAN (f := PV.int .u32) (l := []) rfl rfl rfl (fun x => zBK x), rfl⟩, trivial⟩, trivial⟩,
    ⟨zAD rfl rfl, zAD rfl rfl, zAG (by decide) rfl (by simp only [List.length_map]; omega), zAD rfl rfl, zAC rfl rfl, trivial⟩, ⟨zAE (by decide) rfl (zFY (f := PV.int .u32) (x := 0) (by simp only [List.length_map]; omega)) (zAW fun _ => ⟨rfl, by simp⟩) rfl, trivial⟩, by simp [ren]⟩
  intro ⟨m, Q, q, R⟩ ⟨i1, i2, i3, i4, i5, i6⟩;have hR : R < pw ys.length := Nat.lt_trans i6 (zC6 hy);have hRl := zA4 hR
  (repeat' (first|refine stp ?_|with_reducible(refine brr ?_ ?_<;>intro h)));all_goals try(conv=>whnf)
  ·have hm : 1 ≤ m := by omega
   obtain ⟨j, hj⟩ : ∃ j, j = (m - 1) / 32 := ⟨_, rfl⟩;obtain ⟨s, hs⟩ : ∃ s, s = (m - 1) % 32 := ⟨_, rfl⟩;have e3 : ((m : Int) - 1).tdiv 32 = (j : Int) := by rw [Int.tdiv_eq_ediv_of_nonneg (by omega)]; omega
   have e4 : ((m : Int) - 1).tmod 32 = (s : Int) := by rw [Int.tmod_eq_emod_of_nonneg (by omega)]; omega
   have c1 := c_rnshl (lims R) (zAI R) (by omega);rw [zAJ] at c1;refine zAA c1 rfl ?_
   (repeat' (first|refine stp ?_|with_reducible(refine brr ?_ ?_<;>intro h)));all_goals try(conv=>whnf)
   have b := zBY hx j;have hj2 : j < xs.length := by omega
   have hg := zA2 hj2 hx;refine zA0 (j := j) (by rw [e3]) (by omega) ?_;obtain ⟨bit, hbit⟩ : ∃ bit, bit = nv xs / 2 ^ (m - 1) % 2 := ⟨_, rfl⟩;have hb2 : bit < 2 := by omega
   have hs2 : s < 32 := by omega
   have eb : bitF .and .u32 ((xs[j]!).fdiv (shl2 .u32 (((m : Int) - 1).tmod 32))) 1 = (bit : Int) := by
    rw [e4, ← hg, shl2_32u (by omega), show ((2 : Int) ^ ((s : Int).toNat)) = ((2 ^ s : Nat) : Int) by simp, Int.fdiv_eq_ediv_of_nonneg _ (Int.natCast_nonneg _), ← Int.natCast_ediv, bitF_and1 (Nat.lt_of_le_of_lt (Nat.div_le_self ..) b), hbit, bit_of hx, ← hj, ← hs]
   have hp1 : pw (ys.length + 1) = 4294967296 * pw ys.length := zAS _;have hl1 : (lims (2 * R)).length ≤ ys.length + 1 := zA4 (by omega);have ca := c_rnadd (lims (2 * R)) [(bit : Int)] (zAI _) (okN_cons.2 ⟨by omega, zEK⟩) (by omega) (by simp);rw [zAJ, show nv [(bit : Int)] = bit by simp [nv]] at ca;obtain ⟨X, hX⟩ : ∃ X, X = 2 * R + bit := ⟨_, rfl⟩;rw [← hX] at ca;have hl3 : (lims X).length ≤ ys.length + 1 := zA4 (by omega);have cc := c_rncmp (lims X) ys (zAI _) hy (by omega) (by omega);have cs := c_rnsub (lims X) ys (zAI _) hy (by omega) (by omega);rw [zAJ] at cc cs
   have h5 : nv xs / 2 ^ (m - 1) = 2 * (nv xs / 2 ^ m) + bit := by
    have : 2 ^ m = 2 ^ (m - 1) * 2 := by rw [← Nat.pow_succ]; congr 1; omega
    rw [this, ← Nat.div_div_eq_div_mul]; omega
   rw [i5, Nat.mul_add, ← Nat.mul_assoc] at h5
   have h4 : nv Q = 2 ^ (m - 1) * (2 * q) := by
    have : 2 ^ m = 2 ^ (m - 1) * 2 := by rw [← Nat.pow_succ]; congr 1; omega
    rw [i4, this, Nat.mul_assoc]
   (repeat' (first|refine stp ?_|with_reducible(refine brr ?_ ?_<;>intro h)));all_goals try(conv=>whnf)
   refine zAA ca (zAV rfl (zAV (zAN rfl (by rw [eb]; rfl) rfl (fun x => zBK x)) rfl)) ?_
   (repeat' (first|refine stp ?_|with_reducible(refine brr ?_ ?_<;>intro h)));all_goals try(conv=>whnf)
   refine zAA cc rfl ?_
   (repeat' (first|refine stp ?_|with_reducible(refine brr ?_ ?_<;>intro h)));all_goals try(conv=>whnf)
   ·have hge : nv ys ≤ X := by have := (zJK X (nv ys)); omega
    unfold subR at cs;rw [if_neg (by omega)] at cs;refine zAA cs rfl ?_
    (repeat' (first|refine stp ?_|with_reducible(refine brr ?_ ?_<;>intro h)));all_goals try(conv=>whnf)
    obtain ⟨c, hc⟩ := limb_dvd (i := m - 1) (q := q) i3 (by rw [Nat.sub_add_cancel hm]; exact i4);rw [← hj, ← hs] at hc;have bQ := zBY i3 j;have hgQ := zA2 (show j < Q.length by omega) i3;have ho := limb_or (s := s) (c := c) hs2 (by omega);refine zAU j (by rw [e3]; simp) (by omega) ?_
    (repeat' (first|refine stp ?_|with_reducible(refine brr ?_ ?_<;>intro h)));all_goals try(conv=>whnf)
    obtain ⟨p, hp⟩ : ∃ p, p = 2 ^ s := ⟨_, rfl⟩;rw [← hp] at ho;have es : (1 : Int) * shl2 .u32 (((m : Int) - 1).tmod 32) = (p : Int) := by rw [e4, shl2_32u (by omega), hp]; simp
    have eo : bitF .or .u32 (Q[j]!) (p : Int) = ((lb Q j + p : Nat) : Int) := by rw [← hgQ, hc]; exact ho.1
    rw [← hc] at ho
    have hQ' : nv (Q.set j ((lb Q j + p : Nat) : Int)) = 2 ^ (m - 1) * (2 * q + 1) := by
     have h6 := zHP (a := Q) (j := j) ((lb Q j + p : Nat) : Int) (by omega);rw [Int.toNat_natCast, Nat.mul_add] at h6;have h7 : pw j * p = 2 ^ (m - 1) := by rw [pw_two, hp, ← Nat.pow_add]; congr 1; omega
     rw [h7] at h6;rw [Nat.mul_add, Nat.mul_one, ← h4];omega
    have hok' : okN (Q.set j ((lb Q j + p : Nat) : Int)) := zBH i3 j ⟨by omega, by omega⟩;rw [es];refine zHO (by omega) ?_
    (repeat' (first|refine stp ?_|with_reducible(refine brr ?_ ?_<;>intro h)));all_goals try(conv=>whnf)
    refine zAU j (by rw [e3]; simp) (by omega) ?_
    (repeat' (first|refine stp ?_|with_reducible(refine brr ?_ ?_<;>intro h)));all_goals try(conv=>whnf)
    exact ⟨(m - 1, Q.set j ((lb Q j + p : Nat) : Int), 2 * q + 1, X - nv ys), ⟨⟨by omega, by simp [i2], hok', hQ', by rw [Nat.add_mul]; omega, by omega⟩, by show m - 1 < m; omega⟩, [_], [], [], [], ttt,
     ⟨zAD rfl rfl, zAD rfl rfl, zAG (by decide) rfl rfl, zAD rfl rfl, zAC rfl (by omega), trivial⟩, ⟨zAE (by decide) rfl (zBB (by rw [e3]; simp) eo) (zAW fun _ => ⟨rfl, by simp⟩) rfl, trivial⟩, by simp [ren]⟩
   ·have hge : X < nv ys := by have := (zJK X (nv ys)); omega
    exact ⟨(m - 1, Q, 2 * q, X), ⟨⟨by omega, i2, i3, h4, by omega, hge⟩, by show m - 1 < m; omega⟩, [_], [], [], [], ttt,
     ⟨zAD rfl rfl, zAD rfl rfl, zAG (by decide) rfl rfl, zAD rfl rfl, zAC rfl (by omega), trivial⟩, ⟨zAE (by decide) rfl rfl (zAW fun _ => ⟨rfl, by simp⟩) rfl, trivial⟩, by simp [ren]⟩
  ·have h0 : m = 0 := by omega
   subst h0;have cm := zB1 Q i3 (by omega);rw [Nat.pow_zero, Nat.div_one] at i5;rw [Nat.pow_zero, Nat.one_mul] at i4;refine zAA cm (zAV (zAN rfl rfl (by omega) (fun x => zBK x)) rfl) ?_
   (repeat' (first|refine stp ?_|with_reducible(refine brr ?_ ?_<;>intro h)));all_goals try(conv=>whnf)
   refine zAB rfl ?_;have e1 : nv xs / nv ys = nv Q := by rw [i5, i4, Nat.mul_comm, Nat.mul_add_div (by omega), Nat.div_eq_of_lt i6]; rfl
   have e2 : nv xs % nv ys = R := by rw [i5, Nat.mul_comm, Nat.mul_add_mod, Nat.mod_eq_of_lt i6]
   rw [if_neg hM, if_neg hM, e1, e2]
end Go.PI.Tryz
namespace Go.PI.Tryz
open Go.Proofs Go.PI
theorem ok_rngcd : FO 124 Tryz.f124 [.tmp 4] 25 := mkO Tryz.func124 Tryz.ntmps124 Tryz.results124
theorem c_rngcd (xs ys : List Int) (hx : okN xs) (hy : okN ys) (hl : xs.length < 2147483636) (hl2 : ys.length < 2147483636) : Fn 124 [encN xs, encN ys] (.data (encN (lims (Nat.gcd (nv xs) (nv ys))))) := by
 have ct1 := zB1 xs hx (by omega);have ct2 := zB1 ys hy (by omega);have h1 := zAM hx;have h2 := zAM hy;generalize nv xs = P0 at *
 generalize nv ys = Q0 at *
 obtain ⟨g, eg⟩ : ∃ g, Nat.gcd P0 Q0 = g := ⟨_, rfl⟩;rw [eg];refine zAO hmix hT ok_rngcd (by simp) ?_;refine sts ?_;refine zAA ct1 rfl ?_;refine sts ?_;refine zAA ct2 rfl ?_;refine sts ?_;refine zA9 hT (fun ((P, Q) : Nat × Nat) => [(0, encN (lims P)), (1, encN (lims Q))]) (fun (P, Q) => Nat.gcd P Q = g ∧ (lims P).length < 2147483636 ∧ (lims Q).length < 2147483636) (fun (_, Q) => Q) (P0, Q0) ⟨eg, by omega, by omega⟩ ?_ ?_
 ·exact ⟨zAD rfl rfl, zAD rfl rfl, trivial⟩
 intro ⟨P, Q⟩ ⟨i1, i2, i3⟩;have cd := zHG (lims P) (lims Q) (zAI P) (zAI Q) i2 i3;rw [zAJ, zAJ] at cd
 (repeat' (first|refine stp ?_|with_reducible(refine brr ?_ ?_<;>intro h)));all_goals try(conv=>whnf)
 ·have hQ : Q ≠ 0 := fun e => by subst e; rw [zCD] at h; simp at h
  rw [if_neg hQ, if_neg hQ] at cd;refine zAA cd rfl ?_;refine sts ?_;have hm := Nat.mod_lt P (show Q > 0 by omega);have hml := zCI (Nat.le_of_lt hm);exact ⟨(Q, P % Q), ⟨⟨by rw [zIC]; exact i1, i3, by omega⟩, hm⟩, zAD rfl rfl, zAD rfl rfl, trivial⟩
 ·have hQ : Q = 0 := zB0 (List.length_eq_zero_iff.1 (by omega))
  subst hQ;rw [Nat.gcd_zero_right] at i1;subst i1;exact zAB rfl rfl
end Go.PI.Tryz
