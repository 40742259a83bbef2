/-
  Natural numbers: Gcd.
-/
import Derived.Test.YtigeioodiljlaaaGreatCPD
import Derived.Test.YtigeioodiljlaaaGreatCT
set_option linter.unusedVariables false
set_option linter.unusedSimpArgs false
set_option linter.unnecessarySimpa false
namespace Go.PI.Tryz
open Go.Proofs Go.PI
theorem hmix : Tryz.prog.follows .mixedOrders = true := by kernel_rfl
def G0 : Gl := fun g => none
abbrev Fn := FnC Tryz.prog G0
abbrev FO (n : FuncId) (f : Func) (rs : List ResultVar) (nt : Nat) : Prop := FnOk Tryz.prog n f (f.body.getD .skip) rs nt
theorem mkO {n : FuncId} {f : Func} {rs : List ResultVar} {nt : Nat} (h1 : Tryz.prog.funcs[n]? = some f) (h2 : f.ntmps = nt) (h3 : f.results = rs.toArray) (hb : f.body = some (f.body.getD .skip) := by exact rfl) (hn : f.name ≠ "runtime.NumGoroutine" := by decide) (h4 : codeFits nt (f.body.getD .skip) = true := by kernel_rfl) (h5 : rs.all (resFits nt) = true := by kernel_rfl) : FO n f rs nt := ⟨h1, hb, hn, h2, h3, h4, h5⟩
end Go.PI.Tryz
namespace Go.PI.Tryz
open Go.Proofs Go.PI
theorem ok_trim : FO 112 Tryz.f112 [.tmp 2] 23 := mkO Tryz.func112 Tryz.ntmps112 Tryz.results112
theorem zBV (xs : List Int) (ho : okN xs) (hl : xs.length < 2147483648) : Fn 112 [encN xs] (.data (encN (lims (nv xs)))) := by
 refine zAO hmix hT ok_trim (by simp) ?_;refine sts ?_;refine zA9 hT (fun n : Nat => [(0, encN xs), (3, .int .i64 n)]) (fun n => n ≤ xs.length ∧ ∀ j, n ≤ j → j < xs.length → xs[j]! = 0) (fun n => n) xs.length ⟨Nat.le_refl _, fun j h1 h2 => by omega⟩ ?_ ?_
 ·exact ⟨zAD rfl rfl, zAC rfl (by simp), trivial⟩
 ·intro n ⟨hn, hz⟩
  (repeat' (first|refine stp ?_|with_reducible(refine brr ?_ ?_<;>intro h)));all_goals try(conv=>whnf)
  ·refine zA0 (j := n - 1) (by omega) (by omega) ?_
   (repeat' (first|refine stp ?_|with_reducible(refine brr ?_ ?_<;>intro h)));all_goals try(conv=>whnf)
   ·refine ⟨n - 1, ⟨⟨by omega, fun j h1 h2 => ?_⟩, by omega⟩, zAD rfl rfl, zAC rfl (by omega), trivial⟩
    by_cases e : j = n - 1
    ·subst e; assumption
    ·exact hz j (by omega) h2
   ·omega
   ·refine zB9 (l' := xs.take n) (by simp) ?_
    refine sts ?_;refine zAB rfl ?_;rw [zFT ho hn hz (Or.inr (by assumption))]
  ·have h0 : n = 0 := by omega
   subst h0;refine zAB rfl ?_;rw [← zFT ho hn hz (Or.inl rfl)];rfl
  ·omega
theorem ok_cloneNat : FO 144 Tryz.f144 [.tmp 2] 8 := mkO Tryz.func144 Tryz.ntmps144 Tryz.results144
theorem c_cloneNat (xs : List Int) (hl : xs.length < 2147483648) : Fn 144 [encN xs] (.fresh (xs.map (.int .u32)) 1 false) := by
 refine fnC_vown hmix hT ok_cloneNat (by simp) ?_
 (repeat' (first|refine stp ?_|(with_reducible refine brr ?_ ?_<;>intro h)|(with_reducible refine nilImm_map ?_ ?_<;>intro h)|with_reducible refine anyb_of ?_ ?_)); all_goals try (conv=>whnf)
 ·subst h; exact givesOwnV_nil
 all_goals refine zHS rfl rfl ?_ rfl (frz_map (fun x => zBK x) _)
 all_goals simp
theorem ok_nmake : FO 129 Tryz.f129 [.tmp 2] 6 := mkO Tryz.func129 Tryz.ntmps129 Tryz.results129
theorem zJU (xs : List Int) (ho : okN xs) (hl : xs.length < 2147483648) : Fn 129 [encN xs] (.data (encN (lims (nv xs)))) := by
 have h2 := zAM ho;refine zAO hmix hT ok_nmake (by simp) ?_;refine sts ?_;refine zAA (zBV xs ho hl) rfl ?_;refine sts ?_;refine zFQ (c_cloneNat _ (by omega)) rfl ?_;refine sts ?_;exact zAB (zAN rfl rfl (by simp) (fun x => zBK x)) rfl
theorem ok_nvalid : FO 79 Tryz.f79 [.tmp 2] 15 := mkO Tryz.func79 Tryz.ntmps79 Tryz.results79
def validN (xs : List Int) : Bool := decide (xs = [] ∨ xs[xs.length - 1]! ≠ 0)
theorem c_nvalid (xs : List Int) (hl : xs.length < 2147483648) : Fn 79 [encN xs] (.data (.bool (validN xs))) := by
 refine zAO hmix hT ok_nvalid (by simp) ?_
 (repeat' (first|refine stp ?_|with_reducible(refine brr ?_ ?_<;>intro h)));all_goals try(conv=>whnf)
 ·refine zAB rfl ?_
  have : xs = [] := List.length_eq_zero_iff.1 (by omega);simp [validN, this]
 ·refine zA0 (j := xs.length - 1) (by simp only [List.length_map]; omega) (by omega) ?_
  refine sts ?_;refine zAB rfl (congrArg PV.bool ?_);have : xs ≠ [] := fun e => by subst e; simp at *
  rw [bne_dec];exact decide_eq_decide.2 ⟨fun h => Or.inr h, fun h => h.resolve_left this⟩
theorem ok_nof : FO 128 Tryz.f128 [.tmp 2] 10 := mkO Tryz.func128 Tryz.ntmps128 Tryz.results128
theorem c_nof (n : Nat) (hn : n < 18446744073709551616) : Fn 128 [.int .u64 n] (.data (encN (lims n))) := by
 refine zAO hmix hT ok_nof (by simp) ?_;refine sts ?_;refine zBU ?_;refine sts ?_;rw [zCB];refine zBU ?_;refine sts ?_;have hv : nv [(n : Int) % 4294967296, (n : Int) / 4294967296 % 4294967296] = n := by simp only [nv]; omega
 have := zBV [(n : Int) % 4294967296, (n : Int) / 4294967296 % 4294967296] (by intro x hx; simp only [List.mem_cons, List.not_mem_nil, or_false] at hx; omega) (by simp);rw [hv] at this;refine zAA this rfl ?_;refine sts ?_;exact zAB rfl rfl
theorem ok_ncmp : FO 81 Tryz.f81 [.tmp 4] 45 := mkO Tryz.func81 Tryz.ntmps81 Tryz.results81
def cmpI (a b : Int) : Int := if a < b then -1 else if b < a then 1 else 0
theorem zJW (xs ys : List Int) (hx : okN xs) (hy : okN ys) (hl : xs.length < 2147483648) (hl2 : ys.length < 2147483648) : Fn 81 [encN xs, encN ys] (.data (.int .i64 (cmpI (nv xs) (nv ys)))) := by
 have ct1 := zBV xs hx hl;have ct2 := zBV ys hy hl2;obtain ⟨A, eA⟩ : ∃ A, lims (nv xs) = A := ⟨_, rfl⟩;obtain ⟨B, eB⟩ : ∃ B, lims (nv ys) = B := ⟨_, rfl⟩;have ha : canN A := eA ▸ zCZ _;have hb : canN B := eB ▸ zCZ _;have ea : nv A = nv xs := by rw [← eA, zAJ]
 have eb : nv B = nv ys := by rw [← eB, zAJ]
 have h1 : A.length ≤ xs.length := eA ▸ zAM hx;have h2 : B.length ≤ ys.length := eB ▸ zAM hy;rw [eA] at ct1;rw [eB] at ct2;rw [← ea, ← eb];refine zAO hmix hT ok_ncmp (by simp) ?_;refine sts ?_;refine zAA ct1 rfl ?_;refine sts ?_;refine zAA ct2 rfl ?_
 (repeat' (first|refine stp ?_|with_reducible(refine brr ?_ ?_<;>intro h)));all_goals try(conv=>whnf)
 ·have := zF5 ha hb (by omega)
  refine zAB rfl ?_;unfold cmpI;rw [if_pos (by omega)]
 ·have := zF5 hb ha (by omega)
  refine zAB rfl ?_;unfold cmpI;rw [if_neg (by omega), if_pos (by omega)]
 ·have hlen : A.length = B.length := by omega
  refine zA9 hT (fun n : Nat => [(0, encN A), (1, encN B), (5, .int .i64 ((n : Int) - 1))]) (fun n => n ≤ A.length ∧ nt A n = nt B n) (fun n => n) A.length ⟨Nat.le_refl _, by rw [zC7 (Nat.le_refl _), zC7 (by omega)]⟩ ?_ ?_
  ·exact ⟨zAD rfl rfl, zAD rfl rfl, zAC rfl (by simp), trivial⟩
  ·intro n ⟨hn, hnt⟩
   have hA := ha.1;have hB := hb.1;have hsa := zB6 hA (n - 1);have hsb := zB6 hB (n - 1)
   (repeat' (first|refine stp ?_|with_reducible(refine brr ?_ ?_<;>intro h)));all_goals try(conv=>whnf)
   ·refine zA0 (j := n - 1) (by omega) (by omega) ?_
    refine sts ?_;refine zA0 (j := n - 1) (by omega) (by omega) ?_
    (repeat' (first|refine stp ?_|with_reducible(refine brr ?_ ?_<;>intro h)));all_goals try(conv=>whnf)
    all_goals try (refine zA0 (j := n - 1) (by omega) (by omega) ?_; refine sts ?_)
    all_goals try (refine zA0 (j := n - 1) (by omega) (by omega) ?_; (repeat' (first|refine stp ?_|with_reducible(refine brr ?_ ?_<;>intro h)));all_goals try(conv=>whnf))
    ·have h0 : n - 1 + 1 = n := by omega
     have := zF6 hA hB (i := n - 1) (by rw [h0]; exact hnt) (Or.inr hsa) (Or.inr hsb) (by have := zA2 (show n - 1 < A.length by omega) hA; have := zA2 (show n - 1 < B.length by omega) hB; omega);refine zAB rfl ?_;unfold cmpI;rw [if_pos (by omega)]
    ·have h0 : n - 1 + 1 = n := by omega
     have := zF6 hB hA (i := n - 1) (by rw [h0]; exact hnt.symm) (Or.inr hsb) (Or.inr hsa) (by have := zA2 (show n - 1 < A.length by omega) hA; have := zA2 (show n - 1 < B.length by omega) hB; omega);refine zAB rfl ?_;unfold cmpI;rw [if_neg (by omega), if_pos (by omega)]
    ·have h0 : n - 1 + 1 = n := by omega
     refine ⟨n - 1, ⟨⟨by omega, ?_⟩, by omega⟩, zAD rfl rfl, zAD rfl rfl, zAC rfl (by omega), trivial⟩;rw [hsa, hsb, h0, hnt];have := zA2 (show n - 1 < A.length by omega) hA; have := zA2 (show n - 1 < B.length by omega) hB; omega
   ·have h0 : n = 0 := by omega
    subst h0;rw [zEX, zEX] at hnt;refine zAB rfl ?_;unfold cmpI;rw [if_neg (by omega), if_neg (by omega)]
end Go.PI.Tryz
namespace Go.PI.Tryz
open Go.Proofs Go.PI
theorem ok_nadd : FO 138 Tryz.f138 [.tmp 4] 62 := mkO Tryz.func138 Tryz.ntmps138 Tryz.results138
theorem c_nadd (xs ys : List Int) (hx : okN xs) (hy : okN ys) (hl : xs.length < 2147483647) (hl2 : ys.length < 2147483647) : Fn 138 [encN xs, encN ys] (.data (encN (lims (nv xs + nv ys)))) := by
 have ct1 := zBV xs hx (by omega);have ct2 := zBV ys hy (by omega);obtain ⟨A, eA⟩ : ∃ A, lims (nv xs) = A := ⟨_, rfl⟩;obtain ⟨B, eB⟩ : ∃ B, lims (nv ys) = B := ⟨_, rfl⟩;have ha : okN A := eA ▸ zAI _;have hb : okN B := eB ▸ zAI _;have ea : nv A = nv xs := by rw [← eA, zAJ]
 have eb : nv B = nv ys := by rw [← eB, zAJ]
 have h1 : A.length ≤ xs.length := eA ▸ zAM hx;have h2 : B.length ≤ ys.length := eB ▸ zAM hy;rw [eA] at ct1;rw [eB] at ct2;obtain ⟨N, eN⟩ : ∃ N, nv xs + nv ys = N := ⟨_, rfl⟩;rw [eN];have hN : nv A + nv B = N := by omega
 clear eA eB ea eb eN hx hy;refine zAO hmix hT ok_nadd (by simp) ?_;refine sts ?_;refine zAA ct1 rfl ?_;refine sts ?_;refine zAA ct2 rfl ?_
 (repeat' (first|refine stp ?_|with_reducible(refine brr ?_ ?_<;>intro h)));all_goals try(conv=>whnf)
 ·refine zAH hT (fun ((i, O, c) : Nat × List Int × Nat) => [(0, encN B), (1, encN A), (5, .own 0 0 (B.length + 1)), (6, .int .u64 c), (24, encN B), (25, .int .i64 B.length), (26, .int .i64 i)]) (fun (_, O, _) => [(0, ⟨O.map (.int .u32), 1, false⟩)]) [] 1
   (fun (i, O, c) => i ≤ B.length ∧ O.length = B.length + 1 ∧ okN O ∧ c < 2 ∧ nk O i + c * pw i = nk B i + nk A i) (fun (i, _, _) => B.length - i) (0, List.replicate (B.length + 1) 0, 0) ⟨by simp, by simp, zCC _, by simp, by simp [zBI]⟩ (by decide) (by simp) ?_ ?_
  ·exact ⟨[19], [], [], [], ttt, ⟨zAD rfl rfl, zAD rfl rfl, zAG (by decide) rfl (by simp), zAC rfl rfl, zAD rfl rfl, zAC rfl (by simp), zAC rfl rfl, trivial⟩, ⟨zAE (by decide) rfl (by simp [List.replicate_succ]) (zAW fun _ => ⟨rfl, by simp⟩) rfl, trivial⟩, by simp [ren]⟩
  ·intro ⟨i, O, c⟩ ⟨hi, hO, hok, hc, hv⟩
   have hBi : i < B.length → 0 ≤ B[i]! ∧ B[i]! < 4294967296 := fun h => zB5 hb h
   have hAi : i < A.length → 0 ≤ A[i]! ∧ A[i]! < 4294967296 := fun h => zB5 ha h
   (repeat' (first|refine stp ?_|with_reducible(refine brr ?_ ?_<;>intro h)));all_goals try(conv=>whnf)
   ·have h1 := zA2 (show i < B.length by omega) hb
    have h2 := zA2 (show i < A.length by omega) ha;obtain ⟨s, hs⟩ : ∃ s, c + lb B i + lb A i = s := ⟨_, rfl⟩;refine zBU ?_;refine sts ?_;refine zAU i (by omega) (by omega) ?_;refine sts ?_
    refine ⟨(i + 1, O.set i ((s % 4294967296 : Nat) : Int), s / 4294967296), ⟨⟨by omega, by simp [hO], zBH hok i (by omega), by omega, ?_⟩, by show B.length - (i + 1) < B.length - i; omega⟩, [0], [], [], [], ttt,
     ⟨zAD rfl rfl, zAD rfl rfl, zAG (by decide) rfl rfl, zAC rfl (by rw [zCB]; omega), zAD rfl rfl, zAC rfl rfl, zAC rfl (by omega), trivial⟩, ⟨zAE (by decide) rfl (zBB (by omega) (by omega)) (zAW fun _ => ⟨rfl, by simp⟩) rfl, trivial⟩, by simp [ren]⟩
    rw [zD6 _ (by omega), zAZ, zAZ, zAS];have := zCV (pw i) s;simp only [Int.toNat_natCast];rw [← hs] at this ⊢;simp only [Nat.mul_add] at this ⊢;simp only [Nat.mul_comm c (pw i)] at hv;omega
   ·have h1 := zA2 (show i < B.length by omega) hb
    have h2 := zE0 (show A.length ≤ i by omega);obtain ⟨s, hs⟩ : ∃ s, c + lb B i + lb A i = s := ⟨_, rfl⟩;refine zBU ?_;refine sts ?_;refine zAU i (by omega) (by omega) ?_;refine sts ?_
    refine ⟨(i + 1, O.set i ((s % 4294967296 : Nat) : Int), s / 4294967296), ⟨⟨by omega, by simp [hO], zBH hok i (by omega), by omega, ?_⟩, by show B.length - (i + 1) < B.length - i; omega⟩, [0], [], [], [], ttt,
     ⟨zAD rfl rfl, zAD rfl rfl, zAG (by decide) rfl rfl, zAC rfl (by rw [zCB]; omega), zAD rfl rfl, zAC rfl rfl, zAC rfl (by omega), trivial⟩, ⟨zAE (by decide) rfl (zBB (by omega) (by omega)) (zAW fun _ => ⟨rfl, by simp⟩) rfl, trivial⟩, by simp [ren]⟩
    rw [zD6 _ (by omega), zAZ, zAZ, zAS];have := zCV (pw i) s;simp only [Int.toNat_natCast];rw [← hs] at this ⊢;simp only [Nat.mul_add] at this ⊢;simp only [Nat.mul_comm c (pw i)] at hv;omega
   ·have hi' : i = B.length := by omega
    refine zAU i (by simp; omega) (by omega) ?_;refine sts ?_
    have hn : nv (O.set i (c : Int)) = N := by
     rw [← zBG (show (O.set i (c : Int)).length ≤ i + 1 by simp; omega), zD6 _ (by omega), Int.toNat_natCast, ← hN, Nat.add_comm (nv A), ← zBG (a := B) (k := i) (by omega), ← zBG (a := A) (k := i) (by omega), ← hv, Nat.mul_comm]
    have ct := zBV (O.set i (c : Int)) (zBH hok i (by omega)) (by simp; omega);rw [hn] at ct;refine zAA ct (zAV (zAN rfl (zBB (by simp; omega) rfl) (by simp; omega) (fun x => zBK x)) rfl) ?_;refine sts ?_;exact zAB rfl rfl
 ·refine zAH hT (fun ((i, O, c) : Nat × List Int × Nat) => [(0, encN A), (1, encN B), (5, .own 0 0 (A.length + 1)), (6, .int .u64 c), (24, encN A), (25, .int .i64 A.length), (26, .int .i64 i)]) (fun (_, O, _) => [(0, ⟨O.map (.int .u32), 1, false⟩)]) [] 1
   (fun (i, O, c) => i ≤ A.length ∧ O.length = A.length + 1 ∧ okN O ∧ c < 2 ∧ nk O i + c * pw i = nk A i + nk B i) (fun (i, _, _) => A.length - i) (0, List.replicate (A.length + 1) 0, 0) ⟨by simp, by simp, zCC _, by simp, by simp [zBI]⟩ (by decide) (by simp) ?_ ?_
  ·exact ⟨[15], [], [], [], ttt, ⟨zAD rfl rfl, zAD rfl rfl, zAG (by decide) rfl (by simp), zAC rfl rfl, zAD rfl rfl, zAC rfl (by simp), zAC rfl rfl, trivial⟩, ⟨zAE (by decide) rfl (by simp [List.replicate_succ]) (zAW fun _ => ⟨rfl, by simp⟩) rfl, trivial⟩, by simp [ren]⟩
  ·intro ⟨i, O, c⟩ ⟨hi, hO, hok, hc, hv⟩
   have hAi : i < A.length → 0 ≤ A[i]! ∧ A[i]! < 4294967296 := fun h => zB5 ha h
   have hBi : i < B.length → 0 ≤ B[i]! ∧ B[i]! < 4294967296 := fun h => zB5 hb h
   (repeat' (first|refine stp ?_|with_reducible(refine brr ?_ ?_<;>intro h)));all_goals try(conv=>whnf)
   ·have h1 := zA2 (show i < A.length by omega) ha
    have h2 := zA2 (show i < B.length by omega) hb;obtain ⟨s, hs⟩ : ∃ s, c + lb A i + lb B i = s := ⟨_, rfl⟩;refine zBU ?_;refine sts ?_;refine zAU i (by omega) (by omega) ?_;refine sts ?_
    refine ⟨(i + 1, O.set i ((s % 4294967296 : Nat) : Int), s / 4294967296), ⟨⟨by omega, by simp [hO], zBH hok i (by omega), by omega, ?_⟩, by show A.length - (i + 1) < A.length - i; omega⟩, [0], [], [], [], ttt,
     ⟨zAD rfl rfl, zAD rfl rfl, zAG (by decide) rfl rfl, zAC rfl (by rw [zCB]; omega), zAD rfl rfl, zAC rfl rfl, zAC rfl (by omega), trivial⟩, ⟨zAE (by decide) rfl (zBB (by omega) (by omega)) (zAW fun _ => ⟨rfl, by simp⟩) rfl, trivial⟩, by simp [ren]⟩
    rw [zD6 _ (by omega), zAZ, zAZ, zAS];have := zCV (pw i) s;simp only [Int.toNat_natCast];rw [← hs] at this ⊢;simp only [Nat.mul_add] at this ⊢;simp only [Nat.mul_comm c (pw i)] at hv;omega
   ·have h1 := zA2 (show i < A.length by omega) ha
    have h2 := zE0 (show B.length ≤ i by omega);obtain ⟨s, hs⟩ : ∃ s, c + lb A i + lb B i = s := ⟨_, rfl⟩;refine zBU ?_;refine sts ?_;refine zAU i (by omega) (by omega) ?_;refine sts ?_
    refine ⟨(i + 1, O.set i ((s % 4294967296 : Nat) : Int), s / 4294967296), ⟨⟨by omega, by simp [hO], zBH hok i (by omega), by omega, ?_⟩, by show A.length - (i + 1) < A.length - i; omega⟩, [0], [], [], [], ttt,
     ⟨zAD rfl rfl, zAD rfl rfl, zAG (by decide) rfl rfl, zAC rfl (by rw [zCB]; omega), zAD rfl rfl, zAC rfl rfl, zAC rfl (by omega), trivial⟩, ⟨zAE (by decide) rfl (zBB (by omega) (by omega)) (zAW fun _ => ⟨rfl, by simp⟩) rfl, trivial⟩, by simp [ren]⟩
    rw [zD6 _ (by omega), zAZ, zAZ, zAS];have := zCV (pw i) s;simp only [Int.toNat_natCast];rw [← hs] at this ⊢;simp only [Nat.mul_add] at this ⊢;simp only [Nat.mul_comm c (pw i)] at hv;omega
   ·have hi' : i = A.length := by omega
    refine zAU i (by simp; omega) (by omega) ?_;refine sts ?_
    have hn : nv (O.set i (c : Int)) = N := by
     rw [← zBG (show (O.set i (c : Int)).length ≤ i + 1 by simp; omega), zD6 _ (by omega), Int.toNat_natCast, ← hN, ← zBG (a := A) (k := i) (by omega), ← zBG (a := B) (k := i) (by omega), ← hv, Nat.mul_comm]
    have ct := zBV (O.set i (c : Int)) (zBH hok i (by omega)) (by simp; omega);rw [hn] at ct;refine zAA ct (zAV (zAN rfl (zBB (by simp; omega) rfl) (by simp; omega) (fun x => zBK x)) rfl) ?_;refine sts ?_;exact zAB rfl rfl
theorem ok_nsub : FO 139 Tryz.f139 [.tmp 4, .tmp 5] 54 := mkO Tryz.func139 Tryz.ntmps139 Tryz.results139
def subR (a b : Nat) : PV := if a < b then .tup [.imm [], .int .i64 2] else .tup [encN (lims (a - b)), .int .i64 0]
theorem c_nsub (xs ys : List Int) (hx : okN xs) (hy : okN ys) (hl : xs.length < 2147483647) (hl2 : ys.length < 2147483647) : Fn 139 [encN xs, encN ys] (.data (subR (nv xs) (nv ys))) := by
 have ct1 := zBV xs hx (by omega);have ct2 := zBV ys hy (by omega);obtain ⟨A, eA⟩ : ∃ A, lims (nv xs) = A := ⟨_, rfl⟩;obtain ⟨B, eB⟩ : ∃ B, lims (nv ys) = B := ⟨_, rfl⟩;have ha : okN A := eA ▸ zAI _;have hb : okN B := eB ▸ zAI _;have ca : canN A := eA ▸ zCZ _;have cb : canN B := eB ▸ zCZ _;have ea : nv A = nv xs := by rw [← eA, zAJ]
 have eb : nv B = nv ys := by rw [← eB, zAJ]
 have h1 : A.length ≤ xs.length := eA ▸ zAM hx;have h2 : B.length ≤ ys.length := eB ▸ zAM hy;have cc := zJW A B ha hb (by omega) (by omega);rw [eA] at ct1;rw [eB] at ct2;rw [← ea, ← eb];obtain ⟨c, hc⟩ : ∃ c, cmpI (nv A) (nv B) = c := ⟨_, rfl⟩
 have hcv : (c < 0 ↔ nv A < nv B) := by
  rw [← hc]; unfold cmpI
  split
  ·omega
  ·split <;> omega
 rw [hc] at cc;refine zAO hmix hT ok_nsub (by simp) ?_;refine sts ?_;refine zAA ct1 rfl ?_;refine sts ?_;refine zAA ct2 rfl ?_;refine sts ?_;refine zAA cc rfl ?_
 (repeat' (first|refine stp ?_|with_reducible(refine brr ?_ ?_<;>intro h)));all_goals try(conv=>whnf)
 ·refine zAB rfl ?_
  unfold subR;rw [if_pos (hcv.1 h)]
 ·have hle : nv B ≤ nv A := by have := mt hcv.2 h; omega
  have hlen : B.length ≤ A.length := Nat.le_of_not_lt fun hlt => by have := zF5 ca cb hlt; omega
  refine zAH hT (fun ((i, O, w) : Nat × List Int × Nat) => [(0, encN A), (1, encN B), (6, .own 0 0 A.length), (7, .int .u64 w), (22, encN A), (23, .int .i64 A.length), (24, .int .i64 i)]) (fun (_, O, _) => [(0, ⟨O.map (.int .u32), 1, false⟩)]) [] 1
   (fun (i, O, w) => i ≤ A.length ∧ O.length = A.length ∧ okN O ∧ w < 2 ∧ nk A i + w * pw i = nk O i + nk B i) (fun (i, _, _) => A.length - i) (0, List.replicate A.length 0, 0) ⟨by simp, by simp, zCC _, by simp, by simp [zBI]⟩ (by decide) (by simp) ?_ ?_
  ·exact ⟨[14], [], [], [], ttt, ⟨zAD rfl rfl, zAD rfl rfl, zAG (by decide) rfl (by simp), zAC rfl rfl, zAD rfl rfl, zAC rfl (by simp), zAC rfl rfl, trivial⟩, ⟨zAE (by decide) rfl (by simp) (zAW fun _ => ⟨rfl, by simp⟩) rfl, trivial⟩, by simp [ren]⟩
  ·intro ⟨i, O, w⟩ ⟨hi, hO, hok, hw, hv⟩
   have hAi : i < A.length → 0 ≤ A[i]! ∧ A[i]! < 4294967296 := fun h => zB5 ha h
   have hBi : i < B.length → 0 ≤ B[i]! ∧ B[i]! < 4294967296 := fun h => zB5 hb h
   (repeat' (first|refine stp ?_|with_reducible(refine brr ?_ ?_<;>intro h)));all_goals try(conv=>whnf)
   rotate_left
   ·have hi' : i = A.length := by omega
    have hA := zBG (a := A) (k := i) (by omega);have hB := zBG (a := B) (k := i) (by omega);have hOv := zBG (a := O) (k := i) (by omega);have hOl := zC6 hok;rw [hA, hB, hOv] at hv;rw [hO, ← hi'] at hOl
    have hw0 : w = 0 := by
     rcases (show w = 0 ∨ w = 1 by omega) with e | e
     ·exact e
     ·subst e; rw [Nat.one_mul] at hv; omega
    subst hw0;have hn : nv O = nv A - nv B := by omega
    have ct := zBV O hok (by omega);rw [hn] at ct;refine zAA ct (zAV (zAN rfl rfl (by omega) (fun x => zBK x)) rfl) ?_;refine sts ?_;refine zAB rfl ?_;unfold subR;rw [if_neg (by omega)]
   have h1 := zA2 (show i < A.length by omega) ha;have ha1 := hAi (by omega);refine zFF ?_
   (repeat' (first|refine stp ?_|with_reducible(refine brr ?_ ?_<;>intro h)));all_goals try(conv=>whnf)
   ·have h2 := zA2 (show i < B.length by omega) hb
    have hb1 := hBi (by omega);refine zFF ?_;refine sts ?_;refine zBU ?_;refine sts ?_;obtain ⟨X, hX⟩ : ∃ X : Int, ((A[i]! - ↑w) % 18446744073709551616 - B[i]!) % 18446744073709551616 = X := ⟨_, rfl⟩;refine zAU i (by omega) (by omega) ?_;refine sts ?_;obtain ⟨o, w', ho, hw', hs, hw2⟩ : ∃ o w' : Nat, (o : Int) = X % 4294967296 ∧ (w' : Int) = X / 9223372036854775808 ∧ lb A i + 4294967296 * w' = o + w + lb B i ∧ w' < 2 := ⟨(X % 4294967296).toNat, (X / 9223372036854775808).toNat, by omega, by omega, by omega, by omega⟩;have hX' : ((A[i]! - ↑w) % 18446744073709551616 - B[i]!) % 18446744073709551616 = X := hX
    refine ⟨(i + 1, O.set i (o : Int), w'), ⟨⟨by omega, by simp [hO], zBH hok i (by omega), hw2, ?_⟩, by show A.length - (i + 1) < A.length - i; omega⟩, [0], [], [], [], ttt,
     ⟨zAD rfl rfl, zAD rfl rfl, zAG (by decide) rfl rfl, zAC rfl (by rw [zJF, hX]; omega), zAD rfl rfl, zAC rfl rfl, zAC rfl (by omega), trivial⟩, ⟨zAE (by decide) rfl (zBB (by omega) (by omega)) (zAW fun _ => ⟨rfl, by simp⟩) rfl, trivial⟩, by simp [ren]⟩
    rw [zD6 _ (by omega), zAZ, zAZ, zAS, Int.toNat_natCast];have hp := congrArg (fun t => pw i * t) hs;simp only [Nat.mul_add] at hp;rw [Nat.mul_left_comm (pw i)] at hp;rw [Nat.mul_left_comm w', Nat.mul_comm w' (pw i)];rw [Nat.mul_comm w (pw i)] at hv;omega
   ·have h2 := zE0 (show B.length ≤ i by omega)
    refine zBU ?_;refine sts ?_;obtain ⟨X, hX⟩ : ∃ X : Int, (A[i]! - ↑w) % 18446744073709551616 = X := ⟨_, rfl⟩;refine zAU i (by omega) (by omega) ?_;refine sts ?_;obtain ⟨o, w', ho, hw', hs, hw2⟩ : ∃ o w' : Nat, (o : Int) = X % 4294967296 ∧ (w' : Int) = X / 9223372036854775808 ∧ lb A i + 4294967296 * w' = o + w + lb B i ∧ w' < 2 := ⟨(X % 4294967296).toNat, (X / 9223372036854775808).toNat, by omega, by omega, by omega, by omega⟩;have hX' : (A[i]! - ↑w) % 18446744073709551616 = X := hX
    refine ⟨(i + 1, O.set i (o : Int), w'), ⟨⟨by omega, by simp [hO], zBH hok i (by omega), hw2, ?_⟩, by show A.length - (i + 1) < A.length - i; omega⟩, [0], [], [], [], ttt,
     ⟨zAD rfl rfl, zAD rfl rfl, zAG (by decide) rfl rfl, zAC rfl (by rw [zJF, hX]; omega), zAD rfl rfl, zAC rfl rfl, zAC rfl (by omega), trivial⟩, ⟨zAE (by decide) rfl (zBB (by omega) (by omega)) (zAW fun _ => ⟨rfl, by simp⟩) rfl, trivial⟩, by simp [ren]⟩
    rw [zD6 _ (by omega), zAZ, zAZ, zAS, Int.toNat_natCast];have hp := congrArg (fun t => pw i * t) hs;simp only [Nat.mul_add] at hp;rw [Nat.mul_left_comm (pw i)] at hp;rw [Nat.mul_left_comm w', Nat.mul_comm w' (pw i)];rw [Nat.mul_comm w (pw i)] at hv;omega
end Go.PI.Tryz
namespace Go.PI.Tryz
open Go.Proofs Go.PI
theorem ok_nmul : FO 123 Tryz.f123 [.tmp 4] 79 := mkO Tryz.func123 Tryz.ntmps123 Tryz.results123
theorem c_nmul (xs ys : List Int) (hx : okN xs) (hy : okN ys) (hl : xs.length < 1073741824) (hl2 : ys.length < 1073741824) : Fn 123 [encN xs, encN ys] (.data (encN (lims (nv xs * nv ys)))) := by
 have ct1 := zBV xs hx (by omega);have ct2 := zBV ys hy (by omega);obtain ⟨A, eA⟩ : ∃ A, lims (nv xs) = A := ⟨_, rfl⟩;obtain ⟨B, eB⟩ : ∃ B, lims (nv ys) = B := ⟨_, rfl⟩;have ha : okN A := eA ▸ zAI _;have hb : okN B := eB ▸ zAI _;have ea : nv A = nv xs := by rw [← eA, zAJ]
 have eb : nv B = nv ys := by rw [← eB, zAJ]
 have h1 : A.length ≤ xs.length := eA ▸ zAM hx;have h2 : B.length ≤ ys.length := eB ▸ zAM hy;rw [eA] at ct1;rw [eB] at ct2;rw [← ea, ← eb];clear eA eB ea eb hx hy;refine zAO hmix hT ok_nmul (by simp) ?_;refine sts ?_;refine zAA ct1 rfl ?_;refine sts ?_;refine zAA ct2 rfl ?_
 (repeat' (first|refine stp ?_|with_reducible(refine brr ?_ ?_<;>intro h)));all_goals try(conv=>whnf)
 ·have : A = [] := List.length_eq_zero_iff.1 (by omega)
  subst this;exact zAB rfl (by simp [nv, zCD])
 ·have : B = [] := List.length_eq_zero_iff.1 (by omega)
  subst this;exact zAB rfl (by simp [nv, zCD])
 ·refine zAH hT (fun ((i, O) : Nat × List Int) => [(1, encN B), (5, .own 0 0 (A.length + B.length)), (29, encN A), (30, .int .i64 A.length), (31, .int .i64 i)]) (fun (_, O) => [(0, ⟨O.map (.int .u32), 1, false⟩)]) [] 1
   (fun (i, O) => i ≤ A.length ∧ O.length = A.length + B.length ∧ okN O ∧ nv O = nk A i * nv B ∧ ∀ j, i + B.length ≤ j → lb O j = 0) (fun (i, _) => A.length - i) (0, List.replicate (A.length + B.length) 0) ⟨by simp, by simp, zCC _, by simp [zF4, zBI], fun j _ => zIA _ j⟩ (by decide) (by simp) ?_ ?_
  ·exact ⟨[20], [], [], [], ttt, ⟨zAD rfl rfl, zAG (by decide) rfl (by simp only [List.length_map]; omega), zAD rfl rfl, zAC rfl (by simp), zAC rfl rfl, trivial⟩, ⟨zAE (by decide) rfl (zFY (f := PV.int .u32) (x := 0) (by simp only [List.length_map]; omega)) (zAW fun _ => ⟨rfl, by simp⟩) rfl, trivial⟩, by simp [ren]⟩
  ·intro ⟨i, O⟩ ⟨hi, hO, hok, hv, hz⟩
   have hAi : i < A.length → 0 ≤ A[i]! ∧ A[i]! < 4294967296 := fun h => zB5 ha h
   (repeat' (first|refine stp ?_|with_reducible(refine brr ?_ ?_<;>intro h)));all_goals try(conv=>whnf)
   ·have h1 := zA2 (show i < A.length by omega) ha
    have ha1 := hAi (by omega)
    refine zAH hT (fun ((k, P, c) : Nat × List Int × Nat) => [(1, encN B), (5, .own 0 0 (A.length + B.length)), (6, .int .i64 i), (7, .int .u32 A[i]!), (8, .int .u64 c), (29, encN A), (30, .int .i64 A.length), (31, .int .i64 i), (36, encN B), (37, .int .i64 B.length), (38, .int .i64 k)]) (fun (_, P, _) => [(0, ⟨P.map (.int .u32), 1, false⟩)]) [] 1
     (fun (k, P, c) => k ≤ B.length ∧ P.length = A.length + B.length ∧ okN P ∧ c < 4294967296 ∧ nv P + c * pw (i + k) = nv O + pw i * (lb A i * nk B k) ∧ ∀ j, i + B.length ≤ j → lb P j = 0) (fun (k, _, _) => B.length - k) (0, O, 0) ⟨by simp, hO, hok, by simp, by simp [zBI], hz⟩ (by decide) (by simp) ?_ ?_
    ·exact ⟨[0], [], [], [], ttt, ⟨zAD rfl rfl, zAG (by decide) rfl rfl, zAC rfl rfl, zAC rfl rfl, zAC rfl rfl, zAD rfl rfl, zAC rfl rfl, zAC rfl rfl, zAD rfl rfl, zAC rfl (by simp), zAC rfl rfl, trivial⟩, ⟨zAE (by decide) rfl rfl (zAW fun _ => ⟨rfl, by simp⟩) rfl, trivial⟩, by simp [ren]⟩
    ·intro ⟨k, P, c⟩ ⟨hk, hP, hokP, hc, hvP, hzP⟩
     have hBk : k < B.length → 0 ≤ B[k]! ∧ B[k]! < 4294967296 := fun h => zB5 hb h
     have hPk : k < B.length → 0 ≤ P[i + k]! ∧ P[i + k]! < 4294967296 := fun h => zB5 hokP (by omega)
     have hpr : k < B.length → 0 ≤ A[i]! * B[k]! ∧ A[i]! * B[k]! ≤ 18446744065119617025 := fun h => prod_le ha1 (hBk h)
     (repeat' (first|refine stp ?_|with_reducible(refine brr ?_ ?_<;>intro h)));all_goals try(conv=>whnf)
     ·refine zAU (i + k) (by omega) (by omega) ?_
      have hB1 := hBk (by omega);have hP1 := hPk (by omega);have hp1 := hpr (by omega);have h2 := zA2 (show k < B.length by omega) hb;have h3 := zA2 (show i + k < P.length by omega) hokP;obtain ⟨s, hs⟩ : ∃ s, c + (lb A i * lb B k + lb P (i + k)) = s := ⟨_, rfl⟩
      have hsI : (s : Int) = ↑c + (A[i]! * B[k]! + P[i + k]!) := by
       rw [← hs]; simp only [Int.natCast_add, Int.natCast_mul, h1, h2, h3]
      refine sts ?_;refine zBU ?_;refine sts ?_;refine zAU (i + k) (by omega) (by omega) ?_;refine sts ?_
      refine ⟨(k + 1, P.set (i + k) ((s % 4294967296 : Nat) : Int), s / 4294967296), ⟨⟨by omega, by simp [hP], zBH hokP _ (by omega), by omega, ?_, fun j hj => ?_⟩, by show B.length - (k + 1) < B.length - k; omega⟩, [0], [], [], [], ttt,
       ⟨zAD rfl rfl, zAG (by decide) rfl rfl, zAC rfl rfl, zAC rfl rfl, zAC rfl (by rw [zCB, ← hsI]; omega), zAD rfl rfl, zAC rfl rfl, zAC rfl rfl, zAD rfl rfl, zAC rfl rfl, zAC rfl (by omega), trivial⟩, ⟨zAE (by decide) rfl (zBB (by omega) (by rw [← hsI]; omega)) (zAW fun _ => ⟨rfl, by simp⟩) rfl, trivial⟩, by simp [ren]⟩
      ·have e1 := zHP (a := P) (j := i + k) ((s % 4294967296 : Nat) : Int) (by omega)
       have e2 := zCV (pw (i + k)) s;rw [Int.toNat_natCast] at e1;rw [zAZ, show i + (k + 1) = i + k + 1 by omega, zAS];rw [← hs] at e1 e2 ⊢;simp only [Nat.mul_add, zKL] at e1 e2 hvP ⊢;simp only [Nat.mul_comm, Nat.mul_left_comm, Nat.mul_assoc] at e1 e2 hvP ⊢;omega
      ·rw [zGA (by omega)]; exact hzP j hj
     ·have hk' : k = B.length := by omega
      refine zAU (i + B.length) (by simp only [List.length_map]; omega) (by omega) ?_;refine sts ?_
      refine ⟨(i + 1, P.set (i + B.length) (c : Int)), ⟨⟨by omega, by simp [hP], zBH hokP _ (by omega), ?_, fun j hj => ?_⟩, by show A.length - (i + 1) < A.length - i; omega⟩, [0], [], [], [], ttt,
       ⟨zAD rfl rfl, zAG (by decide) rfl rfl, zAD rfl rfl, zAC rfl rfl, zAC rfl (by omega), trivial⟩, ⟨zAE (by decide) rfl (zBB (by simp only [List.length_map]; omega) rfl) (zAW fun _ => ⟨rfl, by simp⟩) rfl, trivial⟩, by simp [ren]⟩
      ·have e1 := zHP (a := P) (j := i + B.length) (c : Int) (by omega)
       rw [hzP _ (Nat.le_refl _), Int.toNat_natCast] at e1;rw [hk', zBG (a := B) (Nat.le_refl _)] at hvP;rw [zAZ, Nat.add_mul, ← hv, Nat.mul_assoc, ← hvP, Nat.mul_comm c];omega
      ·rw [zGA (by omega)]; exact hzP j (by omega)
   ·have hi' : i = A.length := by omega
    rw [hi', zBG (a := A) (Nat.le_refl _)] at hv;have ct := zBV O hok (by omega);rw [hv] at ct;refine zAA ct (zAV (zAN rfl rfl (by omega) (fun x => zBK x)) rfl) ?_;refine sts ?_;exact zAB rfl rfl
end Go.PI.Tryz
namespace Go.PI.Tryz
open Go.Proofs Go.PI
theorem ok_len32 : FO 137 Tryz.f137 [.tmp 2] 19 := mkO Tryz.func137 Tryz.ntmps137 Tryz.results137
set_option maxRecDepth 100000 in
theorem c_len32 (n : Nat) (h : n < 4294967296) : Fn 137 [.int .u32 n] (.data (.int .i64 (bl n))) := by
 refine zAO hmix hT ok_len32 (by simp) ?_;have e16 : (n : Int).fdiv (shl2 .u32 16) = ((n / 65536 : Nat) : Int) := by rw [zGG (j := 16) rfl]; omega
 have e8 : (n : Int).fdiv (shl2 .u32 8) = ((n / 256 : Nat) : Int) := by rw [zGG (j := 8) rfl]; omega
 have e24 : ((n / 65536 : Nat) : Int).fdiv (shl2 .u32 8) = ((n / 65536 / 256 : Nat) : Int) := by rw [zGG (j := 8) rfl]; omega
 (repeat' (first|refine stp ?_|with_reducible(refine brr ?_ ?_<;>intro h)));all_goals try(conv=>whnf)
 ·rw [e16] at *
  rw [e24] at *
  have hb := (zBR 8 (n / 65536 / 256) (by omega) (by omega)).2.2;refine ov_m8 ?_;refine sts ?_;refine oK_tab (by kernel_rfl) (n := n / 65536 / 256) (by omega) (by omega) (fun b hbt => ?_);refine sts ?_;refine zAB rfl ?_;rw [bl_65536 (by omega) (by omega), bl_256 (by omega) (by omega), hbt]
  congr 1; omega
 ·rw [e16] at *
  have hb := (zBR 8 (n / 65536) (by omega) (by omega)).2.2;refine ov_m8 ?_;refine sts ?_;refine oK_tab (by kernel_rfl) (n := n / 65536) (by omega) (by omega) (fun b hbt => ?_);refine sts ?_;refine zAB rfl ?_;rw [bl_65536 (by omega) (by omega), hbt]
  congr 1; omega
 ·rw [e8] at *
  have hb := (zBR 8 (n / 256) (by omega) (by omega)).2.2;refine ov_m8 ?_;refine sts ?_;refine oK_tab (by kernel_rfl) (n := n / 256) (by omega) (by omega) (fun b hbt => ?_);refine sts ?_;refine zAB rfl ?_;rw [bl_256 (by omega) (by omega), hbt]
  congr 1; omega
 ·have hb := (zBR 8 n (by omega) (by omega)).2.2
  refine ov_m8 ?_;refine sts ?_;refine oK_tab (by kernel_rfl) (n := n) (by omega) (by omega) (fun b hbt => ?_);refine sts ?_;refine zAB rfl ?_;rw [hbt]
  congr 1; omega
theorem ok_short : FO 146 Tryz.f146 [.tmp 4, .tmp 5] 43 := mkO Tryz.func146 Tryz.ntmps146 Tryz.results146
theorem c_short (xs : List Int) (d : Nat) (hx : okN xs) (hl : xs.length < 2147483647) (hd : 0 < d ∧ d < 4294967296) : Fn 146 [encN xs, .int .u32 d] (.data (.tup [encN (lims (nv xs / d)), encN (lims (nv xs % d))])) := by
 refine zAO hmix hT ok_short (by simp) ?_;refine sts ?_
 refine zAH hT (fun ((n, O, r) : Nat × List Int × Nat) => [(0, encN xs), (1, .int .u32 d), (6, .own 0 0 xs.length), (7, .int .u64 r), (8, .int .i64 ((n : Int) - 1))]) (fun (_, O, _) => [(0, ⟨O.map (.int .u32), 1, false⟩)]) [] 1
  (fun (n, O, r) => n ≤ xs.length ∧ O.length = xs.length ∧ okN O ∧ r < d ∧ nt xs n = nt O n * d + r) (fun (n, _, _) => n) (xs.length, List.replicate xs.length 0, 0) ⟨by simp, by simp, zCC _, hd.1, by rw [zC7 (Nat.le_refl _), zC7 (by simp)]; simp⟩ (by decide) (by simp) ?_ ?_
 ·exact ⟨[4], [], [], [], ttt, ⟨zAD rfl rfl, zAC rfl rfl, zAG (by decide) rfl (by simp only [List.length_map]; omega), zAC rfl rfl, zAC rfl (by simp), trivial⟩, ⟨zAE (by decide) rfl (zFY (f := PV.int .u32) (x := 0) (by simp only [List.length_map]; omega)) (zAW fun _ => ⟨rfl, by simp⟩) rfl, trivial⟩, by simp [ren]⟩
 ·intro ⟨n, O, r⟩ ⟨hn, hO, hok, hr, hv⟩
  have hXi : 0 < n → 0 ≤ xs[n - 1]! ∧ xs[n - 1]! < 4294967296 := fun h => zB5 hx (by omega)
  (repeat' (first|refine stp ?_|with_reducible(refine brr ?_ ?_<;>intro h)));all_goals try(conv=>whnf)
  ·have hx1 := hXi (by omega)
   have h1 := zA2 (show n - 1 < xs.length by omega) hx;refine zCS (by rw [zEF]; omega) ?_;refine sts ?_;refine zA0 (j := n - 1) (by omega) (by omega) ?_;refine sts ?_;obtain ⟨t, ht⟩ : ∃ t : Nat, (t : Int) = bitF .or .u64 (↑r * shl2 .u64 32) xs[n - 1]! := ⟨r * 4294967296 + lb xs (n - 1), by rw [or_limb (by omega) hx1]; omega⟩;have ht2 : t = r * 4294967296 + lb xs (n - 1) := by rw [or_limb (by omega) hx1] at ht; omega
   have hdiv : (t : Int).tdiv d = ((t / d : Nat) : Int) := by rw [Int.tdiv_eq_ediv_of_nonneg (by omega)]; rfl
   have hmod : (t : Int).tmod d = ((t % d : Nat) : Int) := by rw [Int.tmod_eq_emod_of_nonneg (by omega)]; rfl
   have hq : t / d < 4294967296 := Nat.div_lt_of_lt_mul (by
    have : d * 4294967296 = d * 4294967296 := rfl;have h2 : (r + 1) * 4294967296 ≤ d * 4294967296 := Nat.mul_le_mul_right _ (by omega);have := zBY hx (n - 1);rw [Nat.add_mul] at h2
    omega)
   have hqm := Nat.div_add_mod t d;have hml := Nat.mod_lt t hd.1;obtain ⟨q, eq⟩ : ∃ q, t / d = q := ⟨_, rfl⟩;obtain ⟨m, em⟩ : ∃ m, t % d = m := ⟨_, rfl⟩;rw [eq] at hdiv hq hqm;rw [em] at hmod hqm hml;rw [← ht];refine sts ?_;rw [hdiv];refine zAU (n - 1) (by omega) (by omega) ?_;refine sts ?_
   refine ⟨(n - 1, O.set (n - 1) (q : Int), m), ⟨⟨by omega, by simp [hO], zBH hok _ (by omega), hml, ?_⟩, by show n - 1 < n; omega⟩, [0], [], [], [], ttt,
    ⟨zAD rfl rfl, zAC rfl rfl, zAG (by decide) rfl rfl, zAC rfl hmod, zAC rfl (by omega), trivial⟩, ⟨zAE (by decide) rfl (zBB (by omega) rfl) (zAW fun _ => ⟨rfl, by simp⟩) rfl, trivial⟩, by simp [ren]⟩
   have h0 : n - 1 + 1 = n := by omega
   have e1 := zB6 hx (n - 1);have e2 := zB6 (zBH hok (n - 1) (x := (q : Int)) (by omega)) (n - 1);have e3 : nt (O.set (n - 1) (q : Int)) (n - 1 + 1) = nt O (n - 1 + 1) := by unfold nt; rw [List.drop_set_of_lt (by omega)]
   have e4 : lb (O.set (n - 1) (q : Int)) (n - 1) = q := by simp [lb, List.getD, show n - 1 < O.length by omega]
   rw [e1, e2, e3, e4, h0, hv];simp only [Nat.mul_add, Nat.add_mul, Nat.mul_assoc];rw [Nat.mul_comm q d];omega
  ·have h0 : n = 0 := by omega
   subst h0;rw [zEX, zEX] at hv;have hq : nv O = nv xs / d := by rw [hv, Nat.add_comm, Nat.add_mul_div_right _ _ hd.1, Nat.div_eq_of_lt hr]; omega
   have hr' : r = nv xs % d := by rw [hv, Nat.add_comm, Nat.add_mul_mod_self_right, Nat.mod_eq_of_lt hr]
   have ct := zBV O hok (by omega);rw [hq] at ct;refine zAA ct (zAV (zAN rfl rfl (by omega) (fun x => zBK x)) rfl) ?_;refine sts ?_;refine zAA (c_nof r (by omega)) rfl ?_;refine sts ?_;rw [← hr'];exact zAB rfl rfl
theorem ok_nbits : FO 120 Tryz.f120 [.tmp 2] 20 := mkO Tryz.func120 Tryz.ntmps120 Tryz.results120
def bitsV (n : Nat) : Int := if n = 0 then 0 else 32 * ((lims n).length - 1 : Nat) + bl (lb (lims n) ((lims n).length - 1))
theorem zK0 (n : Nat) : bitsV n = 0 ↔ n = 0 := by
 unfold bitsV
 split
 ·simp [*]
 ·rename_i h
  have hc := zCZ n;have hne : lims n ≠ [] := fun e => h (zB0 e)
  have hl : 0 < (lims n).length := List.length_pos_iff.2 hne
  have hlast : lb (lims n) ((lims n).length - 1) ≠ 0 := by
   have h1 := hc.2.resolve_left hne;rw [List.getLast?_eq_getElem?, List.getElem?_eq_getElem (by omega)] at h1;have h2 := hc.1 _ (List.getElem_mem (show (lims n).length - 1 < (lims n).length by omega));have h3 : lb (lims n) ((lims n).length - 1) = ((lims n)[(lims n).length - 1]).toNat := by simp [lb, List.getD, show (lims n).length - 1 < (lims n).length by omega]
   intro e;rw [h3] at e;exact h1 (by congr 1; omega)
  have hb := (zBR 32 _ (by have := zBY hc.1 ((lims n).length - 1); omega) (by omega)).1;have : bl (lb (lims n) ((lims n).length - 1)) ≠ 0 := fun e => by rw [e] at hb; omega
  constructor
  ·intro e; omega
  ·intro e; exact absurd e h
theorem c_nbits (xs : List Int) (hx : okN xs) (hl : xs.length < 2147483647) : Fn 120 [encN xs] (.data (.int .i64 (bitsV (nv xs)))) := by
 have h2 := zAM hx;have hok := zAI (nv xs);refine zAO hmix hT ok_nbits (by simp) ?_;refine sts ?_;refine zAA (zBV xs hx (by omega)) rfl ?_
 (repeat' (first|refine stp ?_|with_reducible(refine brr ?_ ?_<;>intro h)));all_goals try(conv=>whnf)
 ·refine zAB rfl ?_
  have : lims (nv xs) = [] := List.length_eq_zero_iff.1 (by omega);have := zB0 this;unfold bitsV;rw [if_pos this]
 ·refine zA0 (j := (lims (nv xs)).length - 1) (by simp only [List.length_map]; omega) (by omega) ?_
  refine sts ?_;have hg := zA2 (show (lims (nv xs)).length - 1 < (lims (nv xs)).length by omega) hok;have hb := (zBR 32 (lb (lims (nv xs)) ((lims (nv xs)).length - 1)) (by have := zBY hok ((lims (nv xs)).length - 1); omega) (by omega)).2.2;rw [← hg];refine zAA (c_len32 _ (zBY hok _)) rfl ?_;refine sts ?_;refine zAB rfl ?_
  have hne : nv xs ≠ 0 := fun e => by
   have : (lims (nv xs)).length = 0 := by rw [e]; rfl
   omega
  unfold bitsV;rw [if_neg hne]
  congr 1
  simp only [List.length_map];omega
theorem ok_nuint : FO 145 Tryz.f145 [.tmp 2, .tmp 3] 28 := mkO Tryz.func145 Tryz.ntmps145 Tryz.results145
theorem c_nuint (xs : List Int) (hx : okN xs) (hl : xs.length < 2147483647) : Fn 145 [encN xs] (.data (if nv xs < 18446744073709551616 then .tup [.int .u64 (nv xs), .bool true] else .tup [.int .u64 0, .bool false])) := by
 have h2 := zAM hx;have ct := zBV xs hx (by omega)
 have hbig : 2 < (lims (nv xs)).length ↔ ¬ nv xs < 18446744073709551616 := by
  constructor
  ·intro h hlt
   have := zA4 (n := nv xs) (k := 2) hlt;omega
  ·intro h
   refine Nat.lt_of_not_le fun hle => h ?_
   have := zC6 (zAI (nv xs));rw [zAJ] at this;exact Nat.lt_of_lt_of_le this (zDP hle)
 have hv := zAJ (nv xs);have ha := zAI (nv xs);generalize nv xs = N at *
 generalize lims N = A at *
 refine zAO hmix hT ok_nuint (by simp) ?_;refine sts ?_;refine zAA ct rfl ?_
 (repeat' (first|refine stp ?_|with_reducible(refine brr ?_ ?_<;>intro h)));all_goals try(conv=>whnf)
 ·rw [if_neg (hbig.1 (by omega))]
  exact zAB rfl rfl
 ·have hN : N < 18446744073709551616 := by
   have := mt hbig.2 (by omega);omega
  rw [if_pos hN];refine zA9 hT (fun i : Nat => [(4, .int .u64 (nk A i)), (12, encN A), (13, .int .i64 A.length), (14, .int .i64 i)]) (fun i => i ≤ A.length) (fun i => A.length - i) 0 (Nat.zero_le _) ?_ ?_
  ·exact ⟨zAC rfl (by simp [zBI]), zAD rfl rfl, zAC rfl (by simp), zAC rfl rfl, trivial⟩
  ·intro i hi
   have hAi : i < A.length → 0 ≤ A[i]! ∧ A[i]! < 4294967296 := fun h => zB5 ha h
   have hk1 : nk A 1 = lb A 0 := by rw [zAZ, zBI, zBQ]; omega
   (repeat' (first|refine stp ?_|with_reducible(refine brr ?_ ?_<;>intro h)));all_goals try(conv=>whnf)
   ·have hA1 := hAi (by omega)
    have hg := zA2 (show i < A.length by omega) ha;rcases (show i = 0 ∨ i = 1 by omega) with e | e
    ·subst e
     have es : shl2 .u64 (32 * ((0 : Nat) : Int)) = 1 := by rw [zGS (by omega)]; rfl
     have eb : bitF .or .u64 ((nk A 0 : Nat) : Int) (A[0]! * 1) = ((nk A 1 : Nat) : Int) := by
      have := zHJ (a := lb A 0) (b := 0) (i := 0) (by decide) (by have := zBY ha 0; omega);rw [zBI, hk1, ← hg];have e2 : ((2 ^ 0 * lb A 0 : Nat) : Int) = (lb A 0 : Int) * 1 := by omega
      rw [e2] at this;rw [this]; omega
     rw [es];refine zCS ?_ ?_
     ·omega
     refine sts ?_;exact ⟨1, ⟨by omega, by omega⟩, zAC rfl eb, zAD rfl rfl, zAC rfl rfl, zAC rfl (by omega), trivial⟩
    ·subst e
     have es : (32 * ((1 : Nat) : Int)) = 32 := by omega
     have hk := zBY ha 0
     have eb : bitF .or .u64 ((nk A 1 : Nat) : Int) (A[1]! * shl2 .u64 32) = ((nk A 2 : Nat) : Int) := by
      have hk2 : nk A 2 = nk A 1 + 4294967296 * lb A 1 := by rw [zAZ A 1, zAS, zBQ]
      rw [or_limb' hA1 (by omega), hk2, ← hg]; omega
     rw [es];refine zCS ?_ ?_
     ·rw [zEF]; omega
     refine sts ?_;exact ⟨2, ⟨by omega, by omega⟩, zAC rfl eb, zAD rfl rfl, zAC rfl rfl, zAC rfl (by omega), trivial⟩
   ·refine zAB rfl ?_
    rw [zBG (show A.length ≤ i by omega), hv]
end Go.PI.Tryz
namespace Go.PI.Tryz
open Go.Proofs Go.PI
theorem ok_left : FO 148 Tryz.f148 [.tmp 4] 41 := mkO Tryz.func148 Tryz.ntmps148 Tryz.results148
theorem c_left (xs : List Int) (k : Nat) (hx : okN xs) (hl : xs.length < 2147483647) (hk : k < 32) : Fn 148 [encN xs, .int .i64 k] (.fresh ((limsN (xs.length + 1) (nv xs * 2 ^ k)).map (.int .u32)) 1 false) := by
 have hp1 : 1 ≤ 2 ^ k := Nat.pow_pos (by decide);have hp2 : 2 ^ k ≤ 2 ^ 31 := Nat.pow_le_pow_right (by decide) (by omega);have hsh : shl2 .u64 (k : Int) = ((2 ^ k : Nat) : Int) := by rw [zGS (by omega)]; simp
 refine fnC_vown hmix hT ok_left (by simp) ?_;refine sts ?_
 refine zAH hT (fun ((i, O, h) : Nat × List Int × Nat) => [(1, .int .i64 k), (5, .own 0 0 (xs.length + 1)), (13, encN xs), (14, .int .i64 xs.length), (15, .int .i64 i)]) (fun (_, O, _) => [(0, ⟨O.map (.int .u32), 1, false⟩)]) [] 1
  (fun (i, O, h) => i ≤ xs.length ∧ O.length = xs.length + 1 ∧ okN O ∧ nk O (i + 1) = nk xs i * 2 ^ k ∧ lb O i = h ∧ h < 2 ^ k) (fun (i, _, _) => xs.length - i) (0, List.replicate (xs.length + 1) 0, 0) ⟨by simp, by simp, zCC _, by rw [zBI, zAZ, zBI, zIA]; simp, zIA _ _, hp1⟩ (by decide) (by simp) ?_ ?_
 ·exact ⟨[4], [], [], [], ttt, ⟨zAC rfl rfl, zAG (by decide) rfl (by simp only [List.length_map]; omega), zAD rfl rfl, zAC rfl (by simp), zAC rfl rfl, trivial⟩, ⟨zAE (by decide) rfl (zFY (f := PV.int .u32) (x := 0) (by simp only [List.length_map]; omega)) (zAW fun _ => ⟨rfl, by simp⟩) rfl, trivial⟩, by simp [ren]⟩
 ·intro ⟨i, O, h⟩ ⟨hi, hO, hok, hv, hlb, hh⟩
  have hXi : i < xs.length → 0 ≤ xs[i]! ∧ xs[i]! < 4294967296 := fun h => zB5 hx h
  (repeat' (first|refine stp ?_|with_reducible(refine brr ?_ ?_<;>intro h)));all_goals try(conv=>whnf)
  ·have hx1 := hXi (by omega)
   have hg := zA2 (show i < xs.length by omega) hx;have hlt := zBY hx i;obtain ⟨p, ep⟩ : ∃ p, lb xs i * 2 ^ k = p := ⟨_, rfl⟩;have hpI : xs[i]! * shl2 .u64 (k : Int) = (p : Int) := by rw [hsh, ← hg, ← ep]; simp
   have hpb : p < 9223372036854775808 := by
    have : lb xs i * 2 ^ k ≤ 4294967295 * 2 ^ 31 := Nat.mul_le_mul (by omega) hp2;omega
   have hpd : p / 4294967296 < 2 ^ k := by
    refine Nat.div_lt_of_lt_mul ?_;have : (lb xs i + 1) * 2 ^ k ≤ 4294967296 * 2 ^ k := Nat.mul_le_mul_right _ (by omega);rw [Nat.add_mul] at this;omega
   obtain ⟨or1, or2⟩ := or_shl (X := lb xs i) hk hh;rw [ep] at or1 or2;rw [hpI];refine zCS ?_ ?_
   ·omega
   refine sts ?_;refine zAU i (by omega) (by omega) ?_;refine sts ?_;refine zBU ?_;refine sts ?_;refine zAU i (by omega) (by omega) ?_;refine sts ?_;have hOi : O[i]! = ((lb O i : Nat) : Int) := (zA2 (by omega) hok).symm;rw [← hlb] at or1 or2;have hor : bitF .or .u32 O[i]! ((p : Int) % 4294967296) = ((p % 4294967296 + lb O i : Nat) : Int) := by rw [hOi, ← or1]; rfl
   rw [zCB];refine zHO (n := (p : Int) / 4294967296) ?_ ?_
   ·omega
   refine sts ?_;refine oK_setN (i + 1) (by omega) (by omega) (by omega) ?_;refine sts ?_
   refine ⟨(i + 1, (O.set i ((p % 4294967296 + lb O i : Nat) : Int)).set (i + 1) ((p / 4294967296 : Nat) : Int), p / 4294967296), ⟨⟨by omega, by simp [hO], zBH (zBH hok _ (by omega)) _ (by omega), ?_, ?_, hpd⟩, by show xs.length - (i + 1) < xs.length - i; omega⟩, [0], [], [], [], ttt,
    ⟨zAC rfl rfl, zAG (by decide) rfl rfl, zAD rfl rfl, zAC rfl rfl, zAC rfl (by omega), trivial⟩, ⟨zAE (by decide) rfl (by rw [zBB (j := i) (by omega) hor]; exact zBB (by omega) (by omega)) (zAW fun _ => ⟨rfl, by simp⟩) rfl, trivial⟩, by simp [ren]⟩
   ·rw [zD6 _ (by simp; omega), zD6 _ (by omega), zAZ, zAS, Int.toNat_natCast, Int.toNat_natCast]
    rw [zAZ] at hv;have hc := zCV (pw i) p;rw [Nat.add_mul, ← hv, Nat.mul_assoc (pw i), ep, ← hc, Nat.mul_add, Nat.mul_comm (4294967296 * pw i)];omega
   ·simp [lb, List.getD, show i + 1 < O.length by omega]; omega
  ·have hi' : i = xs.length := by omega
   refine zHS rfl ?_ (by simp [zEZ]) rfl (frz_map (fun x => zBK x) _);rw [zBG (show O.length ≤ i + 1 by omega), zBG (show xs.length ≤ i by omega)] at hv;rw [← hv, ← hO, zH9 hok]
theorem ok_nshr : FO 151 Tryz.f151 [.tmp 4, .tmp 5] 64 := mkO Tryz.func151 Tryz.ntmps151 Tryz.results151
theorem c_nshr (xs : List Int) (k : Nat) (hx : okN xs) (hl : xs.length < 2147483647) (hk : k < 32) : Fn 151 [encN xs, .int .i64 k] (.data (.tup [encN (lims (nv xs / 2 ^ k)), .int .i64 0])) := by
 have ct := zBV xs hx (by omega);have h2 := zAM hx;have ha := zAI (nv xs);have hv0 := zAJ (nv xs);generalize nv xs = N at *
 have hnil : lims N = [] → N = 0 := zB0;generalize lims N = A at *
 have hq : (k : Int).tdiv 32 = 0 := by rw [Int.tdiv_eq_ediv_of_nonneg (by omega)]; omega
 have hm : (k : Int).tmod 32 = k := by rw [Int.tmod_eq_emod_of_nonneg (by omega)]; omega
 refine zAO hmix hT ok_nshr (by simp) ?_
 (repeat' (first|refine stp ?_|with_reducible(refine brr ?_ ?_<;>intro h)));all_goals try(conv=>whnf)
 ·omega
 refine zAA ct rfl ?_
 (repeat' (first|refine stp ?_|with_reducible(refine brr ?_ ?_<;>intro h)));all_goals try(conv=>whnf)
 ·have h0 : A = [] := List.length_eq_zero_iff.1 (by rw [hq] at h; omega)
  have := hnil h0;subst this;exact zAB rfl (by simp [zCD])
 ·refine zB9 (l' := A) (by rw [hq]; simp) ?_
  refine sts ?_
  refine zAH hT (fun ((i, O) : Nat × List Int) => [(0, encN A), (1, .int .i64 k), (6, .own 0 0 A.length), (30, encN A), (31, .int .i64 A.length), (32, .int .i64 i)]) (fun (_, O) => [(0, ⟨O.map (.int .u32), 1, false⟩)]) [] 1
   (fun (i, O) => i ≤ A.length ∧ O.length = A.length ∧ okN O ∧ nk O i + pw i * (nt A i / 2 ^ k) = N / 2 ^ k) (fun (i, _) => A.length - i) (0, List.replicate A.length 0) ⟨by simp, by simp, zCC _, by rw [zBI, zBQ, zEX, hv0]; omega⟩ (by decide) (by simp) ?_ ?_
  ·exact ⟨[23], [], [], [], ttt, ⟨zAD rfl rfl, zAC rfl rfl, zAG (by decide) rfl (by simp only [List.length_map]; omega), zAD rfl rfl, zAC rfl (by simp), zAC rfl rfl, trivial⟩, ⟨zAE (by decide) rfl (zFY (f := PV.int .u32) (x := 0) (by simp only [List.length_map]; omega)) (zAW fun _ => ⟨rfl, by simp⟩) rfl, trivial⟩, by simp [ren]⟩
  ·intro ⟨i, O⟩ ⟨hi, hO, hok, hv⟩
   have hAi : i < A.length → 0 ≤ A[i]! ∧ A[i]! < 4294967296 := fun h => zB5 ha h
   have hAi1 : i + 1 < A.length → 0 ≤ A[i + 1]! ∧ A[i + 1]! < 4294967296 := fun h => zB5 ha h
   have hst : nt A i / 2 ^ k = (lb A i + 4294967296 * lb A (i + 1)) / 2 ^ k % 4294967296 + 4294967296 * (nt A (i + 1) / 2 ^ k) := by
    rw [zB6 ha i, zB6 ha (i + 1)];exact shr_step hk _ _ _ (zBY ha i)
   obtain ⟨X, eX0⟩ : ∃ X, lb A i + 4294967296 * lb A (i + 1) = X := ⟨_, rfl⟩;rw [eX0] at hst
   have efd : ∀ Y : Int, Y = (X : Int) → Y.fdiv (shl2 .u64 (k : Int)) = ((X / 2 ^ k : Nat) : Int) := fun Y hY => by
    rw [hY, zGG (j := k) (by show min (k : Int).toNat 64 = k; omega)]
    simp
   (repeat' (first|refine stp ?_|with_reducible(refine brr ?_ ?_<;>intro h)));all_goals try(conv=>whnf)
   ·refine zA0 (j := i + 1) rfl (by omega) ?_
    have hA1 := hAi (by omega);have hA2 := hAi1 (by omega);have hg1 := zA2 (show i < A.length by omega) ha;have hg2 := zA2 (show i + 1 < A.length by omega) ha;refine sts ?_;refine zCS ?_ ?_
    ·rw [zEF]; omega
    refine sts ?_;have eX := efd (bitF .or .u64 A[i]! (A[i + 1]! * shl2 .u64 32)) (by rw [or_limb' hA2 hA1]; omega);rw [hm, eX];refine zBU ?_;refine sts ?_;refine zAU i (by omega) (by omega) ?_;refine sts ?_
    refine ⟨(i + 1, O.set i ((X / 2 ^ k % 4294967296 : Nat) : Int)), ⟨⟨by omega, by simp [hO], zBH hok _ (by omega), ?_⟩, by show A.length - (i + 1) < A.length - i; omega⟩, [0], [], [], [], ttt,
     ⟨zAD rfl rfl, zAC rfl rfl, zAG (by decide) rfl rfl, zAD rfl rfl, zAC rfl rfl, zAC rfl (by omega), trivial⟩, ⟨zAE (by decide) rfl (zBB (by omega) rfl) (zAW fun _ => ⟨rfl, by simp⟩) rfl, trivial⟩, by simp [ren]⟩
    rw [zD6 _ (by omega), zAS, Int.toNat_natCast, ← hv, hst, Nat.mul_add, Nat.mul_comm 4294967296 (pw i), Nat.mul_assoc];omega
   ·have hA1 := hAi (by omega)
    have hg1 := zA2 (show i < A.length by omega) ha;have hg2 := zE0 (show A.length ≤ i + 1 by omega);have eX := efd A[i]! (by omega);rw [hm, eX];refine zBU ?_;refine sts ?_;refine zAU i (by omega) (by omega) ?_;refine sts ?_
    refine ⟨(i + 1, O.set i ((X / 2 ^ k % 4294967296 : Nat) : Int)), ⟨⟨by omega, by simp [hO], zBH hok _ (by omega), ?_⟩, by show A.length - (i + 1) < A.length - i; omega⟩, [0], [], [], [], ttt,
     ⟨zAD rfl rfl, zAC rfl rfl, zAG (by decide) rfl rfl, zAD rfl rfl, zAC rfl rfl, zAC rfl (by omega), trivial⟩, ⟨zAE (by decide) rfl (zBB (by omega) rfl) (zAW fun _ => ⟨rfl, by simp⟩) rfl, trivial⟩, by simp [ren]⟩
    rw [zD6 _ (by omega), zAS, Int.toNat_natCast, ← hv, hst, Nat.mul_add, Nat.mul_comm 4294967296 (pw i), Nat.mul_assoc];omega
   ·have hi' : i = A.length := by omega
    rw [zC7 (show A.length ≤ i by omega), Nat.zero_div, Nat.mul_zero, Nat.add_zero, zBG (show O.length ≤ i by omega)] at hv;have ct2 := zBV O hok (by omega);rw [hv] at ct2;refine zAA ct2 (zAV (zAN rfl rfl (by omega) (fun x => zBK x)) rfl) ?_;refine sts ?_;exact zAB rfl rfl
end Go.PI.Tryz
namespace Go.PI.Tryz
open Go.Proofs Go.PI
abbrev rows2 (U O : List Int) : List (Nat × Blk) := [(0, ⟨U.map (.int .u32), 1, false⟩), (1, ⟨O.map (.int .u32), 1, false⟩)]
def partL (U : List Int) (i n : Nat) : List Int := (U.drop i).take (n + 1)
theorem zI1 {U : List Int} {i n : Nat} (h : i + n + 1 ≤ U.length) : (partL U i n).length = n + 1 := by simp [partL]; omega
theorem partL_ok {U : List Int} (h : okN U) (i n : Nat) : okN (partL U i n) := okN_take (okN_drop h i) _
theorem partL_get {U : List Int} {i n j : Nat} (ho : okN U) (h : i + n + 1 ≤ U.length) (hj : j ≤ n) : U[i + j]! = ((lb (partL U i n) j : Nat) : Int) := by
 have h1 := zA2 (a := partL U i n) (k := j) (by rw [zI1 h]; omega) (partL_ok ho i n);rw [h1, getElem!_pos (partL U i n) j (by rw [zI1 h]; omega), getElem!_pos U (i + j) (by omega)];simp [partL]
theorem ok_estimate : FO 150 Tryz.f150 [.tmp 4] 75 := mkO Tryz.func150 Tryz.ntmps150 Tryz.results150
theorem h_estimate (U O V : List Int) (i n m : Nat) (t : Tm) (K : PV → St → Prop) (hU : okN U) (hV : okN V) (hn : 2 ≤ n) (hVl : V.length = n) (hi : i + n + 1 ≤ U.length) (hUl : U.length < 2147483648) (htop : 2147483648 ≤ lb V (n - 1))
 (hlt : nv (partL U i n) < nv V * 4294967296)
 (hK : ∀ q t' nx', 2 ≤ nx' → nv (partL U i n) < (q + 1) * nv V → q * nv V ≤ nv (partL U i n) + nv V → q ≤ 4294967296 → K (.int .u64 (q : Nat)) ⟨t', hv (rows2 U O), zv [], nx'⟩) :
 FnH Tryz.prog G0 150 [.own 0 i (n + 1), encN V] K ⟨t, hv (rows2 U O), zv [], m + 2⟩ := by
 have hest := est_of (partL_ok hU i n) hV hn (zI1 hi) hVl htop hlt;have gU : ∀ j, j ≤ n → U[i + j]! = ((lb (partL U i n) j : Nat) : Int) := fun j hj => partL_get hU hi hj
 have lU := fun j => zBY (partL_ok hU i n) j
 generalize partL U i n = P at *
 have lV := fun j => zBY hV j
 have gV : ∀ j, j < n → V[j]! = ((lb V j : Nat) : Int) := fun j hj => (zA2 (by omega) hV).symm
 refine fnH_v hmix hT ok_estimate (by simp) ?_;have u1 := gU n (by omega);have u2 := gU (n - 1) (by omega);have u3 := gU (n - 2) (by omega);have w1 := gV (n - 1) (by omega);have w2 := gV (n - 2) (by omega);have b1 := lU n;have b2 := lU (n - 1);have b3 := lU (n - 2);have c1 := lV (n - 1);have c2 := lV (n - 2);generalize lb P n = U1 at *
 generalize lb P (n - 1) = U2 at *
 generalize lb P (n - 2) = U3 at *
 generalize lb V (n - 1) = V1 at *
 generalize lb V (n - 2) = V2 at *
 refine sts ?_;refine zAU (i + n) (by first | omega | (simp only [List.length_map]; omega)) (by omega) ?_;rw [u1];refine sts ?_;refine zCS ?_ ?_
 ·rw [zEF]; omega
 refine sts ?_;refine zAU (i + (n - 1)) (by first | omega | (simp only [List.length_map]; omega)) (by omega) ?_;rw [u2];refine sts ?_;obtain ⟨T, eT⟩ : ∃ T, U1 * 4294967296 + U2 = T := ⟨_, rfl⟩;have hT0 : bitF .or .u64 ((U1 : Int) * shl2 .u64 32) (U2 : Int) = (T : Int) := by rw [or_limb (by omega) (by omega)]; omega
 rw [hT0];rw [eT] at hest;refine sts ?_;refine zA0 (j := n - 1) (by first | omega | (simp only [List.length_map]; omega)) (by omega) ?_;rw [w1];refine sts ?_;have hdm := Nat.div_add_mod T V1;have hml := Nat.mod_lt T (show V1 > 0 by omega);have eq0 : (T : Int).tdiv (V1 : Int) = ((T / V1 : Nat) : Int) := (Int.ofNat_tdiv T V1).symm;have er0 : (T : Int).tmod (V1 : Int) = ((T % V1 : Nat) : Int) := (Int.ofNat_tmod T V1).symm;have hq0l : T / V1 ≤ T := Nat.div_le_self ..;rw [eq0];generalize T / V1 = q0 at *
 generalize T % V1 = r0 at *
 rw [Nat.mul_comm] at hdm;have hin := hest.init hdm.symm hml;refine zCS (by omega) ?_;refine sts ?_;refine zA0 (j := n - 1) (by first | omega | (simp only [List.length_map]; omega)) (by omega) ?_;rw [w1];refine sts ?_
 refine zEY hT (fun ((q, r) : Nat × Nat) => [(0, .own 0 i (n + 1)), (1, encN V), (5, .int .i64 n), (7, .int .u64 q), (8, .int .u64 r)]) (fun _ => rows2 U O) [] (m + 2)
  (fun (q, r) => T = q * V1 + r ∧ nv P < (q + 1) * nv V ∧ q ≤ 4294967297 ∧ r < 4294967296) (fun (q, _) => q) (q0, r0) ⟨hdm.symm, hin.1, hin.2, by omega⟩ (by omega) (by simp)
  [] ?_ ?_ ?_ ?_
 ·exact ⟨zAG (by omega) rfl rfl, zAD rfl rfl, zAC rfl (by rw [List.length_map, hVl]), zAC rfl rfl, zAC rfl er0, trivial⟩
 ·exact ⟨zAE (by omega) rfl rfl (zAW fun _ => ⟨rfl, by simp⟩) rfl, zAE (by omega) rfl rfl (zAW fun _ => ⟨rfl, by simp⟩) rfl, trivial⟩
 ·simp [ren]
 intro ⟨q, r⟩ ⟨i1, i2, i3, i4⟩
 have fin : ∀ q' r' t' nx', 2 ≤ nx' → T = q' * V1 + r' → nv P < (q' + 1) * nv V → q' ≤ 4294967296 → q' * V2 ≤ r' * 4294967296 + U3 → K (.int .u64 (q' : Nat)) ⟨t', hv (rows2 U O), zv [], nx'⟩ :=
  fun q' r' t' nx' h0 h1 h2 h3 h4 => hK q' t' nx' h0 h2 (hest.last h1 h3 h4) h3
 have dec : nv P < q * nv V → 1 ≤ q ∧ T = (q - 1) * V1 + (r + V1) ∧ nv P < (q - 1 + 1) * nv V := fun hd => by
  have h1 : 1 ≤ q := by
   rcases q with _ | q
   ·rw [Nat.zero_mul] at hd; omega
   ·omega
  have : q * V1 = (q - 1) * V1 + V1 := by rw [← Nat.succ_mul, show (q - 1).succ = q by omega]
  exact ⟨h1, by omega, by rw [show q - 1 + 1 = q by omega]; exact hd⟩
 (repeat' (first|refine stp ?_|with_reducible(refine brr ?_ ?_<;>intro h)));all_goals try(conv=>whnf)
 ·have hq := h
  obtain ⟨d1, d2, d3⟩ := dec (hest.step i1 (Or.inl (by omega)));refine zA0 (j := n - 1) (by first | omega | (simp only [List.length_map]; omega)) (by omega) ?_;rw [w1]
  (repeat' (first|refine stp ?_|with_reducible(refine brr ?_ ?_<;>intro h)));all_goals try(conv=>whnf)
  ·rw [show (q : Int) - 1 = ((q - 1 : Nat) : Int) by omega]
   exact fin (q - 1) (r + V1) _ _ (by omega) d2 d3 (by omega) (hest.great (by omega) (by omega))
  ·exact ⟨(q - 1, r + V1), [], ⟨⟨d2, d3, by omega, by omega⟩, by show q - 1 < q; omega⟩, ⟨zAG (by omega) rfl rfl, zAD rfl rfl, zAC rfl rfl, zAC rfl (by omega), zAC rfl (by omega), trivial⟩,
    ⟨zAE (by omega) rfl rfl (zAW fun _ => ⟨rfl, by simp⟩) rfl, zAE (by omega) rfl rfl (zAW fun _ => ⟨rfl, by simp⟩) rfl, trivial⟩, by simp [ren]⟩
 ·have hq := h
  refine zA0 (j := n - 2) (by first | omega | (simp only [List.length_map]; omega)) (by omega) ?_;rw [w2];have hqv : q * V2 < 18446744073709551616 := Nat.lt_of_lt_of_le (Nat.mul_lt_mul'' (show q < 4294967296 by omega) c2) (by decide);obtain ⟨X, eX⟩ : ∃ X, q * V2 = X := ⟨_, rfl⟩;have eqv : (q : Int) * (V2 : Int) = (X : Int) := by rw [← eX]; simp
  rw [eX] at hqv;refine sts ?_;refine zCS ?_ ?_
  ·rw [zEF]; omega
  refine sts ?_;refine zAU (i + (n - 2)) (by first | omega | (simp only [List.length_map]; omega)) (by omega) ?_;rw [u3];have hT1 : bitF .or .u64 ((r : Int) * shl2 .u64 32) (U3 : Int) = ((r * 4294967296 + U3 : Nat) : Int) := by rw [or_limb (by omega) (by omega)]; omega
  (repeat' (first|refine stp ?_|with_reducible(refine brr ?_ ?_<;>intro h)));all_goals try(conv=>whnf)
  ·rw [hT1, eqv] at h
   obtain ⟨d1, d2, d3⟩ := dec (hest.step i1 (Or.inr (by omega)));refine zCS (by omega) ?_;refine sts ?_;refine zA0 (j := n - 1) (by first | omega | (simp only [List.length_map]; omega)) (by omega) ?_;rw [w1]
   (repeat' (first|refine stp ?_|with_reducible(refine brr ?_ ?_<;>intro h)));all_goals try(conv=>whnf)
   ·rw [show (q : Int) - 1 = ((q - 1 : Nat) : Int) by omega]
    exact fin (q - 1) (r + V1) _ _ (by omega) d2 d3 (by omega) (hest.great (by omega) (by omega))
   ·exact ⟨(q - 1, r + V1), [], ⟨⟨d2, d3, by omega, by omega⟩, by show q - 1 < q; omega⟩, ⟨zAG (by omega) rfl rfl, zAD rfl rfl, zAC rfl rfl, zAC rfl (by omega), zAC rfl (by omega), trivial⟩,
     ⟨zAE (by omega) rfl rfl (zAW fun _ => ⟨rfl, by simp⟩) rfl, zAE (by omega) rfl rfl (zAW fun _ => ⟨rfl, by simp⟩) rfl, trivial⟩, by simp [ren]⟩
  ·rw [hT1, eqv] at h
   exact fin q r _ _ (by omega) i1 i2 (by omega) (by omega)
end Go.PI.Tryz
namespace Go.PI.Tryz
open Go.Proofs Go.PI
theorem drop_get {U U' : List Int} {k : Nat} (h : U'.drop k = U.drop k) : U'[k]! = U[k]! := by
 have h1 := congrArg (fun l => l[0]?) h;simp only [List.getElem?_drop, Nat.add_zero] at h1;simp only [List.getElem!_eq_getElem?_getD, h1]
theorem zGI {a b : List Int} {k : Nat} (h : a.drop k = b.drop k) : a.drop (k + 1) = b.drop (k + 1) := by
 have := congrArg (List.drop 1) h
 simpa [List.drop_drop] using this
structure Red (U V U' : List Int) (i q j c b : Nat) : Prop where
 len : U'.length = U.length
 ok : okN U'
 lo : U'.take i = U.take i
 hi : U'.drop (i + j) = U.drop (i + j)
 cl : c < 4294967296
 bl : b < 2
 eq : nv U' + q * (pw i * nk V j) = nv U + pw (i + j) * (c + b)
theorem Red.start {U V : List Int} {i q : Nat} (h : okN U) : Red U V U i q 0 0 0 := ⟨rfl, h, rfl, rfl, by omega, by omega, by rw [zBI]; omega⟩
theorem Red.step {U V U' : List Int} {i q j c b c' lo b' y : Nat} (h : Red U V U' i q j c b) (hq : q ≤ 4294967296) (hj : i + j < U.length) (hd : lb V j < 4294967296)
 (h1 : c + q * lb V j = c' * 4294967296 + lo) (h2 : lo < 4294967296) (h3 : y + lo + b = lb U' (i + j) + 4294967296 * b') (h4 : y < 4294967296) (h5 : b' < 2) : Red U V (U'.set (i + j) (y : Int)) i q (j + 1) c' b' := by
 obtain ⟨a1, a2, a3, a4, a5, a6, a7⟩ := h
 refine ⟨by simp [a1], zBH a2 _ (by omega), by rw [List.take_set_of_le (by omega)]; exact a3, by
  rw [List.drop_set_of_lt (by omega)]; exact zGI a4, ?_, h5, ?_⟩
 ·have : q * lb V j ≤ 4294967296 * lb V j := Nat.mul_le_mul_right _ hq
  omega
 ·have n1 := zHP (a := U') (y : Int) (show i + j < U'.length by omega)
  rw [Int.toNat_natCast] at n1;rw [zAZ, ← Nat.add_assoc, zAS, Nat.mul_add (pw i), ← Nat.mul_assoc (pw i), ← zKL, Nat.mul_add q, Nat.mul_left_comm q (pw (i + j))]
  have n2 : pw (i + j) * (c + b) + pw (i + j) * y + pw (i + j) * (q * lb V j) = pw (i + j) * lb U' (i + j) + 4294967296 * pw (i + j) * (c' + b') := by
   rw [← Nat.mul_add, ← Nat.mul_add, Nat.mul_comm 4294967296, Nat.mul_assoc, ← Nat.mul_add]
   congr 1
   omega
  omega
theorem Red.last {U V U' : List Int} {i q j c b : Nat} (h : Red U V U' i q j c b) (hj : i + j < U.length) (y : Nat) (hy : y < 4294967296) :
 (U'.set (i + j) (y : Int)).length = U.length ∧ okN (U'.set (i + j) (y : Int)) ∧ (U'.set (i + j) (y : Int)).take i = U.take i ∧ (U'.set (i + j) (y : Int)).drop (i + j + 1) = U.drop (i + j + 1) ∧
  nv (U'.set (i + j) (y : Int)) + q * (pw i * nk V j) + pw (i + j) * lb U' (i + j) = nv U + pw (i + j) * (c + b) + pw (i + j) * y := by
 obtain ⟨a1, a2, a3, a4, a5, a6, a7⟩ := h
 refine ⟨by simp [a1], zBH a2 _ (by omega), by rw [List.take_set_of_le (by omega)]; exact a3, by
  rw [List.drop_set_of_lt (by omega)]; exact zGI a4, ?_⟩
 have n1 := zHP (a := U') (y : Int) (show i + j < U'.length by omega);rw [Int.toNat_natCast] at n1;omega
structure Bak (U V U' : List Int) (i j c : Nat) : Prop where
 len : U'.length = U.length
 ok : okN U'
 lo : U'.take i = U.take i
 hi : U'.drop (i + j) = U.drop (i + j)
 cl : c < 2
 eq : nv U' + pw (i + j) * c = nv U + pw i * nk V j
theorem Bak.start {U V : List Int} {i : Nat} (h : okN U) : Bak U V U i 0 0 := ⟨rfl, h, rfl, rfl, by omega, by rw [zBI]; omega⟩
theorem Bak.step {U V U' : List Int} {i j c c' y : Nat} (h : Bak U V U' i j c) (hj : i + j < U.length) (hd : lb V j < 4294967296)
 (h1 : c + (lb U' (i + j) + lb V j) = c' * 4294967296 + y) (h2 : y < 4294967296) (hu : lb U' (i + j) < 4294967296) : Bak U V (U'.set (i + j) (y : Int)) i (j + 1) c' := by
 obtain ⟨a1, a2, a3, a4, a5, a7⟩ := h
 refine ⟨by simp [a1], zBH a2 _ (by omega), by rw [List.take_set_of_le (by omega)]; exact a3, by
  rw [List.drop_set_of_lt (by omega)]; exact zGI a4, by omega, ?_⟩
 have n1 := zHP (a := U') (y : Int) (show i + j < U'.length by omega);rw [Int.toNat_natCast] at n1;rw [zAZ, ← Nat.add_assoc, zAS, Nat.mul_add (pw i), ← Nat.mul_assoc (pw i), ← zKL]
 have n2 : pw (i + j) * c + pw (i + j) * lb U' (i + j) + pw (i + j) * lb V j = 4294967296 * pw (i + j) * c' + pw (i + j) * y := by
  rw [← Nat.mul_add, ← Nat.mul_add, Nat.mul_comm 4294967296, Nat.mul_assoc, ← Nat.mul_add]
  congr 1
  omega
 omega
theorem red_done {U U' : List Int} {i q W : Nat} (ht : U'.take i = U.take i) (h : nv U' + q * (pw i * W) = nv U) : nt U' i + q * W = nt U i := by
 have e1 := zBT U' i;have e2 := zBT U i;have e3 : nk U' i = nk U i := by unfold nk; rw [ht]
 have e4 : pw i * (nt U' i + q * W) = pw i * nt U i := by
  rw [Nat.mul_add, Nat.mul_left_comm];omega
 exact Nat.eq_of_mul_eq_mul_left (zHN i) e4
structure Out (U U' : List Int) (i n q W : Nat) : Prop where
 len : U'.length = U.length
 ok : okN U'
 eq : nv U' + q * (pw i * W) = nv U
 lt : nt U' i < W
theorem out_first {U V U1 : List Int} {i n q c b : Nat} (hV : okN V) (hVl : V.length = n) (h : Red U V U1 i q n c b) (hn : i + n < U.length) (hq : nt U i < (q + 1) * nv V) (hc : c + b ≤ lb U1 (i + n)) :
 Out U (U1.set (i + n) ((lb U1 (i + n) - c - b : Nat) : Int)) i n q (nv V) := by
 obtain ⟨l1, l2, l3, l4, l5⟩ := h.last hn (lb U1 (i + n) - c - b) (by have := zBY h.ok (i + n); omega);rw [zBG (by omega)] at l5
 have e : nv (U1.set (i + n) ((lb U1 (i + n) - c - b : Nat) : Int)) + q * (pw i * nv V) = nv U := by
  have : pw (i + n) * (c + b) + pw (i + n) * (lb U1 (i + n) - c - b) = pw (i + n) * lb U1 (i + n) := by
   rw [← Nat.mul_add]; congr 1; omega
  omega
 refine ⟨l1, l2, e, ?_⟩;have := red_done l3 e;rw [Nat.add_mul] at hq;omega
theorem nv_small {U X : List Int} {k : Nat} (h : okN X) (e : X.drop (k + 1) = U.drop (k + 1)) (hz : nt U (k + 1) = 0) : nv X < 4294967296 * pw k := by
 have e1 := zBT X (k + 1);have e2 : nt X (k + 1) = 0 := by unfold nt at hz ⊢; rw [e]; exact hz
 have := zJ8 h (k + 1);rw [e2] at e1;rw [zAS] at this;omega
theorem out_second {U V U1 U3 : List Int} {i n q c b c2 y : Nat} (hV : okN V) (hVl : V.length = n) (h : Red U V U1 i q n c b) (hn : i + n < U.length) (hz : nt U (i + n + 1) = 0) (hq : q * nv V ≤ nt U i + nv V)
 (hc : lb U1 (i + n) < c + b) (hy : y + c + b = lb U1 (i + n) + 4294967296) (h3 : Bak (U1.set (i + n) (y : Int)) V U3 i n c2) :
 lb U3 (i + n) = y ∧ 1 ≤ q ∧ y + c2 = 4294967296 ∧ Out U (U3.set (i + n) ((0 : Nat) : Int)) i n (q - 1) (nv V) := by
 obtain ⟨l1, l2, l3, l4, l5⟩ := h.last hn y (by omega);obtain ⟨b1, b2, b3, b4, b5, b6⟩ := h3;rw [zBG (by omega)] at l5 b6
 have hlb : lb U3 (i + n) = y := by
  have e := drop_get b4;have g := zA2 (a := U3) (k := i + n) (by omega) b2;rw [e, getElem!_pos _ _ (by rw [l1]; exact hn), List.getElem_set_self] at g;omega
 have s2 := nv_small l2 l4 hz;have sp : nv U = nk U i + pw i * nt U i := zBT U i;generalize U1.set (i + n) (y : Int) = U2 at *
 have e2 : nv U2 + q * (pw i * nv V) = nv U + pw (i + n) * 4294967296 := by
  have : pw (i + n) * (c + b) + pw (i + n) * y = pw (i + n) * lb U1 (i + n) + pw (i + n) * 4294967296 := by
   rw [← Nat.mul_add, ← Nat.mul_add]; congr 1; omega
  omega
 have hbig : nv U < q * (pw i * nv V) := by omega
 have hq1 : 1 ≤ q := by
  rcases q with _ | q
  ·rw [Nat.zero_mul] at hbig; omega
  ·omega
 have hqW : q * (pw i * nv V) ≤ pw i * nt U i + pw i * nv V := by
  rw [Nat.mul_left_comm, ← Nat.mul_add];exact Nat.mul_le_mul_left _ hq
 have mk : ∀ z : Nat, z < 4294967296 → okN (U3.set (i + n) (z : Int)) ∧ (U3.set (i + n) (z : Int)).drop (i + n + 1) = U.drop (i + n + 1) ∧ nv (U3.set (i + n) (z : Int)) + pw (i + n) * y = nv U3 + pw (i + n) * z := fun z hz => by
  refine ⟨zBH b2 _ (by omega), by rw [List.drop_set_of_lt (by omega), zGI b4, l4], ?_⟩;have := zHP (a := U3) (z : Int) (show i + n < U3.length by omega);rw [Int.toNat_natCast, hlb] at this;exact this
 have hyc : y + c2 = 4294967296 := by
  by_cases hlt : y + c2 < 4294967296
  ·obtain ⟨m1, m2, m3⟩ := mk (y + c2) hlt
   have := nv_small m1 m2 hz;rw [Nat.mul_add] at m3;omega
  ·omega
 obtain ⟨m1, m2, m3⟩ := mk 0 (by decide)
 have e4 : nv (U3.set (i + n) ((0 : Nat) : Int)) + (q - 1) * (pw i * nv V) = nv U := by
  have : q * (pw i * nv V) = (q - 1) * (pw i * nv V) + pw i * nv V := by rw [← Nat.succ_mul, show (q - 1).succ = q by omega]
  have t : pw (i + n) * y + pw (i + n) * c2 = pw (i + n) * 4294967296 := by rw [← Nat.mul_add, hyc]
  omega
 have ht : (U3.set (i + n) ((0 : Nat) : Int)).take i = U.take i := by rw [List.take_set_of_le (by omega), b3, l3]
 refine ⟨hlb, hq1, hyc, by simp [b1, l1], m1, e4, ?_⟩;have d := red_done ht e4;have g : pw i * nt U i < pw i * (q * nv V) := by rw [Nat.mul_left_comm (pw i)]; omega
 have g := Nat.lt_of_mul_lt_mul_left g;have : q * nv V = (q - 1) * nv V + nv V := by rw [← Nat.succ_mul, show (q - 1).succ = q by omega]
 omega
end Go.PI.Tryz
namespace Go.PI.Tryz
open Go.Proofs Go.PI
theorem hs_rows (U O : List Int) (els : List PV) (U' : List Int) (e : els = U'.map (.int .u32)) : hs (hv (rows2 U O)) 0 (some ⟨els, 1, false⟩) = hv (rows2 U' O) := by
 subst e
 funext j
 unfold hs hv;cases Nat.beq j 0 <;> rfl
theorem K_to {K : PV → St → Prop} {v v' : PV} {t : Tm} {h h' : Hp} {z : Fz} {nx : Nat} (ev : v' = v) (eh : h' = h) (k : K v ⟨t, h, z, nx⟩) : K v' ⟨t, h', z, nx⟩ := by subst ev eh; exact k
theorem sub_twice {u lo b : Nat} (hu : u < 4294967296) (hl : lo < 4294967296) (hb : b < 2) : ∃ x : Nat, (((u : Int) - (lo : Int)) % 18446744073709551616 - (b : Int)) % 18446744073709551616 = (x : Int) ∧
 (x % 4294967296) + lo + b = u + 4294967296 * (x / 9223372036854775808) ∧ x < 18446744073709551616 ∧ (x / 9223372036854775808 = 0 → x = u - lo - b ∧ lo + b ≤ u) ∧ (x / 9223372036854775808 ≠ 0 → u < lo + b) := by
 by_cases h : lo + b ≤ u
 ·exact ⟨u - lo - b, by omega, by omega, by omega, by omega, by omega⟩
 ·exact ⟨u + 18446744073709551616 - lo - b, by omega, by omega, by omega, by omega, by omega⟩
theorem ok_reduce : FO 149 Tryz.f149 [.tmp 6] 107 := mkO Tryz.func149 Tryz.ntmps149 Tryz.results149
theorem h_reduce (U O V : List Int) (i n q m : Nat) (t : Tm) (K : PV → St → Prop) (hU : okN U) (hV : okN V) (hn : 2 ≤ n) (hVl : V.length = n) (hi : i + n + 1 ≤ U.length) (hUl : U.length < 2147483648)
 (hz : nt U (i + n + 1) = 0) (hq1 : nt U i < (q + 1) * nv V) (hq2 : q * nv V ≤ nt U i + nv V) (hq3 : q ≤ 4294967296)
 (hK : ∀ (r : Nat) U' t' nx', 2 ≤ nx' → r ≤ q → q ≤ r + 1 → Out U U' i n r (nv V) → K (.int .u32 (((r : Nat) : Int) % 4294967296)) ⟨t', hv (rows2 U' O), zv [], nx'⟩) :
 FnH Tryz.prog G0 149 [.own 0 i (n + 1), encN V, .int .u64 q] K ⟨t, hv (rows2 U O), zv [], m + 2⟩ := by
 have lV := fun j => zBY hV j
 have gV : ∀ j, j < n → V[j]! = ((lb V j : Nat) : Int) := fun j hj => (zA2 (by omega) hV).symm
 refine fnH_v hmix hT ok_reduce (by simp) ?_;refine sts ?_
 refine zEY hT (fun ((j, U', c, b) : Nat × List Int × Nat × Nat) => [(0, .own 0 i (n + 1)), (1, encN V), (2, .int .u64 q), (7, .int .u64 c), (8, .int .u64 b), (15, encN V), (16, .int .i64 n), (17, .int .i64 j)]) (fun (_, U', _, _) => rows2 U' O) [] (m + 2)
  (fun (j, U', c, b) => j ≤ n ∧ Red U V U' i q j c b) (fun (j, _, _, _) => n - j) (0, U, 0, 0) ⟨by omega, Red.start hU⟩ (by omega) (by simp)
  [] ?_ ?_ ?_ ?_
 ·exact ⟨zAG (by omega) rfl rfl, zAD rfl rfl, zAC rfl rfl, zAC rfl rfl, zAC rfl rfl, zAD rfl rfl, zAC rfl (by rw [List.length_map, hVl]), zAC rfl rfl, trivial⟩
 ·exact ⟨zAE (by omega) rfl rfl (zAW fun _ => ⟨rfl, by simp⟩) rfl, zAE (by omega) rfl rfl (zAW fun _ => ⟨rfl, by simp⟩) rfl, trivial⟩
 ·simp [ren]
 intro ⟨j, U', c, b⟩ ⟨hj, hr⟩;have hl := hr.len;have hcl := hr.cl;have hbl := hr.bl;have lU := fun j => zBY hr.ok j
 have gU : ∀ j, j < U.length → U'[j]! = ((lb U' j : Nat) : Int) := fun j hj => (zA2 (by omega) hr.ok).symm
 (repeat' (first|refine stp ?_|with_reducible(refine brr ?_ ?_<;>intro h)));all_goals try(conv=>whnf)
 ·have hjn : j < n := by omega
  rw [gV j hjn];have hd := lV j;have hst := fun c' lo b' y => Red.step (c' := c') (lo := lo) (b' := b') (y := y) hr hq3 (by omega) hd
  generalize lb V j = d at *
  have hu := lU (i + j);have gu := gU (i + j) (by omega);have hX : q * d ≤ 18446744069414584320 := Nat.le_trans (Nat.mul_le_mul hq3 (show d ≤ 4294967295 by omega)) (by decide);obtain ⟨X, eX⟩ : ∃ X, q * d = X := ⟨_, rfl⟩;have eqd : (q : Int) * (d : Int) = (X : Int) := by rw [← eX]; simp
  rw [eX] at hX hst;refine sts ?_;refine zAU (i + j) (by first | omega | (simp only [List.length_map]; omega)) (by omega) ?_;rw [gu, eqd];generalize lb U' (i + j) = u at *
  obtain ⟨c', lo, e1, e2⟩ : ∃ c' lo, c + X = c' * 4294967296 + lo ∧ lo < 4294967296 := ⟨(c + X) / 4294967296, (c + X) % 4294967296, by omega, by omega⟩;refine sts ?_;refine zBU ?_;rw [show ((c : Int) + (X : Int)) % 4294967296 = (lo : Int) by omega];refine sts ?_;refine zFF ?_;refine sts ?_;refine zFF ?_;obtain ⟨x, hx, hx2⟩ := sub_twice hu e2 hbl;rw [hx];refine sts ?_;refine zBU ?_;refine sts ?_;refine zAU (i + j) (by first | omega | (simp only [List.length_map]; omega)) (by omega) ?_;refine sts ?_;obtain ⟨hx2, hx3, _⟩ := hx2
  exact ⟨(j + 1, U'.set (i + j) ((x % 4294967296 : Nat) : Int), c', x / 9223372036854775808), [], ⟨⟨hjn, hst c' lo _ _ e1 e2 hx2 (by omega) (by omega)⟩, by show n - (j + 1) < n - j; omega⟩,
   ⟨zAG (by omega) rfl rfl, zAD rfl rfl, zAC rfl rfl, zAC rfl (by rw [zCB]; omega), zAC rfl (by rw [zJF]; omega), zAD rfl rfl, zAC rfl rfl, zAC rfl (by omega), trivial⟩,
   ⟨zAE (by omega) rfl (zBB (by omega) (by omega)) (zAW fun _ => ⟨rfl, by simp⟩) rfl, zAE (by omega) rfl rfl (zAW fun _ => ⟨rfl, by simp⟩) rfl, trivial⟩, by simp [ren]⟩
 ·obtain rfl : j = n := by omega
  refine zAU (i + j) (by first | omega | (simp only [List.length_map]; omega)) (by omega) ?_;have hu := lU (i + j);rw [gU (i + j) (by omega)];refine sts ?_;refine zFF ?_;refine sts ?_;refine zFF ?_;have o1 := out_first hV hVl hr (by omega) hq1;have o2 := fun c2 y U3 => out_second (c2 := c2) (y := y) (U3 := U3) hV hVl hr (by omega) hz hq2
  obtain ⟨x, hx, hx2, hx3, hx4, hx5⟩ := sub_twice hu hcl hbl;rw [hx];generalize lb U' (i + j) = u at *
  refine sts ?_;refine zBU ?_;refine sts ?_;refine zAU (i + j) (by first | omega | (simp only [List.length_map]; omega)) (by omega) ?_
  (repeat' (first|refine stp ?_|with_reducible(refine brr ?_ ?_<;>intro h)));all_goals try(conv=>whnf)
  ·rw [zJF] at h
   obtain ⟨hx6, hx7⟩ := hx4 (by omega);refine zBU ?_;refine sts ?_;exact K_to rfl (hs_rows U' O _ (U'.set (i + j) ((x % 4294967296 : Nat) : Int)) (zBB (by first | omega | (simp only [List.length_map]; omega)) (by omega))) (hK q _ _ _ (by omega) (by omega) (by omega) ((by rw [show u - c - b = x % 4294967296 by omega] at o1; exact o1 (by omega))))
  ·rw [zJF] at h
   have hx6 := hx5 (by omega);have o3 := fun c2 U3 => o2 c2 (x % 4294967296) U3 (by omega) (by omega)
   obtain ⟨l1, l2, l3, l4, l5⟩ := hr.last (by omega) (x % 4294967296) (by omega)
   refine zEY hT (fun ((k, U3, c) : Nat × List Int × Nat) => [(0, .own 0 i (j + 1)), (1, encN V), (2, .int .u64 q), (7, .int .u64 c), (70, encN V), (71, .int .i64 j), (72, .int .i64 k)]) (fun (_, U3, _) => rows2 U3 O) [] (m + 2)
    (fun (k, U3, c) => k ≤ j ∧ Bak (U'.set (i + j) ((x % 4294967296 : Nat) : Int)) V U3 i k c) (fun (k, _, _) => j - k) (0, U'.set (i + j) ((x % 4294967296 : Nat) : Int), 0) ⟨by omega, Bak.start l2⟩ (by omega) (by simp)
    [] ?_ ?_ ?_ ?_
   ·exact ⟨zAG (by omega) rfl rfl, zAD rfl rfl, zAC rfl rfl, zAC rfl rfl, zAD rfl rfl, zAC rfl (by rw [List.length_map, hVl]), zAC rfl rfl, trivial⟩
   ·exact ⟨zAE (by omega) rfl (zBB (by first | omega | (simp only [List.length_map]; omega)) (by omega)) (zAW fun _ => ⟨rfl, by simp⟩) rfl, zAE (by omega) rfl rfl (zAW fun _ => ⟨rfl, by simp⟩) rfl, trivial⟩
   ·simp [ren]
   intro ⟨k, U3, c3⟩ ⟨hk, hb⟩;have hbll := hb.len;have hbl2 := hb.cl;have lU3 := fun j => zBY hb.ok j
   have gU3 : ∀ j, j < U.length → U3[j]! = ((lb U3 j : Nat) : Int) := fun j hj => (zA2 (by omega) hb.ok).symm
   have lVk := lV k;have eV : k < j → V[k]! = ((lb V k : Nat) : Int) := fun h => gV k h
   (repeat' (first|refine stp ?_|with_reducible(refine brr ?_ ?_<;>intro h)));all_goals try(conv=>whnf)
   ·have hkj : k < j := by omega
    refine zAU (i + k) (by first | omega | (simp only [List.length_map]; omega)) (by omega) ?_;have hst := fun c' y => Bak.step (c' := c') (y := y) hb (by omega) lVk
    have hu3 := lU3 (i + k);rw [gU3 (i + k) (by omega), eV hkj];generalize lb U3 (i + k) = u3 at *
    generalize lb V k = d at *
    refine sts ?_;refine zBU ?_;refine sts ?_;refine zAU (i + k) (by first | omega | (simp only [List.length_map]; omega)) (by omega) ?_;refine sts ?_;obtain ⟨s, es⟩ : ∃ s, c3 + (u3 + d) = s := ⟨_, rfl⟩;rw [es] at hst
    exact ⟨(k + 1, U3.set (i + k) ((s % 4294967296 : Nat) : Int), s / 4294967296), [], ⟨⟨hkj, hst _ _ (by omega) (by omega) hu3⟩, by show j - (k + 1) < j - k; omega⟩,
     ⟨zAG (by omega) rfl rfl, zAD rfl rfl, zAC rfl rfl, zAC rfl (by rw [zCB]; omega), zAD rfl rfl, zAC rfl rfl, zAC rfl (by omega), trivial⟩,
     ⟨zAE (by omega) rfl (zBB (by omega) (by omega)) (zAW fun _ => ⟨rfl, by simp⟩) rfl, zAE (by omega) rfl rfl (zAW fun _ => ⟨rfl, by simp⟩) rfl, trivial⟩, by simp [ren]⟩
   ·obtain rfl : k = j := by omega
    obtain ⟨p0, p1, p2, p3⟩ := o3 c3 U3 hb;refine zAU (i + k) (by first | omega | (simp only [List.length_map]; omega)) (by omega) ?_;rw [gU3 (i + k) (by omega)];refine sts ?_;refine zBU ?_;refine sts ?_;refine zAU (i + k) (by first | omega | (simp only [List.length_map]; omega)) (by omega) ?_;refine sts ?_;exact K_to (congrArg (PV.int .u32) (by omega)) (hs_rows U3 O _ (U3.set (i + k) ((0 : Nat) : Int)) (zBB (by first | omega | (simp only [List.length_map]; omega)) (by rw [p0]; omega))) (hK (q - 1) _ _ _ (by omega) (by omega) (by omega) p3)
end Go.PI.Tryz
namespace Go.PI.Tryz
open Go.Proofs Go.PI
theorem ok_lz32 : FO 147 Tryz.f147 [.tmp 2] 6 := mkO Tryz.func147 Tryz.ntmps147 Tryz.results147
theorem c_lz32 (n : Nat) (h : n < 4294967296) : Fn 147 [.int .u32 n] (.data (.int .i64 (32 - bl n))) := by
 have hb := (zBR 32 n h (by decide)).2.2;refine zAO hmix hT ok_lz32 (by simp) ?_;refine sts ?_;refine zAA (c_len32 n h) rfl ?_;refine sts ?_;exact zAB rfl rfl
theorem nt_shift (U : List Int) (j n : Nat) : nt U j = nk (U.drop j) n + pw n * nt U (j + n) := by
 have := zBT (U.drop j) n;unfold nt at this ⊢;rw [List.drop_drop] at this;exact this
theorem nt_high {U : List Int} {j n W : Nat} (h : nt U j < W) (hW : W < pw n) : nt U (j + n) = 0 := by
 have := nt_shift U j n;rcases Nat.eq_zero_or_pos (nt U (j + n)) with e | e
 ·exact e
 ·have := Nat.mul_le_mul_left (pw n) e
  omega
structure Dv (N W L n : Nat) (i : Nat) (U O : List Int) : Prop where
 ul : U.length = L + 1
 uo : okN U
 ol : O.length = L - n + 1
 oo : okN O
 le : i ≤ L - n + 1
 eq : nv U + W * (pw i * nt O i) = N
 lt : nt U i < W
theorem Dv.step {N W L n i r : Nat} {U U' O : List Int} (h : Dv N W L n (i + 1) U O) (o : Out U U' i n r W) (hr : r < 4294967296) : Dv N W L n i U' (O.set i (r : Int)) := by
 obtain ⟨a1, a2, a3, a4, a5, a6, a7⟩ := h;obtain ⟨o1, o2, o3, o4⟩ := o;have hs := zBH a4 i (x := (r : Int)) (by omega);refine ⟨by omega, o2, by simp [a3], hs, by omega, ?_, o4⟩;have e1 := zB6 hs i
 have e2 : lb (O.set i (r : Int)) i = r := by
  have := zA2 (a := O.set i (r : Int)) (k := i) (by simp; omega) hs;rw [getElem!_pos _ _ (by simp; omega), List.getElem_set_self] at this;omega
 have e3 : nt (O.set i (r : Int)) (i + 1) = nt O (i + 1) := by unfold nt; rw [List.drop_set_of_lt (by omega)]
 rw [e1, e2, e3, Nat.mul_add (pw i), Nat.mul_add W];rw [zAS, Nat.mul_comm 4294967296, Nat.mul_assoc] at a6;have e4 : W * (pw i * r) = r * (pw i * W) := by rw [Nat.mul_comm W, Nat.mul_comm (pw i) r, Nat.mul_assoc]
 omega
theorem Dv.done {N W L n : Nat} {U O : List Int} (h : Dv N W L n 0 U O) : nv O = N / W ∧ nv U = N % W := by
 obtain ⟨a1, a2, a3, a4, a5, a6, a7⟩ := h;rw [zEX] at a6 a7;rw [zBQ, Nat.one_mul] at a6;have hW : 0 < W := by omega
 rw [← a6, Nat.add_mul_div_left _ _ hW, Nat.add_mul_mod_self_left, Nat.div_eq_of_lt a7, Nat.mod_eq_of_lt a7];omega
theorem Dv.part {N W L n i : Nat} {U O : List Int} (h : Dv N W L n (i + 1) U O) (hW : W < pw n) : nt U (i + n + 1) = 0 ∧ nv (partL U i n) = nt U i ∧ nt U i < W * 4294967296 := by
 obtain ⟨a1, a2, a3, a4, a5, a6, a7⟩ := h;have h1 := nt_high a7 hW;rw [show i + 1 + n = i + n + 1 by omega] at h1;have h2 := nt_shift U i (n + 1);rw [← Nat.add_assoc, h1] at h2;have h3 := zB6 a2 i;have h4 := zBY a2 i;refine ⟨h1, by unfold nk at h2; unfold partL; omega, by omega⟩
theorem Dv.start {A : List Int} {n k W : Nat} (ha : okN A) (hn : n ≤ A.length) (hn1 : 1 ≤ n) (hk : k ≤ 31) (hW : 2147483648 * pw (n - 1) ≤ W) :
 Dv (nv A * 2 ^ k) W A.length n (A.length - n + 1) (limsN (A.length + 1) (nv A * 2 ^ k)) (List.replicate (A.length - n + 1) 0) := by
 have hp : 2 ^ k ≤ 2 ^ 31 := Nat.pow_le_pow_right (by decide) hk;have hA := zC6 ha;have up : nv A * 2 ^ k < pw A.length * 2147483648 := Nat.lt_of_lt_of_le (Nat.mul_lt_mul_of_pos_right hA (Nat.pow_pos (by decide))) (Nat.mul_le_mul_left _ hp);have up2 : nv A * 2 ^ k < pw (A.length + 1) := by rw [zAS]; omega
 have hv := nv_limsN _ _ up2;refine ⟨zEZ _ _, limsN_ok _ _, by simp, zCC _, Nat.le_refl _, by rw [zC7 (by simp), Nat.mul_zero, Nat.mul_zero, hv]; rfl, ?_⟩;have e1 := zBT (limsN (A.length + 1) (nv A * 2 ^ k)) (A.length - n + 1);rw [hv] at e1;have e2 : pw A.length = pw (A.length - n + 1) * pw (n - 1) := by rw [← zKL]; congr 1; omega
 have : pw (A.length - n + 1) * nt (limsN (A.length + 1) (nv A * 2 ^ k)) (A.length - n + 1) < pw (A.length - n + 1) * W := by
  have : pw (A.length - n + 1) * (2147483648 * pw (n - 1)) ≤ pw (A.length - n + 1) * W := Nat.mul_le_mul_left _ hW;rw [Nat.mul_left_comm] at this;rw [e2] at up;omega
 exact Nat.lt_of_mul_lt_mul_left this
theorem Out.small {U U' : List Int} {i n q W : Nat} (hU : okN U) (h : Out U U' i n q W) (hlt : nt U i < W * 4294967296) : q < 4294967296 := by
 have e := zBT U i;have k1 := zJ8 hU i;have h2 := h.eq
 have h3 : pw i * (q * W) < pw i * (nt U i + 1) := by
  rw [Nat.mul_add, ← Nat.mul_left_comm q];omega
 have h4 := Nat.lt_of_mul_lt_mul_left h3;have h5 : W * q < W * 4294967296 := by rw [Nat.mul_comm W q]; omega
 exact Nat.lt_of_mul_lt_mul_left h5
theorem zJK (a b : Nat) : cmpI a b < 0 ↔ a < b := by
 unfold cmpI
 split
 ·omega
 ·split <;> omega
theorem ok_ndivmod : FO 132 Tryz.f132 [.tmp 4, .tmp 5, .tmp 6] 100 := mkO Tryz.func132 Tryz.ntmps132 Tryz.results132
theorem zJV (xs ys : List Int) (hx : okN xs) (hy : okN ys) (hl : xs.length < 2147483646) (hl2 : ys.length < 2147483646) : Fn 132 [encN xs, encN ys] (.data (.tup [encN (lims (nv xs / nv ys)), encN (if nv ys = 0 then [] else lims (nv xs % nv ys)), .int .i64 (if nv ys = 0 then 3 else 0)])) := by
 have ct1 := zBV xs hx (by omega);have ct2 := zBV ys hy (by omega);obtain ⟨A, eA⟩ : ∃ A, lims (nv xs) = A := ⟨_, rfl⟩;obtain ⟨B, eB⟩ : ∃ B, lims (nv ys) = B := ⟨_, rfl⟩;have ha : canN A := eA ▸ zCZ _;have hb : canN B := eB ▸ zCZ _;have hvA : nv A = nv xs := eA ▸ zAJ _;have hvB : nv B = nv ys := eB ▸ zAJ _;have hA : A.length ≤ xs.length := eA ▸ zAM hx;have hB : B.length ≤ ys.length := eB ▸ zAM hy;rw [eA] at ct1;rw [eB] at ct2;rw [← hvA, ← hvB];have cc := zJW A B ha.1 hb.1 (by omega) (by omega);have hcmp := zJK (nv A) (nv B);refine zAO hmix hT ok_ndivmod (by simp) ?_;refine sts ?_;refine zAA ct1 rfl ?_;refine sts ?_;refine zAA ct2 rfl ?_
 (repeat' (first|refine stp ?_|with_reducible(refine brr ?_ ?_<;>intro h)));all_goals try(conv=>whnf)
 ·have h0 : B = [] := List.length_eq_zero_iff.1 (by omega)
  subst h0;refine zAB rfl ?_;simp [nv, zCD]
 refine zAA cc rfl ?_
 (repeat' (first|refine stp ?_|with_reducible(refine brr ?_ ?_<;>intro h)));all_goals try(conv=>whnf)
 ·have hlt : nv A < nv B := by omega
  have hne : nv B ≠ 0 := by omega
  rw [if_neg hne, if_neg hne, Nat.div_eq_of_lt hlt, Nat.mod_eq_of_lt hlt, zI8 ha];have cm := zJU A ha.1 (by omega);rw [zI8 ha] at cm;refine zAA cm rfl ?_;refine sts ?_;exact zAB rfl rfl
 ·have hB1 : B.length = 1 := by omega
  have hge : nv B ≤ nv A := by omega
  have hd := zBY hb.1 0;have e1 : nv B = lb B 0 := by rw [← zBG (a := B) (k := 1) (by omega), zAZ, zBI, zBQ]; omega
  have e2 := zA2 (a := B) (k := 0) (by omega) hb.1
  have hp : 0 < nv B := by
   have := zJM hb (fun e => by subst e; simp at hB1);have := zHN (B.length - 1);omega
  have hne : nv B ≠ 0 := by omega
  rw [if_neg hne, if_neg hne, ← e2, ← e1];refine zAA (c_short A (nv B) ha.1 (by omega) ⟨hp, by omega⟩) rfl ?_;refine sts ?_;exact zAB rfl rfl
 ·have hB2 : 2 ≤ B.length := by omega
  have hge : nv B ≤ nv A := by omega
  have hlb := zA2 (a := B) (k := B.length - 1) (by omega) hb.1;refine zA0 (j := B.length - 1) (by first | omega | (simp only [List.length_map]; omega)) (by omega) ?_;rw [← hlb];refine sts ?_;refine zAA (c_lz32 (lb B (B.length - 1)) (zBY hb.1 _)) rfl ?_;refine sts ?_
  have htop : lb B (B.length - 1) ≠ 0 := by
   have h1 := hb.2;rcases h1 with h1 | h1
   ·subst h1; simp at hB2
   ·intro e
    apply h1;rw [List.getLast?_eq_getElem?, List.getElem?_eq_getElem (by omega)];rw [e, getElem!_pos B _ (by omega)] at hlb;rw [← hlb]; rfl
  have hbb := zBR 32 _ (zBY hb.1 (B.length - 1)) (by decide)
  have hb1 : 1 ≤ bl (lb B (B.length - 1)) := by
   have := hbb.1;rcases Nat.eq_zero_or_pos (bl (lb B (B.length - 1))) with e | e
   ·rw [e] at this; omega
   ·exact e
  obtain ⟨k, hk⟩ : ∃ k : Nat, bl (lb B (B.length - 1)) + k = 32 := ⟨32 - bl (lb B (B.length - 1)), by omega⟩;rw [show (32 : Int) - (bl (lb B (B.length - 1)) : Int) = (k : Int) by omega];refine zFQ (c_left A k ha.1 (by omega) (by omega)) rfl ?_;refine sts ?_;refine zFQ (c_left B k hb.1 (by omega) (by omega)) rfl ?_;refine sts ?_;obtain ⟨up, hVl, hVt⟩ := norm_props hb.1 rfl (by omega) htop hk;have hVo := zAI (nv B * 2 ^ k);have hVv := zAJ (nv B * 2 ^ k);have hpl := zDP (show B.length ≤ B.length + 1 by omega);have ct3 := zBV (limsN (B.length + 1) (nv B * 2 ^ k)) (limsN_ok _ _) (by rw [zEZ]; omega);rw [nv_limsN _ _ (by omega)] at ct3
  have hAB : B.length ≤ A.length := by
   rcases Nat.lt_or_ge A.length B.length with e | e
   ·have := zF5 ha hb e; omega
   ·exact e
  have hBp : 0 < nv B := by
   have := zJM hb (fun e => by subst e; simp at hB2);have := zHN (B.length - 1);omega
  have hVlow : 2147483648 * pw (B.length - 1) ≤ nv B * 2 ^ k := by
   have e2 : nv (lims (nv B * 2 ^ k)) = nk (lims (nv B * 2 ^ k)) (B.length - 1) + pw (B.length - 1) * lb (lims (nv B * 2 ^ k)) (B.length - 1) := by rw [← zAZ, show B.length - 1 + 1 = B.length by omega, zBG (by omega)]
   have := Nat.mul_le_mul_left (pw (B.length - 1)) hVt;rw [hVv] at e2;rw [Nat.mul_comm];omega
  have hst := Dv.start (n := B.length) ha.1 hAB (by omega) (show k ≤ 31 by omega) hVlow;have hpk : 0 < 2 ^ k := Nat.pow_pos (by decide);refine zAA ct3 (zAV (zAN rfl rfl (by simp) (fun x => zBK x)) rfl) ?_;obtain ⟨V, eV⟩ : ∃ V, lims (nv B * 2 ^ k) = V := ⟨_, rfl⟩;rw [eV] at hVl hVt hVo hVv ⊢;rw [← hVv] at hst up;refine sts ?_
  refine zAH hT (fun ((i, U, O) : Nat × List Int × List Int) => [(9, .int .i64 k), (10, .own 0 0 (A.length + 1)), (11, encN V), (12, .own 1 0 (A.length - B.length + 1)), (13, .int .i64 ((i : Int) - 1))]) (fun (_, U, O) => rows2 U O) [] 2
   (fun (i, U, O) => Dv (nv A * 2 ^ k) (nv V) A.length B.length i U O) (fun (i, _, _) => i) (A.length - B.length + 1, limsN (A.length + 1) (nv A * 2 ^ k), List.replicate (A.length - B.length + 1) 0) hst (by decide) (by simp) ?_ ?_
  ·exact ⟨[32, 45], [], [], [], ttt, ⟨zAC rfl rfl, zAG (by decide) rfl (by rw [List.length_map, zEZ]), zAD rfl rfl, zAG (by decide) rfl (by simp only [List.length_map]; omega), zAC rfl (by simp only [List.length_map]; omega), trivial⟩,
    ⟨zAE (by decide) rfl rfl (zAW fun _ => ⟨rfl, by simp⟩) rfl, zAE (by decide) rfl (zFY (f := PV.int .u32) (x := 0) (by simp only [List.length_map]; omega)) (zAW fun _ => ⟨rfl, by simp⟩) rfl, trivial⟩, by simp [ren]⟩
  intro ⟨i, U, O⟩ hd;have hul := hd.ul;have hol := hd.ol;have hle := hd.le
  (repeat' (first|refine stp ?_|with_reducible(refine brr ?_ ?_<;>intro h)));all_goals try(conv=>whnf)
  ·obtain ⟨i, rfl⟩ : ∃ i', i = i' + 1 := ⟨i - 1, by omega⟩
   obtain ⟨p1, p2, p3⟩ := hd.part (by omega);rw [show 0 + (((i + 1 : Nat) : Int) - 1).toNat = i by omega, show (((i + 1 : Nat) : Int) - 1 + ((List.map (PV.int .u32) V).length : Int) + 1).toNat - (((i + 1 : Nat) : Int) - 1).toNat = B.length + 1 by simp only [List.length_map]; omega];refine zKY (h_estimate U O V i B.length _ _ _ hd.uo hVo hB2 hVl (by omega) (by omega) hVt (by omega) ?_);intro q t1 nx1 n1 q1 q2 q3;obtain ⟨m, rfl⟩ : ∃ m, nx1 = m + 2 := ⟨nx1 - 2, by omega⟩;rw [p2] at q1 q2;refine sts ?_;refine zKY (h_reduce U O V i B.length q _ _ _ hd.uo hVo hB2 hVl (by omega) (by omega) p1 q1 q2 q3 ?_);intro r U' t2 nx2 n2 r1 r2 o;have r3 := o.small hd.uo p3;have hd' := hd.step o r3;rw [show ((r : Nat) : Int) % 4294967296 = (r : Int) by omega];refine sts ?_;refine zAU i (by first | omega | (simp only [List.length_map]; omega)) (by omega) ?_;refine sts ?_
   exact ⟨(i, U', O.set i (r : Int)), ⟨hd', by show i < i + 1; omega⟩, [0, 1], [], [], [], ttt, ⟨zAC rfl rfl, zAG (by decide) rfl rfl, zAD rfl rfl, zAG (by decide) rfl rfl, zAC rfl (by omega), trivial⟩,
    ⟨zAE (by decide) rfl rfl (zAW fun _ => ⟨rfl, by simp⟩) rfl, zAE (by decide) rfl (zBB (by omega) rfl) (zAW fun _ => ⟨rfl, by simp⟩) rfl, trivial⟩, by simp [ren]⟩
  ·obtain rfl : i = 0 := by omega
   obtain ⟨f1, f2⟩ := hd.done;have cs := c_nshr U k hd.uo (by omega) (by omega);refine zAA cs (zAV (zAN rfl rfl (by omega) (fun x => zBK x)) rfl) ?_;refine sts ?_;have ct4 := zBV O hd.oo (by omega);refine zAA ct4 (zAV (zAN rfl rfl (by omega) (fun x => zBK x)) rfl) ?_;refine sts ?_;refine zAB rfl ?_;have hne : nv B ≠ 0 := by omega
   rw [if_neg hne, if_neg hne, f1, f2, hVv, Nat.mul_div_mul_right _ _ hpk, Nat.mul_mod_mul_right, Nat.mul_div_cancel _ hpk]
end Go.PI.Tryz
namespace Go.PI.Tryz
open Go.Proofs Go.PI
theorem zIC (P Q : Nat) : Nat.gcd Q (P % Q) = Nat.gcd P Q := by rw [Nat.gcd_comm Q, ← Nat.gcd_rec, Nat.gcd_comm]
theorem zCI {m n : Nat} (h : m ≤ n) : (lims m).length ≤ (lims n).length := by
 have := zC6 (zAI n);rw [zAJ] at this;exact zA4 (by omega)
theorem ok_ngcd : FO 131 Tryz.f131 [.tmp 4] 61 := mkO Tryz.func131 Tryz.ntmps131 Tryz.results131
theorem c_ngcd (xs ys : List Int) (hx : okN xs) (hy : okN ys) (hl : xs.length < 2147483646) (hl2 : ys.length < 2147483646) : Fn 131 [encN xs, encN ys] (.data (encN (lims (Nat.gcd (nv xs) (nv ys))))) := by
 have ct1 := zBV xs hx (by omega);have ct2 := zBV ys hy (by omega);have h1 := zAM hx;have h2 := zAM hy;generalize nv xs = P0 at *
 generalize nv ys = Q0 at *
 obtain ⟨g, eg⟩ : ∃ g, Nat.gcd P0 Q0 = g := ⟨_, rfl⟩;rw [eg];refine zAO hmix hT ok_ngcd (by simp) ?_;refine sts ?_;refine zAA ct1 rfl ?_;refine sts ?_;refine zAA ct2 rfl ?_;refine sts ?_;refine zA9 hT (fun ((P, Q) : Nat × Nat) => [(0, encN (lims P)), (1, encN (lims Q))]) (fun (P, Q) => Nat.gcd P Q = g ∧ (lims P).length < 2147483646 ∧ (lims Q).length < 2147483646) (fun (_, Q) => Q) (P0, Q0) ⟨eg, by omega, by omega⟩ ?_ ?_
 ·exact ⟨zAD rfl rfl, zAD rfl rfl, trivial⟩
 intro ⟨P, Q⟩ ⟨i1, i2, i3⟩;have cd := zJV (lims P) (lims Q) (zAI P) (zAI Q) i2 i3;rw [zAJ, zAJ] at cd
 (repeat' (first|refine stp ?_|with_reducible(refine brr ?_ ?_<;>intro h)));all_goals try(conv=>whnf)
 ·have hQ : Q ≠ 0 := fun e => by subst e; rw [zCD] at h; simp at h
  rw [if_neg hQ, if_neg hQ] at cd;refine zAA cd rfl ?_;refine sts ?_;have hm := Nat.mod_lt P (show Q > 0 by omega);have hml := zCI (Nat.le_of_lt hm);exact ⟨(Q, P % Q), ⟨⟨by rw [zIC]; exact i1, i3, by omega⟩, hm⟩, zAD rfl rfl, zAD rfl rfl, trivial⟩
 ·have cm := zJU (lims P) (zAI P) (by omega)
  rw [zAJ] at cm;refine zAA cm rfl ?_;refine sts ?_;have hQ : Q = 0 := zB0 (List.length_eq_zero_iff.1 (by omega));subst hQ;rw [Nat.gcd_zero_right] at i1;subst i1;exact zAB rfl rfl
 ·have hQ : Q ≠ 0 := fun e => by subst e; rw [zCD] at h; simp at h
  rw [if_neg hQ, if_neg hQ] at cd;refine zAA cd rfl ?_;refine sts ?_
  have hQ64 : Q < 18446744073709551616 := by
   have a := zC6 (zAI Q);have b := zDP (show (lims Q).length ≤ 2 by omega);rw [zAJ] at a;have c : pw 2 = 18446744073709551616 := by rw [zAS, zAS, zBQ]
   omega
  have hm := Nat.mod_lt P (show Q > 0 by omega);have hml := zCI (Nat.le_of_lt hm);have cu1 := c_nuint (lims Q) (zAI Q) (by omega);rw [zAJ, if_pos hQ64] at cu1;have cu2 := c_nuint (lims (P % Q)) (zAI _) (by omega);rw [zAJ, if_pos (by omega)] at cu2;refine zAA cu1 rfl ?_;refine sts ?_;refine zAA cu2 rfl ?_;refine sts ?_;refine zA9 hT (fun ((x, y) : Nat × Nat) => [(11, .int .u64 x), (13, .int .u64 y)]) (fun (x, y) => Nat.gcd x y = g ∧ x < 18446744073709551616 ∧ y < 18446744073709551616) (fun (_, y) => y) (Q, P % Q) ⟨by rw [zIC]; exact i1, hQ64, by omega⟩ ?_ ?_
  ·exact ⟨zAC rfl rfl, zAC rfl rfl, trivial⟩
  intro ⟨x, y⟩ ⟨j1, j2, j3⟩
  (repeat' (first|refine stp ?_|with_reducible(refine brr ?_ ?_<;>intro h)));all_goals try(conv=>whnf)
  ·have hy0 : y > 0 := by omega
   have hmy := Nat.mod_lt x hy0;exact ⟨(y, x % y), ⟨⟨by rw [zIC]; exact j1, j3, by omega⟩, hmy⟩, zAC rfl rfl, zAC rfl (Int.ofNat_tmod x y).symm, trivial⟩
  ·have hy0 : y = 0 := by omega
   subst hy0;rw [Nat.gcd_zero_right] at j1;subst j1;refine zAA (c_nof x j2) rfl ?_;refine sts ?_;exact zAB rfl rfl
end Go.PI.Tryz
