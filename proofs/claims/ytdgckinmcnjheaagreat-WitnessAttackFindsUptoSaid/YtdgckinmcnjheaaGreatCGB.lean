/-
  Small regions that bytes describe.
-/
import Derived.Test.YtdgckinmcnjheaaGreatCGA
import Derived.Test.YtdgckinmcnjheaaGreatCRC
import Derived.Test.YtdgckinmcnjheaaGreatCPD
import Derived.Test.YtdgckinmcnjheaaGreatCPE
set_option linter.unusedVariables false
set_option linter.unusedSimpArgs false
set_option linter.unnecessarySimpa false
namespace Go.PI.Tryz
open Go.Proofs Go.PI
theorem ok_sgvalid : FO 113 Tryz.f113 [.tmp 4] 66 := mkO Tryz.func113 Tryz.ntmps113 Tryz.results113
theorem c_sgvalid (r : RegL) (n : Int) (hr : okReg 950000000 r) : Fn 113 [encReg r, .int .i64 n] (.data (.bool (dB (VaR r n)))) := by
 obtain ⟨hlo, hhi, hrw, hrl⟩ := hr;have no : ¬ VaR r n → false = dB (VaR r n) := zI8;have l1 := hlo.1;have l2 := hhi.1;have v1 := zOT r.lo (zH3 (by decide) hlo);have v2 := zOT r.hi (zH3 (by decide) hhi);have v3 := zK6 r.rows n ⟨hrl, fun f hf => zB0 (by decide) (hrw f hf)⟩;refine zAM hmix hT ok_sgvalid (by simp [encReg]) ?_
 (repeat' (first|refine stp ?_|with_reducible(refine brr ?_ ?_<;>intro h)));all_goals try(conv=>whnf)
 ·exact zAB rfl (congrArg PV.bool (no fun e => by have := e.1.1; omega))
 ·exact zAB rfl (congrArg PV.bool (no fun e => by have := e.1.2; omega))
 ·exact zAB rfl (congrArg PV.bool (no fun e => by have := e.2.1; omega))
 ·exact zAB rfl (congrArg PV.bool (no fun e => by have := e.2.2.1; omega))
 ·exact zAB rfl (congrArg PV.bool (no fun e => by have := e.2.2.2.1; omega))
 ·have h0 : (1 ≤ n ∧ n ≤ 256) ∧ (r.lo.length : Int) = n ∧ (r.hi.length : Int) = n ∧ r.rows.length ≤ 256 := ⟨⟨by omega, by omega⟩, by omega, by omega, by omega⟩
  obtain ⟨h1, h2, h3, h4⟩ := h0;have hh : r.hi.length = r.lo.length := by omega
  refine zAA v1 rfl ?_
  (repeat' (first|refine stp ?_|with_reducible(refine brr ?_ ?_<;>intro h)));all_goals try(conv=>whnf)
  rotate_left
  ·exact zAB rfl (congrArg PV.bool (no fun e => dB_false.1 h fun j hj => (e.2.2.2.2.1 j hj).1))
  refine zAA v2 rfl ?_
  (repeat' (first|refine stp ?_|with_reducible(refine brr ?_ ?_<;>intro h)));all_goals try(conv=>whnf)
  rotate_left
  ·exact zAB rfl (congrArg PV.bool (no fun e => dB_false.1 h fun j hj => (e.2.2.2.2.1 j (by omega)).2.1))
  refine zAA v3 rfl ?_
  (repeat' (first|refine stp ?_|with_reducible(refine brr ?_ ?_<;>intro h)));all_goals try(conv=>whnf)
  rotate_left
  ·exact zAB rfl (congrArg PV.bool (no fun e => dB_false.1 h fun j hj => e.2.2.2.2.2 j hj))
  have w1 : canAt r.lo := dB_true.1 (by assumption);have w2 : canAt r.hi := dB_true.1 (by assumption);have w3 : valAll r.rows n := dB_true.1 (by assumption)
  refine zAG hT (fun (i : Nat) => [(1, .int .i64 n), (2, .ptr 0 0 0), (5, .int .i64 i)]) (fun _ => [(0, ⟨[encReg r], 3, true⟩)]) [] 1
   (fun i => i ≤ r.lo.length ∧ ∀ j, j < i → qv r.lo[j]! ≤ qv r.hi[j]!) (fun i => r.lo.length - i) 0 ⟨Nat.zero_le _, fun j h => (by omega)⟩ (by decide) (by simp) ?_ ?_
  ·exact ⟨[0], [], [], [], ttt, ⟨zAC rfl rfl, apx, zAC rfl rfl, trivial⟩, ⟨bbx, trivial⟩, by simp [ren]⟩
  intro i ⟨i1, i2⟩;by_cases hi : i < r.lo.length
  ·have hi2 : i < r.hi.length := by omega
   have q1 := zA7 hlo hi;have q2 := zA7 hhi hi2;have c3 := zDK r.lo[i]! r.hi[i]! q1.1 q2.1 (by have := q1.2; omega) (by have := q1.2; omega) (by have := q2.2; omega) (by have := q2.2; omega)
   (repeat' (first|refine stp ?_|with_reducible(refine brr ?_ ?_<;>intro h)));all_goals try(conv=>whnf)
   ·refine zAA c3 rfl ?_
    (repeat' (first|refine stp ?_|with_reducible(refine brr ?_ ?_<;>intro h)));all_goals try(conv=>whnf)
    ·exact zAB rfl (congrArg PV.bool (no fun e => by have := sgn_le.2 (e.2.2.2.2.1 i hi).2.2; omega))
    ·exact ⟨i + 1, ⟨⟨by omega, fun j hj => zA2 (p := fun j => qv r.lo[j]! ≤ qv r.hi[j]!) i2 (sgn_le.1 (by omega)) hj⟩, by show r.lo.length - (i + 1) < r.lo.length - i; omega⟩, [0], [], [], [], ttt, ⟨zAC rfl rfl, apx, zAC rfl rfl, trivial⟩, ⟨bbx, trivial⟩, by simp [ren]⟩
   all_goals (exfalso; omega)
  ·(repeat' (first|refine stp ?_|with_reducible(refine brr ?_ ?_<;>intro h)));all_goals try(conv=>whnf)
   all_goals try (exfalso; omega)
   exact zAB rfl (congrArg PV.bool (zM8 ⟨h1, h2, h3, h4, fun j hj => ⟨w1 j hj, w2 j (by omega), i2 j (by omega)⟩, w3⟩))
theorem ok_sgown : FO 65 Tryz.f65 [.tmp 2] 8 := mkO Tryz.func65 Tryz.ntmps65 Tryz.results65
theorem c_sgown (r : RegL) (hr : okReg 950000000 r) : Fn 65 [encReg r] (.data (.bool (dB (VaO r)))) := by
 have cc := c_sgvalid r r.lo.length hr;have l1 := hr.1.1;refine zAM hmix hT ok_sgown (by simp [encReg]) ?_;refine sts ?_;refine zAA cc (by simp; rfl) ?_;refine sts ?_;exact zAB rfl rfl
def RegL.all (r : RegL) := (r.lo, r.hi, r.rows)
theorem reg_ext {a b : RegL} : a = b ↔ a.lo = b.lo ∧ a.hi = b.hi ∧ a.rows = b.rows := by cases a; cases b; simp
instance : DecidableEq RegL := fun a b => decidable_of_iff (a.lo = b.lo ∧ a.hi = b.hi ∧ a.rows = b.rows) reg_ext.symm
theorem ok_sgcont : FO 31 Tryz.f31 [.tmp 4] 70 := mkO Tryz.func31 Tryz.ntmps31 Tryz.results31
theorem c_sgcont (r : RegL) (x : List RatL) (k kx : Nat) (hr : okReg k r) (hk1 : 1 ≤ k) (hkx : 1 ≤ kx) (hx : okLs kx x) (hk : ∀ f ∈ r.rows, k + f.terms.length * (k + kx + 1) + k + kx ≤ 949999990) (hk2 : k ≤ 949999990) (hk3 : kx ≤ 949999990) : Fn 31 [encReg r, .imm (x.map encRat)] (.data (.bool (dB (conR r x)))) := by
 obtain ⟨hlo, hhi, hrw, hrl⟩ := hr;have no : ¬ conR r x → false = dB (conR r x) := zI8;have l1 := hlo.1;have l2 := hhi.1;have l3 := hx.1;have co := c_sgown r (zCE (by omega) ⟨hlo, hhi, hrw, hrl⟩);refine zAM hmix hT ok_sgcont (by simp [encReg]) ?_;refine sts ?_;refine zAA co rfl ?_
 (repeat' (first|refine stp ?_|with_reducible(refine brr ?_ ?_<;>intro h)));all_goals try(conv=>whnf)
 ·exact zAB rfl (congrArg PV.bool (no fun e => by have := e.2.1; omega))
 ·have hlen : x.length = r.lo.length := by omega
  have hva : VaO r := dB_true.1 (by assumption);have hlh : r.hi.length = r.lo.length := by have := hva.2.2.1; omega
  refine zAG hT (fun (i : Nat) => [(1, .imm (x.map encRat)), (2, .ptr 0 0 0), (5, .int .i64 i)]) (fun _ => [(0, ⟨[encReg r], 3, true⟩)]) [] 1
   (fun i => i ≤ x.length ∧ ∀ j, j < i → qv r.lo[j]! ≤ qv x[j]! ∧ qv x[j]! ≤ qv r.hi[j]!) (fun i => x.length - i) 0 ⟨Nat.zero_le _, fun j h => (by omega)⟩ (by decide) (by simp) ?_ ?_
  ·exact ⟨[0], [], [], [], ttt, ⟨zAD rfl rfl, apx, zAC rfl rfl, trivial⟩, ⟨bbx, trivial⟩, by simp [ren]⟩
  intro i ⟨i1, i2⟩;by_cases hi : i < x.length
  ·have hi1 : i < r.lo.length := by omega
   have hi2 : i < r.hi.length := by omega
   have q0 := zA7 hx hi;have q1 := zA7 hlo hi1;have q2 := zA7 hhi hi2;have c1 := zDK x[i]! r.lo[i]! q0.1 q1.1 (by have := q0.2; omega) (by have := q0.2; omega) (by have := q1.2; omega) (by have := q1.2; omega);have c2 := zDK x[i]! r.hi[i]! q0.1 q2.1 (by have := q0.2; omega) (by have := q0.2; omega) (by have := q2.2; omega) (by have := q2.2; omega)
   (repeat' (first|refine stp ?_|with_reducible(refine brr ?_ ?_<;>intro h)));all_goals try(conv=>whnf)
   ·refine zAA c1 rfl ?_
    (repeat' (first|refine stp ?_|with_reducible(refine brr ?_ ?_<;>intro h)));all_goals try(conv=>whnf)
    ·exact zAB rfl (congrArg PV.bool (no fun e => by have := sgn_ge.2 (e.2.2.1 i hi).1; omega))
    ·refine zAA c2 rfl ?_
     (repeat' (first|refine stp ?_|with_reducible(refine brr ?_ ?_<;>intro h)));all_goals try(conv=>whnf)
     ·exact zAB rfl (congrArg PV.bool (no fun e => by have := sgn_le.2 (e.2.2.1 i hi).2; omega))
     ·exact ⟨i + 1, ⟨⟨by omega, fun j hj => zA2 (p := fun j => qv r.lo[j]! ≤ qv x[j]! ∧ qv x[j]! ≤ qv r.hi[j]!) i2 ⟨sgn_ge.1 (by omega), sgn_le.1 (by omega)⟩ hj⟩, by show x.length - (i + 1) < x.length - i; omega⟩, [0], [], [], [], ttt, ⟨zAD rfl rfl, apx, zAC rfl rfl, trivial⟩, ⟨bbx, trivial⟩, by simp [ren]⟩
   all_goals (exfalso; omega)
  ·(repeat' (first|refine stp ?_|with_reducible(refine brr ?_ ?_<;>intro h)));all_goals try(conv=>whnf)
   all_goals try (exfalso; omega)
   refine zAG hT (fun (i : Nat) => [(1, .imm (x.map encRat)), (2, .ptr 0 0 0), (6, .int .i64 i)]) (fun _ => [(0, ⟨[encReg r], 3, true⟩)]) [] 1
    (fun i => i ≤ r.rows.length ∧ ∀ j, j < i → 0 ≤ evQ r.rows[j]!.Q (x.map qv)) (fun i => r.rows.length - i) 0 ⟨Nat.zero_le _, fun j h => (by omega)⟩ (by decide) (by simp) ?_ ?_
   ·exact ⟨[0], [], [], [], ttt, ⟨zAD rfl rfl, apx, zAC rfl rfl, trivial⟩, ⟨bbx, trivial⟩, by simp [ren]⟩
   intro k1 ⟨k1a, k1b⟩;by_cases hk' : k1 < r.rows.length
   ·have hv := hva.2.2.2.2.2 k1 hk'
    rw [← hlen] at hv;have hF := zCC hv;have ha := hrw _ (get_mem hk');have hs := zBT ha hk1;have hlf := ha.2.2;have hkk := hk _ (get_mem hk');have hvx : ∀ p ∈ r.rows[k1]!.Q.ts, 0 ≤ p.1 ∧ p.1 < x.length := fun p hp => hF.2 p hp
    have ql := zE1 r.rows[k1]!;have ce := c_rlevalW r.rows[k1]!.Q x k kx hs hkx hx.2 hvx (by rw [ql]; exact hkk) (by omega) hx.1;rw [← encF_of hv] at ce
    have hz := zM3 (kx := kx) (x := x.map qv) hs (fun q hq => by
     obtain ⟨y, hy, rfl⟩ := List.mem_map.1 hq;have := hx.2 y hy
     exact zEG this.1 this.2.1 this.2.2 hkx) (fun p hp => by simpa using hvx p hp)
    rw [ql] at hz;have hl4 := zAJ hz;have cs := zDG (cr (evQ r.rows[k1]!.Q (x.map qv))) (zAF _) (by omega);rw [zAL] at cs
    (repeat' (first|refine stp ?_|with_reducible(refine brr ?_ ?_<;>intro h)));all_goals try(conv=>whnf)
    ·refine zAA ce rfl ?_
     refine sts ?_;refine zAA cs rfl ?_
     (repeat' (first|refine stp ?_|with_reducible(refine brr ?_ ?_<;>intro h)));all_goals try(conv=>whnf)
     ·exact zAB rfl (congrArg PV.bool (no fun e => by have := sgnQ_neg.1 h; have := e.2.2.2 k1 hk'; grind))
     ·exact ⟨k1 + 1, ⟨⟨by omega, fun j hj => zA2 (p := fun j => 0 ≤ evQ r.rows[j]!.Q (x.map qv)) k1b (Rat.not_lt.1 fun e => by have := sgnQ_neg.2 e; omega) hj⟩, by show r.rows.length - (k1 + 1) < r.rows.length - k1; omega⟩, [0], [], [], [], ttt, ⟨zAD rfl rfl, apx, zAC rfl rfl, trivial⟩, ⟨bbx, trivial⟩, by simp [ren]⟩
    all_goals (exfalso; omega)
   ·(repeat' (first|refine stp ?_|with_reducible(refine brr ?_ ?_<;>intro h)));all_goals try(conv=>whnf)
    all_goals try (exfalso; omega)
    exact zAB rfl (congrArg PV.bool (zM8 ⟨hva, hlen, fun j hj => i2 j (by omega), fun j hj => k1b j (by omega)⟩))
 ·exact zAB rfl (congrArg PV.bool (no fun e => dB_false.1 h e.1))
end Go.PI.Tryz
namespace Go.PI.Tryz
open Go.Proofs Go.PI
theorem zN5 {l : List Rat} {i : Nat} {q : Rat} (h : i < l.length) (e : q = l[i]!) : (l.take i).map encX ++ [encRat (cr q)] = (l.take (i + 1)).map encX := by
 subst e; exact zIH h
theorem ok_sgcenter : FO 27 Tryz.f27 [.tmp 2] 38 := mkO Tryz.func27 Tryz.ntmps27 Tryz.results27
theorem zOV (r : RegL) (hr : okReg 100000 r) : Fn 27 [encReg r] (.data (.imm ((ceR r).map encX))) := by
 have co := c_sgown r (zCE (by decide) hr);have l1 := hr.1.1;have ch := zHH 1 2 (by decide) (by decide);rw [show mkRat 1 (2 : Int).natAbs = halfQ by decide +kernel] at ch;refine zAM hmix hT ok_sgcenter (by simp [encReg]) ?_;refine sts ?_;refine zAA co rfl ?_
 (repeat' (first|refine stp ?_|with_reducible(refine brr ?_ ?_<;>intro h)));all_goals try(conv=>whnf)
 ·have hva : VaO r := dB_true.1 (by assumption)
  have hlh : r.hi.length = r.lo.length := by have := hva.2.2.1; omega
  have hce : ceR r = (List.range r.lo.length).map fun i => halfQ * (qv r.lo[i]! + qv r.hi[i]!) := by
   unfold ceR; rw [if_pos hva];refine List.ext_getElem (by simp [hlh]) fun j h1 h2 => ?_
   have h3 : j < r.lo.length := by simpa using h2
   have h4 : j < r.hi.length := by omega
   simp [h3, h4]
  rw [hce];obtain ⟨Y, hY⟩ : ∃ Y, ((List.range r.lo.length).map fun i => halfQ * (qv r.lo[i]! + qv r.hi[i]!)) = Y := ⟨_, rfl⟩;have hYl : Y.length = r.lo.length := by rw [← hY]; simp
  have hYg : ∀ i, i < r.lo.length → halfQ * (qv r.lo[i]! + qv r.hi[i]!) = Y[i]! := fun i hi => by rw [← hY, zBK hi]
  rw [hY];refine zAA ch rfl ?_;refine sts ?_
  refine zBV hT [(.sl 5, 3, true)] (fun (i : Nat) => [(1, .ptr 0 0 0), (3, .ptr 1 0 0), (5, .own 2 0 i), (6, .int .i64 i)]) (fun i => [(0, ⟨[encReg r], 3, true⟩), (1, ⟨[encRat (cr halfQ)], 3, true⟩), (2, ⟨(Y.take i).map encX, 3, true⟩)]) [] 3
   (fun i => i ≤ r.lo.length) (fun i => r.lo.length - i) 0 (Nat.zero_le _) (by decide) (by simp) ⟨rfl, trivial⟩ ?_ ?_
  ·exact ⟨[0, _, _], [], [], [], ttt, ⟨(apy rfl), (apy rfl), zAH (by decide) rfl rfl, zAC rfl rfl, trivial⟩, ⟨bbx, bbx, zAE (by decide) rfl rfl (zAV fun _ => ⟨rfl, by simp [encX, encRat]⟩) rfl, trivial⟩, by simp [ren]⟩
  intro i i1;have hlen : (Y.take i).length = i := by rw [List.length_take]; omega
  by_cases hi : i < r.lo.length
  ·have hi2 : i < r.hi.length := by omega
   have q1 := zA7 hr.1 hi;have q2 := zA7 hr.2.1 hi2;have c1 := zC9 r.lo[i]! r.hi[i]! q1.1 q2.1 (by have := q1.2; omega) (by have := q1.2; omega) (by have := q2.2; omega) (by have := q2.2; omega);have s1 := zBR (zEG q1.1 q1.2.1 q1.2.2 (by decide)) (zEG q2.1 q2.2.1 q2.2.2 (by decide));have l2 := zAJ s1;have c2 := zG1 (cr halfQ) (cr (qv r.lo[i]! + qv r.hi[i]!)) (zAF _) (zAF _) (by decide +kernel) (by decide +kernel) (by omega) (by omega);rw [zAL, zAL] at c2
   (repeat' (first|refine stp ?_|with_reducible(refine brr ?_ ?_<;>intro h)));all_goals try(conv=>whnf)
   ·refine zAA c1 rfl ?_
    refine sts ?_;refine zAA c2 rfl ?_;refine sts ?_;exact ⟨i + 1, ⟨by omega, by show r.lo.length - (i + 1) < r.lo.length - i; omega⟩, [0, 1, _], [], [], [], ttt, ⟨(apy rfl), (apy rfl), zAH (by decide) rfl rfl, zAC rfl rfl, trivial⟩, ⟨bbx, bbx, zAE (by decide) rfl (zN5 (by omega) (hYg i hi)) (zAV fun _ => ⟨rfl, by simp [encX, encRat]⟩) rfl, trivial⟩, by simp [ren]⟩
   all_goals (exfalso; omega)
  ·(repeat' (first|refine stp ?_|with_reducible(refine brr ?_ ?_<;>intro h)));all_goals try(conv=>whnf)
   all_goals try (exfalso; omega)
   exact zAB (zAI rfl rfl (by omega) fun q => zCH (cr q)) (by rw [List.take_of_length_le (by omega)])
 ·rw [show ceR r = [] by unfold ceR; rw [if_neg (dB_false.1 h)]]
  exact zAB rfl rfl
def coL (r : RegL) (b i : Nat) : List RatL := (List.range r.lo.length).map fun j => if decide (j < i) && bitAt b j then r.hi[j]! else r.lo[j]!
theorem coL_len {r : RegL} {b i : Nat} : (coL r b i).length = r.lo.length := by simp [coL]
theorem coL_zero {r : RegL} {b : Nat} : r.lo = coL r b 0 := by
 unfold coL;refine zHC (by simp) fun j hj => ?_
 rw [zBK hj]; simp
theorem coL_get {r : RegL} {b i j : Nat} (h : j < r.lo.length) : (coL r b i)[j]! = if decide (j < i) && bitAt b j then r.hi[j]! else r.lo[j]! := by unfold coL; rw [zBK h]
theorem coL_set {r : RegL} {b i : Nat} (hi : i < r.lo.length) (h : bitAt b i = true) : (coL r b i).set i r.hi[i]! = coL r b (i + 1) := by
 refine zHC (by simp [coL]) fun j hj => ?_
 have hj : j < r.lo.length := by simpa [coL] using hj
 rw [coL_get hj];by_cases e : j = i
 ·subst e
  rw [getElem!_pos _ j (by simpa [coL] using hj), List.getElem_set_self];simp [h]
 ·rw [getElem!_pos _ j (by simpa [coL] using hj), List.getElem_set_ne (Ne.symm e), ← getElem!_pos, coL_get hj]
  have : decide (j < i + 1) = decide (j < i) := decide_eq_decide.2 (by omega);rw [this]
theorem coL_keep {r : RegL} {b i : Nat} (h : bitAt b i = false) : coL r b i = coL r b (i + 1) := by
 refine zHC (by simp [coL]) fun j hj => ?_
 have hj : j < r.lo.length := by simpa [coL] using hj
 rw [coL_get hj, coL_get hj];by_cases e : j = i
 ·subst e; simp [h]
 ·have : decide (j < i + 1) = decide (j < i) := decide_eq_decide.2 (by omega)
  rw [this]
theorem coL_end {r : RegL} {b i : Nat} (h : r.lo.length ≤ i ∨ 64 ≤ i) : coL r b i = (List.range r.lo.length).map fun j => if bitAt b j then r.hi[j]! else r.lo[j]! := by
 unfold coL;refine List.map_congr_left fun j hj => ?_
 have hj : j < r.lo.length := by simpa using hj
 by_cases hb : bitAt b j = true
 ·have : j < 64 := by unfold bitAt at hb; simp at hb; exact hb.1
  rw [show decide (j < i) = true from decide_eq_true (by omega)]; simp
 ·simp at hb; simp [hb]
theorem ok_sgcorner : FO 28 Tryz.f28 [.tmp 4] 38 := mkO Tryz.func28 Tryz.ntmps28 Tryz.results28
theorem zOU (r : RegL) (b : Nat) (hr : okReg 950000000 r) (hb : b < 18446744073709551616) : Fn 28 [encReg r, .int .u64 b] (.data (.imm ((coR r b).map encX))) := by
 have co := c_sgown r hr;have l1 := hr.1.1
 have e1 : ∀ i : Nat, i < 64 → bitF .and .u64 ((b : Int).fdiv (shl2 .u64 i)) 1 = ((b / 2 ^ i % 2 : Nat) : Int) := fun i h => by
  rw [zGA (j := i) (by show min (i : Int).toNat 64 = i; omega)];have : ((b : Int) / 2 ^ i) = ((b / 2 ^ i : Nat) : Int) := by simp
  rw [this];exact zO0 (Nat.lt_of_le_of_lt (Nat.div_le_self _ _) hb)
 refine zAM hmix hT ok_sgcorner (by simp [encReg]) ?_;refine sts ?_;refine zAA co rfl ?_
 (repeat' (first|refine stp ?_|with_reducible(refine brr ?_ ?_<;>intro h)));all_goals try(conv=>whnf)
 ·have hva : VaO r := dB_true.1 (by assumption)
  have hlh : r.hi.length = r.lo.length := by have := hva.2.2.1; omega
  rw [coR_at hva]
  refine zAG hT (fun (i : Nat) => [(1, .int .u64 b), (2, .ptr 0 0 0), (5, .own 1 0 r.lo.length), (6, .int .i64 i)]) (fun i => [(0, ⟨[encReg r], 3, true⟩), (1, ⟨(coL r b i).map encRat, 3, true⟩)]) [] 2
   (fun i => i ≤ r.lo.length ∧ i ≤ 64) (fun i => r.lo.length - i) 0 ⟨Nat.zero_le _, by decide⟩ (by decide) (by simp) ?_ ?_
  ·exact ⟨[0, _], [], [], [], ttt, ⟨zAC rfl rfl, (apy rfl), zAH (by decide) rfl (by simp), zAC rfl rfl, trivial⟩, ⟨bbx, zAE (by decide) rfl (by rw [← coL_zero]; rfl) (zAV fun _ => ⟨rfl, by simp [encRat]⟩) rfl, trivial⟩, by simp [ren]⟩
  intro i ⟨i1, i2⟩;have hcl := coL_len (r := r) (b := b) (i := i);by_cases hi : i < r.lo.length
  ·have hi2 : i < r.hi.length := by omega
   (repeat' (first|refine stp ?_|with_reducible(refine brr ?_ ?_<;>intro h)));all_goals try(conv=>whnf)
   ·rw [e1 i (by omega)] at h
    have hbit : bitAt b i = true := decide_eq_true ⟨by omega, by omega⟩;have hset := coL_set hi hbit;refine zA0 i (by omega) (by omega) ?_;refine sts ?_;exact ⟨i + 1, ⟨⟨by omega, by omega⟩, by show r.lo.length - (i + 1) < r.lo.length - i; omega⟩, [0, _], [], [], [], ttt, ⟨zAC rfl rfl, (apy rfl), zAH (by decide) rfl rfl, zAC rfl rfl, trivial⟩, ⟨bbx, zAE (by decide) rfl (by rw [← hset]; exact zBJ (f := encRat) (by simp) rfl) (zAV fun _ => ⟨rfl, by simp [encRat]⟩) rfl, trivial⟩, by simp [ren]⟩
   ·rw [e1 i (by omega)] at h
    have hbit : bitAt b i = false := decide_eq_false (by omega);exact ⟨i + 1, ⟨⟨by omega, by omega⟩, by show r.lo.length - (i + 1) < r.lo.length - i; omega⟩, [0, _], [], [], [], ttt, ⟨zAC rfl rfl, (apy rfl), zAH (by decide) rfl rfl, zAC rfl rfl, trivial⟩, ⟨bbx, zAE (by decide) rfl (by rw [← coL_keep hbit]) (zAV fun _ => ⟨rfl, by simp [encRat]⟩) rfl, trivial⟩, by simp [ren]⟩
   ·exact zAB (zAI rfl rfl (by omega) fun q => zCH q) (by rw [coL_end (by omega)])
   all_goals (exfalso; omega)
  ·(repeat' (first|refine stp ?_|with_reducible(refine brr ?_ ?_<;>intro h)));all_goals try(conv=>whnf)
   all_goals try (exfalso; omega)
   all_goals exact zAB (zAI rfl rfl (by omega) fun q => zCH q) (by rw [coL_end (by omega)])
 ·rw [show coR r b = [] by unfold coR; rw [if_neg (dB_false.1 h)]]
  exact zAB rfl rfl
def okBy (l : List Int) : Prop := l.length ≤ 1048576 ∧ ∀ x ∈ l, 0 ≤ x ∧ x < 256
theorem ok_sgins : FO 12 Tryz.f12 [.tmp 4] 55 := mkO Tryz.func12 Tryz.ntmps12 Tryz.results12
theorem c_sgins (r : RegL) (l : List Int) (hr : okReg 10000000 r) (hlh : r.hi.length = r.lo.length) (hl : okBy l) : Fn 12 [encReg r, .imm (l.map (.int .u8))] (.data (.imm ((insR r l).map encX))) := by
 have l1 := hr.1.1;have l2 := hl.1;obtain ⟨Y, hY⟩ : ∃ Y, insR r l = Y := ⟨_, rfl⟩;have hYl : Y.length = r.lo.length := by rw [← hY]; simp [insR]
 have hYg : ∀ i, i < r.lo.length → qv r.lo[i]! + mkRat (inK l i) 8 * (qv r.hi[i]! - qv r.lo[i]!) = Y[i]! := fun i hi => by rw [← hY]; unfold insR; rw [zBK hi]
 rw [hY];refine zAM hmix hT ok_sgins (by simp [encReg]) ?_;refine sts ?_
 refine zBV hT [(.sl 5, 3, true)] (fun (i : Nat) => [(1, .imm (l.map (.int .u8))), (2, .ptr 0 0 0), (5, .own 1 0 i), (6, .int .i64 i)]) (fun i => [(0, ⟨[encReg r], 3, true⟩), (1, ⟨(Y.take i).map encX, 3, true⟩)]) [] 2
  (fun i => i ≤ r.lo.length) (fun i => r.lo.length - i) 0 (Nat.zero_le _) (by decide) (by simp) ⟨rfl, trivial⟩ ?_ ?_
 ·exact ⟨[0, _], [], [], [], ttt, ⟨zAD rfl rfl, (apy rfl), zAH (by decide) rfl rfl, zAC rfl rfl, trivial⟩, ⟨bbx, zAE (by decide) rfl rfl (zAV fun _ => ⟨rfl, by simp [encX, encRat]⟩) rfl, trivial⟩, by simp [ren]⟩
 intro i i1;have hlen : (Y.take i).length = i := by rw [List.length_take]; omega
 by_cases hi : i < r.lo.length
 ·have hi2 : i < r.hi.length := by omega
  have q1 := zA7 hr.1 hi;have q2 := zA7 hr.2.1 hi2;have cf := zHH (inK l i) 8 (by unfold inK; split <;> omega) (by decide);have s1 := zEG q1.1 q1.2.1 q1.2.2 (k := 10000000) (by decide);have s2 := zEG q2.1 q2.2.1 q2.2.2 (k := 10000000) (by decide);have c1 := zNH r.hi[i]! r.lo[i]! q2.1 q1.1 (by have := q2.2; omega) (by have := q2.2; omega) (by have := q1.2; omega) (by have := q1.2; omega);have s3 := sz_sub s2 s1;have l3 := zAJ s3;have sp := sz_part l i;have lp := zAJ sp;have c2 := zG1 (cr (mkRat (inK l i) 8)) (cr (qv r.hi[i]! - qv r.lo[i]!)) (zAF _) (zAF _) (by omega) (by omega) (by omega) (by omega);rw [zAL, zAL] at c2;have s4 := zB2 sp s3;have l4 := zAJ s4;have c3 := zC9 r.lo[i]! (cr (mkRat (inK l i) 8 * (qv r.hi[i]! - qv r.lo[i]!))) q1.1 (zAF _) (by have := q1.2; omega) (by have := q1.2; omega) (by omega) (by omega);rw [zAL] at c3;rw [show (8 : Int).natAbs = 8 from rfl] at cf;have fin := zN5 (l := Y) (i := i) (by omega) (hYg i hi);by_cases hb : i < l.length
  ·have hx := hl.2 _ (get_mem hb)
   have hk : inK l i = l[i]!.toNat % 9 := by unfold inK; rw [if_pos hb]
   have ht : l[i]!.tmod 9 = ((inK l i : Nat) : Int) := by rw [Int.tmod_eq_emod_of_nonneg (by omega), hk]; omega
   have hlt : inK l i < 9 := by omega
   (repeat' (first|refine stp ?_|with_reducible(refine brr ?_ ?_<;>intro h)));all_goals try(conv=>whnf)
   all_goals try (exfalso; omega)
   rw [ht];refine sts ?_;refine zAA cf rfl ?_;refine sts ?_;refine zAA c1 rfl ?_;refine sts ?_;refine zAA c2 rfl ?_;refine sts ?_;refine zAA c3 rfl ?_;refine sts ?_;exact ⟨i + 1, ⟨by omega, by show r.lo.length - (i + 1) < r.lo.length - i; omega⟩, [0, _], [], [], [], ttt, ⟨zAD rfl rfl, (apy rfl), zAH (by decide) rfl rfl, zAC rfl rfl, trivial⟩, ⟨bbx, zAE (by decide) rfl fin (zAV fun _ => ⟨rfl, by simp [encX, encRat]⟩) rfl, trivial⟩, by simp [ren]⟩
  ·have hk : inK l i = 0 := by unfold inK; rw [if_neg hb]
   rw [hk] at cf c2 c3 fin
   (repeat' (first|refine stp ?_|with_reducible(refine brr ?_ ?_<;>intro h)));all_goals try(conv=>whnf)
   all_goals try (exfalso; omega)
   refine zAA cf rfl ?_;refine sts ?_;refine zAA c1 rfl ?_;refine sts ?_;refine zAA c2 rfl ?_;refine sts ?_;refine zAA c3 rfl ?_;refine sts ?_;exact ⟨i + 1, ⟨by omega, by show r.lo.length - (i + 1) < r.lo.length - i; omega⟩, [0, _], [], [], [], ttt, ⟨zAD rfl rfl, (apy rfl), zAH (by decide) rfl rfl, zAC rfl rfl, trivial⟩, ⟨bbx, zAE (by decide) rfl fin (zAV fun _ => ⟨rfl, by simp [encX, encRat]⟩) rfl, trivial⟩, by simp [ren]⟩
 ·(repeat' (first|refine stp ?_|with_reducible(refine brr ?_ ?_<;>intro h)));all_goals try(conv=>whnf)
  all_goals try (exfalso; omega)
  exact zAB (zAI rfl rfl (by omega) fun q => zCH (cr q)) (by rw [List.take_of_length_le (by omega)])
end Go.PI.Tryz
namespace Go.PI.Tryz
open Go.Proofs Go.PI
theorem ok_fnew : FO 35 Tryz.f35 [.tmp 2] 8 := mkO Tryz.func35 Tryz.ntmps35 Tryz.results35
theorem c_fnew (l : List Int) (hl : okBy l) : Fn 35 [.imm (l.map (.int .u8))] (.own none (.ptr 0 0 0) (fdB l 0)) := by
 have l1 := hl.1;refine zEW hmix hT ok_fnew (by simp) ?_;refine sus ?_;refine zA5 ?_;refine sus ?_
 refine tellV [] [(2, .ptr 1 0 0)] [(1, fdB l 0)] [] 2 (by decide) (by simp) trivial
  ⟨[_], [4], [], [(6, [.agg [.imm (l.map (.int .u8)), .int .i64 0]])], ⟨⟨⟨_, rfl⟩, trivial⟩, trivial, ⟨⟨_, 6, _, rfl, zAR (zD4 (zAR (zAI (f := .int .u8) (l := l) rfl rfl (by simp) (fun x => by rfl)) rfl)) rfl, rfl⟩, trivial⟩⟩, ⟨(apy rfl), trivial⟩, ⟨bbx, trivial⟩, by simp [ren]⟩ ?_
 refine sts ?_;exact zER (r := 1) rfl rfl rfl rfl (fun e he => by simp at he; subst he; rfl) (Or.inr ⟨rfl, by simp⟩)
theorem ok_fnext : FO 127 Tryz.f127 [.tmp 4] 36 := mkO Tryz.func127 Tryz.ntmps127 Tryz.results127
theorem zIB (l : List Int) (a n : Nat) (hl : okBy l) (ha : a ≤ l.length) (hn : 0 < n ∧ n < 1000) : Fn 127 [.ptr 0 0 0, .int .i64 n] (.wrt (fdB l a) (.int .i64 (nx1 l a n)) (fdB l (nx2 l a))) := by
 have l1 := hl.1;refine zCT hmix hT ok_fnext (by simp) ?_;by_cases hi : a < l.length
 ·have hx := hl.2 l[a]! (by rw [getElem!_pos l a hi]; exact List.getElem_mem hi)
  have e1 : nx1 l a n = l[a]!.toNat % n := by unfold nx1; rw [if_pos hi]
  have e2 : nx2 l a = a + 1 := by unfold nx2; rw [if_pos hi]
  (repeat' (first|refine stp ?_|with_reducible(refine brr ?_ ?_<;>intro h)));all_goals try(conv=>whnf)
  all_goals try (exfalso; omega)
  refine zA0 a (by omega) hi ?_;refine sts ?_
  rw [show l[a]!.tmod n = ((nx1 l a n : Nat) : Int) by
   rw [Int.tmod_eq_emod_of_nonneg (by omega), e1];obtain ⟨b, hb⟩ := Int.eq_ofNat_of_zero_le hx.1;rw [hb]
   rfl, e2]
  exact zCP rfl rfl rfl rfl rfl (fun e he => by simp at he; subst he; rfl)
 ·have e1 : nx1 l a n = 0 := by unfold nx1; rw [if_neg hi]
  have e2 : nx2 l a = a := by unfold nx2; rw [if_neg hi]
  rw [e1, e2]
  (repeat' (first|refine stp ?_|with_reducible(refine brr ?_ ?_<;>intro h)));all_goals try(conv=>whnf)
  all_goals try (exfalso; omega)
  exact zCP rfl rfl rfl rfl rfl (fun e he => by simp at he; subst he; rfl)
theorem zEB (l : List Int) (a : Nat) : nrs (fdB l a) := fun e he => by simp [fdB] at he; subst he; rfl
theorem ok_fnum : FO 128 Tryz.f128 [.cell 2 35] 17 := mkO Tryz.func128 Tryz.ntmps128 Tryz.results128
theorem c_fnum (l : List Int) (a : Nat) (hl : okBy l) (ha : a ≤ l.length) : Fn 128 [.ptr 0 0 0] (.wrt (fdB l a) (encRat (cr (numQ l a))) (fdB l (numA l a))) := by
 have c1 := zIB l a 9 hl ha (by decide);have c2 := zIB l (nx2 l a) 4 hl (zEF ha) (by decide);have h1 := zHP (l := l) (a := a) (n := 9) (by decide);have h2 := zHP (l := l) (a := nx2 l a) (n := 4) (by decide);have hq : numQ l a = mkRat ((nx1 l a 9 : Int) - 4) (den4 (nx1 l (nx2 l a) 4)) := rfl;have hA : numA l a = nx2 l (nx2 l a) := rfl;rw [hq, hA];generalize nx1 l a 9 = k1 at *
 generalize nx1 l (nx2 l a) 4 = k2 at *
 have cf : ∀ D : Nat, 0 < D → D < 10 → den4 k2 = D → Fn 32 [.int .i64 ((k1 : Int) - 4), .int .i64 D] (.data (.tup [encRat (cr (mkRat ((k1 : Int) - 4) (den4 k2))), .int .i64 0])) := fun D h3 h4 e => by
  have := zHH ((k1 : Int) - 4) D (by omega) (by omega);rw [show ((D : Int)).natAbs = den4 k2 by rw [e]; rfl] at this;exact this
 refine zCT hmix hT ok_fnum (by simp) ?_;refine sts ?_;refine zBG (r := 0) c1 rfl rfl rfl rfl (zEB _ _) (zGW _ _) ?_;refine sts ?_;refine zBG (r := 0) c2 rfl rfl rfl rfl (zEB _ _) (zGW _ _) ?_;rcases (show k2 = 0 ∨ k2 = 1 ∨ k2 = 2 ∨ k2 = 3 by omega) with rfl | rfl | rfl | rfl
 ·refine sts ?_
  refine zAA (cf 1 (by decide) (by decide) rfl) rfl ?_;refine sts ?_;exact zCP rfl rfl rfl rfl rfl (zEB _ _)
 ·refine sts ?_
  refine zAA (cf 1 (by decide) (by decide) rfl) rfl ?_;refine sts ?_;exact zCP rfl rfl rfl rfl rfl (zEB _ _)
 ·refine sts ?_
  refine zAA (cf 2 (by decide) (by decide) rfl) rfl ?_;refine sts ?_;exact zCP rfl rfl rfl rfl rfl (zEB _ _)
 ·refine sts ?_
  refine zAA (cf 4 (by decide) (by decide) rfl) rfl ?_;refine sts ?_;exact zCP rfl rfl rfl rfl rfl (zEB _ _)
theorem encF_varF (v : Int) : encF (varQ v) = .agg [.imm [encQ (v, 1)], .bool false, .imm [], .imm []] := by unfold encF varQ; rw [zGB]; rfl
theorem ok_rvar : FO 121 Tryz.f121 [.cell 2 37] 8 := mkO Tryz.func121 Tryz.ntmps121 Tryz.results121
theorem c_rvar (v : Int) : Fn 121 [.int .i64 v] (.data (encF (varQ v))) := by
 have c1 := zFY 1 (by decide);rw [show ((1 : Int) : Rat) = 1 by rfl] at c1;rw [encF_varF];refine zAM hmix hT ok_rvar (by simp) ?_;refine sts ?_;refine zAA c1 rfl ?_;refine sts ?_;exact zAB rfl rfl
theorem scale_var (v : Int) (q : Rat) (f : QF) (hf : Srt f.ts) : addR f (scaleR (varQ v) q) = mergeQ f (varQ v) q := zNP hf (varQ_srt v) q
theorem scaleR_var_sz (v : Int) {q : Rat} (hq : sz 1 q) : szF 2 (scaleR (varQ v) q) ∧ (scaleR (varQ v) q).ts.length ≤ 1 := by
 have h0 : sz 2 ((0 : Rat) * q) := by rw [Rat.zero_mul]; exact (zEH 2 (by decide)).1
 refine ⟨⟨h0, fun p hp => ?_⟩, ?_⟩
 ·simp only [scaleR, sclL, varQ, List.flatMap_cons, List.flatMap_nil, List.append_nil] at hp
  have e := zDI hp;rw [e];show sz 2 ((1 : Rat) * q)
  rw [Rat.one_mul]; exact zA4 (by decide) hq
 ·simp only [scaleR, sclL, varQ, List.flatMap_cons, List.flatMap_nil, List.append_nil, nzq]
  split <;> simp
theorem ok_fform : FO 71 Tryz.f71 [.cell 4 37] 26 := mkO Tryz.func71 Tryz.ntmps71 Tryz.results71
theorem c_fform (l : List Int) (a m : Nat) (hl : okBy l) (ha : a ≤ l.length) (hm : m ≤ 20) : Fn 71 [.ptr 0 0 0, .int .i64 m] (.wrt (fdB l a) (encF (frmI l a m).1) (fdB l (frmI l a m).2)) := by
 have c0 := c_fnum l a hl ha;refine zCT hmix hT ok_fform (by simp) ?_;refine sts ?_;refine zBG (r := 0) c0 rfl rfl rfl rfl (zEB _ _) (zGW _ _) ?_;refine sts ?_
 refine zAG hT (fun (i : Nat) => [(0, .ptr 0 0 0), (1, .int .i64 m), (4, .ptr 1 0 0), (5, .ptr 2 0 0), (6, .int .i64 i)]) (fun i => [(0, fdB l (frmI l a i).2), (1, ⟨[.agg [.nilsl, .bool false, .nilsl, .nilsl]], 4, true⟩), (2, ⟨[encF (frmI l a i).1], 4, true⟩)]) [] 3
  (fun i => i ≤ m) (fun i => m - i) 0 (Nat.zero_le _) (by decide) (by simp) ?_ ?_
 ·exact ⟨[_, _], [], [], [(5, [encF ⟨[], numQ l a⟩])], ⟨trivial, trivial, ⟨⟨_, 6, _, rfl, rfl, rfl⟩, trivial⟩⟩, ⟨(apy rfl), zAC rfl rfl, (apy rfl), (apy rfl), zAC rfl rfl, trivial⟩,
   ⟨bbx, bbx, bbx, trivial⟩, by simp [ren]⟩
 intro i i1;obtain ⟨g1, g2, g3, g4⟩ := zGV ha i;by_cases hi : i < m
 ·have c1 := zIB l (frmI l a i).2 3 hl g4 (by decide)
  have c2 := c_fnum l (nx2 l (frmI l a i).2) hl (zEF g4);have c3 := c_rvar i;have hq := zGO l (nx2 l (frmI l a i).2);have c4 := zJE (varQ i) (numQ l (nx2 l (frmI l a i).2)) 1 1 (varQ_sz i) hq (by decide) (by show 1 ≤ _; decide);obtain ⟨s1, s2⟩ := scaleR_var_sz i hq;have hmul : ((scaleR (varQ i) (numQ l (nx2 l (frmI l a i).2))).ts.length + 1) * (2 + 1) ≤ (1 + 1) * (2 + 1) := Nat.mul_le_mul_right _ (by omega);have c5 := c_radd (frmI l a i).1 (scaleR (varQ i) (numQ l (nx2 l (frmI l a i).2))) (1 + 3 * i) 2 g2 s1 (by omega) (by omega);rw [scale_var i _ _ g1.1] at c5;have hI : frmI l a (i + 1) = frmS l i (frmI l a i) := rfl
  (repeat' (first|refine stp ?_|with_reducible(refine brr ?_ ?_<;>intro h)));all_goals try(conv=>whnf)
  ·refine zBG (r := 0) c1 rfl rfl rfl rfl (zEB _ _) (zGW _ _) ?_
   (repeat' (first|refine stp ?_|with_reducible(refine brr ?_ ?_<;>intro h)));all_goals try(conv=>whnf)
   ·refine zAA c3 rfl ?_
    refine sts ?_;refine zBG (r := 0) c2 rfl rfl rfl rfl (zEB _ _) (zGW _ _) ?_;refine sts ?_;refine zAA c4 rfl ?_;refine sts ?_;refine zAA c5 rfl ?_;refine sts ?_;have hs : frmS l i (frmI l a i) = (mergeQ (frmI l a i).1 (varQ i) (numQ l (nx2 l (frmI l a i).2)), numA l (nx2 l (frmI l a i).2)) := by unfold frmS; rw [if_pos (by omega)]
    rw [hs] at hI
    exact ⟨i + 1, ⟨by omega, by show m - (i + 1) < m - i; omega⟩, [1, 2], [], [], [], ttt, ⟨apx, zAC rfl rfl, apx, apx, zAC rfl rfl, trivial⟩,
     ⟨zBF (by decide) rfl (by rw [hI]) rfl rfl rfl, bbx, zBF (by decide) rfl (by rw [hI]; rfl) rfl rfl rfl, trivial⟩, by simp [ren]⟩
   ·have hs : frmS l i (frmI l a i) = ((frmI l a i).1, nx2 l (frmI l a i).2) := by unfold frmS; rw [if_neg (by omega)]
    rw [hs] at hI
    exact ⟨i + 1, ⟨by omega, by show m - (i + 1) < m - i; omega⟩, [1, 2], [], [], [], ttt, ⟨apx, zAC rfl rfl, apx, apx, zAC rfl rfl, trivial⟩,
     ⟨zBF (by decide) rfl (by rw [hI]) rfl rfl rfl, bbx, zBF (by decide) rfl (by rw [hI]) rfl rfl rfl, trivial⟩, by simp [ren]⟩
  all_goals (exfalso; omega)
 ·obtain rfl : i = m := by omega
  (repeat' (first|refine stp ?_|with_reducible(refine brr ?_ ?_<;>intro h)));all_goals try(conv=>whnf)
  all_goals try (exfalso; omega)
  exact zCP rfl rfl rfl rfl rfl (zEB _ _)
end Go.PI.Tryz
namespace Go.PI.Tryz
open Go.Proofs Go.PI
end Go.PI.Tryz
namespace Go.PI.Tryz
open Go.Proofs Go.PI
theorem rn_own3 {k a' b' c' n1 n2 n3 : Nat} {ρ : Nat → Nat} {a b e : Nat} (h1 : a = ρ a') (h2 : b = ρ b') (h3 : e = ρ c') (g1 : a' < k) (g2 : b' < k) (g3 : c' < k) : rn ρ k 3 (.agg [.own a' 0 n1, .own b' 0 n2, .own c' 0 n3]) (.agg [.own a 0 n1, .own b 0 n2, .own e 0 n3]) := by
 subst h1 h2 h3; exact ⟨⟨g1, rfl⟩, ⟨g2, rfl⟩, ⟨g3, rfl⟩, trivial⟩
theorem frz_form {h : Hp} {n : Nat} (x : QF) : frz h (n + 1) (encF x) = some (encF x, []) := by cases n <;> rfl
theorem ok_fsmall : FO 70 Tryz.f70 [.cell 4 30] 49 := mkO Tryz.func70 Tryz.ntmps70 Tryz.results70
theorem c_fsmall (l : List Int) (a m : Nat) (hl : okBy l) (ha : a ≤ l.length) (hm1 : 1 ≤ m) (hm : m ≤ 8) : Fn 70 [.ptr 0 0 0, .int .i64 m] (.wrt (fdB l a) (encReg (smR' l a m)) (fdB l (smRA l a m))) := by
 obtain ⟨A, hA⟩ : ∃ A, loI l a m = A := ⟨_, rfl⟩;obtain ⟨B, hB⟩ : ∃ B, hiI l a m = B := ⟨_, rfl⟩;have lA : A.length = m := by rw [← hA]; simp [loI]
 have lB : B.length = m := by rw [← hB]; simp [hiI]
 have gA : ∀ i, i < m → numQ l (bdA l a i) = A[i]! := fun i hi => by rw [← hA]; unfold loI; rw [zBK hi]
 have gB : ∀ i, i < m → numQ l (bdA l a i) + qv (absL (numQ l (numA l (bdA l a i)))) = B[i]! := fun i hi => by rw [← hB]; unfold hiI; rw [zBK hi]
 refine zCT hmix hT ok_fsmall (by simp) ?_;refine sts ?_
 refine zBV hT [(.cl 2 0 0, 3, true), (.cl 2 0 1, 3, true), (.cl 2 0 2, 4, true)] (fun (i : Nat) => [(0, .ptr 0 0 0), (1, .int .i64 m), (4, .ptr 1 0 0), (5, .ptr 2 0 0), (6, .int .i64 i)])
  (fun i => [(0, fdB l (bdA l a i)), (1, ⟨[.agg [.nilsl, .nilsl, .nilsl]], 3, true⟩), (2, ⟨[.agg [.own 3 0 i, .own 4 0 i, .own 5 0 0]], 3, true⟩), (3, ⟨(A.take i).map encX, 3, true⟩), (4, ⟨(B.take i).map encX, 3, true⟩), (5, ⟨[], 4, true⟩)]) [] 6
  (fun i => i ≤ m) (fun i => m - i) 0 (Nat.zero_le _) (by decide) (by simp) ⟨_, _, rfl, rfl, rfl, _, _, rfl, rfl, rfl, _, _, rfl, rfl, rfl, trivial⟩ ?_ ?_
 ·exact ⟨[1, 2, 4, 5, 6], [], [], [], ttt, ⟨apx, zAC rfl rfl, apx, apx, zAC rfl rfl, trivial⟩,
   ⟨bbx, bbx, zA8 (by decide) rfl (rn_own3 rfl rfl rfl (by decide) (by decide) (by decide)) rfl rfl, zAE (by decide) rfl rfl (zAV fun _ => ⟨rfl, by simp [encX, encRat]⟩) rfl, zAE (by decide) rfl rfl (zAV fun _ => ⟨rfl, by simp [encX, encRat]⟩) rfl, zAE (by decide) rfl rfl (fun e he => by cases he) rfl, trivial⟩, by simp [ren]⟩
 intro i i1;have hA' : (A.take i).length = i := by rw [List.length_take]; omega
 have hB' : (B.take i).length = i := by rw [List.length_take]; omega
 have hd := bdA_le ha i;by_cases hi : i < m
 ·have c1 := c_fnum l (bdA l a i) hl hd
  have c2 := c_fnum l (numA l (bdA l a i)) hl (zMS hd);have z1 := zAJ (zGO l (bdA l a i));have z2 := zAJ (zGO l (numA l (bdA l a i)));have c3 := zC9 (cr (numQ l (bdA l a i))) (absL (numQ l (numA l (bdA l a i)))) (zAF _) (absL_ok _) (by omega) (by omega) (by show (cr _).num.length < _; omega) (by show (cr _).den.length < _; omega);rw [zAL, gB i hi] at c3;rw [gA i hi] at c1 c3
  (repeat' (first|refine stp ?_|with_reducible(refine brr ?_ ?_<;>intro h)));all_goals try(conv=>whnf)
  ·refine zBG (r := 0) c1 rfl rfl rfl rfl (zEB _ _) (zGW _ _) ?_
   refine sts ?_;refine zBG (r := 0) c2 rfl rfl rfl rfl (zEB _ _) (zGW _ _) ?_;refine sts ?_;refine zAA c3 rfl ?_;refine sts ?_;have sA := zIH (ys := A) (i := i) (by omega);have sB := zIH (ys := B) (i := i) (by omega)
   exact ⟨i + 1, ⟨by omega, by show m - (i + 1) < m - i; omega⟩, [1, 2, 23, 30, 5], [], [], [], ttt, ⟨apx, zAC rfl rfl, apx, apx, zAC rfl rfl, trivial⟩,
   ⟨bbx, bbx, zA8 (by decide) rfl (rn_own3 rfl rfl rfl (by decide) (by decide) (by decide)) rfl rfl, zAE (by decide) rfl sA (zAV fun _ => ⟨rfl, by simp [encX, encRat]⟩) rfl, zAE (by decide) rfl sB (zAV fun _ => ⟨rfl, by simp [encX, encRat]⟩) rfl, zAE (by decide) rfl rfl (fun e he => by cases he) rfl, trivial⟩, by simp [ren]⟩
  all_goals (exfalso; omega)
 ·obtain rfl : i = m := by omega
  obtain ⟨R, hR⟩ : ∃ R, rwI l (nx2 l (bdA l a i)) i (nx1 l (bdA l a i) 3) = R := ⟨_, rfl⟩;have hrA : smRA l a i = rwA l (nx2 l (bdA l a i)) i (nx1 l (bdA l a i) 3) := rfl
  have hreg : encReg (smR' l a i) = .agg [.imm (A.map encX), .imm (B.map encX), .imm (R.map encF)] := by
   unfold encReg smR';rw [hA, hB, hR];simp only [List.map_map];rw [show (encAff ∘ QF.L) = encF from funext fun f => (zKF f).symm];rfl
  have c0 := zIB l (bdA l a i) 3 hl hd (by decide);have hn := zHP (l := l) (a := bdA l a i) (n := 3) (by decide);have ha1 := zEF hd;rw [hreg, hrA];have lR : R.length = nx1 l (bdA l a i) 3 := by rw [← hR]; simp [rwI]
  have gR : ∀ j, j < nx1 l (bdA l a i) 3 → (frmI l (rwA l (nx2 l (bdA l a i)) i j) i).1 = R[j]! := fun j hj => by rw [← hR]; unfold rwI; rw [zBK hj]
  generalize nx1 l (bdA l a i) 3 = n at *
  generalize nx2 l (bdA l a i) = a1 at *
  (repeat' (first|refine stp ?_|with_reducible(refine brr ?_ ?_<;>intro h)));all_goals try(conv=>whnf)
  all_goals try (exfalso; omega)
  refine zBG (r := 0) c0 rfl rfl rfl rfl (zEB _ _) (zGW _ _) ?_;refine sts ?_
  refine zAG hT (fun (j : Nat) => [(0, .ptr 0 0 0), (1, .int .i64 i), (4, .ptr 1 0 0), (5, .ptr 2 0 0), (9, .int .i64 ((n - j : Nat) : Int))])
   (fun j => [(0, fdB l (rwA l a1 i j)), (1, ⟨[.agg [.nilsl, .nilsl, .nilsl]], 3, true⟩), (2, ⟨[.agg [.own 3 0 i, .own 4 0 i, .own 5 0 j]], 3, true⟩), (3, ⟨A.map encX, 3, true⟩), (4, ⟨B.map encX, 3, true⟩), (5, ⟨(R.take j).map encF, 4, true⟩)]) [] 6
   (fun j => j ≤ n) (fun j => n - j) 0 (Nat.zero_le _) (by decide) (by simp) ?_ ?_
  ·exact ⟨[1, 2, 3, 4, 5], [], [], [], ttt, ⟨apx, zAC rfl rfl, apx, apx, zAC rfl rfl, trivial⟩,
    ⟨bbx, bbx, zA8 (by decide) rfl (rn_own3 rfl rfl rfl (by decide) (by decide) (by decide)) rfl rfl, zAE (by decide) rfl (by rw [List.take_of_length_le (by omega)]) (zAV fun _ => ⟨rfl, by simp [encX, encRat]⟩) rfl, zAE (by decide) rfl (by rw [List.take_of_length_le (by omega)]) (zAV fun _ => ⟨rfl, by simp [encX, encRat]⟩) rfl, zAE (by decide) rfl rfl (fun e he => by cases he) rfl, trivial⟩, by simp [ren]⟩
  intro j j1;have hR' : (R.take j).length = j := by rw [List.length_take]; omega
  by_cases hj : j < n
  ·have cf := c_fform l (rwA l a1 i j) i hl (zL5 ha1 j) (by omega)
   rw [gR j hj] at cf
   have sR : (R.take j).map encF ++ [encF R[j]!] = (R.take (j + 1)).map encF := by
    rw [List.take_succ_eq_append_getElem (by omega), List.map_append, getElem!_pos R j (by omega)]; rfl
   (repeat' (first|refine stp ?_|with_reducible(refine brr ?_ ?_<;>intro h)));all_goals try(conv=>whnf)
   ·refine zBG (r := 0) cf rfl rfl rfl rfl (zEB _ _) (zGW _ _) ?_
    refine sts ?_
    exact ⟨j + 1, ⟨by omega, by show n - (j + 1) < n - j; omega⟩, [1, 2, 3, 4, 14], [], [], [], ttt, ⟨apx, zAC rfl rfl, apx, apx, zAC rfl (by omega), trivial⟩,
     ⟨bbx, bbx, zA8 (by decide) rfl (rn_own3 rfl rfl rfl (by decide) (by decide) (by decide)) rfl rfl, zAE (by decide) rfl rfl (zAV fun _ => ⟨rfl, by simp [encX, encRat]⟩) rfl, zAE (by decide) rfl rfl (zAV fun _ => ⟨rfl, by simp [encX, encRat]⟩) rfl, zAE (by decide) rfl sR (zAV fun _ => ⟨rfl, by simp [encF]⟩) rfl, trivial⟩, by simp [ren]⟩
   all_goals (exfalso; omega)
  ·obtain rfl : j = n := by omega
   rw [List.take_of_length_le (by omega)];refine sus ?_;refine zA5 ?_
   (repeat' (first|refine stu ?_|with_reducible(refine brr ?_ ?_<;>intro h)));all_goals try(conv=>whnf)
   ·exfalso; omega
   refine zA5 ?_;refine sus ?_
   refine tellV [] [(4, .ptr 1 0 0)] [(0, fdB l (rwA l a1 i j)), (1, ⟨[.agg [.imm (A.map encX), .imm (B.map encX), .imm (R.map encF)]], 3, true⟩)] [] 2 (by decide) (by simp) trivial
    ⟨[1], [3, 4, 5], [], [(1, [.agg [.imm (A.map encX), .imm (B.map encX), .imm (R.map encF)]])], ⟨⟨⟨_, rfl⟩, ⟨_, rfl⟩, ⟨_, rfl⟩, trivial⟩, trivial, ⟨⟨_, 6, _, rfl, zAR (zD4 (zAR (zAI (f := encX) (l := A) rfl rfl lA.symm fun q => zCH (cr q)) (zAR (zAI (f := encX) (l := B) rfl rfl lB.symm fun q => zCH (cr q)) (zAR (zAI (f := encF) (l := R) rfl rfl lR.symm frz_form) rfl)))) rfl, rfl⟩, trivial⟩⟩,
      ⟨apx, trivial⟩, ⟨bbx, bbx, trivial⟩, by simp [ren]⟩ ?_
   refine sts ?_;exact zCP rfl rfl rfl rfl rfl (zEB _ _)
end Go.PI.Tryz
