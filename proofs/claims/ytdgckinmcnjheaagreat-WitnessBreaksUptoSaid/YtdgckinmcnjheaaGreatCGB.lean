/-
  Small regions that bytes describe.
-/
import Derived.Test.YtdgckinmcnjheaaGreatCGA
import Derived.Test.YtdgckinmcnjheaaGreatCRC
import Derived.Test.YtdgckinmcnjheaaGreatCPD
import Derived.Test.YtdgckinmcnjheaaGreatCPE
set_option linter.unusedVariables false
set_option linter.unusedSimpArgs false
set_option linter.unnecessarySimpa false
namespace Go.PI.Tryz
open Go.Proofs Go.PI
theorem vOT : FO 113 Tryz.f113 [.tmp 4] 66 := mkO Tryz.func113 Tryz.ntmps113 Tryz.results113
theorem vJD (r : RegL) (n : Int) (hr : vCZ 950000000 r) : Fn 113 [vBG r, .int .i64 n] (.data (.bool (dB (VaR r n)))) := by
 obtain ⟨hlo, hhi, hrw, hrl⟩ := hr;have no : ¬ VaR r n → false = dB (VaR r n) := zIJ;have l1 := hlo.1;have l2 := hhi.1;have v1 := zNU r.lo (zJC (by decide) hlo);have v2 := zNU r.hi (zJC (by decide) hhi);have v3 := zKC r.rows n ⟨hrl, fun f hf => zBZ (by decide) (hrw f hf)⟩;refine zAN vA6 hT vOT (by simp [vBG]) ?_
 (repeat' (first|refine stp ?_|with_reducible(refine brr ?_ ?_<;>intro h)));all_goals try(conv=>whnf)
 ·exact zAB rfl (congrArg PV.bool (no fun e => by have := e.1.1; omega))
 ·exact zAB rfl (congrArg PV.bool (no fun e => by have := e.1.2; omega))
 ·exact zAB rfl (congrArg PV.bool (no fun e => by have := e.2.1; omega))
 ·exact zAB rfl (congrArg PV.bool (no fun e => by have := e.2.2.1; omega))
 ·exact zAB rfl (congrArg PV.bool (no fun e => by have := e.2.2.2.1; omega))
 ·have h0 : (1 ≤ n ∧ n ≤ 256) ∧ (r.lo.length : Int) = n ∧ (r.hi.length : Int) = n ∧ r.rows.length ≤ 256 := ⟨⟨by omega, by omega⟩, by omega, by omega, by omega⟩
  obtain ⟨h1, h2, h3, h4⟩ := h0;have hh : r.hi.length = r.lo.length := by omega
  refine zAA v1 rfl ?_
  (repeat' (first|refine stp ?_|with_reducible(refine brr ?_ ?_<;>intro h)));all_goals try(conv=>whnf)
  rotate_left
  ·exact zAB rfl (congrArg PV.bool (no fun e => dB_false.1 h fun j hj => (e.2.2.2.2.1 j hj).1))
  refine zAA v2 rfl ?_
  (repeat' (first|refine stp ?_|with_reducible(refine brr ?_ ?_<;>intro h)));all_goals try(conv=>whnf)
  rotate_left
  ·exact zAB rfl (congrArg PV.bool (no fun e => dB_false.1 h fun j hj => (e.2.2.2.2.1 j (by omega)).2.1))
  refine zAA v3 rfl ?_
  (repeat' (first|refine stp ?_|with_reducible(refine brr ?_ ?_<;>intro h)));all_goals try(conv=>whnf)
  rotate_left
  ·exact zAB rfl (congrArg PV.bool (no fun e => dB_false.1 h fun j hj => e.2.2.2.2.2 j hj))
  have w1 : uE4 r.lo := dB_true.1 (by assumption);have w2 : uE4 r.hi := dB_true.1 (by assumption);have w3 : vQH r.rows n := dB_true.1 (by assumption)
  refine zAG hT (fun (i : Nat) => [(1, .int .i64 n), (2, .ptr 0 0 0), (5, .int .i64 i)]) (fun _ => [(0, ⟨[vBG r], 3, true⟩)]) [] 1
   (fun i => i ≤ r.lo.length ∧ ∀ j, j < i → qv r.lo[j]! ≤ qv r.hi[j]!) (fun i => r.lo.length - i) 0 ⟨Nat.zero_le _, fun j h => (by omega)⟩ (by decide) (by simp) ?_ ?_
  ·exact ⟨[0], [], [], [], ttt, ⟨zAC rfl rfl, apx, zAC rfl rfl, trivial⟩, ⟨bbx, trivial⟩, by simp [ren]⟩
  intro i ⟨i1, i2⟩;by_cases hi : i < r.lo.length
  ·have hi2 : i < r.hi.length := by omega
   have q1 := zBG hlo hi;have q2 := zBG hhi hi2;have c3 := zEP r.lo[i]! r.hi[i]! q1.1 q2.1 (by have := q1.2; omega) (by have := q1.2; omega) (by have := q2.2; omega) (by have := q2.2; omega)
   (repeat' (first|refine stp ?_|with_reducible(refine brr ?_ ?_<;>intro h)));all_goals try(conv=>whnf)
   ·refine zAA c3 rfl ?_
    (repeat' (first|refine stp ?_|with_reducible(refine brr ?_ ?_<;>intro h)));all_goals try(conv=>whnf)
    ·exact zAB rfl (congrArg PV.bool (no fun e => by have := sgn_le.2 (e.2.2.2.2.1 i hi).2.2; omega))
    ·exact ⟨i + 1, ⟨⟨by omega, fun j hj => zA2 (p := fun j => qv r.lo[j]! ≤ qv r.hi[j]!) i2 (sgn_le.1 (by omega)) hj⟩, by show r.lo.length - (i + 1) < r.lo.length - i; omega⟩, [0], [], [], [], ttt, ⟨zAC rfl rfl, apx, zAC rfl rfl, trivial⟩, ⟨bbx, trivial⟩, by simp [ren]⟩
   all_goals (exfalso; omega)
  ·(repeat' (first|refine stp ?_|with_reducible(refine brr ?_ ?_<;>intro h)));all_goals try(conv=>whnf)
   all_goals try (exfalso; omega)
   exact zAB rfl (congrArg PV.bool (zME ⟨h1, h2, h3, h4, fun j hj => ⟨w1 j hj, w2 j (by omega), i2 j (by omega)⟩, w3⟩))
theorem vXP : FO 65 Tryz.f65 [.tmp 2] 8 := mkO Tryz.func65 Tryz.ntmps65 Tryz.results65
theorem uE9 (r : RegL) (hr : vCZ 950000000 r) : Fn 65 [vBG r] (.data (.bool (dB (VaO r)))) := by
 have cc := vJD r r.lo.length hr;have l1 := hr.1.1;refine zAN vA6 hT vXP (by simp [vBG]) ?_;refine sts ?_;refine zAA cc (by simp; rfl) ?_;refine sts ?_;exact zAB rfl rfl
def RegL.all (r : RegL) := (r.lo, r.hi, r.rows)
theorem reg_ext {a b : RegL} : a = b ↔ a.lo = b.lo ∧ a.hi = b.hi ∧ a.rows = b.rows := by cases a; cases b; simp
instance : DecidableEq RegL := fun a b => decidable_of_iff (a.lo = b.lo ∧ a.hi = b.hi ∧ a.rows = b.rows) reg_ext.symm
theorem vR1 : FO 31 Tryz.f31 [.tmp 4] 70 := mkO Tryz.func31 Tryz.ntmps31 Tryz.results31
theorem vZX (r : RegL) (x : List RatL) (k kx : Nat) (hr : vCZ k r) (hk1 : 1 ≤ k) (hkx : 1 ≤ kx) (hx : vPB kx x) (hk : ∀ f ∈ r.rows, k + f.terms.length * (k + kx + 1) + k + kx ≤ 949999990) (hk2 : k ≤ 949999990) (hk3 : kx ≤ 949999990) : Fn 31 [vBG r, .imm (x.map vAZ)] (.data (.bool (dB (vDT r x)))) := by
 obtain ⟨hlo, hhi, hrw, hrl⟩ := hr;have no : ¬ vDT r x → false = dB (vDT r x) := zIJ;have l1 := hlo.1;have l2 := hhi.1;have l3 := hx.1;have co := uE9 r (zDV (by omega) ⟨hlo, hhi, hrw, hrl⟩);refine zAN vA6 hT vR1 (by simp [vBG]) ?_;refine sts ?_;refine zAA co rfl ?_
 (repeat' (first|refine stp ?_|with_reducible(refine brr ?_ ?_<;>intro h)));all_goals try(conv=>whnf)
 ·exact zAB rfl (congrArg PV.bool (no fun e => by have := e.2.1; omega))
 ·have hlen : x.length = r.lo.length := by omega
  have hva : VaO r := dB_true.1 (by assumption);have hlh : r.hi.length = r.lo.length := by have := hva.2.2.1; omega
  refine zAG hT (fun (i : Nat) => [(1, .imm (x.map vAZ)), (2, .ptr 0 0 0), (5, .int .i64 i)]) (fun _ => [(0, ⟨[vBG r], 3, true⟩)]) [] 1
   (fun i => i ≤ x.length ∧ ∀ j, j < i → qv r.lo[j]! ≤ qv x[j]! ∧ qv x[j]! ≤ qv r.hi[j]!) (fun i => x.length - i) 0 ⟨Nat.zero_le _, fun j h => (by omega)⟩ (by decide) (by simp) ?_ ?_
  ·exact ⟨[0], [], [], [], ttt, ⟨zAE rfl rfl, apx, zAC rfl rfl, trivial⟩, ⟨bbx, trivial⟩, by simp [ren]⟩
  intro i ⟨i1, i2⟩;by_cases hi : i < x.length
  ·have hi1 : i < r.lo.length := by omega
   have hi2 : i < r.hi.length := by omega
   have q0 := zBG hx hi;have q1 := zBG hlo hi1;have q2 := zBG hhi hi2;have c1 := zEP x[i]! r.lo[i]! q0.1 q1.1 (by have := q0.2; omega) (by have := q0.2; omega) (by have := q1.2; omega) (by have := q1.2; omega);have c2 := zEP x[i]! r.hi[i]! q0.1 q2.1 (by have := q0.2; omega) (by have := q0.2; omega) (by have := q2.2; omega) (by have := q2.2; omega)
   (repeat' (first|refine stp ?_|with_reducible(refine brr ?_ ?_<;>intro h)));all_goals try(conv=>whnf)
   ·refine zAA c1 rfl ?_
    (repeat' (first|refine stp ?_|with_reducible(refine brr ?_ ?_<;>intro h)));all_goals try(conv=>whnf)
    ·exact zAB rfl (congrArg PV.bool (no fun e => by have := sgn_ge.2 (e.2.2.1 i hi).1; omega))
    ·refine zAA c2 rfl ?_
     (repeat' (first|refine stp ?_|with_reducible(refine brr ?_ ?_<;>intro h)));all_goals try(conv=>whnf)
     ·exact zAB rfl (congrArg PV.bool (no fun e => by have := sgn_le.2 (e.2.2.1 i hi).2; omega))
     ·exact ⟨i + 1, ⟨⟨by omega, fun j hj => zA2 (p := fun j => qv r.lo[j]! ≤ qv x[j]! ∧ qv x[j]! ≤ qv r.hi[j]!) i2 ⟨sgn_ge.1 (by omega), sgn_le.1 (by omega)⟩ hj⟩, by show x.length - (i + 1) < x.length - i; omega⟩, [0], [], [], [], ttt, ⟨zAE rfl rfl, apx, zAC rfl rfl, trivial⟩, ⟨bbx, trivial⟩, by simp [ren]⟩
   all_goals (exfalso; omega)
  ·(repeat' (first|refine stp ?_|with_reducible(refine brr ?_ ?_<;>intro h)));all_goals try(conv=>whnf)
   all_goals try (exfalso; omega)
   refine zAG hT (fun (i : Nat) => [(1, .imm (x.map vAZ)), (2, .ptr 0 0 0), (6, .int .i64 i)]) (fun _ => [(0, ⟨[vBG r], 3, true⟩)]) [] 1
    (fun i => i ≤ r.rows.length ∧ ∀ j, j < i → 0 ≤ evQ r.rows[j]!.Q (x.map qv)) (fun i => r.rows.length - i) 0 ⟨Nat.zero_le _, fun j h => (by omega)⟩ (by decide) (by simp) ?_ ?_
   ·exact ⟨[0], [], [], [], ttt, ⟨zAE rfl rfl, apx, zAC rfl rfl, trivial⟩, ⟨bbx, trivial⟩, by simp [ren]⟩
   intro k1 ⟨k1a, k1b⟩;by_cases hk' : k1 < r.rows.length
   ·have hv := hva.2.2.2.2.2 k1 hk'
    rw [← hlen] at hv;have hF := zCX hv;have ha := hrw _ (get_mem hk');have hs := zB0 ha hk1;have hlf := ha.2.2;have hkk := hk _ (get_mem hk');have hvx : ∀ p ∈ r.rows[k1]!.Q.ts, 0 ≤ p.1 ∧ p.1 < x.length := fun p hp => hF.2 p hp
    have ql := zF4 r.rows[k1]!;have ce := vVH r.rows[k1]!.Q x k kx hs hkx hx.2 hvx (by rw [ql]; exact hkk) (by omega) hx.1;rw [← vUF hv] at ce
    have hz := zNR (kx := kx) (x := x.map qv) hs (fun q hq => by
     obtain ⟨y, hy, rfl⟩ := List.mem_map.1 hq;have := hx.2 y hy
     exact zES this.1 this.2.1 this.2.2 hkx) (fun p hp => by simpa using hvx p hp)
    rw [ql] at hz;have hl4 := zAL hz;have cs := zG2 (cr (evQ r.rows[k1]!.Q (x.map qv))) (zAI _) (by omega);rw [zAQ] at cs
    (repeat' (first|refine stp ?_|with_reducible(refine brr ?_ ?_<;>intro h)));all_goals try(conv=>whnf)
    ·refine zAA ce rfl ?_
     refine sts ?_;refine zAA cs rfl ?_
     (repeat' (first|refine stp ?_|with_reducible(refine brr ?_ ?_<;>intro h)));all_goals try(conv=>whnf)
     ·exact zAB rfl (congrArg PV.bool (no fun e => by have := sgnQ_neg.1 h; have := e.2.2.2 k1 hk'; grind))
     ·exact ⟨k1 + 1, ⟨⟨by omega, fun j hj => zA2 (p := fun j => 0 ≤ evQ r.rows[j]!.Q (x.map qv)) k1b (Rat.not_lt.1 fun e => by have := sgnQ_neg.2 e; omega) hj⟩, by show r.rows.length - (k1 + 1) < r.rows.length - k1; omega⟩, [0], [], [], [], ttt, ⟨zAE rfl rfl, apx, zAC rfl rfl, trivial⟩, ⟨bbx, trivial⟩, by simp [ren]⟩
    all_goals (exfalso; omega)
   ·(repeat' (first|refine stp ?_|with_reducible(refine brr ?_ ?_<;>intro h)));all_goals try(conv=>whnf)
    all_goals try (exfalso; omega)
    exact zAB rfl (congrArg PV.bool (zME ⟨hva, hlen, fun j hj => i2 j (by omega), fun j hj => k1b j (by omega)⟩))
 ·exact zAB rfl (congrArg PV.bool (no fun e => dB_false.1 h e.1))
theorem vN5 {l : List Rat} {i : Nat} {q : Rat} (h : i < l.length) (e : q = l[i]!) : (l.take i).map vBF ++ [vAZ (cr q)] = (l.take (i + 1)).map vBF := by
 subst e; exact zHX h
def vMN (l : List Int) : Prop := l.length ≤ 1048576 ∧ ∀ x ∈ l, 0 ≤ x ∧ x < 256
theorem vXQ : FO 12 Tryz.f12 [.tmp 4] 55 := mkO Tryz.func12 Tryz.ntmps12 Tryz.results12
theorem uFA (r : RegL) (l : List Int) (hr : vCZ 10000000 r) (hlh : r.hi.length = r.lo.length) (hl : vMN l) : Fn 12 [vBG r, .imm (l.map (.int .u8))] (.data (.imm ((vY0 r l).map vBF))) := by
 have l1 := hr.1.1;have l2 := hl.1;obtain ⟨Y, hY⟩ : ∃ Y, vY0 r l = Y := ⟨_, rfl⟩;have hYl : Y.length = r.lo.length := by rw [← hY]; simp [vY0]
 have hYg : ∀ i, i < r.lo.length → qv r.lo[i]! + mkRat (inK l i) 8 * (qv r.hi[i]! - qv r.lo[i]!) = Y[i]! := fun i hi => by rw [← hY]; unfold vY0; rw [zBV hi]
 rw [hY];refine zAN vA6 hT vXQ (by simp [vBG]) ?_;refine sts ?_
 refine zBP hT [(.sl 5, 3, true)] (fun (i : Nat) => [(1, .imm (l.map (.int .u8))), (2, .ptr 0 0 0), (5, .own 1 0 i), (6, .int .i64 i)]) (fun i => [(0, ⟨[vBG r], 3, true⟩), (1, ⟨(Y.take i).map vBF, 3, true⟩)]) [] 2
  (fun i => i ≤ r.lo.length) (fun i => r.lo.length - i) 0 (Nat.zero_le _) (by decide) (by simp) ⟨rfl, trivial⟩ ?_ ?_
 ·exact ⟨[0, _], [], [], [], ttt, ⟨zAE rfl rfl, (apy rfl), zAF (by decide) rfl rfl, zAC rfl rfl, trivial⟩, ⟨bbx, zAD (by decide) rfl rfl (zAW fun _ => ⟨rfl, by simp [vBF, vAZ]⟩) rfl, trivial⟩, by simp [ren]⟩
 intro i i1;have hlen : (Y.take i).length = i := by rw [List.length_take]; omega
 by_cases hi : i < r.lo.length
 ·have hi2 : i < r.hi.length := by omega
  have q1 := zBG hr.1 hi;have q2 := zBG hr.2.1 hi2;have cf := zIO (inK l i) 8 (by unfold inK; split <;> omega) (by decide);have s1 := zES q1.1 q1.2.1 q1.2.2 (k := 10000000) (by decide);have s2 := zES q2.1 q2.2.1 q2.2.2 (k := 10000000) (by decide);have c1 := vVC r.hi[i]! r.lo[i]! q2.1 q1.1 (by have := q2.2; omega) (by have := q2.2; omega) (by have := q1.2; omega) (by have := q1.2; omega);have s3 := vQL s2 s1;have l3 := zAL s3;have sp := vQM l i;have lp := zAL sp;have c2 := zJP (cr (mkRat (inK l i) 8)) (cr (qv r.hi[i]! - qv r.lo[i]!)) (zAI _) (zAI _) (by omega) (by omega) (by omega) (by omega);rw [zAQ, zAQ] at c2;have s4 := zB6 sp s3;have l4 := zAL s4;have c3 := zD5 r.lo[i]! (cr (mkRat (inK l i) 8 * (qv r.hi[i]! - qv r.lo[i]!))) q1.1 (zAI _) (by have := q1.2; omega) (by have := q1.2; omega) (by omega) (by omega);rw [zAQ] at c3;rw [show (8 : Int).natAbs = 8 from rfl] at cf;have fin := vN5 (l := Y) (i := i) (by omega) (hYg i hi);by_cases hb : i < l.length
  ·have hx := hl.2 _ (get_mem hb)
   have hk : inK l i = l[i]!.toNat % 9 := by unfold inK; rw [if_pos hb]
   have ht : l[i]!.tmod 9 = ((inK l i : Nat) : Int) := by rw [Int.tmod_eq_emod_of_nonneg (by omega), hk]; omega
   have hlt : inK l i < 9 := by omega
   (repeat' (first|refine stp ?_|with_reducible(refine brr ?_ ?_<;>intro h)));all_goals try(conv=>whnf)
   all_goals try (exfalso; omega)
   rw [ht];refine sts ?_;refine zAA cf rfl ?_;refine sts ?_;refine zAA c1 rfl ?_;refine sts ?_;refine zAA c2 rfl ?_;refine sts ?_;refine zAA c3 rfl ?_;refine sts ?_;exact ⟨i + 1, ⟨by omega, by show r.lo.length - (i + 1) < r.lo.length - i; omega⟩, [0, _], [], [], [], ttt, ⟨zAE rfl rfl, (apy rfl), zAF (by decide) rfl rfl, zAC rfl rfl, trivial⟩, ⟨bbx, zAD (by decide) rfl fin (zAW fun _ => ⟨rfl, by simp [vBF, vAZ]⟩) rfl, trivial⟩, by simp [ren]⟩
  ·have hk : inK l i = 0 := by unfold inK; rw [if_neg hb]
   rw [hk] at cf c2 c3 fin
   (repeat' (first|refine stp ?_|with_reducible(refine brr ?_ ?_<;>intro h)));all_goals try(conv=>whnf)
   all_goals try (exfalso; omega)
   refine zAA cf rfl ?_;refine sts ?_;refine zAA c1 rfl ?_;refine sts ?_;refine zAA c2 rfl ?_;refine sts ?_;refine zAA c3 rfl ?_;refine sts ?_;exact ⟨i + 1, ⟨by omega, by show r.lo.length - (i + 1) < r.lo.length - i; omega⟩, [0, _], [], [], [], ttt, ⟨zAE rfl rfl, (apy rfl), zAF (by decide) rfl rfl, zAC rfl rfl, trivial⟩, ⟨bbx, zAD (by decide) rfl fin (zAW fun _ => ⟨rfl, by simp [vBF, vAZ]⟩) rfl, trivial⟩, by simp [ren]⟩
 ·(repeat' (first|refine stp ?_|with_reducible(refine brr ?_ ?_<;>intro h)));all_goals try(conv=>whnf)
  all_goals try (exfalso; omega)
  exact zAB (zAH rfl rfl (by omega) fun q => zD4 (cr q)) (by rw [List.take_of_length_le (by omega)])
theorem uD2 : FO 35 Tryz.f35 [.tmp 2] 8 := mkO Tryz.func35 Tryz.ntmps35 Tryz.results35
theorem uIO (l : List Int) (hl : vMN l) : Fn 35 [.imm (l.map (.int .u8))] (.own none (.ptr 0 0 0) (fdB l 0)) := by
 have l1 := hl.1;refine zGK vA6 hT uD2 (by simp) ?_;refine sus ?_;refine zAX ?_;refine sus ?_
 refine vB7 [] [(2, .ptr 1 0 0)] [(1, fdB l 0)] [] 2 (by decide) (by simp) trivial
  ⟨[_], [4], [], [(6, [.agg [.imm (l.map (.int .u8)), .int .i64 0]])], ⟨⟨⟨_, rfl⟩, trivial⟩, trivial, ⟨⟨_, 6, _, rfl, zAP (zC7 (zAP (zAH (f := .int .u8) (l := l) rfl rfl (by simp) (fun x => by rfl)) rfl)) rfl, rfl⟩, trivial⟩⟩, ⟨(apy rfl), trivial⟩, ⟨bbx, trivial⟩, by simp [ren]⟩ ?_
 refine sts ?_;exact zFU (r := 1) rfl rfl rfl rfl (fun e he => by simp at he; subst he; rfl) (Or.inr ⟨rfl, by simp⟩)
theorem vYO : FO 127 Tryz.f127 [.tmp 4] 36 := mkO Tryz.func127 Tryz.ntmps127 Tryz.results127
theorem zHR (l : List Int) (a n : Nat) (hl : vMN l) (ha : a ≤ l.length) (hn : 0 < n ∧ n < 1000) : Fn 127 [.ptr 0 0 0, .int .i64 n] (.wrt (fdB l a) (.int .i64 (nx1 l a n)) (fdB l (nx2 l a))) := by
 have l1 := hl.1;refine zCF vA6 hT vYO (by simp) ?_;by_cases hi : a < l.length
 ·have hx := hl.2 l[a]! (by rw [getElem!_pos l a hi]; exact List.getElem_mem hi)
  have e1 : nx1 l a n = l[a]!.toNat % n := by unfold nx1; rw [if_pos hi]
  have e2 : nx2 l a = a + 1 := by unfold nx2; rw [if_pos hi]
  (repeat' (first|refine stp ?_|with_reducible(refine brr ?_ ?_<;>intro h)));all_goals try(conv=>whnf)
  all_goals try (exfalso; omega)
  refine zAU a (by omega) hi ?_;refine sts ?_
  rw [show l[a]!.tmod n = ((nx1 l a n : Nat) : Int) by
   rw [Int.tmod_eq_emod_of_nonneg (by omega), e1];obtain ⟨b, hb⟩ := Int.eq_ofNat_of_zero_le hx.1;rw [hb]
   rfl, e2]
  exact zBU rfl rfl rfl rfl rfl (fun e he => by simp at he; subst he; rfl)
 ·have e1 : nx1 l a n = 0 := by unfold nx1; rw [if_neg hi]
  have e2 : nx2 l a = a := by unfold nx2; rw [if_neg hi]
  rw [e1, e2]
  (repeat' (first|refine stp ?_|with_reducible(refine brr ?_ ?_<;>intro h)));all_goals try(conv=>whnf)
  all_goals try (exfalso; omega)
  exact zBU rfl rfl rfl rfl rfl (fun e he => by simp at he; subst he; rfl)
theorem zD1 (l : List Int) (a : Nat) : nrs (fdB l a) := fun e he => by simp [fdB] at he; subst he; rfl
theorem uD1 : FO 128 Tryz.f128 [.cell 2 35] 17 := mkO Tryz.func128 Tryz.ntmps128 Tryz.results128
theorem vNQ (l : List Int) (a : Nat) (hl : vMN l) (ha : a ≤ l.length) : Fn 128 [.ptr 0 0 0] (.wrt (fdB l a) (vAZ (cr (vEG l a))) (fdB l (vMR l a))) := by
 have c1 := zHR l a 9 hl ha (by decide);have c2 := zHR l (nx2 l a) 4 hl (zD8 ha) (by decide);have h1 := zG8 (l := l) (a := a) (n := 9) (by decide);have h2 := zG8 (l := l) (a := nx2 l a) (n := 4) (by decide);have hq : vEG l a = mkRat ((nx1 l a 9 : Int) - 4) (uBS (nx1 l (nx2 l a) 4)) := rfl;have hA : vMR l a = nx2 l (nx2 l a) := rfl;rw [hq, hA];generalize nx1 l a 9 = k1 at *
 generalize nx1 l (nx2 l a) 4 = k2 at *
 have cf : ∀ D : Nat, 0 < D → D < 10 → uBS k2 = D → Fn 32 [.int .i64 ((k1 : Int) - 4), .int .i64 D] (.data (.tup [vAZ (cr (mkRat ((k1 : Int) - 4) (uBS k2))), .int .i64 0])) := fun D h3 h4 e => by
  have := zIO ((k1 : Int) - 4) D (by omega) (by omega);rw [show ((D : Int)).natAbs = uBS k2 by rw [e]; rfl] at this;exact this
 refine zCF vA6 hT uD1 (by simp) ?_;refine sts ?_;refine zBH (r := 0) c1 rfl rfl rfl rfl (zD1 _ _) (zGL _ _) ?_;refine sts ?_;refine zBH (r := 0) c2 rfl rfl rfl rfl (zD1 _ _) (zGL _ _) ?_;rcases (show k2 = 0 ∨ k2 = 1 ∨ k2 = 2 ∨ k2 = 3 by omega) with rfl | rfl | rfl | rfl
 ·refine sts ?_
  refine zAA (cf 1 (by decide) (by decide) rfl) rfl ?_;refine sts ?_;exact zBU rfl rfl rfl rfl rfl (zD1 _ _)
 ·refine sts ?_
  refine zAA (cf 1 (by decide) (by decide) rfl) rfl ?_;refine sts ?_;exact zBU rfl rfl rfl rfl rfl (zD1 _ _)
 ·refine sts ?_
  refine zAA (cf 2 (by decide) (by decide) rfl) rfl ?_;refine sts ?_;exact zBU rfl rfl rfl rfl rfl (zD1 _ _)
 ·refine sts ?_
  refine zAA (cf 4 (by decide) (by decide) rfl) rfl ?_;refine sts ?_;exact zBU rfl rfl rfl rfl rfl (zD1 _ _)
theorem vIZ (v : Int) : vA5 (vB6 v) = .agg [.imm [vDA (v, 1)], .bool false, .imm [], .imm []] := by unfold vA5 vB6; rw [zC1]; rfl
theorem uC8 : FO 121 Tryz.f121 [.cell 2 37] 8 := mkO Tryz.func121 Tryz.ntmps121 Tryz.results121
theorem uBV (v : Int) : Fn 121 [.int .i64 v] (.data (vA5 (vB6 v))) := by
 have c1 := zF2 1 (by decide);rw [show ((1 : Int) : Rat) = 1 by rfl] at c1;rw [vIZ];refine zAN vA6 hT uC8 (by simp) ?_;refine sts ?_;refine zAA c1 rfl ?_;refine sts ?_;exact zAB rfl rfl
theorem vQ4 (v : Int) (q : Rat) (f : QF) (hf : Srt f.ts) : uB8 f (vBT (vB6 v) q) = vA3 f (vB6 v) q := zFN hf (vE0 v) q
theorem vFB (v : Int) {q : Rat} (hq : sz 1 q) : szF 2 (vBT (vB6 v) q) ∧ (vBT (vB6 v) q).ts.length ≤ 1 := by
 have h0 : sz 2 ((0 : Rat) * q) := by rw [Rat.zero_mul]; exact (zDT 2 (by decide)).1
 refine ⟨⟨h0, fun p hp => ?_⟩, ?_⟩
 ·simp only [vBT, vD2, vB6, List.flatMap_cons, List.flatMap_nil, List.append_nil] at hp
  have e := zC9 hp;rw [e];show sz 2 ((1 : Rat) * q)
  rw [Rat.one_mul]; exact zBE (by decide) hq
 ·simp only [vBT, vD2, vB6, List.flatMap_cons, List.flatMap_nil, List.append_nil, nzq]
  split <;> simp
theorem vYP : FO 71 Tryz.f71 [.cell 4 37] 26 := mkO Tryz.func71 Tryz.ntmps71 Tryz.results71
theorem vG1 (l : List Int) (a m : Nat) (hl : vMN l) (ha : a ≤ l.length) (hm : m ≤ 20) : Fn 71 [.ptr 0 0 0, .int .i64 m] (.wrt (fdB l a) (vA5 (vCG l a m).1) (fdB l (vCG l a m).2)) := by
 have c0 := vNQ l a hl ha;refine zCF vA6 hT vYP (by simp) ?_;refine sts ?_;refine zBH (r := 0) c0 rfl rfl rfl rfl (zD1 _ _) (zGL _ _) ?_;refine sts ?_
 refine zAG hT (fun (i : Nat) => [(0, .ptr 0 0 0), (1, .int .i64 m), (4, .ptr 1 0 0), (5, .ptr 2 0 0), (6, .int .i64 i)]) (fun i => [(0, fdB l (vCG l a i).2), (1, ⟨[.agg [.nilsl, .bool false, .nilsl, .nilsl]], 4, true⟩), (2, ⟨[vA5 (vCG l a i).1], 4, true⟩)]) [] 3
  (fun i => i ≤ m) (fun i => m - i) 0 (Nat.zero_le _) (by decide) (by simp) ?_ ?_
 ·exact ⟨[_, _], [], [], [(5, [vA5 ⟨[], vEG l a⟩])], ⟨trivial, trivial, ⟨⟨_, 6, _, rfl, rfl, rfl⟩, trivial⟩⟩, ⟨(apy rfl), zAC rfl rfl, (apy rfl), (apy rfl), zAC rfl rfl, trivial⟩,
   ⟨bbx, bbx, bbx, trivial⟩, by simp [ren]⟩
 intro i i1;obtain ⟨g1, g2, g3, g4⟩ := zGJ ha i;by_cases hi : i < m
 ·have c1 := zHR l (vCG l a i).2 3 hl g4 (by decide)
  have c2 := vNQ l (nx2 l (vCG l a i).2) hl (zD8 g4);have c3 := uBV i;have hq := zGC l (nx2 l (vCG l a i).2);have c4 := zG1 (vB6 i) (vEG l (nx2 l (vCG l a i).2)) 1 1 (vJW i) hq (by decide) (by show 1 ≤ _; decide);obtain ⟨s1, s2⟩ := vFB i hq;have hmul : ((vBT (vB6 i) (vEG l (nx2 l (vCG l a i).2))).ts.length + 1) * (2 + 1) ≤ (1 + 1) * (2 + 1) := Nat.mul_le_mul_right _ (by omega);have c5 := vVJ (vCG l a i).1 (vBT (vB6 i) (vEG l (nx2 l (vCG l a i).2))) (1 + 3 * i) 2 g2 s1 (by omega) (by omega);rw [vQ4 i _ _ g1.1] at c5;have hI : vCG l a (i + 1) = vT6 l i (vCG l a i) := rfl
  (repeat' (first|refine stp ?_|with_reducible(refine brr ?_ ?_<;>intro h)));all_goals try(conv=>whnf)
  ·refine zBH (r := 0) c1 rfl rfl rfl rfl (zD1 _ _) (zGL _ _) ?_
   (repeat' (first|refine stp ?_|with_reducible(refine brr ?_ ?_<;>intro h)));all_goals try(conv=>whnf)
   ·refine zAA c3 rfl ?_
    refine sts ?_;refine zBH (r := 0) c2 rfl rfl rfl rfl (zD1 _ _) (zGL _ _) ?_;refine sts ?_;refine zAA c4 rfl ?_;refine sts ?_;refine zAA c5 rfl ?_;refine sts ?_;have hs : vT6 l i (vCG l a i) = (vA3 (vCG l a i).1 (vB6 i) (vEG l (nx2 l (vCG l a i).2)), vMR l (nx2 l (vCG l a i).2)) := by unfold vT6; rw [if_pos (by omega)]
    rw [hs] at hI
    exact ⟨i + 1, ⟨by omega, by show m - (i + 1) < m - i; omega⟩, [1, 2], [], [], [], ttt, ⟨apx, zAC rfl rfl, apx, apx, zAC rfl rfl, trivial⟩,
     ⟨zD6 (by decide) rfl (by rw [hI]) rfl rfl rfl, bbx, zD6 (by decide) rfl (by rw [hI]; rfl) rfl rfl rfl, trivial⟩, by simp [ren]⟩
   ·have hs : vT6 l i (vCG l a i) = ((vCG l a i).1, nx2 l (vCG l a i).2) := by unfold vT6; rw [if_neg (by omega)]
    rw [hs] at hI
    exact ⟨i + 1, ⟨by omega, by show m - (i + 1) < m - i; omega⟩, [1, 2], [], [], [], ttt, ⟨apx, zAC rfl rfl, apx, apx, zAC rfl rfl, trivial⟩,
     ⟨zD6 (by decide) rfl (by rw [hI]) rfl rfl rfl, bbx, zD6 (by decide) rfl (by rw [hI]) rfl rfl rfl, trivial⟩, by simp [ren]⟩
  all_goals (exfalso; omega)
 ·obtain rfl : i = m := by omega
  (repeat' (first|refine stp ?_|with_reducible(refine brr ?_ ?_<;>intro h)));all_goals try(conv=>whnf)
  all_goals try (exfalso; omega)
  exact zBU rfl rfl rfl rfl rfl (zD1 _ _)
theorem vFF {k a' b' c' n1 n2 n3 : Nat} {ρ : Nat → Nat} {a b e : Nat} (h1 : a = ρ a') (h2 : b = ρ b') (h3 : e = ρ c') (g1 : a' < k) (g2 : b' < k) (g3 : c' < k) : rn ρ k 3 (.agg [.own a' 0 n1, .own b' 0 n2, .own c' 0 n3]) (.agg [.own a 0 n1, .own b 0 n2, .own e 0 n3]) := by
 subst h1 h2 h3; exact ⟨⟨g1, rfl⟩, ⟨g2, rfl⟩, ⟨g3, rfl⟩, trivial⟩
theorem vGJ {h : Hp} {n : Nat} (x : QF) : frz h (n + 1) (vA5 x) = some (vA5 x, []) := by cases n <;> rfl
theorem vS0 : FO 70 Tryz.f70 [.cell 4 30] 49 := mkO Tryz.func70 Tryz.ntmps70 Tryz.results70
theorem uAB (l : List Int) (a m : Nat) (hl : vMN l) (ha : a ≤ l.length) (hm1 : 1 ≤ m) (hm : m ≤ 8) : Fn 70 [.ptr 0 0 0, .int .i64 m] (.wrt (fdB l a) (vBG (vDW l a m)) (fdB l (uCQ l a m))) := by
 obtain ⟨A, hA⟩ : ∃ A, loI l a m = A := ⟨_, rfl⟩;obtain ⟨B, hB⟩ : ∃ B, hiI l a m = B := ⟨_, rfl⟩;have lA : A.length = m := by rw [← hA]; simp [loI]
 have lB : B.length = m := by rw [← hB]; simp [hiI]
 have gA : ∀ i, i < m → vEG l (bdA l a i) = A[i]! := fun i hi => by rw [← hA]; unfold loI; rw [zBV hi]
 have gB : ∀ i, i < m → vEG l (bdA l a i) + qv (uAJ (vEG l (vMR l (bdA l a i)))) = B[i]! := fun i hi => by rw [← hB]; unfold hiI; rw [zBV hi]
 refine zCF vA6 hT vS0 (by simp) ?_;refine sts ?_
 refine zBP hT [(.cl 2 0 0, 3, true), (.cl 2 0 1, 3, true), (.cl 2 0 2, 4, true)] (fun (i : Nat) => [(0, .ptr 0 0 0), (1, .int .i64 m), (4, .ptr 1 0 0), (5, .ptr 2 0 0), (6, .int .i64 i)])
  (fun i => [(0, fdB l (bdA l a i)), (1, ⟨[.agg [.nilsl, .nilsl, .nilsl]], 3, true⟩), (2, ⟨[.agg [.own 3 0 i, .own 4 0 i, .own 5 0 0]], 3, true⟩), (3, ⟨(A.take i).map vBF, 3, true⟩), (4, ⟨(B.take i).map vBF, 3, true⟩), (5, ⟨[], 4, true⟩)]) [] 6
  (fun i => i ≤ m) (fun i => m - i) 0 (Nat.zero_le _) (by decide) (by simp) ⟨_, _, rfl, rfl, rfl, _, _, rfl, rfl, rfl, _, _, rfl, rfl, rfl, trivial⟩ ?_ ?_
 ·exact ⟨[1, 2, 4, 5, 6], [], [], [], ttt, ⟨apx, zAC rfl rfl, apx, apx, zAC rfl rfl, trivial⟩,
   ⟨bbx, bbx, zA8 (by decide) rfl (vFF rfl rfl rfl (by decide) (by decide) (by decide)) rfl rfl, zAD (by decide) rfl rfl (zAW fun _ => ⟨rfl, by simp [vBF, vAZ]⟩) rfl, zAD (by decide) rfl rfl (zAW fun _ => ⟨rfl, by simp [vBF, vAZ]⟩) rfl, zAD (by decide) rfl rfl (fun e he => by cases he) rfl, trivial⟩, by simp [ren]⟩
 intro i i1;have hA' : (A.take i).length = i := by rw [List.length_take]; omega
 have hB' : (B.take i).length = i := by rw [List.length_take]; omega
 have hd := vJL ha i;by_cases hi : i < m
 ·have c1 := vNQ l (bdA l a i) hl hd
  have c2 := vNQ l (vMR l (bdA l a i)) hl (zLX hd);have z1 := zAL (zGC l (bdA l a i));have z2 := zAL (zGC l (vMR l (bdA l a i)));have c3 := zD5 (cr (vEG l (bdA l a i))) (uAJ (vEG l (vMR l (bdA l a i)))) (zAI _) (vWG _) (by omega) (by omega) (by show (cr _).num.length < _; omega) (by show (cr _).den.length < _; omega);rw [zAQ, gB i hi] at c3;rw [gA i hi] at c1 c3
  (repeat' (first|refine stp ?_|with_reducible(refine brr ?_ ?_<;>intro h)));all_goals try(conv=>whnf)
  ·refine zBH (r := 0) c1 rfl rfl rfl rfl (zD1 _ _) (zGL _ _) ?_
   refine sts ?_;refine zBH (r := 0) c2 rfl rfl rfl rfl (zD1 _ _) (zGL _ _) ?_;refine sts ?_;refine zAA c3 rfl ?_;refine sts ?_;have sA := zHX (ys := A) (i := i) (by omega);have sB := zHX (ys := B) (i := i) (by omega)
   exact ⟨i + 1, ⟨by omega, by show m - (i + 1) < m - i; omega⟩, [1, 2, 23, 30, 5], [], [], [], ttt, ⟨apx, zAC rfl rfl, apx, apx, zAC rfl rfl, trivial⟩,
   ⟨bbx, bbx, zA8 (by decide) rfl (vFF rfl rfl rfl (by decide) (by decide) (by decide)) rfl rfl, zAD (by decide) rfl sA (zAW fun _ => ⟨rfl, by simp [vBF, vAZ]⟩) rfl, zAD (by decide) rfl sB (zAW fun _ => ⟨rfl, by simp [vBF, vAZ]⟩) rfl, zAD (by decide) rfl rfl (fun e he => by cases he) rfl, trivial⟩, by simp [ren]⟩
  all_goals (exfalso; omega)
 ·obtain rfl : i = m := by omega
  obtain ⟨R, hR⟩ : ∃ R, rwI l (nx2 l (bdA l a i)) i (nx1 l (bdA l a i) 3) = R := ⟨_, rfl⟩;have hrA : uCQ l a i = rwA l (nx2 l (bdA l a i)) i (nx1 l (bdA l a i) 3) := rfl
  have hreg : vBG (vDW l a i) = .agg [.imm (A.map vBF), .imm (B.map vBF), .imm (R.map vA5)] := by
   unfold vBG vDW;rw [hA, hB, hR];simp only [List.map_map];rw [show (vBD ∘ QF.L) = vA5 from funext fun f => (zJM f).symm];rfl
  have c0 := zHR l (bdA l a i) 3 hl hd (by decide);have hn := zG8 (l := l) (a := bdA l a i) (n := 3) (by decide);have ha1 := zD8 hd;rw [hreg, hrA];have lR : R.length = nx1 l (bdA l a i) 3 := by rw [← hR]; simp [rwI]
  have gR : ∀ j, j < nx1 l (bdA l a i) 3 → (vCG l (rwA l (nx2 l (bdA l a i)) i j) i).1 = R[j]! := fun j hj => by rw [← hR]; unfold rwI; rw [zBV hj]
  generalize nx1 l (bdA l a i) 3 = n at *
  generalize nx2 l (bdA l a i) = a1 at *
  (repeat' (first|refine stp ?_|with_reducible(refine brr ?_ ?_<;>intro h)));all_goals try(conv=>whnf)
  all_goals try (exfalso; omega)
  refine zBH (r := 0) c0 rfl rfl rfl rfl (zD1 _ _) (zGL _ _) ?_;refine sts ?_
  refine zAG hT (fun (j : Nat) => [(0, .ptr 0 0 0), (1, .int .i64 i), (4, .ptr 1 0 0), (5, .ptr 2 0 0), (9, .int .i64 ((n - j : Nat) : Int))])
   (fun j => [(0, fdB l (rwA l a1 i j)), (1, ⟨[.agg [.nilsl, .nilsl, .nilsl]], 3, true⟩), (2, ⟨[.agg [.own 3 0 i, .own 4 0 i, .own 5 0 j]], 3, true⟩), (3, ⟨A.map vBF, 3, true⟩), (4, ⟨B.map vBF, 3, true⟩), (5, ⟨(R.take j).map vA5, 4, true⟩)]) [] 6
   (fun j => j ≤ n) (fun j => n - j) 0 (Nat.zero_le _) (by decide) (by simp) ?_ ?_
  ·exact ⟨[1, 2, 3, 4, 5], [], [], [], ttt, ⟨apx, zAC rfl rfl, apx, apx, zAC rfl rfl, trivial⟩,
    ⟨bbx, bbx, zA8 (by decide) rfl (vFF rfl rfl rfl (by decide) (by decide) (by decide)) rfl rfl, zAD (by decide) rfl (by rw [List.take_of_length_le (by omega)]) (zAW fun _ => ⟨rfl, by simp [vBF, vAZ]⟩) rfl, zAD (by decide) rfl (by rw [List.take_of_length_le (by omega)]) (zAW fun _ => ⟨rfl, by simp [vBF, vAZ]⟩) rfl, zAD (by decide) rfl rfl (fun e he => by cases he) rfl, trivial⟩, by simp [ren]⟩
  intro j j1;have hR' : (R.take j).length = j := by rw [List.length_take]; omega
  by_cases hj : j < n
  ·have cf := vG1 l (rwA l a1 i j) i hl (zLE ha1 j) (by omega)
   rw [gR j hj] at cf
   have sR : (R.take j).map vA5 ++ [vA5 R[j]!] = (R.take (j + 1)).map vA5 := by
    rw [List.take_succ_eq_append_getElem (by omega), List.map_append, getElem!_pos R j (by omega)]; rfl
   (repeat' (first|refine stp ?_|with_reducible(refine brr ?_ ?_<;>intro h)));all_goals try(conv=>whnf)
   ·refine zBH (r := 0) cf rfl rfl rfl rfl (zD1 _ _) (zGL _ _) ?_
    refine sts ?_
    exact ⟨j + 1, ⟨by omega, by show n - (j + 1) < n - j; omega⟩, [1, 2, 3, 4, 14], [], [], [], ttt, ⟨apx, zAC rfl rfl, apx, apx, zAC rfl (by omega), trivial⟩,
     ⟨bbx, bbx, zA8 (by decide) rfl (vFF rfl rfl rfl (by decide) (by decide) (by decide)) rfl rfl, zAD (by decide) rfl rfl (zAW fun _ => ⟨rfl, by simp [vBF, vAZ]⟩) rfl, zAD (by decide) rfl rfl (zAW fun _ => ⟨rfl, by simp [vBF, vAZ]⟩) rfl, zAD (by decide) rfl sR (zAW fun _ => ⟨rfl, by simp [vA5]⟩) rfl, trivial⟩, by simp [ren]⟩
   all_goals (exfalso; omega)
  ·obtain rfl : j = n := by omega
   rw [List.take_of_length_le (by omega)];refine sus ?_;refine zAX ?_
   (repeat' (first|refine stu ?_|with_reducible(refine brr ?_ ?_<;>intro h)));all_goals try(conv=>whnf)
   ·exfalso; omega
   refine zAX ?_;refine sus ?_
   refine vB7 [] [(4, .ptr 1 0 0)] [(0, fdB l (rwA l a1 i j)), (1, ⟨[.agg [.imm (A.map vBF), .imm (B.map vBF), .imm (R.map vA5)]], 3, true⟩)] [] 2 (by decide) (by simp) trivial
    ⟨[1], [3, 4, 5], [], [(1, [.agg [.imm (A.map vBF), .imm (B.map vBF), .imm (R.map vA5)]])], ⟨⟨⟨_, rfl⟩, ⟨_, rfl⟩, ⟨_, rfl⟩, trivial⟩, trivial, ⟨⟨_, 6, _, rfl, zAP (zC7 (zAP (zAH (f := vBF) (l := A) rfl rfl lA.symm fun q => zD4 (cr q)) (zAP (zAH (f := vBF) (l := B) rfl rfl lB.symm fun q => zD4 (cr q)) (zAP (zAH (f := vA5) (l := R) rfl rfl lR.symm vGJ) rfl)))) rfl, rfl⟩, trivial⟩⟩,
      ⟨apx, trivial⟩, ⟨bbx, bbx, trivial⟩, by simp [ren]⟩ ?_
   refine sts ?_;exact zBU rfl rfl rfl rfl rfl (zD1 _ _)
end Go.PI.Tryz
