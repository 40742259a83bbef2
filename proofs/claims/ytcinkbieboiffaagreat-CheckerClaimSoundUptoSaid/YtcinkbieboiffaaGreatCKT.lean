/-
  The reference's answer to a claim.
-/
import Derived.Test.YtcinkbieboiffaaGreatCKS
import Derived.Test.YtcinkbieboiffaaGreatCSA
import Derived.Test.YtcinkbieboiffaaGreatCSB
set_option linter.unusedVariables false
set_option linter.unusedSimpArgs false
set_option linter.unnecessarySimpa false
namespace Go.PI.Tryz
open Go.Proofs Go.PI
theorem ok_rcvalid : FO 117 Tryz.f117 [.tmp 4] 65 := mkO Tryz.func117 Tryz.ntmps117 Tryz.results117
theorem c_rcvalid (c : ClaL) (n : Int) (hc : okC 950000000 c) : Fn 117 [encCla c, .int .i64 n] (.data (.bool (dB (VaC c n)))) := by
 obtain ⟨hm, hrl, hrw⟩ := hc;have no : ¬ VaC c n → false = dB (VaC c n) := zFA;have yes : VaC c n → true = dB (VaC c n) := fun h => (dB_true.2 h).symm
 have cc := zG9 c.rows n ⟨hrl, fun f hf => zBE (by decide) (hrw f hf)⟩;have c1 := zFB c.margin hm.1 (by have := hm.2; omega) (by have := hm.2; omega);have c2 := zC7 c.margin hm.1 (by have := hm.2; omega);have hs : ¬ sgnQ (qv c.margin) < 0 ↔ 0 ≤ qv c.margin := by rw [sgnQ_neg]; exact Rat.not_lt
 refine zAJ hmix hT ok_rcvalid (by simp [encCla]) ?_
 (repeat' (first|refine stp ?_|with_reducible(refine brr ?_ ?_<;>intro h)));all_goals try(conv=>whnf)
 ·exact zAB rfl (congrArg PV.bool (no fun e => by have := e.1.1; omega))
 ·exact zAB rfl (congrArg PV.bool (no fun e => by have := e.1.2; omega))
 refine zAA c1 rfl ?_
 (repeat' (first|refine stp ?_|with_reducible(refine brr ?_ ?_<;>intro h)));all_goals try(conv=>whnf)
 rotate_left
 ·exact zAB rfl (congrArg PV.bool (no fun e => absurd e.2.1 (by assumption)))
 have hcan : CanR c.margin := by assumption
 refine zAA c2 rfl ?_
 (repeat' (first|refine stp ?_|with_reducible(refine brr ?_ ?_<;>intro h)));all_goals try(conv=>whnf)
 ·exact zAB rfl (congrArg PV.bool (no fun e => (hs.2 e.2.2.1) (by assumption)))
 have hsg := hs.1 (by assumption)
 ·refine zAB rfl (congrArg PV.bool ?_)
  rw [Bool.eq_iff_iff, dB_true, beq_iff_eq, List.length_map];exact ⟨fun e => ⟨⟨by omega, by omega⟩, hcan, hsg, Or.inl ⟨by assumption, ⟨by omega, by omega⟩, by omega⟩⟩, fun e => by rcases e.2.2.2 with ⟨a, b, d⟩ | ⟨a, b, d, _⟩ <;> omega⟩
 ·exact zAB rfl (congrArg PV.bool (no fun e => by rcases e.2.2.2 with ⟨a, b, d⟩ | ⟨a, b, d, _⟩ <;> omega))
 ·exact zAB rfl (congrArg PV.bool (no fun e => by rcases e.2.2.2 with ⟨a, b, d⟩ | ⟨a, b, d, _⟩ <;> omega))
 ·have hsg := hs.1 (by assumption)
  refine zAA cc rfl ?_;refine sts ?_;refine zAB rfl (congrArg PV.bool ?_);rw [Bool.eq_iff_iff, dB_true, dB_true]
  exact ⟨fun e => ⟨⟨by omega, by omega⟩, hcan, hsg, Or.inr ⟨by assumption, by assumption, ⟨by omega, by omega⟩, e⟩⟩, fun e => by
   rcases e.2.2.2 with ⟨a, b, d⟩ | ⟨a, b, d, g⟩
   ·omega
   ·exact g⟩
 ·exact zAB rfl (congrArg PV.bool (no fun e => by rcases e.2.2.2 with ⟨a, b, d⟩ | ⟨a, b, d, _⟩ <;> omega))
 ·exact zAB rfl (congrArg PV.bool (no fun e => by rcases e.2.2.2 with ⟨a, b, d⟩ | ⟨a, b, d, _⟩ <;> omega))
 ·exact zAB rfl (congrArg PV.bool (no fun e => by rcases e.2.2.2 with ⟨a, b, d⟩ | ⟨a, b, d, _⟩ <;> omega))
 ·exact zAB rfl (congrArg PV.bool (no fun e => by rcases e.2.2.2 with ⟨a, b, d⟩ | ⟨a, b, d, _⟩ <;> omega))
theorem zNA : FO 84 Tryz.f84 [.tmp 4, .tmp 5] 59 := mkO Tryz.func84 Tryz.ntmps84 Tryz.results84
theorem c_rcgoalsN (c : ClaL) (m : Nat) (hc : okC 950000000 c) (hv : ¬ VaC c m) : Fn 84 [encCla c, .int .i64 m] (.data (.tup [.imm [], .int .i64 1])) := by
 have cv := c_rcvalid c m hc;rw [dB_false.2 hv] at cv;refine zAJ hmix hT zNA (by simp [encCla]) ?_;refine sts ?_;refine zAA cv rfl ?_;refine sts ?_;exact zAB rfl rfl
theorem c_rcgoals (c : ClaL) (m k : Nat) (hc : okC k c) (hk : k ≤ 400000000) (hk1 : 1 ≤ k) (hv : VaC c m) : Fn 84 [encCla c, .int .i64 m] (.data (.tup [.imm ((goalsC c m).map encF), .int .i64 0])) := by
 have cv := c_rcvalid c m ⟨zBU (by omega) hc.m, ⟨hc.r.1, fun f hf => zBE (by omega) (hc.r.2 f hf)⟩⟩;rw [dB_true.2 hv] at cv;obtain ⟨⟨hm1, hm2⟩, hcan, hpos, hkind⟩ := id hv;have hrl := hc.r.1;have cn := zDN c.margin hcan;have hms : szF k (numQ' (qv c.margin)) := ⟨zH8 hc.m.1 hc.m.2.1 hc.m.2.2 hk1, fun p hp => by cases hp⟩;refine zAJ hmix hT zNA (by simp [encCla]) ?_;refine sts ?_;refine zAA cv rfl ?_;refine sts ?_;refine zAA cn rfl ?_
 (repeat' (first|refine stp ?_|with_reducible(refine brr ?_ ?_<;>intro h)));all_goals try(conv=>whnf)
 ·have hk2 : c.kind = 2 := by assumption
  have hrv : ∀ i, i < c.rows.length → ValidF c.rows[i]! m := by
   rcases hkind with ⟨e, _⟩ | ⟨_, _, _, e⟩
   ·omega
   ·exact e
  have hg : goalsC c m = c.rows.map (rowGC c) := by unfold goalsC; rw [if_neg (by omega), List.append_nil]
  refine zDR hT [(.sl 6, 4, true)] (fun (i : Nat) => [(2, .ptr 0 0 0), (6, .own 2 0 i), (7, .ptr 1 0 0), (8, .int .i64 i)])
   (fun i => [(0, ⟨[encCla c], 6, true⟩), (1, ⟨[encF (numQ' (qv c.margin))], 4, true⟩), (2, ⟨((c.rows.take i).map (rowGC c)).map encF, 4, true⟩)]) [] 3
   (fun i => i ≤ c.rows.length) (fun i => c.rows.length - i) 0 (Nat.zero_le _) (by decide) (by simp) ⟨rfl, trivial⟩ ?_ ?_
  ·exact ⟨[0, _, _], [], [], [], ttt, ⟨(apy rfl), zAU (by decide) rfl rfl, (apy rfl), zAC rfl rfl, trivial⟩, ⟨bbx, bbx, zAE (by decide) rfl rfl (zAM fun x => ⟨rfl, by simp [encF]⟩) rfl, trivial⟩, by simp [ren]⟩
  intro i i1;have hlen : ((c.rows.take i).map (rowGC c)).length = i := by rw [List.length_map, List.length_take]; omega
  by_cases hi : i < c.rows.length
  ·have hrow := hc.r.2 _ (get_mem hi)
   have hval := hrv i hi;have htl := hrow.2.2;have cs := zDM c.rows[i]!.Q (numQ' (qv c.margin)) k k (zCQ hrow hk1) hms (zD0 hval).1 (zDK _) (by omega) (by have e : c.rows[i]!.Q.ts.length + (numQ' (qv c.margin)).ts.length = c.rows[i]!.terms.length + 0 := (by rw [show c.rows[i]!.Q.ts.length = c.rows[i]!.terms.length by simp [AffL.Q]]; rfl); omega) hk1;rw [zKY hval] at cs
   have hsn : ((c.rows.take i).map (rowGC c)).map encF ++ [encF (rowGC c c.rows[i]!)] = ((c.rows.take (i + 1)).map (rowGC c)).map encF := by
    rw [List.take_succ_eq_append_getElem hi, List.map_append, List.map_append, getElem!_pos c.rows i hi]; rfl
   (repeat' (first|refine stp ?_|with_reducible(refine brr ?_ ?_<;>intro h)));all_goals try(conv=>whnf)
   all_goals try (exfalso; omega)
   refine zAA cs rfl ?_;refine sts ?_;exact ⟨i + 1, ⟨by omega, by show c.rows.length - (i + 1) < c.rows.length - i; omega⟩, [0, 1, _], [], [], [], ttt, ⟨(apy rfl), zAU (by decide) rfl rfl, (apy rfl), zAC rfl rfl, trivial⟩, ⟨bbx, bbx, zAE (by decide) rfl hsn (zAM fun x => ⟨rfl, by simp [encF]⟩) rfl, trivial⟩, by simp [ren]⟩
  ·obtain rfl : i = c.rows.length := by omega
   rw [List.take_length]
   (repeat' (first|refine stp ?_|with_reducible(refine brr ?_ ?_<;>intro h)));all_goals try(conv=>whnf)
   all_goals try (exfalso; omega)
   rw [hg];exact zAB (zEK (zAF (zAN (f := encF) (l := c.rows.map (rowGC c)) rfl rfl (by simp) (fun x => zKV x)) (zAF rfl rfl))) rfl
 ·obtain ⟨hk1', ⟨ht0, hr0⟩⟩ : c.kind = 1 ∧ (0 ≤ c.target ∧ c.target < m) ∧ c.rows.length = 0 := by
   rcases hkind with e | ⟨e, _⟩
   ·exact e
   ·omega
  have hrn : c.rows = [] := List.length_eq_zero_iff.1 hr0;have hg : goalsC c m = topL c m := by unfold goalsC; rw [if_pos hk1', hrn]; rfl
  have hone : ∀ v, szF 1 (varQ v) := fun v => ⟨zC9 (by decide) (zCL (z := 0) (by decide)), fun p hp => by rw [List.mem_singleton.1 hp]; exact zCL (z := 1) (by decide)⟩
  refine zDR hT [(.sl 6, 4, true)] (fun (j : Nat) => [(1, .int .i64 m), (2, .ptr 0 0 0), (6, .own 2 0 (topL c j).length), (7, .ptr 1 0 0), (9, .int .i64 j)])
   (fun j => [(0, ⟨[encCla c], 6, true⟩), (1, ⟨[encF (numQ' (qv c.margin))], 4, true⟩), (2, ⟨(topL c j).map encF, 4, true⟩)]) [] 3
   (fun j => j ≤ m) (fun j => m - j) 0 (Nat.zero_le _) (by decide) (by simp) ⟨rfl, trivial⟩ ?_ ?_
  ·exact ⟨[0, _, _], [], [], [], ttt, ⟨zAC rfl rfl, (apy rfl), zAU (by decide) rfl rfl, (apy rfl), zAC rfl rfl, trivial⟩, ⟨bbx, bbx, zAE (by decide) rfl rfl (zAM fun x => ⟨rfl, by simp [encF]⟩) rfl, trivial⟩, by simp [ren]⟩
  intro j j1;have htl := topL_len c j;by_cases hj : j < m
  ·have cv1 := zFN c.target
   have cv2 := zFN j;have cs1 := zDM (varQ c.target) (varQ j) 1 1 (hone _) (hone _) (zD8 _) (zD8 _) (by omega) (by simp [varQ]) (by decide);have hl2 := zES (f := varQ c.target) (g := varQ j) (c := -1);have e2 : (varQ c.target).ts.length + (varQ j).ts.length = 2 := rfl;have e3 : (numQ' (qv c.margin)).ts.length = 0 := rfl;have cs2 := zDM (subQ (varQ c.target) (varQ j)) (numQ' (qv c.margin)) 4 k (zD3 (hone _) (hone _) (zCL (z := -1) (by decide)) (by omega)) hms (zA8 (zD8 _) (zD8 _)) (zDK _) (by omega) (by unfold subQ; omega) (by decide)
   (repeat' (first|refine stp ?_|with_reducible(refine brr ?_ ?_<;>intro h)));all_goals try(conv=>whnf)
   all_goals try (exfalso; omega)
   ·have hne : (j : Int) ≠ c.target := by assumption
    have hsn : (topL c j).map encF ++ [encF (topG c j)] = (topL c (j + 1)).map encF := by rw [topL_in hne, List.map_append]; rfl
    have hln : (topL c j).length + 1 = (topL c (j + 1)).length := by rw [topL_in hne, List.length_append]; rfl
    refine zAA cv1 rfl ?_;refine sts ?_;refine zAA cv2 rfl ?_;refine sts ?_;refine zAA cs1 rfl ?_;refine sts ?_;refine zAA cs2 rfl ?_;refine sts ?_;exact ⟨j + 1, ⟨by omega, by show m - (j + 1) < m - j; omega⟩, [0, 1, _], [], [], [], ttt, ⟨zAC rfl rfl, (apy rfl), zAU (by decide) rfl hln, (apy rfl), zAC rfl rfl, trivial⟩, ⟨bbx, bbx, zAE (by decide) rfl hsn (zAM fun x => ⟨rfl, by simp [encF]⟩) rfl, trivial⟩, by simp [ren]⟩
   ·have heq : (j : Int) = c.target := by first | assumption | exact Decidable.not_not.1 (by assumption)
    have e := topL_out heq;exact ⟨j + 1, ⟨by omega, by show m - (j + 1) < m - j; omega⟩, [0, 1, 2], [], [], [], ttt, ⟨zAC rfl rfl, apx, zAU (by decide) rfl (by rw [e]), apx, zAC rfl rfl, trivial⟩, ⟨bbx, bbx, zAE (by decide) rfl (by rw [e]) (zAM fun x => ⟨rfl, by simp [encF]⟩) rfl, trivial⟩, by simp [ren]⟩
  ·obtain rfl : j = m := by omega
   (repeat' (first|refine stp ?_|with_reducible(refine brr ?_ ?_<;>intro h)));all_goals try(conv=>whnf)
   all_goals try (exfalso; omega)
   rw [hg];exact zAB (zEK (zAF (zAN (f := encF) (l := topL c j) rfl rfl (by simp) (fun x => zKV x)) (zAF rfl rfl))) rfl
end Go.PI.Tryz
namespace Go.PI.Tryz
open Go.Proofs Go.PI
theorem ok_rgoal : FO 114 Tryz.f114 [.cell 4 34, .tmp 5] 50 := mkO Tryz.func114 Tryz.ntmps114 Tryz.results114
theorem c_rgoal (g : GraL) (f : QF) (k : Nat) (hg : okGra k g) (hk : k ≤ 2000000) (hk1 : 1 ≤ k) (v1 : VaG g) (hok : okF g.outs.length f) (hG2 : szF 30000000 f) (hG1 : ∀ j, j ≤ f.ts.length → szF 30000000 (goA g f j)) : Fn 114 [encGra g, encF f] (.data (.tup [encF (goalG g f), .int .i64 0])) := by
 have c1 := zDB g ⟨⟨hg.1.1, fun f hf => zBE (by omega) (hg.1.2 f hf)⟩, ⟨hg.2.1, fun f hf => zBE (by omega) (hg.2.2 f hf)⟩⟩;rw [dB_true.2 v1] at c1;have hol := hg.2.1
 have htl2 : f.ts.length ≤ 256 := by
  have := zDP g.outs.length hok.1.1 (fun t ht => by have := hok.2 t ht; omega);have := v1.2.2.1.2;omega
 have c2 := zHA f.L g.outs.length (zBE (by omega) (okA_L hG2 (by omega)));rw [validB_true.2 (valid_of hok), ← zG6] at c2;have cn := zDN (cr f.c) (by unfold CanR; rw [zBA]);rw [zBA] at cn;refine zAJ hmix hT ok_rgoal (by simp [encGra, encF]) ?_;refine sts ?_;refine zAA c1 rfl ?_;refine sts ?_;rw [List.length_map];refine zAA c2 rfl ?_;refine sts ?_;refine zAA cn rfl ?_;refine sts ?_
 refine zAL hT (fun (j : Nat) => [(2, .ptr 0 0 0), (3, .ptr 1 0 0), (4, .ptr 2 0 0), (5, .int .i64 0), (6, .ptr 3 0 0), (7, .int .i64 j)])
  (fun j => [(0, ⟨[encGra g], 3, true⟩), (1, ⟨[encF f], 4, true⟩), (2, ⟨[.agg [.nilsl, .bool false, .nilsl, .nilsl]], 4, true⟩), (3, ⟨[encF (goA g f j)], 4, true⟩)]) [] 4
  (fun j => j ≤ f.ts.length) (fun j => f.ts.length - j) 0 (Nat.zero_le _) (by decide) (by simp) ?_ ?_
 ·exact ⟨[0, 1, 2, _], [], [], [], ttt, ⟨(apy rfl), (apy rfl), (apy rfl), zAC rfl rfl, (apy rfl), zAC rfl rfl, trivial⟩, ⟨bbx, bbx, bbx, zJ1 (by decide) rfl (by rw [zIY]; rfl) rfl rfl rfl, trivial⟩, by simp [ren]⟩
 intro j j1;by_cases hj : j < f.ts.length
 ·obtain ⟨o1, o2⟩ := out_ok v1 hok hj
  have hom := hg.2.2 _ (get_mem o1);have hcq : sz 30000000 f.ts[j]!.2 := hG2.2 _ (get_mem hj);have hov := v1.2.2.2.2 _ o1
  have hol2 : g.outs[f.ts[j]!.1.toNat]!.Q.ts.length ≤ 1280 := by
   have h1 := zDP (g.ins + g.units.length).toNat o2.1.1 (fun t ht => by have := o2.2 t ht; omega);have := v1.1; have := v1.2.1; omega
  have csc := zD7 g.outs[f.ts[j]!.1.toNat]!.Q f.ts[j]!.2 k 30000000 (zCQ hom hk1) hcq o2.1 (by omega) (by omega);rw [zKY hov] at csc;have hsl := zES (f := zeroQ) (g := g.outs[f.ts[j]!.1.toNat]!.Q) (c := f.ts[j]!.2);have hz0 : zeroQ.ts.length = 0 := rfl;have h0 := goA_ok v1 hok j j1
  have hgal : (goA g f j).ts.length ≤ 1280 := by
   have h1 := zDP (g.ins + g.units.length).toNat h0.1.1 (fun t ht => by have := h0.2 t ht; omega);have := v1.1; have := v1.2.1; omega
  have cad := c_radd' (goA g f j) (sclQ g.outs[f.ts[j]!.1.toNat]!.Q f.ts[j]!.2) 30000000 (1 + (k + 30000000) + 1) (hG1 j j1) (zD3 (zC4 1 (by decide)) (zCQ hom hk1) hcq (by omega)) h0.1 (zJ4 o2).1 (by omega) (by unfold sclQ; omega);rw [← zIZ hj] at cad;have hidx : 0 ≤ f.ts[j]!.1 := (hok.2 _ (get_mem hj)).1
  (repeat' (first|refine stp ?_|with_reducible(refine brr ?_ ?_<;>intro h)));all_goals try(conv=>whnf)
  all_goals try (exfalso; omega)
  refine zA9 ⟨hidx, by rw [List.length_map]; show f.ts[j]!.1 < _; omega⟩ ?_;refine sts ?_;refine zAY (j := f.ts[j]!.1.toNat) (show f.ts[j]!.1 = _ by omega) o1 ?_;refine sts ?_;refine zAA csc rfl ?_;refine sts ?_;refine zAA cad rfl ?_;refine sts ?_;exact ⟨j + 1, ⟨by omega, by show f.ts.length - (j + 1) < f.ts.length - j; omega⟩, [0, 1, 2, 3], [], [], [], ttt, ⟨apx, apx, apx, zAC rfl rfl, apx, zAC rfl rfl, trivial⟩, ⟨bbx, bbx, bbx, bbx, trivial⟩, by simp [ren]⟩
 ·obtain rfl : j = f.ts.length := by omega
  (repeat' (first|refine stp ?_|with_reducible(refine brr ?_ ?_<;>intro h)));all_goals try(conv=>whnf)
  all_goals try (exfalso; omega)
  exact zAB rfl rfl
end Go.PI.Tryz
namespace Go.PI.Tryz
open Go.Proofs Go.PI
theorem frz_encQry {h : Hp} {n : Nat} (q : QryL) : frz h (n + 1) (encQry q) = some (encQry q, []) := by cases n <;> rfl
theorem zLQ : FO 75 Tryz.f75 [.tmp 6, .tmp 7] 57 := mkO Tryz.func75 Tryz.ntmps75 Tryz.results75
theorem c_rqueriesN (g : GraL) (r : RegL) (c : ClaL) (hg : okGra 950000000 g) (hr : okReg 950000000 r) (hc : okC 950000000 c) (hv : ¬ (VaG g ∧ VaR r g.ins ∧ VaC c g.outs.length)) : Fn 75 [encGra g, encReg r, encCla c] (.data (.tup [.imm [], .int .i64 1])) := by
 have c1 := zDB g hg;have c2 := zG8 r g.ins hr;have cN := fun h => c_rcgoalsN c g.outs.length hc h
 refine zAJ hmix hT zLQ (by simp [encGra, encReg, encCla]) ?_;refine sts ?_;refine zAA c1 rfl ?_
 (repeat' (first|refine stp ?_|with_reducible(refine brr ?_ ?_<;>intro h)));all_goals try(conv=>whnf)
 rotate_left
 ·exact zAB rfl rfl
 refine zAA c2 rfl ?_
 (repeat' (first|refine stp ?_|with_reducible(refine brr ?_ ?_<;>intro h)));all_goals try(conv=>whnf)
 rotate_left
 ·exact zAB rfl rfl
 rw [List.length_map];refine zAA (cN fun e => hv ⟨dB_true.1 (by assumption), dB_true.1 (by assumption), e⟩) rfl ?_;refine sts ?_;exact zAB rfl rfl
theorem c_rqueries (g : GraL) (r : RegL) (c : ClaL) (k : Nat) (hg : okGra k g) (hr : okReg k r) (hc : okC k c) (hk : k ≤ 2000000) (hk1 : 1 ≤ k) (v1 : VaG g) (v2 : VaR r g.ins) (v3 : VaC c g.outs.length)
 (hG : ∀ i, i < (goalsC c g.outs.length).length → (∀ j, j ≤ (goalsC c g.outs.length)[i]!.ts.length → szF 30000000 (goA g (goalsC c g.outs.length)[i]! j)) ∧ szF 30000000 (goalsC c g.outs.length)[i]!) :
 Fn 75 [encGra g, encReg r, encCla c] (.data (.tup [.imm ((goalsC c g.outs.length).map fun f => encQry (qG g r f)), .int .i64 0])) := by
 have c1 := zDB g ⟨⟨hg.1.1, fun f hf => zBE (by omega) (hg.1.2 f hf)⟩, ⟨hg.2.1, fun f hf => zBE (by omega) (hg.2.2 f hf)⟩⟩;have c2 := zG8 r g.ins (zEJ (by omega) hr);rw [dB_true.2 v1] at c1;rw [dB_true.2 v2] at c2;have hol := hg.2.1;have c3 := c_rcgoals c g.outs.length k hc (by omega) hk1 v3;have hgl := zIX v3;have hgo := zHH v3;generalize goalsC c g.outs.length = gs at *
 refine zAJ hmix hT zLQ (by simp [encGra, encReg, encCla]) ?_;refine sts ?_;refine zAA c1 rfl ?_;refine sts ?_;refine zAA c2 rfl ?_;refine sts ?_;rw [List.length_map];refine zAA c3 rfl ?_;refine sts ?_
 refine zDR hT [(.sl 10, 10, true)] (fun (i : Nat) => [(3, .ptr 0 0 0), (4, .ptr 1 0 0), (8, .imm (gs.map encF)), (10, .own 3 0 i), (11, .int .i64 i)])
  (fun i => [(0, ⟨[encGra g], 3, true⟩), (1, ⟨[encReg r], 3, true⟩), (2, ⟨[encCla c], 6, true⟩), (3, ⟨(gs.take i).map fun f => encQry (qG g r f), 10, true⟩)]) [] 4
  (fun i => i ≤ gs.length) (fun i => gs.length - i) 0 (Nat.zero_le _) (by decide) (by simp) ⟨rfl, trivial⟩ ?_ ?_
 ·exact ⟨[0, 1, 2, _], [], [], [], ttt, ⟨(apy rfl), (apy rfl), zAD rfl rfl, zAU (by decide) rfl rfl, zAC rfl rfl, trivial⟩, ⟨bbx, bbx, bbx, zAE (by decide) rfl rfl (zAM fun x => ⟨rfl, by simp [encQry]⟩) rfl, trivial⟩, by simp [ren]⟩
 intro i i1;by_cases hi : i < gs.length
 ·obtain ⟨hG1, hG2⟩ := hG i hi
  have hok := hgo _ (get_mem hi);have cg := c_rgoal g gs[i]! k hg hk hk1 v1 hok hG2 hG1
  have hsn : ((gs.take i).map fun f => encQry (qG g r f)) ++ [encQry (qG g r gs[i]!)] = (gs.take (i + 1)).map fun f => encQry (qG g r f) := by
   rw [List.take_succ_eq_append_getElem hi, List.map_append, getElem!_pos gs i hi]; rfl
  rw [qG_V] at hsn
  (repeat' (first|refine stp ?_|with_reducible(refine brr ?_ ?_<;>intro h)));all_goals try(conv=>whnf)
  all_goals try (exfalso; omega)
  refine zAA cg rfl ?_;refine sts ?_;exact ⟨i + 1, ⟨by omega, by show gs.length - (i + 1) < gs.length - i; omega⟩, [0, 1, 2, _], [], [], [], ttt, ⟨(apy rfl), (apy rfl), zAD rfl rfl, zAU (by decide) rfl rfl, zAC rfl rfl, trivial⟩, ⟨bbx, bbx, bbx, zAE (by decide) rfl hsn (zAM fun x => ⟨rfl, by simp [encQry]⟩) rfl, trivial⟩, by simp [ren]⟩
 ·obtain rfl : i = gs.length := by omega
  rw [List.take_length]
  (repeat' (first|refine stp ?_|with_reducible(refine brr ?_ ?_<;>intro h)));all_goals try(conv=>whnf)
  all_goals try (exfalso; omega)
  exact zAB (zEK (zAF (zAN (f := fun f => encQry (qG g r f)) (l := gs) rfl rfl (by simp) (fun x => frz_encQry _)) (zAF rfl rfl))) rfl
end Go.PI.Tryz
namespace Go.PI.Tryz
open Go.Proofs Go.PI
theorem ok_rclaim : FO 32 Tryz.f32 [.tmp 8, .tmp 9] 54 := mkO Tryz.func32 Tryz.ntmps32 Tryz.results32
theorem c_rclaim (g : GraL) (r : RegL) (c : ClaL) (d : Nat → Int) (ts : List NodeL) (k : Nat) (hg : okGra k g) (hr : okReg k r) (hc : okC k c) (hk : k ≤ 2000000) (hk1 : 1 ≤ k) (htl : ts.length ≤ 1048576)
 (hG : VaG g → VaC c g.outs.length → ∀ i, i < (goalsC c g.outs.length).length → (∀ j, j ≤ (goalsC c g.outs.length)[i]!.ts.length → szF 30000000 (goA g (goalsC c g.outs.length)[i]! j)) ∧ szF 30000000 (goalsC c g.outs.length)[i]!)
 (hTr : VaG g ∧ VaR r g.ins ∧ VaC c g.outs.length → ts.length = (goalsC c g.outs.length).length → ∀ i, i < ts.length → Fn 14 [encQry (qG g r (goalsC c g.outs.length)[i]!), nodeV ts[i]!] (.data (.tup [.imm ((treeR (qG g r (goalsC c g.outs.length)[i]!) ts[i]!).1.map encDec), .int .i64 (treeR (qG g r (goalsC c g.outs.length)[i]!) ts[i]!).2]))) :
 Fn 32 [encGra g, encReg r, encCla c, encCert d ts] (.data (.tup [.int .i64 (claimR g r c ts).1, .int .i64 (claimR g r c ts).2])) := by
 by_cases hv : VaG g ∧ VaR r g.ins ∧ VaC c g.outs.length
 rotate_left
 ·rw [claim_bad hv]
  have cq := c_rqueriesN g r c ⟨⟨hg.1.1, fun f hf => zBE (by omega) (hg.1.2 f hf)⟩, ⟨hg.2.1, fun f hf => zBE (by omega) (hg.2.2 f hf)⟩⟩ (zEJ (by omega) hr) ⟨zBU (by omega) hc.m, ⟨hc.r.1, fun f hf => zBE (by omega) (hc.r.2 f hf)⟩⟩ hv;refine zAJ hmix hT ok_rclaim (by simp [encGra, encReg, encCla, encCert]) ?_;refine sns ?_;refine zAA cq rfl ?_;refine sns ?_;exact zAB rfl rfl
 obtain ⟨v1, v2, v3⟩ := id hv;have cq := c_rqueries g r c k hg hr hc hk hk1 v1 v2 v3 (hG v1 v3);have hgl := zIX v3;have hTr := hTr hv;have hcl := fun (i : Nat) (hl : ts.length = (goalsC c g.outs.length).length) (hi : i < ts.length) => claim_at (r := r) (ts := ts) (i := i) hv hl hi
 have hca := claim_all (r := r) (ts := ts) hv;have hcm := claim_mis (r := r) (ts := ts) hv;generalize goalsC c g.outs.length = gs at *
 refine zAJ hmix hT ok_rclaim (by simp [encGra, encReg, encCla, encCert]) ?_;refine sns ?_;refine zAA cq rfl ?_
 (repeat' (first|refine stn ?_|(with_reducible refine brr ?_ ?_<;>intro h)|(with_reducible refine zAI ?_ ?_<;>intro h)|with_reducible refine zAW ?_ ?_)); all_goals try (conv=>whnf)
 ·rw [hcm (by omega)]
  exact zAB rfl rfl
 have hl : ts.length = gs.length := by omega
 refine zAL hT (fun (i : Nat) => [(7, .ptr 0 0 0), (10, .imm (gs.map fun f => encQry (qG g r f))), (12, .int .i64 i)])
  (fun _ => [(0, ⟨[encCert d ts], 33, true⟩)]) [] 1
  (fun i => i ≤ gs.length ∧ ∀ j, j < i → (treeR (qG g r gs[j]!) ts[j]!).2 = 0) (fun i => gs.length - i) 0 ⟨Nat.zero_le _, fun j h => by omega⟩ (by decide) (by simp) ?_ ?_
 ·exact ⟨[3], [], [], [], ttt, ⟨apx, zAD rfl rfl, zAC rfl rfl, trivial⟩, ⟨bbx, trivial⟩, by simp [ren]⟩
 rintro i ⟨i1, i2⟩
 by_cases hi : i < gs.length
 ·have ct := hTr hl i (by omega)
  have hat := hcl i hl (by omega) i2
  (repeat' (first|refine stn ?_|(with_reducible refine brr ?_ ?_<;>intro h)|(with_reducible refine zAI ?_ ?_<;>intro h)|with_reducible refine zAW ?_ ?_)); all_goals try (conv=>whnf)
  all_goals try (exfalso; omega)
  refine zAA ct rfl ?_
  (repeat' (first|refine stn ?_|(with_reducible refine brr ?_ ?_<;>intro h)|(with_reducible refine zAI ?_ ?_<;>intro h)|with_reducible refine zAW ?_ ?_)); all_goals try (conv=>whnf)
  ·rw [hat (by assumption)]
   exact zAB rfl rfl
  ·have h0 : (treeR (qG g r gs[i]!) ts[i]!).2 = 0 := by first | assumption | exact Decidable.not_not.1 (by assumption)
   exact ⟨i + 1, ⟨⟨by omega, fun j hj => zAZ (p := fun j => (treeR (qG g r gs[j]!) ts[j]!).2 = 0) i2 h0 hj⟩, by show gs.length - (i + 1) < gs.length - i; omega⟩, [0], [], [], [], ttt, ⟨apx, zAD rfl rfl, zAC rfl rfl, trivial⟩, ⟨bbx, trivial⟩, by simp [ren]⟩
 ·obtain rfl : i = gs.length := by omega
  rw [hca hl (fun j hj => i2 j (by omega))]
  (repeat' (first|refine stn ?_|(with_reducible refine brr ?_ ?_<;>intro h)|(with_reducible refine zAI ?_ ?_<;>intro h)|with_reducible refine zAW ?_ ?_)); all_goals try (conv=>whnf)
  all_goals try (exfalso; omega)
  exact zAB rfl rfl
end Go.PI.Tryz
