/-
  The checker: rows, derivations.
-/
import Derived.Test.YtbelmkceegmdjaaGreatDoorCLB
import Derived.Test.YtbelmkceegmdjaaGreatDoorCGA
import Derived.Test.YtbelmkceegmdjaaGreatDoorCPE
import Derived.Test.YtbelmkceegmdjaaGreatDoorCIB
set_option linter.unusedVariables false
set_option linter.unusedSimpArgs false
set_option linter.unnecessarySimpa false
namespace Go.PI.Tryz
open Go.Proofs Go.PI
theorem vUN (v : Int) : vB4 (vCN v) = .agg [.imm [vNZ (v, 1)], .bool false, .imm [], .imm []] := by unfold vB4 vCN; rw [vHJ]; rfl
theorem uCU : FO 164 Tryz.f164 [.cell 2 46] 8 := mkO Tryz.func164 Tryz.ntmps164 Tryz.results164
theorem vOJ (v : Int) : Fn 164 [.int .i64 v] (.data (vB4 (vCN v))) := by
 have c1 := uD4 1 (by decide);rw [show ((1 : Int) : Rat) = 1 by rfl] at c1;rw [vUN];refine zAO vBC hT uCU (by simp) ?_;refine sts ?_;refine zAA c1 rfl ?_;refine sts ?_;exact zAB rfl rfl
theorem uCY : FO 100 Tryz.f100 [.cell 2 46] 6 := mkO Tryz.func100 Tryz.ntmps100 Tryz.results100
theorem zNG (c : RatL) (k : Nat) (hc : okQ k c) (hk : k ≤ 950000000) : Fn 100 [vA8 c] (.data (vB4 (vBQ (qv c)))) := by
 have c1 := zKW c hc.1 (by have := hc.2; omega) (by have := hc.2; omega);refine zAO vBC hT uCY (by simp [vA8]) ?_;refine sts ?_;refine zAA c1 rfl ?_;refine sts ?_;exact zAB rfl rfl
theorem vTG : FO 101 Tryz.f101 [.cell 2 46] 6 := mkO Tryz.func101 Tryz.ntmps101 Tryz.results101
theorem vHP (f : QF) (k : Nat) (hf : szF k f) (hk : k ≤ 900000000) (hl : f.ts.length ≤ 1048576) : Fn 101 [vB4 f] (.data (vB4 (vD8 f (-1)))) := by
 have c1 := uD4 (-1) (by decide);rw [show (((-1 : Int)) : Rat) = -1 by rfl] at c1;have c2 := zJA f (-1) k 1 hf (zHJ (z := -1) (by decide)) (by omega) hl;refine zAO vBC hT vTG (by simp [vB4]) ?_;refine sts ?_;refine zAA c1 rfl ?_;refine sts ?_;refine zAA c2 rfl ?_;refine sts ?_;exact zAB rfl rfl
theorem vXW : FO 68 Tryz.f68 [.tmp 4] 61 := mkO Tryz.func68 Tryz.ntmps68 Tryz.results68
theorem uD8 (q : QryL) (d : DecL) (hu : q.g.units.length ≤ 1048576) (hd : okQ 950000000 d.rat) : Fn 68 [vBP q, vA9 d] (.data (.bool (dB (vNW q d)))) := by
 have cv := zFZ d.rat hd.1 (by have := hd.2; omega) (by have := hd.2; omega);have l2 := hd.2.1;have l3 := hd.2.2;have bad : ¬ vNW q d → false = dB (vNW q d) := vUR;refine zAO vBC hT vXW (by simp [vBP, vA9]) ?_
 (repeat' (first|refine stp ?_|with_reducible(refine brr ?_ ?_<;>intro h)));all_goals try(conv=>whnf)
 all_goals try (refine zAB rfl (congrArg PV.bool (bad fun e => ?_)); rcases e with ⟨e1, e2, e3, e4, e5, e6⟩ | ⟨e1, e2, e3, e4⟩ <;> first | omega | (simp_all; done))
 all_goals first
  | (refine zAA cv rfl ?_
     refine sts ?_;refine zAB rfl (congrArg PV.bool ?_);rw [Bool.eq_iff_iff, dB_true, decide_eq_true_eq]
     exact ⟨fun e => Or.inr ⟨by omega, by omega, by omega, e⟩, fun e => by rcases e with ⟨e1, _⟩ | ⟨_, _, _, e4⟩; (exfalso; omega); exact e4⟩)
  | (refine zAB rfl (congrArg PV.bool ?_)
     rw [Bool.eq_iff_iff, dB_true, beq_iff_eq];simp only [List.length_map]
     exact ⟨fun e => Or.inl ⟨by omega, by omega, by omega, by assumption, by omega, by omega⟩, fun e => by rcases e with ⟨_, _, _, _, _, e6⟩ | ⟨e1, _⟩; omega; (exfalso; omega)⟩)
theorem uCX : FO 69 Tryz.f69 [.cell 2 28] 16 := mkO Tryz.func69 Tryz.ntmps69 Tryz.results69
theorem uHN (d : DecL) (hk : 1 ≤ d.kind ∧ d.kind ≤ 4) : Fn 69 [vA9 d] (.data (vA9 (opp d))) := by
 refine zAO vBC hT uCX (by simp [vA9]) ?_
 (repeat' (first|refine stp ?_|with_reducible(refine brr ?_ ?_<;>intro h)));all_goals try(conv=>whnf)
 all_goals refine zAB rfl ?_
 all_goals (unfold vA9 opp uF3; simp only [PV.agg.injEq, List.cons.injEq, PV.int.injEq, true_and, and_true])
 all_goals (repeat' split) <;> omega
theorem uCZ : FO 166 Tryz.f166 [.tmp 6] 27 := mkO Tryz.func166 Tryz.ntmps166 Tryz.results166
theorem uAV (S : ScpL) (k j : Int) (hp : S.path.length ≤ 1048576) : Fn 166 [vBN S, .int .i64 k, .int .i64 j] (.data (.bool (vLW S k j))) := by
 refine zAO vBC hT uCZ (by simp [vBN]) ?_;refine sts ?_
 refine zA0 hT (fun (i : Nat) => [(1, .int .i64 k), (2, .int .i64 j), (10, .imm (S.path.map vA9)), (11, .int .i64 S.path.length), (12, .int .i64 i)]) (fun _ => []) [] 1
  (fun i => i ≤ S.path.length ∧ ∀ m, m < i → ¬ (S.path[m]!.kind = k ∧ S.path[m]!.index = j)) (fun i => S.path.length - i) 0 ⟨Nat.zero_le _, fun m h => by omega⟩ (by decide) (by simp) ?_ ?_
 ·exact ⟨[0], [], [], [], ttt, ⟨zAC rfl rfl, zAC rfl rfl, zAE rfl rfl, zAC rfl (by simp), zAC rfl rfl, trivial⟩, trivial, by simp [ren]⟩
 intro i ⟨i1, i2⟩;by_cases hi : i < S.path.length
 ·have hm : S.path[i]! ∈ S.path := get_mem hi
  (repeat' (first|refine stp ?_|with_reducible(refine brr ?_ ?_<;>intro h)));all_goals try(conv=>whnf)
  all_goals try (exfalso; omega)
  all_goals first
   | (refine zAB rfl (congrArg PV.bool ?_)
      refine (List.any_eq_true.2 ⟨_, hm, ?_⟩).symm;simp only [Bool.and_eq_true, decide_eq_true_eq]
      exact ⟨by assumption, by assumption⟩)
   | exact ⟨i + 1, ⟨⟨by omega, fun m hm => zBO (p := fun m => ¬ (S.path[m]!.kind = k ∧ S.path[m]!.index = j)) i2 (by omega) hm⟩, by show S.path.length - (i + 1) < S.path.length - i; omega⟩, [0], [], [], [], ttt, ⟨zAC rfl rfl, zAC rfl rfl, zAE rfl rfl, zAC rfl rfl, zAC rfl rfl, trivial⟩, trivial, by simp [ren]⟩
   | skip
 ·(repeat' (first|refine stp ?_|with_reducible(refine brr ?_ ?_<;>intro h)));all_goals try(conv=>whnf)
  all_goals try (exfalso; omega)
  refine zAB rfl (congrArg PV.bool ?_);refine (List.any_eq_false.2 fun d hd => ?_).symm;obtain ⟨m, hm, rfl⟩ := List.getElem_of_mem hd;have := i2 m (by omega);rw [getElem!_pos S.path m hm] at this;simp only [Bool.and_eq_true, decide_eq_true_eq];exact this
def vDR (S : ScpL) (n : Int) : RatL := if 1 ≤ n ∧ n ≤ S.lems.length then S.lems[n.toNat - 1]!.value else ⟨false, [], []⟩
def vDL (S : ScpL) (n j : Int) (up : Bool) : Bool := decide (1 ≤ n ∧ n ≤ S.lems.length) && (decide (S.lems[n.toNat - 1]!.unit = j) && decide (S.lems[n.toNat - 1]!.upper = up))
theorem uC0 : FO 165 Tryz.f165 [.cell 8 26, .tmp 9] 39 := mkO Tryz.func165 Tryz.ntmps165 Tryz.results165
theorem uAW (S : ScpL) (n j : Int) (up : Bool) (hl : S.lems.length ≤ 1048576) : Fn 165 [vBN S, .int .i64 n, .int .i64 j, .bool up] (.data (.tup [vA8 (vDR S n), .bool (vDL S n j up)])) := by
 refine zAO vBC hT uC0 (by simp [vBN]) ?_
 (repeat' (first|refine stp ?_|with_reducible(refine brr ?_ ?_<;>intro h)));all_goals try(conv=>whnf)
 ·have e1 : vDR S n = ⟨false, [], []⟩ := if_neg (fun e => by omega)
  have e2 : vDL S n j up = false := by unfold vDL; rw [decide_eq_false (fun e => by omega)]; rfl
  rw [e1, e2]; exact zAB rfl rfl
 ·have e1 : vDR S n = ⟨false, [], []⟩ := if_neg (fun e => by omega)
  have e2 : vDL S n j up = false := by unfold vDL; rw [decide_eq_false (fun e => by omega)]; rfl
  rw [e1, e2]; exact zAB rfl rfl
 ·have hlt : n.toNat - 1 < S.lems.length := by omega
  refine zA4 (j := n.toNat - 1) (show n - 1 = _ by omega) hlt ?_;have e1 : vDR S n = S.lems[n.toNat - 1]!.value := if_pos ⟨by omega, by omega⟩;have e2 : vDL S n j up = (decide (S.lems[n.toNat - 1]!.unit = j) && decide (S.lems[n.toNat - 1]!.upper = up)) := by unfold vDL; rw [decide_eq_true (show 1 ≤ n ∧ n ≤ S.lems.length from ⟨by omega, by omega⟩)]; rfl
  rw [e1, e2];generalize S.lems[n.toNat - 1]! = m at *
  (repeat' (first|refine stp ?_|with_reducible(refine brr ?_ ?_<;>intro h)));all_goals try(conv=>whnf)
  ·refine zAB rfl ?_
   simp_all
   exact ⟨rfl, by cases m.upper <;> cases up <;> rfl⟩
  ·refine zAB rfl ?_
   simp_all
   rfl
theorem vXU : FO 136 Tryz.f136 [.tmp 4] 44 := mkO Tryz.func136 Tryz.ntmps136 Tryz.results136
theorem uD6 (a b : RowL) : Fn 136 [vBJ a, vBJ b] (.data (.bool (dB (vG2 a b)))) := by
 refine zAO vBC hT vXU (by simp [vBJ]) ?_;refine sts ?_;have no : ¬ vG2 a b → false = dB (vG2 a b) := vUR
 refine zA0 hT (fun (i : Nat) => [(5, .ptr 0 0 0), (6, .ptr 1 0 0), (26, .int .i64 i)]) (fun _ => [(0, ⟨[vBJ a], 4, true⟩), (1, ⟨[vBJ b], 4, true⟩)]) [] 2
  (fun i => i ≤ 4 ∧ (0 < i → a.kind = b.kind) ∧ (1 < i → a.index = b.index) ∧ (2 < i → a.lo = b.lo) ∧ (3 < i → a.hi = b.hi)) (fun i => 4 - i) 0 ⟨by omega, by omega, by omega, by omega, by omega⟩ (by decide) (by simp) ?_ ?_
 ·exact ⟨[_, _], [], [], [], ttt, ⟨(apy rfl), (apy rfl), zAC rfl rfl, trivial⟩, ⟨bbx, bbx, trivial⟩, by simp [ren]⟩
 rintro i ⟨i1, i2, i3, i4, i5⟩
 obtain rfl | rfl | rfl | rfl | rfl : i = 0 ∨ i = 1 ∨ i = 2 ∨ i = 3 ∨ i = 4 := by omega
 all_goals (repeat' (first|refine stp ?_|with_reducible(refine brr ?_ ?_<;>intro h)));all_goals try(conv=>whnf)
 all_goals first
  | (refine zAB rfl (congrArg PV.bool ?_)
     rw [Bool.eq_iff_iff, dB_true, decide_eq_true_eq];unfold vG2
     omega)
  | (refine zAB rfl (congrArg PV.bool (no fun e => ?_))
     unfold vG2 at e
     omega)
  | exact ⟨1, ⟨⟨by omega, by omega, by omega, by omega, by omega⟩, by omega⟩, [0, 1], [], [], [], ttt, ⟨apx, apx, zAC rfl rfl, trivial⟩, ⟨bbx, bbx, trivial⟩, by simp [ren]⟩
  | exact ⟨2, ⟨⟨by omega, by omega, by omega, by omega, by omega⟩, by omega⟩, [0, 1], [], [], [], ttt, ⟨apx, apx, zAC rfl rfl, trivial⟩, ⟨bbx, bbx, trivial⟩, by simp [ren]⟩
  | exact ⟨3, ⟨⟨by omega, by omega, by omega, by omega, by omega⟩, by omega⟩, [0, 1], [], [], [], ttt, ⟨apx, apx, zAC rfl rfl, trivial⟩, ⟨bbx, bbx, trivial⟩, by simp [ren]⟩
  | exact ⟨4, ⟨⟨by omega, by omega, by omega, by omega, by omega⟩, by omega⟩, [0, 1], [], [], [], ttt, ⟨apx, apx, zAC rfl rfl, trivial⟩, ⟨bbx, bbx, trivial⟩, by simp [ren]⟩
  | skip
theorem sgnQ_nn' {q : Rat} : 0 ≤ vEU q ↔ 0 ≤ q := by
 rw [← Int.not_lt, sgnQ_neg, Rat.not_lt]
def vEW (r : RatL) : Nat := r.num.length + r.den.length
theorem vGN {k : Nat} {r : RatL} (h : okQ k r) : okQ (vEW r) r := ⟨h.1, by unfold vEW; omega, by unfold vEW; omega⟩
structure szS (S : ScpL) (P V : Nat) : Prop where
 P1 : 1 ≤ P
 units : ∀ f ∈ S.q.g.units, okA P f
 lo : vV1 P S.q.r.lo
 hi : vV1 P S.q.r.hi
 rows : uEO P S.q.r.rows
 path : S.path.length ≤ 1048576 ∧ ∀ d ∈ S.path, okQ P d.rat
 lems : S.lems.length ≤ 1048576 ∧ ∀ m ∈ S.lems, okQ V m.value
 can : ∀ m ∈ S.lems, vMA m.value
 two : ∀ i j, i < S.lems.length → j < S.lems.length → S.lems[i]!.upper = false → S.lems[j]!.upper = true → vEW S.lems[i]!.value + vEW S.lems[j]!.value ≤ V
 B : P + 2 * V + 20 ≤ 100000000
 nv : vEV S ≤ 1280
theorem zF7 {k : Nat} {q : Rat} (h : sz k q) : szF k (vBQ q) := ⟨h, fun p hp => by cases hp⟩
theorem zF3 {f g : QF} {kf kg K : Nat} (hf : szF kf f) (hg : szF kg g) (hK : kf + kg + 2 ≤ K) : szF K (vDE f g) := zLK hf hg (zHJ (z := -1) (by decide)) (by omega)
theorem zH8 {f : QF} {c : Rat} {kf kc K : Nat} (hf : szF kf f) (hc : sz kc c) (hK : kf + kc + 2 ≤ K) : szF K (vD8 f c) := zLK (zGV 1 (by decide)) hf hc (by omega)
theorem vF3 {f : QF} {c : Rat} : (vD8 f c).ts.length ≤ f.ts.length := by
 have := zM4 (f := zeroQ) (g := f) (c := c)
 simpa [zeroQ, vD8] using this
theorem vFV {f : QF} {c : Rat} : (vDE f (vBQ c)).ts.length ≤ f.ts.length := by
 have := zM4 (f := f) (g := vBQ c) (c := -1)
 simpa [vBQ, vDE] using this
theorem zKF {k : Nat} {r : RatL} (h : okQ k r) (hk : 1 ≤ k) : sz k (qv r) := vWI h.1 h.2.1 h.2.2 hk
section
variable {S : ScpL} {r : RowL}
theorem uGS (h : r.index < 0 ∨ r.lo ≠ 0 ∨ r.hi ≠ 0) : inO S r = none := by unfold inO; rw [if_pos h]
theorem uKE (h : ¬ (r.index < 0 ∨ r.lo ≠ 0 ∨ r.hi ≠ 0)) (h1 : r.kind = 1 ∧ r.index < S.q.r.lo.length) : inO S r = some (vDE (vCN r.index) (vBQ (qv S.q.r.lo[r.index.toNat]!))) := by unfold inO; rw [if_neg h, if_pos h1]
theorem uKD (h : ¬ (r.index < 0 ∨ r.lo ≠ 0 ∨ r.hi ≠ 0)) (h1 : r.kind = 2 ∧ r.index < S.q.r.hi.length) : inO S r = some (vDE (vBQ (qv S.q.r.hi[r.index.toNat]!)) (vCN r.index)) := by unfold inO; rw [if_neg h, if_neg (fun e => by omega), if_pos h1]
theorem uKC (h : ¬ (r.index < 0 ∨ r.lo ≠ 0 ∨ r.hi ≠ 0)) (h1 : r.kind = 3 ∧ r.index < S.q.r.rows.length) : inO S r = some S.q.r.rows[r.index.toNat]!.Q := by unfold inO; rw [if_neg h, if_neg (fun e => by omega), if_neg (fun e => by omega), if_pos h1]
theorem uKB (h : ¬ (r.index < 0 ∨ r.lo ≠ 0 ∨ r.hi ≠ 0)) (h1 : r.kind = 4 ∧ r.index < S.path.length) (h2 : S.path[r.index.toNat]!.kind = 3) : inO S r = some (vDE (vCN S.path[r.index.toNat]!.index) (vBQ (qv S.path[r.index.toNat]!.rat))) := by unfold inO; rw [if_neg h, if_neg (fun e => by omega), if_neg (fun e => by omega), if_neg (fun e => by omega), if_pos h1, if_pos h2]
theorem uJE (h : ¬ (r.index < 0 ∨ r.lo ≠ 0 ∨ r.hi ≠ 0)) (h1 : r.kind = 4 ∧ r.index < S.path.length) (h2 : S.path[r.index.toNat]!.kind = 4) : inO S r = some (vDE (vBQ (qv S.path[r.index.toNat]!.rat)) (vCN S.path[r.index.toNat]!.index)) := by unfold inO; rw [if_neg h, if_neg (fun e => by omega), if_neg (fun e => by omega), if_neg (fun e => by omega), if_pos h1, if_neg (by omega), if_pos h2]
theorem vT9 (h1 : ¬ (r.kind = 1 ∧ r.index < S.q.r.lo.length)) (h2 : ¬ (r.kind = 2 ∧ r.index < S.q.r.hi.length)) (h3 : ¬ (r.kind = 3 ∧ r.index < S.q.r.rows.length)) (h4 : ¬ (r.kind = 4 ∧ r.index < S.path.length ∧ (S.path[r.index.toNat]!.kind = 3 ∨ S.path[r.index.toNat]!.kind = 4))) : inO S r = none := by
 unfold inO;rw [if_neg h1, if_neg h2, if_neg h3]
 split
 ·rfl
 ·split
  ·rw [if_neg (fun e => h4 ⟨by omega, by omega, Or.inl e⟩), if_neg (fun e => h4 ⟨by omega, by omega, Or.inr e⟩)]
  ·rfl
end
theorem uF7 : FO 163 Tryz.f163 [.cell 4 46, .tmp 5] 120 := mkO Tryz.func163 Tryz.ntmps163 Tryz.results163
theorem uJM (S : ScpL) (r : RowL) (P V : Nat) (hS : vCU S) (hz : szS S P V) : Fn 163 [vBN S, vBJ r] (.data (.tup [vB4 ((inO S r).getD zeroQ), .bool (inO S r).isSome])) := by
 have l1 := hz.lo.1;have l2 := hz.hi.1;have l3 := hz.rows.1;have l4 := hz.path.1;have hB := hz.B;have hP := hz.P1;have none : inO S r = none → PV.tup [.agg [.imm [], .bool false, .imm [], .imm []], .bool false] = .tup [vB4 ((inO S r).getD zeroQ), .bool (inO S r).isSome] := fun e => by rw [e, ← zDV]; rfl
 have some : ∀ f, inO S r = some f → PV.tup [vB4 f, .bool true] = .tup [vB4 ((inO S r).getD zeroQ), .bool (inO S r).isSome] := fun f e => by rw [e]; rfl
 refine zAO vBC hT uF7 (by simp [vBN, vBJ]) ?_
 (repeat' (first|refine stp ?_|with_reducible(refine brr ?_ ?_<;>intro h)));all_goals try(conv=>whnf)
 all_goals first
  | exact zAB rfl (none (uGS (by omega)))
  | exact zAB rfl (none (vT9 (by omega) (by omega) (by omega) (by omega)))
  | skip
 all_goals try (exfalso; omega)
 ·have hj : r.index.toNat < S.q.r.lo.length := by omega
  have hq := zG2 hz.lo hj;have cv := vOJ r.index;have cn := zNG _ P hq (by omega);have cs := zF8 (vCN r.index) (vBQ (qv S.q.r.lo[r.index.toNat]!)) 1 P (zEU _) (zF7 (zKF hq hP)) (by omega) (by simp [vCN]) (by simp [vBQ]);refine zAA cv rfl ?_;refine sts ?_;refine zA4 (j := r.index.toNat) (show r.index = _ by omega) hj ?_;refine sts ?_;refine zAA cn rfl ?_;refine sts ?_;refine zAA cs rfl ?_;refine sts ?_;exact zAB rfl (some _ (uKE (by omega) ⟨by omega, by omega⟩))
 ·have hj : r.index.toNat < S.q.r.hi.length := by omega
  have hq := zG2 hz.hi hj;have cv := vOJ r.index;have cn := zNG _ P hq (by omega);have cs := zF8 (vBQ (qv S.q.r.hi[r.index.toNat]!)) (vCN r.index) P 1 (zF7 (zKF hq hP)) (zEU _) (by omega) (by simp [vBQ]) (by simp [vCN]);refine zA4 (j := r.index.toNat) (show r.index = _ by omega) hj ?_;refine sts ?_;refine zAA cn rfl ?_;refine sts ?_;refine zAA cv rfl ?_;refine sts ?_;refine zAA cs rfl ?_;refine sts ?_;exact zAB rfl (some _ (uKD (by omega) ⟨by omega, by omega⟩))
 ·have hj : r.index.toNat < S.q.r.rows.length := by omega
  have e := some _ (uKC (S := S) (r := r) (by omega) ⟨by omega, by omega⟩);rw [← vUP (hS.1.2.1.2.2.2.2.2 _ hj)] at e;refine zA4 (j := r.index.toNat) (show r.index = _ by omega) hj ?_;refine sts ?_;exact zAB rfl e
 ·have hj : r.index.toNat < S.path.length := by omega
  have hm : S.path[r.index.toNat]! ∈ S.path := get_mem hj;have hq := hz.path.2 _ hm;have cv := vOJ S.path[r.index.toNat]!.index;have cn := zNG _ P hq (by omega);have cs := zF8 (vCN S.path[r.index.toNat]!.index) (vBQ (qv S.path[r.index.toNat]!.rat)) 1 P (zEU _) (zF7 (zKF hq hP)) (by omega) (by simp [vCN]) (by simp [vBQ]);have cs2 := zF8 (vBQ (qv S.path[r.index.toNat]!.rat)) (vCN S.path[r.index.toNat]!.index) P 1 (zF7 (zKF hq hP)) (zEU _) (by omega) (by simp [vBQ]) (by simp [vCN]);refine zA4 (j := r.index.toNat) (show r.index = _ by omega) hj ?_
  (repeat' (first|refine stp ?_|with_reducible(refine brr ?_ ?_<;>intro h)));all_goals try(conv=>whnf)
  ·refine zAA cv rfl ?_
   refine sts ?_;refine zAA cn rfl ?_;refine sts ?_;refine zAA cs rfl ?_;refine sts ?_;exact zAB rfl (some _ (uKB (by omega) ⟨by omega, by omega⟩ (by assumption)))
  ·refine zAA cn rfl ?_
   refine sts ?_;refine zAA cv rfl ?_;refine sts ?_;refine zAA cs2 rfl ?_;refine sts ?_;exact zAB rfl (some _ (uJE (by omega) ⟨by omega, by omega⟩ (by assumption)))
  ·exact zAB rfl (none (vT9 (by omega) (by omega) (by omega) (fun e => by rcases e.2.2 with q | q <;> contradiction)))
open Go.Proofs Go.PI
theorem uCC : FO 167 Tryz.f167 [.cell 4 26] 12 := mkO Tryz.func167 Tryz.ntmps167 Tryz.results167
theorem uHE (x y : RatL) (hx : okR x) (hy : okR y) (hl1 : x.num.length < 1000000000) (hl2 : x.den.length < 1000000000) (hl3 : y.num.length < 1000000000) (hl4 : y.den.length < 1000000000) : Fn 167 [vA8 x, vA8 y] (.data (vA8 (cr (qv x - qv y)))) := by
 have e : qv (⟨!y.neg, y.num, y.den⟩ : RatL) = - qv y := by
  unfold qv; dsimp only; rw [vRQ];rw [show -(sg y.neg (nv y.num)) = (-1) * sg y.neg (nv y.num) by omega];have : ∀ (z : Int) (d : Nat), mkRat (-1 * z) d = - mkRat z d := fun z d => by rw [Int.neg_mul, Int.one_mul, Rat.neg_mkRat]
  exact this _ _
 have ca := vOF x ⟨!y.neg, y.num, y.den⟩ hx hy hl1 hl2 hl3 hl4;rw [e, show qv x + -qv y = qv x - qv y by grind] at ca;refine zAO vBC hT uCC (by simp [vA8]) ?_;refine sts ?_;refine zAA ca rfl ?_;refine sts ?_;exact zAB rfl rfl
def vE6 (r : RowL) : Bool := (decide (r.lo = 0) && decide (r.hi = 0))
def onP (r : RowL) (L : RatL) (lw D1 : Bool) : Bool := (decide (r.hi = 0) && ((decide (r.lo = 0) && D1) || (lw && decide (0 ≤ vEU (qv L)))))
def vPQ (r : RowL) (U : RatL) (up D2 : Bool) : Bool := (decide (r.lo = 0) && ((decide (r.hi = 0) && D2) || (up && decide (vEU (qv U) ≤ 0))))
def vDM (r : RowL) (v p : QF) (L U : RatL) (lw up on off pl : Bool) : QF × Bool :=
 if r.kind = 5 then (v, pl)
 else if r.kind = 6 then (vDE v p, pl)
 else if r.kind = 7 then (p, on)
 else if r.kind = 8 then (vDE p v, on)
 else if r.kind = 9 then (vD8 p (-1), off)
 else if r.kind = 10 then (vD8 v (-1), off)
 else if r.kind = 11 then (vDE p (vBQ (qv L)), lw && decide (r.hi = 0))
 else if r.kind = 12 then (vDE (vBQ (qv U)) p, up && decide (r.lo = 0))
 else if r.kind = 13 ∧ lw = true ∧ up = true ∧ vEU (qv L) < 0 ∧ 0 < vEU (qv U) then (uE3 v p (qv L) (qv U), true)
 else (zeroQ, false)
theorem vVK {S : ScpL} {P V : Nat} (hz : szS S P V) (n : Int) : okQ (V + 1) (vDR S n) := by
 unfold vDR
 split
 ·exact zDS (by omega) (hz.lems.2 _ (get_mem (by omega)))
 ·exact ⟨⟨by simp [okN], by simp [okN]⟩, Nat.zero_le _, Nat.zero_le _⟩
theorem vZK {S : ScpL} {P V : Nat} (hz : szS S P V) (n : Int) : vMA (vDR S n) := by
 unfold vDR
 split
 ·exact hz.can _ (get_mem (by omega))
 ·rfl
theorem vXV : FO 137 Tryz.f137 [.cell 4 46, .tmp 5] 206 := mkO Tryz.func137 Tryz.ntmps137 Tryz.results137
theorem vZF (S : ScpL) (r : RowL) (P V : Nat) (hS : vCU S) (hz : szS S P V) (hk : 5 ≤ r.kind) (hi : 0 ≤ r.index ∧ r.index < S.q.g.units.length) (v p : QF) (L U : RatL) (lw up D1 D2 on off pl : Bool) (hL : vDR S r.lo = L) (hU : vDR S r.hi = U) (hlw : vDL S r.lo r.index false = lw) (hup : vDL S r.hi r.index true = up) (hvv : vCN (S.q.g.ins + r.index) = v) (hp : S.q.g.units[r.index.toNat]!.Q = p) (hD1 : vLW S 1 r.index = D1) (hD2 : vLW S 2 r.index = D2) (hon : onP r L lw D1 = on) (hoff : vPQ r U up D2 = off) (hpl : vE6 r = pl) : Fn 137 [vBN S, vBJ r] (.data (.tup [vB4 (vDM r v p L U lw up on off pl).1, .bool (vDM r v p L U lw up on off pl).2])) := by
 have hj : r.index.toNat < S.q.g.units.length := by omega
 have hnu := hS.1.1.2.1;have hni := hS.1.1.1;have hvu := hS.1.1.2.2.2.1 _ hj;have hpu := vUP hvu;have hB := hz.B;have hP := hz.P1;have cv := vOJ (S.q.g.ins + r.index);have cl := uAW S r.lo r.index false hz.lems.1;have cu := uAW S r.hi r.index true hz.lems.1;have cd1 := uAV S 1 r.index hz.path.1;have cd2 := uAV S 2 r.index hz.path.1;have hLk := vVK hz r.lo;have hUk := vVK hz r.hi;rw [hL] at cl hLk;rw [hU] at cu hUk;rw [hlw] at cl;rw [hup] at cu;have sl := zE2 L hLk.1 (by have := hLk.2; omega);have su := zE2 U hUk.1 (by have := hUk.2; omega);have cnl := zNG L (V + 1) hLk (by omega);have cnu := zNG U (V + 1) hUk (by omega);have hUc : cr (qv U) = U := by have := vZK hz r.hi; rw [hU] at this; exact this.symm
 have szL := zKF hLk (by omega);have szU := zKF hUk (by omega);have hpa := hz.units _ (get_mem hj);have szp : szF P p := by rw [← hp]; exact zK4 hpa hP
 have szv : szF 1 v := by rw [← hvv]; exact zEU _
 have lv : v.ts.length ≤ 1 := by rw [← hvv]; simp [vCN]
 have lp : p.ts.length ≤ 1048576 := by rw [← hp, uHZ]; exact hpa.2.2
 rw [hvv] at cv;rw [hp] at hpu;rw [hD1] at cd1;rw [hD2] at cd2;have c6 := zF8 v p 1 P szv szp (by omega) (by omega) lp;have c8 := zF8 p v P 1 szp szv (by omega) lp (by omega);have c9 := vHP p P szp (by omega) lp;have c10 := vHP v 1 szv (by omega) (by omega);have c11 := zF8 p (vBQ (qv L)) P (V + 1) szp (zF7 szL) (by omega) lp (by simp [vBQ]);have c12 := zF8 (vBQ (qv U)) p (V + 1) P (zF7 szU) szp (by omega) (by simp [vBQ]) lp;refine zAO vBC hT vXV (by simp [vBN, vBJ]) ?_
 (repeat' (first|refine stp ?_|with_reducible(refine brr ?_ ?_<;>intro h)));all_goals try(conv=>whnf)
 all_goals try (exfalso; omega)
 refine zAA cv rfl ?_
 (repeat' (first|refine stp ?_|with_reducible(refine brr ?_ ?_<;>intro h)));all_goals try(conv=>whnf)
 refine zA4 (j := r.index.toNat) (show r.index = _ by omega) hj ?_
 (repeat' (first|refine stp ?_|with_reducible(refine brr ?_ ?_<;>intro h)));all_goals try(conv=>whnf)
 refine zAA cl rfl ?_
 (repeat' (first|refine stp ?_|with_reducible(refine brr ?_ ?_<;>intro h)));all_goals try(conv=>whnf)
 refine zAA cu rfl ?_
 (repeat' (first|refine stu ?_|with_reducible(refine brr ?_ ?_<;>intro h)));all_goals try(conv=>whnf)
 refine vB0 [] [(2, .ptr 0 0 0), (3, .ptr 1 0 0), (4, .ptr 2 0 0), (6, .int .i64 r.index), (7, .ptr 3 0 0), (8, .ptr 4 0 0), (9, .ptr 5 0 0), (10, .bool lw), (11, .ptr 6 0 0), (12, .bool up)] [(0, ⟨[vBN S], 12, true⟩), (1, ⟨[vBJ r], 4, true⟩), (2, ⟨[.agg [.nilsl, .bool false, .nilsl, .nilsl]], 4, true⟩), (3, ⟨[vB4 v], 4, true⟩), (4, ⟨[vB4 p], 4, true⟩), (5, ⟨[vA8 L], 3, true⟩), (6, ⟨[vA8 U], 3, true⟩)] [] 7 (by decide) (by simp) trivial ⟨[0, 1, 2, _, _, _, _], [], [], [], ttt, ⟨(apy rfl), (apy rfl), (apy rfl), zAC rfl rfl, (apy rfl), (apy rfl), (apy rfl), zAT rfl rfl, (apy rfl), zAT rfl rfl, trivial⟩, ⟨bbx, bbx, bbx, bbx, zE4 (by decide) rfl hpu rfl rfl rfl, bbx, bbx, trivial⟩, by simp [ren]⟩ ?_;refine uBV ⟨sv [(2, .ptr 0 0 0), (3, .ptr 1 0 0), (4, .ptr 2 0 0), (6, .int .i64 r.index), (7, .ptr 3 0 0), (8, .ptr 4 0 0), (9, .ptr 5 0 0), (10, .bool lw), (11, .ptr 6 0 0), (12, .bool up), (13, .bool on)], hv [(0, ⟨[vBN S], 12, true⟩), (1, ⟨[vBJ r], 4, true⟩), (2, ⟨[.agg [.nilsl, .bool false, .nilsl, .nilsl]], 4, true⟩), (3, ⟨[vB4 v], 4, true⟩), (4, ⟨[vB4 p], 4, true⟩), (5, ⟨[vA8 L], 3, true⟩), (6, ⟨[vA8 U], 3, true⟩)], zv [], 7⟩ ?_ fun H9 => ?_
 rotate_left
 ·(repeat' (first|refine stu ?_|with_reducible(refine brr ?_ ?_<;>intro h)));all_goals try(conv=>whnf)
  ·refine zAA cd1 rfl ?_
   (repeat' (first|refine stu ?_|with_reducible(refine brr ?_ ?_<;>intro h)));all_goals try(conv=>whnf)
   ·refine vB0 [] [(2, .ptr 0 0 0), (3, .ptr 1 0 0), (4, .ptr 2 0 0), (6, .int .i64 r.index), (7, .ptr 3 0 0), (8, .ptr 4 0 0), (9, .ptr 5 0 0), (10, .bool lw), (11, .ptr 6 0 0), (12, .bool up), (13, .bool on)] [(0, ⟨[vBN S], 12, true⟩), (1, ⟨[vBJ r], 4, true⟩), (2, ⟨[.agg [.nilsl, .bool false, .nilsl, .nilsl]], 4, true⟩), (3, ⟨[vB4 v], 4, true⟩), (4, ⟨[vB4 p], 4, true⟩), (5, ⟨[vA8 L], 3, true⟩), (6, ⟨[vA8 U], 3, true⟩)] [] 7 (by decide) (by simp) trivial ⟨[0, 1, 2, 3, 4, 5, 6], [], [], [], ttt, ⟨apx, apx, apx, zAC rfl rfl, apx, apx, apx, zAT rfl rfl, apx, zAT rfl rfl, zAT rfl (by rw [← hon]; unfold onP; rw [Bool.eq_iff_iff]; clear sl su cd1 cd2 hL hU hlw hup hvv hp hD1 hD2 cv cl cu cnl cnu c6 c8 c9 c10 c11 c12 hpu; simp_all), trivial⟩, ⟨bbx, bbx, bbx, bbx, bbx, bbx, bbx, trivial⟩, by simp [ren]⟩ ?_; exact H9
   ·refine zAA sl rfl ?_
    (repeat' (first|refine stu ?_|with_reducible(refine brr ?_ ?_<;>intro h)));all_goals try(conv=>whnf)
    refine vB0 [] [(2, .ptr 0 0 0), (3, .ptr 1 0 0), (4, .ptr 2 0 0), (6, .int .i64 r.index), (7, .ptr 3 0 0), (8, .ptr 4 0 0), (9, .ptr 5 0 0), (10, .bool lw), (11, .ptr 6 0 0), (12, .bool up), (13, .bool on)] [(0, ⟨[vBN S], 12, true⟩), (1, ⟨[vBJ r], 4, true⟩), (2, ⟨[.agg [.nilsl, .bool false, .nilsl, .nilsl]], 4, true⟩), (3, ⟨[vB4 v], 4, true⟩), (4, ⟨[vB4 p], 4, true⟩), (5, ⟨[vA8 L], 3, true⟩), (6, ⟨[vA8 U], 3, true⟩)] [] 7 (by decide) (by simp) trivial ⟨[0, 1, 2, 3, 4, 5, 6], [], [], [], ttt, ⟨apx, apx, apx, zAC rfl rfl, apx, apx, apx, zAT rfl rfl, apx, zAT rfl rfl, zAT rfl (by rw [← hon]; unfold onP; rw [Bool.eq_iff_iff]; clear sl su cd1 cd2 hL hU hlw hup hvv hp hD1 hD2 cv cl cu cnl cnu c6 c8 c9 c10 c11 c12 hpu; simp_all), trivial⟩, ⟨bbx, bbx, bbx, bbx, bbx, bbx, bbx, trivial⟩, by simp [ren]⟩ ?_; exact H9
   ·refine vB0 [] [(2, .ptr 0 0 0), (3, .ptr 1 0 0), (4, .ptr 2 0 0), (6, .int .i64 r.index), (7, .ptr 3 0 0), (8, .ptr 4 0 0), (9, .ptr 5 0 0), (10, .bool lw), (11, .ptr 6 0 0), (12, .bool up), (13, .bool on)] [(0, ⟨[vBN S], 12, true⟩), (1, ⟨[vBJ r], 4, true⟩), (2, ⟨[.agg [.nilsl, .bool false, .nilsl, .nilsl]], 4, true⟩), (3, ⟨[vB4 v], 4, true⟩), (4, ⟨[vB4 p], 4, true⟩), (5, ⟨[vA8 L], 3, true⟩), (6, ⟨[vA8 U], 3, true⟩)] [] 7 (by decide) (by simp) trivial ⟨[0, 1, 2, 3, 4, 5, 6], [], [], [], ttt, ⟨apx, apx, apx, zAC rfl rfl, apx, apx, apx, zAT rfl rfl, apx, zAT rfl rfl, zAT rfl (by rw [← hon]; unfold onP; rw [Bool.eq_iff_iff]; clear sl su cd1 cd2 hL hU hlw hup hvv hp hD1 hD2 cv cl cu cnl cnu c6 c8 c9 c10 c11 c12 hpu; simp_all), trivial⟩, ⟨bbx, bbx, bbx, bbx, bbx, bbx, bbx, trivial⟩, by simp [ren]⟩ ?_; exact H9
  ·refine zAA sl rfl ?_
   (repeat' (first|refine stu ?_|with_reducible(refine brr ?_ ?_<;>intro h)));all_goals try(conv=>whnf)
   refine vB0 [] [(2, .ptr 0 0 0), (3, .ptr 1 0 0), (4, .ptr 2 0 0), (6, .int .i64 r.index), (7, .ptr 3 0 0), (8, .ptr 4 0 0), (9, .ptr 5 0 0), (10, .bool lw), (11, .ptr 6 0 0), (12, .bool up), (13, .bool on)] [(0, ⟨[vBN S], 12, true⟩), (1, ⟨[vBJ r], 4, true⟩), (2, ⟨[.agg [.nilsl, .bool false, .nilsl, .nilsl]], 4, true⟩), (3, ⟨[vB4 v], 4, true⟩), (4, ⟨[vB4 p], 4, true⟩), (5, ⟨[vA8 L], 3, true⟩), (6, ⟨[vA8 U], 3, true⟩)] [] 7 (by decide) (by simp) trivial ⟨[0, 1, 2, 3, 4, 5, 6], [], [], [], ttt, ⟨apx, apx, apx, zAC rfl rfl, apx, apx, apx, zAT rfl rfl, apx, zAT rfl rfl, zAT rfl (by rw [← hon]; unfold onP; rw [Bool.eq_iff_iff]; clear sl su cd1 cd2 hL hU hlw hup hvv hp hD1 hD2 cv cl cu cnl cnu c6 c8 c9 c10 c11 c12 hpu; simp_all), trivial⟩, ⟨bbx, bbx, bbx, bbx, bbx, bbx, bbx, trivial⟩, by simp [ren]⟩ ?_; exact H9
  ·refine vB0 [] [(2, .ptr 0 0 0), (3, .ptr 1 0 0), (4, .ptr 2 0 0), (6, .int .i64 r.index), (7, .ptr 3 0 0), (8, .ptr 4 0 0), (9, .ptr 5 0 0), (10, .bool lw), (11, .ptr 6 0 0), (12, .bool up), (13, .bool on)] [(0, ⟨[vBN S], 12, true⟩), (1, ⟨[vBJ r], 4, true⟩), (2, ⟨[.agg [.nilsl, .bool false, .nilsl, .nilsl]], 4, true⟩), (3, ⟨[vB4 v], 4, true⟩), (4, ⟨[vB4 p], 4, true⟩), (5, ⟨[vA8 L], 3, true⟩), (6, ⟨[vA8 U], 3, true⟩)] [] 7 (by decide) (by simp) trivial ⟨[0, 1, 2, 3, 4, 5, 6], [], [], [], ttt, ⟨apx, apx, apx, zAC rfl rfl, apx, apx, apx, zAT rfl rfl, apx, zAT rfl rfl, zAT rfl (by rw [← hon]; unfold onP; rw [Bool.eq_iff_iff]; clear sl su cd1 cd2 hL hU hlw hup hvv hp hD1 hD2 cv cl cu cnl cnu c6 c8 c9 c10 c11 c12 hpu; simp_all), trivial⟩, ⟨bbx, bbx, bbx, bbx, bbx, bbx, bbx, trivial⟩, by simp [ren]⟩ ?_; exact H9
  ·refine vB0 [] [(2, .ptr 0 0 0), (3, .ptr 1 0 0), (4, .ptr 2 0 0), (6, .int .i64 r.index), (7, .ptr 3 0 0), (8, .ptr 4 0 0), (9, .ptr 5 0 0), (10, .bool lw), (11, .ptr 6 0 0), (12, .bool up), (13, .bool on)] [(0, ⟨[vBN S], 12, true⟩), (1, ⟨[vBJ r], 4, true⟩), (2, ⟨[.agg [.nilsl, .bool false, .nilsl, .nilsl]], 4, true⟩), (3, ⟨[vB4 v], 4, true⟩), (4, ⟨[vB4 p], 4, true⟩), (5, ⟨[vA8 L], 3, true⟩), (6, ⟨[vA8 U], 3, true⟩)] [] 7 (by decide) (by simp) trivial ⟨[0, 1, 2, 3, 4, 5, 6], [], [], [], ttt, ⟨apx, apx, apx, zAC rfl rfl, apx, apx, apx, zAT rfl rfl, apx, zAT rfl rfl, zAT rfl (by rw [← hon]; unfold onP; rw [Bool.eq_iff_iff]; clear sl su cd1 cd2 hL hU hlw hup hvv hp hD1 hD2 cv cl cu cnl cnu c6 c8 c9 c10 c11 c12 hpu; simp_all), trivial⟩, ⟨bbx, bbx, bbx, bbx, bbx, bbx, bbx, trivial⟩, by simp [ren]⟩ ?_; exact H9
 refine uBV ⟨sv [(2, .ptr 0 0 0), (3, .ptr 1 0 0), (4, .ptr 2 0 0), (6, .int .i64 r.index), (7, .ptr 3 0 0), (8, .ptr 4 0 0), (9, .ptr 5 0 0), (10, .bool lw), (11, .ptr 6 0 0), (12, .bool up), (13, .bool on), (14, .bool off)], hv [(0, ⟨[vBN S], 12, true⟩), (1, ⟨[vBJ r], 4, true⟩), (2, ⟨[.agg [.nilsl, .bool false, .nilsl, .nilsl]], 4, true⟩), (3, ⟨[vB4 v], 4, true⟩), (4, ⟨[vB4 p], 4, true⟩), (5, ⟨[vA8 L], 3, true⟩), (6, ⟨[vA8 U], 3, true⟩)], zv [], 7⟩ ?_ fun H10 => ?_
 rotate_left
 ·(repeat' (first|refine stu ?_|with_reducible(refine brr ?_ ?_<;>intro h)));all_goals try(conv=>whnf)
  ·refine zAA cd2 rfl ?_
   (repeat' (first|refine stu ?_|with_reducible(refine brr ?_ ?_<;>intro h)));all_goals try(conv=>whnf)
   ·refine vB0 [] [(2, .ptr 0 0 0), (3, .ptr 1 0 0), (4, .ptr 2 0 0), (6, .int .i64 r.index), (7, .ptr 3 0 0), (8, .ptr 4 0 0), (9, .ptr 5 0 0), (10, .bool lw), (11, .ptr 6 0 0), (12, .bool up), (13, .bool on), (14, .bool off)] [(0, ⟨[vBN S], 12, true⟩), (1, ⟨[vBJ r], 4, true⟩), (2, ⟨[.agg [.nilsl, .bool false, .nilsl, .nilsl]], 4, true⟩), (3, ⟨[vB4 v], 4, true⟩), (4, ⟨[vB4 p], 4, true⟩), (5, ⟨[vA8 L], 3, true⟩), (6, ⟨[vA8 U], 3, true⟩)] [] 7 (by decide) (by simp) trivial ⟨[0, 1, 2, 3, 4, 5, 6], [], [], [], ttt, ⟨apx, apx, apx, zAC rfl rfl, apx, apx, apx, zAT rfl rfl, apx, zAT rfl rfl, zAT rfl rfl, zAT rfl (by rw [← hoff]; unfold vPQ; rw [Bool.eq_iff_iff]; clear sl su cd1 cd2 hL hU hlw hup hvv hp hD1 hD2 cv cl cu cnl cnu c6 c8 c9 c10 c11 c12 hpu; simp_all), trivial⟩, ⟨bbx, bbx, bbx, bbx, bbx, bbx, bbx, trivial⟩, by simp [ren]⟩ ?_; exact H10
   ·refine zAA su rfl ?_
    (repeat' (first|refine stu ?_|with_reducible(refine brr ?_ ?_<;>intro h)));all_goals try(conv=>whnf)
    refine vB0 [] [(2, .ptr 0 0 0), (3, .ptr 1 0 0), (4, .ptr 2 0 0), (6, .int .i64 r.index), (7, .ptr 3 0 0), (8, .ptr 4 0 0), (9, .ptr 5 0 0), (10, .bool lw), (11, .ptr 6 0 0), (12, .bool up), (13, .bool on), (14, .bool off)] [(0, ⟨[vBN S], 12, true⟩), (1, ⟨[vBJ r], 4, true⟩), (2, ⟨[.agg [.nilsl, .bool false, .nilsl, .nilsl]], 4, true⟩), (3, ⟨[vB4 v], 4, true⟩), (4, ⟨[vB4 p], 4, true⟩), (5, ⟨[vA8 L], 3, true⟩), (6, ⟨[vA8 U], 3, true⟩)] [] 7 (by decide) (by simp) trivial ⟨[0, 1, 2, 3, 4, 5, 6], [], [], [], ttt, ⟨apx, apx, apx, zAC rfl rfl, apx, apx, apx, zAT rfl rfl, apx, zAT rfl rfl, zAT rfl rfl, zAT rfl (by rw [← hoff]; unfold vPQ; rw [Bool.eq_iff_iff]; clear sl su cd1 cd2 hL hU hlw hup hvv hp hD1 hD2 cv cl cu cnl cnu c6 c8 c9 c10 c11 c12 hpu; simp_all), trivial⟩, ⟨bbx, bbx, bbx, bbx, bbx, bbx, bbx, trivial⟩, by simp [ren]⟩ ?_; exact H10
   ·refine vB0 [] [(2, .ptr 0 0 0), (3, .ptr 1 0 0), (4, .ptr 2 0 0), (6, .int .i64 r.index), (7, .ptr 3 0 0), (8, .ptr 4 0 0), (9, .ptr 5 0 0), (10, .bool lw), (11, .ptr 6 0 0), (12, .bool up), (13, .bool on), (14, .bool off)] [(0, ⟨[vBN S], 12, true⟩), (1, ⟨[vBJ r], 4, true⟩), (2, ⟨[.agg [.nilsl, .bool false, .nilsl, .nilsl]], 4, true⟩), (3, ⟨[vB4 v], 4, true⟩), (4, ⟨[vB4 p], 4, true⟩), (5, ⟨[vA8 L], 3, true⟩), (6, ⟨[vA8 U], 3, true⟩)] [] 7 (by decide) (by simp) trivial ⟨[0, 1, 2, 3, 4, 5, 6], [], [], [], ttt, ⟨apx, apx, apx, zAC rfl rfl, apx, apx, apx, zAT rfl rfl, apx, zAT rfl rfl, zAT rfl rfl, zAT rfl (by rw [← hoff]; unfold vPQ; rw [Bool.eq_iff_iff]; clear sl su cd1 cd2 hL hU hlw hup hvv hp hD1 hD2 cv cl cu cnl cnu c6 c8 c9 c10 c11 c12 hpu; simp_all), trivial⟩, ⟨bbx, bbx, bbx, bbx, bbx, bbx, bbx, trivial⟩, by simp [ren]⟩ ?_; exact H10
  ·refine zAA su rfl ?_
   (repeat' (first|refine stu ?_|with_reducible(refine brr ?_ ?_<;>intro h)));all_goals try(conv=>whnf)
   refine vB0 [] [(2, .ptr 0 0 0), (3, .ptr 1 0 0), (4, .ptr 2 0 0), (6, .int .i64 r.index), (7, .ptr 3 0 0), (8, .ptr 4 0 0), (9, .ptr 5 0 0), (10, .bool lw), (11, .ptr 6 0 0), (12, .bool up), (13, .bool on), (14, .bool off)] [(0, ⟨[vBN S], 12, true⟩), (1, ⟨[vBJ r], 4, true⟩), (2, ⟨[.agg [.nilsl, .bool false, .nilsl, .nilsl]], 4, true⟩), (3, ⟨[vB4 v], 4, true⟩), (4, ⟨[vB4 p], 4, true⟩), (5, ⟨[vA8 L], 3, true⟩), (6, ⟨[vA8 U], 3, true⟩)] [] 7 (by decide) (by simp) trivial ⟨[0, 1, 2, 3, 4, 5, 6], [], [], [], ttt, ⟨apx, apx, apx, zAC rfl rfl, apx, apx, apx, zAT rfl rfl, apx, zAT rfl rfl, zAT rfl rfl, zAT rfl (by rw [← hoff]; unfold vPQ; rw [Bool.eq_iff_iff]; clear sl su cd1 cd2 hL hU hlw hup hvv hp hD1 hD2 cv cl cu cnl cnu c6 c8 c9 c10 c11 c12 hpu; simp_all), trivial⟩, ⟨bbx, bbx, bbx, bbx, bbx, bbx, bbx, trivial⟩, by simp [ren]⟩ ?_; exact H10
  ·refine vB0 [] [(2, .ptr 0 0 0), (3, .ptr 1 0 0), (4, .ptr 2 0 0), (6, .int .i64 r.index), (7, .ptr 3 0 0), (8, .ptr 4 0 0), (9, .ptr 5 0 0), (10, .bool lw), (11, .ptr 6 0 0), (12, .bool up), (13, .bool on), (14, .bool off)] [(0, ⟨[vBN S], 12, true⟩), (1, ⟨[vBJ r], 4, true⟩), (2, ⟨[.agg [.nilsl, .bool false, .nilsl, .nilsl]], 4, true⟩), (3, ⟨[vB4 v], 4, true⟩), (4, ⟨[vB4 p], 4, true⟩), (5, ⟨[vA8 L], 3, true⟩), (6, ⟨[vA8 U], 3, true⟩)] [] 7 (by decide) (by simp) trivial ⟨[0, 1, 2, 3, 4, 5, 6], [], [], [], ttt, ⟨apx, apx, apx, zAC rfl rfl, apx, apx, apx, zAT rfl rfl, apx, zAT rfl rfl, zAT rfl rfl, zAT rfl (by rw [← hoff]; unfold vPQ; rw [Bool.eq_iff_iff]; clear sl su cd1 cd2 hL hU hlw hup hvv hp hD1 hD2 cv cl cu cnl cnu c6 c8 c9 c10 c11 c12 hpu; simp_all), trivial⟩, ⟨bbx, bbx, bbx, bbx, bbx, bbx, bbx, trivial⟩, by simp [ren]⟩ ?_; exact H10
  ·refine vB0 [] [(2, .ptr 0 0 0), (3, .ptr 1 0 0), (4, .ptr 2 0 0), (6, .int .i64 r.index), (7, .ptr 3 0 0), (8, .ptr 4 0 0), (9, .ptr 5 0 0), (10, .bool lw), (11, .ptr 6 0 0), (12, .bool up), (13, .bool on), (14, .bool off)] [(0, ⟨[vBN S], 12, true⟩), (1, ⟨[vBJ r], 4, true⟩), (2, ⟨[.agg [.nilsl, .bool false, .nilsl, .nilsl]], 4, true⟩), (3, ⟨[vB4 v], 4, true⟩), (4, ⟨[vB4 p], 4, true⟩), (5, ⟨[vA8 L], 3, true⟩), (6, ⟨[vA8 U], 3, true⟩)] [] 7 (by decide) (by simp) trivial ⟨[0, 1, 2, 3, 4, 5, 6], [], [], [], ttt, ⟨apx, apx, apx, zAC rfl rfl, apx, apx, apx, zAT rfl rfl, apx, zAT rfl rfl, zAT rfl rfl, zAT rfl (by rw [← hoff]; unfold vPQ; rw [Bool.eq_iff_iff]; clear sl su cd1 cd2 hL hU hlw hup hvv hp hD1 hD2 cv cl cu cnl cnu c6 c8 c9 c10 c11 c12 hpu; simp_all), trivial⟩, ⟨bbx, bbx, bbx, bbx, bbx, bbx, bbx, trivial⟩, by simp [ren]⟩ ?_; exact H10
 refine uBV ⟨sv [(2, .ptr 0 0 0), (3, .ptr 1 0 0), (4, .ptr 2 0 0), (6, .int .i64 r.index), (7, .ptr 3 0 0), (8, .ptr 4 0 0), (9, .ptr 5 0 0), (10, .bool lw), (11, .ptr 6 0 0), (12, .bool up), (13, .bool on), (14, .bool off), (15, .bool pl)], hv [(0, ⟨[vBN S], 12, true⟩), (1, ⟨[vBJ r], 4, true⟩), (2, ⟨[.agg [.nilsl, .bool false, .nilsl, .nilsl]], 4, true⟩), (3, ⟨[vB4 v], 4, true⟩), (4, ⟨[vB4 p], 4, true⟩), (5, ⟨[vA8 L], 3, true⟩), (6, ⟨[vA8 U], 3, true⟩)], zv [], 7⟩ ?_ fun H11 => ?_
 rotate_left
 ·(repeat' (first|refine stu ?_|with_reducible(refine brr ?_ ?_<;>intro h)));all_goals try(conv=>whnf)
  all_goals (refine vB0 [] [(2, .ptr 0 0 0), (3, .ptr 1 0 0), (4, .ptr 2 0 0), (6, .int .i64 r.index), (7, .ptr 3 0 0), (8, .ptr 4 0 0), (9, .ptr 5 0 0), (10, .bool lw), (11, .ptr 6 0 0), (12, .bool up), (13, .bool on), (14, .bool off), (15, .bool pl)] [(0, ⟨[vBN S], 12, true⟩), (1, ⟨[vBJ r], 4, true⟩), (2, ⟨[.agg [.nilsl, .bool false, .nilsl, .nilsl]], 4, true⟩), (3, ⟨[vB4 v], 4, true⟩), (4, ⟨[vB4 p], 4, true⟩), (5, ⟨[vA8 L], 3, true⟩), (6, ⟨[vA8 U], 3, true⟩)] [] 7 (by decide) (by simp) trivial ⟨[0, 1, 2, 3, 4, 5, 6], [], [], [], ttt, ⟨apx, apx, apx, zAC rfl rfl, apx, apx, apx, zAT rfl rfl, apx, zAT rfl rfl, zAT rfl rfl, zAT rfl rfl, zAT rfl (by rw [← hpl]; unfold vE6; rw [Bool.eq_iff_iff]; clear sl su cd1 cd2 hL hU hlw hup hvv hp hD1 hD2 cv cl cu cnl cnu c6 c8 c9 c10 c11 c12 hpu; simp_all), trivial⟩, ⟨bbx, bbx, bbx, bbx, bbx, bbx, bbx, trivial⟩, by simp [ren]⟩ ?_; exact H11)
 clear cd1 cd2 hon hoff hpl
 (repeat' (first|refine stp ?_|with_reducible(refine brr ?_ ?_<;>intro h)));all_goals try(conv=>whnf)
 ·have e : vDM r v p L U lw up on off pl = (v, pl) := by unfold vDM; (repeat rw [if_neg (by omega)]); rw [if_pos (by omega)]
  exact zAB rfl (by rw [e]; rfl)
 ·have e : vDM r v p L U lw up on off pl = (vDE v p, pl) := by unfold vDM; (repeat rw [if_neg (by omega)]); rw [if_pos (by omega)]
  refine zAA c6 rfl ?_
  (repeat' (first|refine stp ?_|with_reducible(refine brr ?_ ?_<;>intro h)));all_goals try(conv=>whnf)
  exact zAB rfl (by rw [e]; rfl)
 ·have e : vDM r v p L U lw up on off pl = (p, on) := by unfold vDM; (repeat rw [if_neg (by omega)]); rw [if_pos (by omega)]
  exact zAB rfl (by rw [e]; rfl)
 ·have e : vDM r v p L U lw up on off pl = (vDE p v, on) := by unfold vDM; (repeat rw [if_neg (by omega)]); rw [if_pos (by omega)]
  refine zAA c8 rfl ?_
  (repeat' (first|refine stp ?_|with_reducible(refine brr ?_ ?_<;>intro h)));all_goals try(conv=>whnf)
  exact zAB rfl (by rw [e]; rfl)
 ·have e : vDM r v p L U lw up on off pl = (vD8 p (-1), off) := by unfold vDM; (repeat rw [if_neg (by omega)]); rw [if_pos (by omega)]
  refine zAA c9 rfl ?_
  (repeat' (first|refine stp ?_|with_reducible(refine brr ?_ ?_<;>intro h)));all_goals try(conv=>whnf)
  exact zAB rfl (by rw [e]; rfl)
 ·have e : vDM r v p L U lw up on off pl = (vD8 v (-1), off) := by unfold vDM; (repeat rw [if_neg (by omega)]); rw [if_pos (by omega)]
  refine zAA c10 rfl ?_
  (repeat' (first|refine stp ?_|with_reducible(refine brr ?_ ?_<;>intro h)));all_goals try(conv=>whnf)
  exact zAB rfl (by rw [e]; rfl)
 ·have e : vDM r v p L U lw up on off pl = (vDE p (vBQ (qv L)), lw && decide (r.hi = 0)) := by unfold vDM; (repeat rw [if_neg (by omega)]); rw [if_pos (by omega)]
  refine zAA cnl rfl ?_
  (repeat' (first|refine stp ?_|with_reducible(refine brr ?_ ?_<;>intro h)));all_goals try(conv=>whnf)
  refine zAA c11 rfl ?_
  (repeat' (first|refine stp ?_|with_reducible(refine brr ?_ ?_<;>intro h)));all_goals try(conv=>whnf)
  ·have hb : (lw && decide (r.hi = 0)) = (r.hi == 0) := by rw [show lw = true by assumption, Bool.true_and, Bool.eq_iff_iff]; simp
   exact zAB rfl (by rw [e, hb]; rfl)
  ·have hb : (lw && decide (r.hi = 0)) = false := by rw [show lw = false by assumption, Bool.false_and]
   exact zAB rfl (by rw [e, hb]; rfl)
 ·have e : vDM r v p L U lw up on off pl = (vDE (vBQ (qv U)) p, up && decide (r.lo = 0)) := by unfold vDM; (repeat rw [if_neg (by omega)]); rw [if_pos (by omega)]
  refine zAA cnu rfl ?_
  (repeat' (first|refine stp ?_|with_reducible(refine brr ?_ ?_<;>intro h)));all_goals try(conv=>whnf)
  refine zAA c12 rfl ?_
  (repeat' (first|refine stp ?_|with_reducible(refine brr ?_ ?_<;>intro h)));all_goals try(conv=>whnf)
  ·have hb : (up && decide (r.lo = 0)) = (r.lo == 0) := by rw [show up = true by assumption, Bool.true_and, Bool.eq_iff_iff]; simp
   exact zAB rfl (by rw [e, hb]; rfl)
  ·have hb : (up && decide (r.lo = 0)) = false := by rw [show up = false by assumption, Bool.false_and]
   exact zAB rfl (by rw [e, hb]; rfl)
 ·have hlw1 : lw = true := by assumption
  have hup1 : up = true := by assumption
  refine zAA sl rfl ?_
  (repeat' (first|refine stp ?_|with_reducible(refine brr ?_ ?_<;>intro h)));all_goals try(conv=>whnf)
  ·have e : vDM r v p L U lw up on off pl = (zeroQ, false) := by unfold vDM; repeat rw [if_neg (by omega)]
   exact zAB rfl (by rw [e, ← zDV])
  ·refine zAA su rfl ?_
   (repeat' (first|refine stp ?_|with_reducible(refine brr ?_ ?_<;>intro h)));all_goals try(conv=>whnf)
   ·have e : vDM r v p L U lw up on off pl = (zeroQ, false) := by unfold vDM; repeat rw [if_neg (by omega)]
    exact zAB rfl (by rw [e, ← zDV])
   ·have e : vDM r v p L U lw up on off pl = (uE3 v p (qv L) (qv U), true) := by unfold vDM; (repeat rw [if_neg (by omega)]); rw [if_pos ⟨by omega, hlw1, hup1, by omega, by omega⟩]
    have z1 : szF (P + V + 3) (vDE p (vBQ (qv L))) := zF3 szp (zF7 szL) (by omega);have q1 := zJA (vDE p (vBQ (qv L))) (qv U) _ _ z1 szU (by omega) (Nat.le_trans vFV lp);rw [hUc] at q1;have q2 := uHE U L hUk.1 hLk.1 (by have := hUk.2; omega) (by have := hUk.2; omega) (by have := hLk.2; omega) (by have := hLk.2; omega);have z2 : sz (2 * V + 4) (qv U - qv L) := zKC (by omega) (vZR szU szL);have q3 := zJA v (qv U - qv L) _ _ szv z2 (by omega) (by omega);have z3 : szF (P + 2 * V + 8) (vD8 (vDE p (vBQ (qv L))) (qv U)) := zH8 z1 szU (by omega);have z4 : szF (2 * V + 8) (vD8 v (qv U - qv L)) := zH8 szv z2 (by omega);have q4 := zF8 (vD8 (vDE p (vBQ (qv L))) (qv U)) (vD8 v (qv U - qv L)) _ _ z3 z4 (by omega) (Nat.le_trans vF3 (Nat.le_trans vFV lp)) (Nat.le_trans vF3 (by omega));refine zAA cnl rfl ?_
    (repeat' (first|refine stp ?_|with_reducible(refine brr ?_ ?_<;>intro h)));all_goals try(conv=>whnf)
    refine zAA c11 rfl ?_
    (repeat' (first|refine stp ?_|with_reducible(refine brr ?_ ?_<;>intro h)));all_goals try(conv=>whnf)
    refine zAA q1 rfl ?_
    (repeat' (first|refine stp ?_|with_reducible(refine brr ?_ ?_<;>intro h)));all_goals try(conv=>whnf)
    refine zAA q2 rfl ?_
    (repeat' (first|refine stp ?_|with_reducible(refine brr ?_ ?_<;>intro h)));all_goals try(conv=>whnf)
    refine zAA q3 rfl ?_
    (repeat' (first|refine stp ?_|with_reducible(refine brr ?_ ?_<;>intro h)));all_goals try(conv=>whnf)
    refine zAA q4 rfl ?_
    (repeat' (first|refine stp ?_|with_reducible(refine brr ?_ ?_<;>intro h)));all_goals try(conv=>whnf)
    exact zAB rfl (by rw [e]; rfl)
 ·have e : vDM r v p L U lw up on off pl = (zeroQ, false) := by unfold vDM; (repeat rw [if_neg (by omega)]); rw [if_neg (fun q => by have := q.2.2.1; simp_all)]
  exact zAB rfl (by rw [e, ← zDV])
 ·have e : vDM r v p L U lw up on off pl = (zeroQ, false) := by unfold vDM; (repeat rw [if_neg (by omega)]); rw [if_neg (fun q => by have := q.2.1; simp_all)]
  exact zAB rfl (by rw [e, ← zDV])
 ·have e : vDM r v p L U lw up on off pl = (zeroQ, false) := by unfold vDM; repeat rw [if_neg (by omega)]
  exact zAB rfl (by rw [e, ← zDV])
theorem zKZ {S : ScpL} {n j : Int} {up : Bool} (h : vDL S n j up = true) : vEY S n j up = some (qv (vDR S n)) := by
 unfold vDL at h;simp only [Bool.and_eq_true, decide_eq_true_eq] at h;unfold vEY vDR;rw [if_pos ⟨h.1.1, h.1.2, h.2.1, h.2.2⟩, if_pos h.1]
theorem zJC {S : ScpL} {n j : Int} {up : Bool} (h : vDL S n j up = false) : vEY S n j up = none := by
 unfold vEY;rw [if_neg]
 rintro ⟨h1, h2, h3, h4⟩
 unfold vDL at h;rw [decide_eq_true (show 1 ≤ n ∧ n ≤ S.lems.length from ⟨h1, h2⟩), decide_eq_true h3, decide_eq_true h4] at h;cases h
theorem uGX {S : ScpL} {n j : Int} {up : Bool} : geO (vEY S n j up) = (vDL S n j up && decide (0 ≤ vEU (qv (vDR S n)))) := by
 cases h : vDL S n j up with
 | true => rw [zKZ h]; simp only [geO, Bool.true_and]; exact decide_eq_decide.2 sgnQ_nn'.symm
 | false => rw [zJC h]; rfl
theorem uGO {S : ScpL} {n j : Int} {up : Bool} : leO (vEY S n j up) = (vDL S n j up && decide (vEU (qv (vDR S n)) ≤ 0)) := by
 cases h : vDL S n j up with
 | true =>
   rw [zKZ h]; simp only [leO, Bool.true_and];refine decide_eq_decide.2 ?_;rw [← Int.not_lt, sgnQ_pos, Rat.not_lt]
 | false => rw [zJC h]; rfl
theorem vYU {S : ScpL} {r : RowL} (hk : 5 ≤ r.kind) (hi : 0 ≤ r.index ∧ r.index < S.q.g.units.length) : vIK S r =
 (if (vDM r (vCN (S.q.g.ins + r.index)) S.q.g.units[r.index.toNat]!.Q (vDR S r.lo) (vDR S r.hi) (vDL S r.lo r.index false) (vDL S r.hi r.index true) (onP r (vDR S r.lo) (vDL S r.lo r.index false) (vLW S 1 r.index)) (vPQ r (vDR S r.hi) (vDL S r.hi r.index true) (vLW S 2 r.index)) (vE6 r)).2 = true
   then some (vDM r (vCN (S.q.g.ins + r.index)) S.q.g.units[r.index.toNat]!.Q (vDR S r.lo) (vDR S r.hi) (vDL S r.lo r.index false) (vDL S r.hi r.index true) (onP r (vDR S r.lo) (vDL S r.lo r.index false) (vLW S 1 r.index)) (vPQ r (vDR S r.hi) (vDL S r.hi r.index true) (vLW S 2 r.index)) (vE6 r)).1 else none) := by
 have hon : onB S r = onP r (vDR S r.lo) (vDL S r.lo r.index false) (vLW S 1 r.index) := by unfold onB onP; rw [uGX]
 have hoff : uH7 S r = vPQ r (vDR S r.hi) (vDL S r.hi r.index true) (vLW S 2 r.index) := by unfold uH7 vPQ; rw [uGO]
 have hpl : (r.lo = 0 ∧ r.hi = 0) ↔ vE6 r = true := by unfold vE6; simp
 have bl : ∀ {g : QF} {b : Bool}, vEY S r.lo r.index false = (if vDL S r.lo r.index false = true then some (qv (vDR S r.lo)) else none) := by
  intro g b;cases h : vDL S r.lo r.index false with
  | true => rw [if_pos rfl, zKZ h]
  | false => rw [if_neg (by decide), zJC h]
 have bu : vEY S r.hi r.index true = (if vDL S r.hi r.index true = true then some (qv (vDR S r.hi)) else none) := by
  cases h : vDL S r.hi r.index true with
  | true => rw [if_pos rfl, zKZ h]
  | false => rw [if_neg (by decide), zJC h]
 unfold vIK unO;rw [if_neg (by omega), if_neg (by omega), hon, hoff, bl (g := zeroQ) (b := true), bu];generalize onP r (vDR S r.lo) (vDL S r.lo r.index false) (vLW S 1 r.index) = on;generalize vPQ r (vDR S r.hi) (vDL S r.hi r.index true) (vLW S 2 r.index) = off;generalize vDL S r.lo r.index false = lw;generalize vDL S r.hi r.index true = up;generalize vDR S r.lo = L;generalize vDR S r.hi = U;generalize vCN (S.q.g.ins + r.index) = v;generalize S.q.g.units[r.index.toNat]!.Q = p;unfold vDM;by_cases k5 : r.kind = 5
 ·rw [if_pos k5, if_pos k5]; simp only [hpl]
 rw [if_neg k5, if_neg k5];by_cases k6 : r.kind = 6
 ·rw [if_pos k6, if_pos k6]; simp only [hpl]
 rw [if_neg k6, if_neg k6];by_cases k7 : r.kind = 7
 ·rw [if_pos k7, if_pos k7]
 rw [if_neg k7, if_neg k7];by_cases k8 : r.kind = 8
 ·rw [if_pos k8, if_pos k8]
 rw [if_neg k8, if_neg k8];by_cases k9 : r.kind = 9
 ·rw [if_pos k9, if_pos k9]
 rw [if_neg k9, if_neg k9];by_cases k10 : r.kind = 10
 ·rw [if_pos k10, if_pos k10]
 rw [if_neg k10, if_neg k10];by_cases k11 : r.kind = 11
 ·rw [if_pos k11, if_pos k11]
  cases lw <;> simp
 rw [if_neg k11, if_neg k11];by_cases k12 : r.kind = 12
 ·rw [if_pos k12, if_pos k12]
  cases up <;> simp
 rw [if_neg k12, if_neg k12];by_cases k13 : r.kind = 13
 ·rw [if_pos k13]
  cases lw
  ·simp
  ·cases up
   ·simp
   ·simp only [if_true, k13, true_and]
    by_cases hc : vEU (qv L) < 0 ∧ 0 < vEU (qv U)
    ·rw [if_pos (show qv L < 0 ∧ 0 < qv U from ⟨sgnQ_neg.1 hc.1, sgnQ_pos.1 hc.2⟩), if_pos hc]; rfl
    ·rw [if_neg (show ¬ (qv L < 0 ∧ 0 < qv U) from fun e => hc ⟨sgnQ_neg.2 e.1, sgnQ_pos.2 e.2⟩), if_neg hc]; rfl
 ·have e13 : (if r.kind = 13 ∧ lw = true ∧ up = true ∧ vEU (qv L) < 0 ∧ 0 < vEU (qv U) then (uE3 v p (qv L) (qv U), true) else (zeroQ, false)) = (zeroQ, false) := if_neg (fun e => k13 e.1)
  rw [if_neg k13, e13]; rfl
theorem vIZ : FO 137 Tryz.f137 [.cell 4 46, .tmp 5] 206 := mkO Tryz.func137 Tryz.ntmps137 Tryz.results137
theorem uD7 (S : ScpL) (r : RowL) (P V : Nat) (hS : vCU S) (hz : szS S P V) : ∃ f b, ((b = true ∧ vIK S r = some f) ∨ (b = false ∧ vIK S r = none)) ∧ Fn 137 [vBN S, vBJ r] (.data (.tup [vB4 f, .bool b])) := by
 have hnu := hS.1.1.2.1;by_cases hk : r.kind < 5
 ·have ci := uJM S r P V hS hz
  refine ⟨(inO S r).getD zeroQ, (inO S r).isSome, ?_, ?_⟩
  ·unfold vIK
   rw [if_pos hk];cases inO S r with
   | none => exact Or.inr ⟨rfl, rfl⟩
   | some f => exact Or.inl ⟨rfl, rfl⟩
  ·generalize (inO S r).getD zeroQ = f at *
   generalize (inO S r).isSome = b at *
   refine zAO vBC hT vIZ (by simp [vBN, vBJ]) ?_
   (repeat' (first|refine stp ?_|with_reducible(refine brr ?_ ?_<;>intro h)));all_goals try(conv=>whnf)
   all_goals try (exfalso; omega)
   refine zAA ci rfl ?_;refine sts ?_;exact zAB rfl rfl
 ·by_cases hi : 0 ≤ r.index ∧ r.index < S.q.g.units.length
  ·have c := vZF S r P V hS hz (by omega) hi _ _ _ _ _ _ _ _ _ _ _ rfl rfl rfl rfl rfl rfl rfl rfl rfl rfl rfl
   have e := vYU (S := S) (r := r) (by omega) hi;refine ⟨_, _, ?_, c⟩;rw [e];cases h : (vDM r (vCN (S.q.g.ins + r.index)) S.q.g.units[r.index.toNat]!.Q (vDR S r.lo) (vDR S r.hi) (vDL S r.lo r.index false) (vDL S r.hi r.index true) (onP r (vDR S r.lo) (vDL S r.lo r.index false) (vLW S 1 r.index)) (vPQ r (vDR S r.hi) (vDL S r.hi r.index true) (vLW S 2 r.index)) (vE6 r)).2 with
   | true => exact Or.inl ⟨rfl, rfl⟩
   | false => exact Or.inr ⟨rfl, rfl⟩
  ·refine ⟨zeroQ, false, Or.inr ⟨rfl, ?_⟩, ?_⟩
   ·unfold vIK unO; rw [if_neg hk, if_pos (by omega)]
   ·refine zAO vBC hT vIZ (by simp [vBN, vBJ]) ?_
    (repeat' (first|refine stp ?_|with_reducible(refine brr ?_ ?_<;>intro h)));all_goals try(conv=>whnf)
    all_goals try (exfalso; omega)
    all_goals exact zAB rfl (by rw [← zDV])
end Go.PI.Tryz
