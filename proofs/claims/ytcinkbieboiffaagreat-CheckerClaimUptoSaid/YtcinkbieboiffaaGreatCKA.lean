/-
  The checker: rows, derivations.
-/
import Derived.Test.YtcinkbieboiffaaGreatCLB
import Derived.Test.YtcinkbieboiffaaGreatCGA
import Derived.Test.YtcinkbieboiffaaGreatCPE
import Derived.Test.YtcinkbieboiffaaGreatCIB
set_option linter.unusedVariables false
set_option linter.unusedSimpArgs false
set_option linter.unnecessarySimpa false
namespace Go.PI.Tryz
open Go.Proofs Go.PI
theorem encF_varK (v : Int) : encF (varQ v) = .agg [.imm [encQ (v, 1)], .bool false, .imm [], .imm []] := by unfold encF varQ; rw [zJX]; rfl
theorem ok_kvar : FO 150 Tryz.f150 [.cell 2 34] 8 := mkO Tryz.func150 Tryz.ntmps150 Tryz.results150
theorem c_kvar (v : Int) : Fn 150 [.int .i64 v] (.data (encF (varQ v))) := by
 have c1 := c_qof 1 (by decide);rw [show ((1 : Int) : Rat) = 1 by rfl] at c1;rw [encF_varK];refine zAJ hmix hT ok_kvar (by simp) ?_;refine sts ?_;refine zAA c1 rfl ?_;refine sts ?_;exact zAB rfl rfl
theorem ok_knum : FO 72 Tryz.f72 [.cell 2 34] 6 := mkO Tryz.func72 Tryz.ntmps72 Tryz.results72
theorem zMJ (c : RatL) (k : Nat) (hc : okQ k c) (hk : k ≤ 950000000) : Fn 72 [encRat c] (.data (encF (numQ' (qv c)))) := by
 have c1 := zK1 c hc.1 (by have := hc.2; omega) (by have := hc.2; omega);refine zAJ hmix hT ok_knum (by simp [encRat]) ?_;refine sts ?_;refine zAA c1 rfl ?_;refine sts ?_;exact zAB rfl rfl
theorem ok_kminus : FO 93 Tryz.f93 [.cell 2 34] 6 := mkO Tryz.func93 Tryz.ntmps93 Tryz.results93
theorem c_kminus (f : QF) (k : Nat) (hf : szF k f) (hk : k ≤ 900000000) (hl : f.ts.length ≤ 1048576) : Fn 93 [encF f] (.data (encF (sclQ f (-1)))) := by
 have c1 := c_qof (-1) (by decide);rw [show (((-1 : Int)) : Rat) = -1 by rfl] at c1;have c2 := zHN f (-1) k 1 hf (zCL (z := -1) (by decide)) (by omega) hl;refine zAJ hmix hT ok_kminus (by simp [encF]) ?_;refine sts ?_;refine zAA c1 rfl ?_;refine sts ?_;refine zAA c2 rfl ?_;refine sts ?_;exact zAB rfl rfl
theorem ok_kfits : FO 51 Tryz.f51 [.tmp 4] 61 := mkO Tryz.func51 Tryz.ntmps51 Tryz.results51
theorem c_kfits (q : QryL) (d : DecL) (hu : q.g.units.length ≤ 1048576) (hd : okQ 950000000 d.rat) : Fn 51 [encQry q, encDec d] (.data (.bool (dB (fitD q d)))) := by
 have cv := zFO d.rat hd.1 (by have := hd.2; omega) (by have := hd.2; omega);have l2 := hd.2.1;have l3 := hd.2.2;have bad : ¬ fitD q d → false = dB (fitD q d) := zFA;refine zAJ hmix hT ok_kfits (by simp [encQry, encDec]) ?_
 (repeat' (first|refine stp ?_|with_reducible(refine brr ?_ ?_<;>intro h)));all_goals try(conv=>whnf)
 all_goals try (refine zAB rfl (congrArg PV.bool (bad fun e => ?_)); rcases e with ⟨e1, e2, e3, e4, e5, e6⟩ | ⟨e1, e2, e3, e4⟩ <;> first | omega | (simp_all; done))
 all_goals first
  | (refine zAA cv rfl ?_
     refine sts ?_;refine zAB rfl (congrArg PV.bool ?_);rw [Bool.eq_iff_iff, dB_true, decide_eq_true_eq]
     exact ⟨fun e => Or.inr ⟨by omega, by omega, by omega, e⟩, fun e => by rcases e with ⟨e1, _⟩ | ⟨_, _, _, e4⟩; (exfalso; omega); exact e4⟩)
  | (refine zAB rfl (congrArg PV.bool ?_)
     rw [Bool.eq_iff_iff, dB_true, beq_iff_eq];simp only [List.length_map]
     exact ⟨fun e => Or.inl ⟨by omega, by omega, by omega, by assumption, by omega, by omega⟩, fun e => by rcases e with ⟨_, _, _, _, _, e6⟩ | ⟨e1, _⟩; omega; (exfalso; omega)⟩)
theorem ok_kopp : FO 52 Tryz.f52 [.cell 2 39] 16 := mkO Tryz.func52 Tryz.ntmps52 Tryz.results52
theorem c_kopp (d : DecL) (hk : 1 ≤ d.kind ∧ d.kind ≤ 4) : Fn 52 [encDec d] (.data (encDec (opp d))) := by
 refine zAJ hmix hT ok_kopp (by simp [encDec]) ?_
 (repeat' (first|refine stp ?_|with_reducible(refine brr ?_ ?_<;>intro h)));all_goals try(conv=>whnf)
 all_goals refine zAB rfl ?_
 all_goals (unfold encDec opp oppK; simp only [PV.agg.injEq, List.cons.injEq, PV.int.injEq, true_and, and_true])
 all_goals (repeat' split) <;> omega
theorem ok_kdec : FO 152 Tryz.f152 [.tmp 6] 27 := mkO Tryz.func152 Tryz.ntmps152 Tryz.results152
theorem c_kdec (S : ScpL) (k j : Int) (hp : S.path.length ≤ 1048576) : Fn 152 [encScp S, .int .i64 k, .int .i64 j] (.data (.bool (decB S k j))) := by
 refine zAJ hmix hT ok_kdec (by simp [encScp]) ?_;refine sts ?_
 refine zAL hT (fun (i : Nat) => [(1, .int .i64 k), (2, .int .i64 j), (10, .imm (S.path.map encDec)), (11, .int .i64 S.path.length), (12, .int .i64 i)]) (fun _ => []) [] 1
  (fun i => i ≤ S.path.length ∧ ∀ m, m < i → ¬ (S.path[m]!.kind = k ∧ S.path[m]!.index = j)) (fun i => S.path.length - i) 0 ⟨Nat.zero_le _, fun m h => by omega⟩ (by decide) (by simp) ?_ ?_
 ·exact ⟨[0], [], [], [], ttt, ⟨zAC rfl rfl, zAC rfl rfl, zAD rfl rfl, zAC rfl (by simp), zAC rfl rfl, trivial⟩, trivial, by simp [ren]⟩
 intro i ⟨i1, i2⟩;by_cases hi : i < S.path.length
 ·have hm : S.path[i]! ∈ S.path := get_mem hi
  (repeat' (first|refine stp ?_|with_reducible(refine brr ?_ ?_<;>intro h)));all_goals try(conv=>whnf)
  all_goals try (exfalso; omega)
  all_goals first
   | (refine zAB rfl (congrArg PV.bool ?_)
      refine (List.any_eq_true.2 ⟨_, hm, ?_⟩).symm;simp only [Bool.and_eq_true, decide_eq_true_eq]
      exact ⟨by assumption, by assumption⟩)
   | exact ⟨i + 1, ⟨⟨by omega, fun m hm => zAZ (p := fun m => ¬ (S.path[m]!.kind = k ∧ S.path[m]!.index = j)) i2 (by omega) hm⟩, by show S.path.length - (i + 1) < S.path.length - i; omega⟩, [0], [], [], [], ttt, ⟨zAC rfl rfl, zAC rfl rfl, zAD rfl rfl, zAC rfl rfl, zAC rfl rfl, trivial⟩, trivial, by simp [ren]⟩
   | skip
 ·(repeat' (first|refine stp ?_|with_reducible(refine brr ?_ ?_<;>intro h)));all_goals try(conv=>whnf)
  all_goals try (exfalso; omega)
  refine zAB rfl (congrArg PV.bool ?_);refine (List.any_eq_false.2 fun d hd => ?_).symm;obtain ⟨m, hm, rfl⟩ := List.getElem_of_mem hd;have := i2 m (by omega);rw [getElem!_pos S.path m hm] at this;simp only [Bool.and_eq_true, decide_eq_true_eq];exact this
def bndV (S : ScpL) (n : Int) : RatL := if 1 ≤ n ∧ n ≤ S.lems.length then S.lems[n.toNat - 1]!.value else ⟨false, [], []⟩
def bndB (S : ScpL) (n j : Int) (up : Bool) : Bool := decide (1 ≤ n ∧ n ≤ S.lems.length) && (decide (S.lems[n.toNat - 1]!.unit = j) && decide (S.lems[n.toNat - 1]!.upper = up))
theorem ok_kbnd : FO 151 Tryz.f151 [.cell 8 32, .tmp 9] 39 := mkO Tryz.func151 Tryz.ntmps151 Tryz.results151
theorem c_kbnd (S : ScpL) (n j : Int) (up : Bool) (hl : S.lems.length ≤ 1048576) : Fn 151 [encScp S, .int .i64 n, .int .i64 j, .bool up] (.data (.tup [encRat (bndV S n), .bool (bndB S n j up)])) := by
 refine zAJ hmix hT ok_kbnd (by simp [encScp]) ?_
 (repeat' (first|refine stp ?_|with_reducible(refine brr ?_ ?_<;>intro h)));all_goals try(conv=>whnf)
 ·have e1 : bndV S n = ⟨false, [], []⟩ := if_neg (fun e => by omega)
  have e2 : bndB S n j up = false := by unfold bndB; rw [decide_eq_false (fun e => by omega)]; rfl
  rw [e1, e2]; exact zAB rfl rfl
 ·have e1 : bndV S n = ⟨false, [], []⟩ := if_neg (fun e => by omega)
  have e2 : bndB S n j up = false := by unfold bndB; rw [decide_eq_false (fun e => by omega)]; rfl
  rw [e1, e2]; exact zAB rfl rfl
 ·have hlt : n.toNat - 1 < S.lems.length := by omega
  refine zAY (j := n.toNat - 1) (show n - 1 = _ by omega) hlt ?_;have e1 : bndV S n = S.lems[n.toNat - 1]!.value := if_pos ⟨by omega, by omega⟩;have e2 : bndB S n j up = (decide (S.lems[n.toNat - 1]!.unit = j) && decide (S.lems[n.toNat - 1]!.upper = up)) := by unfold bndB; rw [decide_eq_true (show 1 ≤ n ∧ n ≤ S.lems.length from ⟨by omega, by omega⟩)]; rfl
  rw [e1, e2];generalize S.lems[n.toNat - 1]! = m at *
  (repeat' (first|refine stp ?_|with_reducible(refine brr ?_ ?_<;>intro h)));all_goals try(conv=>whnf)
  ·refine zAB rfl ?_
   simp_all
   exact ⟨rfl, by cases m.upper <;> cases up <;> rfl⟩
  ·refine zAB rfl ?_
   simp_all
   rfl
theorem ok_kless : FO 126 Tryz.f126 [.tmp 4] 44 := mkO Tryz.func126 Tryz.ntmps126 Tryz.results126
theorem c_kless (a b : RowL) : Fn 126 [encRow a, encRow b] (.data (.bool (dB (lessR a b)))) := by
 refine zAJ hmix hT ok_kless (by simp [encRow]) ?_;refine sts ?_;have no : ¬ lessR a b → false = dB (lessR a b) := zFA
 refine zAL hT (fun (i : Nat) => [(5, .ptr 0 0 0), (6, .ptr 1 0 0), (26, .int .i64 i)]) (fun _ => [(0, ⟨[encRow a], 4, true⟩), (1, ⟨[encRow b], 4, true⟩)]) [] 2
  (fun i => i ≤ 4 ∧ (0 < i → a.kind = b.kind) ∧ (1 < i → a.index = b.index) ∧ (2 < i → a.lo = b.lo) ∧ (3 < i → a.hi = b.hi)) (fun i => 4 - i) 0 ⟨by omega, by omega, by omega, by omega, by omega⟩ (by decide) (by simp) ?_ ?_
 ·exact ⟨[_, _], [], [], [], ttt, ⟨(apy rfl), (apy rfl), zAC rfl rfl, trivial⟩, ⟨bbx, bbx, trivial⟩, by simp [ren]⟩
 rintro i ⟨i1, i2, i3, i4, i5⟩
 obtain rfl | rfl | rfl | rfl | rfl : i = 0 ∨ i = 1 ∨ i = 2 ∨ i = 3 ∨ i = 4 := by omega
 all_goals (repeat' (first|refine stp ?_|with_reducible(refine brr ?_ ?_<;>intro h)));all_goals try(conv=>whnf)
 all_goals first
  | (refine zAB rfl (congrArg PV.bool ?_)
     rw [Bool.eq_iff_iff, dB_true, decide_eq_true_eq];unfold lessR
     omega)
  | (refine zAB rfl (congrArg PV.bool (no fun e => ?_))
     unfold lessR at e
     omega)
  | exact ⟨1, ⟨⟨by omega, by omega, by omega, by omega, by omega⟩, by omega⟩, [0, 1], [], [], [], ttt, ⟨apx, apx, zAC rfl rfl, trivial⟩, ⟨bbx, bbx, trivial⟩, by simp [ren]⟩
  | exact ⟨2, ⟨⟨by omega, by omega, by omega, by omega, by omega⟩, by omega⟩, [0, 1], [], [], [], ttt, ⟨apx, apx, zAC rfl rfl, trivial⟩, ⟨bbx, bbx, trivial⟩, by simp [ren]⟩
  | exact ⟨3, ⟨⟨by omega, by omega, by omega, by omega, by omega⟩, by omega⟩, [0, 1], [], [], [], ttt, ⟨apx, apx, zAC rfl rfl, trivial⟩, ⟨bbx, bbx, trivial⟩, by simp [ren]⟩
  | exact ⟨4, ⟨⟨by omega, by omega, by omega, by omega, by omega⟩, by omega⟩, [0, 1], [], [], [], ttt, ⟨apx, apx, zAC rfl rfl, trivial⟩, ⟨bbx, bbx, trivial⟩, by simp [ren]⟩
  | skip
end Go.PI.Tryz
namespace Go.PI.Tryz
open Go.Proofs Go.PI
theorem sgnQ_nn' {q : Rat} : 0 ≤ sgnQ q ↔ 0 ≤ q := by
 rw [← Int.not_lt, sgnQ_neg, Rat.not_lt]
def lenQ (r : RatL) : Nat := r.num.length + r.den.length
theorem zJN {k : Nat} {r : RatL} (h : okQ k r) : okQ (lenQ r) r := ⟨h.1, by unfold lenQ; omega, by unfold lenQ; omega⟩
structure szS (S : ScpL) (P V : Nat) : Prop where
 P1 : 1 ≤ P
 units : ∀ f ∈ S.q.g.units, okA P f
 lo : okLs P S.q.r.lo
 hi : okLs P S.q.r.hi
 rows : okFs P S.q.r.rows
 path : S.path.length ≤ 1048576 ∧ ∀ d ∈ S.path, okQ P d.rat
 lems : S.lems.length ≤ 1048576 ∧ ∀ m ∈ S.lems, okQ V m.value
 can : ∀ m ∈ S.lems, CanR m.value
 two : ∀ i j, i < S.lems.length → j < S.lems.length → S.lems[i]!.upper = false → S.lems[j]!.upper = true → lenQ S.lems[i]!.value + lenQ S.lems[j]!.value ≤ V
 B : P + 2 * V + 20 ≤ 100000000
 nv : nvar S ≤ 1280
theorem zDE {k : Nat} {q : Rat} (h : sz k q) : szF k (numQ' q) := ⟨h, fun p hp => by cases hp⟩
theorem zED {f g : QF} {kf kg K : Nat} (hf : szF kf f) (hg : szF kg g) (hK : kf + kg + 2 ≤ K) : szF K (subQ f g) := zD3 hf hg (zCL (z := -1) (by decide)) (by omega)
theorem zF0 {f : QF} {c : Rat} {kf kc K : Nat} (hf : szF kf f) (hc : sz kc c) (hK : kf + kc + 2 ≤ K) : szF K (sclQ f c) := zD3 (zC4 1 (by decide)) hf hc (by omega)
theorem zHW {f : QF} {c : Rat} : (sclQ f c).ts.length ≤ f.ts.length := by
 have := zES (f := zeroQ) (g := f) (c := c)
 simpa [zeroQ, sclQ] using this
theorem zHD {f : QF} {c : Rat} : (subQ f (numQ' c)).ts.length ≤ f.ts.length := by
 have := zES (f := f) (g := numQ' c) (c := -1)
 simpa [numQ', subQ] using this
theorem zF2 {k : Nat} {r : RatL} (h : okQ k r) (hk : 1 ≤ k) : sz k (qv r) := zH8 h.1 h.2.1 h.2.2 hk
section
variable {S : ScpL} {r : RowL}
theorem in_bad (h : r.index < 0 ∨ r.lo ≠ 0 ∨ r.hi ≠ 0) : inO S r = none := by unfold inO; rw [if_pos h]
theorem in_1 (h : ¬ (r.index < 0 ∨ r.lo ≠ 0 ∨ r.hi ≠ 0)) (h1 : r.kind = 1 ∧ r.index < S.q.r.lo.length) : inO S r = some (subQ (varQ r.index) (numQ' (qv S.q.r.lo[r.index.toNat]!))) := by unfold inO; rw [if_neg h, if_pos h1]
theorem in_2 (h : ¬ (r.index < 0 ∨ r.lo ≠ 0 ∨ r.hi ≠ 0)) (h1 : r.kind = 2 ∧ r.index < S.q.r.hi.length) : inO S r = some (subQ (numQ' (qv S.q.r.hi[r.index.toNat]!)) (varQ r.index)) := by unfold inO; rw [if_neg h, if_neg (fun e => by omega), if_pos h1]
theorem in_3 (h : ¬ (r.index < 0 ∨ r.lo ≠ 0 ∨ r.hi ≠ 0)) (h1 : r.kind = 3 ∧ r.index < S.q.r.rows.length) : inO S r = some S.q.r.rows[r.index.toNat]!.Q := by unfold inO; rw [if_neg h, if_neg (fun e => by omega), if_neg (fun e => by omega), if_pos h1]
theorem in_4 (h : ¬ (r.index < 0 ∨ r.lo ≠ 0 ∨ r.hi ≠ 0)) (h1 : r.kind = 4 ∧ r.index < S.path.length) (h2 : S.path[r.index.toNat]!.kind = 3) : inO S r = some (subQ (varQ S.path[r.index.toNat]!.index) (numQ' (qv S.path[r.index.toNat]!.rat))) := by unfold inO; rw [if_neg h, if_neg (fun e => by omega), if_neg (fun e => by omega), if_neg (fun e => by omega), if_pos h1, if_pos h2]
theorem in_4b (h : ¬ (r.index < 0 ∨ r.lo ≠ 0 ∨ r.hi ≠ 0)) (h1 : r.kind = 4 ∧ r.index < S.path.length) (h2 : S.path[r.index.toNat]!.kind = 4) : inO S r = some (subQ (numQ' (qv S.path[r.index.toNat]!.rat)) (varQ S.path[r.index.toNat]!.index)) := by unfold inO; rw [if_neg h, if_neg (fun e => by omega), if_neg (fun e => by omega), if_neg (fun e => by omega), if_pos h1, if_neg (by omega), if_pos h2]
theorem in_none (h1 : ¬ (r.kind = 1 ∧ r.index < S.q.r.lo.length)) (h2 : ¬ (r.kind = 2 ∧ r.index < S.q.r.hi.length)) (h3 : ¬ (r.kind = 3 ∧ r.index < S.q.r.rows.length)) (h4 : ¬ (r.kind = 4 ∧ r.index < S.path.length ∧ (S.path[r.index.toNat]!.kind = 3 ∨ S.path[r.index.toNat]!.kind = 4))) : inO S r = none := by
 unfold inO;rw [if_neg h1, if_neg h2, if_neg h3]
 split
 ·rfl
 ·split
  ·rw [if_neg (fun e => h4 ⟨by omega, by omega, Or.inl e⟩), if_neg (fun e => h4 ⟨by omega, by omega, Or.inr e⟩)]
  ·rfl
end
theorem ok_kin : FO 149 Tryz.f149 [.cell 4 34, .tmp 5] 120 := mkO Tryz.func149 Tryz.ntmps149 Tryz.results149
theorem c_kin (S : ScpL) (r : RowL) (P V : Nat) (hS : okScp S) (hz : szS S P V) : Fn 149 [encScp S, encRow r] (.data (.tup [encF ((inO S r).getD zeroQ), .bool (inO S r).isSome])) := by
 have l1 := hz.lo.1;have l2 := hz.hi.1;have l3 := hz.rows.1;have l4 := hz.path.1;have hB := hz.B;have hP := hz.P1;have none : inO S r = none → PV.tup [.agg [.imm [], .bool false, .imm [], .imm []], .bool false] = .tup [encF ((inO S r).getD zeroQ), .bool (inO S r).isSome] := fun e => by rw [e, ← zA4]; rfl
 have some : ∀ f, inO S r = some f → PV.tup [encF f, .bool true] = .tup [encF ((inO S r).getD zeroQ), .bool (inO S r).isSome] := fun f e => by rw [e]; rfl
 refine zAJ hmix hT ok_kin (by simp [encScp, encRow]) ?_
 (repeat' (first|refine stp ?_|with_reducible(refine brr ?_ ?_<;>intro h)));all_goals try(conv=>whnf)
 all_goals first
  | exact zAB rfl (none (in_bad (by omega)))
  | exact zAB rfl (none (in_none (by omega) (by omega) (by omega) (by omega)))
  | skip
 all_goals try (exfalso; omega)
 ·have hj : r.index.toNat < S.q.r.lo.length := by omega
  have hq := zBQ hz.lo hj;have cv := c_kvar r.index;have cn := zMJ _ P hq (by omega);have cs := zFE (varQ r.index) (numQ' (qv S.q.r.lo[r.index.toNat]!)) 1 P (zC8 _) (zDE (zF2 hq hP)) (by omega) (by simp [varQ]) (by simp [numQ']);refine zAA cv rfl ?_;refine sts ?_;refine zAY (j := r.index.toNat) (show r.index = _ by omega) hj ?_;refine sts ?_;refine zAA cn rfl ?_;refine sts ?_;refine zAA cs rfl ?_;refine sts ?_;exact zAB rfl (some _ (in_1 (by omega) ⟨by omega, by omega⟩))
 ·have hj : r.index.toNat < S.q.r.hi.length := by omega
  have hq := zBQ hz.hi hj;have cv := c_kvar r.index;have cn := zMJ _ P hq (by omega);have cs := zFE (numQ' (qv S.q.r.hi[r.index.toNat]!)) (varQ r.index) P 1 (zDE (zF2 hq hP)) (zC8 _) (by omega) (by simp [numQ']) (by simp [varQ]);refine zAY (j := r.index.toNat) (show r.index = _ by omega) hj ?_;refine sts ?_;refine zAA cn rfl ?_;refine sts ?_;refine zAA cv rfl ?_;refine sts ?_;refine zAA cs rfl ?_;refine sts ?_;exact zAB rfl (some _ (in_2 (by omega) ⟨by omega, by omega⟩))
 ·have hj : r.index.toNat < S.q.r.rows.length := by omega
  have e := some _ (in_3 (S := S) (r := r) (by omega) ⟨by omega, by omega⟩);rw [← zL3 (hS.1.2.1.2.2.2.2.2 _ hj)] at e;refine zAY (j := r.index.toNat) (show r.index = _ by omega) hj ?_;refine sts ?_;exact zAB rfl e
 ·have hj : r.index.toNat < S.path.length := by omega
  have hm : S.path[r.index.toNat]! ∈ S.path := get_mem hj;have hq := hz.path.2 _ hm;have cv := c_kvar S.path[r.index.toNat]!.index;have cn := zMJ _ P hq (by omega);have cs := zFE (varQ S.path[r.index.toNat]!.index) (numQ' (qv S.path[r.index.toNat]!.rat)) 1 P (zC8 _) (zDE (zF2 hq hP)) (by omega) (by simp [varQ]) (by simp [numQ']);have cs2 := zFE (numQ' (qv S.path[r.index.toNat]!.rat)) (varQ S.path[r.index.toNat]!.index) P 1 (zDE (zF2 hq hP)) (zC8 _) (by omega) (by simp [numQ']) (by simp [varQ]);refine zAY (j := r.index.toNat) (show r.index = _ by omega) hj ?_
  (repeat' (first|refine stp ?_|with_reducible(refine brr ?_ ?_<;>intro h)));all_goals try(conv=>whnf)
  ·refine zAA cv rfl ?_
   refine sts ?_;refine zAA cn rfl ?_;refine sts ?_;refine zAA cs rfl ?_;refine sts ?_;exact zAB rfl (some _ (in_4 (by omega) ⟨by omega, by omega⟩ (by assumption)))
  ·refine zAA cn rfl ?_
   refine sts ?_;refine zAA cv rfl ?_;refine sts ?_;refine zAA cs2 rfl ?_;refine sts ?_;exact zAB rfl (some _ (in_4b (by omega) ⟨by omega, by omega⟩ (by assumption)))
  ·exact zAB rfl (none (in_none (by omega) (by omega) (by omega) (fun e => by rcases e.2.2 with q | q <;> contradiction)))
end Go.PI.Tryz
namespace Go.PI.Tryz
open Go.Proofs Go.PI
theorem ok_qsub : FO 153 Tryz.f153 [.cell 4 32] 12 := mkO Tryz.func153 Tryz.ntmps153 Tryz.results153
theorem c_qsub (x y : RatL) (hx : okR x) (hy : okR y) (hl1 : x.num.length < 1000000000) (hl2 : x.den.length < 1000000000) (hl3 : y.num.length < 1000000000) (hl4 : y.den.length < 1000000000) : Fn 153 [encRat x, encRat y] (.data (encRat (cr (qv x - qv y)))) := by
 have e : qv (⟨!y.neg, y.num, y.den⟩ : RatL) = - qv y := by
  unfold qv; dsimp only; rw [zM5];rw [show -(sg y.neg (nv y.num)) = (-1) * sg y.neg (nv y.num) by omega];have : ∀ (z : Int) (d : Nat), mkRat (-1 * z) d = - mkRat z d := fun z d => by rw [Int.neg_mul, Int.one_mul, Rat.neg_mkRat]
  exact this _ _
 have ca := c_qadd x ⟨!y.neg, y.num, y.den⟩ hx hy hl1 hl2 hl3 hl4;rw [e, show qv x + -qv y = qv x - qv y by grind] at ca;refine zAJ hmix hT ok_qsub (by simp [encRat]) ?_;refine sts ?_;refine zAA ca rfl ?_;refine sts ?_;exact zAB rfl rfl
end Go.PI.Tryz
namespace Go.PI.Tryz
open Go.Proofs Go.PI
def plainP (r : RowL) : Bool := (decide (r.lo = 0) && decide (r.hi = 0))
def onP (r : RowL) (L : RatL) (lw D1 : Bool) : Bool := (decide (r.hi = 0) && ((decide (r.lo = 0) && D1) || (lw && decide (0 ≤ sgnQ (qv L)))))
def offP (r : RowL) (U : RatL) (up D2 : Bool) : Bool := (decide (r.lo = 0) && ((decide (r.hi = 0) && D2) || (up && decide (sgnQ (qv U) ≤ 0))))
def frmK (r : RowL) (v p : QF) (L U : RatL) (lw up on off pl : Bool) : QF × Bool :=
 if r.kind = 5 then (v, pl)
 else if r.kind = 6 then (subQ v p, pl)
 else if r.kind = 7 then (p, on)
 else if r.kind = 8 then (subQ p v, on)
 else if r.kind = 9 then (sclQ p (-1), off)
 else if r.kind = 10 then (sclQ v (-1), off)
 else if r.kind = 11 then (subQ p (numQ' (qv L)), lw && decide (r.hi = 0))
 else if r.kind = 12 then (subQ (numQ' (qv U)) p, up && decide (r.lo = 0))
 else if r.kind = 13 ∧ lw = true ∧ up = true ∧ sgnQ (qv L) < 0 ∧ 0 < sgnQ (qv U) then (triQ v p (qv L) (qv U), true)
 else (zeroQ, false)
theorem bndV_ok {S : ScpL} {P V : Nat} (hz : szS S P V) (n : Int) : okQ (V + 1) (bndV S n) := by
 unfold bndV
 split
 ·exact zBU (by omega) (hz.lems.2 _ (get_mem (by omega)))
 ·exact ⟨⟨by simp [okN], by simp [okN]⟩, Nat.zero_le _, Nat.zero_le _⟩
theorem bndV_can {S : ScpL} {P V : Nat} (hz : szS S P V) (n : Int) : CanR (bndV S n) := by
 unfold bndV
 split
 ·exact hz.can _ (get_mem (by omega))
 ·rfl
theorem ok_kform : FO 127 Tryz.f127 [.cell 4 34, .tmp 5] 206 := mkO Tryz.func127 Tryz.ntmps127 Tryz.results127
theorem c_kformU (S : ScpL) (r : RowL) (P V : Nat) (hS : okScp S) (hz : szS S P V) (hk : 5 ≤ r.kind) (hi : 0 ≤ r.index ∧ r.index < S.q.g.units.length) (v p : QF) (L U : RatL) (lw up D1 D2 on off pl : Bool) (hL : bndV S r.lo = L) (hU : bndV S r.hi = U) (hlw : bndB S r.lo r.index false = lw) (hup : bndB S r.hi r.index true = up) (hvv : varQ (S.q.g.ins + r.index) = v) (hp : S.q.g.units[r.index.toNat]!.Q = p) (hD1 : decB S 1 r.index = D1) (hD2 : decB S 2 r.index = D2) (hon : onP r L lw D1 = on) (hoff : offP r U up D2 = off) (hpl : plainP r = pl) : Fn 127 [encScp S, encRow r] (.data (.tup [encF (frmK r v p L U lw up on off pl).1, .bool (frmK r v p L U lw up on off pl).2])) := by
 have hj : r.index.toNat < S.q.g.units.length := by omega
 have hnu := hS.1.1.2.1;have hni := hS.1.1.1;have hvu := hS.1.1.2.2.2.1 _ hj;have hpu := zL3 hvu;have hB := hz.B;have hP := hz.P1;have cv := c_kvar (S.q.g.ins + r.index);have cl := c_kbnd S r.lo r.index false hz.lems.1;have cu := c_kbnd S r.hi r.index true hz.lems.1;have cd1 := c_kdec S 1 r.index hz.path.1;have cd2 := c_kdec S 2 r.index hz.path.1;have hLk := bndV_ok hz r.lo;have hUk := bndV_ok hz r.hi;rw [hL] at cl hLk;rw [hU] at cu hUk;rw [hlw] at cl;rw [hup] at cu;have sl := zFD L hLk.1 (by have := hLk.2; omega);have su := zFD U hUk.1 (by have := hUk.2; omega);have cnl := zMJ L (V + 1) hLk (by omega);have cnu := zMJ U (V + 1) hUk (by omega);have hUc : cr (qv U) = U := by have := bndV_can hz r.hi; rw [hU] at this; exact this.symm
 have szL := zF2 hLk (by omega);have szU := zF2 hUk (by omega);have hpa := hz.units _ (get_mem hj);have szp : szF P p := by rw [← hp]; exact zCQ hpa hP
 have szv : szF 1 v := by rw [← hvv]; exact zC8 _
 have lv : v.ts.length ≤ 1 := by rw [← hvv]; simp [varQ]
 have lp : p.ts.length ≤ 1048576 := by rw [← hp, Q_len]; exact hpa.2.2
 rw [hvv] at cv;rw [hp] at hpu;rw [hD1] at cd1;rw [hD2] at cd2;have c6 := zFE v p 1 P szv szp (by omega) (by omega) lp;have c8 := zFE p v P 1 szp szv (by omega) lp (by omega);have c9 := c_kminus p P szp (by omega) lp;have c10 := c_kminus v 1 szv (by omega) (by omega);have c11 := zFE p (numQ' (qv L)) P (V + 1) szp (zDE szL) (by omega) lp (by simp [numQ']);have c12 := zFE (numQ' (qv U)) p (V + 1) P (zDE szU) szp (by omega) (by simp [numQ']) lp;refine zAJ hmix hT ok_kform (by simp [encScp, encRow]) ?_
 (repeat' (first|refine stp ?_|with_reducible(refine brr ?_ ?_<;>intro h)));all_goals try(conv=>whnf)
 all_goals try (exfalso; omega)
 refine zAA cv rfl ?_
 (repeat' (first|refine stp ?_|with_reducible(refine brr ?_ ?_<;>intro h)));all_goals try(conv=>whnf)
 refine zAY (j := r.index.toNat) (show r.index = _ by omega) hj ?_
 (repeat' (first|refine stp ?_|with_reducible(refine brr ?_ ?_<;>intro h)));all_goals try(conv=>whnf)
 refine zAA cl rfl ?_
 (repeat' (first|refine stp ?_|with_reducible(refine brr ?_ ?_<;>intro h)));all_goals try(conv=>whnf)
 refine zAA cu rfl ?_
 (repeat' (first|refine stu ?_|with_reducible(refine brr ?_ ?_<;>intro h)));all_goals try(conv=>whnf)
 refine tellV [] [(2, .ptr 0 0 0), (3, .ptr 1 0 0), (4, .ptr 2 0 0), (6, .int .i64 r.index), (7, .ptr 3 0 0), (8, .ptr 4 0 0), (9, .ptr 5 0 0), (10, .bool lw), (11, .ptr 6 0 0), (12, .bool up)] [(0, ⟨[encScp S], 12, true⟩), (1, ⟨[encRow r], 4, true⟩), (2, ⟨[.agg [.nilsl, .bool false, .nilsl, .nilsl]], 4, true⟩), (3, ⟨[encF v], 4, true⟩), (4, ⟨[encF p], 4, true⟩), (5, ⟨[encRat L], 3, true⟩), (6, ⟨[encRat U], 3, true⟩)] [] 7 (by decide) (by simp) trivial ⟨[0, 1, 2, _, _, _, _], [], [], [], ttt, ⟨(apy rfl), (apy rfl), (apy rfl), zAC rfl rfl, (apy rfl), (apy rfl), (apy rfl), zAG rfl rfl, (apy rfl), zAG rfl rfl, trivial⟩, ⟨bbx, bbx, bbx, bbx, zJ1 (by decide) rfl hpu rfl rfl rfl, bbx, bbx, trivial⟩, by simp [ren]⟩ ?_;refine r_cut ⟨sv [(2, .ptr 0 0 0), (3, .ptr 1 0 0), (4, .ptr 2 0 0), (6, .int .i64 r.index), (7, .ptr 3 0 0), (8, .ptr 4 0 0), (9, .ptr 5 0 0), (10, .bool lw), (11, .ptr 6 0 0), (12, .bool up), (13, .bool on)], hv [(0, ⟨[encScp S], 12, true⟩), (1, ⟨[encRow r], 4, true⟩), (2, ⟨[.agg [.nilsl, .bool false, .nilsl, .nilsl]], 4, true⟩), (3, ⟨[encF v], 4, true⟩), (4, ⟨[encF p], 4, true⟩), (5, ⟨[encRat L], 3, true⟩), (6, ⟨[encRat U], 3, true⟩)], zv [], 7⟩ ?_ fun H9 => ?_
 rotate_left
 ·(repeat' (first|refine stu ?_|with_reducible(refine brr ?_ ?_<;>intro h)));all_goals try(conv=>whnf)
  ·refine zAA cd1 rfl ?_
   (repeat' (first|refine stu ?_|with_reducible(refine brr ?_ ?_<;>intro h)));all_goals try(conv=>whnf)
   ·refine tellV [] [(2, .ptr 0 0 0), (3, .ptr 1 0 0), (4, .ptr 2 0 0), (6, .int .i64 r.index), (7, .ptr 3 0 0), (8, .ptr 4 0 0), (9, .ptr 5 0 0), (10, .bool lw), (11, .ptr 6 0 0), (12, .bool up), (13, .bool on)] [(0, ⟨[encScp S], 12, true⟩), (1, ⟨[encRow r], 4, true⟩), (2, ⟨[.agg [.nilsl, .bool false, .nilsl, .nilsl]], 4, true⟩), (3, ⟨[encF v], 4, true⟩), (4, ⟨[encF p], 4, true⟩), (5, ⟨[encRat L], 3, true⟩), (6, ⟨[encRat U], 3, true⟩)] [] 7 (by decide) (by simp) trivial ⟨[0, 1, 2, 3, 4, 5, 6], [], [], [], ttt, ⟨apx, apx, apx, zAC rfl rfl, apx, apx, apx, zAG rfl rfl, apx, zAG rfl rfl, zAG rfl (by rw [← hon]; unfold onP; rw [Bool.eq_iff_iff]; clear sl su cd1 cd2 hL hU hlw hup hvv hp hD1 hD2 cv cl cu cnl cnu c6 c8 c9 c10 c11 c12 hpu; simp_all), trivial⟩, ⟨bbx, bbx, bbx, bbx, bbx, bbx, bbx, trivial⟩, by simp [ren]⟩ ?_; exact H9
   ·refine zAA sl rfl ?_
    (repeat' (first|refine stu ?_|with_reducible(refine brr ?_ ?_<;>intro h)));all_goals try(conv=>whnf)
    refine tellV [] [(2, .ptr 0 0 0), (3, .ptr 1 0 0), (4, .ptr 2 0 0), (6, .int .i64 r.index), (7, .ptr 3 0 0), (8, .ptr 4 0 0), (9, .ptr 5 0 0), (10, .bool lw), (11, .ptr 6 0 0), (12, .bool up), (13, .bool on)] [(0, ⟨[encScp S], 12, true⟩), (1, ⟨[encRow r], 4, true⟩), (2, ⟨[.agg [.nilsl, .bool false, .nilsl, .nilsl]], 4, true⟩), (3, ⟨[encF v], 4, true⟩), (4, ⟨[encF p], 4, true⟩), (5, ⟨[encRat L], 3, true⟩), (6, ⟨[encRat U], 3, true⟩)] [] 7 (by decide) (by simp) trivial ⟨[0, 1, 2, 3, 4, 5, 6], [], [], [], ttt, ⟨apx, apx, apx, zAC rfl rfl, apx, apx, apx, zAG rfl rfl, apx, zAG rfl rfl, zAG rfl (by rw [← hon]; unfold onP; rw [Bool.eq_iff_iff]; clear sl su cd1 cd2 hL hU hlw hup hvv hp hD1 hD2 cv cl cu cnl cnu c6 c8 c9 c10 c11 c12 hpu; simp_all), trivial⟩, ⟨bbx, bbx, bbx, bbx, bbx, bbx, bbx, trivial⟩, by simp [ren]⟩ ?_; exact H9
   ·refine tellV [] [(2, .ptr 0 0 0), (3, .ptr 1 0 0), (4, .ptr 2 0 0), (6, .int .i64 r.index), (7, .ptr 3 0 0), (8, .ptr 4 0 0), (9, .ptr 5 0 0), (10, .bool lw), (11, .ptr 6 0 0), (12, .bool up), (13, .bool on)] [(0, ⟨[encScp S], 12, true⟩), (1, ⟨[encRow r], 4, true⟩), (2, ⟨[.agg [.nilsl, .bool false, .nilsl, .nilsl]], 4, true⟩), (3, ⟨[encF v], 4, true⟩), (4, ⟨[encF p], 4, true⟩), (5, ⟨[encRat L], 3, true⟩), (6, ⟨[encRat U], 3, true⟩)] [] 7 (by decide) (by simp) trivial ⟨[0, 1, 2, 3, 4, 5, 6], [], [], [], ttt, ⟨apx, apx, apx, zAC rfl rfl, apx, apx, apx, zAG rfl rfl, apx, zAG rfl rfl, zAG rfl (by rw [← hon]; unfold onP; rw [Bool.eq_iff_iff]; clear sl su cd1 cd2 hL hU hlw hup hvv hp hD1 hD2 cv cl cu cnl cnu c6 c8 c9 c10 c11 c12 hpu; simp_all), trivial⟩, ⟨bbx, bbx, bbx, bbx, bbx, bbx, bbx, trivial⟩, by simp [ren]⟩ ?_; exact H9
  ·refine zAA sl rfl ?_
   (repeat' (first|refine stu ?_|with_reducible(refine brr ?_ ?_<;>intro h)));all_goals try(conv=>whnf)
   refine tellV [] [(2, .ptr 0 0 0), (3, .ptr 1 0 0), (4, .ptr 2 0 0), (6, .int .i64 r.index), (7, .ptr 3 0 0), (8, .ptr 4 0 0), (9, .ptr 5 0 0), (10, .bool lw), (11, .ptr 6 0 0), (12, .bool up), (13, .bool on)] [(0, ⟨[encScp S], 12, true⟩), (1, ⟨[encRow r], 4, true⟩), (2, ⟨[.agg [.nilsl, .bool false, .nilsl, .nilsl]], 4, true⟩), (3, ⟨[encF v], 4, true⟩), (4, ⟨[encF p], 4, true⟩), (5, ⟨[encRat L], 3, true⟩), (6, ⟨[encRat U], 3, true⟩)] [] 7 (by decide) (by simp) trivial ⟨[0, 1, 2, 3, 4, 5, 6], [], [], [], ttt, ⟨apx, apx, apx, zAC rfl rfl, apx, apx, apx, zAG rfl rfl, apx, zAG rfl rfl, zAG rfl (by rw [← hon]; unfold onP; rw [Bool.eq_iff_iff]; clear sl su cd1 cd2 hL hU hlw hup hvv hp hD1 hD2 cv cl cu cnl cnu c6 c8 c9 c10 c11 c12 hpu; simp_all), trivial⟩, ⟨bbx, bbx, bbx, bbx, bbx, bbx, bbx, trivial⟩, by simp [ren]⟩ ?_; exact H9
  ·refine tellV [] [(2, .ptr 0 0 0), (3, .ptr 1 0 0), (4, .ptr 2 0 0), (6, .int .i64 r.index), (7, .ptr 3 0 0), (8, .ptr 4 0 0), (9, .ptr 5 0 0), (10, .bool lw), (11, .ptr 6 0 0), (12, .bool up), (13, .bool on)] [(0, ⟨[encScp S], 12, true⟩), (1, ⟨[encRow r], 4, true⟩), (2, ⟨[.agg [.nilsl, .bool false, .nilsl, .nilsl]], 4, true⟩), (3, ⟨[encF v], 4, true⟩), (4, ⟨[encF p], 4, true⟩), (5, ⟨[encRat L], 3, true⟩), (6, ⟨[encRat U], 3, true⟩)] [] 7 (by decide) (by simp) trivial ⟨[0, 1, 2, 3, 4, 5, 6], [], [], [], ttt, ⟨apx, apx, apx, zAC rfl rfl, apx, apx, apx, zAG rfl rfl, apx, zAG rfl rfl, zAG rfl (by rw [← hon]; unfold onP; rw [Bool.eq_iff_iff]; clear sl su cd1 cd2 hL hU hlw hup hvv hp hD1 hD2 cv cl cu cnl cnu c6 c8 c9 c10 c11 c12 hpu; simp_all), trivial⟩, ⟨bbx, bbx, bbx, bbx, bbx, bbx, bbx, trivial⟩, by simp [ren]⟩ ?_; exact H9
  ·refine tellV [] [(2, .ptr 0 0 0), (3, .ptr 1 0 0), (4, .ptr 2 0 0), (6, .int .i64 r.index), (7, .ptr 3 0 0), (8, .ptr 4 0 0), (9, .ptr 5 0 0), (10, .bool lw), (11, .ptr 6 0 0), (12, .bool up), (13, .bool on)] [(0, ⟨[encScp S], 12, true⟩), (1, ⟨[encRow r], 4, true⟩), (2, ⟨[.agg [.nilsl, .bool false, .nilsl, .nilsl]], 4, true⟩), (3, ⟨[encF v], 4, true⟩), (4, ⟨[encF p], 4, true⟩), (5, ⟨[encRat L], 3, true⟩), (6, ⟨[encRat U], 3, true⟩)] [] 7 (by decide) (by simp) trivial ⟨[0, 1, 2, 3, 4, 5, 6], [], [], [], ttt, ⟨apx, apx, apx, zAC rfl rfl, apx, apx, apx, zAG rfl rfl, apx, zAG rfl rfl, zAG rfl (by rw [← hon]; unfold onP; rw [Bool.eq_iff_iff]; clear sl su cd1 cd2 hL hU hlw hup hvv hp hD1 hD2 cv cl cu cnl cnu c6 c8 c9 c10 c11 c12 hpu; simp_all), trivial⟩, ⟨bbx, bbx, bbx, bbx, bbx, bbx, bbx, trivial⟩, by simp [ren]⟩ ?_; exact H9
 refine r_cut ⟨sv [(2, .ptr 0 0 0), (3, .ptr 1 0 0), (4, .ptr 2 0 0), (6, .int .i64 r.index), (7, .ptr 3 0 0), (8, .ptr 4 0 0), (9, .ptr 5 0 0), (10, .bool lw), (11, .ptr 6 0 0), (12, .bool up), (13, .bool on), (14, .bool off)], hv [(0, ⟨[encScp S], 12, true⟩), (1, ⟨[encRow r], 4, true⟩), (2, ⟨[.agg [.nilsl, .bool false, .nilsl, .nilsl]], 4, true⟩), (3, ⟨[encF v], 4, true⟩), (4, ⟨[encF p], 4, true⟩), (5, ⟨[encRat L], 3, true⟩), (6, ⟨[encRat U], 3, true⟩)], zv [], 7⟩ ?_ fun H10 => ?_
 rotate_left
 ·(repeat' (first|refine stu ?_|with_reducible(refine brr ?_ ?_<;>intro h)));all_goals try(conv=>whnf)
  ·refine zAA cd2 rfl ?_
   (repeat' (first|refine stu ?_|with_reducible(refine brr ?_ ?_<;>intro h)));all_goals try(conv=>whnf)
   ·refine tellV [] [(2, .ptr 0 0 0), (3, .ptr 1 0 0), (4, .ptr 2 0 0), (6, .int .i64 r.index), (7, .ptr 3 0 0), (8, .ptr 4 0 0), (9, .ptr 5 0 0), (10, .bool lw), (11, .ptr 6 0 0), (12, .bool up), (13, .bool on), (14, .bool off)] [(0, ⟨[encScp S], 12, true⟩), (1, ⟨[encRow r], 4, true⟩), (2, ⟨[.agg [.nilsl, .bool false, .nilsl, .nilsl]], 4, true⟩), (3, ⟨[encF v], 4, true⟩), (4, ⟨[encF p], 4, true⟩), (5, ⟨[encRat L], 3, true⟩), (6, ⟨[encRat U], 3, true⟩)] [] 7 (by decide) (by simp) trivial ⟨[0, 1, 2, 3, 4, 5, 6], [], [], [], ttt, ⟨apx, apx, apx, zAC rfl rfl, apx, apx, apx, zAG rfl rfl, apx, zAG rfl rfl, zAG rfl rfl, zAG rfl (by rw [← hoff]; unfold offP; rw [Bool.eq_iff_iff]; clear sl su cd1 cd2 hL hU hlw hup hvv hp hD1 hD2 cv cl cu cnl cnu c6 c8 c9 c10 c11 c12 hpu; simp_all), trivial⟩, ⟨bbx, bbx, bbx, bbx, bbx, bbx, bbx, trivial⟩, by simp [ren]⟩ ?_; exact H10
   ·refine zAA su rfl ?_
    (repeat' (first|refine stu ?_|with_reducible(refine brr ?_ ?_<;>intro h)));all_goals try(conv=>whnf)
    refine tellV [] [(2, .ptr 0 0 0), (3, .ptr 1 0 0), (4, .ptr 2 0 0), (6, .int .i64 r.index), (7, .ptr 3 0 0), (8, .ptr 4 0 0), (9, .ptr 5 0 0), (10, .bool lw), (11, .ptr 6 0 0), (12, .bool up), (13, .bool on), (14, .bool off)] [(0, ⟨[encScp S], 12, true⟩), (1, ⟨[encRow r], 4, true⟩), (2, ⟨[.agg [.nilsl, .bool false, .nilsl, .nilsl]], 4, true⟩), (3, ⟨[encF v], 4, true⟩), (4, ⟨[encF p], 4, true⟩), (5, ⟨[encRat L], 3, true⟩), (6, ⟨[encRat U], 3, true⟩)] [] 7 (by decide) (by simp) trivial ⟨[0, 1, 2, 3, 4, 5, 6], [], [], [], ttt, ⟨apx, apx, apx, zAC rfl rfl, apx, apx, apx, zAG rfl rfl, apx, zAG rfl rfl, zAG rfl rfl, zAG rfl (by rw [← hoff]; unfold offP; rw [Bool.eq_iff_iff]; clear sl su cd1 cd2 hL hU hlw hup hvv hp hD1 hD2 cv cl cu cnl cnu c6 c8 c9 c10 c11 c12 hpu; simp_all), trivial⟩, ⟨bbx, bbx, bbx, bbx, bbx, bbx, bbx, trivial⟩, by simp [ren]⟩ ?_; exact H10
   ·refine tellV [] [(2, .ptr 0 0 0), (3, .ptr 1 0 0), (4, .ptr 2 0 0), (6, .int .i64 r.index), (7, .ptr 3 0 0), (8, .ptr 4 0 0), (9, .ptr 5 0 0), (10, .bool lw), (11, .ptr 6 0 0), (12, .bool up), (13, .bool on), (14, .bool off)] [(0, ⟨[encScp S], 12, true⟩), (1, ⟨[encRow r], 4, true⟩), (2, ⟨[.agg [.nilsl, .bool false, .nilsl, .nilsl]], 4, true⟩), (3, ⟨[encF v], 4, true⟩), (4, ⟨[encF p], 4, true⟩), (5, ⟨[encRat L], 3, true⟩), (6, ⟨[encRat U], 3, true⟩)] [] 7 (by decide) (by simp) trivial ⟨[0, 1, 2, 3, 4, 5, 6], [], [], [], ttt, ⟨apx, apx, apx, zAC rfl rfl, apx, apx, apx, zAG rfl rfl, apx, zAG rfl rfl, zAG rfl rfl, zAG rfl (by rw [← hoff]; unfold offP; rw [Bool.eq_iff_iff]; clear sl su cd1 cd2 hL hU hlw hup hvv hp hD1 hD2 cv cl cu cnl cnu c6 c8 c9 c10 c11 c12 hpu; simp_all), trivial⟩, ⟨bbx, bbx, bbx, bbx, bbx, bbx, bbx, trivial⟩, by simp [ren]⟩ ?_; exact H10
  ·refine zAA su rfl ?_
   (repeat' (first|refine stu ?_|with_reducible(refine brr ?_ ?_<;>intro h)));all_goals try(conv=>whnf)
   refine tellV [] [(2, .ptr 0 0 0), (3, .ptr 1 0 0), (4, .ptr 2 0 0), (6, .int .i64 r.index), (7, .ptr 3 0 0), (8, .ptr 4 0 0), (9, .ptr 5 0 0), (10, .bool lw), (11, .ptr 6 0 0), (12, .bool up), (13, .bool on), (14, .bool off)] [(0, ⟨[encScp S], 12, true⟩), (1, ⟨[encRow r], 4, true⟩), (2, ⟨[.agg [.nilsl, .bool false, .nilsl, .nilsl]], 4, true⟩), (3, ⟨[encF v], 4, true⟩), (4, ⟨[encF p], 4, true⟩), (5, ⟨[encRat L], 3, true⟩), (6, ⟨[encRat U], 3, true⟩)] [] 7 (by decide) (by simp) trivial ⟨[0, 1, 2, 3, 4, 5, 6], [], [], [], ttt, ⟨apx, apx, apx, zAC rfl rfl, apx, apx, apx, zAG rfl rfl, apx, zAG rfl rfl, zAG rfl rfl, zAG rfl (by rw [← hoff]; unfold offP; rw [Bool.eq_iff_iff]; clear sl su cd1 cd2 hL hU hlw hup hvv hp hD1 hD2 cv cl cu cnl cnu c6 c8 c9 c10 c11 c12 hpu; simp_all), trivial⟩, ⟨bbx, bbx, bbx, bbx, bbx, bbx, bbx, trivial⟩, by simp [ren]⟩ ?_; exact H10
  ·refine tellV [] [(2, .ptr 0 0 0), (3, .ptr 1 0 0), (4, .ptr 2 0 0), (6, .int .i64 r.index), (7, .ptr 3 0 0), (8, .ptr 4 0 0), (9, .ptr 5 0 0), (10, .bool lw), (11, .ptr 6 0 0), (12, .bool up), (13, .bool on), (14, .bool off)] [(0, ⟨[encScp S], 12, true⟩), (1, ⟨[encRow r], 4, true⟩), (2, ⟨[.agg [.nilsl, .bool false, .nilsl, .nilsl]], 4, true⟩), (3, ⟨[encF v], 4, true⟩), (4, ⟨[encF p], 4, true⟩), (5, ⟨[encRat L], 3, true⟩), (6, ⟨[encRat U], 3, true⟩)] [] 7 (by decide) (by simp) trivial ⟨[0, 1, 2, 3, 4, 5, 6], [], [], [], ttt, ⟨apx, apx, apx, zAC rfl rfl, apx, apx, apx, zAG rfl rfl, apx, zAG rfl rfl, zAG rfl rfl, zAG rfl (by rw [← hoff]; unfold offP; rw [Bool.eq_iff_iff]; clear sl su cd1 cd2 hL hU hlw hup hvv hp hD1 hD2 cv cl cu cnl cnu c6 c8 c9 c10 c11 c12 hpu; simp_all), trivial⟩, ⟨bbx, bbx, bbx, bbx, bbx, bbx, bbx, trivial⟩, by simp [ren]⟩ ?_; exact H10
  ·refine tellV [] [(2, .ptr 0 0 0), (3, .ptr 1 0 0), (4, .ptr 2 0 0), (6, .int .i64 r.index), (7, .ptr 3 0 0), (8, .ptr 4 0 0), (9, .ptr 5 0 0), (10, .bool lw), (11, .ptr 6 0 0), (12, .bool up), (13, .bool on), (14, .bool off)] [(0, ⟨[encScp S], 12, true⟩), (1, ⟨[encRow r], 4, true⟩), (2, ⟨[.agg [.nilsl, .bool false, .nilsl, .nilsl]], 4, true⟩), (3, ⟨[encF v], 4, true⟩), (4, ⟨[encF p], 4, true⟩), (5, ⟨[encRat L], 3, true⟩), (6, ⟨[encRat U], 3, true⟩)] [] 7 (by decide) (by simp) trivial ⟨[0, 1, 2, 3, 4, 5, 6], [], [], [], ttt, ⟨apx, apx, apx, zAC rfl rfl, apx, apx, apx, zAG rfl rfl, apx, zAG rfl rfl, zAG rfl rfl, zAG rfl (by rw [← hoff]; unfold offP; rw [Bool.eq_iff_iff]; clear sl su cd1 cd2 hL hU hlw hup hvv hp hD1 hD2 cv cl cu cnl cnu c6 c8 c9 c10 c11 c12 hpu; simp_all), trivial⟩, ⟨bbx, bbx, bbx, bbx, bbx, bbx, bbx, trivial⟩, by simp [ren]⟩ ?_; exact H10
 refine r_cut ⟨sv [(2, .ptr 0 0 0), (3, .ptr 1 0 0), (4, .ptr 2 0 0), (6, .int .i64 r.index), (7, .ptr 3 0 0), (8, .ptr 4 0 0), (9, .ptr 5 0 0), (10, .bool lw), (11, .ptr 6 0 0), (12, .bool up), (13, .bool on), (14, .bool off), (15, .bool pl)], hv [(0, ⟨[encScp S], 12, true⟩), (1, ⟨[encRow r], 4, true⟩), (2, ⟨[.agg [.nilsl, .bool false, .nilsl, .nilsl]], 4, true⟩), (3, ⟨[encF v], 4, true⟩), (4, ⟨[encF p], 4, true⟩), (5, ⟨[encRat L], 3, true⟩), (6, ⟨[encRat U], 3, true⟩)], zv [], 7⟩ ?_ fun H11 => ?_
 rotate_left
 ·(repeat' (first|refine stu ?_|with_reducible(refine brr ?_ ?_<;>intro h)));all_goals try(conv=>whnf)
  all_goals (refine tellV [] [(2, .ptr 0 0 0), (3, .ptr 1 0 0), (4, .ptr 2 0 0), (6, .int .i64 r.index), (7, .ptr 3 0 0), (8, .ptr 4 0 0), (9, .ptr 5 0 0), (10, .bool lw), (11, .ptr 6 0 0), (12, .bool up), (13, .bool on), (14, .bool off), (15, .bool pl)] [(0, ⟨[encScp S], 12, true⟩), (1, ⟨[encRow r], 4, true⟩), (2, ⟨[.agg [.nilsl, .bool false, .nilsl, .nilsl]], 4, true⟩), (3, ⟨[encF v], 4, true⟩), (4, ⟨[encF p], 4, true⟩), (5, ⟨[encRat L], 3, true⟩), (6, ⟨[encRat U], 3, true⟩)] [] 7 (by decide) (by simp) trivial ⟨[0, 1, 2, 3, 4, 5, 6], [], [], [], ttt, ⟨apx, apx, apx, zAC rfl rfl, apx, apx, apx, zAG rfl rfl, apx, zAG rfl rfl, zAG rfl rfl, zAG rfl rfl, zAG rfl (by rw [← hpl]; unfold plainP; rw [Bool.eq_iff_iff]; clear sl su cd1 cd2 hL hU hlw hup hvv hp hD1 hD2 cv cl cu cnl cnu c6 c8 c9 c10 c11 c12 hpu; simp_all), trivial⟩, ⟨bbx, bbx, bbx, bbx, bbx, bbx, bbx, trivial⟩, by simp [ren]⟩ ?_; exact H11)
 clear cd1 cd2 hon hoff hpl
 (repeat' (first|refine stp ?_|with_reducible(refine brr ?_ ?_<;>intro h)));all_goals try(conv=>whnf)
 ·have e : frmK r v p L U lw up on off pl = (v, pl) := by unfold frmK; (repeat rw [if_neg (by omega)]); rw [if_pos (by omega)]
  exact zAB rfl (by rw [e]; rfl)
 ·have e : frmK r v p L U lw up on off pl = (subQ v p, pl) := by unfold frmK; (repeat rw [if_neg (by omega)]); rw [if_pos (by omega)]
  refine zAA c6 rfl ?_
  (repeat' (first|refine stp ?_|with_reducible(refine brr ?_ ?_<;>intro h)));all_goals try(conv=>whnf)
  exact zAB rfl (by rw [e]; rfl)
 ·have e : frmK r v p L U lw up on off pl = (p, on) := by unfold frmK; (repeat rw [if_neg (by omega)]); rw [if_pos (by omega)]
  exact zAB rfl (by rw [e]; rfl)
 ·have e : frmK r v p L U lw up on off pl = (subQ p v, on) := by unfold frmK; (repeat rw [if_neg (by omega)]); rw [if_pos (by omega)]
  refine zAA c8 rfl ?_
  (repeat' (first|refine stp ?_|with_reducible(refine brr ?_ ?_<;>intro h)));all_goals try(conv=>whnf)
  exact zAB rfl (by rw [e]; rfl)
 ·have e : frmK r v p L U lw up on off pl = (sclQ p (-1), off) := by unfold frmK; (repeat rw [if_neg (by omega)]); rw [if_pos (by omega)]
  refine zAA c9 rfl ?_
  (repeat' (first|refine stp ?_|with_reducible(refine brr ?_ ?_<;>intro h)));all_goals try(conv=>whnf)
  exact zAB rfl (by rw [e]; rfl)
 ·have e : frmK r v p L U lw up on off pl = (sclQ v (-1), off) := by unfold frmK; (repeat rw [if_neg (by omega)]); rw [if_pos (by omega)]
  refine zAA c10 rfl ?_
  (repeat' (first|refine stp ?_|with_reducible(refine brr ?_ ?_<;>intro h)));all_goals try(conv=>whnf)
  exact zAB rfl (by rw [e]; rfl)
 ·have e : frmK r v p L U lw up on off pl = (subQ p (numQ' (qv L)), lw && decide (r.hi = 0)) := by unfold frmK; (repeat rw [if_neg (by omega)]); rw [if_pos (by omega)]
  refine zAA cnl rfl ?_
  (repeat' (first|refine stp ?_|with_reducible(refine brr ?_ ?_<;>intro h)));all_goals try(conv=>whnf)
  refine zAA c11 rfl ?_
  (repeat' (first|refine stp ?_|with_reducible(refine brr ?_ ?_<;>intro h)));all_goals try(conv=>whnf)
  ·have hb : (lw && decide (r.hi = 0)) = (r.hi == 0) := by rw [show lw = true by assumption, Bool.true_and, Bool.eq_iff_iff]; simp
   exact zAB rfl (by rw [e, hb]; rfl)
  ·have hb : (lw && decide (r.hi = 0)) = false := by rw [show lw = false by assumption, Bool.false_and]
   exact zAB rfl (by rw [e, hb]; rfl)
 ·have e : frmK r v p L U lw up on off pl = (subQ (numQ' (qv U)) p, up && decide (r.lo = 0)) := by unfold frmK; (repeat rw [if_neg (by omega)]); rw [if_pos (by omega)]
  refine zAA cnu rfl ?_
  (repeat' (first|refine stp ?_|with_reducible(refine brr ?_ ?_<;>intro h)));all_goals try(conv=>whnf)
  refine zAA c12 rfl ?_
  (repeat' (first|refine stp ?_|with_reducible(refine brr ?_ ?_<;>intro h)));all_goals try(conv=>whnf)
  ·have hb : (up && decide (r.lo = 0)) = (r.lo == 0) := by rw [show up = true by assumption, Bool.true_and, Bool.eq_iff_iff]; simp
   exact zAB rfl (by rw [e, hb]; rfl)
  ·have hb : (up && decide (r.lo = 0)) = false := by rw [show up = false by assumption, Bool.false_and]
   exact zAB rfl (by rw [e, hb]; rfl)
 ·have hlw1 : lw = true := by assumption
  have hup1 : up = true := by assumption
  refine zAA sl rfl ?_
  (repeat' (first|refine stp ?_|with_reducible(refine brr ?_ ?_<;>intro h)));all_goals try(conv=>whnf)
  ·have e : frmK r v p L U lw up on off pl = (zeroQ, false) := by unfold frmK; repeat rw [if_neg (by omega)]
   exact zAB rfl (by rw [e, ← zA4])
  ·refine zAA su rfl ?_
   (repeat' (first|refine stp ?_|with_reducible(refine brr ?_ ?_<;>intro h)));all_goals try(conv=>whnf)
   ·have e : frmK r v p L U lw up on off pl = (zeroQ, false) := by unfold frmK; repeat rw [if_neg (by omega)]
    exact zAB rfl (by rw [e, ← zA4])
   ·have e : frmK r v p L U lw up on off pl = (triQ v p (qv L) (qv U), true) := by unfold frmK; (repeat rw [if_neg (by omega)]); rw [if_pos ⟨by omega, hlw1, hup1, by omega, by omega⟩]
    have z1 : szF (P + V + 3) (subQ p (numQ' (qv L))) := zED szp (zDE szL) (by omega);have q1 := zHN (subQ p (numQ' (qv L))) (qv U) _ _ z1 szU (by omega) (Nat.le_trans zHD lp);rw [hUc] at q1;have q2 := c_qsub U L hUk.1 hLk.1 (by have := hUk.2; omega) (by have := hUk.2; omega) (by have := hLk.2; omega) (by have := hLk.2; omega);have z2 : sz (2 * V + 4) (qv U - qv L) := zC9 (by omega) (sz_sub szU szL);have q3 := zHN v (qv U - qv L) _ _ szv z2 (by omega) (by omega);have z3 : szF (P + 2 * V + 8) (sclQ (subQ p (numQ' (qv L))) (qv U)) := zF0 z1 szU (by omega);have z4 : szF (2 * V + 8) (sclQ v (qv U - qv L)) := zF0 szv z2 (by omega);have q4 := zFE (sclQ (subQ p (numQ' (qv L))) (qv U)) (sclQ v (qv U - qv L)) _ _ z3 z4 (by omega) (Nat.le_trans zHW (Nat.le_trans zHD lp)) (Nat.le_trans zHW (by omega));refine zAA cnl rfl ?_
    (repeat' (first|refine stp ?_|with_reducible(refine brr ?_ ?_<;>intro h)));all_goals try(conv=>whnf)
    refine zAA c11 rfl ?_
    (repeat' (first|refine stp ?_|with_reducible(refine brr ?_ ?_<;>intro h)));all_goals try(conv=>whnf)
    refine zAA q1 rfl ?_
    (repeat' (first|refine stp ?_|with_reducible(refine brr ?_ ?_<;>intro h)));all_goals try(conv=>whnf)
    refine zAA q2 rfl ?_
    (repeat' (first|refine stp ?_|with_reducible(refine brr ?_ ?_<;>intro h)));all_goals try(conv=>whnf)
    refine zAA q3 rfl ?_
    (repeat' (first|refine stp ?_|with_reducible(refine brr ?_ ?_<;>intro h)));all_goals try(conv=>whnf)
    refine zAA q4 rfl ?_
    (repeat' (first|refine stp ?_|with_reducible(refine brr ?_ ?_<;>intro h)));all_goals try(conv=>whnf)
    exact zAB rfl (by rw [e]; rfl)
 ·have e : frmK r v p L U lw up on off pl = (zeroQ, false) := by unfold frmK; (repeat rw [if_neg (by omega)]); rw [if_neg (fun q => by have := q.2.2.1; simp_all)]
  exact zAB rfl (by rw [e, ← zA4])
 ·have e : frmK r v p L U lw up on off pl = (zeroQ, false) := by unfold frmK; (repeat rw [if_neg (by omega)]); rw [if_neg (fun q => by have := q.2.1; simp_all)]
  exact zAB rfl (by rw [e, ← zA4])
 ·have e : frmK r v p L U lw up on off pl = (zeroQ, false) := by unfold frmK; repeat rw [if_neg (by omega)]
  exact zAB rfl (by rw [e, ← zA4])
end Go.PI.Tryz
namespace Go.PI.Tryz
open Go.Proofs Go.PI
theorem zJB {S : ScpL} {n j : Int} {up : Bool} (h : bndB S n j up = true) : bndO S n j up = some (qv (bndV S n)) := by
 unfold bndB at h;simp only [Bool.and_eq_true, decide_eq_true_eq] at h;unfold bndO bndV;rw [if_pos ⟨h.1.1, h.1.2, h.2.1, h.2.2⟩, if_pos h.1]
theorem zHO {S : ScpL} {n j : Int} {up : Bool} (h : bndB S n j up = false) : bndO S n j up = none := by
 unfold bndO;rw [if_neg]
 rintro ⟨h1, h2, h3, h4⟩
 unfold bndB at h;rw [decide_eq_true (show 1 ≤ n ∧ n ≤ S.lems.length from ⟨h1, h2⟩), decide_eq_true h3, decide_eq_true h4] at h;cases h
theorem ge_bnd {S : ScpL} {n j : Int} {up : Bool} : geO (bndO S n j up) = (bndB S n j up && decide (0 ≤ sgnQ (qv (bndV S n)))) := by
 cases h : bndB S n j up with
 | true => rw [zJB h]; simp only [geO, Bool.true_and]; exact decide_eq_decide.2 sgnQ_nn'.symm
 | false => rw [zHO h]; rfl
theorem le_bnd {S : ScpL} {n j : Int} {up : Bool} : leO (bndO S n j up) = (bndB S n j up && decide (sgnQ (qv (bndV S n)) ≤ 0)) := by
 cases h : bndB S n j up with
 | true =>
   rw [zJB h]; simp only [leO, Bool.true_and];refine decide_eq_decide.2 ?_;rw [← Int.not_lt, sgnQ_pos, Rat.not_lt]
 | false => rw [zHO h]; rfl
theorem frm_spec {S : ScpL} {r : RowL} (hk : 5 ≤ r.kind) (hi : 0 ≤ r.index ∧ r.index < S.q.g.units.length) : rowO S r =
 (if (frmK r (varQ (S.q.g.ins + r.index)) S.q.g.units[r.index.toNat]!.Q (bndV S r.lo) (bndV S r.hi) (bndB S r.lo r.index false) (bndB S r.hi r.index true) (onP r (bndV S r.lo) (bndB S r.lo r.index false) (decB S 1 r.index)) (offP r (bndV S r.hi) (bndB S r.hi r.index true) (decB S 2 r.index)) (plainP r)).2 = true
   then some (frmK r (varQ (S.q.g.ins + r.index)) S.q.g.units[r.index.toNat]!.Q (bndV S r.lo) (bndV S r.hi) (bndB S r.lo r.index false) (bndB S r.hi r.index true) (onP r (bndV S r.lo) (bndB S r.lo r.index false) (decB S 1 r.index)) (offP r (bndV S r.hi) (bndB S r.hi r.index true) (decB S 2 r.index)) (plainP r)).1 else none) := by
 have hon : onB S r = onP r (bndV S r.lo) (bndB S r.lo r.index false) (decB S 1 r.index) := by unfold onB onP; rw [ge_bnd]
 have hoff : offB S r = offP r (bndV S r.hi) (bndB S r.hi r.index true) (decB S 2 r.index) := by unfold offB offP; rw [le_bnd]
 have hpl : (r.lo = 0 ∧ r.hi = 0) ↔ plainP r = true := by unfold plainP; simp
 have bl : ∀ {g : QF} {b : Bool}, bndO S r.lo r.index false = (if bndB S r.lo r.index false = true then some (qv (bndV S r.lo)) else none) := by
  intro g b;cases h : bndB S r.lo r.index false with
  | true => rw [if_pos rfl, zJB h]
  | false => rw [if_neg (by decide), zHO h]
 have bu : bndO S r.hi r.index true = (if bndB S r.hi r.index true = true then some (qv (bndV S r.hi)) else none) := by
  cases h : bndB S r.hi r.index true with
  | true => rw [if_pos rfl, zJB h]
  | false => rw [if_neg (by decide), zHO h]
 unfold rowO unO;rw [if_neg (by omega), if_neg (by omega), hon, hoff, bl (g := zeroQ) (b := true), bu];generalize onP r (bndV S r.lo) (bndB S r.lo r.index false) (decB S 1 r.index) = on;generalize offP r (bndV S r.hi) (bndB S r.hi r.index true) (decB S 2 r.index) = off;generalize bndB S r.lo r.index false = lw;generalize bndB S r.hi r.index true = up;generalize bndV S r.lo = L;generalize bndV S r.hi = U;generalize varQ (S.q.g.ins + r.index) = v;generalize S.q.g.units[r.index.toNat]!.Q = p;unfold frmK;by_cases k5 : r.kind = 5
 ·rw [if_pos k5, if_pos k5]; simp only [hpl]
 rw [if_neg k5, if_neg k5];by_cases k6 : r.kind = 6
 ·rw [if_pos k6, if_pos k6]; simp only [hpl]
 rw [if_neg k6, if_neg k6];by_cases k7 : r.kind = 7
 ·rw [if_pos k7, if_pos k7]
 rw [if_neg k7, if_neg k7];by_cases k8 : r.kind = 8
 ·rw [if_pos k8, if_pos k8]
 rw [if_neg k8, if_neg k8];by_cases k9 : r.kind = 9
 ·rw [if_pos k9, if_pos k9]
 rw [if_neg k9, if_neg k9];by_cases k10 : r.kind = 10
 ·rw [if_pos k10, if_pos k10]
 rw [if_neg k10, if_neg k10];by_cases k11 : r.kind = 11
 ·rw [if_pos k11, if_pos k11]
  cases lw <;> simp
 rw [if_neg k11, if_neg k11];by_cases k12 : r.kind = 12
 ·rw [if_pos k12, if_pos k12]
  cases up <;> simp
 rw [if_neg k12, if_neg k12];by_cases k13 : r.kind = 13
 ·rw [if_pos k13]
  cases lw
  ·simp
  ·cases up
   ·simp
   ·simp only [if_true, k13, true_and]
    by_cases hc : sgnQ (qv L) < 0 ∧ 0 < sgnQ (qv U)
    ·rw [if_pos (show qv L < 0 ∧ 0 < qv U from ⟨sgnQ_neg.1 hc.1, sgnQ_pos.1 hc.2⟩), if_pos hc]; rfl
    ·rw [if_neg (show ¬ (qv L < 0 ∧ 0 < qv U) from fun e => hc ⟨sgnQ_neg.2 e.1, sgnQ_pos.2 e.2⟩), if_neg hc]; rfl
 ·have e13 : (if r.kind = 13 ∧ lw = true ∧ up = true ∧ sgnQ (qv L) < 0 ∧ 0 < sgnQ (qv U) then (triQ v p (qv L) (qv U), true) else (zeroQ, false)) = (zeroQ, false) := if_neg (fun e => k13 e.1)
  rw [if_neg k13, e13]; rfl
theorem ok_kform4 : FO 127 Tryz.f127 [.cell 4 34, .tmp 5] 206 := mkO Tryz.func127 Tryz.ntmps127 Tryz.results127
theorem c_kform (S : ScpL) (r : RowL) (P V : Nat) (hS : okScp S) (hz : szS S P V) : ∃ f b, ((b = true ∧ rowO S r = some f) ∨ (b = false ∧ rowO S r = none)) ∧ Fn 127 [encScp S, encRow r] (.data (.tup [encF f, .bool b])) := by
 have hnu := hS.1.1.2.1;by_cases hk : r.kind < 5
 ·have ci := c_kin S r P V hS hz
  refine ⟨(inO S r).getD zeroQ, (inO S r).isSome, ?_, ?_⟩
  ·unfold rowO
   rw [if_pos hk];cases inO S r with
   | none => exact Or.inr ⟨rfl, rfl⟩
   | some f => exact Or.inl ⟨rfl, rfl⟩
  ·generalize (inO S r).getD zeroQ = f at *
   generalize (inO S r).isSome = b at *
   refine zAJ hmix hT ok_kform4 (by simp [encScp, encRow]) ?_
   (repeat' (first|refine stp ?_|with_reducible(refine brr ?_ ?_<;>intro h)));all_goals try(conv=>whnf)
   all_goals try (exfalso; omega)
   refine zAA ci rfl ?_;refine sts ?_;exact zAB rfl rfl
 ·by_cases hi : 0 ≤ r.index ∧ r.index < S.q.g.units.length
  ·have c := c_kformU S r P V hS hz (by omega) hi _ _ _ _ _ _ _ _ _ _ _ rfl rfl rfl rfl rfl rfl rfl rfl rfl rfl rfl
   have e := frm_spec (S := S) (r := r) (by omega) hi;refine ⟨_, _, ?_, c⟩;rw [e];cases h : (frmK r (varQ (S.q.g.ins + r.index)) S.q.g.units[r.index.toNat]!.Q (bndV S r.lo) (bndV S r.hi) (bndB S r.lo r.index false) (bndB S r.hi r.index true) (onP r (bndV S r.lo) (bndB S r.lo r.index false) (decB S 1 r.index)) (offP r (bndV S r.hi) (bndB S r.hi r.index true) (decB S 2 r.index)) (plainP r)).2 with
   | true => exact Or.inl ⟨rfl, rfl⟩
   | false => exact Or.inr ⟨rfl, rfl⟩
  ·refine ⟨zeroQ, false, Or.inr ⟨rfl, ?_⟩, ?_⟩
   ·unfold rowO unO; rw [if_neg hk, if_pos (by omega)]
   ·refine zAJ hmix hT ok_kform4 (by simp [encScp, encRow]) ?_
    (repeat' (first|refine stp ?_|with_reducible(refine brr ?_ ?_<;>intro h)));all_goals try(conv=>whnf)
    all_goals try (exfalso; omega)
    all_goals exact zAB rfl (by rw [← zA4])
end Go.PI.Tryz
