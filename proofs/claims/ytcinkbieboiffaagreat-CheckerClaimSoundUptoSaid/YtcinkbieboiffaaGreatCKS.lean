/-
  The checker's Claim.
-/
import Derived.Test.YtcinkbieboiffaaGreatCGA
import Derived.Test.YtcinkbieboiffaaGreatCKA
import Derived.Test.YtcinkbieboiffaaGreatCPE
import Derived.Test.YtcinkbieboiffaaGreatCKB
import Derived.Test.YtcinkbieboiffaaGreatCHA
set_option linter.unusedVariables false
set_option linter.unusedSimpArgs false
set_option linter.unnecessarySimpa false
namespace Go.PI.Tryz
open Go.Proofs Go.PI
theorem zKV {h : Hp} {n : Nat} (f : QF) : frz h (n + 1) (encF f) = some (encF f, []) := by cases n <;> rfl
theorem zKY {f : AffL} {n : Int} (h : ValidF f n) : encF f.Q = encAff f := (zL3 h).symm
structure okC (k : Nat) (c : ClaL) : Prop where
 m : okQ k c.margin
 r : okFs k c.rows
theorem ok_cva1 : FO 137 Tryz.f137 [.tmp 3] 8 := mkO Tryz.func137 Tryz.ntmps137 Tryz.results137
theorem c_cva1 (f : AffL) (n : Int) (hf : okA 2147483596 f) : Fn 137 [encAff f, .cptr (.int .i64 n) 0] (.data (.bool (!validB f n))) := by
 have cc := zI9 f n hf;refine zAJ hmix hT ok_cva1 (by simp) ?_;refine sts ?_;refine zAA cc rfl ?_;refine sts ?_;exact zAB rfl rfl
theorem ok_cvalid : FO 109 Tryz.f109 [.tmp 4] 66 := mkO Tryz.func109 Tryz.ntmps109 Tryz.results109
theorem c_cvalid (c : ClaL) (n : Int) (hc : okC 950000000 c) : Fn 109 [encCla c, .int .i64 n] (.data (.bool (dB (VaC c n)))) := by
 obtain ⟨hm, hrl, hrw⟩ := hc;have no : ¬ VaC c n → false = dB (VaC c n) := zFA;have yes : VaC c n → true = dB (VaC c n) := fun h => (dB_true.2 h).symm
 have cc := zH3 c.rows (fun f => !validB f n) 137 (.int .i64 n) hrl (fun f hf => c_cva1 f n (zBE (by decide) (hrw f hf)));have c1 := zFO c.margin hm.1 (by have := hm.2; omega) (by have := hm.2; omega);have c2 := zFD c.margin hm.1 (by have := hm.2; omega)
 have hv : c.rows.any (fun f => !validB f n) = false ↔ ∀ j, j < c.rows.length → ValidF c.rows[j]! n := by
  rw [List.any_eq_false];constructor
  ·intro e j hj
   have := e _ (get_mem hj);exact validB_true.1 (by simpa using this)
  ·intro e f hf
   obtain ⟨j, hj, rfl⟩ := List.getElem_of_mem hf;have := validB_true.2 (e j hj);rw [getElem!_pos c.rows j hj] at this;simp [this]
 have hs : ¬ sgnQ (qv c.margin) < 0 ↔ 0 ≤ qv c.margin := by rw [sgnQ_neg]; exact Rat.not_lt
 refine zAJ hmix hT ok_cvalid (by simp [encCla]) ?_
 (repeat' (first|refine stp ?_|with_reducible(refine brr ?_ ?_<;>intro h)));all_goals try(conv=>whnf)
 ·exact zAB rfl (congrArg PV.bool (no fun e => by have := e.1.1; omega))
 ·exact zAB rfl (congrArg PV.bool (no fun e => by have := e.1.2; omega))
 refine zAA c1 rfl ?_
 (repeat' (first|refine stp ?_|with_reducible(refine brr ?_ ?_<;>intro h)));all_goals try(conv=>whnf)
 rotate_left
 ·exact zAB rfl (congrArg PV.bool (no fun e => absurd e.2.1 (by assumption)))
 have hcan : CanR c.margin := by assumption
 refine zAA c2 rfl ?_
 (repeat' (first|refine stp ?_|with_reducible(refine brr ?_ ?_<;>intro h)));all_goals try(conv=>whnf)
 ·exact zAB rfl (congrArg PV.bool (no fun e => (hs.2 e.2.2.1) (by assumption)))
 have hsg := hs.1 (by assumption)
 ·refine zAB rfl (congrArg PV.bool ?_)
  rw [Bool.eq_iff_iff, dB_true, beq_iff_eq, List.length_map];exact ⟨fun e => ⟨⟨by omega, by omega⟩, hcan, hsg, Or.inl ⟨by assumption, ⟨by omega, by omega⟩, by omega⟩⟩, fun e => by rcases e.2.2.2 with ⟨a, b, d⟩ | ⟨a, b, d, _⟩ <;> omega⟩
 ·exact zAB rfl (congrArg PV.bool (no fun e => by rcases e.2.2.2 with ⟨a, b, d⟩ | ⟨a, b, d, _⟩ <;> omega))
 ·exact zAB rfl (congrArg PV.bool (no fun e => by rcases e.2.2.2 with ⟨a, b, d⟩ | ⟨a, b, d, _⟩ <;> omega))
 ·have hsg := hs.1 (by assumption)
  refine zAA cc rfl ?_;refine sts ?_;refine zAB rfl (congrArg PV.bool ?_);rw [Bool.eq_iff_iff, dB_true, Bool.not_eq_true', hv]
  exact ⟨fun e => ⟨⟨by omega, by omega⟩, hcan, hsg, Or.inr ⟨by assumption, by assumption, ⟨by omega, by omega⟩, e⟩⟩, fun e => by
   rcases e.2.2.2 with ⟨a, b, d⟩ | ⟨a, b, d, g⟩
   ·omega
   ·exact g⟩
 ·exact zAB rfl (congrArg PV.bool (no fun e => by rcases e.2.2.2 with ⟨a, b, d⟩ | ⟨a, b, d, _⟩ <;> omega))
 ·exact zAB rfl (congrArg PV.bool (no fun e => by rcases e.2.2.2 with ⟨a, b, d⟩ | ⟨a, b, d, _⟩ <;> omega))
 ·exact zAB rfl (congrArg PV.bool (no fun e => by rcases e.2.2.2 with ⟨a, b, d⟩ | ⟨a, b, d, _⟩ <;> omega))
 ·exact zAB rfl (congrArg PV.bool (no fun e => by rcases e.2.2.2 with ⟨a, b, d⟩ | ⟨a, b, d, _⟩ <;> omega))
theorem ok_cvar : FO 110 Tryz.f110 [.cell 2 34] 8 := mkO Tryz.func110 Tryz.ntmps110 Tryz.results110
theorem c_cvar (v : Int) : Fn 110 [.int .i64 v] (.data (encF (varQ v))) := by
 have c1 := c_qof 1 (by decide);refine zAJ hmix hT ok_cvar (by simp) ?_;refine sts ?_;refine zAA c1 rfl ?_;refine sts ?_;exact zAB rfl (by unfold encF varQ; rw [zJX]; rfl)
theorem ok_cgoals : FO 71 Tryz.f71 [.tmp 4, .tmp 5] 56 := mkO Tryz.func71 Tryz.ntmps71 Tryz.results71
theorem c_cgoalsN (c : ClaL) (m : Nat) (hc : okC 950000000 c) (hv : ¬ VaC c m) : Fn 71 [encCla c, .int .i64 m] (.data (.tup [.imm [], .int .i64 1])) := by
 have cv := c_cvalid c m hc;rw [dB_false.2 hv] at cv;refine zAJ hmix hT ok_cgoals (by simp [encCla]) ?_;refine sts ?_;refine zAA cv rfl ?_;refine sts ?_;exact zAB rfl rfl
theorem c_cgoals (c : ClaL) (m k : Nat) (hc : okC k c) (hk : k ≤ 400000000) (hk1 : 1 ≤ k) (hv : VaC c m) : Fn 71 [encCla c, .int .i64 m] (.data (.tup [.imm ((goalsC c m).map encF), .int .i64 0])) := by
 have cv := c_cvalid c m ⟨zBU (by omega) hc.m, ⟨hc.r.1, fun f hf => zBE (by omega) (hc.r.2 f hf)⟩⟩;rw [dB_true.2 hv] at cv;obtain ⟨⟨hm1, hm2⟩, hcan, hpos, hkind⟩ := id hv;have hrl := hc.r.1
 have hmg : encAff ⟨[], c.margin⟩ = encF (numQ' (qv c.margin)) := by
  rw [zG6];have : c.margin = cr (qv c.margin) := hcan;unfold numQ' QF.L;simp only [List.map_nil];rw [← this]
 have hms : szF k (numQ' (qv c.margin)) := ⟨zH8 hc.m.1 hc.m.2.1 hc.m.2.2 hk1, fun p hp => by cases hp⟩;refine zAJ hmix hT ok_cgoals (by simp [encCla]) ?_;refine sts ?_;refine zAA cv rfl ?_;refine sts ?_
 refine zDR hT [(.sl 7, 4, true)] (fun (i : Nat) => [(1, .int .i64 m), (2, .ptr 0 0 0), (6, .ptr 1 0 0), (7, .own 2 0 i), (19, .imm (c.rows.map encAff)), (20, .int .i64 c.rows.length), (21, .int .i64 i)])
  (fun i => [(0, ⟨[encCla c], 6, true⟩), (1, ⟨[.agg [.nilsl, .bool c.margin.neg, encN c.margin.num, encN c.margin.den]], 4, true⟩), (2, ⟨((c.rows.take i).map (rowGC c)).map encF, 4, true⟩)]) [] 3
  (fun i => i ≤ c.rows.length) (fun i => c.rows.length - i) 0 (Nat.zero_le _) (by decide) (by simp) ⟨rfl, trivial⟩ ?_ ?_
 ·exact ⟨[0, _, _], [], [], [], ttt, ⟨zAC rfl rfl, (apy rfl), (apy rfl), zAU (by decide) rfl rfl, zAD rfl rfl, zAC rfl (by simp), zAC rfl rfl, trivial⟩, ⟨bbx, bbx, zAE (by decide) rfl rfl (zAM fun x => ⟨rfl, by simp [encF]⟩) rfl, trivial⟩, by simp [ren]⟩
 intro i i1;have hlen : ((c.rows.take i).map (rowGC c)).length = i := by rw [List.length_map, List.length_take]; omega
 by_cases hi : i < c.rows.length
 ·have hrow := hc.r.2 _ (get_mem hi)
  have hval : ValidF c.rows[i]! m := by
   rcases hkind with ⟨_, _, e⟩ | ⟨_, _, _, e⟩
   ·omega
   ·exact e i hi
  have htl := hrow.2.2;have cs := zFE c.rows[i]!.Q (numQ' (qv c.margin)) k k (zCQ hrow hk1) hms (by omega) (by simpa [AffL.Q] using htl) (by simp [numQ']);rw [zKY hval, ← hmg] at cs
  have hsn : ((c.rows.take i).map (rowGC c)).map encF ++ [encF (rowGC c c.rows[i]!)] = ((c.rows.take (i + 1)).map (rowGC c)).map encF := by
   rw [List.take_succ_eq_append_getElem hi, List.map_append, List.map_append, getElem!_pos c.rows i hi]; rfl
  (repeat' (first|refine stp ?_|with_reducible(refine brr ?_ ?_<;>intro h)));all_goals try(conv=>whnf)
  all_goals try (exfalso; omega)
  refine zAA cs rfl ?_;refine sts ?_;exact ⟨i + 1, ⟨by omega, by show c.rows.length - (i + 1) < c.rows.length - i; omega⟩, [0, 1, _], [], [], [], ttt, ⟨zAC rfl rfl, (apy rfl), (apy rfl), zAU (by decide) rfl rfl, zAD rfl rfl, zAC rfl rfl, zAC rfl rfl, trivial⟩, ⟨bbx, bbx, zAE (by decide) rfl hsn (zAM fun x => ⟨rfl, by simp [encF]⟩) rfl, trivial⟩, by simp [ren]⟩
 ·obtain rfl : i = c.rows.length := by omega
  rw [List.take_length]
  (repeat' (first|refine stp ?_|with_reducible(refine brr ?_ ?_<;>intro h)));all_goals try(conv=>whnf)
  all_goals try (exfalso; omega)
  rotate_left
  ·have hg : goalsC c m = c.rows.map (rowGC c) := by unfold goalsC; rw [if_neg (by assumption), List.append_nil]
   rw [hg];exact zAB (zEK (zAF (zAN (f := encF) (l := c.rows.map (rowGC c)) rfl rfl (by simp) (fun x => zKV x)) (zAF rfl rfl))) rfl
  have hk1' : c.kind = 1 := by assumption
  obtain ⟨ht0, hr0⟩ : (0 ≤ c.target ∧ c.target < m) ∧ c.rows.length = 0 := by
   rcases hkind with ⟨_, e, e2⟩ | ⟨e, _⟩
   ·exact ⟨e, e2⟩
   ·omega
  have hrn : c.rows = [] := List.length_eq_zero_iff.1 hr0;have hg : goalsC c m = topL c m := by unfold goalsC; rw [if_pos hk1', hrn]; rfl
  have hone : ∀ v, szF 1 (varQ v) := fun v => ⟨zC9 (by decide) (zCL (z := 0) (by decide)), fun p hp => by rw [List.mem_singleton.1 hp]; exact zCL (z := 1) (by decide)⟩
  refine zAL hT (fun (j : Nat) => [(2, .ptr 0 0 0), (6, .ptr 1 0 0), (7, .own 2 0 (topL c j).length), (35, .int .i64 m), (36, .int .i64 j)])
   (fun j => [(0, ⟨[encCla c], 6, true⟩), (1, ⟨[.agg [.nilsl, .bool c.margin.neg, encN c.margin.num, encN c.margin.den]], 4, true⟩), (2, ⟨(topL c j).map encF, 4, true⟩)]) [] 3
   (fun j => j ≤ m) (fun j => m - j) 0 (Nat.zero_le _) (by decide) (by simp) ?_ ?_
  ·exact ⟨[0, 1, 2], [], [], [], ttt, ⟨apx, apx, zAU (by decide) rfl (by rw [hr0]; rfl), zAC rfl rfl, zAC rfl rfl, trivial⟩, ⟨bbx, bbx, zAE (by decide) rfl (by rw [hrn]; rfl) (zAM fun x => ⟨rfl, by simp [encF]⟩) rfl, trivial⟩, by simp [ren]⟩
  intro j j1;have htl := topL_len c j;by_cases hj : j < m
  ·have cv1 := c_cvar c.target
   have cv2 := c_cvar j;have cs1 := zFE (varQ c.target) (varQ j) 1 1 (hone _) (hone _) (by omega) (by simp [varQ]) (by simp [varQ]);have hl2 := zES (f := varQ c.target) (g := varQ j) (c := -1);have e2 : (varQ c.target).ts.length + (varQ j).ts.length = 2 := rfl;have cs2 := zFE (subQ (varQ c.target) (varQ j)) (numQ' (qv c.margin)) 4 k (zD3 (hone _) (hone _) (zCL (z := -1) (by decide)) (by omega)) hms (by omega) (by unfold subQ; omega) (by simp [numQ']);rw [← hmg] at cs2
   (repeat' (first|refine stp ?_|with_reducible(refine brr ?_ ?_<;>intro h)));all_goals try(conv=>whnf)
   all_goals try (exfalso; omega)
   ·have hne : (j : Int) ≠ c.target := by assumption
    have hsn : (topL c j).map encF ++ [encF (topG c j)] = (topL c (j + 1)).map encF := by rw [topL_in hne, List.map_append]; rfl
    have hln : (topL c j).length + 1 = (topL c (j + 1)).length := by rw [topL_in hne, List.length_append]; rfl
    refine zAA cv1 rfl ?_;refine sts ?_;refine zAA cv2 rfl ?_;refine sts ?_;refine zAA cs1 rfl ?_;refine sts ?_;refine zAA cs2 rfl ?_;refine sts ?_;exact ⟨j + 1, ⟨by omega, by show m - (j + 1) < m - j; omega⟩, [0, 1, _], [], [], [], ttt, ⟨(apy rfl), (apy rfl), zAU (by decide) rfl hln, zAC rfl rfl, zAC rfl rfl, trivial⟩, ⟨bbx, bbx, zAE (by decide) rfl hsn (zAM fun x => ⟨rfl, by simp [encF]⟩) rfl, trivial⟩, by simp [ren]⟩
   ·have heq : (j : Int) = c.target := by first | assumption | exact Decidable.not_not.1 (by assumption)
    have e := topL_out heq;exact ⟨j + 1, ⟨by omega, by show m - (j + 1) < m - j; omega⟩, [0, 1, 2], [], [], [], ttt, ⟨apx, apx, zAU (by decide) rfl (by rw [e]), zAC rfl rfl, zAC rfl rfl, trivial⟩, ⟨bbx, bbx, zAE (by decide) rfl (by rw [e]) (zAM fun x => ⟨rfl, by simp [encF]⟩) rfl, trivial⟩, by simp [ren]⟩
  ·obtain rfl : j = m := by omega
   (repeat' (first|refine stp ?_|with_reducible(refine brr ?_ ?_<;>intro h)));all_goals try(conv=>whnf)
   all_goals try (exfalso; omega)
   rw [hg];exact zAB (zEK (zAF (zAN (f := encF) (l := topL c j) rfl rfl (by simp) (fun x => zKV x)) (zAF rfl rfl))) rfl
end Go.PI.Tryz
namespace Go.PI.Tryz
open Go.Proofs Go.PI
def digV (d : Nat → Int) : List PV := [.int .u8 (d 0), .int .u8 (d 1), .int .u8 (d 2), .int .u8 (d 3), .int .u8 (d 4), .int .u8 (d 5), .int .u8 (d 6), .int .u8 (d 7), .int .u8 (d 8), .int .u8 (d 9), .int .u8 (d 10), .int .u8 (d 11), .int .u8 (d 12), .int .u8 (d 13), .int .u8 (d 14), .int .u8 (d 15), .int .u8 (d 16), .int .u8 (d 17), .int .u8 (d 18), .int .u8 (d 19), .int .u8 (d 20), .int .u8 (d 21), .int .u8 (d 22), .int .u8 (d 23), .int .u8 (d 24), .int .u8 (d 25), .int .u8 (d 26), .int .u8 (d 27), .int .u8 (d 28), .int .u8 (d 29), .int .u8 (d 30), .int .u8 (d 31)]
def encCert (d : Nat → Int) (ts : List NodeL) : PV := .agg (digV d ++ [.imm (ts.map encNode)])
def qG (g : GraL) (r : RegL) (f : QF) : QryL := ⟨g, r, (goalG g f).L⟩
theorem qG_V (g : GraL) (r : RegL) (f : QF) : encQry (qG g r f) = .agg [.int .i64 g.ins, .imm (g.units.map encAff), .imm (g.outs.map encAff), .imm (r.lo.map encRat), .imm (r.hi.map encRat), .imm (r.rows.map encAff), .imm ((goalG g f).ts.map encQ), .bool (cr (goalG g f).c).neg, encN (cr (goalG g f).c).num, encN (cr (goalG g f).c).den] := by
 have : (goalG g f).L.terms.map encTerm = (goalG g f).ts.map encQ := by unfold QF.L; simp only [List.map_map]; rfl
 rw [← this]; rfl
open Classical in
noncomputable def claimR (g : GraL) (r : RegL) (c : ClaL) (ts : List NodeL) : Int × Int :=
 if VaG g ∧ VaR r g.ins ∧ VaC c g.outs.length then
  (if ts.length = (goalsC c g.outs.length).length then
    (match (List.range ts.length).find? fun i => decide ((treeR (qG g r (goalsC c g.outs.length)[i]!) ts[i]!).2 ≠ 0) with
    | some i => ((i : Int), (treeR (qG g r (goalsC c g.outs.length)[i]!) ts[i]!).2)
    | none => (0, 0)) else (0, 11)) else (0, 1)
theorem find_at {p : Nat → Bool} {n i : Nat} (hi : i < n) (h : ∀ j, j < i → p j = false) (hp : p i = true) : (List.range n).find? p = some i := by
 rw [List.find?_range_eq_some];exact ⟨hp, by simpa using hi, fun j hj => by simp [h j hj]⟩
theorem find_not {p : Nat → Bool} {n : Nat} (h : ∀ j, j < n → p j = false) : (List.range n).find? p = none := by
 rw [List.find?_eq_none];intro x hx;rw [h x (List.mem_range.1 hx)]; decide
theorem claim_at {g : GraL} {r : RegL} {c : ClaL} {ts : List NodeL} {i : Nat} (hv : VaG g ∧ VaR r g.ins ∧ VaC c g.outs.length) (hl : ts.length = (goalsC c g.outs.length).length) (hi : i < ts.length) (h : ∀ j, j < i → (treeR (qG g r (goalsC c g.outs.length)[j]!) ts[j]!).2 = 0) (hp : (treeR (qG g r (goalsC c g.outs.length)[i]!) ts[i]!).2 ≠ 0) : claimR g r c ts = ((i : Int), (treeR (qG g r (goalsC c g.outs.length)[i]!) ts[i]!).2) := by
 have := find_at (p := fun i => decide ((treeR (qG g r (goalsC c g.outs.length)[i]!) ts[i]!).2 ≠ 0)) hi (fun j hj => decide_eq_false fun e => e (h j hj)) (decide_eq_true hp);unfold claimR;rw [if_pos hv, if_pos hl, this]
theorem claim_all {g : GraL} {r : RegL} {c : ClaL} {ts : List NodeL} (hv : VaG g ∧ VaR r g.ins ∧ VaC c g.outs.length) (hl : ts.length = (goalsC c g.outs.length).length) (h : ∀ j, j < ts.length → (treeR (qG g r (goalsC c g.outs.length)[j]!) ts[j]!).2 = 0) : claimR g r c ts = (0, 0) := by
 have := find_not (p := fun i => decide ((treeR (qG g r (goalsC c g.outs.length)[i]!) ts[i]!).2 ≠ 0)) (n := ts.length) (fun j hj => decide_eq_false fun e => e (h j hj));unfold claimR;rw [if_pos hv, if_pos hl, this]
theorem claim_mis {g : GraL} {r : RegL} {c : ClaL} {ts : List NodeL} (hv : VaG g ∧ VaR r g.ins ∧ VaC c g.outs.length) (hl : ¬ ts.length = (goalsC c g.outs.length).length) : claimR g r c ts = (0, 11) := by
 unfold claimR;rw [if_pos hv, if_neg hl]
theorem claim_bad {g : GraL} {r : RegL} {c : ClaL} {ts : List NodeL} (hv : ¬ (VaG g ∧ VaR r g.ins ∧ VaC c g.outs.length)) : claimR g r c ts = (0, 1) := by
 unfold claimR;rw [if_neg hv]
theorem ok_kclaim : FO 31 Tryz.f31 [.tmp 8, .tmp 9] 92 := mkO Tryz.func31 Tryz.ntmps31 Tryz.results31
theorem c_kclaim (g : GraL) (r : RegL) (c : ClaL) (d : Nat → Int) (ts : List NodeL) (k : Nat) (hg : okGra k g) (hr : okReg k r) (hc : okC k c) (hk : k ≤ 2000000) (hk1 : 1 ≤ k) (htl : ts.length ≤ 1048576)
 (hG : VaG g → VaC c g.outs.length → ∀ i, i < (goalsC c g.outs.length).length → (∀ j, j ≤ (goalsC c g.outs.length)[i]!.ts.length → szF 30000000 (goA g (goalsC c g.outs.length)[i]! j)) ∧ szF 30000000 (goalsC c g.outs.length)[i]!)
 (hTr : VaG g ∧ VaR r g.ins ∧ VaC c g.outs.length → ts.length = (goalsC c g.outs.length).length → ∀ i, i < ts.length → Fn 13 [encQry (qG g r (goalsC c g.outs.length)[i]!), nodeV ts[i]!] (.data (.tup [.imm ((treeR (qG g r (goalsC c g.outs.length)[i]!) ts[i]!).1.map encDec), .int .i64 (treeR (qG g r (goalsC c g.outs.length)[i]!) ts[i]!).2]))) :
 Fn 31 [encGra g, encReg r, encCla c, encCert d ts] (.data (.tup [.int .i64 (claimR g r c ts).1, .int .i64 (claimR g r c ts).2])) := by
 have c1 := c_gvalid g ⟨⟨hg.1.1, fun f hf => zBE (by omega) (hg.1.2 f hf)⟩, ⟨hg.2.1, fun f hf => zBE (by omega) (hg.2.2 f hf)⟩⟩;have c2 := c_rgvalid r g.ins (zEJ (by omega) hr);have hol := hg.2.1;by_cases hv : VaG g ∧ VaR r g.ins ∧ VaC c g.outs.length
 rotate_left
 ·rw [claim_bad hv]
  have cN := fun h => c_cgoalsN c g.outs.length ⟨zBU (by omega) hc.m, ⟨hc.r.1, fun f hf => zBE (by omega) (hc.r.2 f hf)⟩⟩ h
  refine zAJ hmix hT ok_kclaim (by simp [encGra, encReg, encCla, encCert]) ?_;refine sns ?_;refine zAA c1 rfl ?_
  (repeat' (first|refine stn ?_|(with_reducible refine brr ?_ ?_<;>intro h)|(with_reducible refine zAI ?_ ?_<;>intro h)|with_reducible refine zAW ?_ ?_)); all_goals try (conv=>whnf)
  rotate_left
  ·exact zAB rfl rfl
  refine zAA c2 rfl ?_
  (repeat' (first|refine stn ?_|(with_reducible refine brr ?_ ?_<;>intro h)|(with_reducible refine zAI ?_ ?_<;>intro h)|with_reducible refine zAW ?_ ?_)); all_goals try (conv=>whnf)
  rotate_left
  ·exact zAB rfl rfl
  rw [List.length_map];refine zAA (cN fun e => hv ⟨dB_true.1 (by assumption), dB_true.1 (by assumption), e⟩) rfl ?_;refine sns ?_;exact zAB rfl rfl
 obtain ⟨v1, v2, v3⟩ := id hv;rw [dB_true.2 v1] at c1;rw [dB_true.2 v2] at c2;have c3 := c_cgoals c g.outs.length k hc (by omega) hk1 v3;have hgl := zIX v3;have hgo := zHH v3;have hG := hG v1 v3;have hTr := hTr hv;have hcl := fun (i : Nat) (hl : ts.length = (goalsC c g.outs.length).length) (hi : i < ts.length) => claim_at (r := r) (ts := ts) (i := i) hv hl hi
 have hca := claim_all (r := r) (ts := ts) hv;have hcm := claim_mis (r := r) (ts := ts) hv;generalize goalsC c g.outs.length = gs at *
 refine zAJ hmix hT ok_kclaim (by simp [encGra, encReg, encCla, encCert]) ?_;refine sns ?_;refine zAA c1 rfl ?_;refine sns ?_;refine zAA c2 rfl ?_;refine sns ?_;rw [List.length_map];refine zAA c3 rfl ?_
 (repeat' (first|refine stn ?_|(with_reducible refine brr ?_ ?_<;>intro h)|(with_reducible refine zAI ?_ ?_<;>intro h)|with_reducible refine zAW ?_ ?_)); all_goals try (conv=>whnf)
 ·rw [hcm (by omega)]
  exact zAB rfl rfl
 have hl : ts.length = gs.length := by omega
 refine zAL hT (fun (i : Nat) => [(4, .ptr 0 0 0), (5, .ptr 1 0 0), (7, .ptr 2 0 0), (45, .imm (gs.map encF)), (46, .int .i64 gs.length), (47, .int .i64 i)])
  (fun _ => [(0, ⟨[encGra g], 3, true⟩), (1, ⟨[encReg r], 3, true⟩), (2, ⟨[encCert d ts], 33, true⟩)]) [] 3
  (fun i => i ≤ gs.length ∧ ∀ j, j < i → (treeR (qG g r gs[j]!) ts[j]!).2 = 0) (fun i => gs.length - i) 0 ⟨Nat.zero_le _, fun j h => by omega⟩ (by decide) (by simp) ?_ ?_
 ·exact ⟨[0, 1, 3], [], [], [], ttt, ⟨apx, apx, apx, zAD rfl rfl, zAC rfl (by simp), zAC rfl rfl, trivial⟩, ⟨bbx, bbx, bbx, trivial⟩, by simp [ren]⟩
 rintro i ⟨i1, i2⟩
 by_cases hi : i < gs.length
 ·obtain ⟨hG1, hG2⟩ := hG i hi
  have hok := hgo _ (get_mem hi);have ct := hTr hl i (by omega);have hat := hcl i hl (by omega) i2;have cn := zMJ (cr gs[i]!.c) 30000000 (zIN hG2.1) (by decide);rw [zBA] at cn
  have htl2 : gs[i]!.ts.length ≤ 256 := by
   have := zDP g.outs.length hok.1.1 (fun t ht => by have := hok.2 t ht; omega);have := v1.2.2.1.2;omega
  (repeat' (first|refine stn ?_|(with_reducible refine brr ?_ ?_<;>intro h)|(with_reducible refine zAI ?_ ?_<;>intro h)|with_reducible refine zAW ?_ ?_)); all_goals try (conv=>whnf)
  all_goals try (exfalso; omega)
  refine zAA cn rfl ?_;refine sns ?_
  refine zAL hT (fun (j : Nat) => [(4, .ptr 0 0 0), (5, .ptr 1 0 0), (7, .ptr 2 0 0), (12, .int .i64 i), (14, .ptr 3 0 0), (45, .imm (gs.map encF)), (46, .int .i64 gs.length), (47, .int .i64 i), (56, .imm (gs[i]!.ts.map encQ)), (57, .int .i64 gs[i]!.ts.length), (58, .int .i64 j)])
   (fun j => [(0, ⟨[encGra g], 3, true⟩), (1, ⟨[encReg r], 3, true⟩), (2, ⟨[encCert d ts], 33, true⟩), (3, ⟨[encF (goA g gs[i]! j)], 4, true⟩)]) [] 4
   (fun j => j ≤ gs[i]!.ts.length) (fun j => gs[i]!.ts.length - j) 0 (Nat.zero_le _) (by decide) (by simp) ?_ ?_
  ·exact ⟨[0, 1, 2, _], [], [], [], ttt, ⟨(apy rfl), (apy rfl), (apy rfl), zAC rfl rfl, (apy rfl), zAD rfl rfl, zAC rfl rfl, zAC rfl rfl, zAD rfl rfl, zAC rfl (by simp), zAC rfl rfl, trivial⟩, ⟨bbx, bbx, bbx, zJ1 (by decide) rfl (by rw [zIY]; rfl) rfl rfl rfl, trivial⟩, by simp [ren]⟩
  intro j j1;by_cases hj : j < gs[i]!.ts.length
  ·obtain ⟨o1, o2⟩ := out_ok v1 hok hj
   have hom := hg.2.2 _ (get_mem o1);have hcq : sz 30000000 gs[i]!.ts[j]!.2 := hG2.2 _ (get_mem hj);have hov := v1.2.2.2.2 _ o1
   have hol2 : g.outs[gs[i]!.ts[j]!.1.toNat]!.Q.ts.length ≤ 1280 := by
    have h1 := zDP (g.ins + g.units.length).toNat o2.1.1 (fun t ht => by have := o2.2 t ht; omega);have := v1.1; have := v1.2.1; omega
   have csc := zHN g.outs[gs[i]!.ts[j]!.1.toNat]!.Q gs[i]!.ts[j]!.2 k 30000000 (zCQ hom hk1) hcq (by omega) (by omega);rw [zKY hov] at csc;have hsl := zES (f := zeroQ) (g := g.outs[gs[i]!.ts[j]!.1.toNat]!.Q) (c := gs[i]!.ts[j]!.2);have hz0 : zeroQ.ts.length = 0 := rfl
   have hgal : (goA g gs[i]! j).ts.length ≤ 1280 := by
    have h0 := goA_ok v1 hok j j1;have h1 := zDP (g.ins + g.units.length).toNat h0.1.1 (fun t ht => by have := h0.2 t ht; omega);have := v1.1; have := v1.2.1; omega
   have cad := c_ladd (goA g gs[i]! j) (sclQ g.outs[gs[i]!.ts[j]!.1.toNat]!.Q gs[i]!.ts[j]!.2) 30000000 (1 + (k + 30000000) + 1) (hG1 j j1) (zD3 (zC4 1 (by decide)) (zCQ hom hk1) hcq (by omega)) (by omega) (by omega) (by unfold sclQ; omega);rw [← zIZ hj] at cad;have hidx : 0 ≤ gs[i]!.ts[j]!.1 := (hok.2 _ (get_mem hj)).1
   (repeat' (first|refine stn ?_|(with_reducible refine brr ?_ ?_<;>intro h)|(with_reducible refine zAI ?_ ?_<;>intro h)|with_reducible refine zAW ?_ ?_)); all_goals try (conv=>whnf)
   all_goals try (exfalso; omega)
   refine zA9 ⟨hidx, by rw [List.length_map]; show gs[i]!.ts[j]!.1 < _; omega⟩ ?_;refine sns ?_;refine zAY (j := gs[i]!.ts[j]!.1.toNat) (show gs[i]!.ts[j]!.1 = _ by omega) o1 ?_;refine sns ?_;refine zAA csc rfl ?_;refine sns ?_;refine zAA cad rfl ?_;refine sns ?_;exact ⟨j + 1, ⟨by omega, by show gs[i]!.ts.length - (j + 1) < gs[i]!.ts.length - j; omega⟩, [0, 1, 2, 3], [], [], [], ttt, ⟨apx, apx, apx, zAC rfl rfl, apx, zAD rfl rfl, zAC rfl rfl, zAC rfl rfl, zAD rfl rfl, zAC rfl rfl, zAC rfl rfl, trivial⟩, ⟨bbx, bbx, bbx, bbx, trivial⟩, by simp [ren]⟩
  ·obtain rfl : j = gs[i]!.ts.length := by omega
   (repeat' (first|refine stn ?_|(with_reducible refine brr ?_ ?_<;>intro h)|(with_reducible refine zAI ?_ ?_<;>intro h)|with_reducible refine zAW ?_ ?_)); all_goals try (conv=>whnf)
   all_goals try (exfalso; omega)
   rw [qG_V] at ct;unfold goalG at ct;refine zAA ct rfl ?_
   (repeat' (first|refine stn ?_|(with_reducible refine brr ?_ ?_<;>intro h)|(with_reducible refine zAI ?_ ?_<;>intro h)|with_reducible refine zAW ?_ ?_)); all_goals try (conv=>whnf)
   ·rw [hat (by assumption)]
    exact zAB rfl rfl
   ·have h0 : (treeR (qG g r gs[i]!) ts[i]!).2 = 0 := by first | assumption | exact Decidable.not_not.1 (by assumption)
    exact ⟨i + 1, ⟨⟨by omega, fun j hj => zAZ (p := fun j => (treeR (qG g r gs[j]!) ts[j]!).2 = 0) i2 h0 hj⟩, by show gs.length - (i + 1) < gs.length - i; omega⟩, [0, 1, 2], [], [], [], ttt, ⟨apx, apx, apx, zAD rfl rfl, zAC rfl rfl, zAC rfl rfl, trivial⟩, ⟨bbx, bbx, bbx, trivial⟩, by simp [ren]⟩
 ·obtain rfl : i = gs.length := by omega
  rw [hca hl (fun j hj => i2 j (by omega))]
  (repeat' (first|refine stn ?_|(with_reducible refine brr ?_ ?_<;>intro h)|(with_reducible refine zAI ?_ ?_<;>intro h)|with_reducible refine zAW ?_ ?_)); all_goals try (conv=>whnf)
  all_goals try (exfalso; omega)
  exact zAB rfl rfl
end Go.PI.Tryz
