/-
  Graphs of the reference: Pre, Outputs; Of of the reference of patterns.
-/
import Derived.Test.YtcinkbieboiffaaGreatCHA
import Derived.Test.YtcinkbieboiffaaGreatCGA
import Derived.Test.YtcinkbieboiffaaGreatCRC
import Derived.Test.YtcinkbieboiffaaGreatCPD
import Derived.Test.YtcinkbieboiffaaGreatCKB
import Derived.Test.YtcinkbieboiffaaGreatCPE
set_option linter.unusedVariables false
set_option linter.unusedSimpArgs false
set_option linter.unnecessarySimpa false
namespace Go.PI.Tryz
open Go.Proofs Go.PI
theorem ok_rgvalid15 : FO 33 Tryz.f33 [.tmp 2] 57 := mkO Tryz.func33 Tryz.ntmps33 Tryz.results33
theorem okGra_le {j k : Nat} (h : j ≤ k) {g : GraL} (hg : okGra j g) : okGra k g := ⟨⟨hg.1.1, fun f hf => zBE h (hg.1.2 f hf)⟩, ⟨hg.2.1, fun f hf => zBE h (hg.2.2 f hf)⟩⟩
theorem zDB (g : GraL) (hg : okGra 950000000 g) : Fn 33 [encGra g] (.data (.bool (dB (VaG g)))) := by
 obtain ⟨hu, ho⟩ := hg;have no : ¬ VaG g → false = dB (VaG g) := zFA;have l1 := hu.1;have l2 := ho.1;have cc := zG9 g.outs (g.ins + g.units.length) ⟨ho.1, fun f hf => zBE (by decide) (ho.2 f hf)⟩;refine zAJ hmix hT ok_rgvalid15 (by simp [encGra]) ?_
 (repeat' (first|refine stp ?_|with_reducible(refine brr ?_ ?_<;>intro h)));all_goals try(conv=>whnf)
 ·exact zAB rfl (congrArg PV.bool (no fun e => by have := e.1.1; omega))
 ·exact zAB rfl (congrArg PV.bool (no fun e => by have := e.1.2; omega))
 ·exact zAB rfl (congrArg PV.bool (no fun e => by have := e.2.1; omega))
 ·exact zAB rfl (congrArg PV.bool (no fun e => by have := e.2.2.1.1; omega))
 ·exact zAB rfl (congrArg PV.bool (no fun e => by have := e.2.2.1.2; omega))
 ·have h0 : (1 ≤ g.ins ∧ g.ins ≤ 256) ∧ g.units.length ≤ 1024 ∧ (1 ≤ g.outs.length ∧ g.outs.length ≤ 256) := ⟨⟨by omega, by omega⟩, by omega, by omega, by omega⟩
  obtain ⟨h1, h2, h3⟩ := h0
  refine zAL hT (fun (i : Nat) => [(1, .ptr 0 0 0), (3, .int .i64 i)]) (fun _ => [(0, ⟨[encGra g], 3, true⟩)]) [] 1
   (fun i => i ≤ g.units.length ∧ ∀ j, j < i → ValidF g.units[j]! (g.ins + j)) (fun i => g.units.length - i) 0 ⟨Nat.zero_le _, fun j h => (by omega)⟩ (by decide) (by simp) ?_ ?_
  ·exact ⟨[0], [], [], [], ttt, ⟨apx, zAC rfl rfl, trivial⟩, ⟨bbx, trivial⟩, by simp [ren]⟩
  intro i ⟨i1, i2⟩;by_cases hi : i < g.units.length
  ·have c1 := zHA g.units[i]! (g.ins + i) (zBE (by decide) (hu.2 _ (get_mem hi)))
   (repeat' (first|refine stp ?_|with_reducible(refine brr ?_ ?_<;>intro h)));all_goals try(conv=>whnf)
   ·refine zAA c1 rfl ?_
    (repeat' (first|refine stp ?_|with_reducible(refine brr ?_ ?_<;>intro h)));all_goals try(conv=>whnf)
    ·exact ⟨i + 1, ⟨⟨by omega, fun j hj => zAZ (p := fun (j : Nat) => ValidF g.units[j]! (g.ins + j)) i2 (validB_true.1 (by assumption)) hj⟩, by show g.units.length - (i + 1) < g.units.length - i; omega⟩, [0], [], [], [], ttt, ⟨apx, zAC rfl rfl, trivial⟩, ⟨bbx, trivial⟩, by simp [ren]⟩
    ·exact zAB rfl (congrArg PV.bool (no fun e => by have := validB_true.2 (e.2.2.2.1 i hi); simp_all))
   all_goals (exfalso; omega)
  ·(repeat' (first|refine stp ?_|with_reducible(refine brr ?_ ?_<;>intro h)));all_goals try(conv=>whnf)
   all_goals try (exfalso; omega)
   rw [List.length_map];refine zAA cc rfl ?_;refine sts ?_;refine zAB rfl (congrArg PV.bool ?_);rw [Bool.eq_iff_iff, dB_true, dB_true];exact ⟨fun e => ⟨h1, h2, h3, fun j hj => i2 j (by omega), e⟩, fun e => e.2.2.2.2⟩
theorem ok_rgvalues : FO 55 Tryz.f55 [.tmp 4, .tmp 5] 59 := mkO Tryz.func55 Tryz.ntmps55 Tryz.results55
theorem c_rgvalues (g : GraL) (x : List RatL) (k K : Nat) (hg : okGra k g) (hk : k ≤ 950000000) (hk1 : 1 ≤ k) (hK1 : 1 ≤ K) (hKb : K ≤ 949999990) (hv : VaG g) (hx : okLs 950000000 x) (hl : (x.length : Int) = g.ins) (hK : ∀ j, j < g.units.length → (∀ q ∈ valsN g.us (x.map qv) j, sz K q) ∧ sz K (preL g.us (x.map qv))[j]!) (hb : ∀ f ∈ g.units, k + f.terms.length * (k + K + 1) + k + K ≤ 949999990) : Fn 55 [encGra g, .imm (x.map encRat)] (.data (.tup [.imm ((valsN g.us (x.map qv) g.us.length).map encX), .int .i64 0])) := by
 have cv := zDB g (okGra_le hk hg);rw [dB_true.2 hv] at cv;have l1 := hx.1;have l2 := hg.1.1;have lu := zM0 g;have hn := hv.2.1;have hx2 : x.length ≤ 256 := by have := hv.1.2; omega
 refine zAJ hmix hT ok_rgvalues (by simp [encGra]) ?_;refine sts ?_;refine zAA cv rfl ?_
 (repeat' (first|refine stp ?_|with_reducible(refine brr ?_ ?_<;>intro h)));all_goals try(conv=>whnf)
 ·exfalso; omega
 refine zDR hT [(.sl 6, 3, true)] (fun (i : Nat) => [(1, .imm (x.map encRat)), (2, .ptr 0 0 0), (6, .own 1 0 i), (7, .int .i64 i)]) (fun i => [(0, ⟨[encGra g], 3, true⟩), (1, ⟨((x.take i).map qv).map encX, 3, true⟩)]) [] 2
  (fun i => i ≤ x.length) (fun i => x.length - i) 0 (Nat.zero_le _) (by decide) (by simp) ⟨rfl, trivial⟩ ?_ ?_
 ·exact ⟨[0, _], [], [], [], ttt, ⟨zAD rfl rfl, (apy rfl), zAU (by decide) rfl rfl, zAC rfl rfl, trivial⟩,
   ⟨bbx, zAE (by decide) rfl rfl (zFQ []) rfl, trivial⟩, by simp [ren]⟩
 intro i i1;have hlen : ((x.take i).map qv).length = i := by rw [List.length_map, List.length_take]; omega
 by_cases hi : i < x.length
 ·have q1 := zBQ hx hi
  have cc := zFC x[i]! q1.1 (by have := q1.2; omega) (by have := q1.2; omega)
  (repeat' (first|refine stp ?_|with_reducible(refine brr ?_ ?_<;>intro h)));all_goals try(conv=>whnf)
  ·refine zAA cc rfl ?_
   refine sts ?_
   exact ⟨i + 1, ⟨by omega, by show x.length - (i + 1) < x.length - i; omega⟩, [0, _], [], [], [], ttt, ⟨zAD rfl rfl, (apy rfl), zAU (by decide) rfl rfl, zAC rfl rfl, trivial⟩,
    ⟨bbx, zAE (by decide) rfl (take_snocQ hi) (zFQ _) rfl, trivial⟩, by simp [ren]⟩
  all_goals (exfalso; omega)
 ·have e0 : (x.take i).map qv = valsN g.us (x.map qv) 0 := by rw [zEO, List.take_of_length_le (by omega)]
  (repeat' (first|refine stp ?_|with_reducible(refine brr ?_ ?_<;>intro h)));all_goals try(conv=>whnf)
  all_goals try (exfalso; omega)
  refine zAL hT (fun (j : Nat) => [(2, .ptr 0 0 0), (6, .own 1 0 (x.length + j)), (8, .int .i64 j)]) (fun j => [(0, ⟨[encGra g], 3, true⟩), (1, ⟨(valsN g.us (x.map qv) j).map encX, 3, true⟩)]) [] 2
   (fun j => j ≤ g.units.length) (fun j => g.units.length - j) 0 (Nat.zero_le _) (by decide) (by simp) ?_ ?_
  ·exact ⟨[0, 1], [], [], [], ttt, ⟨apx, zAU (by decide) rfl (by omega), zAC rfl rfl, trivial⟩,
    ⟨bbx, zAE (by decide) rfl (congrArg (List.map encX) e0) (zFQ _) rfl, trivial⟩, by simp [ren]⟩
  intro j j1;have hvl : (valsN g.us (x.map qv) j).length = x.length + j := by rw [zDG j (by omega), List.length_map]
  by_cases hj : j < g.units.length
  ·have hvu := hv.2.2.2.1 j hj
   have hmem := get_mem hj;have hou := hg.1.2 _ hmem;have hb1 := hb _ hmem;obtain ⟨hs1, hs2⟩ := hK j hj;have hvr : ∀ p ∈ g.units[j]!.Q.ts, 0 ≤ p.1 ∧ p.1 < ((valsN g.us (x.map qv) j).length : Nat) := fun p hp => by have := (zD0 hvu).2 p hp; omega
   have ce := c_rlevalB g.units[j]!.Q (valsN g.us (x.map qv) j) k K (zCQ hou hk1) hs1 hvr (by rw [Q_len]; exact hb1) (by rw [Q_len]; exact hou.2.2) (by omega);rw [encF_Q hvu, hvl] at ce;have hp : (preL g.us (x.map qv))[j]! = evQ g.units[j]!.Q (valsN g.us (x.map qv) j) := by rw [preL_get (by omega), us_get hj]
   rw [hp] at hs2;have cx := c_rqmax (cr (evQ g.units[j]!.Q (valsN g.us (x.map qv) j))) ⟨false, [], []⟩ K (zIN hs2) okQ_zero (by omega);rw [zBA, show qv ⟨false, [], []⟩ = 0 by rfl, show ∀ a : Rat, maxQ a 0 = maxQ 0 a from fun a => by unfold maxQ; split <;> split <;> grind] at cx
   have hvs : (valsN g.us (x.map qv) j).map encX ++ [encRat (cr (maxQ 0 (evQ g.units[j]!.Q (valsN g.us (x.map qv) j))))] = (valsN g.us (x.map qv) (j + 1)).map encX := by
    rw [zFX (by omega), List.map_append, us_get hj]; rfl
   (repeat' (first|refine stp ?_|with_reducible(refine brr ?_ ?_<;>intro h)));all_goals try(conv=>whnf)
   ·refine callV_bor (r := 1) ce rfl rfl rfl rfl (zE3 (zFQ _)) ?_
    refine sts ?_;refine zAA cx rfl ?_;refine sts ?_
    exact ⟨j + 1, ⟨by omega, by show g.units.length - (j + 1) < g.units.length - j; omega⟩, [0, _], [], [], [], ttt, ⟨(apy rfl), zAU (by decide) rfl rfl, zAC rfl rfl, trivial⟩,
     ⟨bbx, zAE (by decide) rfl hvs (zFQ _) rfl, trivial⟩, by simp [ren]⟩
   all_goals (exfalso; omega)
  ·have ej : j = g.us.length := by omega
   (repeat' (first|refine stp ?_|with_reducible(refine brr ?_ ?_<;>intro h)));all_goals try(conv=>whnf)
   all_goals try (exfalso; omega)
   exact zAB (zEK (zAF (zAN rfl rfl (by omega) fun q => frz_rat (cr q)) rfl)) (by rw [ej])
theorem ok_rgforms : FO 83 Tryz.f83 [.tmp 6, .tmp 7] 43 := mkO Tryz.func83 Tryz.ntmps83 Tryz.results83
theorem c_rgforms (g : GraL) (l : List AffL) (x : List RatL) (V : List Rat) (k K : Nat) (hk1 : 1 ≤ k) (hlo : okFs k l) (cv : Fn 55 [encGra g, .imm (x.map encRat)] (.data (.tup [.imm (V.map encX), .int .i64 0]))) (hV : ∀ q ∈ V, sz K q) (hVl : V.length ≤ 1048576) (hlv : ∀ i, i < l.length → ValidF l[i]! V.length) (hb : ∀ f ∈ l, k + f.terms.length * (k + K + 1) + k + K ≤ 949999990) : Fn 83 [encGra g, .imm (l.map encAff), .imm (x.map encRat)] (.data (.tup [.imm ((l.map fun f => evQ f.Q V).map encX), .int .i64 0])) := by
 have l1 := hlo.1;have hol : (l.map fun f => evQ f.Q V).length = l.length := by simp
 refine zAJ hmix hT ok_rgforms (by simp [encGra]) ?_;refine sts ?_;refine zAA cv rfl ?_;refine sts ?_
 all_goals try (exfalso; omega)
 refine zDR hT [(.sl 10, 3, true)] (fun (i : Nat) => [(1, .imm (l.map encAff)), (8, .imm (V.map encX)), (10, .own 0 0 i), (11, .int .i64 i)]) (fun i => [(0, ⟨((l.map fun f => evQ f.Q V).take i).map encX, 3, true⟩)]) [] 1
  (fun i => i ≤ l.length) (fun i => l.length - i) 0 (Nat.zero_le _) (by decide) (by simp) ⟨rfl, trivial⟩ ?_ ?_
 ·exact ⟨[_], [], [], [], ttt, ⟨zAD rfl rfl, zAD rfl rfl, zAU (by decide) rfl rfl, zAC rfl rfl, trivial⟩, ⟨zAE (by decide) rfl rfl (zFQ []) rfl, trivial⟩, by simp [ren]⟩
 intro i i1;have hlen : ((l.map fun f => evQ f.Q V).take i).length = i := by rw [List.length_take]; omega
 by_cases hi : i < l.length
 ·have hvu := hlv i hi
  have hmem := get_mem hi;have hou := hlo.2 _ hmem;have ce := c_rleval l[i]!.Q V k K (zCQ hou hk1) hV (zD0 hvu).2 (by rw [Q_len]; exact hb _ hmem) (by rw [Q_len]; exact hou.2.2) hVl;rw [encF_Q hvu] at ce;have hg1 : (l.map fun f => evQ f.Q V)[i]! = evQ l[i]!.Q V := by rw [getElem!_pos _ i (by omega), getElem!_pos l i hi]; simp
  have hsn := X_snoc (l := l.map fun f => evQ f.Q V) (j := i) (by omega) hg1
  (repeat' (first|refine stp ?_|with_reducible(refine brr ?_ ?_<;>intro h)));all_goals try(conv=>whnf)
  ·refine zAA ce rfl ?_
   refine sts ?_;exact ⟨i + 1, ⟨by omega, by show l.length - (i + 1) < l.length - i; omega⟩, [_], [], [], [], ttt, ⟨zAD rfl rfl, zAD rfl rfl, zAU (by decide) rfl rfl, zAC rfl rfl, trivial⟩, ⟨zAE (by decide) rfl hsn (zFQ _) rfl, trivial⟩, by simp [ren]⟩
  all_goals (exfalso; omega)
 ·have et : (l.map fun f => evQ f.Q V).take i = l.map fun f => evQ f.Q V := List.take_of_length_le (by omega)
  (repeat' (first|refine stp ?_|with_reducible(refine brr ?_ ?_<;>intro h)));all_goals try(conv=>whnf)
  all_goals try (exfalso; omega)
  exact zAB (zEK (zAF (zAN rfl rfl (by omega) fun q => frz_rat (cr q)) rfl)) (by rw [et])
end Go.PI.Tryz
namespace Go.PI.Tryz
open Go.Proofs Go.PI
theorem ok_sgvalid : FO 34 Tryz.f34 [.tmp 4] 66 := mkO Tryz.func34 Tryz.ntmps34 Tryz.results34
theorem zG8 (r : RegL) (n : Int) (hr : okReg 950000000 r) : Fn 34 [encReg r, .int .i64 n] (.data (.bool (dB (VaR r n)))) := by
 obtain ⟨hlo, hhi, hrw, hrl⟩ := hr;have no : ¬ VaR r n → false = dB (VaR r n) := zFA;have l1 := hlo.1;have l2 := hhi.1;have v1 := zNP r.lo (zFR (by decide) hlo);have v2 := zNP r.hi (zFR (by decide) hhi);have v3 := zG9 r.rows n ⟨hrl, fun f hf => zBE (by decide) (hrw f hf)⟩;refine zAJ hmix hT ok_sgvalid (by simp [encReg]) ?_
 (repeat' (first|refine stp ?_|with_reducible(refine brr ?_ ?_<;>intro h)));all_goals try(conv=>whnf)
 ·exact zAB rfl (congrArg PV.bool (no fun e => by have := e.1.1; omega))
 ·exact zAB rfl (congrArg PV.bool (no fun e => by have := e.1.2; omega))
 ·exact zAB rfl (congrArg PV.bool (no fun e => by have := e.2.1; omega))
 ·exact zAB rfl (congrArg PV.bool (no fun e => by have := e.2.2.1; omega))
 ·exact zAB rfl (congrArg PV.bool (no fun e => by have := e.2.2.2.1; omega))
 ·have h0 : (1 ≤ n ∧ n ≤ 256) ∧ (r.lo.length : Int) = n ∧ (r.hi.length : Int) = n ∧ r.rows.length ≤ 256 := ⟨⟨by omega, by omega⟩, by omega, by omega, by omega⟩
  obtain ⟨h1, h2, h3, h4⟩ := h0;have hh : r.hi.length = r.lo.length := by omega
  refine zAA v1 rfl ?_
  (repeat' (first|refine stp ?_|with_reducible(refine brr ?_ ?_<;>intro h)));all_goals try(conv=>whnf)
  rotate_left
  ·exact zAB rfl (congrArg PV.bool (no fun e => dB_false.1 h fun j hj => (e.2.2.2.2.1 j hj).1))
  refine zAA v2 rfl ?_
  (repeat' (first|refine stp ?_|with_reducible(refine brr ?_ ?_<;>intro h)));all_goals try(conv=>whnf)
  rotate_left
  ·exact zAB rfl (congrArg PV.bool (no fun e => dB_false.1 h fun j hj => (e.2.2.2.2.1 j (by omega)).2.1))
  refine zAA v3 rfl ?_
  (repeat' (first|refine stp ?_|with_reducible(refine brr ?_ ?_<;>intro h)));all_goals try(conv=>whnf)
  rotate_left
  ·exact zAB rfl (congrArg PV.bool (no fun e => dB_false.1 h fun j hj => e.2.2.2.2.2 j hj))
  have w1 : canAt r.lo := dB_true.1 (by assumption);have w2 : canAt r.hi := dB_true.1 (by assumption);have w3 : valAll r.rows n := dB_true.1 (by assumption)
  refine zAL hT (fun (i : Nat) => [(1, .int .i64 n), (2, .ptr 0 0 0), (5, .int .i64 i)]) (fun _ => [(0, ⟨[encReg r], 3, true⟩)]) [] 1
   (fun i => i ≤ r.lo.length ∧ ∀ j, j < i → qv r.lo[j]! ≤ qv r.hi[j]!) (fun i => r.lo.length - i) 0 ⟨Nat.zero_le _, fun j h => (by omega)⟩ (by decide) (by simp) ?_ ?_
  ·exact ⟨[0], [], [], [], ttt, ⟨zAC rfl rfl, apx, zAC rfl rfl, trivial⟩, ⟨bbx, trivial⟩, by simp [ren]⟩
  intro i ⟨i1, i2⟩;by_cases hi : i < r.lo.length
  ·have hi2 : i < r.hi.length := by omega
   have q1 := zBQ hlo hi;have q2 := zBQ hhi hi2;have c3 := c_rqcmp r.lo[i]! r.hi[i]! q1.1 q2.1 (by have := q1.2; omega) (by have := q1.2; omega) (by have := q2.2; omega) (by have := q2.2; omega)
   (repeat' (first|refine stp ?_|with_reducible(refine brr ?_ ?_<;>intro h)));all_goals try(conv=>whnf)
   ·refine zAA c3 rfl ?_
    (repeat' (first|refine stp ?_|with_reducible(refine brr ?_ ?_<;>intro h)));all_goals try(conv=>whnf)
    ·exact zAB rfl (congrArg PV.bool (no fun e => by have := sgn_le.2 (e.2.2.2.2.1 i hi).2.2; omega))
    ·exact ⟨i + 1, ⟨⟨by omega, fun j hj => zAZ (p := fun j => qv r.lo[j]! ≤ qv r.hi[j]!) i2 (sgn_le.1 (by omega)) hj⟩, by show r.lo.length - (i + 1) < r.lo.length - i; omega⟩, [0], [], [], [], ttt, ⟨zAC rfl rfl, apx, zAC rfl rfl, trivial⟩, ⟨bbx, trivial⟩, by simp [ren]⟩
   all_goals (exfalso; omega)
  ·(repeat' (first|refine stp ?_|with_reducible(refine brr ?_ ?_<;>intro h)));all_goals try(conv=>whnf)
   all_goals try (exfalso; omega)
   exact zAB rfl (congrArg PV.bool (dB_yes ⟨h1, h2, h3, h4, fun j hj => ⟨w1 j hj, w2 j (by omega), i2 j (by omega)⟩, w3⟩))
theorem ok_sgown : FO 82 Tryz.f82 [.tmp 2] 8 := mkO Tryz.func82 Tryz.ntmps82 Tryz.results82
theorem c_sgown (r : RegL) (hr : okReg 950000000 r) : Fn 82 [encReg r] (.data (.bool (dB (VaO r)))) := by
 have cc := zG8 r r.lo.length hr;have l1 := hr.1.1;refine zAJ hmix hT ok_sgown (by simp [encReg]) ?_;refine sts ?_;refine zAA cc (by simp; rfl) ?_;refine sts ?_;exact zAB rfl rfl
def RegL.all (r : RegL) := (r.lo, r.hi, r.rows)
theorem reg_ext {a b : RegL} : a = b ↔ a.lo = b.lo ∧ a.hi = b.hi ∧ a.rows = b.rows := by cases a; cases b; simp
instance : DecidableEq RegL := fun a b => decidable_of_iff (a.lo = b.lo ∧ a.hi = b.hi ∧ a.rows = b.rows) reg_ext.symm
theorem ok_sgcont : FO 36 Tryz.f36 [.tmp 4] 70 := mkO Tryz.func36 Tryz.ntmps36 Tryz.results36
theorem c_sgcont (r : RegL) (x : List RatL) (k kx : Nat) (hr : okReg k r) (hk1 : 1 ≤ k) (hkx : 1 ≤ kx) (hx : okLs kx x) (hk : ∀ f ∈ r.rows, k + f.terms.length * (k + kx + 1) + k + kx ≤ 949999990) (hk2 : k ≤ 949999990) (hk3 : kx ≤ 949999990) : Fn 36 [encReg r, .imm (x.map encRat)] (.data (.bool (dB (conR r x)))) := by
 obtain ⟨hlo, hhi, hrw, hrl⟩ := hr;have no : ¬ conR r x → false = dB (conR r x) := zFA;have l1 := hlo.1;have l2 := hhi.1;have l3 := hx.1;have co := c_sgown r (zEJ (by omega) ⟨hlo, hhi, hrw, hrl⟩);refine zAJ hmix hT ok_sgcont (by simp [encReg]) ?_;refine sts ?_;refine zAA co rfl ?_
 (repeat' (first|refine stp ?_|with_reducible(refine brr ?_ ?_<;>intro h)));all_goals try(conv=>whnf)
 ·exact zAB rfl (congrArg PV.bool (no fun e => by have := e.2.1; omega))
 ·have hlen : x.length = r.lo.length := by omega
  have hva : VaO r := dB_true.1 (by assumption);have hlh : r.hi.length = r.lo.length := by have := hva.2.2.1; omega
  refine zAL hT (fun (i : Nat) => [(1, .imm (x.map encRat)), (2, .ptr 0 0 0), (5, .int .i64 i)]) (fun _ => [(0, ⟨[encReg r], 3, true⟩)]) [] 1
   (fun i => i ≤ x.length ∧ ∀ j, j < i → qv r.lo[j]! ≤ qv x[j]! ∧ qv x[j]! ≤ qv r.hi[j]!) (fun i => x.length - i) 0 ⟨Nat.zero_le _, fun j h => (by omega)⟩ (by decide) (by simp) ?_ ?_
  ·exact ⟨[0], [], [], [], ttt, ⟨zAD rfl rfl, apx, zAC rfl rfl, trivial⟩, ⟨bbx, trivial⟩, by simp [ren]⟩
  intro i ⟨i1, i2⟩;by_cases hi : i < x.length
  ·have hi1 : i < r.lo.length := by omega
   have hi2 : i < r.hi.length := by omega
   have q0 := zBQ hx hi;have q1 := zBQ hlo hi1;have q2 := zBQ hhi hi2;have c1 := c_rqcmp x[i]! r.lo[i]! q0.1 q1.1 (by have := q0.2; omega) (by have := q0.2; omega) (by have := q1.2; omega) (by have := q1.2; omega);have c2 := c_rqcmp x[i]! r.hi[i]! q0.1 q2.1 (by have := q0.2; omega) (by have := q0.2; omega) (by have := q2.2; omega) (by have := q2.2; omega)
   (repeat' (first|refine stp ?_|with_reducible(refine brr ?_ ?_<;>intro h)));all_goals try(conv=>whnf)
   ·refine zAA c1 rfl ?_
    (repeat' (first|refine stp ?_|with_reducible(refine brr ?_ ?_<;>intro h)));all_goals try(conv=>whnf)
    ·exact zAB rfl (congrArg PV.bool (no fun e => by have := sgn_ge.2 (e.2.2.1 i hi).1; omega))
    ·refine zAA c2 rfl ?_
     (repeat' (first|refine stp ?_|with_reducible(refine brr ?_ ?_<;>intro h)));all_goals try(conv=>whnf)
     ·exact zAB rfl (congrArg PV.bool (no fun e => by have := sgn_le.2 (e.2.2.1 i hi).2; omega))
     ·exact ⟨i + 1, ⟨⟨by omega, fun j hj => zAZ (p := fun j => qv r.lo[j]! ≤ qv x[j]! ∧ qv x[j]! ≤ qv r.hi[j]!) i2 ⟨sgn_ge.1 (by omega), sgn_le.1 (by omega)⟩ hj⟩, by show x.length - (i + 1) < x.length - i; omega⟩, [0], [], [], [], ttt, ⟨zAD rfl rfl, apx, zAC rfl rfl, trivial⟩, ⟨bbx, trivial⟩, by simp [ren]⟩
   all_goals (exfalso; omega)
  ·(repeat' (first|refine stp ?_|with_reducible(refine brr ?_ ?_<;>intro h)));all_goals try(conv=>whnf)
   all_goals try (exfalso; omega)
   refine zAL hT (fun (i : Nat) => [(1, .imm (x.map encRat)), (2, .ptr 0 0 0), (6, .int .i64 i)]) (fun _ => [(0, ⟨[encReg r], 3, true⟩)]) [] 1
    (fun i => i ≤ r.rows.length ∧ ∀ j, j < i → 0 ≤ evQ r.rows[j]!.Q (x.map qv)) (fun i => r.rows.length - i) 0 ⟨Nat.zero_le _, fun j h => (by omega)⟩ (by decide) (by simp) ?_ ?_
   ·exact ⟨[0], [], [], [], ttt, ⟨zAD rfl rfl, apx, zAC rfl rfl, trivial⟩, ⟨bbx, trivial⟩, by simp [ren]⟩
   intro k1 ⟨k1a, k1b⟩;by_cases hk' : k1 < r.rows.length
   ·have hv := hva.2.2.2.2.2 k1 hk'
    rw [← hlen] at hv;have hF := zD0 hv;have ha := hrw _ (get_mem hk');have hs := zCQ ha hk1;have hlf := ha.2.2;have hkk := hk _ (get_mem hk');have hvx : ∀ p ∈ r.rows[k1]!.Q.ts, 0 ≤ p.1 ∧ p.1 < x.length := fun p hp => hF.2 p hp
    have ql := Q_len r.rows[k1]!;have ce := c_rlevalW r.rows[k1]!.Q x k kx hs hkx hx.2 hvx (by rw [ql]; exact hkk) (by omega) hx.1;rw [← zL3 hv] at ce
    have hz := evQ_sz (kx := kx) (x := x.map qv) hs (fun q hq => by
     obtain ⟨y, hy, rfl⟩ := List.mem_map.1 hq;have := hx.2 y hy
     exact zH8 this.1 this.2.1 this.2.2 hkx) (fun p hp => by simpa using hvx p hp)
    rw [ql] at hz;have hl4 := zA6 hz;have cs := zC7 (cr (evQ r.rows[k1]!.Q (x.map qv))) (zA1 _) (by omega);rw [zBA] at cs
    (repeat' (first|refine stp ?_|with_reducible(refine brr ?_ ?_<;>intro h)));all_goals try(conv=>whnf)
    ·refine zAA ce rfl ?_
     refine sts ?_;refine zAA cs rfl ?_
     (repeat' (first|refine stp ?_|with_reducible(refine brr ?_ ?_<;>intro h)));all_goals try(conv=>whnf)
     ·exact zAB rfl (congrArg PV.bool (no fun e => by have := sgnQ_neg.1 h; have := e.2.2.2 k1 hk'; grind))
     ·exact ⟨k1 + 1, ⟨⟨by omega, fun j hj => zAZ (p := fun j => 0 ≤ evQ r.rows[j]!.Q (x.map qv)) k1b (Rat.not_lt.1 fun e => by have := sgnQ_neg.2 e; omega) hj⟩, by show r.rows.length - (k1 + 1) < r.rows.length - k1; omega⟩, [0], [], [], [], ttt, ⟨zAD rfl rfl, apx, zAC rfl rfl, trivial⟩, ⟨bbx, trivial⟩, by simp [ren]⟩
    all_goals (exfalso; omega)
   ·(repeat' (first|refine stp ?_|with_reducible(refine brr ?_ ?_<;>intro h)));all_goals try(conv=>whnf)
    all_goals try (exfalso; omega)
    exact zAB rfl (congrArg PV.bool (dB_yes ⟨hva, hlen, fun j hj => i2 j (by omega), fun j hj => k1b j (by omega)⟩))
 ·exact zAB rfl (congrArg PV.bool (no fun e => dB_false.1 h e.1))
end Go.PI.Tryz
namespace Go.PI.Tryz
open Go.Proofs Go.PI
set_option maxHeartbeats 0
theorem cf_mem : ∀ {l : List QT} {p : QT}, Srt l → p ∈ l → cf l p.1 = p.2
 | q :: l, p, h, hp => by
   have h' := srt_cons.1 h;simp only [cf];rcases List.mem_cons.1 hp with rfl | hp
   ·rw [if_pos rfl, zKE (fun r hr => by have := h'.1 r hr; omega)]; grind
   ·have := h'.1 p hp
    rw [if_neg (by omega), cf_mem h'.2.2 hp]; grind
theorem cf_sz {k : Nat} : ∀ {l : List QT} (v : Int), Srt l → (∀ p ∈ l, sz k p.2) → 1 ≤ k → sz k (cf l v)
 | [], v, _, _, hk => zC9 hk (zC4 1 (by decide)).1
 | q :: l, v, h, hl, hk => by
   have h' := srt_cons.1 h;by_cases e : v = q.1
   ·rw [e, cf_mem h (List.mem_cons_self ..)]; exact hl q (List.mem_cons_self ..)
   ·have ih := cf_sz v h'.2.2 (fun p hp => hl p (List.mem_cons_of_mem _ hp)) hk
    have e2 : cf (q :: l) v = cf l v := by simp only [cf]; rw [if_neg (fun x => e x.symm)]; grind
    rw [e2]; exact ih
theorem srt_take {l : List QT} (h : Srt l) (i : Nat) : Srt (l.take i) := ⟨h.1.sublist (List.take_sublist _ _), fun p hp => h.2 p (List.mem_of_mem_take hp)⟩
theorem addL_sz2 {l g : List QT} {kf kg : Nat} (hl : Srt l) (hg : Srt g) (h1 : ∀ p ∈ l, sz kf p.2) (h2 : ∀ p ∈ g, sz kg p.2) (hkf : 1 ≤ kf) (hkg : 1 ≤ kg) : ∀ p ∈ addL l g, sz (kf + kg + 1) p.2 := fun p hp => by
 obtain ⟨h3, h4⟩ := zJC (g := g) hl;rw [← cf_mem h3 hp, h4];exact zEC (cf_sz _ hl h1 hkf) (cf_sz _ hg h2 hkg)
theorem ok_radd5 : FO 26 Tryz.f26 [.cell 4 34] 43 := mkO Tryz.func26 Tryz.ntmps26 Tryz.results26
theorem c_radd5 (f g : QF) (kf kg : Nat) (hf : szF kf f) (hg : szF kg g) (hsf : Srt f.ts) (hsg : Srt g.ts) (hkf : 1 ≤ kf) (hkg : 1 ≤ kg) (hk : kf + kg + 10 ≤ 949999980) (hl : f.ts.length + g.ts.length ≤ 2097140) : Fn 26 [encF f, encF g] (.data (encF (addR f g))) := by
 have lf := zA6 hf.1;have lg := zA6 hg.1;have hs0 := zEC hf.1 hg.1;have ca := zFT (cr f.c) (cr g.c) (zA1 _) (zA1 _) (by omega) (by omega) (by omega) (by omega);rw [zBA, zBA] at ca;unfold addR;obtain ⟨C, hC⟩ : ∃ C, f.c + g.c = C := ⟨_, rfl⟩;rw [hC] at ca hs0;rw [hC];refine zAJ hmix hT ok_radd5 (by simp [encF]) ?_;refine sts ?_;refine zAA ca rfl ?_;refine sts ?_
 refine zAL hT (fun ((i, l) : Nat × List QT) => [(3, .ptr 0 0 0), (4, .ptr 1 0 0), (5, .ptr 2 0 0), (6, .int .i64 i)])
  (fun (i, l) => [(0, ⟨[encF g], 4, true⟩), (1, ⟨[zeroF], 4, true⟩), (2, ⟨[encF ⟨l, C⟩], 4, true⟩)]) [] 3
  (fun (i, l) => l = addL f.ts (g.ts.take i) ∧ i ≤ g.ts.length ∧ l.length ≤ f.ts.length + i)
  (fun (i, _) => g.ts.length - i) (0, f.ts) ⟨rfl, Nat.zero_le _, Nat.le_refl _⟩ (by decide) (by simp) ?_ ?_
 ·exact ⟨[_, _, _], [], [], [], ttt, ⟨(apy rfl), (apy rfl), (apy rfl), zAC rfl rfl, trivial⟩,
   ⟨bbx, bbx, bbx, trivial⟩, by simp [ren]⟩
 intro ⟨i, l⟩ ⟨i1, i2, i3⟩;by_cases hi : i < g.ts.length
 ·have hp := hg.2 g.ts[i]! (by rw [getElem!_pos g.ts i hi]; exact List.getElem_mem hi)
  have i4 : ∀ p ∈ l, sz (kf + kg + 1) p.2 := by rw [i1]; exact addL_sz2 hsf (srt_take hsg i) hf.2 (fun p hp => hg.2 p (List.mem_of_mem_take hp)) hkf hkg
  have cp := c_rplus ⟨l, C⟩ g.ts[i]!.1 g.ts[i]!.2 (kf + kg + 1) kg ⟨zC9 (by omega) hs0, i4⟩ hp (by omega) (by show l.length ≤ _; omega);have hln := plusL_len (v := g.ts[i]!.1) (c := g.ts[i]!.2) (l := l) (d := false)
  have hn : plusL g.ts[i]!.1 g.ts[i]!.2 l false = addL f.ts (g.ts.take (i + 1)) := by
   rw [i1]; unfold addL; rw [List.take_succ_eq_append_getElem hi, List.foldl_append, getElem!_pos g.ts i hi]; rfl
  simp only [Bool.false_eq_true, if_false] at hln
  (repeat' (first|refine stp ?_|with_reducible(refine brr ?_ ?_<;>intro h)));all_goals try(conv=>whnf)
  ·refine zAA cp rfl ?_
   refine sts ?_
   exact ⟨(i + 1, plusL g.ts[i]!.1 g.ts[i]!.2 l false), ⟨⟨hn, by omega, by omega⟩, by show g.ts.length - (i + 1) < g.ts.length - i; omega⟩, [0, 1, 2], [], [], [], ttt,
    ⟨apx, apx, apx, zAC rfl (by omega), trivial⟩,
    ⟨bbx, bbx, bbx, trivial⟩, by simp [ren]⟩
  all_goals (exfalso; omega)
 ·rw [List.take_of_length_le (by omega)] at i1
  subst i1
  (repeat' (first|refine stp ?_|with_reducible(refine brr ?_ ?_<;>intro h)));all_goals try(conv=>whnf)
  all_goals try (exfalso; omega)
  exact zAB (zEL (zAF (zAN rfl (by simp) (by simp) (fun x => zHI x)) rfl)) rfl
theorem ok_rsub5 : FO 41 Tryz.f41 [.cell 4 34] 10 := mkO Tryz.func41 Tryz.ntmps41 Tryz.results41
theorem c_rsub5 (f g : QF) (kf kg : Nat) (hf : szF kf f) (hg : szF kg g) (hsf : Srt f.ts) (hsg : Srt g.ts) (hkf : 1 ≤ kf) (hk : kf + kg + 11 ≤ 949999980) (hl : f.ts.length + g.ts.length ≤ 2097140) : Fn 41 [encF f, encF g] (.data (encF (addR f (scaleR g (-1))))) := by
 have co := zKF (-1) (by decide);rw [show ((-1 : Int) : Rat) = -1 by rfl] at co;have h1 : sz 1 (-1 : Rat) := zCL (z := -1) (by decide);have cs := c_rscale g (-1) kg 1 hg h1 (by omega) (by omega);have hln := sclL_len (c := (-1 : Rat)) (l := g.ts);have ca := c_radd5 f (scaleR g (-1)) kf (kg + 1) hf (scaleR_sz hg h1) hsf (zIB _ hsg).1 hkf (by omega) (by omega) (by show _ + (sclL _ _).length ≤ _; omega);refine zAJ hmix hT ok_rsub5 (by simp [encF]) ?_;refine sts ?_;refine zAA co rfl ?_;refine sts ?_;refine zAA cs rfl ?_;refine sts ?_;refine zAA ca rfl ?_;refine sts ?_;exact zAB rfl rfl
end Go.PI.Tryz
namespace Go.PI.Tryz
open Go.Proofs Go.PI
set_option maxHeartbeats 0
theorem scale_scl {f : QF} {c : Rat} (hf : Srt f.ts) : scaleR f c = sclQ f c := by
 obtain ⟨h3, h4, _⟩ := zIB c hf;refine zLJ h3 (zA8 zCK hf) (fun v => ?_) ?_
 ·show cf (sclL c f.ts) v = cf (mergeQ zeroQ f c).ts v
  rw [h4, zBY zCK hf, zH2]; grind
 ·simp only [scaleR, sclQ, zHB, zeroQ]; grind
theorem add_merge {f g : QF} (hf : Srt f.ts) (hg : Srt g.ts) : addR f g = mergeQ f g 1 := by
 obtain ⟨h5, h6⟩ := zJC (g := g.ts) hf;refine zLJ h5 (zA8 hf hg) (fun v => ?_) ?_
 ·show cf (addL f.ts g.ts) v = _
  rw [h6, zBY hf hg]; grind
 ·simp only [addR, zHB]; grind
theorem zDM (f g : QF) (kf kg : Nat) (hf : szF kf f) (hg : szF kg g) (hf2 : Srt f.ts) (hg2 : Srt g.ts) (hk : kf + kg + 11 ≤ 949999980) (hl : f.ts.length + g.ts.length ≤ 2097140) (hkf : 1 ≤ kf := by omega) : Fn 41 [encF f, encF g] (.data (encF (subQ f g))) := by
 have h := c_rsub5 f g kf kg hf hg hf2 hg2 hkf hk hl;rw [add_scale hf2 hg2] at h; exact h
theorem zD7 (f : QF) (c : Rat) (kf kc : Nat) (hf : szF kf f) (hc : sz kc c) (hf2 : Srt f.ts) (hk : kf + kc ≤ 949999990) (hl : f.ts.length ≤ 2097150) : Fn 86 [encF f, encRat (cr c)] (.data (encF (sclQ f c))) := by
 have h := c_rscale f c kf kc hf hc hk hl;rw [scale_scl hf2] at h; exact h
theorem c_radd' (f g : QF) (kf kg : Nat) (hf : szF kf f) (hg : szF kg g) (hf2 : Srt f.ts) (hg2 : Srt g.ts) (hk : kf + kg + 10 ≤ 949999980) (hl : f.ts.length + g.ts.length ≤ 2097140) (hkf : 1 ≤ kf := by omega) (hkg : 1 ≤ kg := by omega) : Fn 26 [encF f, encF g] (.data (encF (mergeQ f g 1))) := by
 have h := c_radd5 f g kf kg hf hg hf2 hg2 hkf hkg hk hl;rw [add_merge hf2 hg2] at h; exact h
theorem ok_r15vars : FO 54 Tryz.f54 [.tmp 2] 12 := mkO Tryz.func54 Tryz.ntmps54 Tryz.results54
theorem c_r15vars (g : GraL) (hg : okGra 950000000 g) : Fn 54 [encGra g] (.data (.int .i64 (nVars g))) := by
 have cv := zDB g hg;have l1 := hg.1.1;refine zAJ hmix hT ok_r15vars (by simp [encGra]) ?_;refine sts ?_;refine zAA cv rfl ?_
 (repeat' (first|refine stp ?_|with_reducible(refine brr ?_ ?_<;>intro h)));all_goals try(conv=>whnf)
 ·have hv : VaG g := dB_true.1 (by assumption)
  have h1 := hv.1;refine sts ?_;exact zAB rfl (by unfold nVars; rw [if_pos hv]; simp)
 ·have hv : ¬ VaG g := dB_false.1 (by assumption)
  exact zAB rfl (by unfold nVars; rw [if_neg hv])
theorem ok_r21valid : FO 16 Tryz.f16 [.tmp 2] 22 := mkO Tryz.func16 Tryz.ntmps16 Tryz.results16
theorem zHM (q : QryL) (P : Nat) (hq : szQ q P) (hP : P ≤ 950000000) : Fn 16 [encQry q] (.data (.bool (dB (VaQ q)))) := by
 have hg := okGra_le hP hq.g;have cv := zDB q.g hg;have cn := c_r15vars q.g hg;have cr' := zG8 q.r q.g.ins ⟨zFR hP hq.r.1, zFR hP hq.r.2.1, fun f hf => zBE hP (hq.r.2.2.1 f hf), hq.r.2.2.2⟩;have cl := zHA q.goal (nVars q.g) (zBE (by omega) hq.goal);refine zAJ hmix hT ok_r21valid (by simp [encQry]) ?_;refine sts ?_;refine zAA cv rfl ?_
 (repeat' (first|refine stp ?_|with_reducible(refine brr ?_ ?_<;>intro h)));all_goals try(conv=>whnf)
 rotate_left
 ·have hv : ¬ VaG q.g := dB_false.1 (by assumption)
  exact zAB rfl (congrArg PV.bool (zFA fun e => hv e.1))
 have hv : VaG q.g := dB_true.1 (by assumption);refine zAA cr' rfl ?_
 (repeat' (first|refine stp ?_|with_reducible(refine brr ?_ ?_<;>intro h)));all_goals try(conv=>whnf)
 rotate_left
 ·have hw : ¬ VaR q.r q.g.ins := dB_false.1 (by assumption)
  exact zAB rfl (congrArg PV.bool (zFA fun e => hw e.2.1))
 have hw : VaR q.r q.g.ins := dB_true.1 (by assumption);refine zAA cn rfl ?_;refine sts ?_;refine zAA cl rfl ?_;refine sts ?_;refine zAB rfl (congrArg PV.bool ?_);have e : nVars q.g = q.g.ins + q.g.units.length := by unfold nVars; rw [if_pos hv]
 rw [e, Bool.eq_iff_iff, validB_true, dB_true];exact ⟨fun h => ⟨hv, hw, h⟩, fun h => h.2.2⟩
theorem ok_r21fits : FO 129 Tryz.f129 [.tmp 4] 47 := mkO Tryz.func129 Tryz.ntmps129 Tryz.results129
theorem zMD (q : QryL) (d : DecL) (hu : q.g.units.length ≤ 1048576) (hd : okQ 950000000 d.rat) : Fn 129 [encQry q, encDec d] (.data (.bool (dB (fitD q d)))) := by
 have cv := zFB d.rat hd.1 (by have := hd.2; omega) (by have := hd.2; omega);have cs := c_rqsame d.rat ⟨false, [], []⟩ (by have := hd.2; omega) (by have := hd.2; omega) (by simp) (by simp);have l2 := hd.2.1;have l3 := hd.2.2;have bad : ¬ fitD q d → false = dB (fitD q d) := zFA
 have hz : d.rat = ⟨false, [], []⟩ ↔ RatZ d.rat := by
  unfold RatZ;obtain ⟨_, _, ⟨a, b, c⟩⟩ := d
  simp
 refine zAJ hmix hT ok_r21fits (by simp [encQry, encDec]) ?_
 (repeat' (first|refine stp ?_|with_reducible(refine brr ?_ ?_<;>intro h)));all_goals try(conv=>whnf)
 all_goals try (refine zAB rfl (congrArg PV.bool (bad fun e => ?_)); rcases e with ⟨e1, e2, e3, e4, e5, e6⟩ | ⟨e1, e2, e3, e4⟩ <;> omega)
 ·refine zAA cs rfl ?_
  refine sts ?_;refine zAB rfl (congrArg PV.bool ?_);rw [Bool.eq_iff_iff, dB_true, decide_eq_true_eq, hz];exact ⟨fun e => Or.inl ⟨by omega, by omega, by omega, e⟩, fun e => by rcases e with ⟨_, _, _, e4⟩ | ⟨e1, _⟩; exact e4; (exfalso; omega)⟩
 ·refine zAA cs rfl ?_
  refine sts ?_;refine zAB rfl (congrArg PV.bool ?_);rw [Bool.eq_iff_iff, dB_true, decide_eq_true_eq, hz];exact ⟨fun e => Or.inl ⟨by omega, by omega, by omega, e⟩, fun e => by rcases e with ⟨_, _, _, e4⟩ | ⟨e1, _⟩; exact e4; (exfalso; omega)⟩
 ·refine zAA cv rfl ?_
  refine sts ?_;refine zAB rfl (congrArg PV.bool ?_);rw [Bool.eq_iff_iff, dB_true, decide_eq_true_eq];exact ⟨fun e => Or.inr ⟨by omega, by omega, by omega, e⟩, fun e => by rcases e with ⟨e1, _⟩ | ⟨_, _, _, e4⟩; (exfalso; omega); exact e4⟩
 ·refine zAA cv rfl ?_
  refine sts ?_;refine zAB rfl (congrArg PV.bool ?_);rw [Bool.eq_iff_iff, dB_true, decide_eq_true_eq];exact ⟨fun e => Or.inr ⟨by omega, by omega, by omega, e⟩, fun e => by rcases e with ⟨e1, _⟩ | ⟨_, _, _, e4⟩; (exfalso; omega); exact e4⟩
theorem ok_r21Fits : FO 98 Tryz.f98 [.tmp 4] 12 := mkO Tryz.func98 Tryz.ntmps98 Tryz.results98
theorem c_r21Fits (q : QryL) (d : DecL) (P : Nat) (hq : szQ q P) (hP : P ≤ 950000000) (hd : okQ 950000000 d.rat) : Fn 98 [encQry q, encDec d] (.data (.bool (dB (VaQ q ∧ fitD q d)))) := by
 have c1 := zHM q P hq hP;have c2 := zMD q d hq.g.1.1 hd;refine zAJ hmix hT ok_r21Fits (by simp [encQry, encDec]) ?_;refine sts ?_;refine zAA c1 rfl ?_
 (repeat' (first|refine stp ?_|with_reducible(refine brr ?_ ?_<;>intro h)));all_goals try(conv=>whnf)
 rotate_left
 ·have hv : ¬ VaQ q := dB_false.1 (by assumption)
  exact zAB rfl (congrArg PV.bool (zFA fun e => hv e.1))
 have hv : VaQ q := dB_true.1 (by assumption);refine zAA c2 rfl ?_;refine sts ?_;refine zAB rfl (congrArg PV.bool ?_);rw [Bool.eq_iff_iff, dB_true, dB_true];exact ⟨fun h => ⟨hv, h⟩, fun h => h.2⟩
theorem ok_r21dec : FO 182 Tryz.f182 [.tmp 6] 43 := mkO Tryz.func182 Tryz.ntmps182 Tryz.results182
theorem c_r21dec (S : ScpL) (k j : Int) (hu : S.q.g.units.length ≤ 1048576) (hp : S.path.length ≤ 1048576) (hok : ∀ d ∈ S.path, okQ 950000000 d.rat) (hfit : ∀ d ∈ S.path, fitD S.q d) : Fn 182 [encScp S, .int .i64 k, .int .i64 j] (.data (.bool (decB S k j))) := by
 refine zAJ hmix hT ok_r21dec (by simp [encScp]) ?_;refine sts ?_
 refine zAL hT (fun (i : Nat) => [(1, .int .i64 k), (2, .int .i64 j), (3, .ptr 0 0 0), (7, .int .i64 i)]) (fun _ => [(0, ⟨[encScp S], 12, true⟩)]) [] 1
  (fun i => i ≤ S.path.length ∧ ∀ m, m < i → ¬ (S.path[m]!.kind = k ∧ S.path[m]!.index = j)) (fun i => S.path.length - i) 0 ⟨Nat.zero_le _, fun m h => by omega⟩ (by decide) (by simp) ?_ ?_
 ·exact ⟨[0], [], [], [], ttt, ⟨zAC rfl rfl, zAC rfl rfl, apx, zAC rfl rfl, trivial⟩, ⟨bbx, trivial⟩, by simp [ren]⟩
 intro i ⟨i1, i2⟩;by_cases hi : i < S.path.length
 ·have hm : S.path[i]! ∈ S.path := get_mem hi
  have cf := zMD S.q S.path[i]! hu (hok _ hm);have hft := hfit _ hm
  (repeat' (first|refine stp ?_|with_reducible(refine brr ?_ ?_<;>intro h)));all_goals try(conv=>whnf)
  all_goals try (exfalso; omega)
  ·refine zAA cf rfl ?_
   (repeat' (first|refine stp ?_|with_reducible(refine brr ?_ ?_<;>intro h)));all_goals try(conv=>whnf)
   ·refine zAB rfl (congrArg PV.bool ?_)
    refine (List.any_eq_true.2 ⟨_, hm, ?_⟩).symm;simp only [Bool.and_eq_true, decide_eq_true_eq];exact ⟨by assumption, by assumption⟩
   ·exact absurd hft (dB_false.1 (by assumption))
  all_goals exact ⟨i + 1, ⟨⟨by omega, fun m hm => zAZ (p := fun m => ¬ (S.path[m]!.kind = k ∧ S.path[m]!.index = j)) i2 (by omega) hm⟩, by show S.path.length - (i + 1) < S.path.length - i; omega⟩, [0], [], [], [], ttt, ⟨zAC rfl rfl, zAC rfl rfl, apx, zAC rfl rfl, trivial⟩, ⟨bbx, trivial⟩, by simp [ren]⟩
 ·(repeat' (first|refine stp ?_|with_reducible(refine brr ?_ ?_<;>intro h)));all_goals try(conv=>whnf)
  all_goals try (exfalso; omega)
  refine zAB rfl (congrArg PV.bool ?_);refine (List.any_eq_false.2 fun d hd => ?_).symm;obtain ⟨m, hm, rfl⟩ := List.getElem_of_mem hd;have := i2 m (by omega);rw [getElem!_pos S.path m hm] at this;simp only [Bool.and_eq_true, decide_eq_true_eq];exact this
def lemR (S : ScpL) (n j : Int) (up : Bool) : RatL := if bndB S n j up = true then bndV S n else ⟨false, [], []⟩
theorem ok_r21lem : FO 181 Tryz.f181 [.cell 8 32, .tmp 9] 50 := mkO Tryz.func181 Tryz.ntmps181 Tryz.results181
theorem c_r21lem (S : ScpL) (n j : Int) (up : Bool) (V : Nat) (hl : S.lems.length ≤ 1048576) (hV : V ≤ 900000000) (hok : ∀ m ∈ S.lems, okQ V m.value) (hcan : ∀ m ∈ S.lems, CanR m.value) : Fn 181 [encScp S, .int .i64 n, .int .i64 j, .bool up] (.data (.tup [encRat (lemR S n j up), .bool (bndB S n j up)])) := by
 have none : ¬ (1 ≤ n ∧ n ≤ S.lems.length ∧ S.lems[n.toNat - 1]!.unit = j ∧ S.lems[n.toNat - 1]!.upper = up) → PV.tup [.agg [.bool false, .imm [], .imm []], .bool false] = .tup [encRat (lemR S n j up), .bool (bndB S n j up)] := fun h => by
  have e2 : bndB S n j up = false := by
   unfold bndB;rw [Bool.eq_false_iff];intro e;simp only [Bool.and_eq_true, decide_eq_true_eq] at e;exact h ⟨e.1.1, e.1.2, e.2.1, e.2.2⟩
  unfold lemR;rw [e2]; rfl
 refine zAJ hmix hT ok_r21lem (by simp [encScp]) ?_
 (repeat' (first|refine stp ?_|with_reducible(refine brr ?_ ?_<;>intro h)));all_goals try(conv=>whnf)
 all_goals try (exfalso; omega)
 ·exact zAB rfl (none fun e => by omega)
 ·exact zAB rfl (none fun e => by omega)
 have hlt : n.toNat - 1 < S.lems.length := by omega
 have hm := get_mem hlt;have hq := hok _ hm;have hc := hcan _ hm;generalize hM : S.lems[n.toNat - 1]! = M at *
 have cc := zFC M.value hq.1 (by have := hq.2; omega) (by have := hq.2; omega);rw [← hc] at cc;refine zAY (j := n.toNat - 1) (show n - 1 = _ by omega) hlt ?_;rw [hM]
 (repeat' (first|refine stp ?_|with_reducible(refine brr ?_ ?_<;>intro h)));all_goals try(conv=>whnf)
 ·exact zAB rfl (none fun e => absurd e.2.2.1 (by assumption))
 refine zAY (j := n.toNat - 1) (show n - 1 = _ by omega) hlt ?_;rw [hM]
 (repeat' (first|refine stp ?_|with_reducible(refine brr ?_ ?_<;>intro h)));all_goals try(conv=>whnf)
 ·exact zAB rfl (none fun e => absurd e.2.2.2 (by assumption))
 refine zAY (j := n.toNat - 1) (show n - 1 = _ by omega) hlt ?_;rw [hM];refine sts ?_;refine zAA cc rfl ?_;refine sts ?_
 have hb : bndB S n j up = true := by
  unfold bndB;rw [hM];simp only [Bool.and_eq_true, decide_eq_true_eq];exact ⟨⟨by omega, by omega⟩, by assumption, by assumption⟩
 have hv : bndV S n = M.value := by unfold bndV; rw [if_pos ⟨by omega, by omega⟩, hM]
 refine zAB rfl ?_;unfold lemR;rw [hb, if_pos rfl, hv];rfl
end Go.PI.Tryz
namespace Go.PI.Tryz
open Go.Proofs Go.PI
set_option maxHeartbeats 0
def frmR (r : RowL) (v p : QF) (L U : RatL) (lw up on off pl : Bool) : QF × Bool :=
 if r.kind = 5 then (v, pl)
 else if r.kind = 6 then (subQ v p, pl)
 else if r.kind = 7 then (p, on)
 else if r.kind = 8 then (subQ p v, on)
 else if r.kind = 9 then (sclQ p (-1), off)
 else if r.kind = 10 then (sclQ v (-1), off)
 else if r.kind = 11 then (subQ p (numQ' (qv L)), lw && decide (r.hi = 0))
 else if r.kind = 12 then (subQ (numQ' (qv U)) p, up && decide (r.lo = 0))
 else if r.kind = 13 then (triQ v p (qv L) (qv U), lw && (up && (decide (sgnQ (qv L) < 0) && decide (0 < sgnQ (qv U)))))
 else (zeroQ, false)
theorem lemR_ok {S : ScpL} {P V : Nat} (hz : szS S P V) (n j : Int) (up : Bool) : okQ (V + 1) (lemR S n j up) := by
 unfold lemR
 split
 ·exact bndV_ok hz n
 ·exact ⟨⟨by simp [okN], by simp [okN]⟩, Nat.zero_le _, Nat.zero_le _⟩
theorem lemR_can {S : ScpL} {P V : Nat} (hz : szS S P V) (n j : Int) (up : Bool) : CanR (lemR S n j up) := by
 unfold lemR
 split
 ·exact bndV_can hz n
 ·rfl
theorem ok_rnumber : FO 27 Tryz.f27 [.cell 2 34] 5 := mkO Tryz.func27 Tryz.ntmps27 Tryz.results27
theorem zDN (c : RatL) (hc : CanR c) : Fn 27 [encRat c] (.data (encF (numQ' (qv c)))) := by
 have e : encF (numQ' (qv c)) = .agg [.imm [], .bool c.neg, encN c.num, encN c.den] := by
  unfold encF numQ'; rw [← hc]; rfl
 rw [e];refine zAJ hmix hT ok_rnumber (by simp [encRat]) ?_;refine sts ?_;exact zAB rfl rfl
theorem encF_var' (v : Int) : encF (varQ v) = .agg [.imm [encQ (v, 1)], .bool false, .imm [], .imm []] := by unfold encF varQ; rw [zJX]; rfl
theorem ok_r07var : FO 39 Tryz.f39 [.cell 2 34] 8 := mkO Tryz.func39 Tryz.ntmps39 Tryz.results39
theorem zFN (v : Int) : Fn 39 [.int .i64 v] (.data (encF (varQ v))) := by
 have c1 := zKF 1 (by decide);rw [show ((1 : Int) : Rat) = 1 by rfl] at c1;rw [encF_var'];refine zAJ hmix hT ok_r07var (by simp) ?_;refine sts ?_;refine zAA c1 rfl ?_;refine sts ?_;exact zAB rfl rfl
theorem ok_r21unit : FO 170 Tryz.f170 [.cell 4 34, .tmp 5] 215 := mkO Tryz.func170 Tryz.ntmps170 Tryz.results170
theorem c_r21unit (S : ScpL) (r : RowL) (P V : Nat) (hS : okScp S) (hz : szS S P V) (hB2 : P + 2 * V ≤ 20000000) (hn : nvar S ≤ 16) (hk : 5 ≤ r.kind) (hi : 0 ≤ r.index ∧ r.index < S.q.g.units.length) (v p : QF) (L U : RatL) (lw up D1 D2 on off pl : Bool) (hL : lemR S r.lo r.index false = L) (hU : lemR S r.hi r.index true = U) (hlw : bndB S r.lo r.index false = lw) (hup : bndB S r.hi r.index true = up) (hvv : varQ (S.q.g.ins + r.index) = v) (hp : S.q.g.units[r.index.toNat]!.Q = p) (hD1 : decB S 1 r.index = D1) (hD2 : decB S 2 r.index = D2) (hon : onP r L lw D1 = on) (hoff : offP r U up D2 = off) (hpl : plainP r = pl) : Fn 170 [encScp S, encRow r] (.data (.tup [encF (if (frmR r v p L U lw up on off pl).2 = true then (frmR r v p L U lw up on off pl).1 else zeroQ), .bool (frmR r v p L U lw up on off pl).2])) := by
 have hj : r.index.toNat < S.q.g.units.length := by omega
 have hnu := hS.1.1.2.1;have hni := hS.1.1.1;have hvu := hS.1.1.2.2.2.1 _ hj;have hpu := zL3 hvu;have hB := hz.B;have hP := hz.P1;have hpok : ∀ d ∈ S.path, okQ 950000000 d.rat := fun d hd => zBU (by omega) (hz.path.2 d hd)
 have cv := zFN (S.q.g.ins + r.index);have cl := c_r21lem S r.lo r.index false V hz.lems.1 (by omega) hz.lems.2 hz.can;have cu := c_r21lem S r.hi r.index true V hz.lems.1 (by omega) hz.lems.2 hz.can;have cd1 := c_r21dec S 1 r.index (by omega) hz.path.1 hpok hS.2;have cd2 := c_r21dec S 2 r.index (by omega) hz.path.1 hpok hS.2;have cmin := zKF (-1) (by omega);have hLk := lemR_ok hz r.lo r.index false;have hUk := lemR_ok hz r.hi r.index true;have hUc := lemR_can hz r.hi r.index true;have hLc := lemR_can hz r.lo r.index false;rw [hL] at cl hLk hLc;rw [hU] at cu hUk hUc;rw [hlw] at cl;rw [hup] at cu;have sl := zC7 L hLk.1 (by have := hLk.2; omega);have su := zC7 U hUk.1 (by have := hUk.2; omega);have cnl := zDN L hLc;have cnu := zDN U hUc;have hUc : cr (qv U) = U := hUc.symm;have szL := zF2 hLk (by omega);have szU := zF2 hUk (by omega);have hpa := hz.units _ (get_mem hj);have szp : szF P p := by rw [← hp]; exact zCQ hpa hP
 have szv : szF 1 v := by rw [← hvv]; exact zC8 _
 have srv : Srt v.ts := by rw [← hvv]; exact zD8 _
 have srp : Srt p.ts := by rw [← hp]; exact (zD0 hvu).1
 have lv : v.ts.length ≤ 1 := by rw [← hvv]; simp [varQ]
 have lp : p.ts.length ≤ 16 := by
  rw [← hp];have h1 : okF (nvar S) S.q.g.units[r.index.toNat]!.Q := okF_le (by unfold nvar; omega) (zD0 hvu);obtain ⟨m, hm⟩ : ∃ m : Nat, nvar S = m := ⟨(nvar S).toNat, by unfold nvar at *; omega⟩;rw [hm] at h1;have := zDP m h1.1.1 h1.2;omega
 have mul17 : ∀ k m : Nat, k ≤ 16 → (k + 1) * m ≤ 17 * m := fun k m h => Nat.mul_le_mul_right _ (by omega)
 rw [hvv] at cv;rw [hp] at hpu;rw [hD1] at cd1;rw [hD2] at cd2;have c6 := zDM v p 1 P szv szp srv srp (by have := mul17 _ (P + 2) lp; omega) (by omega);have c8 := zDM p v P 1 szp szv srp srv (by have := mul17 _ (1 + 2) (show v.ts.length ≤ 16 by omega); omega) (by omega);have one : sz 1 (-1 : Rat) := zCL (z := -1) (by decide);have c9 := zD7 p (-1) P 1 szp one srp (by omega) (by omega);have c10 := zD7 v (-1) 1 1 szv one srv (by omega) (by omega);have n0 : ∀ q : Rat, (numQ' q).ts.length = 0 := fun q => rfl
 have c11 := zDM p (numQ' (qv L)) P (V + 1) szp (zDE szL) srp (zDK _) (by omega) (by rw [n0]; omega);have c12 := zDM (numQ' (qv U)) p (V + 1) P (zDE szU) szp (zDK _) srp (by have := mul17 _ (P + 2) lp; omega) (by rw [n0]; omega);refine zAJ hmix hT ok_r21unit (by simp [encScp, encRow]) ?_
 (repeat' (first|refine stp ?_|with_reducible(refine brr ?_ ?_<;>intro h)));all_goals try(conv=>whnf)
 all_goals try (exfalso; omega)
 refine zAA cv rfl ?_;refine sts ?_;refine zAY (j := r.index.toNat) (show r.index = _ by omega) hj ?_;refine sts ?_;refine zAA cl rfl ?_;refine sts ?_;refine zAA cu rfl ?_;refine sts ?_;refine zAA cmin rfl ?_;refine sus ?_;refine tellV [] [(2, .ptr 0 0 0), (3, .ptr 1 0 0), (4, .ptr 2 0 0), (7, .ptr 3 0 0), (8, .ptr 4 0 0), (9, .ptr 5 0 0), (10, .bool lw), (11, .ptr 6 0 0), (12, .bool up), (13, .ptr 7 0 0)] [(0, ⟨[encScp S], 12, true⟩), (1, ⟨[encRow r], 4, true⟩), (2, ⟨[.agg [.nilsl, .bool false, .nilsl, .nilsl]], 4, true⟩), (3, ⟨[encF v], 4, true⟩), (4, ⟨[encF p], 4, true⟩), (5, ⟨[encRat L], 3, true⟩), (6, ⟨[encRat U], 3, true⟩), (7, ⟨[encRat (cr (-1))], 3, true⟩)] [] 8 (by decide) (by simp) trivial ⟨[0, 1, 2, _, _, _, _, _], [], [], [], ttt, ⟨(apy rfl), (apy rfl), (apy rfl), (apy rfl), (apy rfl), (apy rfl), zAG rfl rfl, (apy rfl), zAG rfl rfl, (apy rfl), trivial⟩, ⟨bbx, bbx, bbx, bbx, zJ1 (by decide) rfl hpu rfl rfl rfl, bbx, bbx, bbx, trivial⟩, by simp [ren]⟩ ?_;refine r_cut ⟨sv [(2, .ptr 0 0 0), (3, .ptr 1 0 0), (4, .ptr 2 0 0), (7, .ptr 3 0 0), (8, .ptr 4 0 0), (9, .ptr 5 0 0), (10, .bool lw), (11, .ptr 6 0 0), (12, .bool up), (13, .ptr 7 0 0), (14, .bool on)], hv [(0, ⟨[encScp S], 12, true⟩), (1, ⟨[encRow r], 4, true⟩), (2, ⟨[.agg [.nilsl, .bool false, .nilsl, .nilsl]], 4, true⟩), (3, ⟨[encF v], 4, true⟩), (4, ⟨[encF p], 4, true⟩), (5, ⟨[encRat L], 3, true⟩), (6, ⟨[encRat U], 3, true⟩), (7, ⟨[encRat (cr (-1))], 3, true⟩)], zv [], 8⟩ ?_ fun H9 => ?_
 rotate_left
 ·(repeat' (first|refine stu ?_|with_reducible(refine brr ?_ ?_<;>intro h)));all_goals try(conv=>whnf)
  ·refine zAA cd1 rfl ?_
   (repeat' (first|refine stu ?_|with_reducible(refine brr ?_ ?_<;>intro h)));all_goals try(conv=>whnf)
   ·refine tellV [] [(2, .ptr 0 0 0), (3, .ptr 1 0 0), (4, .ptr 2 0 0), (7, .ptr 3 0 0), (8, .ptr 4 0 0), (9, .ptr 5 0 0), (10, .bool lw), (11, .ptr 6 0 0), (12, .bool up), (13, .ptr 7 0 0), (14, .bool on)] [(0, ⟨[encScp S], 12, true⟩), (1, ⟨[encRow r], 4, true⟩), (2, ⟨[.agg [.nilsl, .bool false, .nilsl, .nilsl]], 4, true⟩), (3, ⟨[encF v], 4, true⟩), (4, ⟨[encF p], 4, true⟩), (5, ⟨[encRat L], 3, true⟩), (6, ⟨[encRat U], 3, true⟩), (7, ⟨[encRat (cr (-1))], 3, true⟩)] [] 8 (by decide) (by simp) trivial ⟨[0, 1, 2, 3, 4, 5, 6, 7], [], [], [], ttt, ⟨apx, apx, apx, apx, apx, apx, zAG rfl rfl, apx, zAG rfl rfl, apx, zAG rfl (by rw [← hon]; unfold onP; rw [Bool.eq_iff_iff]; clear sl su cd1 cd2 hL hU hlw hup hvv hp hD1 hD2 cv cl cu cmin cnl cnu c6 c8 c9 c10 c11 c12 hpu; simp_all), trivial⟩, ⟨bbx, bbx, bbx, bbx, bbx, bbx, bbx, bbx, trivial⟩, by simp [ren]⟩ ?_; exact H9
   ·refine zAA sl rfl ?_
    refine sus ?_;refine tellV [] [(2, .ptr 0 0 0), (3, .ptr 1 0 0), (4, .ptr 2 0 0), (7, .ptr 3 0 0), (8, .ptr 4 0 0), (9, .ptr 5 0 0), (10, .bool lw), (11, .ptr 6 0 0), (12, .bool up), (13, .ptr 7 0 0), (14, .bool on)] [(0, ⟨[encScp S], 12, true⟩), (1, ⟨[encRow r], 4, true⟩), (2, ⟨[.agg [.nilsl, .bool false, .nilsl, .nilsl]], 4, true⟩), (3, ⟨[encF v], 4, true⟩), (4, ⟨[encF p], 4, true⟩), (5, ⟨[encRat L], 3, true⟩), (6, ⟨[encRat U], 3, true⟩), (7, ⟨[encRat (cr (-1))], 3, true⟩)] [] 8 (by decide) (by simp) trivial ⟨[0, 1, 2, 3, 4, 5, 6, 7], [], [], [], ttt, ⟨apx, apx, apx, apx, apx, apx, zAG rfl rfl, apx, zAG rfl rfl, apx, zAG rfl (by rw [← hon]; unfold onP; rw [Bool.eq_iff_iff]; clear sl su cd1 cd2 hL hU hlw hup hvv hp hD1 hD2 cv cl cu cmin cnl cnu c6 c8 c9 c10 c11 c12 hpu; simp_all), trivial⟩, ⟨bbx, bbx, bbx, bbx, bbx, bbx, bbx, bbx, trivial⟩, by simp [ren]⟩ ?_; exact H9
   ·refine tellV [] [(2, .ptr 0 0 0), (3, .ptr 1 0 0), (4, .ptr 2 0 0), (7, .ptr 3 0 0), (8, .ptr 4 0 0), (9, .ptr 5 0 0), (10, .bool lw), (11, .ptr 6 0 0), (12, .bool up), (13, .ptr 7 0 0), (14, .bool on)] [(0, ⟨[encScp S], 12, true⟩), (1, ⟨[encRow r], 4, true⟩), (2, ⟨[.agg [.nilsl, .bool false, .nilsl, .nilsl]], 4, true⟩), (3, ⟨[encF v], 4, true⟩), (4, ⟨[encF p], 4, true⟩), (5, ⟨[encRat L], 3, true⟩), (6, ⟨[encRat U], 3, true⟩), (7, ⟨[encRat (cr (-1))], 3, true⟩)] [] 8 (by decide) (by simp) trivial ⟨[0, 1, 2, 3, 4, 5, 6, 7], [], [], [], ttt, ⟨apx, apx, apx, apx, apx, apx, zAG rfl rfl, apx, zAG rfl rfl, apx, zAG rfl (by rw [← hon]; unfold onP; rw [Bool.eq_iff_iff]; clear sl su cd1 cd2 hL hU hlw hup hvv hp hD1 hD2 cv cl cu cmin cnl cnu c6 c8 c9 c10 c11 c12 hpu; simp_all), trivial⟩, ⟨bbx, bbx, bbx, bbx, bbx, bbx, bbx, bbx, trivial⟩, by simp [ren]⟩ ?_; exact H9
  ·refine zAA sl rfl ?_
   refine sus ?_;refine tellV [] [(2, .ptr 0 0 0), (3, .ptr 1 0 0), (4, .ptr 2 0 0), (7, .ptr 3 0 0), (8, .ptr 4 0 0), (9, .ptr 5 0 0), (10, .bool lw), (11, .ptr 6 0 0), (12, .bool up), (13, .ptr 7 0 0), (14, .bool on)] [(0, ⟨[encScp S], 12, true⟩), (1, ⟨[encRow r], 4, true⟩), (2, ⟨[.agg [.nilsl, .bool false, .nilsl, .nilsl]], 4, true⟩), (3, ⟨[encF v], 4, true⟩), (4, ⟨[encF p], 4, true⟩), (5, ⟨[encRat L], 3, true⟩), (6, ⟨[encRat U], 3, true⟩), (7, ⟨[encRat (cr (-1))], 3, true⟩)] [] 8 (by decide) (by simp) trivial ⟨[0, 1, 2, 3, 4, 5, 6, 7], [], [], [], ttt, ⟨apx, apx, apx, apx, apx, apx, zAG rfl rfl, apx, zAG rfl rfl, apx, zAG rfl (by rw [← hon]; unfold onP; rw [Bool.eq_iff_iff]; clear sl su cd1 cd2 hL hU hlw hup hvv hp hD1 hD2 cv cl cu cmin cnl cnu c6 c8 c9 c10 c11 c12 hpu; simp_all), trivial⟩, ⟨bbx, bbx, bbx, bbx, bbx, bbx, bbx, bbx, trivial⟩, by simp [ren]⟩ ?_; exact H9
  ·refine tellV [] [(2, .ptr 0 0 0), (3, .ptr 1 0 0), (4, .ptr 2 0 0), (7, .ptr 3 0 0), (8, .ptr 4 0 0), (9, .ptr 5 0 0), (10, .bool lw), (11, .ptr 6 0 0), (12, .bool up), (13, .ptr 7 0 0), (14, .bool on)] [(0, ⟨[encScp S], 12, true⟩), (1, ⟨[encRow r], 4, true⟩), (2, ⟨[.agg [.nilsl, .bool false, .nilsl, .nilsl]], 4, true⟩), (3, ⟨[encF v], 4, true⟩), (4, ⟨[encF p], 4, true⟩), (5, ⟨[encRat L], 3, true⟩), (6, ⟨[encRat U], 3, true⟩), (7, ⟨[encRat (cr (-1))], 3, true⟩)] [] 8 (by decide) (by simp) trivial ⟨[0, 1, 2, 3, 4, 5, 6, 7], [], [], [], ttt, ⟨apx, apx, apx, apx, apx, apx, zAG rfl rfl, apx, zAG rfl rfl, apx, zAG rfl (by rw [← hon]; unfold onP; rw [Bool.eq_iff_iff]; clear sl su cd1 cd2 hL hU hlw hup hvv hp hD1 hD2 cv cl cu cmin cnl cnu c6 c8 c9 c10 c11 c12 hpu; simp_all), trivial⟩, ⟨bbx, bbx, bbx, bbx, bbx, bbx, bbx, bbx, trivial⟩, by simp [ren]⟩ ?_; exact H9
  ·refine tellV [] [(2, .ptr 0 0 0), (3, .ptr 1 0 0), (4, .ptr 2 0 0), (7, .ptr 3 0 0), (8, .ptr 4 0 0), (9, .ptr 5 0 0), (10, .bool lw), (11, .ptr 6 0 0), (12, .bool up), (13, .ptr 7 0 0), (14, .bool on)] [(0, ⟨[encScp S], 12, true⟩), (1, ⟨[encRow r], 4, true⟩), (2, ⟨[.agg [.nilsl, .bool false, .nilsl, .nilsl]], 4, true⟩), (3, ⟨[encF v], 4, true⟩), (4, ⟨[encF p], 4, true⟩), (5, ⟨[encRat L], 3, true⟩), (6, ⟨[encRat U], 3, true⟩), (7, ⟨[encRat (cr (-1))], 3, true⟩)] [] 8 (by decide) (by simp) trivial ⟨[0, 1, 2, 3, 4, 5, 6, 7], [], [], [], ttt, ⟨apx, apx, apx, apx, apx, apx, zAG rfl rfl, apx, zAG rfl rfl, apx, zAG rfl (by rw [← hon]; unfold onP; rw [Bool.eq_iff_iff]; clear sl su cd1 cd2 hL hU hlw hup hvv hp hD1 hD2 cv cl cu cmin cnl cnu c6 c8 c9 c10 c11 c12 hpu; simp_all), trivial⟩, ⟨bbx, bbx, bbx, bbx, bbx, bbx, bbx, bbx, trivial⟩, by simp [ren]⟩ ?_; exact H9
 refine r_cut ⟨sv [(2, .ptr 0 0 0), (3, .ptr 1 0 0), (4, .ptr 2 0 0), (7, .ptr 3 0 0), (8, .ptr 4 0 0), (9, .ptr 5 0 0), (10, .bool lw), (11, .ptr 6 0 0), (12, .bool up), (13, .ptr 7 0 0), (14, .bool on), (15, .bool off)], hv [(0, ⟨[encScp S], 12, true⟩), (1, ⟨[encRow r], 4, true⟩), (2, ⟨[.agg [.nilsl, .bool false, .nilsl, .nilsl]], 4, true⟩), (3, ⟨[encF v], 4, true⟩), (4, ⟨[encF p], 4, true⟩), (5, ⟨[encRat L], 3, true⟩), (6, ⟨[encRat U], 3, true⟩), (7, ⟨[encRat (cr (-1))], 3, true⟩)], zv [], 8⟩ ?_ fun H10 => ?_
 rotate_left
 ·(repeat' (first|refine stu ?_|with_reducible(refine brr ?_ ?_<;>intro h)));all_goals try(conv=>whnf)
  ·refine zAA cd2 rfl ?_
   (repeat' (first|refine stu ?_|with_reducible(refine brr ?_ ?_<;>intro h)));all_goals try(conv=>whnf)
   ·refine tellV [] [(2, .ptr 0 0 0), (3, .ptr 1 0 0), (4, .ptr 2 0 0), (7, .ptr 3 0 0), (8, .ptr 4 0 0), (9, .ptr 5 0 0), (10, .bool lw), (11, .ptr 6 0 0), (12, .bool up), (13, .ptr 7 0 0), (14, .bool on), (15, .bool off)] [(0, ⟨[encScp S], 12, true⟩), (1, ⟨[encRow r], 4, true⟩), (2, ⟨[.agg [.nilsl, .bool false, .nilsl, .nilsl]], 4, true⟩), (3, ⟨[encF v], 4, true⟩), (4, ⟨[encF p], 4, true⟩), (5, ⟨[encRat L], 3, true⟩), (6, ⟨[encRat U], 3, true⟩), (7, ⟨[encRat (cr (-1))], 3, true⟩)] [] 8 (by decide) (by simp) trivial ⟨[0, 1, 2, 3, 4, 5, 6, 7], [], [], [], ttt, ⟨apx, apx, apx, apx, apx, apx, zAG rfl rfl, apx, zAG rfl rfl, apx, zAG rfl rfl, zAG rfl (by rw [← hoff]; unfold offP; rw [Bool.eq_iff_iff]; clear sl su cd1 cd2 hL hU hlw hup hvv hp hD1 hD2 cv cl cu cmin cnl cnu c6 c8 c9 c10 c11 c12 hpu; simp_all), trivial⟩, ⟨bbx, bbx, bbx, bbx, bbx, bbx, bbx, bbx, trivial⟩, by simp [ren]⟩ ?_; exact H10
   ·refine zAA su rfl ?_
    refine sus ?_;refine tellV [] [(2, .ptr 0 0 0), (3, .ptr 1 0 0), (4, .ptr 2 0 0), (7, .ptr 3 0 0), (8, .ptr 4 0 0), (9, .ptr 5 0 0), (10, .bool lw), (11, .ptr 6 0 0), (12, .bool up), (13, .ptr 7 0 0), (14, .bool on), (15, .bool off)] [(0, ⟨[encScp S], 12, true⟩), (1, ⟨[encRow r], 4, true⟩), (2, ⟨[.agg [.nilsl, .bool false, .nilsl, .nilsl]], 4, true⟩), (3, ⟨[encF v], 4, true⟩), (4, ⟨[encF p], 4, true⟩), (5, ⟨[encRat L], 3, true⟩), (6, ⟨[encRat U], 3, true⟩), (7, ⟨[encRat (cr (-1))], 3, true⟩)] [] 8 (by decide) (by simp) trivial ⟨[0, 1, 2, 3, 4, 5, 6, 7], [], [], [], ttt, ⟨apx, apx, apx, apx, apx, apx, zAG rfl rfl, apx, zAG rfl rfl, apx, zAG rfl rfl, zAG rfl (by rw [← hoff]; unfold offP; rw [Bool.eq_iff_iff]; clear sl su cd1 cd2 hL hU hlw hup hvv hp hD1 hD2 cv cl cu cmin cnl cnu c6 c8 c9 c10 c11 c12 hpu; simp_all), trivial⟩, ⟨bbx, bbx, bbx, bbx, bbx, bbx, bbx, bbx, trivial⟩, by simp [ren]⟩ ?_; exact H10
   ·refine tellV [] [(2, .ptr 0 0 0), (3, .ptr 1 0 0), (4, .ptr 2 0 0), (7, .ptr 3 0 0), (8, .ptr 4 0 0), (9, .ptr 5 0 0), (10, .bool lw), (11, .ptr 6 0 0), (12, .bool up), (13, .ptr 7 0 0), (14, .bool on), (15, .bool off)] [(0, ⟨[encScp S], 12, true⟩), (1, ⟨[encRow r], 4, true⟩), (2, ⟨[.agg [.nilsl, .bool false, .nilsl, .nilsl]], 4, true⟩), (3, ⟨[encF v], 4, true⟩), (4, ⟨[encF p], 4, true⟩), (5, ⟨[encRat L], 3, true⟩), (6, ⟨[encRat U], 3, true⟩), (7, ⟨[encRat (cr (-1))], 3, true⟩)] [] 8 (by decide) (by simp) trivial ⟨[0, 1, 2, 3, 4, 5, 6, 7], [], [], [], ttt, ⟨apx, apx, apx, apx, apx, apx, zAG rfl rfl, apx, zAG rfl rfl, apx, zAG rfl rfl, zAG rfl (by rw [← hoff]; unfold offP; rw [Bool.eq_iff_iff]; clear sl su cd1 cd2 hL hU hlw hup hvv hp hD1 hD2 cv cl cu cmin cnl cnu c6 c8 c9 c10 c11 c12 hpu; simp_all), trivial⟩, ⟨bbx, bbx, bbx, bbx, bbx, bbx, bbx, bbx, trivial⟩, by simp [ren]⟩ ?_; exact H10
  ·refine zAA su rfl ?_
   refine sus ?_;refine tellV [] [(2, .ptr 0 0 0), (3, .ptr 1 0 0), (4, .ptr 2 0 0), (7, .ptr 3 0 0), (8, .ptr 4 0 0), (9, .ptr 5 0 0), (10, .bool lw), (11, .ptr 6 0 0), (12, .bool up), (13, .ptr 7 0 0), (14, .bool on), (15, .bool off)] [(0, ⟨[encScp S], 12, true⟩), (1, ⟨[encRow r], 4, true⟩), (2, ⟨[.agg [.nilsl, .bool false, .nilsl, .nilsl]], 4, true⟩), (3, ⟨[encF v], 4, true⟩), (4, ⟨[encF p], 4, true⟩), (5, ⟨[encRat L], 3, true⟩), (6, ⟨[encRat U], 3, true⟩), (7, ⟨[encRat (cr (-1))], 3, true⟩)] [] 8 (by decide) (by simp) trivial ⟨[0, 1, 2, 3, 4, 5, 6, 7], [], [], [], ttt, ⟨apx, apx, apx, apx, apx, apx, zAG rfl rfl, apx, zAG rfl rfl, apx, zAG rfl rfl, zAG rfl (by rw [← hoff]; unfold offP; rw [Bool.eq_iff_iff]; clear sl su cd1 cd2 hL hU hlw hup hvv hp hD1 hD2 cv cl cu cmin cnl cnu c6 c8 c9 c10 c11 c12 hpu; simp_all), trivial⟩, ⟨bbx, bbx, bbx, bbx, bbx, bbx, bbx, bbx, trivial⟩, by simp [ren]⟩ ?_; exact H10
  ·refine tellV [] [(2, .ptr 0 0 0), (3, .ptr 1 0 0), (4, .ptr 2 0 0), (7, .ptr 3 0 0), (8, .ptr 4 0 0), (9, .ptr 5 0 0), (10, .bool lw), (11, .ptr 6 0 0), (12, .bool up), (13, .ptr 7 0 0), (14, .bool on), (15, .bool off)] [(0, ⟨[encScp S], 12, true⟩), (1, ⟨[encRow r], 4, true⟩), (2, ⟨[.agg [.nilsl, .bool false, .nilsl, .nilsl]], 4, true⟩), (3, ⟨[encF v], 4, true⟩), (4, ⟨[encF p], 4, true⟩), (5, ⟨[encRat L], 3, true⟩), (6, ⟨[encRat U], 3, true⟩), (7, ⟨[encRat (cr (-1))], 3, true⟩)] [] 8 (by decide) (by simp) trivial ⟨[0, 1, 2, 3, 4, 5, 6, 7], [], [], [], ttt, ⟨apx, apx, apx, apx, apx, apx, zAG rfl rfl, apx, zAG rfl rfl, apx, zAG rfl rfl, zAG rfl (by rw [← hoff]; unfold offP; rw [Bool.eq_iff_iff]; clear sl su cd1 cd2 hL hU hlw hup hvv hp hD1 hD2 cv cl cu cmin cnl cnu c6 c8 c9 c10 c11 c12 hpu; simp_all), trivial⟩, ⟨bbx, bbx, bbx, bbx, bbx, bbx, bbx, bbx, trivial⟩, by simp [ren]⟩ ?_; exact H10
  ·refine tellV [] [(2, .ptr 0 0 0), (3, .ptr 1 0 0), (4, .ptr 2 0 0), (7, .ptr 3 0 0), (8, .ptr 4 0 0), (9, .ptr 5 0 0), (10, .bool lw), (11, .ptr 6 0 0), (12, .bool up), (13, .ptr 7 0 0), (14, .bool on), (15, .bool off)] [(0, ⟨[encScp S], 12, true⟩), (1, ⟨[encRow r], 4, true⟩), (2, ⟨[.agg [.nilsl, .bool false, .nilsl, .nilsl]], 4, true⟩), (3, ⟨[encF v], 4, true⟩), (4, ⟨[encF p], 4, true⟩), (5, ⟨[encRat L], 3, true⟩), (6, ⟨[encRat U], 3, true⟩), (7, ⟨[encRat (cr (-1))], 3, true⟩)] [] 8 (by decide) (by simp) trivial ⟨[0, 1, 2, 3, 4, 5, 6, 7], [], [], [], ttt, ⟨apx, apx, apx, apx, apx, apx, zAG rfl rfl, apx, zAG rfl rfl, apx, zAG rfl rfl, zAG rfl (by rw [← hoff]; unfold offP; rw [Bool.eq_iff_iff]; clear sl su cd1 cd2 hL hU hlw hup hvv hp hD1 hD2 cv cl cu cmin cnl cnu c6 c8 c9 c10 c11 c12 hpu; simp_all), trivial⟩, ⟨bbx, bbx, bbx, bbx, bbx, bbx, bbx, bbx, trivial⟩, by simp [ren]⟩ ?_; exact H10
 clear cd1 cd2 hon hoff;have hpl2 : pl = true ↔ r.lo = 0 ∧ r.hi = 0 := by rw [← hpl]; unfold plainP; simp
 clear hpl;have end0 : ∀ {X : QF × Bool}, X.2 = false → PV.tup [.agg [.imm [], .bool false, .imm [], .imm []], .bool false] = .tup [encF (if X.2 = true then X.1 else zeroQ), .bool X.2] := fun h => by rw [h, if_neg (by decide), ← zA4]
 have end1 : ∀ {X : QF × Bool}, X.2 = true → PV.tup [encF X.1, .bool true] = .tup [encF (if X.2 = true then X.1 else zeroQ), .bool X.2] := fun h => by rw [h, if_pos rfl]
 (repeat' (first|refine stp ?_|with_reducible(refine brr ?_ ?_<;>intro h)));all_goals try(conv=>whnf)
 ·have e : frmR r v p L U lw up on off pl = (v, pl) := by unfold frmR; (repeat rw [if_neg (by omega)]); rw [if_pos (by omega)]
  (have hb := (hpl2.2 ⟨by assumption, by assumption⟩); exact zAB rfl (by rw [e]; dsimp only; rw [hb, if_pos rfl]; rfl))
 ·have e : frmR r v p L U lw up on off pl = (v, pl) := by unfold frmR; (repeat rw [if_neg (by omega)]); rw [if_pos (by omega)]
  (have hb := (show pl = false by rw [Bool.eq_false_iff]; intro q; have := hpl2.1 q; omega); exact zAB rfl (by rw [e]; dsimp only; rw [hb, if_neg (by decide), ← zA4]))
 ·have e : frmR r v p L U lw up on off pl = (v, pl) := by unfold frmR; (repeat rw [if_neg (by omega)]); rw [if_pos (by omega)]
  (have hb := (show pl = false by rw [Bool.eq_false_iff]; intro q; have := hpl2.1 q; omega); exact zAB rfl (by rw [e]; dsimp only; rw [hb, if_neg (by decide), ← zA4]))
 ·have e : frmR r v p L U lw up on off pl = (subQ v p, pl) := by unfold frmR; (repeat rw [if_neg (by omega)]); rw [if_pos (by omega)]
  refine zAA c6 rfl ?_
  (repeat' (first|refine stp ?_|with_reducible(refine brr ?_ ?_<;>intro h)));all_goals try(conv=>whnf)
  ·(have hb := (hpl2.2 ⟨by assumption, by assumption⟩); exact zAB rfl (by rw [e]; dsimp only; rw [hb, if_pos rfl]; rfl))
  ·(have hb := (show pl = false by rw [Bool.eq_false_iff]; intro q; have := hpl2.1 q; omega); exact zAB rfl (by rw [e]; dsimp only; rw [hb, if_neg (by decide), ← zA4]))
  ·(have hb := (show pl = false by rw [Bool.eq_false_iff]; intro q; have := hpl2.1 q; omega); exact zAB rfl (by rw [e]; dsimp only; rw [hb, if_neg (by decide), ← zA4]))
 ·have e : frmR r v p L U lw up on off pl = (p, on) := by unfold frmR; (repeat rw [if_neg (by omega)]); rw [if_pos (by omega)]
  (have hb := (show on = true by assumption); exact zAB rfl (by rw [e]; dsimp only; rw [hb, if_pos rfl]; rfl))
 ·have e : frmR r v p L U lw up on off pl = (p, on) := by unfold frmR; (repeat rw [if_neg (by omega)]); rw [if_pos (by omega)]
  (have hb := (show on = false by assumption); exact zAB rfl (by rw [e]; dsimp only; rw [hb, if_neg (by decide), ← zA4]))
 ·have e : frmR r v p L U lw up on off pl = (subQ p v, on) := by unfold frmR; (repeat rw [if_neg (by omega)]); rw [if_pos (by omega)]
  refine zAA c8 rfl ?_
  (repeat' (first|refine stp ?_|with_reducible(refine brr ?_ ?_<;>intro h)));all_goals try(conv=>whnf)
  ·(have hb := (show on = true by assumption); exact zAB rfl (by rw [e]; dsimp only; rw [hb, if_pos rfl]; rfl))
  ·(have hb := (show on = false by assumption); exact zAB rfl (by rw [e]; dsimp only; rw [hb, if_neg (by decide), ← zA4]))
 ·have e : frmR r v p L U lw up on off pl = (sclQ p (-1), off) := by unfold frmR; (repeat rw [if_neg (by omega)]); rw [if_pos (by omega)]
  refine zAA c9 rfl ?_
  (repeat' (first|refine stp ?_|with_reducible(refine brr ?_ ?_<;>intro h)));all_goals try(conv=>whnf)
  ·(have hb := (show off = true by assumption); exact zAB rfl (by rw [e]; dsimp only; rw [hb, if_pos rfl]; rfl))
  ·(have hb := (show off = false by assumption); exact zAB rfl (by rw [e]; dsimp only; rw [hb, if_neg (by decide), ← zA4]))
 ·have e : frmR r v p L U lw up on off pl = (sclQ v (-1), off) := by unfold frmR; (repeat rw [if_neg (by omega)]); rw [if_pos (by omega)]
  refine zAA c10 rfl ?_
  (repeat' (first|refine stp ?_|with_reducible(refine brr ?_ ?_<;>intro h)));all_goals try(conv=>whnf)
  ·(have hb := (show off = true by assumption); exact zAB rfl (by rw [e]; dsimp only; rw [hb, if_pos rfl]; rfl))
  ·(have hb := (show off = false by assumption); exact zAB rfl (by rw [e]; dsimp only; rw [hb, if_neg (by decide), ← zA4]))
 ·have e : frmR r v p L U lw up on off pl = (subQ p (numQ' (qv L)), (lw && decide (r.hi = 0))) := by unfold frmR; (repeat rw [if_neg (by omega)]); rw [if_pos (by omega)]
  refine zAA cnl rfl ?_;refine sts ?_;refine zAA c11 rfl ?_
  (repeat' (first|refine stp ?_|with_reducible(refine brr ?_ ?_<;>intro h)));all_goals try(conv=>whnf)
  ·(have hb := (show (lw && decide (r.hi = 0)) = true by simp [*]); exact zAB rfl (by rw [e]; dsimp only; rw [hb, if_pos rfl]; rfl))
  ·(have hb := (show (lw && decide (r.hi = 0)) = false by simp [*]); exact zAB rfl (by rw [e]; dsimp only; rw [hb, if_neg (by decide), ← zA4]))
  ·(have hb := (show (lw && decide (r.hi = 0)) = false by simp [*]); exact zAB rfl (by rw [e]; dsimp only; rw [hb, if_neg (by decide), ← zA4]))
 ·have e : frmR r v p L U lw up on off pl = (subQ (numQ' (qv U)) p, (up && decide (r.lo = 0))) := by unfold frmR; (repeat rw [if_neg (by omega)]); rw [if_pos (by omega)]
  refine zAA cnu rfl ?_;refine sts ?_;refine zAA c12 rfl ?_
  (repeat' (first|refine stp ?_|with_reducible(refine brr ?_ ?_<;>intro h)));all_goals try(conv=>whnf)
  ·(have hb := (show (up && decide (r.lo = 0)) = true by simp [*]); exact zAB rfl (by rw [e]; dsimp only; rw [hb, if_pos rfl]; rfl))
  ·(have hb := (show (up && decide (r.lo = 0)) = false by simp [*]); exact zAB rfl (by rw [e]; dsimp only; rw [hb, if_neg (by decide), ← zA4]))
  ·(have hb := (show (up && decide (r.lo = 0)) = false by simp [*]); exact zAB rfl (by rw [e]; dsimp only; rw [hb, if_neg (by decide), ← zA4]))
 ·have e : frmR r v p L U lw up on off pl = (triQ v p (qv L) (qv U), (lw && (up && (decide (sgnQ (qv L) < 0) && decide (0 < sgnQ (qv U)))))) := by unfold frmR; (repeat rw [if_neg (by omega)]); rw [if_pos (by omega)]
  have z1 : szF (P + V + 3) (subQ p (numQ' (qv L))) := zED szp (zDE szL) (by omega);have s1 : Srt (subQ p (numQ' (qv L))).ts := zA8 srp (zDK _);have l1 := zHD (f := p) (c := qv L);have q1 := zD7 (subQ p (numQ' (qv L))) (qv U) _ _ z1 szU s1 (by omega) (by omega);rw [hUc] at q1;have q2 := c_rqsub U L hUk.1 hLk.1 (by have := hUk.2; omega) (by have := hUk.2; omega) (by have := hLk.2; omega) (by have := hLk.2; omega);have z2 : sz (2 * V + 4) (qv U - qv L) := zC9 (by omega) (sz_sub szU szL);have q3 := zD7 v (qv U - qv L) _ _ szv z2 srv (by omega) (by omega);have z3 : szF (P + 2 * V + 8) (sclQ (subQ p (numQ' (qv L))) (qv U)) := zF0 z1 szU (by omega);have z4 : szF (2 * V + 8) (sclQ v (qv U - qv L)) := zF0 szv z2 (by omega);have l2 := zHW (f := v) (c := qv U - qv L);have l3 := zHW (f := subQ p (numQ' (qv L))) (c := qv U);have q4 := zDM (sclQ (subQ p (numQ' (qv L))) (qv U)) (sclQ v (qv U - qv L)) _ _ z3 z4 (zA8 zCK s1) (zA8 zCK srv) (by have := mul17 _ (2 * V + 8 + 2) (show (sclQ v (qv U - qv L)).ts.length ≤ 16 by omega); omega) (by omega);refine zAA cnl rfl ?_;refine sts ?_;refine zAA c11 rfl ?_;refine sts ?_;refine zAA q1 rfl ?_;refine sts ?_;refine zAA q2 rfl ?_;refine sts ?_;refine zAA q3 rfl ?_;refine sts ?_;refine zAA q4 rfl ?_
  (repeat' (first|refine stp ?_|with_reducible(refine brr ?_ ?_<;>intro h)));all_goals try(conv=>whnf)
  ·refine zAA sl rfl ?_
   (repeat' (first|refine stp ?_|with_reducible(refine brr ?_ ?_<;>intro h)));all_goals try(conv=>whnf)
   ·refine zAA su rfl ?_
    (repeat' (first|refine stp ?_|with_reducible(refine brr ?_ ?_<;>intro h)));all_goals try(conv=>whnf)
    ·(have hb := (show (lw && (up && (decide (sgnQ (qv L) < 0) && decide (0 < sgnQ (qv U))))) = true by simp [*]); exact zAB rfl (by rw [e]; dsimp only; rw [hb, if_pos rfl]; rfl))
    ·(have hb := (show (lw && (up && (decide (sgnQ (qv L) < 0) && decide (0 < sgnQ (qv U))))) = false by simp [*]); exact zAB rfl (by rw [e]; dsimp only; rw [hb, if_neg (by decide), ← zA4]))
   ·(have hb := (show (lw && (up && (decide (sgnQ (qv L) < 0) && decide (0 < sgnQ (qv U))))) = false by simp [*]); exact zAB rfl (by rw [e]; dsimp only; rw [hb, if_neg (by decide), ← zA4]))
  ·(have hb := (show (lw && (up && (decide (sgnQ (qv L) < 0) && decide (0 < sgnQ (qv U))))) = false by simp [*]); exact zAB rfl (by rw [e]; dsimp only; rw [hb, if_neg (by decide), ← zA4]))
  ·(have hb := (show (lw && (up && (decide (sgnQ (qv L) < 0) && decide (0 < sgnQ (qv U))))) = false by simp [*]); exact zAB rfl (by rw [e]; dsimp only; rw [hb, if_neg (by decide), ← zA4]))
 ·have e : frmR r v p L U lw up on off pl = (zeroQ, false) := by unfold frmR; repeat rw [if_neg (by omega)]
  (have hb := (rfl (a := false)); exact zAB rfl (by rw [e]; dsimp only; rw [hb, if_neg (by decide), ← zA4]))
end Go.PI.Tryz
namespace Go.PI.Tryz
open Go.Proofs Go.PI
set_option maxHeartbeats 0
theorem ge_bnd' {S : ScpL} {n j : Int} {up : Bool} : geO (bndO S n j up) = (bndB S n j up && decide (0 ≤ sgnQ (qv (lemR S n j up)))) := by
 rw [ge_bnd];unfold lemR;cases bndB S n j up <;> simp
theorem le_bnd' {S : ScpL} {n j : Int} {up : Bool} : leO (bndO S n j up) = (bndB S n j up && decide (sgnQ (qv (lemR S n j up)) ≤ 0)) := by
 rw [le_bnd];unfold lemR;cases bndB S n j up <;> simp
theorem bnd_if {S : ScpL} {n j : Int} {up : Bool} : bndO S n j up = (if bndB S n j up = true then some (qv (lemR S n j up)) else none) := by
 unfold lemR;cases h : bndB S n j up with
 | true => rw [if_pos rfl, if_pos rfl, zJB h]
 | false => rw [if_neg (by decide), zHO h]
abbrev frmRS (S : ScpL) (r : RowL) : QF × Bool := frmR r (varQ (S.q.g.ins + r.index)) S.q.g.units[r.index.toNat]!.Q (lemR S r.lo r.index false) (lemR S r.hi r.index true) (bndB S r.lo r.index false) (bndB S r.hi r.index true) (onP r (lemR S r.lo r.index false) (bndB S r.lo r.index false) (decB S 1 r.index)) (offP r (lemR S r.hi r.index true) (bndB S r.hi r.index true) (decB S 2 r.index)) (plainP r)
theorem frmR_spec {S : ScpL} {r : RowL} (hk : 5 ≤ r.kind) (hi : 0 ≤ r.index ∧ r.index < S.q.g.units.length) : rowO S r = (if (frmRS S r).2 = true then some (frmRS S r).1 else none) := by
 have hon : onB S r = onP r (lemR S r.lo r.index false) (bndB S r.lo r.index false) (decB S 1 r.index) := by unfold onB onP; rw [ge_bnd']
 have hoff : offB S r = offP r (lemR S r.hi r.index true) (bndB S r.hi r.index true) (decB S 2 r.index) := by unfold offB offP; rw [le_bnd']
 have hpl : (r.lo = 0 ∧ r.hi = 0) ↔ plainP r = true := by unfold plainP; simp
 unfold rowO unO frmRS;rw [if_neg (by omega), if_neg (by omega), hon, hoff, bnd_if, bnd_if];generalize onP r (lemR S r.lo r.index false) (bndB S r.lo r.index false) (decB S 1 r.index) = on;generalize offP r (lemR S r.hi r.index true) (bndB S r.hi r.index true) (decB S 2 r.index) = off;generalize bndB S r.lo r.index false = lw;generalize bndB S r.hi r.index true = up;generalize lemR S r.lo r.index false = L;generalize lemR S r.hi r.index true = U;generalize varQ (S.q.g.ins + r.index) = v;generalize S.q.g.units[r.index.toNat]!.Q = p;unfold frmR;by_cases k5 : r.kind = 5
 ·rw [if_pos k5, if_pos k5]; simp only [hpl]
 rw [if_neg k5, if_neg k5];by_cases k6 : r.kind = 6
 ·rw [if_pos k6, if_pos k6]; simp only [hpl]
 rw [if_neg k6, if_neg k6];by_cases k7 : r.kind = 7
 ·rw [if_pos k7, if_pos k7]
 rw [if_neg k7, if_neg k7];by_cases k8 : r.kind = 8
 ·rw [if_pos k8, if_pos k8]
 rw [if_neg k8, if_neg k8];by_cases k9 : r.kind = 9
 ·rw [if_pos k9, if_pos k9]
 rw [if_neg k9, if_neg k9];by_cases k10 : r.kind = 10
 ·rw [if_pos k10, if_pos k10]
 rw [if_neg k10, if_neg k10];by_cases k11 : r.kind = 11
 ·rw [if_pos k11, if_pos k11]
  cases lw <;> simp
 rw [if_neg k11, if_neg k11];by_cases k12 : r.kind = 12
 ·rw [if_pos k12, if_pos k12]
  cases up <;> simp
 rw [if_neg k12, if_neg k12];by_cases k13 : r.kind = 13
 ·rw [if_pos k13, if_pos k13]
  cases lw
  ·simp
  ·cases up
   ·simp
   ·simp only [if_true, Bool.true_and]
    by_cases hc : sgnQ (qv L) < 0 ∧ 0 < sgnQ (qv U)
    ·rw [if_pos (show qv L < 0 ∧ 0 < qv U from ⟨sgnQ_neg.1 hc.1, sgnQ_pos.1 hc.2⟩)]; simp [hc.1, hc.2]
    ·rw [if_neg (show ¬ (qv L < 0 ∧ 0 < qv U) from fun e => hc ⟨sgnQ_neg.2 e.1, sgnQ_pos.2 e.2⟩), if_neg (by simp only [Bool.and_eq_true, decide_eq_true_eq]; exact hc)]
 ·rw [if_neg k13, if_neg k13]; rfl
theorem zero_can : CanR ⟨false, [], []⟩ := by
 have h : qv (⟨false, [], []⟩ : RatL) = 0 := rfl;unfold CanR;rw [h, zJX]
theorem fit_can {q : QryL} {d : DecL} (h : fitD q d) : CanR d.rat := by
 rcases h with ⟨_, _, _, h1, h2, h3⟩ | ⟨_, _, _, h⟩
 ·obtain ⟨_, _, ⟨a, b, c⟩⟩ := d
  simp only at h1 h2 h3;obtain rfl := List.length_eq_zero_iff.1 h2;obtain rfl := List.length_eq_zero_iff.1 h3;subst h1;exact zero_can
 ·exact h
theorem ok_r21unitN : FO 170 Tryz.f170 [.cell 4 34, .tmp 5] 215 := mkO Tryz.func170 Tryz.ntmps170 Tryz.results170
theorem c_r21unitN (S : ScpL) (r : RowL) (hl : S.q.g.units.length ≤ 1048576) (hi : ¬ (0 ≤ r.index ∧ r.index < S.q.g.units.length)) : Fn 170 [encScp S, encRow r] (.data (.tup [.agg [.imm [], .bool false, .imm [], .imm []], .bool false])) := by
 refine zAJ hmix hT ok_r21unitN (by simp [encScp, encRow]) ?_
 (repeat' (first|refine stp ?_|with_reducible(refine brr ?_ ?_<;>intro h)));all_goals try(conv=>whnf)
 all_goals try (exfalso; omega)
 all_goals exact zAB rfl rfl
theorem zJL : FO 155 Tryz.f155 [.cell 4 34, .tmp 5] 138 := mkO Tryz.func155 Tryz.ntmps155 Tryz.results155
theorem c_r21form (S : ScpL) (r : RowL) (P V : Nat) (hS : okScp S) (hz : szS S P V) (hq : szQ S.q P) (hB2 : P + 2 * V ≤ 20000000) (hn : nvar S ≤ 16) : Fn 155 [encScp S, encRow r] (.data (.tup [encF ((rowO S r).getD zeroQ), .bool (rowO S r).isSome])) := by
 have cva := zHM S.q P hq (by omega);have hVa : dB (VaQ S.q) = true := dB_true.2 hS.1;rw [hVa] at cva;have none : rowO S r = none → PV.tup [.agg [.imm [], .bool false, .imm [], .imm []], .bool false] = .tup [encF ((rowO S r).getD zeroQ), .bool (rowO S r).isSome] := fun e => by rw [e, ← zA4]; rfl
 have some : ∀ f, rowO S r = some f → PV.tup [encF f, .bool true] = .tup [encF ((rowO S r).getD zeroQ), .bool (rowO S r).isSome] := fun f e => by rw [e]; rfl
 have l1 := hz.lo.1;have l2 := hz.hi.1;have l3 := hz.rows.1;have l4 := hz.path.1;have hP := hz.P1;by_cases hk : 5 ≤ r.kind
 ·by_cases hi : 0 ≤ r.index ∧ r.index < S.q.g.units.length
  ·have cu := c_r21unit S r P V hS hz hB2 hn hk hi _ _ _ _ _ _ _ _ _ _ _ rfl rfl rfl rfl rfl rfl rfl rfl rfl rfl rfl
   have e := frmR_spec (S := S) (r := r) hk hi
   have e2 : PV.tup [encF (if (frmRS S r).2 = true then (frmRS S r).1 else zeroQ), .bool (frmRS S r).2] = .tup [encF ((rowO S r).getD zeroQ), .bool (rowO S r).isSome] := by
    rw [e];cases (frmRS S r).2 <;> rfl
   rw [show frmR r (varQ (S.q.g.ins + r.index)) S.q.g.units[r.index.toNat]!.Q (lemR S r.lo r.index false) (lemR S r.hi r.index true) (bndB S r.lo r.index false) (bndB S r.hi r.index true) (onP r (lemR S r.lo r.index false) (bndB S r.lo r.index false) (decB S 1 r.index)) (offP r (lemR S r.hi r.index true) (bndB S r.hi r.index true) (decB S 2 r.index)) (plainP r) = frmRS S r from rfl, e2] at cu;refine zAJ hmix hT zJL (by simp [encScp, encRow]) ?_;refine sts ?_;refine zAA cva rfl ?_
   (repeat' (first|refine stp ?_|with_reducible(refine brr ?_ ?_<;>intro h)));all_goals try(conv=>whnf)
   all_goals try (exfalso; omega)
   refine zAA cu rfl ?_;refine sts ?_;exact zAB rfl rfl
  ·have cu := c_r21unitN S r (by have := hS.1.1.2.1; omega) hi
   have e : rowO S r = Option.none := by unfold rowO unO; rw [if_neg (by omega), if_pos (by omega)]
   rw [none e] at cu;refine zAJ hmix hT zJL (by simp [encScp, encRow]) ?_;refine sts ?_;refine zAA cva rfl ?_
   (repeat' (first|refine stp ?_|with_reducible(refine brr ?_ ?_<;>intro h)));all_goals try(conv=>whnf)
   all_goals try (exfalso; omega)
   refine zAA cu rfl ?_;refine sts ?_;exact zAB rfl rfl
 ·have hrow : rowO S r = inO S r := by unfold rowO; rw [if_pos (by omega)]
  rw [hrow] at none some;rw [hrow];refine zAJ hmix hT zJL (by simp [encScp, encRow]) ?_;refine sts ?_;refine zAA cva rfl ?_
  (repeat' (first|refine stp ?_|with_reducible(refine brr ?_ ?_<;>intro h)));all_goals try(conv=>whnf)
  all_goals try (exfalso; omega)
  all_goals first
   | exact zAB rfl (none (in_bad (by omega)))
   | exact zAB rfl (none (in_none (by omega) (by omega) (by omega) (by omega)))
   | skip
  ·have hj : r.index.toNat < S.q.r.lo.length := by omega
   have hc := (hS.1.2.1.2.2.2.2.1 r.index.toNat hj).1;have cv := zFN r.index;have cn := zDN _ hc;have cs := zDM (varQ r.index) (numQ' (qv S.q.r.lo[r.index.toNat]!)) 1 P (zC8 _) (zDE (zF2 (zBQ hz.lo hj) hP)) (zD8 _) (zDK _) (by simp [numQ']; omega) (by simp [varQ, numQ']);refine zAA cv rfl ?_;refine sts ?_;refine zAY (j := r.index.toNat) (show r.index = _ by omega) hj ?_;refine sts ?_;refine zAA cn rfl ?_;refine sts ?_;refine zAA cs rfl ?_;refine sts ?_;exact zAB rfl (some _ (in_1 (by omega) ⟨by assumption, by assumption⟩))
  ·have hj : r.index.toNat < S.q.r.hi.length := by omega
   have hc := (hS.1.2.1.2.2.2.2.1 r.index.toNat (by have := hS.1.2.1; have h1 := this.2.1; have h2 := this.2.2.1; omega)).2.1;have cv := zFN r.index;have cn := zDN _ hc;have cs := zDM (numQ' (qv S.q.r.hi[r.index.toNat]!)) (varQ r.index) P 1 (zDE (zF2 (zBQ hz.hi hj) hP)) (zC8 _) (zDK _) (zD8 _) (by simp [varQ]; omega) (by simp [varQ, numQ']);refine zAY (j := r.index.toNat) (show r.index = _ by omega) hj ?_;refine sts ?_;refine zAA cn rfl ?_;refine sts ?_;refine zAA cv rfl ?_;refine sts ?_;refine zAA cs rfl ?_;refine sts ?_;exact zAB rfl (some _ (in_2 (by omega) ⟨by assumption, by assumption⟩))
  ·have hj : r.index.toNat < S.q.r.rows.length := by omega
   have hv := hS.1.2.1.2.2.2.2.2 r.index.toNat hj;refine zAY (j := r.index.toNat) (show r.index = _ by omega) hj ?_;refine sts ?_;have e := some _ (in_3 (S := S) (r := r) (by omega) ⟨by assumption, by assumption⟩);rw [zL4 hv] at e;exact zAB rfl e
  ·have hj : r.index.toNat < S.path.length := by omega
   have hm := get_mem hj;have hf := hS.2 _ hm;have hd := hz.path.2 _ hm;have cf := zMD S.q S.path[r.index.toNat]! hq.g.1.1 (zBU (by omega) hd);rw [dB_true.2 hf] at cf;have hc := fit_can hf;generalize hD : S.path[r.index.toNat]! = D at *
   have cv := zFN D.index;have cn := zDN _ hc;have szn := zF2 hd hP;have cs := zDM (varQ D.index) (numQ' (qv D.rat)) 1 P (zC8 _) (zDE szn) (zD8 _) (zDK _) (by simp [numQ']; omega) (by simp [varQ, numQ']);have z1 : szF (P + 4) (subQ (varQ D.index) (numQ' (qv D.rat))) := zED (zC8 _) (zDE szn) (by omega);have s1 : Srt (subQ (varQ D.index) (numQ' (qv D.rat))).ts := zA8 (zD8 _) (zDK _);have l1 := zHD (f := varQ D.index) (c := qv D.rat);have cmin := zKF (-1) (by omega);have csc := zD7 (subQ (varQ D.index) (numQ' (qv D.rat))) (-1) _ 1 z1 (zCL (z := -1) (by decide)) s1 (by omega) (by have : (varQ D.index).ts.length = 1 := rfl; omega);rw [scl_sub (zD8 _) (zDK _)] at csc;refine zAY (j := r.index.toNat) (show r.index = _ by omega) hj ?_;rw [hD];refine sts ?_;refine zAA cf rfl ?_;refine sts ?_;refine zAY (j := r.index.toNat) (show r.index = _ by omega) hj ?_;rw [hD];refine sts ?_;refine zAA cv rfl ?_;refine sts ?_;refine zAA cn rfl ?_;refine sts ?_;refine zAA cs rfl ?_
   (repeat' (first|refine stp ?_|with_reducible(refine brr ?_ ?_<;>intro h)));all_goals try(conv=>whnf)
   ·exact zAB rfl (some _ (by rw [in_4 (by omega) ⟨by assumption, by omega⟩ (by rw [hD]; assumption), hD]))
   ·refine zAA cmin rfl ?_
    refine sts ?_;refine zAA csc rfl ?_;refine sts ?_;exact zAB rfl (some _ (by rw [in_4b (by omega) ⟨by assumption, by omega⟩ (by rw [hD]; assumption), hD]))
   ·exact zAB rfl (none (in_none (by omega) (by omega) (by omega) (fun e => by have := e.2.2; rw [hD] at this; omega)))
end Go.PI.Tryz
namespace Go.PI.Tryz
open Go.Proofs Go.PI
theorem take_snocR {l : List Rat} {i : Nat} {q : Rat} (h : i < l.length) (e : q = l[i]!) : (l.take i).map encX ++ [encRat (cr q)] = (l.take (i + 1)).map encX := by
 subst e; exact take_snoc h
def okBy (l : List Int) : Prop := l.length ≤ 1048576 ∧ ∀ x ∈ l, 0 ≤ x ∧ x < 256
theorem ok_sgins : FO 35 Tryz.f35 [.tmp 4] 55 := mkO Tryz.func35 Tryz.ntmps35 Tryz.results35
theorem c_sgins (r : RegL) (l : List Int) (hr : okReg 10000000 r) (hlh : r.hi.length = r.lo.length) (hl : okBy l) : Fn 35 [encReg r, .imm (l.map (.int .u8))] (.data (.imm ((insR r l).map encX))) := by
 have l1 := hr.1.1;have l2 := hl.1;obtain ⟨Y, hY⟩ : ∃ Y, insR r l = Y := ⟨_, rfl⟩;have hYl : Y.length = r.lo.length := by rw [← hY]; simp [insR]
 have hYg : ∀ i, i < r.lo.length → qv r.lo[i]! + mkRat (inK l i) 8 * (qv r.hi[i]! - qv r.lo[i]!) = Y[i]! := fun i hi => by rw [← hY]; unfold insR; rw [get_range hi]
 rw [hY];refine zAJ hmix hT ok_sgins (by simp [encReg]) ?_;refine sts ?_
 refine zDR hT [(.sl 5, 3, true)] (fun (i : Nat) => [(1, .imm (l.map (.int .u8))), (2, .ptr 0 0 0), (5, .own 1 0 i), (6, .int .i64 i)]) (fun i => [(0, ⟨[encReg r], 3, true⟩), (1, ⟨(Y.take i).map encX, 3, true⟩)]) [] 2
  (fun i => i ≤ r.lo.length) (fun i => r.lo.length - i) 0 (Nat.zero_le _) (by decide) (by simp) ⟨rfl, trivial⟩ ?_ ?_
 ·exact ⟨[0, _], [], [], [], ttt, ⟨zAD rfl rfl, (apy rfl), zAU (by decide) rfl rfl, zAC rfl rfl, trivial⟩, ⟨bbx, zAE (by decide) rfl rfl (zAM fun _ => ⟨rfl, by simp [encX, encRat]⟩) rfl, trivial⟩, by simp [ren]⟩
 intro i i1;have hlen : (Y.take i).length = i := by rw [List.length_take]; omega
 by_cases hi : i < r.lo.length
 ·have hi2 : i < r.hi.length := by omega
  have q1 := zBQ hr.1 hi;have q2 := zBQ hr.2.1 hi2;have cf := c_rqfrac (inK l i) 8 (by unfold inK; split <;> omega) (by decide);have s1 := zH8 q1.1 q1.2.1 q1.2.2 (k := 10000000) (by decide);have s2 := zH8 q2.1 q2.2.1 q2.2.2 (k := 10000000) (by decide);have c1 := c_rqsub r.hi[i]! r.lo[i]! q2.1 q1.1 (by have := q2.2; omega) (by have := q2.2; omega) (by have := q1.2; omega) (by have := q1.2; omega);have s3 := sz_sub s2 s1;have l3 := zA6 s3;have sp := sz_part l i;have lp := zA6 sp;have c2 := zJZ (cr (mkRat (inK l i) 8)) (cr (qv r.hi[i]! - qv r.lo[i]!)) (zA1 _) (zA1 _) (by omega) (by omega) (by omega) (by omega);rw [zBA, zBA] at c2;have s4 := zDH sp s3;have l4 := zA6 s4;have c3 := zFT r.lo[i]! (cr (mkRat (inK l i) 8 * (qv r.hi[i]! - qv r.lo[i]!))) q1.1 (zA1 _) (by have := q1.2; omega) (by have := q1.2; omega) (by omega) (by omega);rw [zBA] at c3;rw [show (8 : Int).natAbs = 8 from rfl] at cf;have fin := take_snocR (l := Y) (i := i) (by omega) (hYg i hi);by_cases hb : i < l.length
  ·have hx := hl.2 _ (get_mem hb)
   have hk : inK l i = l[i]!.toNat % 9 := by unfold inK; rw [if_pos hb]
   have ht : l[i]!.tmod 9 = ((inK l i : Nat) : Int) := by rw [Int.tmod_eq_emod_of_nonneg (by omega), hk]; omega
   have hlt : inK l i < 9 := by omega
   (repeat' (first|refine stp ?_|with_reducible(refine brr ?_ ?_<;>intro h)));all_goals try(conv=>whnf)
   all_goals try (exfalso; omega)
   rw [ht];refine sts ?_;refine zAA cf rfl ?_;refine sts ?_;refine zAA c1 rfl ?_;refine sts ?_;refine zAA c2 rfl ?_;refine sts ?_;refine zAA c3 rfl ?_;refine sts ?_;exact ⟨i + 1, ⟨by omega, by show r.lo.length - (i + 1) < r.lo.length - i; omega⟩, [0, _], [], [], [], ttt, ⟨zAD rfl rfl, (apy rfl), zAU (by decide) rfl rfl, zAC rfl rfl, trivial⟩, ⟨bbx, zAE (by decide) rfl fin (zAM fun _ => ⟨rfl, by simp [encX, encRat]⟩) rfl, trivial⟩, by simp [ren]⟩
  ·have hk : inK l i = 0 := by unfold inK; rw [if_neg hb]
   rw [hk] at cf c2 c3 fin
   (repeat' (first|refine stp ?_|with_reducible(refine brr ?_ ?_<;>intro h)));all_goals try(conv=>whnf)
   all_goals try (exfalso; omega)
   refine zAA cf rfl ?_;refine sts ?_;refine zAA c1 rfl ?_;refine sts ?_;refine zAA c2 rfl ?_;refine sts ?_;refine zAA c3 rfl ?_;refine sts ?_;exact ⟨i + 1, ⟨by omega, by show r.lo.length - (i + 1) < r.lo.length - i; omega⟩, [0, _], [], [], [], ttt, ⟨zAD rfl rfl, (apy rfl), zAU (by decide) rfl rfl, zAC rfl rfl, trivial⟩, ⟨bbx, zAE (by decide) rfl fin (zAM fun _ => ⟨rfl, by simp [encX, encRat]⟩) rfl, trivial⟩, by simp [ren]⟩
 ·(repeat' (first|refine stp ?_|with_reducible(refine brr ?_ ?_<;>intro h)));all_goals try(conv=>whnf)
  all_goals try (exfalso; omega)
  exact zAB (zAN rfl rfl (by omega) fun q => frz_rat (cr q)) (by rw [List.take_of_length_le (by omega)])
end Go.PI.Tryz
namespace Go.PI.Tryz
open Go.Proofs Go.PI
def outL (g : GraL) (x : List Rat) : List Rat := g.outs.map fun f => evQ f.Q (valsN g.us x g.us.length)
def szV (g : GraL) (x : List Rat) (k K : Nat) : Prop := (∀ j, j < g.units.length → (∀ q ∈ valsN g.us x j, sz K q) ∧ sz K (preL g.us x)[j]!) ∧ (∀ q ∈ valsN g.us x g.us.length, sz K q) ∧ (∀ f ∈ g.units, k + f.terms.length * (k + K + 1) + k + K ≤ 949999990) ∧ ∀ f ∈ g.outs, k + f.terms.length * (k + K + 1) + k + K ≤ 949999990
theorem ok_rgouts : FO 37 Tryz.f37 [.tmp 4, .tmp 5] 13 := mkO Tryz.func37 Tryz.ntmps37 Tryz.results37
theorem c_rgouts (g : GraL) (x : List RatL) (k K : Nat) (hg : okGra k g) (hk : k ≤ 950000000) (hk1 : 1 ≤ k) (hK1 : 1 ≤ K) (hKb : K ≤ 949999990) (hv : VaG g) (hx : okLs 950000000 x) (hl : (x.length : Int) = g.ins) (hs : szV g (x.map qv) k K) : Fn 37 [encGra g, .imm (x.map encRat)] (.data (.tup [.imm ((outL g (x.map qv)).map encX), .int .i64 0])) := by
 have cv := c_rgvalues g x k K hg hk hk1 hK1 hKb hv hx hl hs.1 hs.2.2.1;have l1 := hv.2.1;have l2 := hv.1;have lu := zM0 g;have hvl : (valsN g.us (x.map qv) g.us.length).length = x.length + g.units.length := by rw [zDG _ (Nat.le_refl _), List.length_map, lu]
 have cf := c_rgforms g g.outs x _ k K hk1 hg.2 cv hs.2.1 (by omega) (fun i hi => ValidF_le (by omega) (hv.2.2.2.2 i hi)) hs.2.2.2;refine zAJ hmix hT ok_rgouts (by simp [encGra]) ?_;refine sts ?_;refine zAA cf rfl ?_;refine sts ?_;exact zAB rfl rfl
end Go.PI.Tryz
