/-
  The reference: forms of the inputs put into a form.
-/
import Derived.Test.YtdgckinmcnjheaaGreatCGA
import Derived.Test.YtdgckinmcnjheaaGreatCRC
import Derived.Test.YtdgckinmcnjheaaGreatCPE
set_option linter.unusedVariables false
set_option linter.unusedSimpArgs false
set_option linter.unnecessarySimpa false
namespace Go.PI.Tryz
open Go.Proofs Go.PI
theorem zAN (x : List Rat) : ∀ e ∈ x.map encX, nr 3 e = true ∧ e ≠ .any := zAV fun x => ⟨rfl, by simp [encX, encRat]⟩
theorem zJO (x : List Rat) : ∀ e ∈ x.map encX, nr 3 e = true := fun e he => (zAN x e he).1
abbrev rowX (x : List Rat) : Blk := ⟨x.map encX, 3, true⟩
theorem zLS (f : QF) (x : List Rat) (k kx : Nat) (hf : szF k f) (hx : ∀ q ∈ x, sz kx q) (hv : ∀ p ∈ f.ts, 0 ≤ p.1 ∧ p.1 < x.length) (hk : k + f.ts.length * (k + kx + 1) + k + kx ≤ 949999990) (hl : f.ts.length ≤ 1048576) (hxl : x.length ≤ 1048576) : Fn 82 [encF f, .own 0 0 x.length] (.wrt (rowX x) (.tup [encRat (cr (evQ f x)), .int .i64 0]) (rowX x)) := by
 refine zCT hmix hT ok_leval (by simp [encF]) ?_;refine sts ?_
 refine zAG hT (fun ((i, y) : Nat × Rat) => [(1, .own 0 0 x.length), (4, .ptr 1 0 0), (6, .ptr 2 0 0), (12, .imm (f.ts.map encQ)), (13, .int .i64 f.ts.length), (14, .int .i64 i)])
  (fun (_, y) => [(0, rowX x), (1, ⟨[.agg [.bool false, .nilsl, .nilsl]], 3, true⟩), (2, ⟨[encRat (cr y)], 3, true⟩)]) [] 3
  (fun (i, y) => i ≤ f.ts.length ∧ y = ev1 x (f.ts.take i) f.c ∧ sz (k + i * (k + kx + 1)) y) (fun (i, _) => f.ts.length - i) (0, f.c) ⟨Nat.zero_le _, rfl, by simpa using hf.1⟩ (by decide) (by simp) ?_ ?_
 ·exact ⟨[_, _], [], [], [], ttt, ⟨zAH (by decide) rfl rfl, (apy rfl), (apy rfl), zAD rfl rfl, zAC rfl (by simp), zAC rfl rfl, trivial⟩,
   ⟨zAE (by decide) rfl rfl (zAN x) rfl, bbx, bbx, trivial⟩, by simp [ren]⟩
 intro ⟨i, y⟩ ⟨i1, i2, i3⟩;by_cases hi : i < f.ts.length
 ·have hmem : f.ts[i]! ∈ f.ts := by rw [getElem!_pos f.ts i hi]; exact List.getElem_mem hi
  have hvi := hv _ hmem;have hp := hf.2 _ hmem;have hj : f.ts[i]!.1.toNat < x.length := by omega
  have hxm : x[f.ts[i]!.1.toNat]! ∈ x := by rw [getElem!_pos x _ hj]; exact List.getElem_mem hj
  have hxi := hx _ hxm;have hm := zB2 hp hxi;have hmul : (i + 1) * (k + kx + 1) ≤ f.ts.length * (k + kx + 1) := Nat.mul_le_mul_right _ (by omega);rw [Nat.add_mul] at hmul;have l1 := zAJ hp;have l2 := zAJ hxi;have l3 := zAJ hm;have l4 := zAJ i3;have cm := zGG (cr f.ts[i]!.2) (cr x[f.ts[i]!.1.toNat]!) (zAF _) (zAF _) (by omega) (by omega) (by omega) (by omega);rw [zAL, zAL] at cm;have ca := zG2 (cr y) (cr (f.ts[i]!.2 * x[f.ts[i]!.1.toNat]!)) (zAF _) (zAF _) (by omega) (by omega) (by omega) (by omega);rw [zAL, zAL] at ca;have hsz := zA4 (show k + i * (k + kx + 1) + (k + kx) + 1 ≤ k + (i + 1) * (k + kx + 1) by rw [Nat.add_mul]; omega) (zBR i3 hm);have hy : ev1 x (f.ts.take (i + 1)) f.c = y + f.ts[i]!.2 * x[f.ts[i]!.1.toNat]! := by rw [zHF x f.ts f.c i hi, i2]
  (repeat' (first|refine stp ?_|with_reducible(refine brr ?_ ?_<;>intro h)));all_goals try(conv=>whnf)
  ·exact absurd h (show ¬ f.ts[i]!.1 < 0 by omega)
  ·exact absurd h (show ¬ f.ts[i]!.1 ≥ (x.length : Int) by omega)
  ·refine zA0 f.ts[i]!.1.toNat (Nat.zero_add _) hj ?_
   refine sts ?_;refine zAA cm rfl ?_;refine sts ?_;refine zAA ca rfl ?_;refine sts ?_
   exact ⟨(i + 1, y + f.ts[i]!.2 * x[f.ts[i]!.1.toNat]!), ⟨⟨by omega, hy.symm, hsz⟩, by show f.ts.length - (i + 1) < f.ts.length - i; omega⟩, [1, 2], [], [], [], ttt, ⟨zAH (by decide) rfl rfl, apx, apx, zAD rfl rfl, zAC rfl rfl, zAC rfl (by omega), trivial⟩,
    ⟨zAE (by decide) rfl rfl (zAN x) rfl, bbx, bbx, trivial⟩, by simp [ren]⟩
  ·exact absurd (show (i : Int) < f.ts.length by omega) h
 ·have hmul : i * (k + kx + 1) ≤ f.ts.length * (k + kx + 1) := Nat.mul_le_mul_right _ (by omega)
  have e : y = evQ f x := by rw [i2, List.take_of_length_le (by omega)]; rfl
  have l4 := zAJ i3;have cc := zCV (cr y) (zAF _) (by omega) (by omega);rw [zAL] at cc
  (repeat' (first|refine stp ?_|with_reducible(refine brr ?_ ?_<;>intro h)));all_goals try(conv=>whnf)
  all_goals try (exfalso; omega)
  refine zAA cc rfl ?_;refine sts ?_;subst e;exact zCP rfl rfl rfl rfl rfl (zJO x)
theorem c_rlevalB (f : QF) (x : List Rat) (k kx : Nat) (hf : szF k f) (hx : ∀ q ∈ x, sz kx q) (hv : ∀ p ∈ f.ts, 0 ≤ p.1 ∧ p.1 < x.length) (hk : k + f.ts.length * (k + kx + 1) + k + kx ≤ 949999990) (hl : f.ts.length ≤ 1048576) (hxl : x.length ≤ 1048576) : Fn 24 [encF f, .own 0 0 x.length] (.wrt (rowX x) (.tup [encRat (cr (evQ f x)), .int .i64 0]) (rowX x)) := by
 refine zCT hmix hT zMN (by simp [encF]) ?_;refine sts ?_
 refine zAG hT (fun ((i, y) : Nat × Rat) => [(1, .own 0 0 x.length), (2, .ptr 3 0 0), (4, .ptr 1 0 0), (6, .ptr 2 0 0), (7, .int .i64 i)])
  (fun (_, y) => [(0, rowX x), (1, ⟨[.agg [.bool false, .nilsl, .nilsl]], 3, true⟩), (2, ⟨[encRat (cr y)], 3, true⟩), (3, ⟨[encF f], 4, true⟩)]) [] 4
  (fun (i, y) => i ≤ f.ts.length ∧ y = ev1 x (f.ts.take i) f.c ∧ sz (k + i * (k + kx + 1)) y) (fun (i, _) => f.ts.length - i) (0, f.c) ⟨Nat.zero_le _, rfl, by simpa using hf.1⟩ (by decide) (by simp) ?_ ?_
 ·exact ⟨[_, _, _], [], [], [], ttt, ⟨zAH (by decide) rfl rfl, (apy rfl), (apy rfl), (apy rfl), zAC rfl rfl, trivial⟩,
   ⟨zAE (by decide) rfl rfl (zAN x) rfl, bbx, bbx, bbx, trivial⟩, by simp [ren]⟩
 intro ⟨i, y⟩ ⟨i1, i2, i3⟩;by_cases hi : i < f.ts.length
 ·have hmem : f.ts[i]! ∈ f.ts := by rw [getElem!_pos f.ts i hi]; exact List.getElem_mem hi
  have hvi := hv _ hmem;have hp := hf.2 _ hmem;have hj : f.ts[i]!.1.toNat < x.length := by omega
  have hxm : x[f.ts[i]!.1.toNat]! ∈ x := by rw [getElem!_pos x _ hj]; exact List.getElem_mem hj
  have hxi := hx _ hxm;have hm := zB2 hp hxi;have hmul : (i + 1) * (k + kx + 1) ≤ f.ts.length * (k + kx + 1) := Nat.mul_le_mul_right _ (by omega);rw [Nat.add_mul] at hmul;have l1 := zAJ hp;have l2 := zAJ hxi;have l3 := zAJ hm;have l4 := zAJ i3;have cm := zG1 (cr f.ts[i]!.2) (cr x[f.ts[i]!.1.toNat]!) (zAF _) (zAF _) (by omega) (by omega) (by omega) (by omega);rw [zAL, zAL] at cm;have ca := zC9 (cr y) (cr (f.ts[i]!.2 * x[f.ts[i]!.1.toNat]!)) (zAF _) (zAF _) (by omega) (by omega) (by omega) (by omega);rw [zAL, zAL] at ca;have hsz := zA4 (show k + i * (k + kx + 1) + (k + kx) + 1 ≤ k + (i + 1) * (k + kx + 1) by rw [Nat.add_mul]; omega) (zBR i3 hm);have hy : ev1 x (f.ts.take (i + 1)) f.c = y + f.ts[i]!.2 * x[f.ts[i]!.1.toNat]! := by rw [zHF x f.ts f.c i hi, i2]
  (repeat' (first|refine stp ?_|with_reducible(refine brr ?_ ?_<;>intro h)));all_goals try(conv=>whnf)
  ·exact absurd h (show ¬ f.ts[i]!.1 < 0 by omega)
  ·exact absurd h (show ¬ f.ts[i]!.1 ≥ (x.length : Int) by omega)
  ·refine zA0 f.ts[i]!.1.toNat (Nat.zero_add _) hj ?_
   refine sts ?_;refine zAA cm rfl ?_;refine sts ?_;refine zAA ca rfl ?_;refine sts ?_
   exact ⟨(i + 1, y + f.ts[i]!.2 * x[f.ts[i]!.1.toNat]!), ⟨⟨by omega, hy.symm, hsz⟩, by show f.ts.length - (i + 1) < f.ts.length - i; omega⟩, [1, 2, 3], [], [], [], ttt, ⟨zAH (by decide) rfl rfl, apx, apx, apx, zAC rfl (by omega), trivial⟩,
    ⟨zAE (by decide) rfl rfl (zAN x) rfl, bbx, bbx, bbx, trivial⟩, by simp [ren]⟩
  ·exact absurd (show (i : Int) < f.ts.length by omega) h
 ·have hmul : i * (k + kx + 1) ≤ f.ts.length * (k + kx + 1) := Nat.mul_le_mul_right _ (by omega)
  have e : y = evQ f x := by rw [i2, List.take_of_length_le (by omega)]; rfl
  (repeat' (first|refine stp ?_|with_reducible(refine brr ?_ ?_<;>intro h)));all_goals try(conv=>whnf)
  all_goals try (exfalso; omega)
  subst e;exact zCP rfl rfl rfl rfl rfl (zJO x)
end Go.PI.Tryz
namespace Go.PI.Tryz
open Go.Proofs Go.PI
theorem any_valid {l : List AffL} {n : Int} : l.any (fun f => !validB f n) = false ↔ ∀ j, j < l.length → ValidF l[j]! n := by
 rw [List.any_eq_false];constructor
 ·intro e j hj
  have := e _ (get_mem hj);exact validB_true.1 (by simpa using this)
 ·intro e f hf
  obtain ⟨j, hj, rfl⟩ := List.getElem_of_mem hf;have := validB_true.2 (e j hj);rw [getElem!_pos l j hj] at this;simp [this]
theorem ok_gv1 : FO 172 Tryz.f172 [.tmp 3] 8 := mkO Tryz.func172 Tryz.ntmps172 Tryz.results172
theorem c_gv1 (f : AffL) (n : Int) (hf : okA 2147483596 f) : Fn 172 [encAff f, .cptr (.int .i64 n) 0] (.data (.bool (!validB f n))) := by
 have cc := zLR f n hf;refine zAM hmix hT ok_gv1 (by simp) ?_;refine sts ?_;refine zAA cc rfl ?_;refine sts ?_;exact zAB rfl rfl
theorem ok_gvl : FO 133 Tryz.f133 [.tmp 4] 9 := mkO Tryz.func133 Tryz.ntmps133 Tryz.results133
theorem c_gvl (l : List AffL) (n : Int) (hl : okFs 950000000 l) : Fn 133 [.imm (l.map encAff), .int .i64 n] (.data (.bool (dB (valAll l n)))) := by
 have cc := zIC l (fun f => !validB f n) 172 (.int .i64 n) hl.1 (fun f hf => c_gv1 f n (zB0 (by decide) (hl.2 f hf)));refine zAM hmix hT ok_gvl (by simp) ?_;refine sts ?_;refine zAA cc rfl ?_;refine sts ?_;refine zAB rfl (congrArg PV.bool ?_);rw [Bool.eq_iff_iff, dB_true, Bool.not_eq_true', any_valid];exact Iff.rfl
theorem ok_gvalid : FO 77 Tryz.f77 [.tmp 2] 56 := mkO Tryz.func77 Tryz.ntmps77 Tryz.results77
theorem zJJ (g : GraL) (hg : okGra 950000000 g) : Fn 77 [encGra g] (.data (.bool (dB (VaG g)))) := by
 obtain ⟨hu, ho⟩ := hg;have no : ¬ VaG g → false = dB (VaG g) := zI8;have l1 := hu.1;have l2 := ho.1;have cc := c_gvl g.outs (g.ins + g.units.length) ho;refine zAM hmix hT ok_gvalid (by simp [encGra]) ?_
 (repeat' (first|refine stp ?_|with_reducible(refine brr ?_ ?_<;>intro h)));all_goals try(conv=>whnf)
 ·exact zAB rfl (congrArg PV.bool (no fun e => by have := e.1.1; omega))
 ·exact zAB rfl (congrArg PV.bool (no fun e => by have := e.1.2; omega))
 ·exact zAB rfl (congrArg PV.bool (no fun e => by have := e.2.1; omega))
 ·exact zAB rfl (congrArg PV.bool (no fun e => by have := e.2.2.1.1; omega))
 ·exact zAB rfl (congrArg PV.bool (no fun e => by have := e.2.2.1.2; omega))
 ·have h0 : (1 ≤ g.ins ∧ g.ins ≤ 256) ∧ g.units.length ≤ 1024 ∧ (1 ≤ g.outs.length ∧ g.outs.length ≤ 256) := ⟨⟨by omega, by omega⟩, by omega, by omega, by omega⟩
  obtain ⟨h1, h2, h3⟩ := h0
  refine zAG hT (fun (i : Nat) => [(1, .ptr 0 0 0), (32, .imm (g.units.map encAff)), (33, .int .i64 g.units.length), (34, .int .i64 i)]) (fun _ => [(0, ⟨[encGra g], 3, true⟩)]) [] 1
   (fun i => i ≤ g.units.length ∧ ∀ j, j < i → ValidF g.units[j]! (g.ins + j)) (fun i => g.units.length - i) 0 ⟨Nat.zero_le _, fun j h => (by omega)⟩ (by decide) (by simp) ?_ ?_
  ·exact ⟨[0], [], [], [], ttt, ⟨apx, zAD rfl rfl, zAC rfl (by simp), zAC rfl rfl, trivial⟩, ⟨bbx, trivial⟩, by simp [ren]⟩
  intro i ⟨i1, i2⟩;by_cases hi : i < g.units.length
  ·have c1 := zLR g.units[i]! (g.ins + i) (zB0 (by decide) (hu.2 _ (get_mem hi)))
   (repeat' (first|refine stp ?_|with_reducible(refine brr ?_ ?_<;>intro h)));all_goals try(conv=>whnf)
   ·refine zAA c1 rfl ?_
    (repeat' (first|refine stp ?_|with_reducible(refine brr ?_ ?_<;>intro h)));all_goals try(conv=>whnf)
    ·exact ⟨i + 1, ⟨⟨by omega, fun j hj => zA2 (p := fun (j : Nat) => ValidF g.units[j]! (g.ins + j)) i2 (validB_true.1 (by assumption)) hj⟩, by show g.units.length - (i + 1) < g.units.length - i; omega⟩, [0], [], [], [], ttt, ⟨apx, zAD rfl rfl, zAC rfl rfl, zAC rfl rfl, trivial⟩, ⟨bbx, trivial⟩, by simp [ren]⟩
    ·exact zAB rfl (congrArg PV.bool (no fun e => by have := validB_true.2 (e.2.2.2.1 i hi); simp_all))
   all_goals (exfalso; omega)
  ·(repeat' (first|refine stp ?_|with_reducible(refine brr ?_ ?_<;>intro h)));all_goals try(conv=>whnf)
   all_goals try (exfalso; omega)
   rw [List.length_map];refine zAA cc rfl ?_;refine sts ?_;refine zAB rfl (congrArg PV.bool ?_);rw [Bool.eq_iff_iff, dB_true, dB_true];exact ⟨fun e => ⟨h1, h2, h3, fun j hj => i2 j (by omega), e⟩, fun e => e.2.2.2.2⟩
end Go.PI.Tryz
namespace Go.PI
def GraL.us (g : GraL) : List QF := g.units.map AffL.Q
end Go.PI
namespace Go.PI.Tryz
open Go.Proofs Go.PI
theorem zGD (g : GraL) : g.us.length = g.units.length := by simp [GraL.us]
theorem zEP {g : GraL} {j : Nat} (h : j < g.units.length) : g.us[j]! = g.units[j]!.Q := by
 unfold GraL.us; rw [getElem!_pos _ j (by simpa using h), getElem!_pos g.units j h]; simp
theorem zE6 {f : AffL} {n : Int} (h : ValidF f n) : encF f.Q = encAff f := by rw [zKF, canF h]
theorem X_snoc {l : List Rat} {j : Nat} {q : Rat} (h : j < l.length) (e : l[j]! = q) : (l.take j).map encX ++ [encRat (cr q)] = (l.take (j + 1)).map encX := by
 rw [List.take_succ_eq_append_getElem h, List.map_append, ← getElem!_pos l j h, e]; rfl
theorem zN6 {l : List RatL} {i : Nat} (h : i < l.length) : ((l.take i).map qv).map encX ++ [encRat (cr (qv l[i]!))] = ((l.take (i + 1)).map qv).map encX := by
 rw [List.take_succ_eq_append_getElem h, List.map_append, List.map_append, getElem!_pos l i h]; rfl
theorem okQ_zero {k : Nat} : okQ k ⟨false, [], []⟩ := ⟨⟨by simp [okN], by simp [okN]⟩, Nat.zero_le _, Nat.zero_le _⟩
theorem sz_max {k : Nat} {a b : Rat} (ha : sz k a) (hb : sz k b) : sz k (maxQ a b) := by unfold maxQ; split <;> assumption
theorem ok_grun : FO 138 Tryz.f138 [.tmp 4, .tmp 5, .tmp 6] 61 := mkO Tryz.func138 Tryz.ntmps138 Tryz.results138
theorem c_grun (g : GraL) (x : List RatL) (k K : Nat) (hg : okGra k g) (hk : k ≤ 950000000) (hk1 : 1 ≤ k) (hK1 : 1 ≤ K) (hv : VaG g) (hx : okLs 950000000 x) (hl : (x.length : Int) = g.ins) (hK : ∀ j, j < g.units.length → (∀ q ∈ valsN g.us (x.map qv) j, sz K q) ∧ sz K (preL g.us (x.map qv))[j]!) (hb : ∀ f ∈ g.units, k + f.terms.length * (k + K + 1) + k + K ≤ 949999990) : Fn 138 [encGra g, .imm (x.map encRat)] (.data (.tup [.imm ((valsN g.us (x.map qv) g.us.length).map encX), .imm ((preL g.us (x.map qv)).map encX), .int .i64 0])) := by
 have cv := zJJ g ⟨⟨hg.1.1, fun f hf => zB0 hk (hg.1.2 f hf)⟩, ⟨hg.2.1, fun f hf => zB0 hk (hg.2.2 f hf)⟩⟩;rw [dB_true.2 hv] at cv;have l1 := hx.1;have l2 := hg.1.1;have lu := zGD g;have hn := hv.2.1;have hx2 : x.length ≤ 256 := by have := hv.1.2; omega
 refine zAM hmix hT ok_grun (by simp [encGra]) ?_;refine sts ?_;refine zAA cv rfl ?_
 (repeat' (first|refine stp ?_|with_reducible(refine brr ?_ ?_<;>intro h)));all_goals try(conv=>whnf)
 ·exfalso; omega
 refine zBV hT [(.sl 4, 3, true), (.sl 5, 3, true)] (fun (i : Nat) => [(2, .ptr 0 0 0), (4, .own 1 0 i), (5, .own 2 0 0), (23, .imm (x.map encRat)), (24, .int .i64 x.length), (25, .int .i64 i)]) (fun i => [(0, ⟨[encGra g], 3, true⟩), (1, ⟨((x.take i).map qv).map encX, 3, true⟩), (2, ⟨[], 3, true⟩)]) [] 3
  (fun i => i ≤ x.length) (fun i => x.length - i) 0 (Nat.zero_le _) (by decide) (by simp) ⟨rfl, rfl, trivial⟩ ?_ ?_
 ·exact ⟨[0, _, _], [], [], [], ttt, ⟨(apy rfl), zAH (by decide) rfl rfl, zAH (by decide) rfl rfl, zAD rfl rfl, zAC rfl (by simp), zAC rfl rfl, trivial⟩,
   ⟨bbx, zAE (by decide) rfl rfl (zAN []) rfl, zAE (by decide) rfl rfl (zAN []) rfl, trivial⟩, by simp [ren]⟩
 intro i i1;have hlen : ((x.take i).map qv).length = i := by rw [List.length_map, List.length_take]; omega
 by_cases hi : i < x.length
 ·have q1 := zA7 hx hi
  have cc := zCV x[i]! q1.1 (by have := q1.2; omega) (by have := q1.2; omega)
  (repeat' (first|refine stp ?_|with_reducible(refine brr ?_ ?_<;>intro h)));all_goals try(conv=>whnf)
  ·refine zAA cc rfl ?_
   refine sts ?_
   exact ⟨i + 1, ⟨by omega, by show x.length - (i + 1) < x.length - i; omega⟩, [0, _, 2], [], [], [], ttt, ⟨(apy rfl), zAH (by decide) rfl rfl, zAH (by decide) rfl rfl, zAD rfl rfl, zAC rfl rfl, zAC rfl rfl, trivial⟩,
    ⟨bbx, zAE (by decide) rfl (zN6 hi) (zAN _) rfl, zAE (by decide) rfl rfl (zAN []) rfl, trivial⟩, by simp [ren]⟩
  all_goals (exfalso; omega)
 ·have e0 : (x.take i).map qv = valsN g.us (x.map qv) 0 := by rw [zEK, List.take_of_length_le (by omega)]
  (repeat' (first|refine stp ?_|with_reducible(refine brr ?_ ?_<;>intro h)));all_goals try(conv=>whnf)
  all_goals try (exfalso; omega)
  refine zAG hT (fun (j : Nat) => [(2, .ptr 0 0 0), (4, .own 1 0 (x.length + j)), (5, .own 2 0 j), (36, .imm (g.units.map encAff)), (37, .int .i64 g.units.length), (38, .int .i64 j)]) (fun j => [(0, ⟨[encGra g], 3, true⟩), (1, ⟨(valsN g.us (x.map qv) j).map encX, 3, true⟩), (2, ⟨((preL g.us (x.map qv)).take j).map encX, 3, true⟩)]) [] 3
   (fun j => j ≤ g.units.length) (fun j => g.units.length - j) 0 (Nat.zero_le _) (by decide) (by simp) ?_ ?_
  ·exact ⟨[0, 1, 2], [], [], [], ttt, ⟨apx, zAH (by decide) rfl (by omega), zAH (by decide) rfl rfl, zAD rfl rfl, zAC rfl (by simp), zAC rfl rfl, trivial⟩,
    ⟨bbx, zAE (by decide) rfl (congrArg (List.map encX) e0) (zAN _) rfl, zAE (by decide) rfl rfl (zAN []) rfl, trivial⟩, by simp [ren]⟩
  intro j j1;have hvl : (valsN g.us (x.map qv) j).length = x.length + j := by rw [zCI j (by omega), List.length_map]
  have hp2 := zB9 g.us (x.map qv);have hpl : ((preL g.us (x.map qv)).take j).length = j := by rw [List.length_take, zB9]; omega
  by_cases hj : j < g.units.length
  ·have hvu := hv.2.2.2.1 j hj
   have hmem := get_mem hj;have hou := hg.1.2 _ hmem;have hb1 := hb _ hmem;obtain ⟨hs1, hs2⟩ := hK j hj;have hvr : ∀ p ∈ g.units[j]!.Q.ts, 0 ≤ p.1 ∧ p.1 < ((valsN g.us (x.map qv) j).length : Nat) := fun p hp => by have := (zCC hvu).2 p hp; omega
   have ce := zLS g.units[j]!.Q (valsN g.us (x.map qv) j) k K (zBT hou hk1) hs1 hvr (by rw [zE1]; exact hb1) (by rw [zE1]; exact hou.2.2) (by omega);rw [zE6 hvu, hvl] at ce;have hp : (preL g.us (x.map qv))[j]! = evQ g.units[j]!.Q (valsN g.us (x.map qv) j) := by rw [zG7 (by omega), zEP hj]
   rw [hp] at hs2;have l3 := zAJ hs2;have cx := c_qmax ⟨false, [], []⟩ (cr (evQ g.units[j]!.Q (valsN g.us (x.map qv) j))) K okQ_zero (zB7 hs2) (by omega);rw [zAL, show qv ⟨false, [], []⟩ = 0 by rfl] at cx
   have hvs : (valsN g.us (x.map qv) j).map encX ++ [encRat (cr (maxQ 0 (evQ g.units[j]!.Q (valsN g.us (x.map qv) j))))] = (valsN g.us (x.map qv) (j + 1)).map encX := by
    rw [zDV (by omega), List.map_append, zEP hj]; rfl
   have hps := X_snoc (l := preL g.us (x.map qv)) (j := j) (by rw [zB9]; omega) hp
   (repeat' (first|refine stp ?_|with_reducible(refine brr ?_ ?_<;>intro h)));all_goals try(conv=>whnf)
   ·refine zB5 (r := 1) ce rfl rfl rfl rfl (zBA (zAN _)) ?_
    refine sts ?_;refine zAA cx rfl ?_;refine sts ?_
    exact ⟨j + 1, ⟨by omega, by show g.units.length - (j + 1) < g.units.length - j; omega⟩, [0, _, _], [], [], [], ttt, ⟨(apy rfl), zAH (by decide) rfl rfl, zAH (by decide) rfl rfl, zAD rfl rfl, zAC rfl rfl, zAC rfl rfl, trivial⟩,
     ⟨bbx, zAE (by decide) rfl hvs (zAN _) rfl, zAE (by decide) rfl hps (zAN _) rfl, trivial⟩, by simp [ren]⟩
   all_goals (exfalso; omega)
  ·have ej : j = g.us.length := by omega
   have hp2 := zB9 g.us (x.map qv);have et : (preL g.us (x.map qv)).take j = preL g.us (x.map qv) := List.take_of_length_le (by rw [zB9]; omega)
   (repeat' (first|refine stp ?_|with_reducible(refine brr ?_ ?_<;>intro h)));all_goals try(conv=>whnf)
   all_goals try (exfalso; omega)
   exact zAB (zF8 (zAR (zAI rfl rfl (by omega) fun q => zCH (cr q)) (zAR (zAI rfl rfl (by omega) fun q => zCH (cr q)) rfl))) (by rw [et, ej])
theorem ok_gpre : FO 183 Tryz.f183 [.tmp 4, .tmp 5] 18 := mkO Tryz.func183 Tryz.ntmps183 Tryz.results183
end Go.PI.Tryz
namespace Go.PI.Tryz
open Go.Proofs Go.PI
abbrev rowF (vars : List QF) : Blk := ⟨vars.map encF, 4, true⟩
theorem zAX (x : List QF) : ∀ e ∈ x.map encF, nr 3 e = true ∧ e ≠ .any := zAV fun x => ⟨rfl, by simp [encF]⟩
theorem zL7 (x : List QF) : ∀ e ∈ x.map encF, nr 3 e = true := fun e he => (zAX x e he).1
abbrev ints (p : List Int) : PV := .imm (p.map (.int .i64))
def Dec (a : Int) : Prop := a = 1 ∨ a = 2
def comP (g : GraL) (p : List Int) : Prop := VaG g ∧ p.length = g.units.length ∧ ∀ i, i < p.length → Dec p[i]!
theorem ok_decided : FO 204 Tryz.f204 [.tmp 2] 9 := mkO Tryz.func204 Tryz.ntmps204 Tryz.results204
theorem c_decided (a : Int) : Fn 204 [.int .i64 a] (.data (.bool (dB (Dec a)))) := by
 refine zAM hmix hT ok_decided (by simp) ?_
 (repeat' (first|refine stp ?_|with_reducible(refine brr ?_ ?_<;>intro h)));all_goals try(conv=>whnf)
 ·exact zAB rfl (congrArg PV.bool (zM8 (Or.inl (by assumption))))
 ·refine zAB rfl (congrArg PV.bool ?_)
  rw [Bool.eq_iff_iff, dB_true, beq_iff_eq];exact ⟨fun e => Or.inr e, fun e => e.resolve_left (by assumption)⟩
theorem ok_pcomplete : FO 184 Tryz.f184 [.tmp 4] 28 := mkO Tryz.func184 Tryz.ntmps184 Tryz.results184
theorem zNK (g : GraL) (p : List Int) (hg : okGra 950000000 g) (hp : p.length ≤ 1048576) : Fn 184 [encGra g, ints p] (.data (.bool (dB (comP g p)))) := by
 have no : ¬ comP g p → false = dB (comP g p) := zI8;have cv := zJJ g hg;have l1 := hg.1.1;refine zAM hmix hT ok_pcomplete (by simp [encGra]) ?_;refine sts ?_;refine zAA cv rfl ?_
 (repeat' (first|refine stp ?_|with_reducible(refine brr ?_ ?_<;>intro h)));all_goals try(conv=>whnf)
 all_goals try (refine zAB rfl (congrArg PV.bool (no fun e => ?_)); exact absurd e.1 (dB_false.1 (by assumption)))
 all_goals try (refine zAB rfl (congrArg PV.bool (no fun e => ?_)); have := e.2.1; omega)
 have h0 : VaG g := dB_true.1 (by assumption);have h1 : p.length = g.units.length := by omega
 refine zA6 hT (fun n : Nat => [(18, ints p), (19, .int .i64 p.length), (20, .int .i64 n)]) (fun n => n ≤ p.length ∧ ∀ j, j < n → Dec p[j]!) (fun n => p.length - n) 0 ⟨by omega, fun j hj => by omega⟩ ?_ ?_
 ·exact ⟨zAD rfl rfl, zAC rfl (by simp), zAC rfl rfl, trivial⟩
 intro n ⟨hn, he⟩;by_cases hi : n < p.length
 ·have cc := c_decided p[n]!
  (repeat' (first|refine stp ?_|with_reducible(refine brr ?_ ?_<;>intro h)));all_goals try(conv=>whnf)
  ·refine zAA cc rfl ?_
   (repeat' (first|refine stp ?_|with_reducible(refine brr ?_ ?_<;>intro h)));all_goals try(conv=>whnf)
   all_goals first
    | (refine zAB rfl (congrArg PV.bool (no fun e => ?_)); exact absurd (e.2.2 n hi) (dB_false.1 (by assumption)))
    | exact ⟨n + 1, ⟨⟨by omega, fun j hj => zA2 (p := fun j => Dec p[j]!) he (dB_true.1 (by assumption)) hj⟩, by show p.length - (n + 1) < p.length - n; omega⟩, zAD rfl rfl, zAC rfl rfl, zAC rfl rfl, trivial⟩
    | skip
  all_goals (exfalso; omega)
 ·(repeat' (first|refine stp ?_|with_reducible(refine brr ?_ ?_<;>intro h)));all_goals try(conv=>whnf)
  all_goals try (exfalso; omega)
  exact zAB rfl (congrArg PV.bool (zM8 ⟨h0, h1, fun j hj => he j (by omega)⟩))
end Go.PI.Tryz
namespace Go.PI.Tryz
open Go.Proofs Go.PI
theorem zMJ (κ : Nat → Nat) {v n : Nat} (h : v < n) : κ v ≤ sumF κ 0 n := by
 have := zFI κ [((v : Int), (0 : Rat))] 0 n (List.pairwise_singleton _ _) (fun t ht => by simp at ht; subst ht; simp only; omega)
 simpa using this
theorem zNO {n : Nat} {κ : Nat → Nat} {vars : List QF} {f : QF} {k : Nat} (hv : okVr n κ vars) (hf : szF k f) (ho : okF vars.length f) (i : Nat) (hi : i ≤ f.ts.length) :
 okF n (appN f vars i) ∧ szF (k + sumF (fun v => κ v + k + 1) 0 vars.length) (appN f vars i) ∧ (appN f vars i).ts.length ≤ n := by
 obtain ⟨h1, h2, h3⟩ := app_ok hv hf ho i hi;refine ⟨h1, zFH ?_ h2, h3⟩;have := zFI (fun v => κ v + k + 1) (f.ts.take i) 0 vars.length (ho.1.1.sublist (List.take_sublist _ _)) fun t ht => by have := ho.2 t (List.mem_of_mem_take ht); omega
 omega
theorem zH4 {o v : QF} {c : Rat} (ho : Srt o.ts) (hv : Srt v.ts) : mergeQ o (mergeQ zeroQ v c) 1 = mergeQ o v c := by
 have h1 := zDE c _ zeroQ.ts v.ts (Nat.le_refl _) zC5 hv;have h2 := zDE (1 : Rat) _ o.ts (mrg c zeroQ.ts v.ts) (Nat.le_refl _) ho h1.1;have h3 := zDE c _ o.ts v.ts (Nat.le_refl _) ho hv;have e : mrg 1 o.ts (mrg c zeroQ.ts v.ts) = mrg c o.ts v.ts := zLY h2.1 h3.1 fun v => by rw [h2.2, h3.2, h1.2]; simp only [zeroQ, cf]; grind
 unfold mergeQ;simp only [e, QF.mk.injEq, true_and];simp only [zeroQ]; grind
theorem zero_ok {n : Nat} {v : QF} (hv : okF n v) (c : Rat) : okF n (mergeQ zeroQ v c) ∧ (mergeQ zeroQ v c).ts.length ≤ n := by
 have hok : okF n (mergeQ zeroQ v c) := by
  refine ⟨zDX zC5 hv.1, fun t ht => ?_⟩;rcases zC1 _ _ _ _ (Nat.le_refl _) t ht with ⟨p, hp, e⟩ | ⟨p, hp, e⟩
  ·cases hp
  ·have := hv.2 p hp; omega
 exact ⟨hok, zLX n hok.1.1 hok.2⟩
theorem ok_papply : FO 186 Tryz.f186 [.cell 4 37] 30 := mkO Tryz.func186 Tryz.ntmps186 Tryz.results186
theorem c_papplyB (F : QF) (vars : List QF) (n k : Nat) (κ : Nat → Nat) (hv : okVr n κ vars) (hn : n ≤ 1048576) (hf : szF k F) (ho : okF vars.length F) (hfl : F.ts.length ≤ 1048576) (hS : k + sumF (fun v => κ v + k + 1) 0 vars.length ≤ 400000000) (hl : vars.length ≤ 1048576) : Fn 186 [encF F, .own 0 0 vars.length] (.wrt (rowF vars) (encF (applyQ F vars)) (rowF vars)) := by
 refine zCT hmix hT ok_papply (by simp [encF]) ?_;refine sts ?_
 refine zAG hT (fun (i : Nat) => [(1, .own 0 0 vars.length), (4, .ptr 1 0 0), (5, .ptr 2 0 0), (12, .imm (F.ts.map encQ)), (13, .int .i64 F.ts.length), (14, .int .i64 i)])
  (fun i => [(0, rowF vars), (1, ⟨[.agg [.nilsl, .bool false, .nilsl, .nilsl]], 4, true⟩), (2, ⟨[encF (appN F vars i)], 4, true⟩)]) [] 3
  (fun i => i ≤ F.ts.length) (fun i => F.ts.length - i) 0 (Nat.zero_le _) (by decide) (by simp) ?_ ?_
 ·exact ⟨[_, _], [], [], [(6, [encF ⟨[], F.c⟩])], ⟨trivial, trivial, ⟨⟨_, 6, _, rfl, rfl, rfl⟩, trivial⟩⟩, ⟨zAH (by decide) rfl rfl, (apy rfl), (apy rfl), zAD rfl rfl, zAC rfl (by simp), zAC rfl rfl, trivial⟩,
   ⟨zAE (by decide) rfl rfl (zAX vars) rfl, bbx, bbx, trivial⟩, by simp [ren]⟩
 intro i i1;obtain ⟨a1, a2, a3⟩ := zNO hv hf ho i (by omega);by_cases hi : i < F.ts.length
 ·have hmem : F.ts[i]! ∈ F.ts := get_mem hi
  have hvi := ho.2 _ hmem;have hvi2 : 0 ≤ (tQ F.ts[i]!).var ∧ (tQ F.ts[i]!).var < vars.length := hvi;have hj : F.ts[i]!.1.toNat < vars.length := by omega
  obtain ⟨v1, v2, v3⟩ := hv _ hj;have hk1 : κ F.ts[i]!.1.toNat + k + 1 ≤ sumF (fun v => κ v + k + 1) 0 vars.length := zMJ (fun v => κ v + k + 1) hj;have cs := zJI vars[F.ts[i]!.1.toNat]! F.ts[i]!.2 (κ F.ts[i]!.1.toNat) k v2 (hf.2 _ hmem) (by omega) (by omega);have sm := zFS (zEH 1 (by decide)) v2 (hf.2 _ hmem) (Nat.le_refl _);have sl : (mergeQ zeroQ vars[F.ts[i]!.1.toNat]! F.ts[i]!.2).ts.length ≤ n := (zero_ok v1 F.ts[i]!.2).2;have ca := c_ladd (appN F vars i) (mergeQ zeroQ vars[F.ts[i]!.1.toNat]! F.ts[i]!.2) _ _ a2 sm (by omega) (by omega) (by omega);rw [zH4 a1.1 v1.1, ← zF0 hi] at ca
  (repeat' (first|refine stp ?_|with_reducible(refine brr ?_ ?_<;>intro h)));all_goals try(conv=>whnf)
  all_goals try (exfalso; omega)
  refine zA0 F.ts[i]!.1.toNat (Nat.zero_add _) hj ?_;refine sts ?_;refine zAA cs rfl ?_;refine sts ?_;refine zAA ca rfl ?_;refine sts ?_
  exact ⟨i + 1, ⟨by omega, by show F.ts.length - (i + 1) < F.ts.length - i; omega⟩, [1, 2], [], [], [], ttt, ⟨zAH (by decide) rfl rfl, apx, apx, zAD rfl rfl, zAC rfl rfl, zAC rfl rfl, trivial⟩,
   ⟨zAE (by decide) rfl rfl (zAX vars) rfl, bbx, bbx, trivial⟩, by simp [ren]⟩
 ·have e : i = F.ts.length := by omega
  (repeat' (first|refine stp ?_|with_reducible(refine brr ?_ ?_<;>intro h)));all_goals try(conv=>whnf)
  all_goals try (exfalso; omega)
  subst e;rw [zHL];exact zCP rfl rfl rfl rfl rfl (zL7 vars)
theorem c_papply (F : QF) (vars : List QF) (n k : Nat) (κ : Nat → Nat) (hv : okVr n κ vars) (hn : n ≤ 1048576) (hf : szF k F) (ho : okF vars.length F) (hfl : F.ts.length ≤ 1048576) (hS : k + sumF (fun v => κ v + k + 1) 0 vars.length ≤ 400000000) (hl : vars.length ≤ 1048576) : Fn 186 [encF F, .imm (vars.map encF)] (.data (encF (applyQ F vars))) := by
 refine zAM hmix hT ok_papply (by simp [encF]) ?_;refine sts ?_
 refine zAG hT (fun (i : Nat) => [(1, .imm (vars.map encF)), (4, .ptr 0 0 0), (5, .ptr 1 0 0), (12, .imm (F.ts.map encQ)), (13, .int .i64 F.ts.length), (14, .int .i64 i)])
  (fun i => [(0, ⟨[.agg [.nilsl, .bool false, .nilsl, .nilsl]], 4, true⟩), (1, ⟨[encF (appN F vars i)], 4, true⟩)]) [] 2
  (fun i => i ≤ F.ts.length) (fun i => F.ts.length - i) 0 (Nat.zero_le _) (by decide) (by simp) ?_ ?_
 ·exact ⟨[_, _], [], [], [(5, [encF ⟨[], F.c⟩])], ⟨trivial, trivial, ⟨⟨_, 6, _, rfl, rfl, rfl⟩, trivial⟩⟩, ⟨zAD rfl rfl, (apy rfl), (apy rfl), zAD rfl rfl, zAC rfl (by simp), zAC rfl rfl, trivial⟩,
   ⟨bbx, bbx, trivial⟩, by simp [ren]⟩
 intro i i1;obtain ⟨a1, a2, a3⟩ := zNO hv hf ho i (by omega);by_cases hi : i < F.ts.length
 ·have hmem : F.ts[i]! ∈ F.ts := get_mem hi
  have hvi := ho.2 _ hmem;have hvi2 : 0 ≤ (tQ F.ts[i]!).var ∧ (tQ F.ts[i]!).var < vars.length := hvi;have hj : F.ts[i]!.1.toNat < vars.length := by omega
  obtain ⟨v1, v2, v3⟩ := hv _ hj;have hk1 : κ F.ts[i]!.1.toNat + k + 1 ≤ sumF (fun v => κ v + k + 1) 0 vars.length := zMJ (fun v => κ v + k + 1) hj;have cs := zJI vars[F.ts[i]!.1.toNat]! F.ts[i]!.2 (κ F.ts[i]!.1.toNat) k v2 (hf.2 _ hmem) (by omega) (by omega);have sm := zFS (zEH 1 (by decide)) v2 (hf.2 _ hmem) (Nat.le_refl _);have sl : (mergeQ zeroQ vars[F.ts[i]!.1.toNat]! F.ts[i]!.2).ts.length ≤ n := (zero_ok v1 F.ts[i]!.2).2;have ca := c_ladd (appN F vars i) (mergeQ zeroQ vars[F.ts[i]!.1.toNat]! F.ts[i]!.2) _ _ a2 sm (by omega) (by omega) (by omega);rw [zH4 a1.1 v1.1, ← zF0 hi] at ca
  (repeat' (first|refine stp ?_|with_reducible(refine brr ?_ ?_<;>intro h)));all_goals try(conv=>whnf)
  all_goals try (exfalso; omega)
  refine zBB (j := F.ts[i]!.1.toNat) (show F.ts[i]!.1 = _ by omega) hj ?_;refine sts ?_;refine zAA cs rfl ?_;refine sts ?_;refine zAA ca rfl ?_;refine sts ?_
  exact ⟨i + 1, ⟨by omega, by show F.ts.length - (i + 1) < F.ts.length - i; omega⟩, [0, 1], [], [], [], ttt, ⟨zAD rfl rfl, apx, apx, zAD rfl rfl, zAC rfl rfl, zAC rfl rfl, trivial⟩,
   ⟨bbx, bbx, trivial⟩, by simp [ren]⟩
 ·have e : i = F.ts.length := by omega
  (repeat' (first|refine stp ?_|with_reducible(refine brr ?_ ?_<;>intro h)));all_goals try(conv=>whnf)
  all_goals try (exfalso; omega)
  subst e;rw [zHL];exact zAB rfl rfl
end Go.PI.Tryz
namespace Go.PI.Tryz
open Go.Proofs Go.PI
theorem zMT {g : PV → Option (PV × List Nat)} {α : Type} {f : α → PV} (hf : ∀ x, g (f x) = some (f x, [])) : ∀ l : List α, mapF g (l.map f) = some (l.map f, [])
 | [] => rfl
 | a :: l => by rw [List.map_cons]; exact zAR (hf a) (zMT hf l)
theorem zGQ {g : PV → Option (PV × List Nat)} {c d : PV} {ks : List Nat} (h1 : g c = some (d, ks)) : ∀ {l ds : List PV}, mapF g l = some (ds, []) → mapF g (l ++ [c]) = some (ds ++ [d], ks)
 | [], ds, h => by
   have : ds = [] := by simp [mapF] at h; exact h
   subst this;have := zAR (f := g) (cs := []) (ds := []) (ls := []) h1 rfl
   simpa using this
 | a :: l, ds, h => by
   simp only [mapF] at h
   split at h
   ·rename_i d1 k1 ds1 k2 e1 e2
    simp only [Option.some.injEq, Prod.mk.injEq, List.append_eq_nil_iff] at h;obtain ⟨rfl, rfl, rfl⟩ := h;exact zAR e1 (zGQ h1 e2)
   ·cases h
theorem zNY {h : Hp} {n : Nat} (f : QF) : frz h (n + 1) (encF f) = some (encF f, []) := by cases n <;> rfl
theorem encF_var (i : Nat) : encF ⟨[((i : Int), 1)], 0⟩ = .agg [.imm [encQ ((i : Int), 1)], .bool false, .imm [], .imm []] := by unfold encF; rw [zGB]; rfl
theorem varQs_get {n i : Nat} (h : i < n) : (varQs n)[i]! = ⟨[((i : Int), 1)], 0⟩ := by unfold varQs; rw [zBK h]
theorem zO2 {l : List QF} {j : Nat} {q : QF} (h : j < l.length) (e : l[j]! = q) : (l.take j).map encF ++ [encF q] = (l.take (j + 1)).map encF := by
 rw [List.take_succ_eq_append_getElem h, List.map_append, ← getElem!_pos l j h, e]; rfl
theorem prfL_len (us : List QF) (n : Nat) (ph : List Int) : (prfL us n ph).length = us.length := by simp [prfL]
theorem prfL_get {us : List QF} {n : Nat} {ph : List Int} {j : Nat} (h : j < us.length) : (prfL us n ph)[j]! = applyQ us[j]! (frmN us n ph j) := by unfold prfL; rw [zBK h]
theorem ok_pforms : FO 185 Tryz.f185 [.tmp 4, .tmp 5] 52 := mkO Tryz.func185 Tryz.ntmps185 Tryz.results185
theorem c_pforms (g : GraL) (p : List Int) (n k S : Nat) (κ : Nat → Nat) (hg : okGra k g) (hk1 : 1 ≤ k) (hv : VaG g) (hin : g.ins = (n : Int)) (hp : p.length = g.units.length)
 (hvr : ∀ j, j < g.units.length → okVr n κ (frmN g.us n p j)) (hS : ∀ j, j < g.units.length → k + sumF (fun v => κ v + k + 1) 0 (n + j) ≤ 400000000) : Fn 185 [encGra g, ints p] (.own none (.tup [.imm ((frmN g.us n p g.us.length).map encF), .own 0 0 (prfL g.us n p).length]) (rowF (prfL g.us n p))) := by
 have l2 := hg.1.1;have lu := zGD g;have hn := hv.2.1;have hn2 : n ≤ 256 := by have := hv.1.2; omega
 have co := c_qof 1 (by decide);have hvl0 : (varQs n).length = n := by simp [varQs]
 refine zEW hmix hT ok_pforms (by simp [encGra]) ?_;refine sts ?_
 refine zBV hT [(.sl 4, 4, true), (.sl 5, 4, true)] (fun (i : Nat) => [(1, ints p), (2, .ptr 1 0 0), (4, .own 2 0 i), (5, .own 3 0 0), (11, .int .i64 (n : Int)), (12, .int .i64 i)]) (fun i => [(1, ⟨[encGra g], 3, true⟩), (2, rowF ((varQs n).take i)), (3, rowF [])]) [] 4
  (fun i => i ≤ n) (fun i => n - i) 0 (Nat.zero_le _) (by decide) (by simp) ⟨rfl, rfl, trivial⟩ ?_ ?_
 ·exact ⟨[1, _, _], [], [], [], ttt, ⟨zAD rfl rfl, (apy rfl), zAH (by decide) rfl rfl, zAH (by decide) rfl rfl, zAC rfl hin, zAC rfl rfl, trivial⟩,
   ⟨bbx, zAE (by decide) rfl rfl (zAX []) rfl, zAE (by decide) rfl rfl (zAX []) rfl, trivial⟩, by simp [ren]⟩
 intro i i1;have hlen : ((varQs n).take i).length = i := by rw [List.length_take]; omega
 by_cases hi : i < n
 ·have hsn := zO2 (l := varQs n) (j := i) (by omega) (varQs_get hi)
  rw [encF_var] at hsn
  (repeat' (first|refine stp ?_|with_reducible(refine brr ?_ ?_<;>intro h)));all_goals try(conv=>whnf)
  ·refine zAA co rfl ?_
   refine sts ?_
   exact ⟨i + 1, ⟨by omega, by show n - (i + 1) < n - i; omega⟩, [1, 14, 3], [11], [], [(14, ((varQs n).take i).map encF ++ [.agg [.imm [encQ ((i : Int), 1)], .bool false, .imm [], .imm []]])], ⟨⟨⟨_, rfl⟩, trivial⟩, trivial, ⟨⟨_, 6, _, rfl, zGQ (by rfl) (zMT zNY _), rfl⟩, trivial⟩⟩, ⟨zAD rfl rfl, apx, zAH (by decide) rfl rfl, zAH (by decide) rfl rfl, zAC rfl rfl, zAC rfl rfl, trivial⟩,
    ⟨bbx, zAE (by decide) rfl hsn (zAX _) rfl, zAE (by decide) rfl rfl (zAX []) rfl, trivial⟩, by simp [ren]⟩
  all_goals (exfalso; omega)
 ·have e0 : (varQs n).take i = frmN g.us n p 0 := List.take_of_length_le (by omega)
  (repeat' (first|refine stp ?_|with_reducible(refine brr ?_ ?_<;>intro h)));all_goals try(conv=>whnf)
  all_goals try (exfalso; omega)
  refine zAG hT (fun (j : Nat) => [(1, ints p), (2, .ptr 1 0 0), (4, .own 2 0 (n + j)), (5, .own 3 0 j), (25, .imm (g.units.map encAff)), (26, .int .i64 g.units.length), (27, .int .i64 j)]) (fun j => [(1, ⟨[encGra g], 3, true⟩), (2, rowF (frmN g.us n p j)), (3, rowF ((prfL g.us n p).take j))]) [] 4
   (fun j => j ≤ g.units.length) (fun j => g.units.length - j) 0 (Nat.zero_le _) (by decide) (by simp) ?_ ?_
  ·exact ⟨[1, 2, 3], [], [], [], ttt, ⟨zAD rfl rfl, apx, zAH (by decide) rfl (by omega), zAH (by decide) rfl rfl, zAD rfl rfl, zAC rfl (by simp), zAC rfl rfl, trivial⟩,
    ⟨bbx, zAE (by decide) rfl (congrArg (List.map encF) e0) (zAX _) rfl, zAE (by decide) rfl rfl (zAX []) rfl, trivial⟩, by simp [ren]⟩
  intro j j1;have hfl := zBZ g.us n p j;have hp2 := prfL_len g.us n p;have hpl : ((prfL g.us n p).take j).length = j := by rw [List.length_take]; omega
  by_cases hj : j < g.units.length
  ·have hvu := hv.2.2.2.1 j hj
   have hmem := get_mem hj;have hou := hg.1.2 _ hmem;have hoq := zCC hvu;rw [hin, show ((n : Int) + (j : Int)) = ((frmN g.us n p j).length : Nat) by omega] at hoq;have hSj := hS j hj;rw [← hfl] at hSj;have ca := c_papplyB g.units[j]!.Q (frmN g.us n p j) n k κ (hvr j hj) (by omega) (zBT hou hk1) hoq (by rw [zE1]; exact hou.2.2) hSj (by omega);rw [zE6 hvu, hfl] at ca;have hpg : (prfL g.us n p)[j]! = applyQ g.units[j]!.Q (frmN g.us n p j) := by rw [prfL_get (by omega), zEP hj]
   have hps := zO2 (l := prfL g.us n p) (j := j) (by omega) hpg;have hfs : frmN g.us n p (j + 1) = frmN g.us n p j ++ [if p[j]! = 2 then zeroQ else applyQ g.units[j]!.Q (frmN g.us n p j)] := by rw [← zEP hj]; rfl
   (repeat' (first|refine stp ?_|with_reducible(refine brr ?_ ?_<;>intro h)));all_goals try(conv=>whnf)
   all_goals try (exfalso; omega)
   refine zB5 (r := 2) ca rfl rfl rfl rfl (zBA (zAX _)) ?_
   (repeat' (first|refine stp ?_|with_reducible(refine brr ?_ ?_<;>intro h)));all_goals try(conv=>whnf)
   ·rw [if_pos (by assumption)] at hfs
    have hz : (frmN g.us n p j).map encF ++ [.agg [.imm [], .bool false, .imm [], .imm []]] = (frmN g.us n p (j + 1)).map encF := by rw [hfs, List.map_append, ← zM5]; rfl
    exact ⟨j + 1, ⟨by omega, by show g.units.length - (j + 1) < g.units.length - j; omega⟩, [1, 31, 19], [], [], [(31, (frmN g.us n p j).map encF ++ [.agg [.imm [], .bool false, .imm [], .imm []]])], ⟨trivial, trivial, ⟨⟨_, 6, _, rfl, zGQ (by rfl) (zMT zNY _), rfl⟩, trivial⟩⟩, ⟨zAD rfl rfl, apx, zAH (by decide) rfl rfl, zAH (by decide) rfl rfl, zAD rfl rfl, zAC rfl rfl, zAC rfl rfl, trivial⟩,
     ⟨bbx, zAE (by decide) rfl hz (zAX _) rfl, zAE (by decide) rfl hps (zAX _) rfl, trivial⟩, by simp [ren]⟩
   ·rw [if_neg (by assumption)] at hfs
    have hz : (frmN g.us n p j).map encF ++ [encF (applyQ g.units[j]!.Q (frmN g.us n p j))] = (frmN g.us n p (j + 1)).map encF := by rw [hfs, List.map_append]; rfl
    exact ⟨j + 1, ⟨by omega, by show g.units.length - (j + 1) < g.units.length - j; omega⟩, [1, _, _], [], [], [], ttt, ⟨zAD rfl rfl, (apy rfl), zAH (by decide) rfl rfl, zAH (by decide) rfl rfl, zAD rfl rfl, zAC rfl rfl, zAC rfl rfl, trivial⟩,
     ⟨bbx, zAE (by decide) rfl hz (zAX _) rfl, zAE (by decide) rfl hps (zAX _) rfl, trivial⟩, by simp [ren]⟩
   all_goals (exfalso; omega)
  ·have ej : j = g.us.length := by omega
   have et : (prfL g.us n p).take j = prfL g.us n p := List.take_of_length_le (by omega);refine sus ?_;refine zA5 ?_
   (repeat' (first|refine stu ?_|with_reducible(refine brr ?_ ?_<;>intro h)));all_goals try(conv=>whnf)
   all_goals try (exfalso; omega)
   refine tellV [] [(4, .imm ((frmN g.us n p j).map encF)), (5, .own 1 0 j)] [(1, rowF ((prfL g.us n p).take j))] [] 2 (by decide) (by simp) trivial
    ⟨[3], [2], [(4, .imm ((frmN g.us n p j).map encF))], [], ⟨⟨⟨_, rfl⟩, trivial⟩, ⟨⟨6, _, zAI rfl rfl (by omega) zNY, rfl⟩, trivial⟩, trivial⟩, ⟨zAD rfl rfl, zAH (by decide) rfl rfl, trivial⟩, ⟨zAE (by decide) rfl rfl (zAX _) rfl, trivial⟩, by simp [ren]⟩ ?_
   refine sts ?_;have ep : j = (prfL g.us n p).length := by omega
   have ho : okRes (rowF (prfL g.us n p)) (.tup [.imm ((frmN g.us n p g.us.length).map encF), .own 0 0 (prfL g.us n p).length]) := by
    refine Or.inl ⟨fun c hc => ?_, ?_⟩
    ·simp only [resCells, List.mem_cons, List.not_mem_nil, or_false] at hc
     rcases hc with rfl | rfl
     ·exact Or.inr rfl
     ·exact Or.inl (by simp)
    ·simp [resCells]
   rw [et];exact zER (r := 1) (by rw [ej, ← ep, ← ej]; rfl) rfl rfl rfl (zL7 _) ho
end Go.PI.Tryz
namespace Go.PI.Tryz
open Go.Proofs Go.PI
theorem zCF {j k : Nat} (h : j ≤ k) {g : GraL} (hg : okGra j g) : okGra k g := ⟨⟨hg.1.1, fun f hf => zB0 h (hg.1.2 f hf)⟩, ⟨hg.2.1, fun f hf => zB0 h (hg.2.2 f hf)⟩⟩
def outQ (g : GraL) (n : Nat) (p : List Int) : List QF := g.outs.map fun f => applyQ f.Q (frmN g.us n p g.us.length)
theorem outQ_get {g : GraL} {n : Nat} {p : List Int} {j : Nat} (h : j < g.outs.length) : (outQ g n p)[j]! = applyQ g.outs[j]!.Q (frmN g.us n p g.us.length) := by
 unfold outQ; rw [getElem!_pos _ j (by simpa using h), getElem!_pos g.outs j h]; simp
def szG (g : GraL) (p : List Int) (n k : Nat) (κ : Nat → Nat) : Prop := ∀ j, j ≤ g.units.length → okVr n κ (frmN g.us n p j) ∧ k + sumF (fun v => κ v + k + 1) 0 (n + j) ≤ 400000000
theorem ok_pFormsX : FO 148 Tryz.f148 [.tmp 4, .tmp 5, .tmp 6] 38 := mkO Tryz.func148 Tryz.ntmps148 Tryz.results148
theorem c_pFormsX (g : GraL) (p : List Int) (n k : Nat) (κ : Nat → Nat) (hg : okGra k g) (hk : k ≤ 950000000) (hk1 : 1 ≤ k) (hc : comP g p) (hpl : p.length ≤ 1048576) (hin : g.ins = (n : Int)) (hs : szG g p n k κ) : Fn 148 [encGra g, ints p] (.data (.tup [.imm ((frmN g.us n p g.us.length).map encF), .imm ((outQ g n p).map encF), .int .i64 0])) := by
 have cc := zNK g p (zCF hk hg) hpl;rw [dB_true.2 hc] at cc;obtain ⟨hv, hp, hd⟩ := hc;have cf := c_pforms g p n k 0 κ hg hk1 hv hin hp (fun j hj => (hs j (by omega)).1) (fun j hj => (hs j (by omega)).2);have lu := zGD g;have l2 := hg.2.1;have hn2 : n ≤ 256 := by have := hv.1.2; omega
 have hnu := hv.2.1;have hol : (outQ g n p).length = g.outs.length := by simp [outQ]
 have hfl := zBZ g.us n p g.us.length;refine zAM hmix hT ok_pFormsX (by simp [encGra]) ?_;refine sts ?_;refine zAA cc rfl ?_;refine sts ?_;refine zBD cf rfl ?_;refine sts ?_
 refine zBV hT [(.sl 9, 4, true)] (fun (i : Nat) => [(7, .imm ((frmN g.us n p g.us.length).map encF)), (9, .own 0 0 i), (23, .imm (g.outs.map encAff)), (24, .int .i64 g.outs.length), (25, .int .i64 i)]) (fun i => [(0, rowF ((outQ g n p).take i))]) [] 1
  (fun i => i ≤ g.outs.length) (fun i => g.outs.length - i) 0 (Nat.zero_le _) (by decide) (by simp) ⟨rfl, trivial⟩ ?_ ?_
 ·exact ⟨[_], [], [], [], ttt, ⟨zAD rfl rfl, zAH (by decide) rfl rfl, zAD rfl rfl, zAC rfl (by simp), zAC rfl rfl, trivial⟩, ⟨zAE (by decide) rfl rfl (zAX []) rfl, trivial⟩, by simp [ren]⟩
 intro i i1;have hlen : ((outQ g n p).take i).length = i := by rw [List.length_take]; omega
 by_cases hi : i < g.outs.length
 ·have hvu := hv.2.2.2.2 i hi
  have hou := hg.2.2 _ (get_mem hi);have hoq := zCC hvu;rw [hin, show ((n : Int) + (g.units.length : Int)) = ((frmN g.us n p g.us.length).length : Nat) by omega] at hoq;obtain ⟨s1, s2⟩ := hs g.us.length (by omega);rw [← hfl] at s2;have ca := c_papply g.outs[i]!.Q (frmN g.us n p g.us.length) n k κ s1 (by omega) (zBT hou hk1) hoq (by rw [zE1]; exact hou.2.2) s2 (by omega);rw [zE6 hvu] at ca;have hsn := zO2 (l := outQ g n p) (j := i) (by omega) (outQ_get hi)
  (repeat' (first|refine stp ?_|with_reducible(refine brr ?_ ?_<;>intro h)));all_goals try(conv=>whnf)
  ·refine zAA ca rfl ?_
   refine sts ?_;exact ⟨i + 1, ⟨by omega, by show g.outs.length - (i + 1) < g.outs.length - i; omega⟩, [_], [], [], [], ttt, ⟨zAD rfl rfl, zAH (by decide) rfl rfl, zAD rfl rfl, zAC rfl rfl, zAC rfl rfl, trivial⟩, ⟨zAE (by decide) rfl hsn (zAX _) rfl, trivial⟩, by simp [ren]⟩
  all_goals (exfalso; omega)
 ·have et : (outQ g n p).take i = outQ g n p := List.take_of_length_le (by omega)
  (repeat' (first|refine stp ?_|with_reducible(refine brr ?_ ?_<;>intro h)));all_goals try(conv=>whnf)
  all_goals try (exfalso; omega)
  exact zAB (zF8 (zAR rfl (zAR (zAI rfl rfl (by omega) zNY) rfl))) (by rw [et])
def pieI (us : List QF) (n : Nat) (p : List Int) (i : Nat) : List QF := (List.range us.length).map fun j => if j < i then rowG us n p j else applyQ us[j]! (frmN us n p j)
theorem zG8 (us : List QF) (n : Nat) (p : List Int) (i : Nat) : (pieI us n p i).length = us.length := by simp [pieI]
theorem pieI_zero (us : List QF) (n : Nat) (p : List Int) : prfL us n p = pieI us n p 0 := by unfold pieI prfL; simp
theorem pieI_get {us : List QF} {n : Nat} {p : List Int} {i : Nat} (h : i < us.length) : (pieI us n p i)[i]! = applyQ us[i]! (frmN us n p i) := by unfold pieI; rw [zBK h, if_neg (Nat.lt_irrefl _)]
theorem pieI_set {us : List QF} {n : Nat} {p : List Int} {i : Nat} (h : i < us.length) : (pieI us n p i).set i (rowG us n p i) = pieI us n p (i + 1) := by
 refine List.ext_getElem (by simp [pieI]) fun j h1 h2 => ?_
 have h3 : j < us.length := by simpa [pieI] using h2
 by_cases e : j = i
 ·subst e; simp [pieI]
 ·simp only [pieI, List.getElem_set_ne (show i ≠ j by omega), List.getElem_map, List.getElem_range]
  by_cases e2 : j < i
  ·rw [if_pos e2, if_pos (by omega)]
  ·rw [if_neg e2, if_neg (by omega)]
theorem pieI_keep {us : List QF} {n : Nat} {p : List Int} {i : Nat} (h : i < us.length) (hr : p[i]! ≠ 2) : pieI us n p i = pieI us n p (i + 1) := by
 refine List.ext_getElem (by simp [pieI]) fun j h1 h2 => ?_
 simp only [pieI, List.getElem_map, List.getElem_range];by_cases e : j = i
 ·subst e
  rw [if_neg (Nat.lt_irrefl _), if_pos (by omega)]; unfold rowG; rw [if_neg hr]
 ·by_cases e2 : j < i
  ·rw [if_pos e2, if_pos (by omega)]
  ·rw [if_neg e2, if_neg (by omega)]
def pieL (us : List QF) (n : Nat) (p : List Int) : List QF := pieI us n p us.length
theorem ok_ppiece : FO 147 Tryz.f147 [.tmp 4, .tmp 5] 40 := mkO Tryz.func147 Tryz.ntmps147 Tryz.results147
theorem c_ppiece (g : GraL) (p : List Int) (n k : Nat) (κ : Nat → Nat) (hg : okGra k g) (hk : k ≤ 950000000) (hk1 : 1 ≤ k) (hc : comP g p) (hpl : p.length ≤ 1048576) (hin : g.ins = (n : Int)) (hs : szG g p n k κ) : Fn 147 [encGra g, ints p] (.data (.tup [.imm ((pieL g.us n p).map encF), .int .i64 0])) := by
 have cc := zNK g p (zCF hk hg) hpl;rw [dB_true.2 hc] at cc;obtain ⟨hv, hp, hd⟩ := hc;have cf := c_pforms g p n k 0 κ hg hk1 hv hin hp (fun j hj => (hs j (by omega)).1) (fun j hj => (hs j (by omega)).2);rw [pieI_zero, zG8] at cf;have co := c_qof (-1) (by decide);rw [show (((-1 : Int)) : Rat) = -1 by rfl] at co;have lu := zGD g;have l2 := hg.1.1;have hn2 : n ≤ 256 := by have := hv.1.2; omega
 have hnu := hv.2.1;refine zAM hmix hT ok_ppiece (by simp [encGra]) ?_;refine sts ?_;refine zAA cc rfl ?_;refine sts ?_;refine zBD cf rfl ?_;refine sts ?_
 refine zAG hT (fun (i : Nat) => [(1, ints p), (7, .own 0 0 g.us.length), (20, .int .i64 g.us.length), (21, .int .i64 i)]) (fun i => [(0, rowF (pieI g.us n p i))]) [] 1
  (fun i => i ≤ g.us.length) (fun i => g.us.length - i) 0 (Nat.zero_le _) (by decide) (by simp) ?_ ?_
 ·exact ⟨[_], [], [], [], ttt, ⟨zAD rfl rfl, zAH (by decide) rfl rfl, zAC rfl (by simp), zAC rfl rfl, trivial⟩, ⟨zAE (by decide) rfl rfl (zAX _) rfl, trivial⟩, by simp [ren]⟩
 intro i i1;have hil := zG8 g.us n p i;by_cases hi : i < g.us.length
 ·have hvu := hv.2.2.2.1 i (by omega)
  have hou := hg.1.2 _ (get_mem (show i < g.units.length by omega));have hoq := zCC hvu;have hfl := zBZ g.us n p i;rw [hin, show ((n : Int) + (i : Int)) = ((frmN g.us n p i).length : Nat) by omega] at hoq;obtain ⟨s1, s2⟩ := hs i (by omega);rw [← hfl] at s2;obtain ⟨b1, b2, b3⟩ := zHK s1 (zBT hou hk1) hoq;have cs := zJI (applyQ g.units[i]!.Q (frmN g.us n p i)) (-1) _ 1 b2 (zGI (z := -1) (by decide)) (by omega) (by omega);have hgt := pieI_get (us := g.us) (n := n) (p := p) hi;rw [zEP (by omega)] at hgt
  (repeat' (first|refine stp ?_|with_reducible(refine brr ?_ ?_<;>intro h)));all_goals try(conv=>whnf)
  ·have hr : rowG g.us n p i = mergeQ zeroQ (applyQ g.units[i]!.Q (frmN g.us n p i)) (-1) := by unfold rowG; rw [if_pos (by assumption), zEP (by omega)]
   refine zA0 i (Nat.zero_add _) (by omega) ?_;rw [hgt];refine sts ?_;refine zAA co rfl ?_;refine sts ?_;refine zAA cs rfl ?_;refine sts ?_;refine zA0 i (Nat.zero_add _) (by omega) ?_;rw [hgt];refine sts ?_;exact ⟨i + 1, ⟨by omega, by show g.us.length - (i + 1) < g.us.length - i; omega⟩, [_], [], [], [], ttt, ⟨zAD rfl rfl, zAH (by decide) rfl rfl, zAC rfl rfl, zAC rfl rfl, trivial⟩, ⟨zAE (by decide) rfl (by rw [← pieI_set hi, hr]; exact zBJ (by omega) rfl) (zAX _) rfl, trivial⟩, by simp [ren]⟩
  ·exact ⟨i + 1, ⟨by omega, by show g.us.length - (i + 1) < g.us.length - i; omega⟩, [_], [], [], [], ttt, ⟨zAD rfl rfl, zAH (by decide) rfl rfl, zAC rfl rfl, zAC rfl rfl, trivial⟩, ⟨zAE (by decide) rfl (congrArg (List.map encF) (pieI_keep hi (by assumption))) (zAX _) rfl, trivial⟩, by simp [ren]⟩
  all_goals (exfalso; omega)
 ·have ei : i = g.us.length := by omega
  (repeat' (first|refine stp ?_|with_reducible(refine brr ?_ ?_<;>intro h)));all_goals try(conv=>whnf)
  all_goals try (exfalso; omega)
  exact zAB (zF8 (zAR (zAI rfl rfl (by omega) zNY) rfl)) (by rw [ei]; rfl)
end Go.PI.Tryz
namespace Go.PI.Tryz
open Go.Proofs Go.PI
theorem phase_1 {q : Rat} (h : sgnQ q = 1) : phase q = 1 := phase_one.2 (sgnQ_pos.1 (by omega))
theorem phase_2 {q : Rat} (h : sgnQ q = -1) : phase q = 2 := phase_two.2 (sgnQ_neg.1 (by omega))
theorem phase_0 {q : Rat} (h : ¬ sgnQ q = 1) (h2 : ¬ sgnQ q = -1) : phase q = 0 := by
 refine phase_zero.2 (sgnQ_zero.1 ?_);rcases Int.lt_trichotomy q.num 0 with e | e | e
 ·exact absurd (Int.sign_eq_neg_one_of_neg e) h2
 ·unfold sgnQ; rw [e]; rfl
 ·exact absurd (Int.sign_eq_one_of_pos e) h
def offI (pre : List Rat) (i : Nat) : List Int := (List.range pre.length).map fun j => if j < i then phase pre[j]! else 0
theorem zLE (pre : List Rat) (i : Nat) : (offI pre i).length = pre.length := by simp [offI]
theorem offI_zero (pre : List Rat) : List.replicate pre.length (0 : Int) = offI pre 0 := by
 refine List.ext_getElem (by simp [offI]) fun j h1 h2 => ?_
 simp [offI]
theorem zLD {pre : List Rat} {i : Nat} (h : i < pre.length) : (offI pre i).set i (phase pre[i]!) = offI pre (i + 1) := by
 refine List.ext_getElem (by simp [offI]) fun j h1 h2 => ?_
 by_cases e : j = i
 ·subst e; simp [offI]
 ·simp only [offI, List.getElem_set_ne (show i ≠ j by omega), List.getElem_map, List.getElem_range]
  by_cases e2 : j < i
  ·rw [if_pos e2, if_pos (by omega)]
  ·rw [if_neg e2, if_neg (by omega)]
theorem offI_keep {pre : List Rat} {i : Nat} (h : i < pre.length) (hr : phase pre[i]! = 0) : offI pre i = offI pre (i + 1) := by
 refine List.ext_getElem (by simp [offI]) fun j h1 h2 => ?_
 simp only [offI, List.getElem_map, List.getElem_range];by_cases e : j = i
 ·subst e
  rw [if_neg (Nat.lt_irrefl _), if_pos (by omega), hr]
 ·by_cases e2 : j < i
  ·rw [if_pos e2, if_pos (by omega)]
  ·rw [if_neg e2, if_neg (by omega)]
def ofL (pre : List Rat) : List Int := offI pre pre.length
theorem zDH (l : List Int) : ∀ e ∈ l.map (PV.int .i64), nr 3 e = true ∧ e ≠ .any := zAV fun _ => ⟨rfl, by simp⟩
theorem ok_pof : FO 146 Tryz.f146 [.tmp 4, .tmp 5] 53 := mkO Tryz.func146 Tryz.ntmps146 Tryz.results146
def szV (g : GraL) (x : List Rat) (k K : Nat) : Prop := (∀ j, j < g.units.length → (∀ q ∈ valsN g.us x j, sz K q) ∧ sz K (preL g.us x)[j]!) ∧ (∀ q ∈ valsN g.us x g.us.length, sz K q) ∧ (∀ f ∈ g.units, k + f.terms.length * (k + K + 1) + k + K ≤ 949999990) ∧ ∀ f ∈ g.outs, k + f.terms.length * (k + K + 1) + k + K ≤ 949999990
end Go.PI.Tryz
namespace Go.PI.Tryz
open Go.Proofs Go.PI
theorem ok_rgvalid15 : FO 57 Tryz.f57 [.tmp 2] 57 := mkO Tryz.func57 Tryz.ntmps57 Tryz.results57
theorem zEX (g : GraL) (hg : okGra 950000000 g) : Fn 57 [encGra g] (.data (.bool (dB (VaG g)))) := by
 obtain ⟨hu, ho⟩ := hg;have no : ¬ VaG g → false = dB (VaG g) := zI8;have l1 := hu.1;have l2 := ho.1;have cc := zK6 g.outs (g.ins + g.units.length) ⟨ho.1, fun f hf => zB0 (by decide) (ho.2 f hf)⟩;refine zAM hmix hT ok_rgvalid15 (by simp [encGra]) ?_
 (repeat' (first|refine stp ?_|with_reducible(refine brr ?_ ?_<;>intro h)));all_goals try(conv=>whnf)
 ·exact zAB rfl (congrArg PV.bool (no fun e => by have := e.1.1; omega))
 ·exact zAB rfl (congrArg PV.bool (no fun e => by have := e.1.2; omega))
 ·exact zAB rfl (congrArg PV.bool (no fun e => by have := e.2.1; omega))
 ·exact zAB rfl (congrArg PV.bool (no fun e => by have := e.2.2.1.1; omega))
 ·exact zAB rfl (congrArg PV.bool (no fun e => by have := e.2.2.1.2; omega))
 ·have h0 : (1 ≤ g.ins ∧ g.ins ≤ 256) ∧ g.units.length ≤ 1024 ∧ (1 ≤ g.outs.length ∧ g.outs.length ≤ 256) := ⟨⟨by omega, by omega⟩, by omega, by omega, by omega⟩
  obtain ⟨h1, h2, h3⟩ := h0
  refine zAG hT (fun (i : Nat) => [(1, .ptr 0 0 0), (3, .int .i64 i)]) (fun _ => [(0, ⟨[encGra g], 3, true⟩)]) [] 1
   (fun i => i ≤ g.units.length ∧ ∀ j, j < i → ValidF g.units[j]! (g.ins + j)) (fun i => g.units.length - i) 0 ⟨Nat.zero_le _, fun j h => (by omega)⟩ (by decide) (by simp) ?_ ?_
  ·exact ⟨[0], [], [], [], ttt, ⟨apx, zAC rfl rfl, trivial⟩, ⟨bbx, trivial⟩, by simp [ren]⟩
  intro i ⟨i1, i2⟩;by_cases hi : i < g.units.length
  ·have c1 := zNJ g.units[i]! (g.ins + i) (zB0 (by decide) (hu.2 _ (get_mem hi)))
   (repeat' (first|refine stp ?_|with_reducible(refine brr ?_ ?_<;>intro h)));all_goals try(conv=>whnf)
   ·refine zAA c1 rfl ?_
    (repeat' (first|refine stp ?_|with_reducible(refine brr ?_ ?_<;>intro h)));all_goals try(conv=>whnf)
    ·exact ⟨i + 1, ⟨⟨by omega, fun j hj => zA2 (p := fun (j : Nat) => ValidF g.units[j]! (g.ins + j)) i2 (validB_true.1 (by assumption)) hj⟩, by show g.units.length - (i + 1) < g.units.length - i; omega⟩, [0], [], [], [], ttt, ⟨apx, zAC rfl rfl, trivial⟩, ⟨bbx, trivial⟩, by simp [ren]⟩
    ·exact zAB rfl (congrArg PV.bool (no fun e => by have := validB_true.2 (e.2.2.2.1 i hi); simp_all))
   all_goals (exfalso; omega)
  ·(repeat' (first|refine stp ?_|with_reducible(refine brr ?_ ?_<;>intro h)));all_goals try(conv=>whnf)
   all_goals try (exfalso; omega)
   rw [List.length_map];refine zAA cc rfl ?_;refine sts ?_;refine zAB rfl (congrArg PV.bool ?_);rw [Bool.eq_iff_iff, dB_true, dB_true];exact ⟨fun e => ⟨h1, h2, h3, fun j hj => i2 j (by omega), e⟩, fun e => e.2.2.2.2⟩
theorem ok_rgvalues : FO 23 Tryz.f23 [.tmp 4, .tmp 5] 59 := mkO Tryz.func23 Tryz.ntmps23 Tryz.results23
theorem zOX (g : GraL) (x : List RatL) (k K : Nat) (hg : okGra k g) (hk : k ≤ 950000000) (hk1 : 1 ≤ k) (hK1 : 1 ≤ K) (hKb : K ≤ 949999990) (hv : VaG g) (hx : okLs 950000000 x) (hl : (x.length : Int) = g.ins) (hK : ∀ j, j < g.units.length → (∀ q ∈ valsN g.us (x.map qv) j, sz K q) ∧ sz K (preL g.us (x.map qv))[j]!) (hb : ∀ f ∈ g.units, k + f.terms.length * (k + K + 1) + k + K ≤ 949999990) : Fn 23 [encGra g, .imm (x.map encRat)] (.data (.tup [.imm ((valsN g.us (x.map qv) g.us.length).map encX), .int .i64 0])) := by
 have cv := zEX g (zCF hk hg);rw [dB_true.2 hv] at cv;have l1 := hx.1;have l2 := hg.1.1;have lu := zGD g;have hn := hv.2.1;have hx2 : x.length ≤ 256 := by have := hv.1.2; omega
 refine zAM hmix hT ok_rgvalues (by simp [encGra]) ?_;refine sts ?_;refine zAA cv rfl ?_
 (repeat' (first|refine stp ?_|with_reducible(refine brr ?_ ?_<;>intro h)));all_goals try(conv=>whnf)
 ·exfalso; omega
 refine zBV hT [(.sl 6, 3, true)] (fun (i : Nat) => [(1, .imm (x.map encRat)), (2, .ptr 0 0 0), (6, .own 1 0 i), (7, .int .i64 i)]) (fun i => [(0, ⟨[encGra g], 3, true⟩), (1, ⟨((x.take i).map qv).map encX, 3, true⟩)]) [] 2
  (fun i => i ≤ x.length) (fun i => x.length - i) 0 (Nat.zero_le _) (by decide) (by simp) ⟨rfl, trivial⟩ ?_ ?_
 ·exact ⟨[0, _], [], [], [], ttt, ⟨zAD rfl rfl, (apy rfl), zAH (by decide) rfl rfl, zAC rfl rfl, trivial⟩,
   ⟨bbx, zAE (by decide) rfl rfl (zAN []) rfl, trivial⟩, by simp [ren]⟩
 intro i i1;have hlen : ((x.take i).map qv).length = i := by rw [List.length_map, List.length_take]; omega
 by_cases hi : i < x.length
 ·have q1 := zA7 hx hi
  have cc := zC2 x[i]! q1.1 (by have := q1.2; omega) (by have := q1.2; omega)
  (repeat' (first|refine stp ?_|with_reducible(refine brr ?_ ?_<;>intro h)));all_goals try(conv=>whnf)
  ·refine zAA cc rfl ?_
   refine sts ?_
   exact ⟨i + 1, ⟨by omega, by show x.length - (i + 1) < x.length - i; omega⟩, [0, _], [], [], [], ttt, ⟨zAD rfl rfl, (apy rfl), zAH (by decide) rfl rfl, zAC rfl rfl, trivial⟩,
    ⟨bbx, zAE (by decide) rfl (zN6 hi) (zAN _) rfl, trivial⟩, by simp [ren]⟩
  all_goals (exfalso; omega)
 ·have e0 : (x.take i).map qv = valsN g.us (x.map qv) 0 := by rw [zEK, List.take_of_length_le (by omega)]
  (repeat' (first|refine stp ?_|with_reducible(refine brr ?_ ?_<;>intro h)));all_goals try(conv=>whnf)
  all_goals try (exfalso; omega)
  refine zAG hT (fun (j : Nat) => [(2, .ptr 0 0 0), (6, .own 1 0 (x.length + j)), (8, .int .i64 j)]) (fun j => [(0, ⟨[encGra g], 3, true⟩), (1, ⟨(valsN g.us (x.map qv) j).map encX, 3, true⟩)]) [] 2
   (fun j => j ≤ g.units.length) (fun j => g.units.length - j) 0 (Nat.zero_le _) (by decide) (by simp) ?_ ?_
  ·exact ⟨[0, 1], [], [], [], ttt, ⟨apx, zAH (by decide) rfl (by omega), zAC rfl rfl, trivial⟩,
    ⟨bbx, zAE (by decide) rfl (congrArg (List.map encX) e0) (zAN _) rfl, trivial⟩, by simp [ren]⟩
  intro j j1;have hvl : (valsN g.us (x.map qv) j).length = x.length + j := by rw [zCI j (by omega), List.length_map]
  by_cases hj : j < g.units.length
  ·have hvu := hv.2.2.2.1 j hj
   have hmem := get_mem hj;have hou := hg.1.2 _ hmem;have hb1 := hb _ hmem;obtain ⟨hs1, hs2⟩ := hK j hj;have hvr : ∀ p ∈ g.units[j]!.Q.ts, 0 ≤ p.1 ∧ p.1 < ((valsN g.us (x.map qv) j).length : Nat) := fun p hp => by have := (zCC hvu).2 p hp; omega
   have ce := c_rlevalB g.units[j]!.Q (valsN g.us (x.map qv) j) k K (zBT hou hk1) hs1 hvr (by rw [zE1]; exact hb1) (by rw [zE1]; exact hou.2.2) (by omega);rw [zE6 hvu, hvl] at ce;have hp : (preL g.us (x.map qv))[j]! = evQ g.units[j]!.Q (valsN g.us (x.map qv) j) := by rw [zG7 (by omega), zEP hj]
   rw [hp] at hs2;have cx := c_rqmax (cr (evQ g.units[j]!.Q (valsN g.us (x.map qv) j))) ⟨false, [], []⟩ K (zB7 hs2) okQ_zero (by omega);rw [zAL, show qv ⟨false, [], []⟩ = 0 by rfl, show ∀ a : Rat, maxQ a 0 = maxQ 0 a from fun a => by unfold maxQ; split <;> split <;> grind] at cx
   have hvs : (valsN g.us (x.map qv) j).map encX ++ [encRat (cr (maxQ 0 (evQ g.units[j]!.Q (valsN g.us (x.map qv) j))))] = (valsN g.us (x.map qv) (j + 1)).map encX := by
    rw [zDV (by omega), List.map_append, zEP hj]; rfl
   (repeat' (first|refine stp ?_|with_reducible(refine brr ?_ ?_<;>intro h)));all_goals try(conv=>whnf)
   ·refine zB5 (r := 1) ce rfl rfl rfl rfl (zBA (zAN _)) ?_
    refine sts ?_;refine zAA cx rfl ?_;refine sts ?_
    exact ⟨j + 1, ⟨by omega, by show g.units.length - (j + 1) < g.units.length - j; omega⟩, [0, _], [], [], [], ttt, ⟨(apy rfl), zAH (by decide) rfl rfl, zAC rfl rfl, trivial⟩,
     ⟨bbx, zAE (by decide) rfl hvs (zAN _) rfl, trivial⟩, by simp [ren]⟩
   all_goals (exfalso; omega)
  ·have ej : j = g.us.length := by omega
   (repeat' (first|refine stp ?_|with_reducible(refine brr ?_ ?_<;>intro h)));all_goals try(conv=>whnf)
   all_goals try (exfalso; omega)
   exact zAB (zF8 (zAR (zAI rfl rfl (by omega) fun q => zCH (cr q)) rfl)) (by rw [ej])
theorem ok_rgforms : FO 193 Tryz.f193 [.tmp 6, .tmp 7] 43 := mkO Tryz.func193 Tryz.ntmps193 Tryz.results193
theorem c_rgforms (g : GraL) (l : List AffL) (x : List RatL) (V : List Rat) (k K : Nat) (hk1 : 1 ≤ k) (hlo : okFs k l) (cv : Fn 23 [encGra g, .imm (x.map encRat)] (.data (.tup [.imm (V.map encX), .int .i64 0]))) (hV : ∀ q ∈ V, sz K q) (hVl : V.length ≤ 1048576) (hlv : ∀ i, i < l.length → ValidF l[i]! V.length) (hb : ∀ f ∈ l, k + f.terms.length * (k + K + 1) + k + K ≤ 949999990) : Fn 193 [encGra g, .imm (l.map encAff), .imm (x.map encRat)] (.data (.tup [.imm ((l.map fun f => evQ f.Q V).map encX), .int .i64 0])) := by
 have l1 := hlo.1;have hol : (l.map fun f => evQ f.Q V).length = l.length := by simp
 refine zAM hmix hT ok_rgforms (by simp [encGra]) ?_;refine sts ?_;refine zAA cv rfl ?_;refine sts ?_
 all_goals try (exfalso; omega)
 refine zBV hT [(.sl 10, 3, true)] (fun (i : Nat) => [(1, .imm (l.map encAff)), (8, .imm (V.map encX)), (10, .own 0 0 i), (11, .int .i64 i)]) (fun i => [(0, ⟨((l.map fun f => evQ f.Q V).take i).map encX, 3, true⟩)]) [] 1
  (fun i => i ≤ l.length) (fun i => l.length - i) 0 (Nat.zero_le _) (by decide) (by simp) ⟨rfl, trivial⟩ ?_ ?_
 ·exact ⟨[_], [], [], [], ttt, ⟨zAD rfl rfl, zAD rfl rfl, zAH (by decide) rfl rfl, zAC rfl rfl, trivial⟩, ⟨zAE (by decide) rfl rfl (zAN []) rfl, trivial⟩, by simp [ren]⟩
 intro i i1;have hlen : ((l.map fun f => evQ f.Q V).take i).length = i := by rw [List.length_take]; omega
 by_cases hi : i < l.length
 ·have hvu := hlv i hi
  have hmem := get_mem hi;have hou := hlo.2 _ hmem;have ce := c_rleval l[i]!.Q V k K (zBT hou hk1) hV (zCC hvu).2 (by rw [zE1]; exact hb _ hmem) (by rw [zE1]; exact hou.2.2) hVl;rw [zE6 hvu] at ce;have hg1 : (l.map fun f => evQ f.Q V)[i]! = evQ l[i]!.Q V := by rw [getElem!_pos _ i (by omega), getElem!_pos l i hi]; simp
  have hsn := X_snoc (l := l.map fun f => evQ f.Q V) (j := i) (by omega) hg1
  (repeat' (first|refine stp ?_|with_reducible(refine brr ?_ ?_<;>intro h)));all_goals try(conv=>whnf)
  ·refine zAA ce rfl ?_
   refine sts ?_;exact ⟨i + 1, ⟨by omega, by show l.length - (i + 1) < l.length - i; omega⟩, [_], [], [], [], ttt, ⟨zAD rfl rfl, zAD rfl rfl, zAH (by decide) rfl rfl, zAC rfl rfl, trivial⟩, ⟨zAE (by decide) rfl hsn (zAN _) rfl, trivial⟩, by simp [ren]⟩
  all_goals (exfalso; omega)
 ·have et : (l.map fun f => evQ f.Q V).take i = l.map fun f => evQ f.Q V := List.take_of_length_le (by omega)
  (repeat' (first|refine stp ?_|with_reducible(refine brr ?_ ?_<;>intro h)));all_goals try(conv=>whnf)
  all_goals try (exfalso; omega)
  exact zAB (zF8 (zAR (zAI rfl rfl (by omega) fun q => zCH (cr q)) rfl)) (by rw [et])
end Go.PI.Tryz
namespace Go.PI.Tryz
open Go.Proofs Go.PI
theorem pre_units {g : GraL} {x : List Rat} (hv : VaG g) (hl : (x.length : Int) = g.ins) : (g.units.map fun f => evQ f.Q (valsN g.us x g.us.length)) = preL g.us x := by
 rw [preL_all (n := g.ins) hl.symm fun j hj => by rw [zGD] at hj; rw [zEP hj]; exact zCC (hv.2.2.2.1 j hj)];unfold GraL.us; rw [List.map_map]; rfl
theorem ok_rgpre : FO 158 Tryz.f158 [.tmp 4, .tmp 5] 13 := mkO Tryz.func158 Tryz.ntmps158 Tryz.results158
theorem c_rgpre (g : GraL) (x : List RatL) (k K : Nat) (hg : okGra k g) (hk : k ≤ 950000000) (hk1 : 1 ≤ k) (hK1 : 1 ≤ K) (hKb : K ≤ 949999990) (hv : VaG g) (hx : okLs 950000000 x) (hl : (x.length : Int) = g.ins) (hs : szV g (x.map qv) k K) : Fn 158 [encGra g, .imm (x.map encRat)] (.data (.tup [.imm ((preL g.us (x.map qv)).map encX), .int .i64 0])) := by
 have cv := zOX g x k K hg hk hk1 hK1 hKb hv hx hl hs.1 hs.2.2.1;have l1 := hv.2.1;have l2 := hv.1;have lu := zGD g;have hvl : (valsN g.us (x.map qv) g.us.length).length = x.length + g.units.length := by rw [zCI _ (Nat.le_refl _), List.length_map, lu]
 have cf := c_rgforms g g.units x _ k K hk1 hg.1 cv hs.2.1 (by omega) (fun i hi => ValidF_le (by omega) (hv.2.2.2.1 i hi)) hs.2.2.1;rw [pre_units hv (by rw [List.length_map]; exact hl)] at cf;refine zAM hmix hT ok_rgpre (by simp [encGra]) ?_;refine sts ?_;refine zAA cf rfl ?_;refine sts ?_;exact zAB rfl rfl
end Go.PI.Tryz
namespace Go.PI.Tryz
open Go.Proofs Go.PI
theorem ok_rcomplete : FO 164 Tryz.f164 [.tmp 2] 22 := mkO Tryz.func164 Tryz.ntmps164 Tryz.results164
theorem c_rcomplete (p : List Int) (hp : p.length ≤ 1048576) : Fn 164 [ints p] (.data (.bool (dB (∀ i, i < p.length → Dec p[i]!)))) := by
 refine zAM hmix hT ok_rcomplete (by simp) ?_;refine sts ?_;refine zA6 hT (fun n : Nat => [(0, ints p), (3, .int .i64 n)]) (fun n => n ≤ p.length ∧ ∀ j, j < n → Dec p[j]!) (fun n => p.length - n) 0 ⟨by omega, fun j hj => by omega⟩ ?_ ?_
 ·exact ⟨zAD rfl rfl, zAC rfl rfl, trivial⟩
 intro i ⟨i1, i2⟩;by_cases hi : i < p.length
 ·(repeat' (first|refine stp ?_|with_reducible(refine brr ?_ ?_<;>intro h)));all_goals try(conv=>whnf)
  all_goals try (exfalso; omega)
  all_goals first
   | (refine zAB rfl (congrArg PV.bool (zI8 fun e => ?_)); rcases e i hi with e | e <;> (exact absurd e (by assumption)))
   | exact ⟨i + 1, ⟨⟨by omega, fun j hj => zA2 (p := fun j => Dec p[j]!) i2 (by unfold Dec; omega) hj⟩, by show p.length - (i + 1) < p.length - i; omega⟩, zAD rfl rfl, zAC rfl rfl, trivial⟩
   | skip
 ·(repeat' (first|refine stp ?_|with_reducible(refine brr ?_ ?_<;>intro h)));all_goals try(conv=>whnf)
  all_goals try (exfalso; omega)
  exact zAB rfl (congrArg PV.bool (zM8 fun j hj => i2 j (by omega)))
end Go.PI.Tryz
namespace Go.PI.Tryz
open Go.Proofs Go.PI
theorem ok_rinsert : FO 63 Tryz.f63 [.cell 4 37] 36 := mkO Tryz.func63 Tryz.ntmps63 Tryz.results63
theorem zOW (F : QF) (vars : List QF) (n k : Nat) (κ : Nat → Nat) (hv : okVr n κ vars) (hn : n ≤ 1000) (hf : szF k F) (ho : okF vars.length F) (hfl : F.ts.length ≤ 1048576) (hS : k + sumF (fun v => κ v + k + 1) 0 vars.length ≤ 100000) (hl : vars.length ≤ 1048576) : Fn 63 [encF F, .own 0 0 vars.length] (.wrt (rowF vars) (encF (applyQ F vars)) (rowF vars)) := by
 refine zCT hmix hT ok_rinsert (by simp [encF]) ?_;refine sts ?_
 refine zAG hT (fun (i : Nat) => [(1, .own 0 0 vars.length), (2, .ptr 1 0 0), (4, .ptr 2 0 0), (5, .ptr 3 0 0), (6, .int .i64 i)])
  (fun i => [(0, rowF vars), (1, ⟨[encF F], 4, true⟩), (2, ⟨[.agg [.nilsl, .bool false, .nilsl, .nilsl]], 4, true⟩), (3, ⟨[encF (appN F vars i)], 4, true⟩)]) [] 4
  (fun i => i ≤ F.ts.length) (fun i => F.ts.length - i) 0 (Nat.zero_le _) (by decide) (by simp) ?_ ?_
 ·exact ⟨[_, _, _], [], [], [(6, [encF ⟨[], F.c⟩])], ⟨trivial, trivial, ⟨⟨_, 6, _, rfl, rfl, rfl⟩, trivial⟩⟩, ⟨zAH (by decide) rfl rfl, (apy rfl), (apy rfl), (apy rfl), zAC rfl rfl, trivial⟩,
   ⟨zAE (by decide) rfl rfl (zAX vars) rfl, bbx, bbx, bbx, trivial⟩, by simp [ren]⟩
 intro i i1;obtain ⟨a1, a2, a3⟩ := zNO hv hf ho i (by omega);by_cases hi : i < F.ts.length
 ·have hmem : F.ts[i]! ∈ F.ts := get_mem hi
  have hvi := ho.2 _ hmem;have hvi2 : 0 ≤ (tQ F.ts[i]!).var ∧ (tQ F.ts[i]!).var < vars.length := hvi;have hj : F.ts[i]!.1.toNat < vars.length := by omega
  obtain ⟨v1, v2, v3⟩ := hv _ hj;have hk1 : κ F.ts[i]!.1.toNat + k + 1 ≤ sumF (fun v => κ v + k + 1) 0 vars.length := zMJ (fun v => κ v + k + 1) hj;have cs := zJE vars[F.ts[i]!.1.toNat]! F.ts[i]!.2 (κ F.ts[i]!.1.toNat) k v2 (hf.2 _ hmem) (by omega) (by omega);have sm := scaleR_sz v2 (hf.2 _ hmem);have sl : (scaleR vars[F.ts[i]!.1.toNat]! F.ts[i]!.2).ts.length ≤ n := Nat.le_trans sclL_len v3;have hmul : ((scaleR vars[F.ts[i]!.1.toNat]! F.ts[i]!.2).ts.length + 1) * (κ F.ts[i]!.1.toNat + k + 1) ≤ 1001 * 100000 := Nat.mul_le_mul (by omega) (by omega);have ca := c_radd (appN F vars i) (scaleR vars[F.ts[i]!.1.toNat]! F.ts[i]!.2) _ _ a2 sm (by omega) (by omega);rw [zNP a1.1 v1.1, ← zF0 hi] at ca
  (repeat' (first|refine stp ?_|with_reducible(refine brr ?_ ?_<;>intro h)));all_goals try(conv=>whnf)
  all_goals try (exfalso; omega)
  refine zA0 F.ts[i]!.1.toNat (Nat.zero_add _) hj ?_;refine sts ?_;refine zAA cs rfl ?_;refine sts ?_;refine zAA ca rfl ?_;refine sts ?_
  exact ⟨i + 1, ⟨by omega, by show F.ts.length - (i + 1) < F.ts.length - i; omega⟩, [1, 2, 3], [], [], [], ttt, ⟨zAH (by decide) rfl rfl, apx, apx, apx, zAC rfl rfl, trivial⟩,
   ⟨zAE (by decide) rfl rfl (zAX vars) rfl, bbx, bbx, bbx, trivial⟩, by simp [ren]⟩
 ·have e : i = F.ts.length := by omega
  (repeat' (first|refine stp ?_|with_reducible(refine brr ?_ ?_<;>intro h)));all_goals try(conv=>whnf)
  all_goals try (exfalso; omega)
  subst e;rw [zHL];exact zCP rfl rfl rfl rfl rfl (zL7 vars)
end Go.PI.Tryz
namespace Go.PI.Tryz
open Go.Proofs Go.PI
def szR (g : GraL) (p : List Int) (n k : Nat) (κ : Nat → Nat) : Prop := ∀ j, j ≤ g.units.length → okVr n κ (frmN g.us n p j) ∧ k + sumF (fun v => κ v + k + 1) 0 (n + j) ≤ 100000
theorem ok_rall18 : FO 118 Tryz.f118 [.tmp 4, .tmp 5, .tmp 6, .tmp 7] 93 := mkO Tryz.func118 Tryz.ntmps118 Tryz.results118
theorem c_rall18 (g : GraL) (p : List Int) (n k : Nat) (κ : Nat → Nat) (hg : okGra k g) (hk : k ≤ 950000000) (hk1 : 1 ≤ k) (hc : comP g p) (hpl : p.length ≤ 1048576) (hin : g.ins = (n : Int)) (hs : szR g p n k κ) : Fn 118 [encGra g, ints p] (.own none (.tup [.imm ((frmN g.us n p g.us.length).map encF), .own 0 0 (prfL g.us n p).length, .imm ((outQ g n p).map encF), .int .i64 0]) (rowF (prfL g.us n p))) := by
 have cc := c_rcomplete p hpl;have cv := zEX g (zCF hk hg);obtain ⟨hv, hp, hd⟩ := hc;rw [dB_true.2 hd] at cc;rw [dB_true.2 hv] at cv;have l2 := hg.1.1;have l3 := hg.2.1;have lu := zGD g;have hn := hv.2.1;have hn2 : n ≤ 256 := by have := hv.1.2; omega
 have co := zFY 1 (by decide);have hvl0 : (varQs n).length = n := by simp [varQs]
 have hol : (outQ g n p).length = g.outs.length := by simp [outQ]
 refine zEW hmix hT ok_rall18 (by simp [encGra]) ?_;refine sts ?_;refine zAA cv rfl ?_
 (repeat' (first|refine stp ?_|with_reducible(refine brr ?_ ?_<;>intro h)));all_goals try(conv=>whnf)
 ·exfalso; omega
 refine zAA cc rfl ?_;refine sts ?_
 refine zBV hT [(.sl 8, 4, true), (.sl 9, 4, true), (.sl 10, 4, true)] (fun (i : Nat) => [(1, ints p), (2, .ptr 1 0 0), (8, .own 2 0 i), (9, .own 3 0 0), (10, .own 4 0 0), (11, .int .i64 i)]) (fun i => [(1, ⟨[encGra g], 3, true⟩), (2, rowF ((varQs n).take i)), (3, rowF []), (4, rowF [])]) [] 5
  (fun i => i ≤ n) (fun i => n - i) 0 (Nat.zero_le _) (by decide) (by simp) ⟨rfl, rfl, rfl, trivial⟩ ?_ ?_
 ·exact ⟨[1, _, _, _], [], [], [], ttt, ⟨zAD rfl rfl, (apy rfl), zAH (by decide) rfl rfl, zAH (by decide) rfl rfl, zAH (by decide) rfl rfl, zAC rfl rfl, trivial⟩,
   ⟨bbx, zAE (by decide) rfl rfl (zAX []) rfl, zAE (by decide) rfl rfl (zAX []) rfl, zAE (by decide) rfl rfl (zAX []) rfl, trivial⟩, by simp [ren]⟩
 intro i i1;have hlen : ((varQs n).take i).length = i := by rw [List.length_take]; omega
 by_cases hi : i < n
 ·have hsn := zO2 (l := varQs n) (j := i) (by omega) (varQs_get hi)
  rw [encF_var] at hsn
  (repeat' (first|refine stp ?_|with_reducible(refine brr ?_ ?_<;>intro h)));all_goals try(conv=>whnf)
  ·refine zAA co rfl ?_
   refine sts ?_
   exact ⟨i + 1, ⟨by omega, by show n - (i + 1) < n - i; omega⟩, [1, 16, 3, 4], [13], [], [(16, ((varQs n).take i).map encF ++ [.agg [.imm [encQ ((i : Int), 1)], .bool false, .imm [], .imm []]])], ⟨⟨⟨_, rfl⟩, trivial⟩, trivial, ⟨⟨_, 6, _, rfl, zGQ (by rfl) (zMT zNY _), rfl⟩, trivial⟩⟩, ⟨zAD rfl rfl, apx, zAH (by decide) rfl rfl, zAH (by decide) rfl rfl, zAH (by decide) rfl rfl, zAC rfl rfl, trivial⟩,
    ⟨bbx, zAE (by decide) rfl hsn (zAX _) rfl, zAE (by decide) rfl rfl (zAX []) rfl, zAE (by decide) rfl rfl (zAX []) rfl, trivial⟩, by simp [ren]⟩
  all_goals (exfalso; omega)
 ·have e0 : (varQs n).take i = frmN g.us n p 0 := List.take_of_length_le (by omega)
  (repeat' (first|refine stp ?_|with_reducible(refine brr ?_ ?_<;>intro h)));all_goals try(conv=>whnf)
  all_goals try (exfalso; omega)
  refine zAG hT (fun (j : Nat) => [(1, ints p), (2, .ptr 1 0 0), (8, .own 2 0 (n + j)), (9, .own 3 0 j), (10, .own 4 0 0), (12, .int .i64 j)]) (fun j => [(1, ⟨[encGra g], 3, true⟩), (2, rowF (frmN g.us n p j)), (3, rowF ((prfL g.us n p).take j)), (4, rowF [])]) [] 5
   (fun j => j ≤ g.units.length) (fun j => g.units.length - j) 0 (Nat.zero_le _) (by decide) (by simp) ?_ ?_
  ·exact ⟨[1, 2, 3, 4], [], [], [], ttt, ⟨zAD rfl rfl, apx, zAH (by decide) rfl (by omega), zAH (by decide) rfl rfl, zAH (by decide) rfl rfl, zAC rfl rfl, trivial⟩,
    ⟨bbx, zAE (by decide) rfl (congrArg (List.map encF) e0) (zAX _) rfl, zAE (by decide) rfl rfl (zAX []) rfl, zAE (by decide) rfl rfl (zAX []) rfl, trivial⟩, by simp [ren]⟩
  intro j j1;have hfl := zBZ g.us n p j;have hp2 := prfL_len g.us n p;have hpl : ((prfL g.us n p).take j).length = j := by rw [List.length_take]; omega
  by_cases hj : j < g.units.length
  ·have hvu := hv.2.2.2.1 j hj
   have hmem := get_mem hj;have hou := hg.1.2 _ hmem;have hoq := zCC hvu;rw [hin, show ((n : Int) + (j : Int)) = ((frmN g.us n p j).length : Nat) by omega] at hoq;obtain ⟨s1, s2⟩ := hs j (by omega);rw [← hfl] at s2;have ca := zOW g.units[j]!.Q (frmN g.us n p j) n k κ s1 (by omega) (zBT hou hk1) hoq (by rw [zE1]; exact hou.2.2) s2 (by omega);rw [zE6 hvu, hfl] at ca;have hpg : (prfL g.us n p)[j]! = applyQ g.units[j]!.Q (frmN g.us n p j) := by rw [prfL_get (by omega), zEP hj]
   have hps := zO2 (l := prfL g.us n p) (j := j) (by omega) hpg;have hfs : frmN g.us n p (j + 1) = frmN g.us n p j ++ [if p[j]! = 2 then zeroQ else applyQ g.units[j]!.Q (frmN g.us n p j)] := by rw [← zEP hj]; rfl
   (repeat' (first|refine stp ?_|with_reducible(refine brr ?_ ?_<;>intro h)));all_goals try(conv=>whnf)
   all_goals try (exfalso; omega)
   refine zB5 (r := 2) ca rfl rfl rfl rfl (zBA (zAX _)) ?_
   (repeat' (first|refine stp ?_|with_reducible(refine brr ?_ ?_<;>intro h)));all_goals try(conv=>whnf)
   ·rw [if_pos (by assumption)] at hfs
    have hz : (frmN g.us n p j).map encF ++ [.agg [.imm [], .bool false, .imm [], .imm []]] = (frmN g.us n p (j + 1)).map encF := by rw [hfs, List.map_append, ← zM5]; rfl
    exact ⟨j + 1, ⟨by omega, by show g.units.length - (j + 1) < g.units.length - j; omega⟩, [1, 34, 22, 4], [], [], [(34, (frmN g.us n p j).map encF ++ [.agg [.imm [], .bool false, .imm [], .imm []]])], ⟨trivial, trivial, ⟨⟨_, 6, _, rfl, zGQ (by rfl) (zMT zNY _), rfl⟩, trivial⟩⟩, ⟨zAD rfl rfl, apx, zAH (by decide) rfl rfl, zAH (by decide) rfl rfl, zAH (by decide) rfl rfl, zAC rfl rfl, trivial⟩,
     ⟨bbx, zAE (by decide) rfl hz (zAX _) rfl, zAE (by decide) rfl hps (zAX _) rfl, zAE (by decide) rfl rfl (zAX []) rfl, trivial⟩, by simp [ren]⟩
   ·rw [if_neg (by assumption)] at hfs
    have hz : (frmN g.us n p j).map encF ++ [encF (applyQ g.units[j]!.Q (frmN g.us n p j))] = (frmN g.us n p (j + 1)).map encF := by rw [hfs, List.map_append]; rfl
    exact ⟨j + 1, ⟨by omega, by show g.units.length - (j + 1) < g.units.length - j; omega⟩, [1, _, _, 4], [], [], [], ttt, ⟨zAD rfl rfl, (apy rfl), zAH (by decide) rfl rfl, zAH (by decide) rfl rfl, zAH (by decide) rfl rfl, zAC rfl rfl, trivial⟩,
     ⟨bbx, zAE (by decide) rfl hz (zAX _) rfl, zAE (by decide) rfl hps (zAX _) rfl, zAE (by decide) rfl rfl (zAX []) rfl, trivial⟩, by simp [ren]⟩
   all_goals (exfalso; omega)
  ·have ej : j = g.us.length := by omega
   have et : (prfL g.us n p).take j = prfL g.us n p := List.take_of_length_le (by omega);rw [ej] at hfl;rw [et, ej];have ep : g.us.length = (prfL g.us n p).length := by omega
   (repeat' (first|refine stp ?_|with_reducible(refine brr ?_ ?_<;>intro h)));all_goals try(conv=>whnf)
   all_goals try (exfalso; omega)
   refine zAG hT (fun (i : Nat) => [(1, ints p), (2, .ptr 1 0 0), (8, .own 2 0 (n + g.us.length)), (9, .own 3 0 g.us.length), (10, .own 4 0 i), (14, .int .i64 i)]) (fun i => [(1, ⟨[encGra g], 3, true⟩), (2, rowF (frmN g.us n p g.us.length)), (3, rowF (prfL g.us n p)), (4, rowF ((outQ g n p).take i))]) [] 5
    (fun i => i ≤ g.outs.length) (fun i => g.outs.length - i) 0 (Nat.zero_le _) (by decide) (by simp) ?_ ?_
   ·exact ⟨[1, 2, 3, 4], [], [], [], ttt, ⟨zAD rfl rfl, apx, zAH (by decide) rfl rfl, zAH (by decide) rfl rfl, zAH (by decide) rfl rfl, zAC rfl rfl, trivial⟩,
     ⟨bbx, zAE (by decide) rfl rfl (zAX _) rfl, zAE (by decide) rfl rfl (zAX _) rfl, zAE (by decide) rfl rfl (zAX []) rfl, trivial⟩, by simp [ren]⟩
   intro i i1;have hlen : ((outQ g n p).take i).length = i := by rw [List.length_take]; omega
   by_cases hi : i < g.outs.length
   ·have hvu := hv.2.2.2.2 i hi
    have hou := hg.2.2 _ (get_mem hi);have hoq := zCC hvu;rw [hin, show ((n : Int) + (g.units.length : Int)) = ((frmN g.us n p g.us.length).length : Nat) by omega] at hoq;obtain ⟨s1, s2⟩ := hs g.us.length (by omega);rw [← hfl] at s2;have ca := zOW g.outs[i]!.Q (frmN g.us n p g.us.length) n k κ s1 (by omega) (zBT hou hk1) hoq (by rw [zE1]; exact hou.2.2) s2 (by omega);rw [zE6 hvu, hfl] at ca;have hsn := zO2 (l := outQ g n p) (j := i) (by omega) (outQ_get hi)
    (repeat' (first|refine stp ?_|with_reducible(refine brr ?_ ?_<;>intro h)));all_goals try(conv=>whnf)
    all_goals try (exfalso; omega)
    refine zB5 (r := 2) ca rfl rfl rfl rfl (zBA (zAX _)) ?_;refine sts ?_
    exact ⟨i + 1, ⟨by omega, by show g.outs.length - (i + 1) < g.outs.length - i; omega⟩, [1, _, _, _], [], [], [], ttt, ⟨zAD rfl rfl, (apy rfl), zAH (by decide) rfl rfl, zAH (by decide) rfl rfl, zAH (by decide) rfl rfl, zAC rfl rfl, trivial⟩,
     ⟨bbx, zAE (by decide) rfl rfl (zAX _) rfl, zAE (by decide) rfl rfl (zAX _) rfl, zAE (by decide) rfl hsn (zAX _) rfl, trivial⟩, by simp [ren]⟩
   ·have et2 : (outQ g n p).take i = outQ g n p := List.take_of_length_le (by omega)
    refine sus ?_;refine zA5 ?_
    (repeat' (first|refine stu ?_|with_reducible(refine brr ?_ ?_<;>intro h)));all_goals try(conv=>whnf)
    all_goals try (exfalso; omega)
    refine tellV [] [(8, .imm ((frmN g.us n p g.us.length).map encF)), (9, .own 1 0 g.us.length), (10, .imm ((outQ g n p).map encF))] [(1, rowF (prfL g.us n p))] [] 2 (by decide) (by simp) trivial
     ⟨[3], [2, 4], [(8, .imm ((frmN g.us n p g.us.length).map encF)), (10, .imm ((outQ g n p).map encF))], [], ⟨⟨⟨_, rfl⟩, ⟨_, rfl⟩, trivial⟩, ⟨⟨6, _, zAI rfl rfl (by omega) zNY, rfl⟩, ⟨6, _, zAI rfl (by rw [et2]) (by omega) zNY, rfl⟩, trivial⟩, trivial⟩, ⟨zAD rfl rfl, zAH (by decide) rfl rfl, zAD rfl rfl, trivial⟩, ⟨zAE (by decide) rfl rfl (zAX _) rfl, trivial⟩, by simp [ren]⟩ ?_
    refine sts ?_
    have ho : okRes (rowF (prfL g.us n p)) (.tup [.imm ((frmN g.us n p g.us.length).map encF), .own 0 0 (prfL g.us n p).length, .imm ((outQ g n p).map encF), .int .i64 0]) := by
     refine Or.inl ⟨fun c hc => ?_, ?_⟩
     ·simp only [resCells, List.mem_cons, List.not_mem_nil, or_false] at hc
      rcases hc with rfl | rfl | rfl | rfl
      ·exact Or.inr rfl
      ·exact Or.inl (by simp)
      ·exact Or.inr rfl
      ·exact Or.inr rfl
     ·simp [resCells]
    exact zER (r := 1) (by rw [← ep]; rfl) rfl rfl rfl (zL7 _) ho
end Go.PI.Tryz
namespace Go.PI.Tryz
open Go.Proofs Go.PI
theorem zN8 {v : QF} (hv : Srt v.ts) (c : Rat) : scaleR v c = mergeQ zeroQ v c := by
 have h1 := zDE c _ zeroQ.ts v.ts (Nat.le_refl _) zC5 hv;obtain ⟨h3, h4, _⟩ := zL4 c hv;have e : sclL c v.ts = mrg c zeroQ.ts v.ts := zLY h3 h1.1 fun w => by rw [h1.2, h4]; simp only [zeroQ, cf]; grind
 unfold mergeQ scaleR;simp only [e, QF.mk.injEq, true_and];simp only [zeroQ]; grind
theorem ok_rforms18 : FO 60 Tryz.f60 [.tmp 4, .tmp 5, .tmp 6] 22 := mkO Tryz.func60 Tryz.ntmps60 Tryz.results60
theorem c_rforms18 (g : GraL) (p : List Int) (n k : Nat) (κ : Nat → Nat) (hg : okGra k g) (hk : k ≤ 950000000) (hk1 : 1 ≤ k) (hc : comP g p) (hpl : p.length ≤ 1048576) (hin : g.ins = (n : Int)) (hs : szR g p n k κ) : Fn 60 [encGra g, ints p] (.data (.tup [.imm ((frmN g.us n p g.us.length).map encF), .imm ((outQ g n p).map encF), .int .i64 0])) := by
 have ca := c_rall18 g p n k κ hg hk hk1 hc hpl hin hs;refine zAM hmix hT ok_rforms18 (by simp [encGra]) ?_;refine sts ?_;refine zBD ca rfl ?_;refine sts ?_;exact zAB rfl rfl
end Go.PI.Tryz
namespace Go.PI.Tryz
open Go.Proofs Go.PI
theorem ok_rof18O : FO 100 Tryz.f100 [.tmp 4, .tmp 5] 53 := mkO Tryz.func100 Tryz.ntmps100 Tryz.results100
theorem c_rof18O (g : GraL) (x : List RatL) (k K : Nat) (hg : okGra k g) (hk : k ≤ 950000000) (hk1 : 1 ≤ k) (hK1 : 1 ≤ K) (hKb : K ≤ 949999990) (hv : VaG g) (hx : okLs 950000000 x) (hl : (x.length : Int) = g.ins) (hs : szV g (x.map qv) k K) : Fn 100 [encGra g, .imm (x.map encRat)] (.own none (.tup [.own 0 0 (preL g.us (x.map qv)).length, .int .i64 0]) ⟨(ofL (preL g.us (x.map qv))).map (.int .i64), 1, false⟩) := by
 have cv := zEX g (zCF hk hg);rw [dB_true.2 hv] at cv;have cp := c_rgpre g x k K hg hk hk1 hK1 hKb hv hx hl hs;have hnu := hv.2.1;have lu := zGD g;have hpl := zB9 g.us (x.map qv);have hsz : ∀ j, j < (preL g.us (x.map qv)).length → sz K (preL g.us (x.map qv))[j]! := fun j hj => (hs.1 j (by omega)).2
 generalize preL g.us (x.map qv) = pre at *
 refine zEW hmix hT ok_rof18O (by simp [encGra]) ?_;refine sts ?_;refine zAA cv rfl ?_
 (repeat' (first|refine stp ?_|with_reducible(refine brr ?_ ?_<;>intro h)));all_goals try(conv=>whnf)
 ·exfalso; omega
 refine zAA cp rfl ?_;refine sts ?_
 all_goals try (exfalso; omega)
 refine zAG hT (fun (i : Nat) => [(6, .imm (pre.map encX)), (8, .own 1 0 pre.length), (9, .int .i64 i)]) (fun i => [(1, ⟨(offI pre i).map (.int .i64), 1, false⟩)]) [] 2
  (fun i => i ≤ pre.length) (fun i => pre.length - i) 0 (Nat.zero_le _) (by decide) (by simp) ?_ ?_
 ·exact ⟨[_], [], [], [], ttt, ⟨zAD rfl rfl, zAH (by decide) rfl (by simp only [List.length_map]; omega), zAC rfl rfl, trivial⟩, ⟨zAE (by decide) rfl (by rw [← offI_zero]; exact zIJ (f := PV.int .i64) (x := (0 : Int)) (by first | rfl | omega | simp)) (zDH _) rfl, trivial⟩, by simp [ren]⟩
 intro i i1;have hil := zLE pre i;by_cases hi : i < pre.length
 ·have hs := hsz i hi
  have l3 := zAJ hs;have cs := zDG (cr pre[i]!) (zAF _) (by omega);rw [zAL] at cs
  (repeat' (first|refine stp ?_|with_reducible(refine brr ?_ ?_<;>intro h)));all_goals try(conv=>whnf)
  all_goals try (exfalso; omega)
  refine zAA cs rfl ?_
  (repeat' (first|refine stp ?_|with_reducible(refine brr ?_ ?_<;>intro h)));all_goals try(conv=>whnf)
  ·refine zA0 i (Nat.zero_add _) (by omega) ?_
   refine sts ?_;exact ⟨i + 1, ⟨by omega, by show pre.length - (i + 1) < pre.length - i; omega⟩, [_], [], [], [], ttt, ⟨zAD rfl rfl, zAH (by decide) rfl rfl, zAC rfl rfl, trivial⟩, ⟨zAE (by decide) rfl (by rw [← zLD hi, phase_1 (by assumption)]; exact zBJ (by omega) rfl) (zDH _) rfl, trivial⟩, by simp [ren]⟩
  ·refine zA0 i (Nat.zero_add _) (by omega) ?_
   refine sts ?_;exact ⟨i + 1, ⟨by omega, by show pre.length - (i + 1) < pre.length - i; omega⟩, [_], [], [], [], ttt, ⟨zAD rfl rfl, zAH (by decide) rfl rfl, zAC rfl rfl, trivial⟩, ⟨zAE (by decide) rfl (by rw [← zLD hi, phase_2 (by assumption)]; exact zBJ (by omega) rfl) (zDH _) rfl, trivial⟩, by simp [ren]⟩
  ·exact ⟨i + 1, ⟨by omega, by show pre.length - (i + 1) < pre.length - i; omega⟩, [_], [], [], [], ttt, ⟨zAD rfl rfl, zAH (by decide) rfl rfl, zAC rfl rfl, trivial⟩, ⟨zAE (by decide) rfl (congrArg (List.map (PV.int .i64)) (offI_keep hi (phase_0 (by assumption) (by assumption)))) (zDH _) rfl, trivial⟩, by simp [ren]⟩
 ·have ei : i = pre.length := by omega
  (repeat' (first|refine stp ?_|with_reducible(refine brr ?_ ?_<;>intro h)));all_goals try(conv=>whnf)
  all_goals try (exfalso; omega)
  subst ei
  have ho : okRes ⟨(offI pre pre.length).map (.int .i64), 1, false⟩ (.tup [.own 0 0 pre.length, .int .i64 0]) := by
   refine Or.inl ⟨fun c hc => ?_, ?_⟩
   ·simp only [resCells, List.mem_cons, List.not_mem_nil, or_false] at hc
    rcases hc with rfl | rfl
    ·exact Or.inl (by simpa using (zLE pre pre.length).symm)
    ·exact Or.inr rfl
   ·simp [resCells, zLE]
  exact zER (r := 1) rfl rfl rfl rfl (fun e he => (zDH _ e he).1) ho
theorem ok_rpiece18O : FO 61 Tryz.f61 [.tmp 4, .tmp 5] 43 := mkO Tryz.func61 Tryz.ntmps61 Tryz.results61
theorem c_rpiece18O (g : GraL) (p : List Int) (n k : Nat) (κ : Nat → Nat) (hg : okGra k g) (hk : k ≤ 950000000) (hk1 : 1 ≤ k) (hc : comP g p) (hpl : p.length ≤ 1048576) (hin : g.ins = (n : Int)) (hs : szR g p n k κ) : Fn 61 [encGra g, ints p] (.own none (.tup [.own 0 0 (pieL g.us n p).length, .int .i64 0]) (rowF (pieL g.us n p))) := by
 have ca := c_rall18 g p n k κ hg hk hk1 hc hpl hin hs;rw [pieI_zero, zG8] at ca;obtain ⟨hv, hp, hd⟩ := hc;have co := zFY (-1) (by decide);rw [show (((-1 : Int)) : Rat) = -1 by rfl] at co;have lu := zGD g;have l2 := hg.1.1;have hn2 : n ≤ 256 := by have := hv.1.2; omega
 have hnu := hv.2.1;refine zEW hmix hT ok_rpiece18O (by simp [encGra]) ?_;refine sts ?_;refine zBD ca rfl ?_;refine sts ?_
 all_goals try (exfalso; omega)
 refine zAG hT (fun (i : Nat) => [(1, ints p), (7, .own 1 0 g.us.length), (10, .int .i64 i)]) (fun i => [(1, rowF (pieI g.us n p i))]) [] 2
  (fun i => i ≤ g.us.length) (fun i => g.us.length - i) 0 (Nat.zero_le _) (by decide) (by simp) ?_ ?_
 ·exact ⟨[_], [], [], [], ttt, ⟨zAD rfl rfl, zAH (by decide) rfl rfl, zAC rfl rfl, trivial⟩, ⟨zAE (by decide) rfl rfl (zAX _) rfl, trivial⟩, by simp [ren]⟩
 intro i i1;have hil := zG8 g.us n p i;by_cases hi : i < g.us.length
 ·have hvu := hv.2.2.2.1 i (by omega)
  have hou := hg.1.2 _ (get_mem (show i < g.units.length by omega));have hoq := zCC hvu;have hfl := zBZ g.us n p i;rw [hin, show ((n : Int) + (i : Int)) = ((frmN g.us n p i).length : Nat) by omega] at hoq;obtain ⟨s1, s2⟩ := hs i (by omega);rw [← hfl] at s2;obtain ⟨b1, b2, b3⟩ := zHK s1 (zBT hou hk1) hoq;have cs := zJE (applyQ g.units[i]!.Q (frmN g.us n p i)) (-1) _ 1 b2 (zGI (z := -1) (by decide)) (by omega) (by omega);rw [zN8 b1.1] at cs;have hgt := pieI_get (us := g.us) (n := n) (p := p) hi;rw [zEP (by omega)] at hgt
  (repeat' (first|refine stp ?_|with_reducible(refine brr ?_ ?_<;>intro h)));all_goals try(conv=>whnf)
  ·have hr : rowG g.us n p i = mergeQ zeroQ (applyQ g.units[i]!.Q (frmN g.us n p i)) (-1) := by unfold rowG; rw [if_pos (by assumption), zEP (by omega)]
   refine zA0 i (Nat.zero_add _) (by omega) ?_;rw [hgt];refine sts ?_;refine zAA co rfl ?_;refine sts ?_;refine zAA cs rfl ?_;refine sts ?_;refine zA0 i (Nat.zero_add _) (by omega) ?_;rw [hgt];refine sts ?_;exact ⟨i + 1, ⟨by omega, by show g.us.length - (i + 1) < g.us.length - i; omega⟩, [_], [], [], [], ttt, ⟨zAD rfl rfl, zAH (by decide) rfl rfl, zAC rfl rfl, trivial⟩, ⟨zAE (by decide) rfl (by rw [← pieI_set hi, hr]; exact zBJ (by omega) rfl) (zAX _) rfl, trivial⟩, by simp [ren]⟩
  ·exact ⟨i + 1, ⟨by omega, by show g.us.length - (i + 1) < g.us.length - i; omega⟩, [_], [], [], [], ttt, ⟨zAD rfl rfl, zAH (by decide) rfl rfl, zAC rfl rfl, trivial⟩, ⟨zAE (by decide) rfl (congrArg (List.map encF) (pieI_keep hi (by assumption))) (zAX _) rfl, trivial⟩, by simp [ren]⟩
  all_goals (exfalso; omega)
 ·have ei : i = g.us.length := by omega
  (repeat' (first|refine stp ?_|with_reducible(refine brr ?_ ?_<;>intro h)));all_goals try(conv=>whnf)
  all_goals try (exfalso; omega)
  subst ei
  have ho : okRes (rowF (pieI g.us n p g.us.length)) (.tup [.own 0 0 g.us.length, .int .i64 0]) := by
   refine Or.inl ⟨fun c hc => ?_, ?_⟩
   ·simp only [resCells, List.mem_cons, List.not_mem_nil, or_false] at hc
    rcases hc with rfl | rfl
    ·exact Or.inl (by simpa using (zG8 g.us n p g.us.length).symm)
    ·exact Or.inr rfl
   ·simp [resCells, zG8]
  have el : (pieL g.us n p).length = g.us.length := hil;rw [el];exact zER (r := 1) rfl rfl rfl rfl (zL7 _) ho
end Go.PI.Tryz
namespace Go.PI.Tryz
open Go.Proofs Go.PI
theorem ok_rinsertD : FO 63 Tryz.f63 [.cell 4 37] 36 := mkO Tryz.func63 Tryz.ntmps63 Tryz.results63
theorem c_rinsertD (F : QF) (vars : List QF) (n k : Nat) (κ : Nat → Nat) (hv : okVr n κ vars) (hn : n ≤ 1000) (hf : szF k F) (ho : okF vars.length F) (hfl : F.ts.length ≤ 1048576) (hS : k + sumF (fun v => κ v + k + 1) 0 vars.length ≤ 100000) (hl : vars.length ≤ 1048576) : Fn 63 [encF F, .imm (vars.map encF)] (.data (encF (applyQ F vars))) := by
 refine zAM hmix hT ok_rinsertD (by simp [encF]) ?_;refine sts ?_
 refine zAG hT (fun (i : Nat) => [(1, .imm (vars.map encF)), (2, .ptr 0 0 0), (4, .ptr 1 0 0), (5, .ptr 2 0 0), (6, .int .i64 i)])
  (fun i => [(0, ⟨[encF F], 4, true⟩), (1, ⟨[.agg [.nilsl, .bool false, .nilsl, .nilsl]], 4, true⟩), (2, ⟨[encF (appN F vars i)], 4, true⟩)]) [] 3
  (fun i => i ≤ F.ts.length) (fun i => F.ts.length - i) 0 (Nat.zero_le _) (by decide) (by simp) ?_ ?_
 ·exact ⟨[_, _, _], [], [], [(5, [encF ⟨[], F.c⟩])], ⟨trivial, trivial, ⟨⟨_, 6, _, rfl, rfl, rfl⟩, trivial⟩⟩, ⟨zAD rfl rfl, (apy rfl), (apy rfl), (apy rfl), zAC rfl rfl, trivial⟩,
   ⟨bbx, bbx, bbx, trivial⟩, by simp [ren]⟩
 intro i i1;obtain ⟨a1, a2, a3⟩ := zNO hv hf ho i (by omega);by_cases hi : i < F.ts.length
 ·have hmem : F.ts[i]! ∈ F.ts := get_mem hi
  have hvi := ho.2 _ hmem;have hvi2 : 0 ≤ (tQ F.ts[i]!).var ∧ (tQ F.ts[i]!).var < vars.length := hvi;have hj : F.ts[i]!.1.toNat < vars.length := by omega
  obtain ⟨v1, v2, v3⟩ := hv _ hj;have hk1 : κ F.ts[i]!.1.toNat + k + 1 ≤ sumF (fun v => κ v + k + 1) 0 vars.length := zMJ (fun v => κ v + k + 1) hj;have cs := zJE vars[F.ts[i]!.1.toNat]! F.ts[i]!.2 (κ F.ts[i]!.1.toNat) k v2 (hf.2 _ hmem) (by omega) (by omega);have sm := scaleR_sz v2 (hf.2 _ hmem);have sl : (scaleR vars[F.ts[i]!.1.toNat]! F.ts[i]!.2).ts.length ≤ n := Nat.le_trans sclL_len v3;have hmul : ((scaleR vars[F.ts[i]!.1.toNat]! F.ts[i]!.2).ts.length + 1) * (κ F.ts[i]!.1.toNat + k + 1) ≤ 1001 * 100000 := Nat.mul_le_mul (by omega) (by omega);have ca := c_radd (appN F vars i) (scaleR vars[F.ts[i]!.1.toNat]! F.ts[i]!.2) _ _ a2 sm (by omega) (by omega);rw [zNP a1.1 v1.1, ← zF0 hi] at ca
  (repeat' (first|refine stp ?_|with_reducible(refine brr ?_ ?_<;>intro h)));all_goals try(conv=>whnf)
  all_goals try (exfalso; omega)
  refine zBB (j := F.ts[i]!.1.toNat) (show F.ts[i]!.1 = _ by omega) hj ?_;refine sts ?_;refine zAA cs rfl ?_;refine sts ?_;refine zAA ca rfl ?_;refine sts ?_
  exact ⟨i + 1, ⟨by omega, by show F.ts.length - (i + 1) < F.ts.length - i; omega⟩, [0, 1, 2], [], [], [], ttt, ⟨zAD rfl rfl, apx, apx, apx, zAC rfl rfl, trivial⟩,
   ⟨bbx, bbx, bbx, trivial⟩, by simp [ren]⟩
 ·have e : i = F.ts.length := by omega
  (repeat' (first|refine stp ?_|with_reducible(refine brr ?_ ?_<;>intro h)));all_goals try(conv=>whnf)
  all_goals try (exfalso; omega)
  subst e;rw [zHL];exact zAB rfl rfl
end Go.PI.Tryz
