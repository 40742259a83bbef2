/-
  Graphs of the program: Valid, run, Pre.
-/
import Derived.Test.YtcinkbieboiffaaGreatCGA
import Derived.Test.YtcinkbieboiffaaGreatCRC
import Derived.Test.YtcinkbieboiffaaGreatCPD
import Derived.Test.YtcinkbieboiffaaGreatCPE
set_option linter.unusedVariables false
set_option linter.unusedSimpArgs false
set_option linter.unnecessarySimpa false
namespace Go.PI.Tryz
open Go.Proofs Go.PI
theorem zFQ (x : List Rat) : ∀ e ∈ x.map encX, nr 3 e = true ∧ e ≠ .any := zAM fun x => ⟨rfl, by simp [encX, encRat]⟩
theorem rowX_n1 (x : List Rat) : ∀ e ∈ x.map encX, nr 3 e = true := fun e he => (zFQ x e he).1
abbrev rowX (x : List Rat) : Blk := ⟨x.map encX, 3, true⟩
theorem c_rlevalB (f : QF) (x : List Rat) (k kx : Nat) (hf : szF k f) (hx : ∀ q ∈ x, sz kx q) (hv : ∀ p ∈ f.ts, 0 ≤ p.1 ∧ p.1 < x.length) (hk : k + f.ts.length * (k + kx + 1) + k + kx ≤ 949999990) (hl : f.ts.length ≤ 1048576) (hxl : x.length ≤ 1048576) : Fn 56 [encF f, .own 0 0 x.length] (.wrt (rowX x) (.tup [encRat (cr (evQ f x)), .int .i64 0]) (rowX x)) := by
 refine fnC_vmut hmix hT zLS (by simp [encF]) ?_;refine sts ?_
 refine zAL hT (fun ((i, y) : Nat × Rat) => [(1, .own 0 0 x.length), (2, .ptr 3 0 0), (4, .ptr 1 0 0), (6, .ptr 2 0 0), (7, .int .i64 i)])
  (fun (_, y) => [(0, rowX x), (1, ⟨[.agg [.bool false, .nilsl, .nilsl]], 3, true⟩), (2, ⟨[encRat (cr y)], 3, true⟩), (3, ⟨[encF f], 4, true⟩)]) [] 4
  (fun (i, y) => i ≤ f.ts.length ∧ y = ev1 x (f.ts.take i) f.c ∧ sz (k + i * (k + kx + 1)) y) (fun (i, _) => f.ts.length - i) (0, f.c) ⟨Nat.zero_le _, rfl, by simpa using hf.1⟩ (by decide) (by simp) ?_ ?_
 ·exact ⟨[_, _, _], [], [], [], ttt, ⟨zAU (by decide) rfl rfl, (apy rfl), (apy rfl), (apy rfl), zAC rfl rfl, trivial⟩,
   ⟨zAE (by decide) rfl rfl (zFQ x) rfl, bbx, bbx, bbx, trivial⟩, by simp [ren]⟩
 intro ⟨i, y⟩ ⟨i1, i2, i3⟩;by_cases hi : i < f.ts.length
 ·have hmem : f.ts[i]! ∈ f.ts := by rw [getElem!_pos f.ts i hi]; exact List.getElem_mem hi
  have hvi := hv _ hmem;have hp := hf.2 _ hmem;have hj : f.ts[i]!.1.toNat < x.length := by omega
  have hxm : x[f.ts[i]!.1.toNat]! ∈ x := by rw [getElem!_pos x _ hj]; exact List.getElem_mem hj
  have hxi := hx _ hxm;have hm := zDH hp hxi;have hmul : (i + 1) * (k + kx + 1) ≤ f.ts.length * (k + kx + 1) := Nat.mul_le_mul_right _ (by omega);rw [Nat.add_mul] at hmul;have l1 := zA6 hp;have l2 := zA6 hxi;have l3 := zA6 hm;have l4 := zA6 i3;have cm := zJZ (cr f.ts[i]!.2) (cr x[f.ts[i]!.1.toNat]!) (zA1 _) (zA1 _) (by omega) (by omega) (by omega) (by omega);rw [zBA, zBA] at cm;have ca := zFT (cr y) (cr (f.ts[i]!.2 * x[f.ts[i]!.1.toNat]!)) (zA1 _) (zA1 _) (by omega) (by omega) (by omega) (by omega);rw [zBA, zBA] at ca;have hsz := zC9 (show k + i * (k + kx + 1) + (k + kx) + 1 ≤ k + (i + 1) * (k + kx + 1) by rw [Nat.add_mul]; omega) (zEC i3 hm);have hy : ev1 x (f.ts.take (i + 1)) f.c = y + f.ts[i]!.2 * x[f.ts[i]!.1.toNat]! := by rw [ev1_take x f.ts f.c i hi, i2]
  (repeat' (first|refine stp ?_|with_reducible(refine brr ?_ ?_<;>intro h)));all_goals try(conv=>whnf)
  ·exact absurd h (show ¬ f.ts[i]!.1 < 0 by omega)
  ·exact absurd h (show ¬ f.ts[i]!.1 ≥ (x.length : Int) by omega)
  ·refine zBP f.ts[i]!.1.toNat (Nat.zero_add _) hj ?_
   refine sts ?_;refine zAA cm rfl ?_;refine sts ?_;refine zAA ca rfl ?_;refine sts ?_
   exact ⟨(i + 1, y + f.ts[i]!.2 * x[f.ts[i]!.1.toNat]!), ⟨⟨by omega, hy.symm, hsz⟩, by show f.ts.length - (i + 1) < f.ts.length - i; omega⟩, [1, 2, 3], [], [], [], ttt, ⟨zAU (by decide) rfl rfl, apx, apx, apx, zAC rfl (by omega), trivial⟩,
    ⟨zAE (by decide) rfl rfl (zFQ x) rfl, bbx, bbx, bbx, trivial⟩, by simp [ren]⟩
  ·exact absurd (show (i : Int) < f.ts.length by omega) h
 ·have hmul : i * (k + kx + 1) ≤ f.ts.length * (k + kx + 1) := Nat.mul_le_mul_right _ (by omega)
  have e : y = evQ f x := by rw [i2, List.take_of_length_le (by omega)]; rfl
  (repeat' (first|refine stp ?_|with_reducible(refine brr ?_ ?_<;>intro h)));all_goals try(conv=>whnf)
  all_goals try (exfalso; omega)
  subst e;exact mutV_to rfl rfl rfl rfl rfl (rowX_n1 x)
end Go.PI.Tryz
namespace Go.PI.Tryz
open Go.Proofs Go.PI
theorem any_valid {l : List AffL} {n : Int} : l.any (fun f => !validB f n) = false ↔ ∀ j, j < l.length → ValidF l[j]! n := by
 rw [List.any_eq_false];constructor
 ·intro e j hj
  have := e _ (get_mem hj);exact validB_true.1 (by simpa using this)
 ·intro e f hf
  obtain ⟨j, hj, rfl⟩ := List.getElem_of_mem hf;have := validB_true.2 (e j hj);rw [getElem!_pos l j hj] at this;simp [this]
theorem ok_gv1 : FO 136 Tryz.f136 [.tmp 3] 8 := mkO Tryz.func136 Tryz.ntmps136 Tryz.results136
theorem c_gv1 (f : AffL) (n : Int) (hf : okA 2147483596 f) : Fn 136 [encAff f, .cptr (.int .i64 n) 0] (.data (.bool (!validB f n))) := by
 have cc := zI9 f n hf;refine zAJ hmix hT ok_gv1 (by simp) ?_;refine sts ?_;refine zAA cc rfl ?_;refine sts ?_;exact zAB rfl rfl
theorem ok_gvl : FO 108 Tryz.f108 [.tmp 4] 9 := mkO Tryz.func108 Tryz.ntmps108 Tryz.results108
theorem c_gvl (l : List AffL) (n : Int) (hl : okFs 950000000 l) : Fn 108 [.imm (l.map encAff), .int .i64 n] (.data (.bool (dB (valAll l n)))) := by
 have cc := zH3 l (fun f => !validB f n) 136 (.int .i64 n) hl.1 (fun f hf => c_gv1 f n (zBE (by decide) (hl.2 f hf)));refine zAJ hmix hT ok_gvl (by simp) ?_;refine sts ?_;refine zAA cc rfl ?_;refine sts ?_;refine zAB rfl (congrArg PV.bool ?_);rw [Bool.eq_iff_iff, dB_true, Bool.not_eq_true', any_valid];exact Iff.rfl
theorem ok_gvalid : FO 70 Tryz.f70 [.tmp 2] 56 := mkO Tryz.func70 Tryz.ntmps70 Tryz.results70
theorem c_gvalid (g : GraL) (hg : okGra 950000000 g) : Fn 70 [encGra g] (.data (.bool (dB (VaG g)))) := by
 obtain ⟨hu, ho⟩ := hg;have no : ¬ VaG g → false = dB (VaG g) := zFA;have l1 := hu.1;have l2 := ho.1;have cc := c_gvl g.outs (g.ins + g.units.length) ho;refine zAJ hmix hT ok_gvalid (by simp [encGra]) ?_
 (repeat' (first|refine stp ?_|with_reducible(refine brr ?_ ?_<;>intro h)));all_goals try(conv=>whnf)
 ·exact zAB rfl (congrArg PV.bool (no fun e => by have := e.1.1; omega))
 ·exact zAB rfl (congrArg PV.bool (no fun e => by have := e.1.2; omega))
 ·exact zAB rfl (congrArg PV.bool (no fun e => by have := e.2.1; omega))
 ·exact zAB rfl (congrArg PV.bool (no fun e => by have := e.2.2.1.1; omega))
 ·exact zAB rfl (congrArg PV.bool (no fun e => by have := e.2.2.1.2; omega))
 ·have h0 : (1 ≤ g.ins ∧ g.ins ≤ 256) ∧ g.units.length ≤ 1024 ∧ (1 ≤ g.outs.length ∧ g.outs.length ≤ 256) := ⟨⟨by omega, by omega⟩, by omega, by omega, by omega⟩
  obtain ⟨h1, h2, h3⟩ := h0
  refine zAL hT (fun (i : Nat) => [(1, .ptr 0 0 0), (32, .imm (g.units.map encAff)), (33, .int .i64 g.units.length), (34, .int .i64 i)]) (fun _ => [(0, ⟨[encGra g], 3, true⟩)]) [] 1
   (fun i => i ≤ g.units.length ∧ ∀ j, j < i → ValidF g.units[j]! (g.ins + j)) (fun i => g.units.length - i) 0 ⟨Nat.zero_le _, fun j h => (by omega)⟩ (by decide) (by simp) ?_ ?_
  ·exact ⟨[0], [], [], [], ttt, ⟨apx, zAD rfl rfl, zAC rfl (by simp), zAC rfl rfl, trivial⟩, ⟨bbx, trivial⟩, by simp [ren]⟩
  intro i ⟨i1, i2⟩;by_cases hi : i < g.units.length
  ·have c1 := zI9 g.units[i]! (g.ins + i) (zBE (by decide) (hu.2 _ (get_mem hi)))
   (repeat' (first|refine stp ?_|with_reducible(refine brr ?_ ?_<;>intro h)));all_goals try(conv=>whnf)
   ·refine zAA c1 rfl ?_
    (repeat' (first|refine stp ?_|with_reducible(refine brr ?_ ?_<;>intro h)));all_goals try(conv=>whnf)
    ·exact ⟨i + 1, ⟨⟨by omega, fun j hj => zAZ (p := fun (j : Nat) => ValidF g.units[j]! (g.ins + j)) i2 (validB_true.1 (by assumption)) hj⟩, by show g.units.length - (i + 1) < g.units.length - i; omega⟩, [0], [], [], [], ttt, ⟨apx, zAD rfl rfl, zAC rfl rfl, zAC rfl rfl, trivial⟩, ⟨bbx, trivial⟩, by simp [ren]⟩
    ·exact zAB rfl (congrArg PV.bool (no fun e => by have := validB_true.2 (e.2.2.2.1 i hi); simp_all))
   all_goals (exfalso; omega)
  ·(repeat' (first|refine stp ?_|with_reducible(refine brr ?_ ?_<;>intro h)));all_goals try(conv=>whnf)
   all_goals try (exfalso; omega)
   rw [List.length_map];refine zAA cc rfl ?_;refine sts ?_;refine zAB rfl (congrArg PV.bool ?_);rw [Bool.eq_iff_iff, dB_true, dB_true];exact ⟨fun e => ⟨h1, h2, h3, fun j hj => i2 j (by omega), e⟩, fun e => e.2.2.2.2⟩
end Go.PI.Tryz
namespace Go.PI
def GraL.us (g : GraL) : List QF := g.units.map AffL.Q
end Go.PI
namespace Go.PI.Tryz
open Go.Proofs Go.PI
theorem zM0 (g : GraL) : g.us.length = g.units.length := by simp [GraL.us]
theorem us_get {g : GraL} {j : Nat} (h : j < g.units.length) : g.us[j]! = g.units[j]!.Q := by
 unfold GraL.us; rw [getElem!_pos _ j (by simpa using h), getElem!_pos g.units j h]; simp
theorem encF_Q {f : AffL} {n : Int} (h : ValidF f n) : encF f.Q = encAff f := by rw [zG6, canF h]
theorem X_snoc {l : List Rat} {j : Nat} {q : Rat} (h : j < l.length) (e : l[j]! = q) : (l.take j).map encX ++ [encRat (cr q)] = (l.take (j + 1)).map encX := by
 rw [List.take_succ_eq_append_getElem h, List.map_append, ← getElem!_pos l j h, e]; rfl
theorem take_snocQ {l : List RatL} {i : Nat} (h : i < l.length) : ((l.take i).map qv).map encX ++ [encRat (cr (qv l[i]!))] = ((l.take (i + 1)).map qv).map encX := by
 rw [List.take_succ_eq_append_getElem h, List.map_append, List.map_append, getElem!_pos l i h]; rfl
theorem okQ_zero {k : Nat} : okQ k ⟨false, [], []⟩ := ⟨⟨by simp [okN], by simp [okN]⟩, Nat.zero_le _, Nat.zero_le _⟩
end Go.PI.Tryz
