/-
  The reference: forms of the inputs put into a form.
-/
import Derived.Test.YtdgckinmcnjheaaGreatCGA
import Derived.Test.YtdgckinmcnjheaaGreatCRC
import Derived.Test.YtdgckinmcnjheaaGreatCPE
set_option linter.unusedVariables false
set_option linter.unusedSimpArgs false
set_option linter.unnecessarySimpa false
namespace Go.PI.Tryz
open Go.Proofs Go.PI
theorem zAK (x : List Rat) : ∀ e ∈ x.map vBF, nr 3 e = true ∧ e ≠ .any := zAW fun x => ⟨rfl, by simp [vBF, vAZ]⟩
theorem zIX (x : List Rat) : ∀ e ∈ x.map vBF, nr 3 e = true := fun e he => (zAK x e he).1
abbrev vCN (x : List Rat) : Blk := ⟨x.map vBF, 3, true⟩
theorem zK1 (f : QF) (x : List Rat) (k kx : Nat) (hf : szF k f) (hx : ∀ q ∈ x, sz kx q) (hv : ∀ p ∈ f.ts, 0 ≤ p.1 ∧ p.1 < x.length) (hk : k + f.ts.length * (k + kx + 1) + k + kx ≤ 949999990) (hl : f.ts.length ≤ 1048576) (hxl : x.length ≤ 1048576) : Fn 82 [vA5 f, .own 0 0 x.length] (.wrt (vCN x) (.tup [vAZ (cr (evQ f x)), .int .i64 0]) (vCN x)) := by
 refine zCF vA6 hT vFY (by simp [vA5]) ?_;refine sts ?_
 refine zAG hT (fun ((i, y) : Nat × Rat) => [(1, .own 0 0 x.length), (4, .ptr 1 0 0), (6, .ptr 2 0 0), (12, .imm (f.ts.map vDA)), (13, .int .i64 f.ts.length), (14, .int .i64 i)])
  (fun (_, y) => [(0, vCN x), (1, ⟨[.agg [.bool false, .nilsl, .nilsl]], 3, true⟩), (2, ⟨[vAZ (cr y)], 3, true⟩)]) [] 3
  (fun (i, y) => i ≤ f.ts.length ∧ y = ev1 x (f.ts.take i) f.c ∧ sz (k + i * (k + kx + 1)) y) (fun (i, _) => f.ts.length - i) (0, f.c) ⟨Nat.zero_le _, rfl, by simpa using hf.1⟩ (by decide) (by simp) ?_ ?_
 ·exact ⟨[_, _], [], [], [], ttt, ⟨zAF (by decide) rfl rfl, (apy rfl), (apy rfl), zAE rfl rfl, zAC rfl (by simp), zAC rfl rfl, trivial⟩,
   ⟨zAD (by decide) rfl rfl (zAK x) rfl, bbx, bbx, trivial⟩, by simp [ren]⟩
 intro ⟨i, y⟩ ⟨i1, i2, i3⟩;by_cases hi : i < f.ts.length
 ·have hmem : f.ts[i]! ∈ f.ts := by rw [getElem!_pos f.ts i hi]; exact List.getElem_mem hi
  have hvi := hv _ hmem;have hp := hf.2 _ hmem;have hj : f.ts[i]!.1.toNat < x.length := by omega
  have hxm : x[f.ts[i]!.1.toNat]! ∈ x := by rw [getElem!_pos x _ hj]; exact List.getElem_mem hj
  have hxi := hx _ hxm;have hm := zB6 hp hxi;have hmul : (i + 1) * (k + kx + 1) ≤ f.ts.length * (k + kx + 1) := Nat.mul_le_mul_right _ (by omega);rw [Nat.add_mul] at hmul;have l1 := zAL hp;have l2 := zAL hxi;have l3 := zAL hm;have l4 := zAL i3;have cm := zF3 (cr f.ts[i]!.2) (cr x[f.ts[i]!.1.toNat]!) (zAI _) (zAI _) (by omega) (by omega) (by omega) (by omega);rw [zAQ, zAQ] at cm;have ca := zGP (cr y) (cr (f.ts[i]!.2 * x[f.ts[i]!.1.toNat]!)) (zAI _) (zAI _) (by omega) (by omega) (by omega) (by omega);rw [zAQ, zAQ] at ca;have hsz := zBE (show k + i * (k + kx + 1) + (k + kx) + 1 ≤ k + (i + 1) * (k + kx + 1) by rw [Nat.add_mul]; omega) (zBY i3 hm);have hy : ev1 x (f.ts.take (i + 1)) f.c = y + f.ts[i]!.2 * x[f.ts[i]!.1.toNat]! := by rw [zGZ x f.ts f.c i hi, i2]
  (repeat' (first|refine stp ?_|with_reducible(refine brr ?_ ?_<;>intro h)));all_goals try(conv=>whnf)
  ·exact absurd h (show ¬ f.ts[i]!.1 < 0 by omega)
  ·exact absurd h (show ¬ f.ts[i]!.1 ≥ (x.length : Int) by omega)
  ·refine zAU f.ts[i]!.1.toNat (Nat.zero_add _) hj ?_
   refine sts ?_;refine zAA cm rfl ?_;refine sts ?_;refine zAA ca rfl ?_;refine sts ?_
   exact ⟨(i + 1, y + f.ts[i]!.2 * x[f.ts[i]!.1.toNat]!), ⟨⟨by omega, hy.symm, hsz⟩, by show f.ts.length - (i + 1) < f.ts.length - i; omega⟩, [1, 2], [], [], [], ttt, ⟨zAF (by decide) rfl rfl, apx, apx, zAE rfl rfl, zAC rfl rfl, zAC rfl (by omega), trivial⟩,
    ⟨zAD (by decide) rfl rfl (zAK x) rfl, bbx, bbx, trivial⟩, by simp [ren]⟩
  ·exact absurd (show (i : Int) < f.ts.length by omega) h
 ·have hmul : i * (k + kx + 1) ≤ f.ts.length * (k + kx + 1) := Nat.mul_le_mul_right _ (by omega)
  have e : y = evQ f x := by rw [i2, List.take_of_length_le (by omega)]; rfl
  have l4 := zAL i3;have cc := zCP (cr y) (zAI _) (by omega) (by omega);rw [zAQ] at cc
  (repeat' (first|refine stp ?_|with_reducible(refine brr ?_ ?_<;>intro h)));all_goals try(conv=>whnf)
  all_goals try (exfalso; omega)
  refine zAA cc rfl ?_;refine sts ?_;subst e;exact zBU rfl rfl rfl rfl rfl (zIX x)
theorem vVI (f : QF) (x : List Rat) (k kx : Nat) (hf : szF k f) (hx : ∀ q ∈ x, sz kx q) (hv : ∀ p ∈ f.ts, 0 ≤ p.1 ∧ p.1 < x.length) (hk : k + f.ts.length * (k + kx + 1) + k + kx ≤ 949999990) (hl : f.ts.length ≤ 1048576) (hxl : x.length ≤ 1048576) : Fn 24 [vA5 f, .own 0 0 x.length] (.wrt (vCN x) (.tup [vAZ (cr (evQ f x)), .int .i64 0]) (vCN x)) := by
 refine zCF vA6 hT zLU (by simp [vA5]) ?_;refine sts ?_
 refine zAG hT (fun ((i, y) : Nat × Rat) => [(1, .own 0 0 x.length), (2, .ptr 3 0 0), (4, .ptr 1 0 0), (6, .ptr 2 0 0), (7, .int .i64 i)])
  (fun (_, y) => [(0, vCN x), (1, ⟨[.agg [.bool false, .nilsl, .nilsl]], 3, true⟩), (2, ⟨[vAZ (cr y)], 3, true⟩), (3, ⟨[vA5 f], 4, true⟩)]) [] 4
  (fun (i, y) => i ≤ f.ts.length ∧ y = ev1 x (f.ts.take i) f.c ∧ sz (k + i * (k + kx + 1)) y) (fun (i, _) => f.ts.length - i) (0, f.c) ⟨Nat.zero_le _, rfl, by simpa using hf.1⟩ (by decide) (by simp) ?_ ?_
 ·exact ⟨[_, _, _], [], [], [], ttt, ⟨zAF (by decide) rfl rfl, (apy rfl), (apy rfl), (apy rfl), zAC rfl rfl, trivial⟩,
   ⟨zAD (by decide) rfl rfl (zAK x) rfl, bbx, bbx, bbx, trivial⟩, by simp [ren]⟩
 intro ⟨i, y⟩ ⟨i1, i2, i3⟩;by_cases hi : i < f.ts.length
 ·have hmem : f.ts[i]! ∈ f.ts := by rw [getElem!_pos f.ts i hi]; exact List.getElem_mem hi
  have hvi := hv _ hmem;have hp := hf.2 _ hmem;have hj : f.ts[i]!.1.toNat < x.length := by omega
  have hxm : x[f.ts[i]!.1.toNat]! ∈ x := by rw [getElem!_pos x _ hj]; exact List.getElem_mem hj
  have hxi := hx _ hxm;have hm := zB6 hp hxi;have hmul : (i + 1) * (k + kx + 1) ≤ f.ts.length * (k + kx + 1) := Nat.mul_le_mul_right _ (by omega);rw [Nat.add_mul] at hmul;have l1 := zAL hp;have l2 := zAL hxi;have l3 := zAL hm;have l4 := zAL i3;have cm := zJP (cr f.ts[i]!.2) (cr x[f.ts[i]!.1.toNat]!) (zAI _) (zAI _) (by omega) (by omega) (by omega) (by omega);rw [zAQ, zAQ] at cm;have ca := zD5 (cr y) (cr (f.ts[i]!.2 * x[f.ts[i]!.1.toNat]!)) (zAI _) (zAI _) (by omega) (by omega) (by omega) (by omega);rw [zAQ, zAQ] at ca;have hsz := zBE (show k + i * (k + kx + 1) + (k + kx) + 1 ≤ k + (i + 1) * (k + kx + 1) by rw [Nat.add_mul]; omega) (zBY i3 hm);have hy : ev1 x (f.ts.take (i + 1)) f.c = y + f.ts[i]!.2 * x[f.ts[i]!.1.toNat]! := by rw [zGZ x f.ts f.c i hi, i2]
  (repeat' (first|refine stp ?_|with_reducible(refine brr ?_ ?_<;>intro h)));all_goals try(conv=>whnf)
  ·exact absurd h (show ¬ f.ts[i]!.1 < 0 by omega)
  ·exact absurd h (show ¬ f.ts[i]!.1 ≥ (x.length : Int) by omega)
  ·refine zAU f.ts[i]!.1.toNat (Nat.zero_add _) hj ?_
   refine sts ?_;refine zAA cm rfl ?_;refine sts ?_;refine zAA ca rfl ?_;refine sts ?_
   exact ⟨(i + 1, y + f.ts[i]!.2 * x[f.ts[i]!.1.toNat]!), ⟨⟨by omega, hy.symm, hsz⟩, by show f.ts.length - (i + 1) < f.ts.length - i; omega⟩, [1, 2, 3], [], [], [], ttt, ⟨zAF (by decide) rfl rfl, apx, apx, apx, zAC rfl (by omega), trivial⟩,
    ⟨zAD (by decide) rfl rfl (zAK x) rfl, bbx, bbx, bbx, trivial⟩, by simp [ren]⟩
  ·exact absurd (show (i : Int) < f.ts.length by omega) h
 ·have hmul : i * (k + kx + 1) ≤ f.ts.length * (k + kx + 1) := Nat.mul_le_mul_right _ (by omega)
  have e : y = evQ f x := by rw [i2, List.take_of_length_le (by omega)]; rfl
  (repeat' (first|refine stp ?_|with_reducible(refine brr ?_ ?_<;>intro h)));all_goals try(conv=>whnf)
  all_goals try (exfalso; omega)
  subst e;exact zBU rfl rfl rfl rfl rfl (zIX x)
theorem vWE {l : List AffL} {n : Int} : l.any (fun f => !vCB f n) = false ↔ ∀ j, j < l.length → vBO l[j]! n := by
 rw [List.any_eq_false];constructor
 ·intro e j hj
  have := e _ (get_mem hj);exact validB_true.1 (by simpa using this)
 ·intro e f hf
  obtain ⟨j, hj, rfl⟩ := List.getElem_of_mem hf;have := validB_true.2 (e j hj);rw [getElem!_pos l j hj] at this;simp [this]
theorem uHG : FO 172 Tryz.f172 [.tmp 3] 8 := mkO Tryz.func172 Tryz.ntmps172 Tryz.results172
theorem uJW (f : AffL) (n : Int) (hf : okA 2147483596 f) : Fn 172 [vBD f, .cptr (.int .i64 n) 0] (.data (.bool (!vCB f n))) := by
 have cc := zK0 f n hf;refine zAN vA6 hT uHG (by simp) ?_;refine sts ?_;refine zAA cc rfl ?_;refine sts ?_;exact zAB rfl rfl
theorem uHF : FO 133 Tryz.f133 [.tmp 4] 9 := mkO Tryz.func133 Tryz.ntmps133 Tryz.results133
theorem uJV (l : List AffL) (n : Int) (hl : uI2 950000000 l) : Fn 133 [.imm (l.map vBD), .int .i64 n] (.data (.bool (dB (vQH l n)))) := by
 have cc := zHS l (fun f => !vCB f n) 172 (.int .i64 n) hl.1 (fun f hf => uJW f n (zBZ (by decide) (hl.2 f hf)));refine zAN vA6 hT uHF (by simp) ?_;refine sts ?_;refine zAA cc rfl ?_;refine sts ?_;refine zAB rfl (congrArg PV.bool ?_);rw [Bool.eq_iff_iff, dB_true, Bool.not_eq_true', vWE];exact Iff.rfl
theorem vSY : FO 77 Tryz.f77 [.tmp 2] 56 := mkO Tryz.func77 Tryz.ntmps77 Tryz.results77
theorem zIS (g : GraL) (hg : vCE 950000000 g) : Fn 77 [vA8 g] (.data (.bool (dB (VaG g)))) := by
 obtain ⟨hu, ho⟩ := hg;have no : ¬ VaG g → false = dB (VaG g) := zIJ;have l1 := hu.1;have l2 := ho.1;have cc := uJV g.outs (g.ins + g.units.length) ho;refine zAN vA6 hT vSY (by simp [vA8]) ?_
 (repeat' (first|refine stp ?_|with_reducible(refine brr ?_ ?_<;>intro h)));all_goals try(conv=>whnf)
 ·exact zAB rfl (congrArg PV.bool (no fun e => by have := e.1.1; omega))
 ·exact zAB rfl (congrArg PV.bool (no fun e => by have := e.1.2; omega))
 ·exact zAB rfl (congrArg PV.bool (no fun e => by have := e.2.1; omega))
 ·exact zAB rfl (congrArg PV.bool (no fun e => by have := e.2.2.1.1; omega))
 ·exact zAB rfl (congrArg PV.bool (no fun e => by have := e.2.2.1.2; omega))
 ·have h0 : (1 ≤ g.ins ∧ g.ins ≤ 256) ∧ g.units.length ≤ 1024 ∧ (1 ≤ g.outs.length ∧ g.outs.length ≤ 256) := ⟨⟨by omega, by omega⟩, by omega, by omega, by omega⟩
  obtain ⟨h1, h2, h3⟩ := h0
  refine zAG hT (fun (i : Nat) => [(1, .ptr 0 0 0), (32, .imm (g.units.map vBD)), (33, .int .i64 g.units.length), (34, .int .i64 i)]) (fun _ => [(0, ⟨[vA8 g], 3, true⟩)]) [] 1
   (fun i => i ≤ g.units.length ∧ ∀ j, j < i → vBO g.units[j]! (g.ins + j)) (fun i => g.units.length - i) 0 ⟨Nat.zero_le _, fun j h => (by omega)⟩ (by decide) (by simp) ?_ ?_
  ·exact ⟨[0], [], [], [], ttt, ⟨apx, zAE rfl rfl, zAC rfl (by simp), zAC rfl rfl, trivial⟩, ⟨bbx, trivial⟩, by simp [ren]⟩
  intro i ⟨i1, i2⟩;by_cases hi : i < g.units.length
  ·have c1 := zK0 g.units[i]! (g.ins + i) (zBZ (by decide) (hu.2 _ (get_mem hi)))
   (repeat' (first|refine stp ?_|with_reducible(refine brr ?_ ?_<;>intro h)));all_goals try(conv=>whnf)
   ·refine zAA c1 rfl ?_
    (repeat' (first|refine stp ?_|with_reducible(refine brr ?_ ?_<;>intro h)));all_goals try(conv=>whnf)
    ·exact ⟨i + 1, ⟨⟨by omega, fun j hj => zA2 (p := fun (j : Nat) => vBO g.units[j]! (g.ins + j)) i2 (validB_true.1 (by assumption)) hj⟩, by show g.units.length - (i + 1) < g.units.length - i; omega⟩, [0], [], [], [], ttt, ⟨apx, zAE rfl rfl, zAC rfl rfl, zAC rfl rfl, trivial⟩, ⟨bbx, trivial⟩, by simp [ren]⟩
    ·exact zAB rfl (congrArg PV.bool (no fun e => by have := validB_true.2 (e.2.2.2.1 i hi); simp_all))
   all_goals (exfalso; omega)
  ·(repeat' (first|refine stp ?_|with_reducible(refine brr ?_ ?_<;>intro h)));all_goals try(conv=>whnf)
   all_goals try (exfalso; omega)
   rw [List.length_map];refine zAA cc rfl ?_;refine sts ?_;refine zAB rfl (congrArg PV.bool ?_);rw [Bool.eq_iff_iff, dB_true, dB_true];exact ⟨fun e => ⟨h1, h2, h3, fun j hj => i2 j (by omega), e⟩, fun e => e.2.2.2.2⟩
end Go.PI.Tryz
namespace Go.PI
def GraL.us (g : GraL) : List QF := g.units.map AffL.Q
end Go.PI
namespace Go.PI.Tryz
open Go.Proofs Go.PI
theorem zHU (g : GraL) : g.us.length = g.units.length := by simp [GraL.us]
theorem zEU {g : GraL} {j : Nat} (h : j < g.units.length) : g.us[j]! = g.units[j]!.Q := by
 unfold GraL.us; rw [getElem!_pos _ j (by simpa using h), getElem!_pos g.units j h]; simp
theorem zGM {f : AffL} {n : Int} (h : vBO f n) : vA5 f.Q = vBD f := by rw [zJM, uI9 h]
theorem vWH {l : List Rat} {j : Nat} {q : Rat} (h : j < l.length) (e : l[j]! = q) : (l.take j).map vBF ++ [vAZ (cr q)] = (l.take (j + 1)).map vBF := by
 rw [List.take_succ_eq_append_getElem h, List.map_append, ← getElem!_pos l j h, e]; rfl
theorem zM7 {l : List RatL} {i : Nat} (h : i < l.length) : ((l.take i).map qv).map vBF ++ [vAZ (cr (qv l[i]!))] = ((l.take (i + 1)).map qv).map vBF := by
 rw [List.take_succ_eq_append_getElem h, List.map_append, List.map_append, getElem!_pos l i h]; rfl
theorem vF0 {k : Nat} : okQ k ⟨false, [], []⟩ := ⟨⟨by simp [okN], by simp [okN]⟩, Nat.zero_le _, Nat.zero_le _⟩
theorem uAQ {k : Nat} {a b : Rat} (ha : sz k a) (hb : sz k b) : sz k (vC5 a b) := by unfold vC5; split <;> assumption
theorem vSZ : FO 138 Tryz.f138 [.tmp 4, .tmp 5, .tmp 6] 61 := mkO Tryz.func138 Tryz.ntmps138 Tryz.results138
theorem uIN (g : GraL) (x : List RatL) (k K : Nat) (hg : vCE k g) (hk : k ≤ 950000000) (hk1 : 1 ≤ k) (hK1 : 1 ≤ K) (hv : VaG g) (hx : vPB 950000000 x) (hl : (x.length : Int) = g.ins) (hK : ∀ j, j < g.units.length → (∀ q ∈ vBC g.us (x.map qv) j, sz K q) ∧ sz K (vCA g.us (x.map qv))[j]!) (hb : ∀ f ∈ g.units, k + f.terms.length * (k + K + 1) + k + K ≤ 949999990) : Fn 138 [vA8 g, .imm (x.map vAZ)] (.data (.tup [.imm ((vBC g.us (x.map qv) g.us.length).map vBF), .imm ((vCA g.us (x.map qv)).map vBF), .int .i64 0])) := by
 have cv := zIS g ⟨⟨hg.1.1, fun f hf => zBZ hk (hg.1.2 f hf)⟩, ⟨hg.2.1, fun f hf => zBZ hk (hg.2.2 f hf)⟩⟩;rw [dB_true.2 hv] at cv;have l1 := hx.1;have l2 := hg.1.1;have lu := zHU g;have hn := hv.2.1;have hx2 : x.length ≤ 256 := by have := hv.1.2; omega
 refine zAN vA6 hT vSZ (by simp [vA8]) ?_;refine sts ?_;refine zAA cv rfl ?_
 (repeat' (first|refine stp ?_|with_reducible(refine brr ?_ ?_<;>intro h)));all_goals try(conv=>whnf)
 ·exfalso; omega
 refine zBP hT [(.sl 4, 3, true), (.sl 5, 3, true)] (fun (i : Nat) => [(2, .ptr 0 0 0), (4, .own 1 0 i), (5, .own 2 0 0), (23, .imm (x.map vAZ)), (24, .int .i64 x.length), (25, .int .i64 i)]) (fun i => [(0, ⟨[vA8 g], 3, true⟩), (1, ⟨((x.take i).map qv).map vBF, 3, true⟩), (2, ⟨[], 3, true⟩)]) [] 3
  (fun i => i ≤ x.length) (fun i => x.length - i) 0 (Nat.zero_le _) (by decide) (by simp) ⟨rfl, rfl, trivial⟩ ?_ ?_
 ·exact ⟨[0, _, _], [], [], [], ttt, ⟨(apy rfl), zAF (by decide) rfl rfl, zAF (by decide) rfl rfl, zAE rfl rfl, zAC rfl (by simp), zAC rfl rfl, trivial⟩,
   ⟨bbx, zAD (by decide) rfl rfl (zAK []) rfl, zAD (by decide) rfl rfl (zAK []) rfl, trivial⟩, by simp [ren]⟩
 intro i i1;have hlen : ((x.take i).map qv).length = i := by rw [List.length_map, List.length_take]; omega
 by_cases hi : i < x.length
 ·have q1 := zBG hx hi
  have cc := zCP x[i]! q1.1 (by have := q1.2; omega) (by have := q1.2; omega)
  (repeat' (first|refine stp ?_|with_reducible(refine brr ?_ ?_<;>intro h)));all_goals try(conv=>whnf)
  ·refine zAA cc rfl ?_
   refine sts ?_
   exact ⟨i + 1, ⟨by omega, by show x.length - (i + 1) < x.length - i; omega⟩, [0, _, 2], [], [], [], ttt, ⟨(apy rfl), zAF (by decide) rfl rfl, zAF (by decide) rfl rfl, zAE rfl rfl, zAC rfl rfl, zAC rfl rfl, trivial⟩,
    ⟨bbx, zAD (by decide) rfl (zM7 hi) (zAK _) rfl, zAD (by decide) rfl rfl (zAK []) rfl, trivial⟩, by simp [ren]⟩
  all_goals (exfalso; omega)
 ·have e0 : (x.take i).map qv = vBC g.us (x.map qv) 0 := by rw [zEB, List.take_of_length_le (by omega)]
  (repeat' (first|refine stp ?_|with_reducible(refine brr ?_ ?_<;>intro h)));all_goals try(conv=>whnf)
  all_goals try (exfalso; omega)
  refine zAG hT (fun (j : Nat) => [(2, .ptr 0 0 0), (4, .own 1 0 (x.length + j)), (5, .own 2 0 j), (36, .imm (g.units.map vBD)), (37, .int .i64 g.units.length), (38, .int .i64 j)]) (fun j => [(0, ⟨[vA8 g], 3, true⟩), (1, ⟨(vBC g.us (x.map qv) j).map vBF, 3, true⟩), (2, ⟨((vCA g.us (x.map qv)).take j).map vBF, 3, true⟩)]) [] 3
   (fun j => j ≤ g.units.length) (fun j => g.units.length - j) 0 (Nat.zero_le _) (by decide) (by simp) ?_ ?_
  ·exact ⟨[0, 1, 2], [], [], [], ttt, ⟨apx, zAF (by decide) rfl (by omega), zAF (by decide) rfl rfl, zAE rfl rfl, zAC rfl (by simp), zAC rfl rfl, trivial⟩,
    ⟨bbx, zAD (by decide) rfl (congrArg (List.map vBF) e0) (zAK _) rfl, zAD (by decide) rfl rfl (zAK []) rfl, trivial⟩, by simp [ren]⟩
  intro j j1;have hvl : (vBC g.us (x.map qv) j).length = x.length + j := by rw [zC2 j (by omega), List.length_map]
  have hp2 := zCM g.us (x.map qv);have hpl : ((vCA g.us (x.map qv)).take j).length = j := by rw [List.length_take, zCM]; omega
  by_cases hj : j < g.units.length
  ·have hvu := hv.2.2.2.1 j hj
   have hmem := get_mem hj;have hou := hg.1.2 _ hmem;have hb1 := hb _ hmem;obtain ⟨hs1, hs2⟩ := hK j hj;have hvr : ∀ p ∈ g.units[j]!.Q.ts, 0 ≤ p.1 ∧ p.1 < ((vBC g.us (x.map qv) j).length : Nat) := fun p hp => by have := (zCX hvu).2 p hp; omega
   have ce := zK1 g.units[j]!.Q (vBC g.us (x.map qv) j) k K (zB0 hou hk1) hs1 hvr (by rw [zF4]; exact hb1) (by rw [zF4]; exact hou.2.2) (by omega);rw [zGM hvu, hvl] at ce;have hp : (vCA g.us (x.map qv))[j]! = evQ g.units[j]!.Q (vBC g.us (x.map qv) j) := by rw [zGU (by omega), zEU hj]
   rw [hp] at hs2;have l3 := zAL hs2;have cx := vVN ⟨false, [], []⟩ (cr (evQ g.units[j]!.Q (vBC g.us (x.map qv) j))) K vF0 (zEI hs2) (by omega);rw [zAQ, show qv ⟨false, [], []⟩ = 0 by rfl] at cx
   have hvs : (vBC g.us (x.map qv) j).map vBF ++ [vAZ (cr (vC5 0 (evQ g.units[j]!.Q (vBC g.us (x.map qv) j))))] = (vBC g.us (x.map qv) (j + 1)).map vBF := by
    rw [zEC (by omega), List.map_append, zEU hj]; rfl
   have hps := vWH (l := vCA g.us (x.map qv)) (j := j) (by rw [zCM]; omega) hp
   (repeat' (first|refine stp ?_|with_reducible(refine brr ?_ ?_<;>intro h)));all_goals try(conv=>whnf)
   ·refine zB5 (r := 1) ce rfl rfl rfl rfl (zA7 (zAK _)) ?_
    refine sts ?_;refine zAA cx rfl ?_;refine sts ?_
    exact ⟨j + 1, ⟨by omega, by show g.units.length - (j + 1) < g.units.length - j; omega⟩, [0, _, _], [], [], [], ttt, ⟨(apy rfl), zAF (by decide) rfl rfl, zAF (by decide) rfl rfl, zAE rfl rfl, zAC rfl rfl, zAC rfl rfl, trivial⟩,
     ⟨bbx, zAD (by decide) rfl hvs (zAK _) rfl, zAD (by decide) rfl hps (zAK _) rfl, trivial⟩, by simp [ren]⟩
   all_goals (exfalso; omega)
  ·have ej : j = g.us.length := by omega
   have hp2 := zCM g.us (x.map qv);have et : (vCA g.us (x.map qv)).take j = vCA g.us (x.map qv) := List.take_of_length_le (by rw [zCM]; omega)
   (repeat' (first|refine stp ?_|with_reducible(refine brr ?_ ?_<;>intro h)));all_goals try(conv=>whnf)
   all_goals try (exfalso; omega)
   exact zAB (zE0 (zAP (zAH rfl rfl (by omega) fun q => zD4 (cr q)) (zAP (zAH rfl rfl (by omega) fun q => zD4 (cr q)) rfl))) (by rw [et, ej])
theorem uD0 : FO 183 Tryz.f183 [.tmp 4, .tmp 5] 18 := mkO Tryz.func183 Tryz.ntmps183 Tryz.results183
abbrev vDC (vars : List QF) : Blk := ⟨vars.map vA5, 4, true⟩
theorem zAZ (x : List QF) : ∀ e ∈ x.map vA5, nr 3 e = true ∧ e ≠ .any := zAW fun x => ⟨rfl, by simp [vA5]⟩
theorem vFE (x : List QF) : ∀ e ∈ x.map vA5, nr 3 e = true := fun e he => (zAZ x e he).1
abbrev ints (p : List Int) : PV := .imm (p.map (.int .i64))
def Dec (a : Int) : Prop := a = 1 ∨ a = 2
def vWN (g : GraL) (p : List Int) : Prop := VaG g ∧ p.length = g.units.length ∧ ∀ i, i < p.length → Dec p[i]!
theorem vO9 : FO 204 Tryz.f204 [.tmp 2] 9 := mkO Tryz.func204 Tryz.ntmps204 Tryz.results204
theorem vV3 (a : Int) : Fn 204 [.int .i64 a] (.data (.bool (dB (Dec a)))) := by
 refine zAN vA6 hT vO9 (by simp) ?_
 (repeat' (first|refine stp ?_|with_reducible(refine brr ?_ ?_<;>intro h)));all_goals try(conv=>whnf)
 ·exact zAB rfl (congrArg PV.bool (zME (Or.inl (by assumption))))
 ·refine zAB rfl (congrArg PV.bool ?_)
  rw [Bool.eq_iff_iff, dB_true, beq_iff_eq];exact ⟨fun e => Or.inr e, fun e => e.resolve_left (by assumption)⟩
theorem vIA : FO 184 Tryz.f184 [.tmp 4] 28 := mkO Tryz.func184 Tryz.ntmps184 Tryz.results184
theorem zMP (g : GraL) (p : List Int) (hg : vCE 950000000 g) (hp : p.length ≤ 1048576) : Fn 184 [vA8 g, ints p] (.data (.bool (dB (vWN g p)))) := by
 have no : ¬ vWN g p → false = dB (vWN g p) := zIJ;have cv := zIS g hg;have l1 := hg.1.1;refine zAN vA6 hT vIA (by simp [vA8]) ?_;refine sts ?_;refine zAA cv rfl ?_
 (repeat' (first|refine stp ?_|with_reducible(refine brr ?_ ?_<;>intro h)));all_goals try(conv=>whnf)
 all_goals try (refine zAB rfl (congrArg PV.bool (no fun e => ?_)); exact absurd e.1 (dB_false.1 (by assumption)))
 all_goals try (refine zAB rfl (congrArg PV.bool (no fun e => ?_)); have := e.2.1; omega)
 have h0 : VaG g := dB_true.1 (by assumption);have h1 : p.length = g.units.length := by omega
 refine zA6 hT (fun n : Nat => [(18, ints p), (19, .int .i64 p.length), (20, .int .i64 n)]) (fun n => n ≤ p.length ∧ ∀ j, j < n → Dec p[j]!) (fun n => p.length - n) 0 ⟨by omega, fun j hj => by omega⟩ ?_ ?_
 ·exact ⟨zAE rfl rfl, zAC rfl (by simp), zAC rfl rfl, trivial⟩
 intro n ⟨hn, he⟩;by_cases hi : n < p.length
 ·have cc := vV3 p[n]!
  (repeat' (first|refine stp ?_|with_reducible(refine brr ?_ ?_<;>intro h)));all_goals try(conv=>whnf)
  ·refine zAA cc rfl ?_
   (repeat' (first|refine stp ?_|with_reducible(refine brr ?_ ?_<;>intro h)));all_goals try(conv=>whnf)
   all_goals first
    | (refine zAB rfl (congrArg PV.bool (no fun e => ?_)); exact absurd (e.2.2 n hi) (dB_false.1 (by assumption)))
    | exact ⟨n + 1, ⟨⟨by omega, fun j hj => zA2 (p := fun j => Dec p[j]!) he (dB_true.1 (by assumption)) hj⟩, by show p.length - (n + 1) < p.length - n; omega⟩, zAE rfl rfl, zAC rfl rfl, zAC rfl rfl, trivial⟩
    | skip
  all_goals (exfalso; omega)
 ·(repeat' (first|refine stp ?_|with_reducible(refine brr ?_ ?_<;>intro h)));all_goals try(conv=>whnf)
  all_goals try (exfalso; omega)
  exact zAB rfl (congrArg PV.bool (zME ⟨h0, h1, fun j hj => he j (by omega)⟩))
theorem zLP (κ : Nat → Nat) {v n : Nat} (h : v < n) : κ v ≤ vC8 κ 0 n := by
 have := zE8 κ [((v : Int), (0 : Rat))] 0 n (List.pairwise_singleton _ _) (fun t ht => by simp at ht; subst ht; simp only; omega)
 simpa using this
theorem zMU {n : Nat} {κ : Nat → Nat} {vars : List QF} {f : QF} {k : Nat} (hv : vP5 n κ vars) (hf : szF k f) (ho : okF vars.length f) (i : Nat) (hi : i ≤ f.ts.length) :
 okF n (vEJ f vars i) ∧ szF (k + vC8 (fun v => κ v + k + 1) 0 vars.length) (vEJ f vars i) ∧ (vEJ f vars i).ts.length ≤ n := by
 obtain ⟨h1, h2, h3⟩ := vWC hv hf ho i hi;refine ⟨h1, zD7 ?_ h2, h3⟩;have := zE8 (fun v => κ v + k + 1) (f.ts.take i) 0 vars.length (ho.1.1.sublist (List.take_sublist _ _)) fun t ht => by have := ho.2 t (List.mem_of_mem_take ht); omega
 omega
theorem zHM {o v : QF} {c : Rat} (ho : Srt o.ts) (hv : Srt v.ts) : vA3 o (vA3 zeroQ v c) 1 = vA3 o v c := by
 have h1 := zDI c _ zeroQ.ts v.ts (Nat.le_refl _) zCD hv;have h2 := zDI (1 : Rat) _ o.ts (mrg c zeroQ.ts v.ts) (Nat.le_refl _) ho h1.1;have h3 := zDI c _ o.ts v.ts (Nat.le_refl _) ho hv;have e : mrg 1 o.ts (mrg c zeroQ.ts v.ts) = mrg c o.ts v.ts := vE5 h2.1 h3.1 fun v => by rw [h2.2, h3.2, h1.2]; simp only [zeroQ, cf]; grind
 unfold vA3;simp only [e, QF.mk.injEq, true_and];simp only [zeroQ]; grind
theorem vJS {n : Nat} {v : QF} (hv : okF n v) (c : Rat) : okF n (vA3 zeroQ v c) ∧ (vA3 zeroQ v c).ts.length ≤ n := by
 have hok : okF n (vA3 zeroQ v c) := by
  refine ⟨zCW zCD hv.1, fun t ht => ?_⟩;rcases zB9 _ _ _ _ (Nat.le_refl _) t ht with ⟨p, hp, e⟩ | ⟨p, hp, e⟩
  ·cases hp
  ·have := hv.2 p hp; omega
 exact ⟨hok, zIV n hok.1.1 hok.2⟩
theorem vIB : FO 186 Tryz.f186 [.cell 4 37] 30 := mkO Tryz.func186 Tryz.ntmps186 Tryz.results186
theorem vVR (F : QF) (vars : List QF) (n k : Nat) (κ : Nat → Nat) (hv : vP5 n κ vars) (hn : n ≤ 1048576) (hf : szF k F) (ho : okF vars.length F) (hfl : F.ts.length ≤ 1048576) (hS : k + vC8 (fun v => κ v + k + 1) 0 vars.length ≤ 400000000) (hl : vars.length ≤ 1048576) : Fn 186 [vA5 F, .own 0 0 vars.length] (.wrt (vDC vars) (vA5 (vBE F vars)) (vDC vars)) := by
 refine zCF vA6 hT vIB (by simp [vA5]) ?_;refine sts ?_
 refine zAG hT (fun (i : Nat) => [(1, .own 0 0 vars.length), (4, .ptr 1 0 0), (5, .ptr 2 0 0), (12, .imm (F.ts.map vDA)), (13, .int .i64 F.ts.length), (14, .int .i64 i)])
  (fun i => [(0, vDC vars), (1, ⟨[.agg [.nilsl, .bool false, .nilsl, .nilsl]], 4, true⟩), (2, ⟨[vA5 (vEJ F vars i)], 4, true⟩)]) [] 3
  (fun i => i ≤ F.ts.length) (fun i => F.ts.length - i) 0 (Nat.zero_le _) (by decide) (by simp) ?_ ?_
 ·exact ⟨[_, _], [], [], [(6, [vA5 ⟨[], F.c⟩])], ⟨trivial, trivial, ⟨⟨_, 6, _, rfl, rfl, rfl⟩, trivial⟩⟩, ⟨zAF (by decide) rfl rfl, (apy rfl), (apy rfl), zAE rfl rfl, zAC rfl (by simp), zAC rfl rfl, trivial⟩,
   ⟨zAD (by decide) rfl rfl (zAZ vars) rfl, bbx, bbx, trivial⟩, by simp [ren]⟩
 intro i i1;obtain ⟨a1, a2, a3⟩ := zMU hv hf ho i (by omega);by_cases hi : i < F.ts.length
 ·have hmem : F.ts[i]! ∈ F.ts := get_mem hi
  have hvi := ho.2 _ hmem;have hvi2 : 0 ≤ (tQ F.ts[i]!).var ∧ (tQ F.ts[i]!).var < vars.length := hvi;have hj : F.ts[i]!.1.toNat < vars.length := by omega
  obtain ⟨v1, v2, v3⟩ := hv _ hj;have hk1 : κ F.ts[i]!.1.toNat + k + 1 ≤ vC8 (fun v => κ v + k + 1) 0 vars.length := zLP (fun v => κ v + k + 1) hj;have cs := zIR vars[F.ts[i]!.1.toNat]! F.ts[i]!.2 (κ F.ts[i]!.1.toNat) k v2 (hf.2 _ hmem) (by omega) (by omega);have sm := zDJ (zDT 1 (by decide)) v2 (hf.2 _ hmem) (Nat.le_refl _);have sl : (vA3 zeroQ vars[F.ts[i]!.1.toNat]! F.ts[i]!.2).ts.length ≤ n := (vJS v1 F.ts[i]!.2).2;have ca := vVY (vEJ F vars i) (vA3 zeroQ vars[F.ts[i]!.1.toNat]! F.ts[i]!.2) _ _ a2 sm (by omega) (by omega) (by omega);rw [zHM a1.1 v1.1, ← zFM hi] at ca
  (repeat' (first|refine stp ?_|with_reducible(refine brr ?_ ?_<;>intro h)));all_goals try(conv=>whnf)
  all_goals try (exfalso; omega)
  refine zAU F.ts[i]!.1.toNat (Nat.zero_add _) hj ?_;refine sts ?_;refine zAA cs rfl ?_;refine sts ?_;refine zAA ca rfl ?_;refine sts ?_
  exact ⟨i + 1, ⟨by omega, by show F.ts.length - (i + 1) < F.ts.length - i; omega⟩, [1, 2], [], [], [], ttt, ⟨zAF (by decide) rfl rfl, apx, apx, zAE rfl rfl, zAC rfl rfl, zAC rfl rfl, trivial⟩,
   ⟨zAD (by decide) rfl rfl (zAZ vars) rfl, bbx, bbx, trivial⟩, by simp [ren]⟩
 ·have e : i = F.ts.length := by omega
  (repeat' (first|refine stp ?_|with_reducible(refine brr ?_ ?_<;>intro h)));all_goals try(conv=>whnf)
  all_goals try (exfalso; omega)
  subst e;rw [zG5];exact zBU rfl rfl rfl rfl rfl (vFE vars)
theorem vZ4 (F : QF) (vars : List QF) (n k : Nat) (κ : Nat → Nat) (hv : vP5 n κ vars) (hn : n ≤ 1048576) (hf : szF k F) (ho : okF vars.length F) (hfl : F.ts.length ≤ 1048576) (hS : k + vC8 (fun v => κ v + k + 1) 0 vars.length ≤ 400000000) (hl : vars.length ≤ 1048576) : Fn 186 [vA5 F, .imm (vars.map vA5)] (.data (vA5 (vBE F vars))) := by
 refine zAN vA6 hT vIB (by simp [vA5]) ?_;refine sts ?_
 refine zAG hT (fun (i : Nat) => [(1, .imm (vars.map vA5)), (4, .ptr 0 0 0), (5, .ptr 1 0 0), (12, .imm (F.ts.map vDA)), (13, .int .i64 F.ts.length), (14, .int .i64 i)])
  (fun i => [(0, ⟨[.agg [.nilsl, .bool false, .nilsl, .nilsl]], 4, true⟩), (1, ⟨[vA5 (vEJ F vars i)], 4, true⟩)]) [] 2
  (fun i => i ≤ F.ts.length) (fun i => F.ts.length - i) 0 (Nat.zero_le _) (by decide) (by simp) ?_ ?_
 ·exact ⟨[_, _], [], [], [(5, [vA5 ⟨[], F.c⟩])], ⟨trivial, trivial, ⟨⟨_, 6, _, rfl, rfl, rfl⟩, trivial⟩⟩, ⟨zAE rfl rfl, (apy rfl), (apy rfl), zAE rfl rfl, zAC rfl (by simp), zAC rfl rfl, trivial⟩,
   ⟨bbx, bbx, trivial⟩, by simp [ren]⟩
 intro i i1;obtain ⟨a1, a2, a3⟩ := zMU hv hf ho i (by omega);by_cases hi : i < F.ts.length
 ·have hmem : F.ts[i]! ∈ F.ts := get_mem hi
  have hvi := ho.2 _ hmem;have hvi2 : 0 ≤ (tQ F.ts[i]!).var ∧ (tQ F.ts[i]!).var < vars.length := hvi;have hj : F.ts[i]!.1.toNat < vars.length := by omega
  obtain ⟨v1, v2, v3⟩ := hv _ hj;have hk1 : κ F.ts[i]!.1.toNat + k + 1 ≤ vC8 (fun v => κ v + k + 1) 0 vars.length := zLP (fun v => κ v + k + 1) hj;have cs := zIR vars[F.ts[i]!.1.toNat]! F.ts[i]!.2 (κ F.ts[i]!.1.toNat) k v2 (hf.2 _ hmem) (by omega) (by omega);have sm := zDJ (zDT 1 (by decide)) v2 (hf.2 _ hmem) (Nat.le_refl _);have sl : (vA3 zeroQ vars[F.ts[i]!.1.toNat]! F.ts[i]!.2).ts.length ≤ n := (vJS v1 F.ts[i]!.2).2;have ca := vVY (vEJ F vars i) (vA3 zeroQ vars[F.ts[i]!.1.toNat]! F.ts[i]!.2) _ _ a2 sm (by omega) (by omega) (by omega);rw [zHM a1.1 v1.1, ← zFM hi] at ca
  (repeat' (first|refine stp ?_|with_reducible(refine brr ?_ ?_<;>intro h)));all_goals try(conv=>whnf)
  all_goals try (exfalso; omega)
  refine zA4 (j := F.ts[i]!.1.toNat) (show F.ts[i]!.1 = _ by omega) hj ?_;refine sts ?_;refine zAA cs rfl ?_;refine sts ?_;refine zAA ca rfl ?_;refine sts ?_
  exact ⟨i + 1, ⟨by omega, by show F.ts.length - (i + 1) < F.ts.length - i; omega⟩, [0, 1], [], [], [], ttt, ⟨zAE rfl rfl, apx, apx, zAE rfl rfl, zAC rfl rfl, zAC rfl rfl, trivial⟩,
   ⟨bbx, bbx, trivial⟩, by simp [ren]⟩
 ·have e : i = F.ts.length := by omega
  (repeat' (first|refine stp ?_|with_reducible(refine brr ?_ ?_<;>intro h)));all_goals try(conv=>whnf)
  all_goals try (exfalso; omega)
  subst e;rw [zG5];exact zAB rfl rfl
theorem zHN {g : PV → Option (PV × List Nat)} {α : Type} {f : α → PV} (hf : ∀ x, g (f x) = some (f x, [])) : ∀ l : List α, vBR g (l.map f) = some (l.map f, [])
 | [] => rfl
 | a :: l => by rw [List.map_cons]; exact zAP (hf a) (zHN hf l)
theorem zEK {g : PV → Option (PV × List Nat)} {c d : PV} {ks : List Nat} (h1 : g c = some (d, ks)) : ∀ {l ds : List PV}, vBR g l = some (ds, []) → vBR g (l ++ [c]) = some (ds ++ [d], ks)
 | [], ds, h => by
   have : ds = [] := by simp [vBR] at h; exact h
   subst this;have := zAP (f := g) (cs := []) (ds := []) (ls := []) h1 rfl
   simpa using this
 | a :: l, ds, h => by
   simp only [vBR] at h
   split at h
   ·rename_i d1 k1 ds1 k2 e1 e2
    simp only [Option.some.injEq, Prod.mk.injEq, List.append_eq_nil_iff] at h;obtain ⟨rfl, rfl, rfl⟩ := h;exact zAP e1 (zEK h1 e2)
   ·cases h
theorem zJL {h : Hp} {n : Nat} (f : QF) : frz h (n + 1) (vA5 f) = some (vA5 f, []) := by cases n <;> rfl
theorem vM5 (i : Nat) : vA5 ⟨[((i : Int), 1)], 0⟩ = .agg [.imm [vDA ((i : Int), 1)], .bool false, .imm [], .imm []] := by unfold vA5; rw [zC1]; rfl
theorem vHH {n i : Nat} (h : i < n) : (vCD n)[i]! = ⟨[((i : Int), 1)], 0⟩ := by unfold vCD; rw [zBV h]
theorem zN0 {l : List QF} {j : Nat} {q : QF} (h : j < l.length) (e : l[j]! = q) : (l.take j).map vA5 ++ [vA5 q] = (l.take (j + 1)).map vA5 := by
 rw [List.take_succ_eq_append_getElem h, List.map_append, ← getElem!_pos l j h, e]; rfl
theorem vL6 (us : List QF) (n : Nat) (ph : List Int) : (vC4 us n ph).length = us.length := by simp [vC4]
theorem vL7 {us : List QF} {n : Nat} {ph : List Int} {j : Nat} (h : j < us.length) : (vC4 us n ph)[j]! = vBE us[j]! (vBH us n ph j) := by unfold vC4; rw [zBV h]
theorem vSQ : FO 185 Tryz.f185 [.tmp 4, .tmp 5] 52 := mkO Tryz.func185 Tryz.ntmps185 Tryz.results185
theorem vNO (g : GraL) (p : List Int) (n k S : Nat) (κ : Nat → Nat) (hg : vCE k g) (hk1 : 1 ≤ k) (hv : VaG g) (hin : g.ins = (n : Int)) (hp : p.length = g.units.length)
 (hvr : ∀ j, j < g.units.length → vP5 n κ (vBH g.us n p j)) (hS : ∀ j, j < g.units.length → k + vC8 (fun v => κ v + k + 1) 0 (n + j) ≤ 400000000) : Fn 185 [vA8 g, ints p] (.own none (.tup [.imm ((vBH g.us n p g.us.length).map vA5), .own 0 0 (vC4 g.us n p).length]) (vDC (vC4 g.us n p))) := by
 have l2 := hg.1.1;have lu := zHU g;have hn := hv.2.1;have hn2 : n ≤ 256 := by have := hv.1.2; omega
 have co := vVL 1 (by decide);have hvl0 : (vCD n).length = n := by simp [vCD]
 refine zGK vA6 hT vSQ (by simp [vA8]) ?_;refine sts ?_
 refine zBP hT [(.sl 4, 4, true), (.sl 5, 4, true)] (fun (i : Nat) => [(1, ints p), (2, .ptr 1 0 0), (4, .own 2 0 i), (5, .own 3 0 0), (11, .int .i64 (n : Int)), (12, .int .i64 i)]) (fun i => [(1, ⟨[vA8 g], 3, true⟩), (2, vDC ((vCD n).take i)), (3, vDC [])]) [] 4
  (fun i => i ≤ n) (fun i => n - i) 0 (Nat.zero_le _) (by decide) (by simp) ⟨rfl, rfl, trivial⟩ ?_ ?_
 ·exact ⟨[1, _, _], [], [], [], ttt, ⟨zAE rfl rfl, (apy rfl), zAF (by decide) rfl rfl, zAF (by decide) rfl rfl, zAC rfl hin, zAC rfl rfl, trivial⟩,
   ⟨bbx, zAD (by decide) rfl rfl (zAZ []) rfl, zAD (by decide) rfl rfl (zAZ []) rfl, trivial⟩, by simp [ren]⟩
 intro i i1;have hlen : ((vCD n).take i).length = i := by rw [List.length_take]; omega
 by_cases hi : i < n
 ·have hsn := zN0 (l := vCD n) (j := i) (by omega) (vHH hi)
  rw [vM5] at hsn
  (repeat' (first|refine stp ?_|with_reducible(refine brr ?_ ?_<;>intro h)));all_goals try(conv=>whnf)
  ·refine zAA co rfl ?_
   refine sts ?_
   exact ⟨i + 1, ⟨by omega, by show n - (i + 1) < n - i; omega⟩, [1, 14, 3], [11], [], [(14, ((vCD n).take i).map vA5 ++ [.agg [.imm [vDA ((i : Int), 1)], .bool false, .imm [], .imm []]])], ⟨⟨⟨_, rfl⟩, trivial⟩, trivial, ⟨⟨_, 6, _, rfl, zEK (by rfl) (zHN zJL _), rfl⟩, trivial⟩⟩, ⟨zAE rfl rfl, apx, zAF (by decide) rfl rfl, zAF (by decide) rfl rfl, zAC rfl rfl, zAC rfl rfl, trivial⟩,
    ⟨bbx, zAD (by decide) rfl hsn (zAZ _) rfl, zAD (by decide) rfl rfl (zAZ []) rfl, trivial⟩, by simp [ren]⟩
  all_goals (exfalso; omega)
 ·have e0 : (vCD n).take i = vBH g.us n p 0 := List.take_of_length_le (by omega)
  (repeat' (first|refine stp ?_|with_reducible(refine brr ?_ ?_<;>intro h)));all_goals try(conv=>whnf)
  all_goals try (exfalso; omega)
  refine zAG hT (fun (j : Nat) => [(1, ints p), (2, .ptr 1 0 0), (4, .own 2 0 (n + j)), (5, .own 3 0 j), (25, .imm (g.units.map vBD)), (26, .int .i64 g.units.length), (27, .int .i64 j)]) (fun j => [(1, ⟨[vA8 g], 3, true⟩), (2, vDC (vBH g.us n p j)), (3, vDC ((vC4 g.us n p).take j))]) [] 4
   (fun j => j ≤ g.units.length) (fun j => g.units.length - j) 0 (Nat.zero_le _) (by decide) (by simp) ?_ ?_
  ·exact ⟨[1, 2, 3], [], [], [], ttt, ⟨zAE rfl rfl, apx, zAF (by decide) rfl (by omega), zAF (by decide) rfl rfl, zAE rfl rfl, zAC rfl (by simp), zAC rfl rfl, trivial⟩,
    ⟨bbx, zAD (by decide) rfl (congrArg (List.map vA5) e0) (zAZ _) rfl, zAD (by decide) rfl rfl (zAZ []) rfl, trivial⟩, by simp [ren]⟩
  intro j j1;have hfl := zBX g.us n p j;have hp2 := vL6 g.us n p;have hpl : ((vC4 g.us n p).take j).length = j := by rw [List.length_take]; omega
  by_cases hj : j < g.units.length
  ·have hvu := hv.2.2.2.1 j hj
   have hmem := get_mem hj;have hou := hg.1.2 _ hmem;have hoq := zCX hvu;rw [hin, show ((n : Int) + (j : Int)) = ((vBH g.us n p j).length : Nat) by omega] at hoq;have hSj := hS j hj;rw [← hfl] at hSj;have ca := vVR g.units[j]!.Q (vBH g.us n p j) n k κ (hvr j hj) (by omega) (zB0 hou hk1) hoq (by rw [zF4]; exact hou.2.2) hSj (by omega);rw [zGM hvu, hfl] at ca;have hpg : (vC4 g.us n p)[j]! = vBE g.units[j]!.Q (vBH g.us n p j) := by rw [vL7 (by omega), zEU hj]
   have hps := zN0 (l := vC4 g.us n p) (j := j) (by omega) hpg;have hfs : vBH g.us n p (j + 1) = vBH g.us n p j ++ [if p[j]! = 2 then zeroQ else vBE g.units[j]!.Q (vBH g.us n p j)] := by rw [← zEU hj]; rfl
   (repeat' (first|refine stp ?_|with_reducible(refine brr ?_ ?_<;>intro h)));all_goals try(conv=>whnf)
   all_goals try (exfalso; omega)
   refine zB5 (r := 2) ca rfl rfl rfl rfl (zA7 (zAZ _)) ?_
   (repeat' (first|refine stp ?_|with_reducible(refine brr ?_ ?_<;>intro h)));all_goals try(conv=>whnf)
   ·rw [if_pos (by assumption)] at hfs
    have hz : (vBH g.us n p j).map vA5 ++ [.agg [.imm [], .bool false, .imm [], .imm []]] = (vBH g.us n p (j + 1)).map vA5 := by rw [hfs, List.map_append, ← zMB]; rfl
    exact ⟨j + 1, ⟨by omega, by show g.units.length - (j + 1) < g.units.length - j; omega⟩, [1, 31, 19], [], [], [(31, (vBH g.us n p j).map vA5 ++ [.agg [.imm [], .bool false, .imm [], .imm []]])], ⟨trivial, trivial, ⟨⟨_, 6, _, rfl, zEK (by rfl) (zHN zJL _), rfl⟩, trivial⟩⟩, ⟨zAE rfl rfl, apx, zAF (by decide) rfl rfl, zAF (by decide) rfl rfl, zAE rfl rfl, zAC rfl rfl, zAC rfl rfl, trivial⟩,
     ⟨bbx, zAD (by decide) rfl hz (zAZ _) rfl, zAD (by decide) rfl hps (zAZ _) rfl, trivial⟩, by simp [ren]⟩
   ·rw [if_neg (by assumption)] at hfs
    have hz : (vBH g.us n p j).map vA5 ++ [vA5 (vBE g.units[j]!.Q (vBH g.us n p j))] = (vBH g.us n p (j + 1)).map vA5 := by rw [hfs, List.map_append]; rfl
    exact ⟨j + 1, ⟨by omega, by show g.units.length - (j + 1) < g.units.length - j; omega⟩, [1, _, _], [], [], [], ttt, ⟨zAE rfl rfl, (apy rfl), zAF (by decide) rfl rfl, zAF (by decide) rfl rfl, zAE rfl rfl, zAC rfl rfl, zAC rfl rfl, trivial⟩,
     ⟨bbx, zAD (by decide) rfl hz (zAZ _) rfl, zAD (by decide) rfl hps (zAZ _) rfl, trivial⟩, by simp [ren]⟩
   all_goals (exfalso; omega)
  ·have ej : j = g.us.length := by omega
   have et : (vC4 g.us n p).take j = vC4 g.us n p := List.take_of_length_le (by omega);refine sus ?_;refine zAX ?_
   (repeat' (first|refine stu ?_|with_reducible(refine brr ?_ ?_<;>intro h)));all_goals try(conv=>whnf)
   all_goals try (exfalso; omega)
   refine vB7 [] [(4, .imm ((vBH g.us n p j).map vA5)), (5, .own 1 0 j)] [(1, vDC ((vC4 g.us n p).take j))] [] 2 (by decide) (by simp) trivial
    ⟨[3], [2], [(4, .imm ((vBH g.us n p j).map vA5))], [], ⟨⟨⟨_, rfl⟩, trivial⟩, ⟨⟨6, _, zAH rfl rfl (by omega) zJL, rfl⟩, trivial⟩, trivial⟩, ⟨zAE rfl rfl, zAF (by decide) rfl rfl, trivial⟩, ⟨zAD (by decide) rfl rfl (zAZ _) rfl, trivial⟩, by simp [ren]⟩ ?_
   refine sts ?_;have ep : j = (vC4 g.us n p).length := by omega
   have ho : vEP (vDC (vC4 g.us n p)) (.tup [.imm ((vBH g.us n p g.us.length).map vA5), .own 0 0 (vC4 g.us n p).length]) := by
    refine Or.inl ⟨fun c hc => ?_, ?_⟩
    ·simp only [vBJ, List.mem_cons, List.not_mem_nil, or_false] at hc
     rcases hc with rfl | rfl
     ·exact Or.inr rfl
     ·exact Or.inl (by simp)
    ·simp [vBJ]
   rw [et];exact zFU (r := 1) (by rw [ej, ← ep, ← ej]; rfl) rfl rfl rfl (vFE _) ho
theorem zCV {j k : Nat} (h : j ≤ k) {g : GraL} (hg : vCE j g) : vCE k g := ⟨⟨hg.1.1, fun f hf => zBZ h (hg.1.2 f hf)⟩, ⟨hg.2.1, fun f hf => zBZ h (hg.2.2 f hf)⟩⟩
def vEF (g : GraL) (n : Nat) (p : List Int) : List QF := g.outs.map fun f => vBE f.Q (vBH g.us n p g.us.length)
theorem vMI {g : GraL} {n : Nat} {p : List Int} {j : Nat} (h : j < g.outs.length) : (vEF g n p)[j]! = vBE g.outs[j]!.Q (vBH g.us n p g.us.length) := by
 unfold vEF; rw [getElem!_pos _ j (by simpa using h), getElem!_pos g.outs j h]; simp
def szG (g : GraL) (p : List Int) (n k : Nat) (κ : Nat → Nat) : Prop := ∀ j, j ≤ g.units.length → vP5 n κ (vBH g.us n p j) ∧ k + vC8 (fun v => κ v + k + 1) 0 (n + j) ≤ 400000000
theorem vO3 : FO 148 Tryz.f148 [.tmp 4, .tmp 5, .tmp 6] 38 := mkO Tryz.func148 Tryz.ntmps148 Tryz.results148
theorem vVT (g : GraL) (p : List Int) (n k : Nat) (κ : Nat → Nat) (hg : vCE k g) (hk : k ≤ 950000000) (hk1 : 1 ≤ k) (hc : vWN g p) (hpl : p.length ≤ 1048576) (hin : g.ins = (n : Int)) (hs : szG g p n k κ) : Fn 148 [vA8 g, ints p] (.data (.tup [.imm ((vBH g.us n p g.us.length).map vA5), .imm ((vEF g n p).map vA5), .int .i64 0])) := by
 have cc := zMP g p (zCV hk hg) hpl;rw [dB_true.2 hc] at cc;obtain ⟨hv, hp, hd⟩ := hc;have cf := vNO g p n k 0 κ hg hk1 hv hin hp (fun j hj => (hs j (by omega)).1) (fun j hj => (hs j (by omega)).2);have lu := zHU g;have l2 := hg.2.1;have hn2 : n ≤ 256 := by have := hv.1.2; omega
 have hnu := hv.2.1;have hol : (vEF g n p).length = g.outs.length := by simp [vEF]
 have hfl := zBX g.us n p g.us.length;refine zAN vA6 hT vO3 (by simp [vA8]) ?_;refine sts ?_;refine zAA cc rfl ?_;refine sts ?_;refine zBI cf rfl ?_;refine sts ?_
 refine zBP hT [(.sl 9, 4, true)] (fun (i : Nat) => [(7, .imm ((vBH g.us n p g.us.length).map vA5)), (9, .own 0 0 i), (23, .imm (g.outs.map vBD)), (24, .int .i64 g.outs.length), (25, .int .i64 i)]) (fun i => [(0, vDC ((vEF g n p).take i))]) [] 1
  (fun i => i ≤ g.outs.length) (fun i => g.outs.length - i) 0 (Nat.zero_le _) (by decide) (by simp) ⟨rfl, trivial⟩ ?_ ?_
 ·exact ⟨[_], [], [], [], ttt, ⟨zAE rfl rfl, zAF (by decide) rfl rfl, zAE rfl rfl, zAC rfl (by simp), zAC rfl rfl, trivial⟩, ⟨zAD (by decide) rfl rfl (zAZ []) rfl, trivial⟩, by simp [ren]⟩
 intro i i1;have hlen : ((vEF g n p).take i).length = i := by rw [List.length_take]; omega
 by_cases hi : i < g.outs.length
 ·have hvu := hv.2.2.2.2 i hi
  have hou := hg.2.2 _ (get_mem hi);have hoq := zCX hvu;rw [hin, show ((n : Int) + (g.units.length : Int)) = ((vBH g.us n p g.us.length).length : Nat) by omega] at hoq;obtain ⟨s1, s2⟩ := hs g.us.length (by omega);rw [← hfl] at s2;have ca := vZ4 g.outs[i]!.Q (vBH g.us n p g.us.length) n k κ s1 (by omega) (zB0 hou hk1) hoq (by rw [zF4]; exact hou.2.2) s2 (by omega);rw [zGM hvu] at ca;have hsn := zN0 (l := vEF g n p) (j := i) (by omega) (vMI hi)
  (repeat' (first|refine stp ?_|with_reducible(refine brr ?_ ?_<;>intro h)));all_goals try(conv=>whnf)
  ·refine zAA ca rfl ?_
   refine sts ?_;exact ⟨i + 1, ⟨by omega, by show g.outs.length - (i + 1) < g.outs.length - i; omega⟩, [_], [], [], [], ttt, ⟨zAE rfl rfl, zAF (by decide) rfl rfl, zAE rfl rfl, zAC rfl rfl, zAC rfl rfl, trivial⟩, ⟨zAD (by decide) rfl hsn (zAZ _) rfl, trivial⟩, by simp [ren]⟩
  all_goals (exfalso; omega)
 ·have et : (vEF g n p).take i = vEF g n p := List.take_of_length_le (by omega)
  (repeat' (first|refine stp ?_|with_reducible(refine brr ?_ ?_<;>intro h)));all_goals try(conv=>whnf)
  all_goals try (exfalso; omega)
  exact zAB (zE0 (zAP rfl (zAP (zAH rfl rfl (by omega) zJL) rfl))) (by rw [et])
def vEN (us : List QF) (n : Nat) (p : List Int) (i : Nat) : List QF := (List.range us.length).map fun j => if j < i then vJP us n p j else vBE us[j]! (vBH us n p j)
theorem zKL (us : List QF) (n : Nat) (p : List Int) (i : Nat) : (vEN us n p i).length = us.length := by simp [vEN]
theorem vH5 (us : List QF) (n : Nat) (p : List Int) : vC4 us n p = vEN us n p 0 := by unfold vEN vC4; simp
theorem vMA {us : List QF} {n : Nat} {p : List Int} {i : Nat} (h : i < us.length) : (vEN us n p i)[i]! = vBE us[i]! (vBH us n p i) := by unfold vEN; rw [zBV h, if_neg (Nat.lt_irrefl _)]
theorem vL9 {us : List QF} {n : Nat} {p : List Int} {i : Nat} (h : i < us.length) : (vEN us n p i).set i (vJP us n p i) = vEN us n p (i + 1) := by
 refine List.ext_getElem (by simp [vEN]) fun j h1 h2 => ?_
 have h3 : j < us.length := by simpa [vEN] using h2
 by_cases e : j = i
 ·subst e; simp [vEN]
 ·simp only [vEN, List.getElem_set_ne (show i ≠ j by omega), List.getElem_map, List.getElem_range]
  by_cases e2 : j < i
  ·rw [if_pos e2, if_pos (by omega)]
  ·rw [if_neg e2, if_neg (by omega)]
theorem vH6 {us : List QF} {n : Nat} {p : List Int} {i : Nat} (h : i < us.length) (hr : p[i]! ≠ 2) : vEN us n p i = vEN us n p (i + 1) := by
 refine List.ext_getElem (by simp [vEN]) fun j h1 h2 => ?_
 simp only [vEN, List.getElem_map, List.getElem_range];by_cases e : j = i
 ·subst e
  rw [if_neg (Nat.lt_irrefl _), if_pos (by omega)]; unfold vJP; rw [if_neg hr]
 ·by_cases e2 : j < i
  ·rw [if_pos e2, if_pos (by omega)]
  ·rw [if_neg e2, if_neg (by omega)]
def uA5 (us : List QF) (n : Nat) (p : List Int) : List QF := vEN us n p us.length
theorem vSP : FO 147 Tryz.f147 [.tmp 4, .tmp 5] 40 := mkO Tryz.func147 Tryz.ntmps147 Tryz.results147
theorem vZ3 (g : GraL) (p : List Int) (n k : Nat) (κ : Nat → Nat) (hg : vCE k g) (hk : k ≤ 950000000) (hk1 : 1 ≤ k) (hc : vWN g p) (hpl : p.length ≤ 1048576) (hin : g.ins = (n : Int)) (hs : szG g p n k κ) : Fn 147 [vA8 g, ints p] (.data (.tup [.imm ((uA5 g.us n p).map vA5), .int .i64 0])) := by
 have cc := zMP g p (zCV hk hg) hpl;rw [dB_true.2 hc] at cc;obtain ⟨hv, hp, hd⟩ := hc;have cf := vNO g p n k 0 κ hg hk1 hv hin hp (fun j hj => (hs j (by omega)).1) (fun j hj => (hs j (by omega)).2);rw [vH5, zKL] at cf;have co := vVL (-1) (by decide);rw [show (((-1 : Int)) : Rat) = -1 by rfl] at co;have lu := zHU g;have l2 := hg.1.1;have hn2 : n ≤ 256 := by have := hv.1.2; omega
 have hnu := hv.2.1;refine zAN vA6 hT vSP (by simp [vA8]) ?_;refine sts ?_;refine zAA cc rfl ?_;refine sts ?_;refine zBI cf rfl ?_;refine sts ?_
 refine zAG hT (fun (i : Nat) => [(1, ints p), (7, .own 0 0 g.us.length), (20, .int .i64 g.us.length), (21, .int .i64 i)]) (fun i => [(0, vDC (vEN g.us n p i))]) [] 1
  (fun i => i ≤ g.us.length) (fun i => g.us.length - i) 0 (Nat.zero_le _) (by decide) (by simp) ?_ ?_
 ·exact ⟨[_], [], [], [], ttt, ⟨zAE rfl rfl, zAF (by decide) rfl rfl, zAC rfl (by simp), zAC rfl rfl, trivial⟩, ⟨zAD (by decide) rfl rfl (zAZ _) rfl, trivial⟩, by simp [ren]⟩
 intro i i1;have hil := zKL g.us n p i;by_cases hi : i < g.us.length
 ·have hvu := hv.2.2.2.1 i (by omega)
  have hou := hg.1.2 _ (get_mem (show i < g.units.length by omega));have hoq := zCX hvu;have hfl := zBX g.us n p i;rw [hin, show ((n : Int) + (i : Int)) = ((vBH g.us n p i).length : Nat) by omega] at hoq;obtain ⟨s1, s2⟩ := hs i (by omega);rw [← hfl] at s2;obtain ⟨b1, b2, b3⟩ := zG4 s1 (zB0 hou hk1) hoq;have cs := zIR (vBE g.units[i]!.Q (vBH g.us n p i)) (-1) _ 1 b2 (zF6 (z := -1) (by decide)) (by omega) (by omega);have hgt := vMA (us := g.us) (n := n) (p := p) hi;rw [zEU (by omega)] at hgt
  (repeat' (first|refine stp ?_|with_reducible(refine brr ?_ ?_<;>intro h)));all_goals try(conv=>whnf)
  ·have hr : vJP g.us n p i = vA3 zeroQ (vBE g.units[i]!.Q (vBH g.us n p i)) (-1) := by unfold vJP; rw [if_pos (by assumption), zEU (by omega)]
   refine zAU i (Nat.zero_add _) (by omega) ?_;rw [hgt];refine sts ?_;refine zAA co rfl ?_;refine sts ?_;refine zAA cs rfl ?_;refine sts ?_;refine zAU i (Nat.zero_add _) (by omega) ?_;rw [hgt];refine sts ?_;exact ⟨i + 1, ⟨by omega, by show g.us.length - (i + 1) < g.us.length - i; omega⟩, [_], [], [], [], ttt, ⟨zAE rfl rfl, zAF (by decide) rfl rfl, zAC rfl rfl, zAC rfl rfl, trivial⟩, ⟨zAD (by decide) rfl (by rw [← vL9 hi, hr]; exact zBB (by omega) rfl) (zAZ _) rfl, trivial⟩, by simp [ren]⟩
  ·exact ⟨i + 1, ⟨by omega, by show g.us.length - (i + 1) < g.us.length - i; omega⟩, [_], [], [], [], ttt, ⟨zAE rfl rfl, zAF (by decide) rfl rfl, zAC rfl rfl, zAC rfl rfl, trivial⟩, ⟨zAD (by decide) rfl (congrArg (List.map vA5) (vH6 hi (by assumption))) (zAZ _) rfl, trivial⟩, by simp [ren]⟩
  all_goals (exfalso; omega)
 ·have ei : i = g.us.length := by omega
  (repeat' (first|refine stp ?_|with_reducible(refine brr ?_ ?_<;>intro h)));all_goals try(conv=>whnf)
  all_goals try (exfalso; omega)
  exact zAB (zE0 (zAP (zAH rfl rfl (by omega) zJL) rfl)) (by rw [ei]; rfl)
theorem uC5 {q : Rat} (h : vBS q = 1) : phase q = 1 := phase_one.2 (sgnQ_pos.1 (by omega))
theorem uC4 {q : Rat} (h : vBS q = -1) : phase q = 2 := phase_two.2 (sgnQ_neg.1 (by omega))
theorem uC6 {q : Rat} (h : ¬ vBS q = 1) (h2 : ¬ vBS q = -1) : phase q = 0 := by
 refine phase_zero.2 (sgnQ_zero.1 ?_);rcases Int.lt_trichotomy q.num 0 with e | e | e
 ·exact absurd (Int.sign_eq_neg_one_of_neg e) h2
 ·unfold vBS; rw [e]; rfl
 ·exact absurd (Int.sign_eq_one_of_pos e) h
def vF2 (pre : List Rat) (i : Nat) : List Int := (List.range pre.length).map fun j => if j < i then phase pre[j]! else 0
theorem vYS (pre : List Rat) (i : Nat) : (vF2 pre i).length = pre.length := by simp [vF2]
theorem vS8 (pre : List Rat) : List.replicate pre.length (0 : Int) = vF2 pre 0 := by
 refine List.ext_getElem (by simp [vF2]) fun j h1 h2 => ?_
 simp [vF2]
theorem vMO {pre : List Rat} {i : Nat} (h : i < pre.length) : (vF2 pre i).set i (phase pre[i]!) = vF2 pre (i + 1) := by
 refine List.ext_getElem (by simp [vF2]) fun j h1 h2 => ?_
 by_cases e : j = i
 ·subst e; simp [vF2]
 ·simp only [vF2, List.getElem_set_ne (show i ≠ j by omega), List.getElem_map, List.getElem_range]
  by_cases e2 : j < i
  ·rw [if_pos e2, if_pos (by omega)]
  ·rw [if_neg e2, if_neg (by omega)]
theorem vS9 {pre : List Rat} {i : Nat} (h : i < pre.length) (hr : phase pre[i]! = 0) : vF2 pre i = vF2 pre (i + 1) := by
 refine List.ext_getElem (by simp [vF2]) fun j h1 h2 => ?_
 simp only [vF2, List.getElem_map, List.getElem_range];by_cases e : j = i
 ·subst e
  rw [if_neg (Nat.lt_irrefl _), if_pos (by omega), hr]
 ·by_cases e2 : j < i
  ·rw [if_pos e2, if_pos (by omega)]
  ·rw [if_neg e2, if_neg (by omega)]
def ofL (pre : List Rat) : List Int := vF2 pre pre.length
theorem zHH (l : List Int) : ∀ e ∈ l.map (PV.int .i64), nr 3 e = true ∧ e ≠ .any := zAW fun _ => ⟨rfl, by simp⟩
theorem uHC : FO 146 Tryz.f146 [.tmp 4, .tmp 5] 53 := mkO Tryz.func146 Tryz.ntmps146 Tryz.results146
theorem vH8 : FO 57 Tryz.f57 [.tmp 2] 57 := mkO Tryz.func57 Tryz.ntmps57 Tryz.results57
theorem zF0 (g : GraL) (hg : vCE 950000000 g) : Fn 57 [vA8 g] (.data (.bool (dB (VaG g)))) := by
 obtain ⟨hu, ho⟩ := hg;have no : ¬ VaG g → false = dB (VaG g) := zIJ;have l1 := hu.1;have l2 := ho.1;have cc := zKC g.outs (g.ins + g.units.length) ⟨ho.1, fun f hf => zBZ (by decide) (ho.2 f hf)⟩;refine zAN vA6 hT vH8 (by simp [vA8]) ?_
 (repeat' (first|refine stp ?_|with_reducible(refine brr ?_ ?_<;>intro h)));all_goals try(conv=>whnf)
 ·exact zAB rfl (congrArg PV.bool (no fun e => by have := e.1.1; omega))
 ·exact zAB rfl (congrArg PV.bool (no fun e => by have := e.1.2; omega))
 ·exact zAB rfl (congrArg PV.bool (no fun e => by have := e.2.1; omega))
 ·exact zAB rfl (congrArg PV.bool (no fun e => by have := e.2.2.1.1; omega))
 ·exact zAB rfl (congrArg PV.bool (no fun e => by have := e.2.2.1.2; omega))
 ·have h0 : (1 ≤ g.ins ∧ g.ins ≤ 256) ∧ g.units.length ≤ 1024 ∧ (1 ≤ g.outs.length ∧ g.outs.length ≤ 256) := ⟨⟨by omega, by omega⟩, by omega, by omega, by omega⟩
  obtain ⟨h1, h2, h3⟩ := h0
  refine zAG hT (fun (i : Nat) => [(1, .ptr 0 0 0), (3, .int .i64 i)]) (fun _ => [(0, ⟨[vA8 g], 3, true⟩)]) [] 1
   (fun i => i ≤ g.units.length ∧ ∀ j, j < i → vBO g.units[j]! (g.ins + j)) (fun i => g.units.length - i) 0 ⟨Nat.zero_le _, fun j h => (by omega)⟩ (by decide) (by simp) ?_ ?_
  ·exact ⟨[0], [], [], [], ttt, ⟨apx, zAC rfl rfl, trivial⟩, ⟨bbx, trivial⟩, by simp [ren]⟩
  intro i ⟨i1, i2⟩;by_cases hi : i < g.units.length
  ·have c1 := zMO g.units[i]! (g.ins + i) (zBZ (by decide) (hu.2 _ (get_mem hi)))
   (repeat' (first|refine stp ?_|with_reducible(refine brr ?_ ?_<;>intro h)));all_goals try(conv=>whnf)
   ·refine zAA c1 rfl ?_
    (repeat' (first|refine stp ?_|with_reducible(refine brr ?_ ?_<;>intro h)));all_goals try(conv=>whnf)
    ·exact ⟨i + 1, ⟨⟨by omega, fun j hj => zA2 (p := fun (j : Nat) => vBO g.units[j]! (g.ins + j)) i2 (validB_true.1 (by assumption)) hj⟩, by show g.units.length - (i + 1) < g.units.length - i; omega⟩, [0], [], [], [], ttt, ⟨apx, zAC rfl rfl, trivial⟩, ⟨bbx, trivial⟩, by simp [ren]⟩
    ·exact zAB rfl (congrArg PV.bool (no fun e => by have := validB_true.2 (e.2.2.2.1 i hi); simp_all))
   all_goals (exfalso; omega)
  ·(repeat' (first|refine stp ?_|with_reducible(refine brr ?_ ?_<;>intro h)));all_goals try(conv=>whnf)
   all_goals try (exfalso; omega)
   rw [List.length_map];refine zAA cc rfl ?_;refine sts ?_;refine zAB rfl (congrArg PV.bool ?_);rw [Bool.eq_iff_iff, dB_true, dB_true];exact ⟨fun e => ⟨h1, h2, h3, fun j hj => i2 j (by omega), e⟩, fun e => e.2.2.2.2⟩
theorem vKG : FO 23 Tryz.f23 [.tmp 4, .tmp 5] 59 := mkO Tryz.func23 Tryz.ntmps23 Tryz.results23
theorem vPQ (g : GraL) (x : List RatL) (k K : Nat) (hg : vCE k g) (hk : k ≤ 950000000) (hk1 : 1 ≤ k) (hK1 : 1 ≤ K) (hKb : K ≤ 949999990) (hv : VaG g) (hx : vPB 950000000 x) (hl : (x.length : Int) = g.ins) (hK : ∀ j, j < g.units.length → (∀ q ∈ vBC g.us (x.map qv) j, sz K q) ∧ sz K (vCA g.us (x.map qv))[j]!) (hb : ∀ f ∈ g.units, k + f.terms.length * (k + K + 1) + k + K ≤ 949999990) : Fn 23 [vA8 g, .imm (x.map vAZ)] (.data (.tup [.imm ((vBC g.us (x.map qv) g.us.length).map vBF), .int .i64 0])) := by
 have cv := zF0 g (zCV hk hg);rw [dB_true.2 hv] at cv;have l1 := hx.1;have l2 := hg.1.1;have lu := zHU g;have hn := hv.2.1;have hx2 : x.length ≤ 256 := by have := hv.1.2; omega
 refine zAN vA6 hT vKG (by simp [vA8]) ?_;refine sts ?_;refine zAA cv rfl ?_
 (repeat' (first|refine stp ?_|with_reducible(refine brr ?_ ?_<;>intro h)));all_goals try(conv=>whnf)
 ·exfalso; omega
 refine zBP hT [(.sl 6, 3, true)] (fun (i : Nat) => [(1, .imm (x.map vAZ)), (2, .ptr 0 0 0), (6, .own 1 0 i), (7, .int .i64 i)]) (fun i => [(0, ⟨[vA8 g], 3, true⟩), (1, ⟨((x.take i).map qv).map vBF, 3, true⟩)]) [] 2
  (fun i => i ≤ x.length) (fun i => x.length - i) 0 (Nat.zero_le _) (by decide) (by simp) ⟨rfl, trivial⟩ ?_ ?_
 ·exact ⟨[0, _], [], [], [], ttt, ⟨zAE rfl rfl, (apy rfl), zAF (by decide) rfl rfl, zAC rfl rfl, trivial⟩,
   ⟨bbx, zAD (by decide) rfl rfl (zAK []) rfl, trivial⟩, by simp [ren]⟩
 intro i i1;have hlen : ((x.take i).map qv).length = i := by rw [List.length_map, List.length_take]; omega
 by_cases hi : i < x.length
 ·have q1 := zBG hx hi
  have cc := zFJ x[i]! q1.1 (by have := q1.2; omega) (by have := q1.2; omega)
  (repeat' (first|refine stp ?_|with_reducible(refine brr ?_ ?_<;>intro h)));all_goals try(conv=>whnf)
  ·refine zAA cc rfl ?_
   refine sts ?_
   exact ⟨i + 1, ⟨by omega, by show x.length - (i + 1) < x.length - i; omega⟩, [0, _], [], [], [], ttt, ⟨zAE rfl rfl, (apy rfl), zAF (by decide) rfl rfl, zAC rfl rfl, trivial⟩,
    ⟨bbx, zAD (by decide) rfl (zM7 hi) (zAK _) rfl, trivial⟩, by simp [ren]⟩
  all_goals (exfalso; omega)
 ·have e0 : (x.take i).map qv = vBC g.us (x.map qv) 0 := by rw [zEB, List.take_of_length_le (by omega)]
  (repeat' (first|refine stp ?_|with_reducible(refine brr ?_ ?_<;>intro h)));all_goals try(conv=>whnf)
  all_goals try (exfalso; omega)
  refine zAG hT (fun (j : Nat) => [(2, .ptr 0 0 0), (6, .own 1 0 (x.length + j)), (8, .int .i64 j)]) (fun j => [(0, ⟨[vA8 g], 3, true⟩), (1, ⟨(vBC g.us (x.map qv) j).map vBF, 3, true⟩)]) [] 2
   (fun j => j ≤ g.units.length) (fun j => g.units.length - j) 0 (Nat.zero_le _) (by decide) (by simp) ?_ ?_
  ·exact ⟨[0, 1], [], [], [], ttt, ⟨apx, zAF (by decide) rfl (by omega), zAC rfl rfl, trivial⟩,
    ⟨bbx, zAD (by decide) rfl (congrArg (List.map vBF) e0) (zAK _) rfl, trivial⟩, by simp [ren]⟩
  intro j j1;have hvl : (vBC g.us (x.map qv) j).length = x.length + j := by rw [zC2 j (by omega), List.length_map]
  by_cases hj : j < g.units.length
  ·have hvu := hv.2.2.2.1 j hj
   have hmem := get_mem hj;have hou := hg.1.2 _ hmem;have hb1 := hb _ hmem;obtain ⟨hs1, hs2⟩ := hK j hj;have hvr : ∀ p ∈ g.units[j]!.Q.ts, 0 ≤ p.1 ∧ p.1 < ((vBC g.us (x.map qv) j).length : Nat) := fun p hp => by have := (zCX hvu).2 p hp; omega
   have ce := vVI g.units[j]!.Q (vBC g.us (x.map qv) j) k K (zB0 hou hk1) hs1 hvr (by rw [zF4]; exact hb1) (by rw [zF4]; exact hou.2.2) (by omega);rw [zGM hvu, hvl] at ce;have hp : (vCA g.us (x.map qv))[j]! = evQ g.units[j]!.Q (vBC g.us (x.map qv) j) := by rw [zGU (by omega), zEU hj]
   rw [hp] at hs2;have cx := uFC (cr (evQ g.units[j]!.Q (vBC g.us (x.map qv) j))) ⟨false, [], []⟩ K (zEI hs2) vF0 (by omega);rw [zAQ, show qv ⟨false, [], []⟩ = 0 by rfl, show ∀ a : Rat, vC5 a 0 = vC5 0 a from fun a => by unfold vC5; split <;> split <;> grind] at cx
   have hvs : (vBC g.us (x.map qv) j).map vBF ++ [vAZ (cr (vC5 0 (evQ g.units[j]!.Q (vBC g.us (x.map qv) j))))] = (vBC g.us (x.map qv) (j + 1)).map vBF := by
    rw [zEC (by omega), List.map_append, zEU hj]; rfl
   (repeat' (first|refine stp ?_|with_reducible(refine brr ?_ ?_<;>intro h)));all_goals try(conv=>whnf)
   ·refine zB5 (r := 1) ce rfl rfl rfl rfl (zA7 (zAK _)) ?_
    refine sts ?_;refine zAA cx rfl ?_;refine sts ?_
    exact ⟨j + 1, ⟨by omega, by show g.units.length - (j + 1) < g.units.length - j; omega⟩, [0, _], [], [], [], ttt, ⟨(apy rfl), zAF (by decide) rfl rfl, zAC rfl rfl, trivial⟩,
     ⟨bbx, zAD (by decide) rfl hvs (zAK _) rfl, trivial⟩, by simp [ren]⟩
   all_goals (exfalso; omega)
  ·have ej : j = g.us.length := by omega
   (repeat' (first|refine stp ?_|with_reducible(refine brr ?_ ?_<;>intro h)));all_goals try(conv=>whnf)
   all_goals try (exfalso; omega)
   exact zAB (zE0 (zAP (zAH rfl rfl (by omega) fun q => zD4 (cr q)) rfl)) (by rw [ej])
theorem vH9 : FO 164 Tryz.f164 [.tmp 2] 22 := mkO Tryz.func164 Tryz.ntmps164 Tryz.results164
theorem vLE (p : List Int) (hp : p.length ≤ 1048576) : Fn 164 [ints p] (.data (.bool (dB (∀ i, i < p.length → Dec p[i]!)))) := by
 refine zAN vA6 hT vH9 (by simp) ?_;refine sts ?_;refine zA6 hT (fun n : Nat => [(0, ints p), (3, .int .i64 n)]) (fun n => n ≤ p.length ∧ ∀ j, j < n → Dec p[j]!) (fun n => p.length - n) 0 ⟨by omega, fun j hj => by omega⟩ ?_ ?_
 ·exact ⟨zAE rfl rfl, zAC rfl rfl, trivial⟩
 intro i ⟨i1, i2⟩;by_cases hi : i < p.length
 ·(repeat' (first|refine stp ?_|with_reducible(refine brr ?_ ?_<;>intro h)));all_goals try(conv=>whnf)
  all_goals try (exfalso; omega)
  all_goals first
   | (refine zAB rfl (congrArg PV.bool (zIJ fun e => ?_)); rcases e i hi with e | e <;> (exact absurd e (by assumption)))
   | exact ⟨i + 1, ⟨⟨by omega, fun j hj => zA2 (p := fun j => Dec p[j]!) i2 (by unfold Dec; omega) hj⟩, by show p.length - (i + 1) < p.length - i; omega⟩, zAE rfl rfl, zAC rfl rfl, trivial⟩
   | skip
 ·(repeat' (first|refine stp ?_|with_reducible(refine brr ?_ ?_<;>intro h)));all_goals try(conv=>whnf)
  all_goals try (exfalso; omega)
  exact zAB rfl (congrArg PV.bool (zME fun j hj => i2 j (by omega)))
theorem vOY : FO 63 Tryz.f63 [.cell 4 37] 36 := mkO Tryz.func63 Tryz.ntmps63 Tryz.results63
theorem zNV (F : QF) (vars : List QF) (n k : Nat) (κ : Nat → Nat) (hv : vP5 n κ vars) (hn : n ≤ 1000) (hf : szF k F) (ho : okF vars.length F) (hfl : F.ts.length ≤ 1048576) (hS : k + vC8 (fun v => κ v + k + 1) 0 vars.length ≤ 100000) (hl : vars.length ≤ 1048576) : Fn 63 [vA5 F, .own 0 0 vars.length] (.wrt (vDC vars) (vA5 (vBE F vars)) (vDC vars)) := by
 refine zCF vA6 hT vOY (by simp [vA5]) ?_;refine sts ?_
 refine zAG hT (fun (i : Nat) => [(1, .own 0 0 vars.length), (2, .ptr 1 0 0), (4, .ptr 2 0 0), (5, .ptr 3 0 0), (6, .int .i64 i)])
  (fun i => [(0, vDC vars), (1, ⟨[vA5 F], 4, true⟩), (2, ⟨[.agg [.nilsl, .bool false, .nilsl, .nilsl]], 4, true⟩), (3, ⟨[vA5 (vEJ F vars i)], 4, true⟩)]) [] 4
  (fun i => i ≤ F.ts.length) (fun i => F.ts.length - i) 0 (Nat.zero_le _) (by decide) (by simp) ?_ ?_
 ·exact ⟨[_, _, _], [], [], [(6, [vA5 ⟨[], F.c⟩])], ⟨trivial, trivial, ⟨⟨_, 6, _, rfl, rfl, rfl⟩, trivial⟩⟩, ⟨zAF (by decide) rfl rfl, (apy rfl), (apy rfl), (apy rfl), zAC rfl rfl, trivial⟩,
   ⟨zAD (by decide) rfl rfl (zAZ vars) rfl, bbx, bbx, bbx, trivial⟩, by simp [ren]⟩
 intro i i1;obtain ⟨a1, a2, a3⟩ := zMU hv hf ho i (by omega);by_cases hi : i < F.ts.length
 ·have hmem : F.ts[i]! ∈ F.ts := get_mem hi
  have hvi := ho.2 _ hmem;have hvi2 : 0 ≤ (tQ F.ts[i]!).var ∧ (tQ F.ts[i]!).var < vars.length := hvi;have hj : F.ts[i]!.1.toNat < vars.length := by omega
  obtain ⟨v1, v2, v3⟩ := hv _ hj;have hk1 : κ F.ts[i]!.1.toNat + k + 1 ≤ vC8 (fun v => κ v + k + 1) 0 vars.length := zLP (fun v => κ v + k + 1) hj;have cs := zG1 vars[F.ts[i]!.1.toNat]! F.ts[i]!.2 (κ F.ts[i]!.1.toNat) k v2 (hf.2 _ hmem) (by omega) (by omega);have sm := zLD v2 (hf.2 _ hmem);have sl : (vBT vars[F.ts[i]!.1.toNat]! F.ts[i]!.2).ts.length ≤ n := Nat.le_trans zKI v3;have hmul : ((vBT vars[F.ts[i]!.1.toNat]! F.ts[i]!.2).ts.length + 1) * (κ F.ts[i]!.1.toNat + k + 1) ≤ 1001 * 100000 := Nat.mul_le_mul (by omega) (by omega);have ca := vVJ (vEJ F vars i) (vBT vars[F.ts[i]!.1.toNat]! F.ts[i]!.2) _ _ a2 sm (by omega) (by omega);rw [zFN a1.1 v1.1, ← zFM hi] at ca
  (repeat' (first|refine stp ?_|with_reducible(refine brr ?_ ?_<;>intro h)));all_goals try(conv=>whnf)
  all_goals try (exfalso; omega)
  refine zAU F.ts[i]!.1.toNat (Nat.zero_add _) hj ?_;refine sts ?_;refine zAA cs rfl ?_;refine sts ?_;refine zAA ca rfl ?_;refine sts ?_
  exact ⟨i + 1, ⟨by omega, by show F.ts.length - (i + 1) < F.ts.length - i; omega⟩, [1, 2, 3], [], [], [], ttt, ⟨zAF (by decide) rfl rfl, apx, apx, apx, zAC rfl rfl, trivial⟩,
   ⟨zAD (by decide) rfl rfl (zAZ vars) rfl, bbx, bbx, bbx, trivial⟩, by simp [ren]⟩
 ·have e : i = F.ts.length := by omega
  (repeat' (first|refine stp ?_|with_reducible(refine brr ?_ ?_<;>intro h)));all_goals try(conv=>whnf)
  all_goals try (exfalso; omega)
  subst e;rw [zG5];exact zBU rfl rfl rfl rfl rfl (vFE vars)
def szR (g : GraL) (p : List Int) (n k : Nat) (κ : Nat → Nat) : Prop := ∀ j, j ≤ g.units.length → vP5 n κ (vBH g.us n p j) ∧ k + vC8 (fun v => κ v + k + 1) 0 (n + j) ≤ 100000
theorem vSI : FO 118 Tryz.f118 [.tmp 4, .tmp 5, .tmp 6, .tmp 7] 93 := mkO Tryz.func118 Tryz.ntmps118 Tryz.results118
theorem vNK (g : GraL) (p : List Int) (n k : Nat) (κ : Nat → Nat) (hg : vCE k g) (hk : k ≤ 950000000) (hk1 : 1 ≤ k) (hc : vWN g p) (hpl : p.length ≤ 1048576) (hin : g.ins = (n : Int)) (hs : szR g p n k κ) : Fn 118 [vA8 g, ints p] (.own none (.tup [.imm ((vBH g.us n p g.us.length).map vA5), .own 0 0 (vC4 g.us n p).length, .imm ((vEF g n p).map vA5), .int .i64 0]) (vDC (vC4 g.us n p))) := by
 have cc := vLE p hpl;have cv := zF0 g (zCV hk hg);obtain ⟨hv, hp, hd⟩ := hc;rw [dB_true.2 hd] at cc;rw [dB_true.2 hv] at cv;have l2 := hg.1.1;have l3 := hg.2.1;have lu := zHU g;have hn := hv.2.1;have hn2 : n ≤ 256 := by have := hv.1.2; omega
 have co := zF2 1 (by decide);have hvl0 : (vCD n).length = n := by simp [vCD]
 have hol : (vEF g n p).length = g.outs.length := by simp [vEF]
 refine zGK vA6 hT vSI (by simp [vA8]) ?_;refine sts ?_;refine zAA cv rfl ?_
 (repeat' (first|refine stp ?_|with_reducible(refine brr ?_ ?_<;>intro h)));all_goals try(conv=>whnf)
 ·exfalso; omega
 refine zAA cc rfl ?_;refine sts ?_
 refine zBP hT [(.sl 8, 4, true), (.sl 9, 4, true), (.sl 10, 4, true)] (fun (i : Nat) => [(1, ints p), (2, .ptr 1 0 0), (8, .own 2 0 i), (9, .own 3 0 0), (10, .own 4 0 0), (11, .int .i64 i)]) (fun i => [(1, ⟨[vA8 g], 3, true⟩), (2, vDC ((vCD n).take i)), (3, vDC []), (4, vDC [])]) [] 5
  (fun i => i ≤ n) (fun i => n - i) 0 (Nat.zero_le _) (by decide) (by simp) ⟨rfl, rfl, rfl, trivial⟩ ?_ ?_
 ·exact ⟨[1, _, _, _], [], [], [], ttt, ⟨zAE rfl rfl, (apy rfl), zAF (by decide) rfl rfl, zAF (by decide) rfl rfl, zAF (by decide) rfl rfl, zAC rfl rfl, trivial⟩,
   ⟨bbx, zAD (by decide) rfl rfl (zAZ []) rfl, zAD (by decide) rfl rfl (zAZ []) rfl, zAD (by decide) rfl rfl (zAZ []) rfl, trivial⟩, by simp [ren]⟩
 intro i i1;have hlen : ((vCD n).take i).length = i := by rw [List.length_take]; omega
 by_cases hi : i < n
 ·have hsn := zN0 (l := vCD n) (j := i) (by omega) (vHH hi)
  rw [vM5] at hsn
  (repeat' (first|refine stp ?_|with_reducible(refine brr ?_ ?_<;>intro h)));all_goals try(conv=>whnf)
  ·refine zAA co rfl ?_
   refine sts ?_
   exact ⟨i + 1, ⟨by omega, by show n - (i + 1) < n - i; omega⟩, [1, 16, 3, 4], [13], [], [(16, ((vCD n).take i).map vA5 ++ [.agg [.imm [vDA ((i : Int), 1)], .bool false, .imm [], .imm []]])], ⟨⟨⟨_, rfl⟩, trivial⟩, trivial, ⟨⟨_, 6, _, rfl, zEK (by rfl) (zHN zJL _), rfl⟩, trivial⟩⟩, ⟨zAE rfl rfl, apx, zAF (by decide) rfl rfl, zAF (by decide) rfl rfl, zAF (by decide) rfl rfl, zAC rfl rfl, trivial⟩,
    ⟨bbx, zAD (by decide) rfl hsn (zAZ _) rfl, zAD (by decide) rfl rfl (zAZ []) rfl, zAD (by decide) rfl rfl (zAZ []) rfl, trivial⟩, by simp [ren]⟩
  all_goals (exfalso; omega)
 ·have e0 : (vCD n).take i = vBH g.us n p 0 := List.take_of_length_le (by omega)
  (repeat' (first|refine stp ?_|with_reducible(refine brr ?_ ?_<;>intro h)));all_goals try(conv=>whnf)
  all_goals try (exfalso; omega)
  refine zAG hT (fun (j : Nat) => [(1, ints p), (2, .ptr 1 0 0), (8, .own 2 0 (n + j)), (9, .own 3 0 j), (10, .own 4 0 0), (12, .int .i64 j)]) (fun j => [(1, ⟨[vA8 g], 3, true⟩), (2, vDC (vBH g.us n p j)), (3, vDC ((vC4 g.us n p).take j)), (4, vDC [])]) [] 5
   (fun j => j ≤ g.units.length) (fun j => g.units.length - j) 0 (Nat.zero_le _) (by decide) (by simp) ?_ ?_
  ·exact ⟨[1, 2, 3, 4], [], [], [], ttt, ⟨zAE rfl rfl, apx, zAF (by decide) rfl (by omega), zAF (by decide) rfl rfl, zAF (by decide) rfl rfl, zAC rfl rfl, trivial⟩,
    ⟨bbx, zAD (by decide) rfl (congrArg (List.map vA5) e0) (zAZ _) rfl, zAD (by decide) rfl rfl (zAZ []) rfl, zAD (by decide) rfl rfl (zAZ []) rfl, trivial⟩, by simp [ren]⟩
  intro j j1;have hfl := zBX g.us n p j;have hp2 := vL6 g.us n p;have hpl : ((vC4 g.us n p).take j).length = j := by rw [List.length_take]; omega
  by_cases hj : j < g.units.length
  ·have hvu := hv.2.2.2.1 j hj
   have hmem := get_mem hj;have hou := hg.1.2 _ hmem;have hoq := zCX hvu;rw [hin, show ((n : Int) + (j : Int)) = ((vBH g.us n p j).length : Nat) by omega] at hoq;obtain ⟨s1, s2⟩ := hs j (by omega);rw [← hfl] at s2;have ca := zNV g.units[j]!.Q (vBH g.us n p j) n k κ s1 (by omega) (zB0 hou hk1) hoq (by rw [zF4]; exact hou.2.2) s2 (by omega);rw [zGM hvu, hfl] at ca;have hpg : (vC4 g.us n p)[j]! = vBE g.units[j]!.Q (vBH g.us n p j) := by rw [vL7 (by omega), zEU hj]
   have hps := zN0 (l := vC4 g.us n p) (j := j) (by omega) hpg;have hfs : vBH g.us n p (j + 1) = vBH g.us n p j ++ [if p[j]! = 2 then zeroQ else vBE g.units[j]!.Q (vBH g.us n p j)] := by rw [← zEU hj]; rfl
   (repeat' (first|refine stp ?_|with_reducible(refine brr ?_ ?_<;>intro h)));all_goals try(conv=>whnf)
   all_goals try (exfalso; omega)
   refine zB5 (r := 2) ca rfl rfl rfl rfl (zA7 (zAZ _)) ?_
   (repeat' (first|refine stp ?_|with_reducible(refine brr ?_ ?_<;>intro h)));all_goals try(conv=>whnf)
   ·rw [if_pos (by assumption)] at hfs
    have hz : (vBH g.us n p j).map vA5 ++ [.agg [.imm [], .bool false, .imm [], .imm []]] = (vBH g.us n p (j + 1)).map vA5 := by rw [hfs, List.map_append, ← zMB]; rfl
    exact ⟨j + 1, ⟨by omega, by show g.units.length - (j + 1) < g.units.length - j; omega⟩, [1, 34, 22, 4], [], [], [(34, (vBH g.us n p j).map vA5 ++ [.agg [.imm [], .bool false, .imm [], .imm []]])], ⟨trivial, trivial, ⟨⟨_, 6, _, rfl, zEK (by rfl) (zHN zJL _), rfl⟩, trivial⟩⟩, ⟨zAE rfl rfl, apx, zAF (by decide) rfl rfl, zAF (by decide) rfl rfl, zAF (by decide) rfl rfl, zAC rfl rfl, trivial⟩,
     ⟨bbx, zAD (by decide) rfl hz (zAZ _) rfl, zAD (by decide) rfl hps (zAZ _) rfl, zAD (by decide) rfl rfl (zAZ []) rfl, trivial⟩, by simp [ren]⟩
   ·rw [if_neg (by assumption)] at hfs
    have hz : (vBH g.us n p j).map vA5 ++ [vA5 (vBE g.units[j]!.Q (vBH g.us n p j))] = (vBH g.us n p (j + 1)).map vA5 := by rw [hfs, List.map_append]; rfl
    exact ⟨j + 1, ⟨by omega, by show g.units.length - (j + 1) < g.units.length - j; omega⟩, [1, _, _, 4], [], [], [], ttt, ⟨zAE rfl rfl, (apy rfl), zAF (by decide) rfl rfl, zAF (by decide) rfl rfl, zAF (by decide) rfl rfl, zAC rfl rfl, trivial⟩,
     ⟨bbx, zAD (by decide) rfl hz (zAZ _) rfl, zAD (by decide) rfl hps (zAZ _) rfl, zAD (by decide) rfl rfl (zAZ []) rfl, trivial⟩, by simp [ren]⟩
   all_goals (exfalso; omega)
  ·have ej : j = g.us.length := by omega
   have et : (vC4 g.us n p).take j = vC4 g.us n p := List.take_of_length_le (by omega);rw [ej] at hfl;rw [et, ej];have ep : g.us.length = (vC4 g.us n p).length := by omega
   (repeat' (first|refine stp ?_|with_reducible(refine brr ?_ ?_<;>intro h)));all_goals try(conv=>whnf)
   all_goals try (exfalso; omega)
   refine zAG hT (fun (i : Nat) => [(1, ints p), (2, .ptr 1 0 0), (8, .own 2 0 (n + g.us.length)), (9, .own 3 0 g.us.length), (10, .own 4 0 i), (14, .int .i64 i)]) (fun i => [(1, ⟨[vA8 g], 3, true⟩), (2, vDC (vBH g.us n p g.us.length)), (3, vDC (vC4 g.us n p)), (4, vDC ((vEF g n p).take i))]) [] 5
    (fun i => i ≤ g.outs.length) (fun i => g.outs.length - i) 0 (Nat.zero_le _) (by decide) (by simp) ?_ ?_
   ·exact ⟨[1, 2, 3, 4], [], [], [], ttt, ⟨zAE rfl rfl, apx, zAF (by decide) rfl rfl, zAF (by decide) rfl rfl, zAF (by decide) rfl rfl, zAC rfl rfl, trivial⟩,
     ⟨bbx, zAD (by decide) rfl rfl (zAZ _) rfl, zAD (by decide) rfl rfl (zAZ _) rfl, zAD (by decide) rfl rfl (zAZ []) rfl, trivial⟩, by simp [ren]⟩
   intro i i1;have hlen : ((vEF g n p).take i).length = i := by rw [List.length_take]; omega
   by_cases hi : i < g.outs.length
   ·have hvu := hv.2.2.2.2 i hi
    have hou := hg.2.2 _ (get_mem hi);have hoq := zCX hvu;rw [hin, show ((n : Int) + (g.units.length : Int)) = ((vBH g.us n p g.us.length).length : Nat) by omega] at hoq;obtain ⟨s1, s2⟩ := hs g.us.length (by omega);rw [← hfl] at s2;have ca := zNV g.outs[i]!.Q (vBH g.us n p g.us.length) n k κ s1 (by omega) (zB0 hou hk1) hoq (by rw [zF4]; exact hou.2.2) s2 (by omega);rw [zGM hvu, hfl] at ca;have hsn := zN0 (l := vEF g n p) (j := i) (by omega) (vMI hi)
    (repeat' (first|refine stp ?_|with_reducible(refine brr ?_ ?_<;>intro h)));all_goals try(conv=>whnf)
    all_goals try (exfalso; omega)
    refine zB5 (r := 2) ca rfl rfl rfl rfl (zA7 (zAZ _)) ?_;refine sts ?_
    exact ⟨i + 1, ⟨by omega, by show g.outs.length - (i + 1) < g.outs.length - i; omega⟩, [1, _, _, _], [], [], [], ttt, ⟨zAE rfl rfl, (apy rfl), zAF (by decide) rfl rfl, zAF (by decide) rfl rfl, zAF (by decide) rfl rfl, zAC rfl rfl, trivial⟩,
     ⟨bbx, zAD (by decide) rfl rfl (zAZ _) rfl, zAD (by decide) rfl rfl (zAZ _) rfl, zAD (by decide) rfl hsn (zAZ _) rfl, trivial⟩, by simp [ren]⟩
   ·have et2 : (vEF g n p).take i = vEF g n p := List.take_of_length_le (by omega)
    refine sus ?_;refine zAX ?_
    (repeat' (first|refine stu ?_|with_reducible(refine brr ?_ ?_<;>intro h)));all_goals try(conv=>whnf)
    all_goals try (exfalso; omega)
    refine vB7 [] [(8, .imm ((vBH g.us n p g.us.length).map vA5)), (9, .own 1 0 g.us.length), (10, .imm ((vEF g n p).map vA5))] [(1, vDC (vC4 g.us n p))] [] 2 (by decide) (by simp) trivial
     ⟨[3], [2, 4], [(8, .imm ((vBH g.us n p g.us.length).map vA5)), (10, .imm ((vEF g n p).map vA5))], [], ⟨⟨⟨_, rfl⟩, ⟨_, rfl⟩, trivial⟩, ⟨⟨6, _, zAH rfl rfl (by omega) zJL, rfl⟩, ⟨6, _, zAH rfl (by rw [et2]) (by omega) zJL, rfl⟩, trivial⟩, trivial⟩, ⟨zAE rfl rfl, zAF (by decide) rfl rfl, zAE rfl rfl, trivial⟩, ⟨zAD (by decide) rfl rfl (zAZ _) rfl, trivial⟩, by simp [ren]⟩ ?_
    refine sts ?_
    have ho : vEP (vDC (vC4 g.us n p)) (.tup [.imm ((vBH g.us n p g.us.length).map vA5), .own 0 0 (vC4 g.us n p).length, .imm ((vEF g n p).map vA5), .int .i64 0]) := by
     refine Or.inl ⟨fun c hc => ?_, ?_⟩
     ·simp only [vBJ, List.mem_cons, List.not_mem_nil, or_false] at hc
      rcases hc with rfl | rfl | rfl | rfl
      ·exact Or.inr rfl
      ·exact Or.inl (by simp)
      ·exact Or.inr rfl
      ·exact Or.inr rfl
     ·simp [vBJ]
    exact zFU (r := 1) (by rw [← ep]; rfl) rfl rfl rfl (vFE _) ho
theorem zM9 {v : QF} (hv : Srt v.ts) (c : Rat) : vBT v c = vA3 zeroQ v c := by
 have h1 := zDI c _ zeroQ.ts v.ts (Nat.le_refl _) zCD hv;obtain ⟨h3, h4, _⟩ := zHZ c hv;have e : vD2 c v.ts = mrg c zeroQ.ts v.ts := vE5 h3 h1.1 fun w => by rw [h1.2, h4]; simp only [zeroQ, cf]; grind
 unfold vA3 vBT;simp only [e, QF.mk.injEq, true_and];simp only [zeroQ]; grind
theorem vKJ : FO 60 Tryz.f60 [.tmp 4, .tmp 5, .tmp 6] 22 := mkO Tryz.func60 Tryz.ntmps60 Tryz.results60
theorem vPT (g : GraL) (p : List Int) (n k : Nat) (κ : Nat → Nat) (hg : vCE k g) (hk : k ≤ 950000000) (hk1 : 1 ≤ k) (hc : vWN g p) (hpl : p.length ≤ 1048576) (hin : g.ins = (n : Int)) (hs : szR g p n k κ) : Fn 60 [vA8 g, ints p] (.data (.tup [.imm ((vBH g.us n p g.us.length).map vA5), .imm ((vEF g n p).map vA5), .int .i64 0])) := by
 have ca := vNK g p n k κ hg hk hk1 hc hpl hin hs;refine zAN vA6 hT vKJ (by simp [vA8]) ?_;refine sts ?_;refine zBI ca rfl ?_;refine sts ?_;exact zAB rfl rfl
theorem vKD : FO 61 Tryz.f61 [.tmp 4, .tmp 5] 43 := mkO Tryz.func61 Tryz.ntmps61 Tryz.results61
theorem vPO (g : GraL) (p : List Int) (n k : Nat) (κ : Nat → Nat) (hg : vCE k g) (hk : k ≤ 950000000) (hk1 : 1 ≤ k) (hc : vWN g p) (hpl : p.length ≤ 1048576) (hin : g.ins = (n : Int)) (hs : szR g p n k κ) : Fn 61 [vA8 g, ints p] (.data (.tup [.imm ((uA5 g.us n p).map vA5), .int .i64 0])) := by
 have ca := vNK g p n k κ hg hk hk1 hc hpl hin hs;rw [vH5, zKL] at ca;obtain ⟨hv, hp, hd⟩ := hc;have co := zF2 (-1) (by decide);rw [show (((-1 : Int)) : Rat) = -1 by rfl] at co;have lu := zHU g;have l2 := hg.1.1;have hn2 : n ≤ 256 := by have := hv.1.2; omega
 have hnu := hv.2.1;refine zAN vA6 hT vKD (by simp [vA8]) ?_;refine sts ?_;refine zBI ca rfl ?_;refine sts ?_
 all_goals try (exfalso; omega)
 refine zAG hT (fun (i : Nat) => [(1, ints p), (7, .own 0 0 g.us.length), (10, .int .i64 i)]) (fun i => [(0, vDC (vEN g.us n p i))]) [] 1
  (fun i => i ≤ g.us.length) (fun i => g.us.length - i) 0 (Nat.zero_le _) (by decide) (by simp) ?_ ?_
 ·exact ⟨[_], [], [], [], ttt, ⟨zAE rfl rfl, zAF (by decide) rfl rfl, zAC rfl rfl, trivial⟩, ⟨zAD (by decide) rfl rfl (zAZ _) rfl, trivial⟩, by simp [ren]⟩
 intro i i1;have hil := zKL g.us n p i;by_cases hi : i < g.us.length
 ·have hvu := hv.2.2.2.1 i (by omega)
  have hou := hg.1.2 _ (get_mem (show i < g.units.length by omega));have hoq := zCX hvu;have hfl := zBX g.us n p i;rw [hin, show ((n : Int) + (i : Int)) = ((vBH g.us n p i).length : Nat) by omega] at hoq;obtain ⟨s1, s2⟩ := hs i (by omega);rw [← hfl] at s2;obtain ⟨b1, b2, b3⟩ := zG4 s1 (zB0 hou hk1) hoq;have cs := zG1 (vBE g.units[i]!.Q (vBH g.us n p i)) (-1) _ 1 b2 (zF6 (z := -1) (by decide)) (by omega) (by omega);rw [zM9 b1.1] at cs;have hgt := vMA (us := g.us) (n := n) (p := p) hi;rw [zEU (by omega)] at hgt
  (repeat' (first|refine stp ?_|with_reducible(refine brr ?_ ?_<;>intro h)));all_goals try(conv=>whnf)
  ·have hr : vJP g.us n p i = vA3 zeroQ (vBE g.units[i]!.Q (vBH g.us n p i)) (-1) := by unfold vJP; rw [if_pos (by assumption), zEU (by omega)]
   refine zAU i (Nat.zero_add _) (by omega) ?_;rw [hgt];refine sts ?_;refine zAA co rfl ?_;refine sts ?_;refine zAA cs rfl ?_;refine sts ?_;refine zAU i (Nat.zero_add _) (by omega) ?_;rw [hgt];refine sts ?_;exact ⟨i + 1, ⟨by omega, by show g.us.length - (i + 1) < g.us.length - i; omega⟩, [_], [], [], [], ttt, ⟨zAE rfl rfl, zAF (by decide) rfl rfl, zAC rfl rfl, trivial⟩, ⟨zAD (by decide) rfl (by rw [← vL9 hi, hr]; exact zBB (by omega) rfl) (zAZ _) rfl, trivial⟩, by simp [ren]⟩
  ·exact ⟨i + 1, ⟨by omega, by show g.us.length - (i + 1) < g.us.length - i; omega⟩, [_], [], [], [], ttt, ⟨zAE rfl rfl, zAF (by decide) rfl rfl, zAC rfl rfl, trivial⟩, ⟨zAD (by decide) rfl (congrArg (List.map vA5) (vH6 hi (by assumption))) (zAZ _) rfl, trivial⟩, by simp [ren]⟩
  all_goals (exfalso; omega)
 ·have ei : i = g.us.length := by omega
  (repeat' (first|refine stp ?_|with_reducible(refine brr ?_ ?_<;>intro h)));all_goals try(conv=>whnf)
  all_goals try (exfalso; omega)
  exact zAB (zE0 (zAP (zAH rfl rfl (by omega) zJL) rfl)) (by rw [ei]; rfl)
theorem vKF : FO 63 Tryz.f63 [.cell 4 37] 36 := mkO Tryz.func63 Tryz.ntmps63 Tryz.results63
theorem vPP (F : QF) (vars : List QF) (n k : Nat) (κ : Nat → Nat) (hv : vP5 n κ vars) (hn : n ≤ 1000) (hf : szF k F) (ho : okF vars.length F) (hfl : F.ts.length ≤ 1048576) (hS : k + vC8 (fun v => κ v + k + 1) 0 vars.length ≤ 100000) (hl : vars.length ≤ 1048576) : Fn 63 [vA5 F, .imm (vars.map vA5)] (.data (vA5 (vBE F vars))) := by
 refine zAN vA6 hT vKF (by simp [vA5]) ?_;refine sts ?_
 refine zAG hT (fun (i : Nat) => [(1, .imm (vars.map vA5)), (2, .ptr 0 0 0), (4, .ptr 1 0 0), (5, .ptr 2 0 0), (6, .int .i64 i)])
  (fun i => [(0, ⟨[vA5 F], 4, true⟩), (1, ⟨[.agg [.nilsl, .bool false, .nilsl, .nilsl]], 4, true⟩), (2, ⟨[vA5 (vEJ F vars i)], 4, true⟩)]) [] 3
  (fun i => i ≤ F.ts.length) (fun i => F.ts.length - i) 0 (Nat.zero_le _) (by decide) (by simp) ?_ ?_
 ·exact ⟨[_, _, _], [], [], [(5, [vA5 ⟨[], F.c⟩])], ⟨trivial, trivial, ⟨⟨_, 6, _, rfl, rfl, rfl⟩, trivial⟩⟩, ⟨zAE rfl rfl, (apy rfl), (apy rfl), (apy rfl), zAC rfl rfl, trivial⟩,
   ⟨bbx, bbx, bbx, trivial⟩, by simp [ren]⟩
 intro i i1;obtain ⟨a1, a2, a3⟩ := zMU hv hf ho i (by omega);by_cases hi : i < F.ts.length
 ·have hmem : F.ts[i]! ∈ F.ts := get_mem hi
  have hvi := ho.2 _ hmem;have hvi2 : 0 ≤ (tQ F.ts[i]!).var ∧ (tQ F.ts[i]!).var < vars.length := hvi;have hj : F.ts[i]!.1.toNat < vars.length := by omega
  obtain ⟨v1, v2, v3⟩ := hv _ hj;have hk1 : κ F.ts[i]!.1.toNat + k + 1 ≤ vC8 (fun v => κ v + k + 1) 0 vars.length := zLP (fun v => κ v + k + 1) hj;have cs := zG1 vars[F.ts[i]!.1.toNat]! F.ts[i]!.2 (κ F.ts[i]!.1.toNat) k v2 (hf.2 _ hmem) (by omega) (by omega);have sm := zLD v2 (hf.2 _ hmem);have sl : (vBT vars[F.ts[i]!.1.toNat]! F.ts[i]!.2).ts.length ≤ n := Nat.le_trans zKI v3;have hmul : ((vBT vars[F.ts[i]!.1.toNat]! F.ts[i]!.2).ts.length + 1) * (κ F.ts[i]!.1.toNat + k + 1) ≤ 1001 * 100000 := Nat.mul_le_mul (by omega) (by omega);have ca := vVJ (vEJ F vars i) (vBT vars[F.ts[i]!.1.toNat]! F.ts[i]!.2) _ _ a2 sm (by omega) (by omega);rw [zFN a1.1 v1.1, ← zFM hi] at ca
  (repeat' (first|refine stp ?_|with_reducible(refine brr ?_ ?_<;>intro h)));all_goals try(conv=>whnf)
  all_goals try (exfalso; omega)
  refine zA4 (j := F.ts[i]!.1.toNat) (show F.ts[i]!.1 = _ by omega) hj ?_;refine sts ?_;refine zAA cs rfl ?_;refine sts ?_;refine zAA ca rfl ?_;refine sts ?_
  exact ⟨i + 1, ⟨by omega, by show F.ts.length - (i + 1) < F.ts.length - i; omega⟩, [0, 1, 2], [], [], [], ttt, ⟨zAE rfl rfl, apx, apx, apx, zAC rfl rfl, trivial⟩,
   ⟨bbx, bbx, bbx, trivial⟩, by simp [ren]⟩
 ·have e : i = F.ts.length := by omega
  (repeat' (first|refine stp ?_|with_reducible(refine brr ?_ ?_<;>intro h)));all_goals try(conv=>whnf)
  all_goals try (exfalso; omega)
  subst e;rw [zG5];exact zAB rfl rfl
end Go.PI.Tryz
