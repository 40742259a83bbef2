/-
  Regions: Ball and Clip of the program.
-/
import Derived.Test.YtdgckinmcnjheaaGreatCLB
import Derived.Test.YtdgckinmcnjheaaGreatCRC
import Derived.Test.YtdgckinmcnjheaaGreatCPD
import Derived.Test.YtdgckinmcnjheaaGreatCPE
set_option linter.unusedVariables false
set_option linter.unusedSimpArgs false
set_option linter.unnecessarySimpa false
namespace Go.PI.Tryz
open Go.Proofs Go.PI
theorem vZ7 (f : QF) (x : List RatL) (k kx : Nat) (hf : szF k f) (hkx : 1 ≤ kx) (hx : ∀ q ∈ x, okQ kx q) (hv : ∀ p ∈ f.ts, 0 ≤ p.1 ∧ p.1 < x.length) (hk : k + f.ts.length * (k + kx + 1) + k + kx ≤ 949999990) (hl : f.ts.length ≤ 1048576) (hxl : x.length ≤ 1048576) : Fn 82 [vA5 f, .imm (x.map vAZ)] (.data (.tup [vAZ (cr (evQ f (x.map qv))), .int .i64 0])) := by
 refine zAN vA6 hT vFY (by simp [vA5]) ?_;refine sts ?_
 refine zAG hT (fun ((i, y) : Nat × Rat) => [(1, .imm (x.map vAZ)), (4, .ptr 0 0 0), (6, .ptr 1 0 0), (12, .imm (f.ts.map vDA)), (13, .int .i64 f.ts.length), (14, .int .i64 i)])
  (fun (_, y) => [(0, ⟨[.agg [.bool false, .nilsl, .nilsl]], 3, true⟩), (1, ⟨[vAZ (cr y)], 3, true⟩)]) [] 2
  (fun (i, y) => i ≤ f.ts.length ∧ y = ev1 (x.map qv) (f.ts.take i) f.c ∧ sz (k + i * (k + kx + 1)) y) (fun (i, _) => f.ts.length - i) (0, f.c) ⟨Nat.zero_le _, rfl, by simpa using hf.1⟩ (by decide) (by simp) ?_ ?_
 ·exact ⟨[_, _], [], [], [], ttt, ⟨zAE rfl rfl, (apy rfl), (apy rfl), zAE rfl rfl, zAC rfl (by simp), zAC rfl rfl, trivial⟩,
   ⟨bbx, bbx, trivial⟩, by simp [ren]⟩
 intro ⟨i, y⟩ ⟨i1, i2, i3⟩;by_cases hi : i < f.ts.length
 ·have hmem : f.ts[i]! ∈ f.ts := by rw [getElem!_pos f.ts i hi]; exact List.getElem_mem hi
  have hvi := hv _ hmem;have hp := hf.2 _ hmem;have hj : f.ts[i]!.1.toNat < x.length := by omega
  have hxm : x[f.ts[i]!.1.toNat]! ∈ x := by rw [getElem!_pos x _ hj]; exact List.getElem_mem hj
  have hxo := hx _ hxm;have hxi := zES hxo.1 hxo.2.1 hxo.2.2 hkx;have hxg : (x.map qv)[f.ts[i]!.1.toNat]! = qv x[f.ts[i]!.1.toNat]! := zL2 hj;have hm := zB6 hp hxi;have hmul : (i + 1) * (k + kx + 1) ≤ f.ts.length * (k + kx + 1) := Nat.mul_le_mul_right _ (by omega);rw [Nat.add_mul] at hmul;have l1 := zAL hp;have l2 := hxo.2;have l3 := zAL hm;have l4 := zAL i3;have cm := zF3 (cr f.ts[i]!.2) x[f.ts[i]!.1.toNat]! (zAI _) hxo.1 (by omega) (by omega) (by omega) (by omega);rw [zAQ] at cm;have ca := zGP (cr y) (cr (f.ts[i]!.2 * qv x[f.ts[i]!.1.toNat]!)) (zAI _) (zAI _) (by omega) (by omega) (by omega) (by omega);rw [zAQ, zAQ] at ca;have hsz := zBE (show k + i * (k + kx + 1) + (k + kx) + 1 ≤ k + (i + 1) * (k + kx + 1) by rw [Nat.add_mul]; omega) (zBY i3 hm);have hy : ev1 (x.map qv) (f.ts.take (i + 1)) f.c = y + f.ts[i]!.2 * qv x[f.ts[i]!.1.toNat]! := by rw [zGZ (x.map qv) f.ts f.c i hi, i2, hxg]
  (repeat' (first|refine stp ?_|with_reducible(refine brr ?_ ?_<;>intro h)));all_goals try(conv=>whnf)
  ·exact absurd h (show ¬ f.ts[i]!.1 < 0 by omega)
  ·exact absurd h (show ¬ f.ts[i]!.1 ≥ (x.length : Int) by omega)
  ·refine zA4 (j := f.ts[i]!.1.toNat) (show f.ts[i]!.1 = _ by omega) hj ?_
   refine sts ?_;refine zAA cm rfl ?_;refine sts ?_;refine zAA ca rfl ?_;refine sts ?_
   exact ⟨(i + 1, y + f.ts[i]!.2 * qv x[f.ts[i]!.1.toNat]!), ⟨⟨by omega, hy.symm, hsz⟩, by show f.ts.length - (i + 1) < f.ts.length - i; omega⟩, [0, 1], [], [], [], ttt, ⟨zAE rfl rfl, apx, apx, zAE rfl rfl, zAC rfl rfl, zAC rfl (by omega), trivial⟩,
    ⟨bbx, bbx, trivial⟩, by simp [ren]⟩
  ·exact absurd (show (i : Int) < f.ts.length by omega) h
 ·have hmul : i * (k + kx + 1) ≤ f.ts.length * (k + kx + 1) := Nat.mul_le_mul_right _ (by omega)
  have e : y = evQ f (x.map qv) := by rw [i2, List.take_of_length_le (by omega)]; rfl
  have l4 := zAL i3;have cc := zCP (cr y) (zAI _) (by omega) (by omega);rw [zAQ] at cc
  (repeat' (first|refine stp ?_|with_reducible(refine brr ?_ ?_<;>intro h)));all_goals try(conv=>whnf)
  all_goals try (exfalso; omega)
  refine zAA cc rfl ?_;refine sts ?_;subst e;exact zAB rfl rfl
theorem vVH (f : QF) (x : List RatL) (k kx : Nat) (hf : szF k f) (hkx : 1 ≤ kx) (hx : ∀ q ∈ x, okQ kx q) (hv : ∀ p ∈ f.ts, 0 ≤ p.1 ∧ p.1 < x.length) (hk : k + f.ts.length * (k + kx + 1) + k + kx ≤ 949999990) (hl : f.ts.length ≤ 1048576) (hxl : x.length ≤ 1048576) : Fn 24 [vA5 f, .imm (x.map vAZ)] (.data (.tup [vAZ (cr (evQ f (x.map qv))), .int .i64 0])) := by
 refine zAN vA6 hT zLU (by simp [vA5]) ?_;refine sts ?_
 refine zAG hT (fun ((i, y) : Nat × Rat) => [(1, .imm (x.map vAZ)), (2, .ptr 2 0 0), (4, .ptr 0 0 0), (6, .ptr 1 0 0), (7, .int .i64 i)])
  (fun (_, y) => [(0, ⟨[.agg [.bool false, .nilsl, .nilsl]], 3, true⟩), (1, ⟨[vAZ (cr y)], 3, true⟩), (2, ⟨[vA5 f], 4, true⟩)]) [] 3
  (fun (i, y) => i ≤ f.ts.length ∧ y = ev1 (x.map qv) (f.ts.take i) f.c ∧ sz (k + i * (k + kx + 1)) y) (fun (i, _) => f.ts.length - i) (0, f.c) ⟨Nat.zero_le _, rfl, by simpa using hf.1⟩ (by decide) (by simp) ?_ ?_
 ·exact ⟨[_, _, _], [], [], [], ttt, ⟨zAE rfl rfl, (apy rfl), (apy rfl), (apy rfl), zAC rfl rfl, trivial⟩,
   ⟨bbx, bbx, bbx, trivial⟩, by simp [ren]⟩
 intro ⟨i, y⟩ ⟨i1, i2, i3⟩;by_cases hi : i < f.ts.length
 ·have hmem : f.ts[i]! ∈ f.ts := by rw [getElem!_pos f.ts i hi]; exact List.getElem_mem hi
  have hvi := hv _ hmem;have hp := hf.2 _ hmem;have hj : f.ts[i]!.1.toNat < x.length := by omega
  have hxm : x[f.ts[i]!.1.toNat]! ∈ x := by rw [getElem!_pos x _ hj]; exact List.getElem_mem hj
  have hxo := hx _ hxm;have hxi := zES hxo.1 hxo.2.1 hxo.2.2 hkx;have hxg : (x.map qv)[f.ts[i]!.1.toNat]! = qv x[f.ts[i]!.1.toNat]! := zL2 hj;have hm := zB6 hp hxi;have hmul : (i + 1) * (k + kx + 1) ≤ f.ts.length * (k + kx + 1) := Nat.mul_le_mul_right _ (by omega);rw [Nat.add_mul] at hmul;have l1 := zAL hp;have l2 := hxo.2;have l3 := zAL hm;have l4 := zAL i3;have cm := zJP (cr f.ts[i]!.2) x[f.ts[i]!.1.toNat]! (zAI _) hxo.1 (by omega) (by omega) (by omega) (by omega);rw [zAQ] at cm;have ca := zD5 (cr y) (cr (f.ts[i]!.2 * qv x[f.ts[i]!.1.toNat]!)) (zAI _) (zAI _) (by omega) (by omega) (by omega) (by omega);rw [zAQ, zAQ] at ca;have hsz := zBE (show k + i * (k + kx + 1) + (k + kx) + 1 ≤ k + (i + 1) * (k + kx + 1) by rw [Nat.add_mul]; omega) (zBY i3 hm);have hy : ev1 (x.map qv) (f.ts.take (i + 1)) f.c = y + f.ts[i]!.2 * qv x[f.ts[i]!.1.toNat]! := by rw [zGZ (x.map qv) f.ts f.c i hi, i2, hxg]
  (repeat' (first|refine stp ?_|with_reducible(refine brr ?_ ?_<;>intro h)));all_goals try(conv=>whnf)
  ·exact absurd h (show ¬ f.ts[i]!.1 < 0 by omega)
  ·exact absurd h (show ¬ f.ts[i]!.1 ≥ (x.length : Int) by omega)
  ·refine zA4 (j := f.ts[i]!.1.toNat) (show f.ts[i]!.1 = _ by omega) hj ?_
   refine sts ?_;refine zAA cm rfl ?_;refine sts ?_;refine zAA ca rfl ?_;refine sts ?_
   exact ⟨(i + 1, y + f.ts[i]!.2 * qv x[f.ts[i]!.1.toNat]!), ⟨⟨by omega, hy.symm, hsz⟩, by show f.ts.length - (i + 1) < f.ts.length - i; omega⟩, [0, 1, 2], [], [], [], ttt, ⟨zAE rfl rfl, apx, apx, apx, zAC rfl (by omega), trivial⟩,
    ⟨bbx, bbx, bbx, trivial⟩, by simp [ren]⟩
  ·exact absurd (show (i : Int) < f.ts.length by omega) h
 ·have hmul : i * (k + kx + 1) ≤ f.ts.length * (k + kx + 1) := Nat.mul_le_mul_right _ (by omega)
  have e : y = evQ f (x.map qv) := by rw [i2, List.take_of_length_le (by omega)]; rfl
  (repeat' (first|refine stp ?_|with_reducible(refine brr ?_ ?_<;>intro h)));all_goals try(conv=>whnf)
  all_goals try (exfalso; omega)
  subst e;exact zAB rfl rfl
theorem uDK : FO 90 Tryz.f90 [.cell 4 35] 13 := mkO Tryz.func90 Tryz.ntmps90 Tryz.results90
theorem vVN (x y : RatL) (k : Nat) (hx : okQ k x) (hy : okQ k y) (hk : k ≤ 949999990) : Fn 90 [vAZ x, vAZ y] (.data (vAZ (cr (vC5 (qv x) (qv y))))) := by
 have hx2 := hx.2;have hy2 := hy.2;have cc := zHC x y hx.1 hy.1 (by omega) (by omega) (by omega) (by omega);have c1 := zCP x hx.1 (by omega) (by omega);have c2 := zCP y hy.1 (by omega) (by omega);have hs := sgn_ge (a := qv x) (b := qv y);refine zAN vA6 hT uDK (by simp [vAZ]) ?_;refine sts ?_;refine zAA cc rfl ?_
 (repeat' (first|refine stp ?_|with_reducible(refine brr ?_ ?_<;>intro h)));all_goals try(conv=>whnf)
 ·refine zAA c1 rfl ?_
  refine sts ?_;rw [show vC5 (qv x) (qv y) = qv x from if_pos (hs.1 (by omega))];exact zAB rfl rfl
 ·refine zAA c2 rfl ?_
  refine sts ?_;rw [show vC5 (qv x) (qv y) = qv y from if_neg (fun e => by have := hs.2 e; omega)];exact zAB rfl rfl
theorem uDJ : FO 91 Tryz.f91 [.cell 4 35] 13 := mkO Tryz.func91 Tryz.ntmps91 Tryz.results91
theorem uIG (x y : RatL) (k : Nat) (hx : okQ k x) (hy : okQ k y) (hk : k ≤ 949999990) : Fn 91 [vAZ x, vAZ y] (.data (vAZ (cr (vP6 (qv x) (qv y))))) := by
 have hx2 := hx.2;have hy2 := hy.2;have cc := zHC x y hx.1 hy.1 (by omega) (by omega) (by omega) (by omega);have c1 := zCP x hx.1 (by omega) (by omega);have c2 := zCP y hy.1 (by omega) (by omega);have hs := sgn_le (a := qv x) (b := qv y);refine zAN vA6 hT uDJ (by simp [vAZ]) ?_;refine sts ?_;refine zAA cc rfl ?_
 (repeat' (first|refine stp ?_|with_reducible(refine brr ?_ ?_<;>intro h)));all_goals try(conv=>whnf)
 ·refine zAA c1 rfl ?_
  refine sts ?_;rw [show vP6 (qv x) (qv y) = qv x from if_pos (hs.1 (by omega))];exact zAB rfl rfl
 ·refine zAA c2 rfl ?_
  refine sts ?_;rw [show vP6 (qv x) (qv y) = qv y from if_neg (fun e => by have := hs.2 e; omega)];exact zAB rfl rfl
theorem vXW : FO 58 Tryz.f58 [.cell 4 35] 13 := mkO Tryz.func58 Tryz.ntmps58 Tryz.results58
theorem uFC (x y : RatL) (k : Nat) (hx : okQ k x) (hy : okQ k y) (hk : k ≤ 949999990) : Fn 58 [vAZ x, vAZ y] (.data (vAZ (cr (vC5 (qv x) (qv y))))) := by
 have hx2 := hx.2;have hy2 := hy.2;have cc := zEP x y hx.1 hy.1 (by omega) (by omega) (by omega) (by omega);have c1 := zFJ x hx.1 (by omega) (by omega);have c2 := zFJ y hy.1 (by omega) (by omega);have hs := sgn_ge (a := qv x) (b := qv y);refine zAN vA6 hT vXW (by simp [vAZ]) ?_;refine sts ?_;refine zAA cc rfl ?_
 (repeat' (first|refine stp ?_|with_reducible(refine brr ?_ ?_<;>intro h)));all_goals try(conv=>whnf)
 ·refine zAA c1 rfl ?_
  refine sts ?_;rw [show vC5 (qv x) (qv y) = qv x from if_pos (hs.1 (by omega))];exact zAB rfl rfl
 ·refine zAA c2 rfl ?_
  refine sts ?_;rw [show vC5 (qv x) (qv y) = qv y from if_neg (fun e => by have := hs.2 e; omega)];exact zAB rfl rfl
theorem zA2 {j n : Nat} {p : Nat → Prop} (h : ∀ j, j < n → p j) (hn : p n) (hj : j < n + 1) : p j := by
 rcases Nat.lt_or_eq_of_le (Nat.le_of_lt_succ hj) with hj | rfl
 ·exact h j hj
 ·exact hn
theorem get_mem {α : Type} [Inhabited α] {l : List α} {i : Nat} (h : i < l.length) : l[i]! ∈ l := by rw [getElem!_pos l i h]; exact List.getElem_mem h
instance : LawfulBEq AffL := inferInstance
def uE4 (l : List RatL) : Prop := ∀ i, i < l.length → l[i]! = cr (qv l[i]!)
theorem vKC : FO 161 Tryz.f161 [.tmp 2] 16 := mkO Tryz.func161 Tryz.ntmps161 Tryz.results161
theorem zNU (l : List RatL) (hl : vPB 2147483596 l) : Fn 161 [.imm (l.map vAZ)] (.data (.bool (dB (uE4 l)))) := by
 have l1 := hl.1;refine zAN vA6 hT vKC (by simp) ?_;refine sts ?_;refine zA6 hT (fun n : Nat => [(0, .imm (l.map vAZ)), (3, .int .i64 n)]) (fun n => n ≤ l.length ∧ ∀ j, j < n → l[j]! = cr (qv l[j]!)) (fun n => l.length - n) 0 ⟨by omega, fun j hj => by omega⟩ ?_ ?_
 ·exact ⟨zAE rfl rfl, zAC rfl rfl, trivial⟩
 intro n ⟨hn, he⟩;by_cases hi : n < l.length
 ·have q1 := zBG hl hi
  have cc := zML l[n]! q1.1 (by have := q1.2; omega) (by have := q1.2; omega)
  (repeat' (first|refine stp ?_|with_reducible(refine brr ?_ ?_<;>intro h)));all_goals try(conv=>whnf)
  ·refine zAA cc rfl ?_
   (repeat' (first|refine stp ?_|with_reducible(refine brr ?_ ?_<;>intro h)));all_goals try(conv=>whnf)
   ·exact ⟨n + 1, ⟨⟨by omega, fun j hj => zA2 (p := fun j => l[j]! = cr (qv l[j]!)) he (by assumption) hj⟩, by omega⟩, zAE rfl rfl, zAC rfl (by omega), trivial⟩
   ·exact zAB rfl (congrArg PV.bool (zIJ fun e => h (e n hi)))
  all_goals (exfalso; omega)
 ·(repeat' (first|refine stp ?_|with_reducible(refine brr ?_ ?_<;>intro h)));all_goals try(conv=>whnf)
  all_goals try (exfalso; omega)
  exact zAB rfl (congrArg PV.bool (zME fun j hj => he j (by omega)))
def vQH (l : List AffL) (n : Int) : Prop := ∀ i, i < l.length → vBO l[i]! n
theorem vFX : FO 117 Tryz.f117 [.tmp 4] 19 := mkO Tryz.func117 Tryz.ntmps117 Tryz.results117
theorem zKC (l : List AffL) (m : Int) (hl : uI2 2147483596 l) : Fn 117 [.imm (l.map vBD), .int .i64 m] (.data (.bool (dB (vQH l m)))) := by
 have l1 := hl.1;refine zAN vA6 hT vFX (by simp) ?_;refine sts ?_;refine zA6 hT (fun n : Nat => [(0, .imm (l.map vBD)), (1, .int .i64 m), (5, .int .i64 n)]) (fun n => n ≤ l.length ∧ ∀ j, j < n → vBO l[j]! m) (fun n => l.length - n) 0 ⟨by omega, fun j hj => by omega⟩ ?_ ?_
 ·exact ⟨zAE rfl rfl, zAC rfl rfl, zAC rfl rfl, trivial⟩
 intro n ⟨hn, he⟩;by_cases hi : n < l.length
 ·have cc := zMO l[n]! m (hl.2 _ (get_mem hi))
  (repeat' (first|refine stp ?_|with_reducible(refine brr ?_ ?_<;>intro h)));all_goals try(conv=>whnf)
  ·refine zAA cc rfl ?_
   (repeat' (first|refine stp ?_|with_reducible(refine brr ?_ ?_<;>intro h)));all_goals try(conv=>whnf)
   ·exact ⟨n + 1, ⟨⟨by omega, fun j hj => zA2 (p := fun j => vBO l[j]! m) he (validB_true.1 (by assumption)) hj⟩, by omega⟩, zAE rfl rfl, zAC rfl rfl, zAC rfl (by omega), trivial⟩
   ·exact zAB rfl (congrArg PV.bool (zIJ fun e => by have := validB_true.2 (e n hi); simp_all))
  all_goals (exfalso; omega)
 ·(repeat' (first|refine stp ?_|with_reducible(refine brr ?_ ?_<;>intro h)));all_goals try(conv=>whnf)
  all_goals try (exfalso; omega)
  exact zAB rfl (congrArg PV.bool (zME fun j hj => he j (by omega)))
def ixP (p : AffL → Bool) (l : List AffL) : Int := if l.any p then (l.findIdx p : Nat) else -1
theorem uHS {p : AffL → Bool} {l : List AffL} {i : Nat} (hi : i < l.length) (h : p l[i]! = true) (hb : ∀ j, j < i → p l[j]! = false) : (i : Int) = ixP p l := by
 have h1 : l.any p = true := List.any_eq_true.2 ⟨_, get_mem hi, h⟩;have h2 : l.findIdx p = i := (List.findIdx_eq hi).2 ⟨by rw [getElem!_pos l i hi] at h; exact h, fun j hj => by have := hb j hj; rw [getElem!_pos l j (by omega)] at this; exact this⟩;unfold ixP; rw [if_pos h1, h2]
theorem uHT {p : AffL → Bool} {l : List AffL} (hb : ∀ j, j < l.length → p l[j]! = false) : -1 = ixP p l := by
 have h1 : ¬ l.any p = true := fun e => by
  obtain ⟨x, hx, e⟩ := List.any_eq_true.1 e;obtain ⟨j, hj, rfl⟩ := List.getElem_of_mem hx;have := hb j hj;rw [getElem!_pos l j hj, e] at this; cases this
 unfold ixP; rw [if_neg h1]
theorem uJS {p : AffL → Bool} {l : List AffL} : decide (ixP p l ≥ 0) = l.any p := by
 unfold ixP; split
 ·rename_i h; rw [h]; simp
 ·rename_i h; simp at h; simp; exact h
theorem uHU {p : AffL → Bool} {l : List AffL} : -1 ≤ ixP p l ∧ ixP p l ≤ l.length := by
 unfold ixP; split
 ·have := List.findIdx_le_length (p := p) (xs := l); omega
 ·omega
theorem vSX : FO 175 Tryz.f175 [.tmp 4] 19 := mkO Tryz.func175 Tryz.ntmps175 Tryz.results175
theorem uAA (l : List AffL) (p : AffL → Bool) (g : FuncId) (c : PV) (hl : l.length ≤ 1048576) (hp : ∀ f ∈ l, Fn g [vBD f, .cptr c 0] (.data (.bool (p f)))) : Fn 175 [.imm (l.map vBD), .func (.func g) [] [.cptr c 0]] (.data (.int .i64 (ixP p l))) := by
 refine zAN vA6 hT vSX (by simp) ?_;refine sts ?_;refine zA6 hT (fun n : Nat => [(0, .imm (l.map vBD)), (1, .func (.func g) [] [.cptr c 0]), (7, .int .i64 l.length), (8, .int .i64 n)]) (fun n => n ≤ l.length ∧ ∀ j, j < n → p l[j]! = false) (fun n => l.length - n) 0 ⟨by omega, fun j hj => by omega⟩ ?_ ?_
 ·exact ⟨zAE rfl rfl, vNW rfl, zAC rfl (by simp), zAC rfl rfl, trivial⟩
 intro n ⟨hn, he⟩;by_cases hi : n < l.length
 ·have cc := hp l[n]! (get_mem hi)
  (repeat' (first|refine stp ?_|with_reducible(refine brr ?_ ?_<;>intro h)));all_goals try(conv=>whnf)
  ·refine zAA cc rfl ?_
   (repeat' (first|refine stp ?_|with_reducible(refine brr ?_ ?_<;>intro h)));all_goals try(conv=>whnf)
   ·exact zAB rfl (congrArg (PV.int .i64) (uHS hi h he))
   ·exact ⟨n + 1, ⟨⟨by omega, fun j hj => zA2 (p := fun j => p l[j]! = false) he (by simpa using h) hj⟩, by omega⟩, zAE rfl rfl, vNW rfl, zAC rfl rfl, zAC rfl (by omega), trivial⟩
  all_goals (exfalso; omega)
 ·(repeat' (first|refine stp ?_|with_reducible(refine brr ?_ ?_<;>intro h)));all_goals try(conv=>whnf)
  all_goals try (exfalso; omega)
  exact zAB rfl (congrArg (PV.int .i64) (uHT fun j hj => he j (by omega)))
theorem vIE : FO 135 Tryz.f135 [.tmp 4] 9 := mkO Tryz.func135 Tryz.ntmps135 Tryz.results135
theorem zHS (l : List AffL) (p : AffL → Bool) (g : FuncId) (c : PV) (hl : l.length ≤ 1048576) (hp : ∀ f ∈ l, Fn g [vBD f, .cptr c 0] (.data (.bool (p f)))) : Fn 135 [.imm (l.map vBD), .func (.func g) [] [.cptr c 0]] (.data (.bool (l.any p))) := by
 have cc := uAA l p g c hl hp;have hg := uHU (p := p) (l := l);refine zAN vA6 hT vIE (by simp) ?_;refine sts ?_;refine zAA cc rfl ?_;refine sts ?_;exact zAB rfl (congrArg PV.bool uJS)
theorem zHX {ys : List Rat} {i : Nat} (h : i < ys.length) : (ys.take i).map vBF ++ [vAZ (cr ys[i]!)] = (ys.take (i + 1)).map vBF := by
 rw [List.take_succ_eq_append_getElem h, List.map_append, getElem!_pos ys i h]; rfl
theorem uD3 : FO 109 Tryz.f109 [.tmp 4] 20 := mkO Tryz.func109 Tryz.ntmps109 Tryz.results109
theorem vV1 (ys : List Rat) (g : FuncId) (c d : PV) (k : Nat) (hk : k ≤ 2147483596) (hl : ys.length ≤ 1048576) (hp : ∀ i, i < ys.length → ∃ x, okQ k x ∧ qv x = ys[i]! ∧ Fn g [.int .i64 i, .cptr c 0, .cptr d 0] (.data (vAZ x))) : Fn 109 [.int .i64 ys.length, .func (.func g) [] [.cptr c 0, .cptr d 0]] (.data (.imm (ys.map vBF))) := by
 refine zAN vA6 hT uD3 (by simp) ?_;refine sts ?_
 refine zBP hT [(.sl 5, 3, true)] (fun (i : Nat) => [(1, .func (.func g) [] [.cptr c 0, .cptr d 0]), (5, .own 0 0 i), (7, .int .i64 ys.length), (8, .int .i64 i)]) (fun i => [(0, ⟨(ys.take i).map vBF, 3, true⟩)]) [] 1
  (fun i => i ≤ ys.length) (fun i => ys.length - i) 0 (Nat.zero_le _) (by decide) (by simp) ⟨rfl, trivial⟩ ?_ ?_
 ·exact ⟨[_], [], [], [], ttt, ⟨vNV rfl, zAF (by decide) rfl rfl, zAC rfl rfl, zAC rfl rfl, trivial⟩, ⟨zAD (by decide) rfl rfl (zAW fun _ => ⟨rfl, by simp [vBF, vAZ]⟩) rfl, trivial⟩, by simp [ren]⟩
 intro i i1;have hlen : (ys.take i).length = i := by rw [List.length_take]; omega
 by_cases hi : i < ys.length
 ·obtain ⟨x, hx, hv, hc⟩ := hp i hi
  have cc := zCP x hx.1 (by have := hx.2; omega) (by have := hx.2; omega);rw [hv] at cc
  (repeat' (first|refine stp ?_|with_reducible(refine brr ?_ ?_<;>intro h)));all_goals try(conv=>whnf)
  ·refine zAA hc rfl ?_
   refine sts ?_;refine zAA cc rfl ?_;refine sts ?_;exact ⟨i + 1, ⟨by omega, by show ys.length - (i + 1) < ys.length - i; omega⟩, [_], [], [], [], ttt, ⟨vNV rfl, zAF (by decide) rfl rfl, zAC rfl rfl, zAC rfl rfl, trivial⟩, ⟨zAD (by decide) rfl (zHX hi) (zAW fun _ => ⟨rfl, by simp [vBF, vAZ]⟩) rfl, trivial⟩, by simp [ren]⟩
  all_goals (exfalso; omega)
 ·(repeat' (first|refine stp ?_|with_reducible(refine brr ?_ ?_<;>intro h)));all_goals try(conv=>whnf)
  all_goals try (exfalso; omega)
  exact zAB (zAH rfl rfl (by omega) fun q => zD4 (cr q)) (by rw [List.take_of_length_le (by omega)])
theorem uDC : FO 136 Tryz.f136 [.tmp 3] 8 := mkO Tryz.func136 Tryz.ntmps136 Tryz.results136
theorem uIE (f : AffL) (n : Int) (hf : okA 2147483596 f) : Fn 136 [vBD f, .cptr (.int .i64 n) 0] (.data (.bool (!vCB f n))) := by
 have cc := zK0 f n hf;refine zAN vA6 hT uDC (by simp) ?_;refine sts ?_;refine zAA cc rfl ?_;refine sts ?_;exact zAB rfl rfl
theorem vOZ : FO 78 Tryz.f78 [.tmp 4] 69 := mkO Tryz.func78 Tryz.ntmps78 Tryz.results78
theorem vJF (r : RegL) (n : Int) (hr : vCZ 950000000 r) : Fn 78 [vBG r, .int .i64 n] (.data (.bool (dB (VaR r n)))) := by
 obtain ⟨hlo, hhi, hrw, hrl⟩ := hr;have no : ¬ VaR r n → false = dB (VaR r n) := zIJ;have l1 := hlo.1;have l2 := hhi.1;have cc := zHS r.rows (fun f => !vCB f n) 136 (.int .i64 n) hrl (fun f hf => uIE f n (zBZ (by decide) (hrw f hf)));refine zAN vA6 hT vOZ (by simp [vBG]) ?_
 (repeat' (first|refine stp ?_|with_reducible(refine brr ?_ ?_<;>intro h)));all_goals try(conv=>whnf)
 ·exact zAB rfl (congrArg PV.bool (no fun e => by have := e.1.1; omega))
 ·exact zAB rfl (congrArg PV.bool (no fun e => by have := e.1.2; omega))
 ·exact zAB rfl (congrArg PV.bool (no fun e => by have := e.2.1; omega))
 ·exact zAB rfl (congrArg PV.bool (no fun e => by have := e.2.2.1; omega))
 ·exact zAB rfl (congrArg PV.bool (no fun e => by have := e.2.2.2.1; omega))
 ·have h0 : (1 ≤ n ∧ n ≤ 256) ∧ (r.lo.length : Int) = n ∧ (r.hi.length : Int) = n ∧ r.rows.length ≤ 256 := ⟨⟨by omega, by omega⟩, by omega, by omega, by omega⟩
  obtain ⟨h1, h2, h3, h4⟩ := h0
  refine zAG hT (fun (i : Nat) => [(2, .ptr 0 0 0), (3, .ptr 1 0 0), (34, .imm (r.lo.map vAZ)), (35, .int .i64 r.lo.length), (36, .int .i64 i)]) (fun _ => [(0, ⟨[vBG r], 3, true⟩), (1, ⟨[.int .i64 n], 1, false⟩)]) [] 2
   (fun i => i ≤ r.lo.length ∧ ∀ j, j < i → uD4 r j) (fun i => r.lo.length - i) 0 ⟨Nat.zero_le _, fun j h => (by omega)⟩ (by decide) (by simp) ?_ ?_
  ·exact ⟨[0, 1], [], [], [], ttt, ⟨apx, apx, zAE rfl rfl, zAC rfl (by simp), zAC rfl rfl, trivial⟩, ⟨bbx, bbx, trivial⟩, by simp [ren]⟩
  intro i ⟨i1, i2⟩;by_cases hi : i < r.lo.length
  ·have hi2 : i < r.hi.length := by omega
   have q1 := zBG hlo hi;have q2 := zBG hhi hi2;have c1 := zKZ r.lo[i]! q1.1 (by have := q1.2; omega) (by have := q1.2; omega);have c2 := zKZ r.hi[i]! q2.1 (by have := q2.2; omega) (by have := q2.2; omega);have c3 := zHC r.lo[i]! r.hi[i]! q1.1 q2.1 (by have := q1.2; omega) (by have := q1.2; omega) (by have := q2.2; omega) (by have := q2.2; omega);have hb : ¬ uD4 r i → ¬ VaR r n := fun h e => h (e.2.2.2.2.1 i hi)
   (repeat' (first|refine stp ?_|with_reducible(refine brr ?_ ?_<;>intro h)));all_goals try(conv=>whnf)
   ·refine zAA c1 rfl ?_
    (repeat' (first|refine stp ?_|with_reducible(refine brr ?_ ?_<;>intro h)));all_goals try(conv=>whnf)
    rotate_left
    ·exact zAB rfl (congrArg PV.bool (no (hb fun e => h e.1)))
    ·refine zAA c2 rfl ?_
     (repeat' (first|refine stp ?_|with_reducible(refine brr ?_ ?_<;>intro h)));all_goals try(conv=>whnf)
     rotate_left
     ·exact zAB rfl (congrArg PV.bool (no (hb fun e => h e.2.1)))
     ·refine zAA c3 rfl ?_
      (repeat' (first|refine stp ?_|with_reducible(refine brr ?_ ?_<;>intro h)));all_goals try(conv=>whnf)
      ·exact zAB rfl (congrArg PV.bool (no (hb fun e => by have := sgn_le.2 e.2.2; omega)))
      ·exact ⟨i + 1, ⟨⟨by omega, fun j hj => zA2 (p := fun j => uD4 r j) i2 ⟨by assumption, by assumption, sgn_le.1 (by omega)⟩ hj⟩, by show r.lo.length - (i + 1) < r.lo.length - i; omega⟩, [0, 1], [], [], [], ttt, ⟨apx, apx, zAE rfl rfl, zAC rfl rfl, zAC rfl rfl, trivial⟩, ⟨bbx, bbx, trivial⟩, by simp [ren]⟩
   all_goals (exfalso; omega)
  ·(repeat' (first|refine stp ?_|with_reducible(refine brr ?_ ?_<;>intro h)));all_goals try(conv=>whnf)
   all_goals try (exfalso; omega)
   refine zAA cc rfl ?_;refine sts ?_;refine zAB rfl (congrArg PV.bool ?_)
   have hv : r.rows.any (fun f => !vCB f n) = false ↔ ∀ j, j < r.rows.length → vBO r.rows[j]! n := by
    rw [List.any_eq_false];constructor
    ·intro e j hj
     have := e _ (get_mem hj);exact validB_true.1 (by simpa using this)
    ·intro e f hf
     obtain ⟨j, hj, rfl⟩ := List.getElem_of_mem hf;have := validB_true.2 (e j hj);rw [getElem!_pos r.rows j hj] at this;simp [this]
   rw [Bool.eq_iff_iff, dB_true, Bool.not_eq_true', hv];exact ⟨fun e => ⟨h1, h2, h3, h4, fun j hj => i2 j (by omega), e⟩, fun e => e.2.2.2.2.2⟩
theorem vX7 : FO 108 Tryz.f108 [.tmp 2] 8 := mkO Tryz.func108 Tryz.ntmps108 Tryz.results108
theorem vLD (r : RegL) (hr : vCZ 950000000 r) : Fn 108 [vBG r] (.data (.bool (dB (VaO r)))) := by
 have cc := vJF r r.lo.length hr;have l1 := hr.1.1;refine zAN vA6 hT vX7 (by simp [vBG]) ?_;refine sts ?_;refine zAA cc (by simp; rfl) ?_;refine sts ?_;exact zAB rfl rfl
theorem uDD : FO 137 Tryz.f137 [.tmp 3] 15 := mkO Tryz.func137 Tryz.ntmps137 Tryz.results137
theorem uIF (f : AffL) (x : List RatL) (k kx : Nat) (hf : okA k f) (hk1 : 1 ≤ k) (hkx : 1 ≤ kx) (hx : vPB kx x) (hv : vBO f x.length) (hk : k + f.terms.length * (k + kx + 1) + k + kx ≤ 949999990) : Fn 137 [vBD f, .cptr (.imm (x.map vAZ)) 0] (.data (.bool (decide (evQ f.Q (x.map qv) < 0)))) := by
 have hF := zCX hv;have hs := zB0 hf hk1;have hl := hf.2.2;have hvx : ∀ p ∈ f.Q.ts, 0 ≤ p.1 ∧ p.1 < x.length := fun p hp => hF.2 p hp
 have ql := zF4 f;have ce := vZ7 f.Q x k kx hs hkx hx.2 hvx (by rw [ql]; exact hk) (by omega) hx.1;rw [← vUF hv] at ce
 have hz := zNR (kx := kx) (x := x.map qv) hs (fun q hq => by
  obtain ⟨y, hy, rfl⟩ := List.mem_map.1 hq;have := hx.2 y hy
  exact zES this.1 this.2.1 this.2.2 hkx) (fun p hp => by simpa using hvx p hp)
 rw [ql] at hz;have hl4 := zAL hz;have cs := zDR (cr (evQ f.Q (x.map qv))) (zAI _) (by omega);rw [zAQ] at cs;refine zAN vA6 hT uDD (by simp) ?_;refine sts ?_;refine zAA ce rfl ?_;refine sts ?_;refine zAA cs rfl ?_;refine sts ?_;exact zAB rfl (congrArg PV.bool (decide_eq_decide.2 sgnQ_neg))
theorem vSG : FO 80 Tryz.f80 [.tmp 4] 49 := mkO Tryz.func80 Tryz.ntmps80 Tryz.results80
theorem vZ2 (r : RegL) (x : List RatL) (k kx : Nat) (hr : vCZ k r) (hk1 : 1 ≤ k) (hkx : 1 ≤ kx) (hx : vPB kx x) (hk : ∀ f ∈ r.rows, k + f.terms.length * (k + kx + 1) + k + kx ≤ 949999990) (hk2 : k ≤ 949999990) (hk3 : kx ≤ 949999990) : Fn 80 [vBG r, .imm (x.map vAZ)] (.data (.bool (dB (vDT r x)))) := by
 obtain ⟨hlo, hhi, hrw, hrl⟩ := hr;have no : ¬ vDT r x → false = dB (vDT r x) := zIJ;have l1 := hlo.1;have l2 := hhi.1;have l3 := hx.1;have co := vLD r (zDV (by omega) ⟨hlo, hhi, hrw, hrl⟩);refine zAN vA6 hT vSG (by simp [vBG]) ?_;refine sts ?_;refine zAA co rfl ?_
 (repeat' (first|refine stp ?_|with_reducible(refine brr ?_ ?_<;>intro h)));all_goals try(conv=>whnf)
 ·exact zAB rfl (congrArg PV.bool (no fun e => by have := e.2.1; omega))
 ·have hlen : x.length = r.lo.length := by omega
  have hva : VaO r := dB_true.1 (by assumption);have hlh : r.hi.length = r.lo.length := by have := hva.2.2.1; omega
  refine zAG hT (fun (i : Nat) => [(2, .ptr 0 0 0), (3, .ptr 1 0 0), (18, .imm (x.map vAZ)), (19, .int .i64 x.length), (20, .int .i64 i)]) (fun _ => [(0, ⟨[vBG r], 3, true⟩), (1, ⟨[.imm (x.map vAZ)], 1, false⟩)]) [] 2
   (fun i => i ≤ x.length ∧ ∀ j, j < i → qv r.lo[j]! ≤ qv x[j]! ∧ qv x[j]! ≤ qv r.hi[j]!) (fun i => x.length - i) 0 ⟨Nat.zero_le _, fun j h => (by omega)⟩ (by decide) (by simp) ?_ ?_
  ·exact ⟨[0, 1], [], [], [], ttt, ⟨apx, apx, zAE rfl rfl, zAC rfl (by simp), zAC rfl rfl, trivial⟩, ⟨bbx, bbx, trivial⟩, by simp [ren]⟩
  intro i ⟨i1, i2⟩;by_cases hi : i < x.length
  ·have hi1 : i < r.lo.length := by omega
   have hi2 : i < r.hi.length := by omega
   have q0 := zBG hx hi;have q1 := zBG hlo hi1;have q2 := zBG hhi hi2;have c1 := zHC x[i]! r.lo[i]! q0.1 q1.1 (by have := q0.2; omega) (by have := q0.2; omega) (by have := q1.2; omega) (by have := q1.2; omega);have c2 := zHC x[i]! r.hi[i]! q0.1 q2.1 (by have := q0.2; omega) (by have := q0.2; omega) (by have := q2.2; omega) (by have := q2.2; omega)
   (repeat' (first|refine stp ?_|with_reducible(refine brr ?_ ?_<;>intro h)));all_goals try(conv=>whnf)
   ·refine zAA c1 rfl ?_
    (repeat' (first|refine stp ?_|with_reducible(refine brr ?_ ?_<;>intro h)));all_goals try(conv=>whnf)
    ·exact zAB rfl (congrArg PV.bool (no fun e => by have := sgn_ge.2 (e.2.2.1 i hi).1; omega))
    ·refine zAA c2 rfl ?_
     (repeat' (first|refine stp ?_|with_reducible(refine brr ?_ ?_<;>intro h)));all_goals try(conv=>whnf)
     ·exact zAB rfl (congrArg PV.bool (no fun e => by have := sgn_le.2 (e.2.2.1 i hi).2; omega))
     ·exact ⟨i + 1, ⟨⟨by omega, fun j hj => zA2 (p := fun j => qv r.lo[j]! ≤ qv x[j]! ∧ qv x[j]! ≤ qv r.hi[j]!) i2 ⟨sgn_ge.1 (by omega), sgn_le.1 (by omega)⟩ hj⟩, by show x.length - (i + 1) < x.length - i; omega⟩, [0, 1], [], [], [], ttt, ⟨apx, apx, zAE rfl rfl, zAC rfl rfl, zAC rfl rfl, trivial⟩, ⟨bbx, bbx, trivial⟩, by simp [ren]⟩
   all_goals (exfalso; omega)
  ·have cc := zHS r.rows (fun f => decide (evQ f.Q (x.map qv) < 0)) 137 (.imm (x.map vAZ)) hrl (fun f hf => by
    obtain ⟨j, hj, rfl⟩ := List.getElem_of_mem hf;have hv := hva.2.2.2.2.2 j hj;rw [getElem!_pos r.rows j hj, ← hlen] at hv
    exact uIF _ x k kx (hrw _ (List.getElem_mem hj)) hk1 hkx hx hv (hk _ (List.getElem_mem hj)))
   (repeat' (first|refine stp ?_|with_reducible(refine brr ?_ ?_<;>intro h)));all_goals try(conv=>whnf)
   all_goals try (exfalso; omega)
   refine zAA cc rfl ?_;refine sts ?_;refine zAB rfl (congrArg PV.bool ?_);rw [Bool.eq_iff_iff, dB_true, Bool.not_eq_true', List.any_eq_false];constructor
   ·intro e
    refine ⟨hva, hlen, fun j hj => i2 j (by omega), fun j hj => ?_⟩;have := e _ (get_mem hj);simp only [decide_eq_true_eq] at this;exact Rat.not_lt.1 this
   ·intro e f hf
    obtain ⟨j, hj, rfl⟩ := List.getElem_of_mem hf;have := e.2.2.2 j hj;rw [getElem!_pos r.rows j hj] at this;simp only [decide_eq_true_eq];exact Rat.not_lt.2 this
 ·exact zAB rfl (congrArg PV.bool (no fun e => dB_false.1 h e.1))
theorem uDF : FO 89 Tryz.f89 [.cell 4 35] 12 := mkO Tryz.func89 Tryz.ntmps89 Tryz.results89
theorem vVK (x y : RatL) (hx : okR x) (hy : okR y) (hl1 : x.num.length < 1000000000) (hl2 : x.den.length < 1000000000) (hl3 : y.num.length < 1000000000) (hl4 : y.den.length < 1000000000) : Fn 89 [vAZ x, vAZ y] (.data (vAZ (cr (qv x - qv y)))) := by
 have e : qv (⟨!y.neg, y.num, y.den⟩ : RatL) = - qv y := by
  unfold qv; dsimp only; rw [zLC];rw [show -(sg y.neg (nv y.num)) = (-1) * sg y.neg (nv y.num) by omega];have : ∀ (z : Int) (d : Nat), mkRat (-1 * z) d = - mkRat z d := fun z d => by rw [Int.neg_mul, Int.one_mul, Rat.neg_mkRat]
  exact this _ _
 have ca := zGP x ⟨!y.neg, y.num, y.den⟩ hx hy hl1 hl2 hl3 hl4;rw [e, show qv x + -qv y = qv x - qv y by grind] at ca;refine zAN vA6 hT uDF (by simp [vAZ]) ?_;refine sts ?_;refine zAA ca rfl ?_;refine sts ?_;exact zAB rfl rfl
theorem vYE : FO 153 Tryz.f153 [.cell 4 35, .tmp 5] 20 := mkO Tryz.func153 Tryz.ntmps153 Tryz.results153
theorem uFJ (x y : IntL) (hx : okN x.mag) (hy : okN y.mag) (h0 : nv y.mag ≠ 0) (hl : x.mag.length < 2147483616) (hl2 : y.mag.length < 2147483616) : Fn 153 [vBB x, vBB y] (.data (.tup [vAZ (cr (mkRat (sg (x.neg != y.neg) (nv x.mag)) (nv y.mag))), .int .i64 0])) := by
 have cs := vG0 y hy (by omega);have cq := zJR (x.neg != y.neg) x.mag y.mag hx hy h0 (by omega) (by omega);refine zAN vA6 hT vYE (by simp [vBB]) ?_;refine sts ?_;refine zAA cs rfl ?_
 (repeat' (first|refine stp ?_|with_reducible(refine brr ?_ ?_<;>intro h)));all_goals try(conv=>whnf)
 ·exact absurd ((uAV y.neg _).1 (Int.sign_eq_zero_iff_zero.1 h)) h0
 ·refine zAA cq rfl ?_
  refine sts ?_;exact zAB rfl rfl
theorem vYF : FO 96 Tryz.f96 [.cell 4 35, .tmp 5] 13 := mkO Tryz.func96 Tryz.ntmps96 Tryz.results96
theorem vVO : Fn 96 [.int .i64 1, .int .i64 2] (.data (.tup [vAZ (cr vB2), .int .i64 0])) := by
 have c1 := uFM 1 (by decide);have c2 := uFM 2 (by decide);have cm := uFJ (cz 1) (cz 2) (zAM _) (zAM _) (by decide +kernel) (by decide +kernel) (by decide +kernel);rw [show mkRat (sg ((cz 1).neg != (cz 2).neg) (nv (cz 1).mag)) (nv (cz 2).mag) = vB2 by decide +kernel] at cm;refine zAN vA6 hT vYF (by simp) ?_;refine sts ?_;refine zAA c1 rfl ?_;refine sts ?_;refine zAA c2 rfl ?_;refine sts ?_;refine zAA cm rfl ?_;refine sts ?_;exact zAB rfl rfl
theorem vX9 : FO 110 Tryz.f110 [.cell 4 35] 18 := mkO Tryz.func110 Tryz.ntmps110 Tryz.results110
theorem uFH (r : RegL) (i : Nat) (hr : vCZ 100000 r) (hi : i < r.lo.length) (hi2 : i < r.hi.length) : Fn 110 [.int .i64 i, .cptr (vAZ (cr vB2)) 0, .cptr (vBG r) 0] (.data (vAZ (cr (vB2 * (qv r.lo[i]! + qv r.hi[i]!))))) := by
 have q1 := zBG hr.1 hi;have q2 := zBG hr.2.1 hi2;have l1 := hr.1.1;have c1 := zGP r.lo[i]! r.hi[i]! q1.1 q2.1 (by have := q1.2; omega) (by have := q1.2; omega) (by have := q2.2; omega) (by have := q2.2; omega);have s1 := zBY (zES q1.1 q1.2.1 q1.2.2 (by decide)) (zES q2.1 q2.2.1 q2.2.2 (by decide));have l2 := zAL s1;have c2 := zF3 (cr vB2) (cr (qv r.lo[i]! + qv r.hi[i]!)) (zAI _) (zAI _) (by decide +kernel) (by decide +kernel) (by omega) (by omega);rw [zAQ, zAQ] at c2;refine zAN vA6 hT vX9 (by simp) ?_;refine sts ?_;refine zAA c1 rfl ?_;refine sts ?_;refine zAA c2 rfl ?_;refine sts ?_;exact zAB rfl rfl
theorem vKI : FO 50 Tryz.f50 [.tmp 2] 17 := mkO Tryz.func50 Tryz.ntmps50 Tryz.results50
theorem vPS (r : RegL) (hr : vCZ 100000 r) : Fn 50 [vBG r] (.data (.imm ((ceR r).map vBF))) := by
 have co := vLD r (zDV (by decide) hr);have l1 := hr.1.1;refine zAN vA6 hT vKI (by simp [vBG]) ?_;refine sts ?_;refine zAA co rfl ?_
 (repeat' (first|refine stp ?_|with_reducible(refine brr ?_ ?_<;>intro h)));all_goals try(conv=>whnf)
 ·have hva : VaO r := dB_true.1 (by assumption)
  have hlh : r.hi.length = r.lo.length := by have := hva.2.2.1; omega
  have hce : ceR r = (List.range r.lo.length).map fun i => vB2 * (qv r.lo[i]! + qv r.hi[i]!) := by
   unfold ceR; rw [if_pos hva];refine List.ext_getElem (by simp [hlh]) fun j h1 h2 => ?_
   have h3 : j < r.lo.length := by simpa using h2
   have h4 : j < r.hi.length := by omega
   simp [h3, h4]
  rw [hce]
  have e1 := vV1 ((List.range r.lo.length).map fun i => vB2 * (qv r.lo[i]! + qv r.hi[i]!)) 110 (vAZ (cr vB2)) (vBG r) 950000000 (by decide) (by simpa using l1) fun i hi => by
   have hi : i < r.lo.length := by simpa using hi
   refine ⟨_, ?_, ?_, uFH r i hr hi (by omega)⟩
   ·have q1 := zBG hr.1 hi
    have q2 := zBG hr.2.1 (i := i) (by omega);exact zEI (zBE (j := 1 + (100000 + 100000 + 1)) (by decide) (zB6 zK8 (zBY (zES q1.1 q1.2.1 q1.2.2 (by decide)) (zES q2.1 q2.2.1 q2.2.2 (by decide)))))
   ·rw [zAQ, zBV hi]
  refine zAA vVO rfl ?_;refine sts ?_;refine zAA e1 (by simp; rfl) ?_;refine sts ?_;exact zAB rfl rfl
 ·rw [show ceR r = [] by unfold ceR; rw [if_neg (dB_false.1 h)]]
  exact zAB rfl rfl
theorem vX8 : FO 111 Tryz.f111 [.cell 4 35] 24 := mkO Tryz.func111 Tryz.ntmps111 Tryz.results111
theorem uFG (r : RegL) (b i : Nat) (hr : vCZ 950000000 r) (hb : b < 18446744073709551616) (hi : i < r.lo.length) (hi2 : i < r.hi.length) : Fn 111 [.int .i64 i, .cptr (.int .u64 b) 0, .cptr (vBG r) 0] (.data (vAZ (if vG6 b i then r.hi[i]! else r.lo[i]!))) := by
 have l1 := hr.1.1
 have e1 : i < 64 → vDJ .and .u64 ((b : Int).fdiv (vCW .u64 i)) 1 = ((b / 2 ^ i % 2 : Nat) : Int) := fun h => by
  rw [zGY (j := i) (by show min (i : Int).toNat 64 = i; omega)];have : ((b : Int) / 2 ^ i) = ((b / 2 ^ i : Nat) : Int) := by simp
  rw [this];exact vPZ (Nat.lt_of_le_of_lt (Nat.div_le_self _ _) hb)
 refine zAN vA6 hT vX8 (by simp) ?_
 (repeat' (first|refine stp ?_|with_reducible(refine brr ?_ ?_<;>intro h)));all_goals try(conv=>whnf)
 ·have h64 : i < 64 := by omega
  rw [e1 h64] at h;rw [if_pos (show vG6 b i = true from decide_eq_true ⟨h64, by omega⟩)];exact zAB rfl rfl
 ·have h64 : i < 64 := by omega
  rw [e1 h64] at h;rw [if_neg (by simp only [vG6, decide_eq_true_eq]; omega)];exact zAB rfl rfl
 ·rw [if_neg (by simp only [vG6, decide_eq_true_eq]; omega)]
  exact zAB rfl rfl
theorem vKH : FO 51 Tryz.f51 [.tmp 4] 13 := mkO Tryz.func51 Tryz.ntmps51 Tryz.results51
theorem vPR (r : RegL) (b : Nat) (hr : vCZ 950000000 r) (hb : b < 18446744073709551616) : Fn 51 [vBG r, .int .u64 b] (.data (.imm ((coR r b).map vBF))) := by
 have co := vLD r hr;have l1 := hr.1.1;refine zAN vA6 hT vKH (by simp [vBG]) ?_;refine sts ?_;refine zAA co rfl ?_
 (repeat' (first|refine stp ?_|with_reducible(refine brr ?_ ?_<;>intro h)));all_goals try(conv=>whnf)
 ·have hva : VaO r := dB_true.1 (by assumption)
  have hlh : r.hi.length = r.lo.length := by have := hva.2.2.1; omega
  have hce : coR r b = (List.range r.lo.length).map fun i => qv (if vG6 b i then r.hi[i]! else r.lo[i]!) := by
   unfold coR; rw [if_pos hva]
  rw [hce]
  have e1 := vV1 ((List.range r.lo.length).map fun i => qv (if vG6 b i then r.hi[i]! else r.lo[i]!)) 111 (.int .u64 b) (vBG r) 950000000 (by decide) (by simpa using l1) fun i hi => by
   have hi : i < r.lo.length := by simpa using hi
   refine ⟨_, ?_, ?_, uFG r b i hr hb hi (by omega)⟩
   ·split
    ·exact zBG hr.2.1 (i := i) (by omega)
    ·exact zBG hr.1 hi
   ·rw [zBV hi]
  refine zAA e1 (by simp; rfl) ?_;refine sts ?_;exact zAB rfl rfl
 ·rw [show coR r b = [] by unfold coR; rw [if_neg (dB_false.1 h)]]
  exact zAB rfl rfl
end Go.PI.Tryz
