/-
  Regions: Valid, Box, empty, Contains, Within of the program.
-/
import Derived.Test.YtcinkbieboiffaaGreatCLB
import Derived.Test.YtcinkbieboiffaaGreatCRC
import Derived.Test.YtcinkbieboiffaaGreatCPD
import Derived.Test.YtcinkbieboiffaaGreatCPE
set_option linter.unusedVariables false
set_option linter.unusedSimpArgs false
set_option linter.unnecessarySimpa false
namespace Go.PI.Tryz
open Go.Proofs Go.PI
theorem zAZ {j n : Nat} {p : Nat → Prop} (h : ∀ j, j < n → p j) (hn : p n) (hj : j < n + 1) : p j := by
 rcases Nat.lt_or_eq_of_le (Nat.le_of_lt_succ hj) with hj | rfl
 ·exact h j hj
 ·exact hn
theorem get_mem {α : Type} [Inhabited α] {l : List α} {i : Nat} (h : i < l.length) : l[i]! ∈ l := by rw [getElem!_pos l i h]; exact List.getElem_mem h
instance : LawfulBEq AffL := inferInstance
def canAt (l : List RatL) : Prop := ∀ i, i < l.length → l[i]! = cr (qv l[i]!)
theorem ok_validall : FO 77 Tryz.f77 [.tmp 2] 16 := mkO Tryz.func77 Tryz.ntmps77 Tryz.results77
theorem zNP (l : List RatL) (hl : okLs 2147483596 l) : Fn 77 [.imm (l.map encRat)] (.data (.bool (dB (canAt l)))) := by
 have l1 := hl.1;refine zAJ hmix hT ok_validall (by simp) ?_;refine sts ?_;refine zBH hT (fun n : Nat => [(0, .imm (l.map encRat)), (3, .int .i64 n)]) (fun n => n ≤ l.length ∧ ∀ j, j < n → l[j]! = cr (qv l[j]!)) (fun n => l.length - n) 0 ⟨by omega, fun j hj => by omega⟩ ?_ ?_
 ·exact ⟨zAD rfl rfl, zAC rfl rfl, trivial⟩
 intro n ⟨hn, he⟩;by_cases hi : n < l.length
 ·have q1 := zBQ hl hi
  have cc := zFB l[n]! q1.1 (by have := q1.2; omega) (by have := q1.2; omega)
  (repeat' (first|refine stp ?_|with_reducible(refine brr ?_ ?_<;>intro h)));all_goals try(conv=>whnf)
  ·refine zAA cc rfl ?_
   (repeat' (first|refine stp ?_|with_reducible(refine brr ?_ ?_<;>intro h)));all_goals try(conv=>whnf)
   ·exact ⟨n + 1, ⟨⟨by omega, fun j hj => zAZ (p := fun j => l[j]! = cr (qv l[j]!)) he (by assumption) hj⟩, by omega⟩, zAD rfl rfl, zAC rfl (by omega), trivial⟩
   ·exact zAB rfl (congrArg PV.bool (zFA fun e => h (e n hi)))
  all_goals (exfalso; omega)
 ·(repeat' (first|refine stp ?_|with_reducible(refine brr ?_ ?_<;>intro h)));all_goals try(conv=>whnf)
  all_goals try (exfalso; omega)
  exact zAB rfl (congrArg PV.bool (dB_yes fun j hj => he j (by omega)))
def valAll (l : List AffL) (n : Int) : Prop := ∀ i, i < l.length → ValidF l[i]! n
theorem ok_rlvalidall : FO 76 Tryz.f76 [.tmp 4] 19 := mkO Tryz.func76 Tryz.ntmps76 Tryz.results76
theorem zG9 (l : List AffL) (m : Int) (hl : okFs 2147483596 l) : Fn 76 [.imm (l.map encAff), .int .i64 m] (.data (.bool (dB (valAll l m)))) := by
 have l1 := hl.1;refine zAJ hmix hT ok_rlvalidall (by simp) ?_;refine sts ?_;refine zBH hT (fun n : Nat => [(0, .imm (l.map encAff)), (1, .int .i64 m), (5, .int .i64 n)]) (fun n => n ≤ l.length ∧ ∀ j, j < n → ValidF l[j]! m) (fun n => l.length - n) 0 ⟨by omega, fun j hj => by omega⟩ ?_ ?_
 ·exact ⟨zAD rfl rfl, zAC rfl rfl, zAC rfl rfl, trivial⟩
 intro n ⟨hn, he⟩;by_cases hi : n < l.length
 ·have cc := zHA l[n]! m (hl.2 _ (get_mem hi))
  (repeat' (first|refine stp ?_|with_reducible(refine brr ?_ ?_<;>intro h)));all_goals try(conv=>whnf)
  ·refine zAA cc rfl ?_
   (repeat' (first|refine stp ?_|with_reducible(refine brr ?_ ?_<;>intro h)));all_goals try(conv=>whnf)
   ·exact ⟨n + 1, ⟨⟨by omega, fun j hj => zAZ (p := fun j => ValidF l[j]! m) he (validB_true.1 (by assumption)) hj⟩, by omega⟩, zAD rfl rfl, zAC rfl rfl, zAC rfl (by omega), trivial⟩
   ·exact zAB rfl (congrArg PV.bool (zFA fun e => by have := validB_true.2 (e n hi); simp_all))
  all_goals (exfalso; omega)
 ·(repeat' (first|refine stp ?_|with_reducible(refine brr ?_ ?_<;>intro h)));all_goals try(conv=>whnf)
  all_goals try (exfalso; omega)
  exact zAB rfl (congrArg PV.bool (dB_yes fun j hj => he j (by omega)))
def ixP (p : AffL → Bool) (l : List AffL) : Int := if l.any p then (l.findIdx p : Nat) else -1
theorem ix_hit {p : AffL → Bool} {l : List AffL} {i : Nat} (hi : i < l.length) (h : p l[i]! = true) (hb : ∀ j, j < i → p l[j]! = false) : (i : Int) = ixP p l := by
 have h1 : l.any p = true := List.any_eq_true.2 ⟨_, get_mem hi, h⟩;have h2 : l.findIdx p = i := (List.findIdx_eq hi).2 ⟨by rw [getElem!_pos l i hi] at h; exact h, fun j hj => by have := hb j hj; rw [getElem!_pos l j (by omega)] at this; exact this⟩;unfold ixP; rw [if_pos h1, h2]
theorem ix_end {p : AffL → Bool} {l : List AffL} (hb : ∀ j, j < l.length → p l[j]! = false) : -1 = ixP p l := by
 have h1 : ¬ l.any p = true := fun e => by
  obtain ⟨x, hx, e⟩ := List.any_eq_true.1 e;obtain ⟨j, hj, rfl⟩ := List.getElem_of_mem hx;have := hb j hj;rw [getElem!_pos l j hj, e] at this; cases this
 unfold ixP; rw [if_neg h1]
theorem ix_ge {p : AffL → Bool} {l : List AffL} : decide (ixP p l ≥ 0) = l.any p := by
 unfold ixP; split
 ·rename_i h; rw [h]; simp
 ·rename_i h; simp at h; simp; exact h
theorem ixP_ge {p : AffL → Bool} {l : List AffL} : -1 ≤ ixP p l ∧ ixP p l ≤ l.length := by
 unfold ixP; split
 ·have := List.findIdx_le_length (p := p) (xs := l); omega
 ·omega
theorem ok_indexf : FO 123 Tryz.f123 [.tmp 4] 19 := mkO Tryz.func123 Tryz.ntmps123 Tryz.results123
theorem c_indexf (l : List AffL) (p : AffL → Bool) (g : FuncId) (c : PV) (hl : l.length ≤ 1048576) (hp : ∀ f ∈ l, Fn g [encAff f, .cptr c 0] (.data (.bool (p f)))) : Fn 123 [.imm (l.map encAff), .func (.func g) [] [.cptr c 0]] (.data (.int .i64 (ixP p l))) := by
 refine zAJ hmix hT ok_indexf (by simp) ?_;refine sts ?_;refine zBH hT (fun n : Nat => [(0, .imm (l.map encAff)), (1, .func (.func g) [] [.cptr c 0]), (7, .int .i64 l.length), (8, .int .i64 n)]) (fun n => n ≤ l.length ∧ ∀ j, j < n → p l[j]! = false) (fun n => l.length - n) 0 ⟨by omega, fun j hj => by omega⟩ ?_ ?_
 ·exact ⟨zAD rfl rfl, at_fun1c rfl, zAC rfl (by simp), zAC rfl rfl, trivial⟩
 intro n ⟨hn, he⟩;by_cases hi : n < l.length
 ·have cc := hp l[n]! (get_mem hi)
  (repeat' (first|refine stp ?_|with_reducible(refine brr ?_ ?_<;>intro h)));all_goals try(conv=>whnf)
  ·refine zAA cc rfl ?_
   (repeat' (first|refine stp ?_|with_reducible(refine brr ?_ ?_<;>intro h)));all_goals try(conv=>whnf)
   ·exact zAB rfl (congrArg (PV.int .i64) (ix_hit hi h he))
   ·exact ⟨n + 1, ⟨⟨by omega, fun j hj => zAZ (p := fun j => p l[j]! = false) he (by simpa using h) hj⟩, by omega⟩, zAD rfl rfl, at_fun1c rfl, zAC rfl rfl, zAC rfl (by omega), trivial⟩
  all_goals (exfalso; omega)
 ·(repeat' (first|refine stp ?_|with_reducible(refine brr ?_ ?_<;>intro h)));all_goals try(conv=>whnf)
  all_goals try (exfalso; omega)
  exact zAB rfl (congrArg (PV.int .i64) (ix_end fun j hj => he j (by omega)))
theorem ok_containsf : FO 89 Tryz.f89 [.tmp 4] 9 := mkO Tryz.func89 Tryz.ntmps89 Tryz.results89
theorem zH3 (l : List AffL) (p : AffL → Bool) (g : FuncId) (c : PV) (hl : l.length ≤ 1048576) (hp : ∀ f ∈ l, Fn g [encAff f, .cptr c 0] (.data (.bool (p f)))) : Fn 89 [.imm (l.map encAff), .func (.func g) [] [.cptr c 0]] (.data (.bool (l.any p))) := by
 have cc := c_indexf l p g c hl hp;have hg := ixP_ge (p := p) (l := l);refine zAJ hmix hT ok_containsf (by simp) ?_;refine sts ?_;refine zAA cc rfl ?_;refine sts ?_;exact zAB rfl (congrArg PV.bool ix_ge)
end Go.PI.Tryz
namespace Go.PI.Tryz
open Go.Proofs Go.PI
theorem c_rlevalW (f : QF) (x : List RatL) (k kx : Nat) (hf : szF k f) (hkx : 1 ≤ kx) (hx : ∀ q ∈ x, okQ kx q) (hv : ∀ p ∈ f.ts, 0 ≤ p.1 ∧ p.1 < x.length) (hk : k + f.ts.length * (k + kx + 1) + k + kx ≤ 949999990) (hl : f.ts.length ≤ 1048576) (hxl : x.length ≤ 1048576) : Fn 56 [encF f, .imm (x.map encRat)] (.data (.tup [encRat (cr (evQ f (x.map qv))), .int .i64 0])) := by
 refine zAJ hmix hT zLS (by simp [encF]) ?_;refine sts ?_
 refine zAL hT (fun ((i, y) : Nat × Rat) => [(1, .imm (x.map encRat)), (2, .ptr 2 0 0), (4, .ptr 0 0 0), (6, .ptr 1 0 0), (7, .int .i64 i)])
  (fun (_, y) => [(0, ⟨[.agg [.bool false, .nilsl, .nilsl]], 3, true⟩), (1, ⟨[encRat (cr y)], 3, true⟩), (2, ⟨[encF f], 4, true⟩)]) [] 3
  (fun (i, y) => i ≤ f.ts.length ∧ y = ev1 (x.map qv) (f.ts.take i) f.c ∧ sz (k + i * (k + kx + 1)) y) (fun (i, _) => f.ts.length - i) (0, f.c) ⟨Nat.zero_le _, rfl, by simpa using hf.1⟩ (by decide) (by simp) ?_ ?_
 ·exact ⟨[_, _, _], [], [], [], ttt, ⟨zAD rfl rfl, (apy rfl), (apy rfl), (apy rfl), zAC rfl rfl, trivial⟩,
   ⟨bbx, bbx, bbx, trivial⟩, by simp [ren]⟩
 intro ⟨i, y⟩ ⟨i1, i2, i3⟩;by_cases hi : i < f.ts.length
 ·have hmem : f.ts[i]! ∈ f.ts := by rw [getElem!_pos f.ts i hi]; exact List.getElem_mem hi
  have hvi := hv _ hmem;have hp := hf.2 _ hmem;have hj : f.ts[i]!.1.toNat < x.length := by omega
  have hxm : x[f.ts[i]!.1.toNat]! ∈ x := by rw [getElem!_pos x _ hj]; exact List.getElem_mem hj
  have hxo := hx _ hxm;have hxi := zH8 hxo.1 hxo.2.1 hxo.2.2 hkx;have hxg : (x.map qv)[f.ts[i]!.1.toNat]! = qv x[f.ts[i]!.1.toNat]! := getD_map_qv hj;have hm := zDH hp hxi;have hmul : (i + 1) * (k + kx + 1) ≤ f.ts.length * (k + kx + 1) := Nat.mul_le_mul_right _ (by omega);rw [Nat.add_mul] at hmul;have l1 := zA6 hp;have l2 := hxo.2;have l3 := zA6 hm;have l4 := zA6 i3;have cm := zJZ (cr f.ts[i]!.2) x[f.ts[i]!.1.toNat]! (zA1 _) hxo.1 (by omega) (by omega) (by omega) (by omega);rw [zBA] at cm;have ca := zFT (cr y) (cr (f.ts[i]!.2 * qv x[f.ts[i]!.1.toNat]!)) (zA1 _) (zA1 _) (by omega) (by omega) (by omega) (by omega);rw [zBA, zBA] at ca;have hsz := zC9 (show k + i * (k + kx + 1) + (k + kx) + 1 ≤ k + (i + 1) * (k + kx + 1) by rw [Nat.add_mul]; omega) (zEC i3 hm);have hy : ev1 (x.map qv) (f.ts.take (i + 1)) f.c = y + f.ts[i]!.2 * qv x[f.ts[i]!.1.toNat]! := by rw [ev1_take (x.map qv) f.ts f.c i hi, i2, hxg]
  (repeat' (first|refine stp ?_|with_reducible(refine brr ?_ ?_<;>intro h)));all_goals try(conv=>whnf)
  ·exact absurd h (show ¬ f.ts[i]!.1 < 0 by omega)
  ·exact absurd h (show ¬ f.ts[i]!.1 ≥ (x.length : Int) by omega)
  ·refine zAY (j := f.ts[i]!.1.toNat) (show f.ts[i]!.1 = _ by omega) hj ?_
   refine sts ?_;refine zAA cm rfl ?_;refine sts ?_;refine zAA ca rfl ?_;refine sts ?_
   exact ⟨(i + 1, y + f.ts[i]!.2 * qv x[f.ts[i]!.1.toNat]!), ⟨⟨by omega, hy.symm, hsz⟩, by show f.ts.length - (i + 1) < f.ts.length - i; omega⟩, [0, 1, 2], [], [], [], ttt, ⟨zAD rfl rfl, apx, apx, apx, zAC rfl (by omega), trivial⟩,
    ⟨bbx, bbx, bbx, trivial⟩, by simp [ren]⟩
  ·exact absurd (show (i : Int) < f.ts.length by omega) h
 ·have hmul : i * (k + kx + 1) ≤ f.ts.length * (k + kx + 1) := Nat.mul_le_mul_right _ (by omega)
  have e : y = evQ f (x.map qv) := by rw [i2, List.take_of_length_le (by omega)]; rfl
  (repeat' (first|refine stp ?_|with_reducible(refine brr ?_ ?_<;>intro h)));all_goals try(conv=>whnf)
  all_goals try (exfalso; omega)
  subst e;exact zAB rfl rfl
theorem ok_rqmax : FO 95 Tryz.f95 [.cell 4 32] 13 := mkO Tryz.func95 Tryz.ntmps95 Tryz.results95
theorem c_rqmax (x y : RatL) (k : Nat) (hx : okQ k x) (hy : okQ k y) (hk : k ≤ 949999990) : Fn 95 [encRat x, encRat y] (.data (encRat (cr (maxQ (qv x) (qv y))))) := by
 have hx2 := hx.2;have hy2 := hy.2;have cc := c_rqcmp x y hx.1 hy.1 (by omega) (by omega) (by omega) (by omega);have c1 := zFC x hx.1 (by omega) (by omega);have c2 := zFC y hy.1 (by omega) (by omega);have hs := sgn_ge (a := qv x) (b := qv y);refine zAJ hmix hT ok_rqmax (by simp [encRat]) ?_;refine sts ?_;refine zAA cc rfl ?_
 (repeat' (first|refine stp ?_|with_reducible(refine brr ?_ ?_<;>intro h)));all_goals try(conv=>whnf)
 ·refine zAA c1 rfl ?_
  refine sts ?_;rw [show maxQ (qv x) (qv y) = qv x from if_pos (hs.1 (by omega))];exact zAB rfl rfl
 ·refine zAA c2 rfl ?_
  refine sts ?_;rw [show maxQ (qv x) (qv y) = qv y from if_neg (fun e => by have := hs.2 e; omega)];exact zAB rfl rfl
end Go.PI.Tryz
namespace Go.PI.Tryz
open Go.Proofs Go.PI
theorem take_snoc {ys : List Rat} {i : Nat} (h : i < ys.length) : (ys.take i).map encX ++ [encRat (cr ys[i]!)] = (ys.take (i + 1)).map encX := by
 rw [List.take_succ_eq_append_getElem h, List.map_append, getElem!_pos ys i h]; rfl
end Go.PI.Tryz
namespace Go.PI.Tryz
open Go.Proofs Go.PI
theorem ok_rgv1 : FO 90 Tryz.f90 [.tmp 3] 8 := mkO Tryz.func90 Tryz.ntmps90 Tryz.results90
theorem c_rgv1 (f : AffL) (n : Int) (hf : okA 2147483596 f) : Fn 90 [encAff f, .cptr (.int .i64 n) 0] (.data (.bool (!validB f n))) := by
 have cc := zI9 f n hf;refine zAJ hmix hT ok_rgv1 (by simp) ?_;refine sts ?_;refine zAA cc rfl ?_;refine sts ?_;exact zAB rfl rfl
theorem ok_rgvalid : FO 45 Tryz.f45 [.tmp 4] 69 := mkO Tryz.func45 Tryz.ntmps45 Tryz.results45
theorem c_rgvalid (r : RegL) (n : Int) (hr : okReg 950000000 r) : Fn 45 [encReg r, .int .i64 n] (.data (.bool (dB (VaR r n)))) := by
 obtain ⟨hlo, hhi, hrw, hrl⟩ := hr;have no : ¬ VaR r n → false = dB (VaR r n) := zFA;have l1 := hlo.1;have l2 := hhi.1;have cc := zH3 r.rows (fun f => !validB f n) 90 (.int .i64 n) hrl (fun f hf => c_rgv1 f n (zBE (by decide) (hrw f hf)));refine zAJ hmix hT ok_rgvalid (by simp [encReg]) ?_
 (repeat' (first|refine stp ?_|with_reducible(refine brr ?_ ?_<;>intro h)));all_goals try(conv=>whnf)
 ·exact zAB rfl (congrArg PV.bool (no fun e => by have := e.1.1; omega))
 ·exact zAB rfl (congrArg PV.bool (no fun e => by have := e.1.2; omega))
 ·exact zAB rfl (congrArg PV.bool (no fun e => by have := e.2.1; omega))
 ·exact zAB rfl (congrArg PV.bool (no fun e => by have := e.2.2.1; omega))
 ·exact zAB rfl (congrArg PV.bool (no fun e => by have := e.2.2.2.1; omega))
 ·have h0 : (1 ≤ n ∧ n ≤ 256) ∧ (r.lo.length : Int) = n ∧ (r.hi.length : Int) = n ∧ r.rows.length ≤ 256 := ⟨⟨by omega, by omega⟩, by omega, by omega, by omega⟩
  obtain ⟨h1, h2, h3, h4⟩ := h0
  refine zAL hT (fun (i : Nat) => [(2, .ptr 0 0 0), (3, .ptr 1 0 0), (34, .imm (r.lo.map encRat)), (35, .int .i64 r.lo.length), (36, .int .i64 i)]) (fun _ => [(0, ⟨[encReg r], 3, true⟩), (1, ⟨[.int .i64 n], 1, false⟩)]) [] 2
   (fun i => i ≤ r.lo.length ∧ ∀ j, j < i → okBd r j) (fun i => r.lo.length - i) 0 ⟨Nat.zero_le _, fun j h => (by omega)⟩ (by decide) (by simp) ?_ ?_
  ·exact ⟨[0, 1], [], [], [], ttt, ⟨apx, apx, zAD rfl rfl, zAC rfl (by simp), zAC rfl rfl, trivial⟩, ⟨bbx, bbx, trivial⟩, by simp [ren]⟩
  intro i ⟨i1, i2⟩;by_cases hi : i < r.lo.length
  ·have hi2 : i < r.hi.length := by omega
   have q1 := zBQ hlo hi;have q2 := zBQ hhi hi2;have c1 := zFO r.lo[i]! q1.1 (by have := q1.2; omega) (by have := q1.2; omega);have c2 := zFO r.hi[i]! q2.1 (by have := q2.2; omega) (by have := q2.2; omega);have c3 := c_qcmp r.lo[i]! r.hi[i]! q1.1 q2.1 (by have := q1.2; omega) (by have := q1.2; omega) (by have := q2.2; omega) (by have := q2.2; omega);have hb : ¬ okBd r i → ¬ VaR r n := fun h e => h (e.2.2.2.2.1 i hi)
   (repeat' (first|refine stp ?_|with_reducible(refine brr ?_ ?_<;>intro h)));all_goals try(conv=>whnf)
   ·refine zAA c1 rfl ?_
    (repeat' (first|refine stp ?_|with_reducible(refine brr ?_ ?_<;>intro h)));all_goals try(conv=>whnf)
    rotate_left
    ·exact zAB rfl (congrArg PV.bool (no (hb fun e => h e.1)))
    ·refine zAA c2 rfl ?_
     (repeat' (first|refine stp ?_|with_reducible(refine brr ?_ ?_<;>intro h)));all_goals try(conv=>whnf)
     rotate_left
     ·exact zAB rfl (congrArg PV.bool (no (hb fun e => h e.2.1)))
     ·refine zAA c3 rfl ?_
      (repeat' (first|refine stp ?_|with_reducible(refine brr ?_ ?_<;>intro h)));all_goals try(conv=>whnf)
      ·exact zAB rfl (congrArg PV.bool (no (hb fun e => by have := sgn_le.2 e.2.2; omega)))
      ·exact ⟨i + 1, ⟨⟨by omega, fun j hj => zAZ (p := fun j => okBd r j) i2 ⟨by assumption, by assumption, sgn_le.1 (by omega)⟩ hj⟩, by show r.lo.length - (i + 1) < r.lo.length - i; omega⟩, [0, 1], [], [], [], ttt, ⟨apx, apx, zAD rfl rfl, zAC rfl rfl, zAC rfl rfl, trivial⟩, ⟨bbx, bbx, trivial⟩, by simp [ren]⟩
   all_goals (exfalso; omega)
  ·(repeat' (first|refine stp ?_|with_reducible(refine brr ?_ ?_<;>intro h)));all_goals try(conv=>whnf)
   all_goals try (exfalso; omega)
   refine zAA cc rfl ?_;refine sts ?_;refine zAB rfl (congrArg PV.bool ?_)
   have hv : r.rows.any (fun f => !validB f n) = false ↔ ∀ j, j < r.rows.length → ValidF r.rows[j]! n := by
    rw [List.any_eq_false];constructor
    ·intro e j hj
     have := e _ (get_mem hj);exact validB_true.1 (by simpa using this)
    ·intro e f hf
     obtain ⟨j, hj, rfl⟩ := List.getElem_of_mem hf;have := validB_true.2 (e j hj);rw [getElem!_pos r.rows j hj] at this;simp [this]
   rw [Bool.eq_iff_iff, dB_true, Bool.not_eq_true', hv];exact ⟨fun e => ⟨h1, h2, h3, h4, fun j hj => i2 j (by omega), e⟩, fun e => e.2.2.2.2.2⟩
end Go.PI.Tryz
