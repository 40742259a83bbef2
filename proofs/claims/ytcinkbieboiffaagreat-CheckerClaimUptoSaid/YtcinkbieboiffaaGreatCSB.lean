/-
  The example of chapter 48.
-/
import Derived.Test.YtcinkbieboiffaaGreatCSA
import Derived.Test.YtcinkbieboiffaaGreatCTR
import Derived.Test.YtcinkbieboiffaaGreatCKA
import Derived.Test.YtcinkbieboiffaaGreatCPD
import Derived.Test.YtcinkbieboiffaaGreatCPE
set_option linter.unusedVariables false
set_option linter.unusedSimpArgs false
set_option linter.unnecessarySimpa false
namespace Go.PI.Tryz
open Go.Proofs Go.PI
set_option maxHeartbeats 0
theorem ok_r22less : FO 169 Tryz.f169 [.tmp 4] 43 := mkO Tryz.func169 Tryz.ntmps169 Tryz.results169
theorem c_r22less (a b : RowL) : Fn 169 [encRow a, encRow b] (.data (.bool (dB (lessR a b)))) := by
 refine zAJ hmix hT ok_r22less (by simp [encRow]) ?_
 (repeat' (first|refine stp ?_|with_reducible(refine brr ?_ ?_<;>intro h)));all_goals try(conv=>whnf)
 all_goals (refine zAB rfl (congrArg PV.bool ?_); rw [Bool.eq_iff_iff, dB_true, decide_eq_true_eq]; unfold lessR; omega)
def canP1 (l : List MultL) (k : Nat) : Prop := CanR l[k]!.coef ∧ 0 < qv l[k]!.coef ∧ (0 < k → lessR l[k - 1]!.row l[k]!.row)
def canP (l : List MultL) : Prop := ∀ k, k < l.length → canP1 l k
theorem ok_r22can : FO 154 Tryz.f154 [.tmp 2] 45 := mkO Tryz.func154 Tryz.ntmps154 Tryz.results154
theorem c_r22can (l : List MultL) (hl : szM l) : Fn 154 [.imm (l.map encMult)] (.data (.bool (dB (canP l)))) := by
 have l1 := hl.1;refine zAJ hmix hT ok_r22can (by simp) ?_;refine sts ?_
 refine zAL hT (fun (i : Nat) => [(0, .imm (l.map encMult)), (3, .int .i64 i)]) (fun _ => []) [] 0
  (fun i => i ≤ l.length ∧ ∀ k, k < i → canP1 l k) (fun i => l.length - i) 0 ⟨Nat.zero_le _, fun k h => by omega⟩ (by decide) (by simp) ?_ ?_
 ·exact ⟨[], [], [], [], ttt, ⟨zAD rfl rfl, zAC rfl rfl, trivial⟩, trivial, by simp [ren]⟩
 intro i ⟨i1, i2⟩;by_cases hi : i < l.length
 ·have hm := hl.2 _ (get_mem hi)
  have hm2 := hm.2;have hno : ¬ canP1 l i → false = dB (canP l) := fun h => zFA fun e => h (e i hi)
  have cva := zFB l[i]!.coef hm.1 (by omega) (by omega);have csg := zC7 l[i]!.coef hm.1 (by omega);have cle := c_r22less l[i - 1]!.row l[i]!.row;have nxt : canP1 l i → ∀ k, k < i + 1 → canP1 l k := fun h k hk => zAZ (p := canP1 l) i2 h hk
  (repeat' (first|refine stp ?_|with_reducible(refine brr ?_ ?_<;>intro h)));all_goals try(conv=>whnf)
  all_goals try (exfalso; omega)
  refine zAA cva rfl ?_
  (repeat' (first|refine stp ?_|with_reducible(refine brr ?_ ?_<;>intro h)));all_goals try(conv=>whnf)
  rotate_left
  ·exact zAB rfl (congrArg PV.bool (hno fun e => by have := e.1; contradiction))
  have hcan : CanR l[i]!.coef := by assumption
  refine zAA csg rfl ?_
  (repeat' (first|refine stp ?_|with_reducible(refine brr ?_ ?_<;>intro h)));all_goals try(conv=>whnf)
  ·exact zAB rfl (congrArg PV.bool (hno fun e => by have := sgnQ_pos.2 e.2.1; omega))
  ·have hpos : 0 < qv l[i]!.coef := sgnQ_pos.1 (by omega)
   refine zAY (j := i - 1) (by omega) (by omega) ?_;refine sts ?_;refine zAA cle rfl ?_
   (repeat' (first|refine stp ?_|with_reducible(refine brr ?_ ?_<;>intro h)));all_goals try(conv=>whnf)
   ·have hless : lessR l[i - 1]!.row l[i]!.row := dB_true.1 (by assumption)
    exact ⟨i + 1, ⟨⟨by omega, nxt ⟨hcan, hpos, fun _ => hless⟩⟩, by show l.length - (i + 1) < l.length - i; omega⟩, [], [], [], [], ttt, ⟨zAD rfl rfl, zAC rfl rfl, trivial⟩, trivial, by simp [ren]⟩
   ·exact zAB rfl (congrArg PV.bool (hno fun e => dB_false.1 (by assumption) (e.2.2 (by omega))))
  ·have hpos : 0 < qv l[i]!.coef := sgnQ_pos.1 (by omega)
   exact ⟨i + 1, ⟨⟨by omega, nxt ⟨hcan, hpos, fun _ => by omega⟩⟩, by show l.length - (i + 1) < l.length - i; omega⟩, [], [], [], [], ttt, ⟨zAD rfl rfl, zAC rfl rfl, trivial⟩, trivial, by simp [ren]⟩
 ·(repeat' (first|refine stp ?_|with_reducible(refine brr ?_ ?_<;>intro h)));all_goals try(conv=>whnf)
  all_goals try (exfalso; omega)
  exact zAB rfl (congrArg PV.bool (dB_true.2 fun k hk => i2 k (by omega)).symm)
def avP (S : ScpL) (l : List MultL) (i : Nat) : Prop := ∀ k, k < i → (rowO S l[k]!.row).isSome = true
open Classical in
noncomputable def sumR (S : ScpL) (l : List MultL) : QF × Int := if canP l then (if avP S l l.length then (sumN S l l.length, 0) else (zeroQ, 12)) else (zeroQ, 1)
theorem okM_iff {S : ScpL} {l : List MultL} : okM S l l.length ↔ canP l ∧ avP S l l.length :=
 ⟨fun h => ⟨fun k hk => ⟨(h k hk).1, (h k hk).2.1, (h k hk).2.2.1⟩, fun k hk => (h k hk).2.2.2⟩, fun h k hk => ⟨(h.1 k hk).1, (h.1 k hk).2.1, (h.1 k hk).2.2, h.2 k hk⟩⟩
theorem sum_sz {S : ScpL} {P V : Nat} (hS : okScp S) (hz : szS S P V) {l : List MultL} (hl : szM l) : ∀ {i : Nat}, i ≤ l.length → avP S l i → szF (1 + i * (P + 2 * V + 18) + sumC (l.take i)) (sumN S l i)
 | 0, _, _ => by
   show szF _ zeroQ
   exact zFY (by omega) (zC4 1 (by decide))
 | i + 1, hi, hk => by
   have ih := sum_sz hS hz hl (i := i) (by omega) fun k h => hk k (by omega)
   obtain ⟨g, hg⟩ := Option.isSome_iff_exists.1 (hk i (by omega));have hr := row_sz hS hz hg;have e : rw' S l[i]! = g := by unfold rw'; rw [hg]; rfl
   have hc : sz (lenQ l[i]!.coef + 1) (qv l[i]!.coef) := zF2 (zBU (Nat.le_succ _) (zJN (hl.2 _ (get_mem (by omega))))) (by omega);obtain ⟨R, hR⟩ : ∃ R, P + 2 * V + 18 = R := ⟨_, rfl⟩;rw [hR] at ih ⊢;have hr2 : szF (R - 4) g := zFY (by omega) hr;rw [zGR (by omega), e];refine zD3 ih hr2 hc ?_;rw [zGT (by omega), Nat.succ_mul];generalize i * R = X;omega
theorem zF1 {S : ScpL} (hS : okScp S) (hn : nvar S ≤ 16) {f : QF} (h : okF (nvar S) f) : f.ts.length ≤ 16 := by
 have hi := hS.1.1.1.1;obtain ⟨n, hn2⟩ : ∃ n : Nat, nvar S = n := ⟨(nvar S).toNat, by unfold nvar at *; omega⟩;rw [hn2] at h;have := zDP n h.1.1 h.2;omega
theorem add_scl {f g : QF} {c : Rat} (hf : Srt f.ts) (hg : Srt g.ts) : mergeQ f (sclQ g c) 1 = mergeQ f g c := by
 have h0 := zA8 (c := c) zCK hg;refine zLJ (zA8 hf h0) (zA8 hf hg) (fun v => ?_) ?_
 ·unfold sclQ
  rw [zBY hf h0, zBY zCK hg, zBY hf hg, zH2]; grind
 ·simp only [sclQ, zHB, zeroQ]; grind
theorem ok_r22sum : FO 130 Tryz.f130 [.cell 4 34, .tmp 5] 43 := mkO Tryz.func130 Tryz.ntmps130 Tryz.results130
theorem c_r22sum (S : ScpL) (l : List MultL) (P V : Nat) (hS : okScp S) (hz : szS S P V) (hq : szQ S.q P) (hB2 : P + 2 * V ≤ 20000000) (hn : nvar S ≤ 16) (hl : szM l) (hsz : 1 + l.length * (P + 2 * V + 18) + sumC l + 18 * (P + 2 * V + 40 + sumC l) ≤ 940000000) : Fn 130 [encScp S, .imm (l.map encMult)] (.data (.tup [encF (sumR S l).1, .int .i64 (sumR S l).2])) := by
 have l1 := hl.1;have cca := c_r22can l hl;refine zAJ hmix hT ok_r22sum (by simp [encScp]) ?_;refine sts ?_;refine zAA cca rfl ?_
 (repeat' (first|refine stp ?_|with_reducible(refine brr ?_ ?_<;>intro h)));all_goals try(conv=>whnf)
 rotate_left
 ·have hc : ¬ canP l := dB_false.1 (by assumption)
  have e : sumR S l = (zeroQ, 1) := if_neg hc;exact zAB rfl (by rw [e, ← zA4])
 have hc : canP l := dB_true.1 (by assumption)
 refine zAL hT (fun (i : Nat) => [(1, .imm (l.map encMult)), (2, .ptr 0 0 0), (4, .ptr 1 0 0), (6, .ptr 2 0 0), (7, .int .i64 i)])
  (fun i => [(0, ⟨[encScp S], 12, true⟩), (1, ⟨[.agg [.nilsl, .bool false, .nilsl, .nilsl]], 4, true⟩), (2, ⟨[encF (sumN S l i)], 4, true⟩)]) [] 3
  (fun i => i ≤ l.length ∧ avP S l i) (fun i => l.length - i) 0 ⟨Nat.zero_le _, fun k h => by omega⟩ (by decide) (by simp) ?_ ?_
 ·exact ⟨[0, 1, 6], [], [], [(6, [.agg [.imm [], .bool false, .imm [], .imm []]])], ⟨trivial, trivial, ⟨⟨_, 4, _, rfl, rfl, rfl⟩, trivial⟩⟩, ⟨zAD rfl rfl, apx, apx, apx, zAC rfl rfl, trivial⟩, ⟨bbx, bbx, zJ1 (by decide) rfl encF_zero'.symm rfl rfl rfl, trivial⟩, by simp [ren]⟩
 rintro i ⟨i1, i2⟩
 by_cases hi : i < l.length
 ·have hm := hl.2 _ (get_mem hi)
  have hm2 := hm.2;have cf := c_r21form S l[i]!.row P V hS hz hq hB2 hn
  (repeat' (first|refine stp ?_|with_reducible(refine brr ?_ ?_<;>intro h)));all_goals try(conv=>whnf)
  all_goals try (exfalso; omega)
  refine zAA cf rfl ?_
  (repeat' (first|refine stp ?_|with_reducible(refine brr ?_ ?_<;>intro h)));all_goals try(conv=>whnf)
  ·obtain ⟨g, hg⟩ := Option.isSome_iff_exists.1 (show (rowO S l[i]!.row).isSome = true by assumption)
   have e1 : rw' S l[i]! = g := by unfold rw'; rw [hg]; rfl
   have e2 : (rowO S l[i]!.row).getD zeroQ = g := e1;rw [e2];have hcan := (hc i hi).1;have hgo : okF (nvar S) g := row_ok hS hg;have hg2 := row_sz hS hz hg;have hgl := zF1 hS hn hgo;have z0 := sum_sz hS hz hl (i := i) (by omega) i2;have hfo := zGS hS (l := l) (i := i) (by omega);have hfl := zF1 hS hn hfo;have hsi := zGT (l := l) hi;have hsj := sumC_le l (i + 1);have hmul : (i + 1) * (P + 2 * V + 18) ≤ l.length * (P + 2 * V + 18) := Nat.mul_le_mul_right _ hi;rw [Nat.succ_mul] at hmul;have zc : sz (lenQ l[i]!.coef + 1) (qv l[i]!.coef) := zF2 (zBU (Nat.le_succ _) (zJN hm)) (by omega);have q1 := zD7 g (qv l[i]!.coef) _ _ hg2 zc hgo.1 (by omega) (by omega);rw [← hcan] at q1;have z2 : szF (P + 2 * V + 17 + lenQ l[i]!.coef) (sclQ g (qv l[i]!.coef)) := zF0 hg2 zc (by omega);have hsl := zHW (f := g) (c := qv l[i]!.coef);have hm17 : ((sclQ g (qv l[i]!.coef)).ts.length + 1) * (P + 2 * V + 17 + lenQ l[i]!.coef + 1) ≤ 17 * (P + 2 * V + 17 + lenQ l[i]!.coef + 1) := Nat.mul_le_mul_right _ (by omega);have q2 := c_radd' (sumN S l i) (sclQ g (qv l[i]!.coef)) _ _ z0 z2 hfo.1 (zA8 zCK hgo.1) (by omega) (by omega);have e3 : mergeQ (sumN S l i) (sclQ g (qv l[i]!.coef)) 1 = sumN S l (i + 1) := by rw [zGR hi, e1]; exact add_scl hfo.1 hgo.1
   rw [e3] at q2;refine zAA q1 rfl ?_;refine sts ?_;refine zAA q2 rfl ?_;refine sts ?_;exact ⟨i + 1, ⟨⟨by omega, fun k hk => zAZ (p := fun k => (rowO S l[k]!.row).isSome = true) i2 (by assumption) hk⟩, by show l.length - (i + 1) < l.length - i; omega⟩, [0, 1, 2], [], [], [], ttt, ⟨zAD rfl rfl, apx, apx, apx, zAC rfl rfl, trivial⟩, ⟨bbx, bbx, bbx, trivial⟩, by simp [ren]⟩
  ·have e : sumR S l = (zeroQ, 12) := by
    unfold sumR;rw [if_pos hc, if_neg (fun q => by have := q i hi; rw [show (rowO S l[i]!.row).isSome = false by assumption] at this; cases this)]
   exact zAB rfl (by rw [e, ← zA4])
 ·obtain rfl : i = l.length := by omega
  have e : sumR S l = (sumN S l l.length, 0) := by unfold sumR; rw [if_pos hc, if_pos i2]
  (repeat' (first|refine stp ?_|with_reducible(refine brr ?_ ?_<;>intro h)));all_goals try(conv=>whnf)
  all_goals try (exfalso; omega)
  exact zAB rfl (by rw [e]; rfl)
end Go.PI.Tryz
namespace Go.PI.Tryz
open Go.Proofs Go.PI
set_option maxHeartbeats 0
theorem rst_zero {S : ScpL} (hS : okScp S) {l : List MultL} : (rstN S zeroQ l l.length).ts = [] ↔ (sumN S l l.length).ts = [] := by
 have hs := (zGS hS (l := l) (i := l.length) (Nat.le_refl _)).1;rw [rst_sum hS (zFH _) l.length (Nat.le_refl _)];have hm : Srt (subQ zeroQ (sumN S l l.length)).ts := zA8 zCK hs;constructor
 ·intro h
  refine zLA hs zGB fun v => ?_
  have := zBY (c := -1) zCK hs v;rw [show mergeQ zeroQ (sumN S l l.length) (-1) = subQ zeroQ (sumN S l l.length) from rfl, h, zH2] at this;simp only [cf] at this ⊢; grind
 ·intro h
  refine zLA hm zGB fun v => ?_
  unfold subQ;rw [zBY zCK hs, zH2, h];simp only [cf]; grind
theorem rst_c {S : ScpL} (hS : okScp S) {f : QF} (hf : okF (nvar S) f) {l : List MultL} : (rstN S f l l.length).c = f.c - (sumN S l l.length).c := by
 rw [rst_sum hS hf l.length (Nat.le_refl _)];simp only [subQ, zHB]; grind
theorem sumR_ok {S : ScpL} (hS : okScp S) (l : List MultL) : okF (nvar S) (sumR S l).1 := by
 unfold sumR
 split
 ·split
  ·exact zGS hS (Nat.le_refl _)
  ·exact zFH _
 ·exact zFH _
theorem sumR_sz {S : ScpL} {P V : Nat} (hS : okScp S) (hz : szS S P V) {l : List MultL} (hl : szM l) : szF (1 + l.length * (P + 2 * V + 18) + sumC l) (sumR S l).1 := by
 unfold sumR
 split
 ·split
  ·rename_i h
   have z := sum_sz hS hz hl (Nat.le_refl _) h;rw [List.take_length] at z; exact z
  ·exact zFY (by omega) (zC4 1 (by decide))
 ·exact zFY (by omega) (zC4 1 (by decide))
theorem sumR_0 {S : ScpL} {l : List MultL} : (sumR S l).2 = 0 ↔ okM S l l.length := by
 rw [okM_iff];unfold sumR
 split
 ·rename_i h
  split
  ·rename_i h2; exact ⟨fun _ => ⟨h, h2⟩, fun _ => rfl⟩
  ·rename_i h2; exact ⟨(fun e => by simp at e), fun e => absurd e.2 h2⟩
 ·rename_i h; exact ⟨(fun e => by simp at e), fun e => absurd e.1 h⟩
theorem sumR_1 {S : ScpL} {l : List MultL} (h : okM S l l.length) : (sumR S l).1 = sumN S l l.length := by
 obtain ⟨h1, h2⟩ := okM_iff.1 h;unfold sumR;rw [if_pos h1, if_pos h2]
theorem ok_r22prv : FO 100 Tryz.f100 [.tmp 6] 36 := mkO Tryz.func100 Tryz.ntmps100 Tryz.results100
theorem c_r22prv (S : ScpL) (f : QF) (l : List MultL) (P V kf : Nat) (hS : okScp S) (hz : szS S P V) (hq : szQ S.q P) (hB2 : P + 2 * V ≤ 20000000) (hn : nvar S ≤ 16) (hf : szF kf f) (hof : okF (nvar S) f) (hkf : 1 ≤ kf) (hl : szM l) (hsz : kf + l.length * (P + 2 * V + 18) + sumC l + 18 * (P + 2 * V + 40 + sumC l) ≤ 940000000) : Fn 100 [encScp S, encF f, .imm (l.map encMult)] (.data (.bool (dB (prvP S f l)))) := by
 have cs := c_r22sum S l P V hS hz hq hB2 hn hl (by omega);have lf := zF1 hS hn hof;have hso := sumR_ok hS l;have lsum := zF1 hS hn hso;have zs := sumR_sz hS hz hl;have cv := zHA f.L 4611686018427387904 (zBE (by omega) (okA_L hf (by omega)));have hval : validB f.L 4611686018427387904 = true := validB_true.2 (ValidF_le (by have := hn; omega) (valid_of hof));rw [hval, ← zG6] at cv;have cb := zDM f (sumR S l).1 kf _ hf zs hof.1 hso.1 (by omega) (by omega);have zb : szF (kf + (1 + l.length * (P + 2 * V + 18) + sumC l) + 2) (subQ f (sumR S l).1) := zED hf zs (by omega);have lc := zA6 zb.1;have csg := zC7 (cr (subQ f (sumR S l).1).c) (zA1 _) (by omega);rw [zBA] at csg;have h0 := sumR_0 (S := S) (l := l);have hno : ¬ okM S l l.length → false = dB (prvP S f l) := fun h => zFA fun e => h e.1
 have hfin : okM S l l.length → subQ f (sumR S l).1 = rstN S f l l.length := fun h => by rw [sumR_1 h, ← rst_sum hS hof l.length (Nat.le_refl _)]
 generalize hQ : subQ f (sumR S l).1 = Q at *
 generalize (sumR S l).1 = G at *
 generalize (sumR S l).2 = E at *
 refine zAJ hmix hT ok_r22prv (by simp [encScp, encF]) ?_;refine sts ?_;refine zAA cs rfl ?_
 (repeat' (first|refine stp ?_|with_reducible(refine brr ?_ ?_<;>intro h)));all_goals try(conv=>whnf)
 ·exact zAB rfl (congrArg PV.bool (hno fun e => by have := h0.2 e; contradiction))
 have hok : okM S l l.length := h0.1 (by assumption);have hQ2 := hfin hok
 have hres : ((Q.ts.length : Int) = 0 ∧ 0 ≤ sgnQ Q.c) ↔ prvP S f l := by
  rw [hQ2, sgnQ_nn'];exact ⟨fun e => ⟨hok, List.length_eq_zero_iff.1 (by omega), e.2⟩, fun e => ⟨by rw [e.2.1]; rfl, e.2.2⟩⟩
 refine zAA cv rfl ?_;refine sts ?_;refine zAA cb rfl ?_
 (repeat' (first|refine stp ?_|with_reducible(refine brr ?_ ?_<;>intro h)));all_goals try(conv=>whnf)
 ·refine zAA csg rfl ?_
  refine sts ?_;refine zAB rfl (congrArg PV.bool ?_);rw [Bool.eq_iff_iff, dB_true, ← hres];simp only [decide_eq_true_eq];exact ⟨fun e => ⟨by omega, e⟩, fun e => e.2⟩
 ·exact zAB rfl (congrArg PV.bool (zFA fun e => by have := (hres.2 e).1; omega))
theorem ok_r22ref : FO 99 Tryz.f99 [.tmp 4] 27 := mkO Tryz.func99 Tryz.ntmps99 Tryz.results99
theorem c_r22ref (S : ScpL) (l : List MultL) (P V : Nat) (hS : okScp S) (hz : szS S P V) (hq : szQ S.q P) (hB2 : P + 2 * V ≤ 20000000) (hn : nvar S ≤ 16) (hl : szM l) (hsz : 1 + l.length * (P + 2 * V + 18) + sumC l + 18 * (P + 2 * V + 40 + sumC l) ≤ 940000000) : Fn 99 [encScp S, .imm (l.map encMult)] (.data (.bool (dB (refP S l)))) := by
 have cs := c_r22sum S l P V hS hz hq hB2 hn hl hsz;have hso := sumR_ok hS l;have lsum := zF1 hS hn hso;have zs := sumR_sz hS hz hl;have lc := zA6 zs.1;have csg := zC7 (cr (sumR S l).1.c) (zA1 _) (by omega);rw [zBA] at csg;have h0 := sumR_0 (S := S) (l := l);have hno : ¬ okM S l l.length → false = dB (refP S l) := fun h => zFA fun e => h e.1
 have hfin : okM S l l.length → (((sumR S l).1.ts.length : Int) = 0 ∧ (sumR S l).1.c < 0 ↔ refP S l) := fun h => by
  rw [sumR_1 h];unfold refP;rw [rst_zero hS, rst_c hS (zFH _)];refine ⟨fun e => ⟨h, List.length_eq_zero_iff.1 (by omega), ?_⟩, fun e => ⟨by rw [e.2.1]; rfl, ?_⟩⟩
  ·have := e.2; simp only [zeroQ]; grind
  ·have := e.2.2; simp only [zeroQ] at this; grind
 generalize (sumR S l).1 = G at *
 generalize (sumR S l).2 = E at *
 refine zAJ hmix hT ok_r22ref (by simp [encScp]) ?_;refine sts ?_;refine zAA cs rfl ?_
 (repeat' (first|refine stp ?_|with_reducible(refine brr ?_ ?_<;>intro h)));all_goals try(conv=>whnf)
 ·refine zAA csg rfl ?_
  refine sts ?_;have hres := hfin (h0.1 (by assumption));refine zAB rfl (congrArg PV.bool ?_);rw [Bool.eq_iff_iff, dB_true, ← hres];simp only [decide_eq_true_eq, sgnQ_neg];exact ⟨fun e => ⟨by omega, e⟩, fun e => e.2⟩
 ·have hres := hfin (h0.1 (by assumption))
  exact zAB rfl (congrArg PV.bool (zFA fun e => by have := (hres.2 e).1; omega))
 ·exact zAB rfl (congrArg PV.bool (hno fun e => by have := h0.2 e; contradiction))
theorem ok_r22lem : FO 97 Tryz.f97 [.tmp 4] 53 := mkO Tryz.func97 Tryz.ntmps97 Tryz.results97
theorem c_r22lem (S : ScpL) (m : LemL) (P V : Nat) (hS : okScp S) (hz : szS S P V) (hq : szQ S.q P) (hB2 : P + 2 * V ≤ 20000000) (hn : nvar S ≤ 16) (hm : okQ V m.value) (hl : szM m.proof) (hsz : P + V + 10 + m.proof.length * (P + 2 * V + 18) + sumC m.proof + 18 * (P + 2 * V + 40 + sumC m.proof) ≤ 940000000) : Fn 97 [encScp S, encLem m] (.data (.bool (dB (lemP S m)))) := by
 have hnu := hS.1.1.2.1;have hB := hz.B;have hP := hz.P1;have no : ¬ lemP S m → false = dB (lemP S m) := zFA;have cva := zHM S.q P hq (by omega);rw [dB_true.2 hS.1] at cva;have cvv := zFB m.value hm.1 (by have := hm.2; omega) (by have := hm.2; omega);by_cases hu : 0 ≤ m.unit ∧ m.unit < S.q.g.units.length
 ·have hj : m.unit.toNat < S.q.g.units.length := by omega
  have hvu := hS.1.1.2.2.2.1 _ hj;have hpa := hz.units _ (get_mem hj);have szp : szF P S.q.g.units[m.unit.toNat]!.Q := zCQ hpa hP;have zn : szF (V + 1) (numQ' (qv m.value)) := zDE (zF2 (zBU (Nat.le_succ _) hm) (by omega));have hof : okF (nvar S) S.q.g.units[m.unit.toNat]!.Q := okF_le (by unfold nvar; omega) (zD0 hvu);have lp := zF1 hS hn hof;have cs := zDM S.q.g.units[m.unit.toNat]!.Q (numQ' (qv m.value)) P (V + 1) szp zn hof.1 (zDK _) (by omega) (by show _ + 0 ≤ _; omega);rw [zL4 hvu] at cs;have z1 : szF (P + V + 3) (subQ S.q.g.units[m.unit.toNat]!.Q (numQ' (qv m.value))) := zED szp zn (by omega);have s1 : Srt (subQ S.q.g.units[m.unit.toNat]!.Q (numQ' (qv m.value))).ts := zA8 hof.1 (zDK _);have l1 := zHD (f := S.q.g.units[m.unit.toNat]!.Q) (c := qv m.value);have cmin := zKF (-1) (by decide);have csc := zD7 (subQ S.q.g.units[m.unit.toNat]!.Q (numQ' (qv m.value))) (-1) _ 1 z1 (zCL (z := -1) (by decide)) s1 (by omega) (by omega)
  have hlf : szF (P + V + 10) (lemF S m) := by
   unfold lemF; split
   ·exact zF0 z1 (zCL (z := -1) (by decide)) (by omega)
   ·exact zFY (by omega) z1
  have hlo : okF (nvar S) (lemF S m) := by
   unfold lemF; split
   ·exact zJ4 (zDZ hof (zFJ _ _))
   ·exact zDZ hof (zFJ _ _)
  have cp := c_r22prv S (lemF S m) m.proof P V _ hS hz hq hB2 hn hlf hlo (by omega) hl hsz
  have fin : CanR m.value → dB (prvP S (lemF S m) m.proof) = dB (lemP S m) := fun hc => by
   rw [Bool.eq_iff_iff, dB_true, dB_true]; exact ⟨fun e => ⟨hu, hc, e⟩, fun e => e.2.2⟩
  refine zAJ hmix hT ok_r22lem (by simp [encScp, encLem]) ?_;refine sts ?_;refine zAA cva rfl ?_
  (repeat' (first|refine stp ?_|with_reducible(refine brr ?_ ?_<;>intro h)));all_goals try(conv=>whnf)
  all_goals try (exfalso; omega)
  refine zAA cvv rfl ?_
  (repeat' (first|refine stp ?_|with_reducible(refine brr ?_ ?_<;>intro h)));all_goals try(conv=>whnf)
  rotate_left
  ·exact zAB rfl (congrArg PV.bool (no fun e => by have := e.2.1; contradiction))
  have hcan : CanR m.value := by assumption
  have cn := zDN m.value hcan;refine zAY (j := m.unit.toNat) (show m.unit = _ by omega) hj ?_;refine sts ?_;refine zAA cn rfl ?_;refine sts ?_;refine zAA cs rfl ?_
  (repeat' (first|refine stp ?_|with_reducible(refine brr ?_ ?_<;>intro h)));all_goals try(conv=>whnf)
  ·have e1 : lemF S m = sclQ (subQ S.q.g.units[m.unit.toNat]!.Q (numQ' (qv m.value))) (-1) := if_pos (by assumption)
   rw [e1] at cp;refine zAA cmin rfl ?_;refine sts ?_;refine zAA csc rfl ?_;refine sts ?_;refine zAA cp rfl ?_;refine sts ?_;exact zAB rfl (congrArg PV.bool (by rw [← e1]; exact fin hcan))
  ·have e1 : lemF S m = subQ S.q.g.units[m.unit.toNat]!.Q (numQ' (qv m.value)) := if_neg (by rw [show m.upper = false by assumption]; decide)
   rw [e1] at cp;refine zAA cp rfl ?_;refine sts ?_;exact zAB rfl (congrArg PV.bool (by rw [← e1]; exact fin hcan))
 ·refine zAJ hmix hT ok_r22lem (by simp [encScp, encLem]) ?_
  refine sts ?_;refine zAA cva rfl ?_
  (repeat' (first|refine stp ?_|with_reducible(refine brr ?_ ?_<;>intro h)));all_goals try(conv=>whnf)
  all_goals try (exfalso; omega)
  all_goals exact zAB rfl (congrArg PV.bool (no fun e => hu e.1))
end Go.PI.Tryz
namespace Go.PI.Tryz
open Go.Proofs Go.PI
set_option maxHeartbeats 0
theorem frz_scp1 {h : Hp} {n b m : Nat} {S S' : ScpL} {els : List PV} (hq : S'.q = S.q) (hp : S'.path = S.path) (hb : h b = some ⟨els, 6, true⟩) (he : els = S'.lems.map encLem) (hm : m = S'.lems.length) : frz h (n + 3) (.agg [.int .i64 S.q.g.ins, .imm (S.q.g.units.map encAff), .imm (S.q.g.outs.map encAff), .imm (S.q.r.lo.map encRat), .imm (S.q.r.hi.map encRat), .imm (S.q.r.rows.map encAff), .imm (S.q.goal.terms.map encTerm), .bool S.q.goal.const.neg, encN S.q.goal.const.num, encN S.q.goal.const.den, .imm (S.path.map encDec), .own b 0 m]) = some (encScp S', [b]) := by
 rw [← hq, ← hp];refine zEL ?_;exact zAF (ks := []) rfl (zAF (ks := []) rfl (zAF (ks := []) rfl (zAF (ks := []) rfl (zAF (ks := []) rfl (zAF (ks := []) rfl (zAF (ks := []) rfl (zAF (ks := []) rfl (zAF (ks := []) rfl (zAF (ks := []) rfl (zAF (ks := []) rfl (zAF (ks := [b]) (zAN hb he hm fun x => by cases n <;> rfl) rfl)))))))))))
theorem frz_scp2 {h : Hp} {n a b k m : Nat} {S S' : ScpL} {els els' : List PV} (hq : S'.q = S.q) (ha : h a = some ⟨els', 5, true⟩) (he' : els' = S'.path.map encDec) (hk : k = S'.path.length) (hb : h b = some ⟨els, 6, true⟩) (he : els = S'.lems.map encLem) (hm : m = S'.lems.length) : frz h (n + 3) (.agg [.int .i64 S.q.g.ins, .imm (S.q.g.units.map encAff), .imm (S.q.g.outs.map encAff), .imm (S.q.r.lo.map encRat), .imm (S.q.r.hi.map encRat), .imm (S.q.r.rows.map encAff), .imm (S.q.goal.terms.map encTerm), .bool S.q.goal.const.neg, encN S.q.goal.const.num, encN S.q.goal.const.den, .own a 0 k, .own b 0 m]) = some (encScp S', [a, b]) := by
 rw [← hq];refine zEL ?_;exact zAF (ks := []) rfl (zAF (ks := []) rfl (zAF (ks := []) rfl (zAF (ks := []) rfl (zAF (ks := []) rfl (zAF (ks := []) rfl (zAF (ks := []) rfl (zAF (ks := []) rfl (zAF (ks := []) rfl (zAF (ks := []) rfl (zAF (ks := [a]) (zAN ha he' hk fun x => by cases n <;> rfl) (zAF (ks := [b]) (zAN hb he hm fun x => by cases n <;> rfl) rfl)))))))))))
theorem ok_right : FO 62 Tryz.f62 [.tmp 4] 59 := mkO Tryz.func62 Tryz.ntmps62 Tryz.results62
theorem c_right (S : ScpL) (n : NodeL) (P V v c d : Nat) (hS : okScp S) (hz : szT S P V v c d) (hn : NodeZ P V v c n) (hsm : n.Sm) (hq : szQ S.q P) (hB2 : P + 2 * V ≤ 20000000) (hv : nvar S ≤ 16) : Fn 62 [encScp S, nodeV n] (.data (.bool (dB (rightP S n)))) := by
 have hl := hsm.len;have l1 := hsm.prf.1;have l2 := hsm.lems.1;have p2 := hz.num;have n2 := hn.num;refine zAJ hmix hT ok_right (by simp [encScp]) ?_;refine sns ?_;have e0 : scpL S (n.lemmas.take 0) = S := by unfold scpL; rw [List.take_zero, List.append_nil]
 refine zAL hT (fun (i : Nat) => [(2, .ptr 0 0 0), (3, .ptr 1 0 0), (5, .int .i64 i)])
  (fun i => [(0, ⟨[encScp (scpL S (n.lemmas.take i))], 12, true⟩), (1, ⟨[nodeV n], 9, true⟩)]) [] 2
  (fun i => i ≤ n.lemmas.length ∧ ∀ k, k < i → lemP (scpL S (n.lemmas.take k)) n.lemmas[k]!) (fun i => n.lemmas.length - i) 0 ⟨Nat.zero_le _, fun k h => by omega⟩ (by decide) (by simp) ?_ ?_
 ·dsimp only
  rw [e0];exact ⟨[0, 1], [], [], [], ttt, ⟨apx, apx, zAC rfl rfl, trivial⟩, ⟨bbx, bbx, trivial⟩, by simp [ren]⟩
 rintro i ⟨i1, i2⟩
 have hcan : ∀ k, k < i → CanR n.lemmas[k]!.value := fun k hk => (i2 k hk).2.1
 have hzi := hz.take hn i1 hcan;have hSi : okScp (scpL S (n.lemmas.take i)) := ok_add hS;have lems : (scpL S (n.lemmas.take i)).lems.length = S.lems.length + i := by unfold scpL; rw [List.length_append, List.length_take]; omega
 by_cases hi : i < n.lemmas.length
 ·have hm := get_mem hi
  obtain ⟨m1, m2, m3⟩ := hn.lem _ hm;have hvm := lv_le hn.val hz.val.1 hm;have cl := c_r22lem (scpL S (n.lemmas.take i)) n.lemmas[i]! P V hSi hzi.szS hq hB2 hv (zBU (by omega) m1) m2 (by omega)
  (repeat' (first|refine stn ?_|(with_reducible refine brr ?_ ?_<;>intro h)|(with_reducible refine zAI ?_ ?_<;>intro h)|with_reducible refine zAW ?_ ?_)); all_goals try (conv=>whnf)
  all_goals try (exfalso; omega)
  refine zAA cl rfl ?_
  (repeat' (first|refine stn ?_|(with_reducible refine brr ?_ ?_<;>intro h)|(with_reducible refine zAI ?_ ?_<;>intro h)|with_reducible refine zAW ?_ ?_)); all_goals try (conv=>whnf)
  rotate_left
  ·have hlem := dB_false.1 (by assumption : dB _ = false)
   exact zAB rfl (congrArg PV.bool (zFA fun e => hlem (e.1 i hi)))
  have hlem := dB_true.1 (by assumption : dB _ = true)
  have e1 : scpL S (n.lemmas.take (i + 1)) = ⟨S.q, S.path, (S.lems ++ n.lemmas.take i) ++ [n.lemmas[i]!]⟩ := by
   unfold scpL; rw [List.append_assoc, List.take_succ_eq_append_getElem hi, getElem!_pos n.lemmas i hi]
  refine ⟨i + 1, ⟨⟨by omega, fun k hk => zAZ (p := fun k => lemP (scpL S (n.lemmas.take k)) n.lemmas[k]!) i2 hlem hk⟩, by show n.lemmas.length - (i + 1) < n.lemmas.length - i; omega⟩, ?_⟩;refine ⟨[0, 1], [29], [], [(0, [encScp (scpL S (n.lemmas.take (i + 1)))])], ⟨⟨⟨_, rfl⟩, trivial⟩, trivial, ⟨⟨_, 6, _, rfl, zAF (frz_scp1 (S := S) rfl rfl rfl ?_ ?_) rfl, rfl⟩, trivial⟩⟩, ⟨apx, apx, zAC rfl rfl, trivial⟩, ⟨bbx, bbx, trivial⟩, by simp [ren]⟩
  ·rw [e1]
   show ([] ++ List.map encLem (S.lems ++ n.lemmas.take i)) ++ [encLem n.lemmas[i]!] = List.map encLem (S.lems ++ n.lemmas.take i ++ [n.lemmas[i]!])
   rw [List.nil_append, List.map_append (l₂ := [n.lemmas[i]!])]; rfl
  ·rw [e1]
   show (0 + (List.map encLem (S.lems ++ n.lemmas.take i)).length) + 1 = (S.lems ++ n.lemmas.take i ++ [n.lemmas[i]!]).length
   simp; omega
 ·obtain rfl : i = n.lemmas.length := by omega
  rw [List.take_length] at *
  have hlems : lemsP S n.lemmas := i2;have cf := c_r21Fits S.q n.split P hq (by omega) (zBU (by omega) hn.spl);have cr := c_r22ref (scpL S n.lemmas) n.proof P V hSi hzi.szS hq hB2 hv hn.prf.1 (by have := hn.prf.2; omega);have hvg : ValidF S.q.goal (S.q.g.ins + S.q.g.units.length) := hS.1.2.2;have cp := c_r22prv (scpL S n.lemmas) S.q.goal.Q n.proof P V 40000000 hSi hzi.szS hq hB2 hv (zCQ hz.goal (by decide)) (zD0 hvg) (by decide) hn.prf.1 (by have := hn.prf.2; omega);rw [zL4 hvg] at cp
  (repeat' (first|refine stn ?_|(with_reducible refine brr ?_ ?_<;>intro h)|(with_reducible refine zAI ?_ ?_<;>intro h)|with_reducible refine zAW ?_ ?_)); all_goals try (conv=>whnf)
  all_goals try (exfalso; omega)
  ·have hk : ¬ n.kids.length = 0 := by omega
   refine zAA cf rfl ?_;refine sns ?_;refine zAB rfl (congrArg PV.bool ?_);rw [Bool.eq_iff_iff, dB_true, dB_true];exact ⟨fun e => ⟨hlems, by rw [if_neg hk]; exact e.2⟩, fun e => ⟨hS.1, by have := e.2; rw [if_neg hk] at this; exact this⟩⟩
  ·have hk : n.kids.length = 0 := by omega
   have he : n.empty = true := by assumption
   refine zAA cr rfl ?_;refine sns ?_;refine zAB rfl (congrArg PV.bool ?_);rw [Bool.eq_iff_iff, dB_true, dB_true];exact ⟨fun e => ⟨hlems, by rw [if_pos hk, if_pos he]; exact e⟩, fun e => by have := e.2; rw [if_pos hk, if_pos he] at this; exact this⟩
  ·have hk : n.kids.length = 0 := by omega
   have he : ¬ n.empty = true := by rw [show n.empty = false by assumption]; decide
   refine zAA cp rfl ?_;refine sns ?_;refine zAB rfl (congrArg PV.bool ?_);rw [Bool.eq_iff_iff, dB_true, dB_true];exact ⟨fun e => ⟨hlems, by rw [if_pos hk, if_neg he]; exact e⟩, fun e => by have := e.2; rw [if_pos hk, if_neg he] at this; exact this⟩
noncomputable def belV (S : ScpL) (n : NodeL) : PV := match belowO S n with
 | none => .tup [.imm [], .bool true]
 | some p => .tup [.imm (p.map encDec), .bool false]
theorem ok_below48 : FO 24 Tryz.f24 [.tmp 4, .tmp 5] 53 := mkO Tryz.func24 Tryz.ntmps24 Tryz.results24
theorem c_below48 : ∀ (s : Nat) (n : NodeL) (S : ScpL) (P V v c d : Nat), SizeOf.sizeOf n < s → n.Sm → formOk d n = true → okScp S → szT S P V v c d → NodeZ P V v c n → szQ S.q P → P + 2 * V ≤ 20000000 → nvar S ≤ 16 → Fn 24 [encScp S, nodeV n] (.data (belV S n)) := by
 intro s
 induction s with
 | zero => intro n S P V v c d h; omega
 | succ s ih =>
   intro n S P V v c d hs hsm hf hS hz hn hq hB2 hv;have hl := hsm.len;have l2 := hsm.lems.1;have p1 := hz.plen;have p2 := hz.num;have n2 := hn.num;have cr := c_right S n P V v c d hS hz hn hsm hq hB2 hv;refine zAJ hmix hT ok_below48 (by simp [encScp]) ?_;refine sns ?_;refine zAA cr rfl ?_
   (repeat' (first|refine stn ?_|(with_reducible refine brr ?_ ?_<;>intro h)|(with_reducible refine zAI ?_ ?_<;>intro h)|with_reducible refine zAW ?_ ?_)); all_goals try (conv=>whnf)
   rotate_left
   ·have hr := dB_false.1 (by assumption : dB _ = false)
    have e : belV S n = .tup [.imm (S.path.map encDec), .bool false] := by unfold belV; rw [zCW hr]
    rw [e];exact zAB (zEK (zAF (zAN (f := encDec) (l := S.path) rfl (by show [] ++ List.map encDec S.path = _; rw [List.nil_append]) (by show 0 + (List.map encDec S.path).length = _; simp) fun x => rfl) rfl)) rfl
   have hr := dB_true.1 (by assumption : dB _ = true);have hlems := hr.1;have hcan2 : ∀ k, k < n.lemmas.length → CanR n.lemmas[k]!.value := fun k hk => (hlems k hk).2.1
   refine zAL hT (fun (i : Nat) => [(2, .ptr 0 0 0), (3, .ptr 1 0 0), (6, .int .i64 i)])
    (fun _ => [(0, ⟨[encScp S], 12, true⟩), (1, ⟨[nodeV n], 9, true⟩)]) [] 2
    (fun i => i ≤ n.kids.length ∧ ∀ j, j < i → belowO (kidS S n (kidD n j)) n.kids[j]! = none) (fun i => n.kids.length - i) 0 ⟨Nat.zero_le _, fun k h => by omega⟩ (by decide) (by simp) ?_ ?_
   ·exact ⟨[0, 1], [], [], [], ttt, ⟨apx, apx, zAC rfl rfl, trivial⟩, ⟨bbx, bbx, trivial⟩, by simp [ren]⟩
   rintro i ⟨i1, i2⟩
   by_cases hi : i < n.kids.length
   ·have hk : n.kids.length ≠ 0 := by omega
    have hfo := hf;rw [zB8 hk] at hfo;simp only [Bool.and_eq_true, decide_eq_true_eq] at hfo;have hd0 : d ≠ 0 := hfo.1.2;have h5 := hfo.1.1;unfold innerOk at h5;obtain ⟨e1, _⟩ := of_decide_eq_true h5;have hfk := zEU e1 (d := d);rw [hf] at hfk;have hfk := hfk.symm;simp only [Bool.and_eq_true] at hfk;have hfit : fitD S.q n.split := by have := hr.2; rw [if_neg hk] at this; exact this
    have ck := c_refKid S.path n i (by omega);obtain ⟨D, hD⟩ : ∃ D, kidD n i = D := ⟨_, rfl⟩;rw [hD] at ck
    have hDk : (i = 0 ∧ D = n.split) ∨ (i = 1 ∧ D = opp n.split) := by
     rcases Nat.lt_or_ge i 1 with h | h
     ·obtain rfl : i = 0 := by omega
      exact Or.inl ⟨rfl, hD.symm⟩
     ·obtain rfl : i = 1 := by omega
      exact Or.inr ⟨rfl, hD.symm⟩
    have hdr : D.rat = n.split.rat := by
     rcases hDk with ⟨_, e⟩ | ⟨_, e⟩ <;> rw [e]
     rfl
    have hDf : fitD S.q D := by
     rcases hDk with ⟨_, e⟩ | ⟨_, e⟩ <;> rw [e]
     ·exact hfit
     ·exact fit_op hfit
    have hz2 : szT (kidS S n D) P V v (c - n.lemmas.length) (d - 1) := hz.kid hd0 hn hcan2 (by rw [hdr]; exact hn.spl);have hkm : n.kids[i]! ∈ n.kids := get_mem (by omega);have hks := NodeL.sizeOf_kid hkm
    have hkf : formOk (d - 1) n.kids[i]! = true := by
     rcases hDk with ⟨e, _⟩ | ⟨e, _⟩ <;> rw [e]
     ·exact hfk.2.1
     ·exact hfk.2.2
    have cb := ih n.kids[i]! (kidS S n D) P V _ _ (d - 1) (by omega) (hsm.kid hkm) hkf (ok_kid hS hDf) hz2 (hn.kid _ hkm) hq hB2 hv
    (repeat' (first|refine stn ?_|(with_reducible refine brr ?_ ?_<;>intro h)|(with_reducible refine zAI ?_ ?_<;>intro h)|with_reducible refine zAW ?_ ?_)); all_goals try (conv=>whnf)
    all_goals try (exfalso; omega)
    refine zGK ck rfl ?_;refine sns ?_;unfold belV at cb;have arg : ∀ {h : Hp} {a b k m : Nat} {els els' : List PV}, h a = some ⟨els', 5, true⟩ → els' = (S.path ++ [D]).map encDec → k = (S.path ++ [D]).length → h b = some ⟨els, 6, true⟩ → els = (S.lems ++ n.lemmas).map encLem → m = (S.lems ++ n.lemmas).length → frz h 6 (.agg [.int .i64 S.q.g.ins, .imm (S.q.g.units.map encAff), .imm (S.q.g.outs.map encAff), .imm (S.q.r.lo.map encRat), .imm (S.q.r.hi.map encRat), .imm (S.q.r.rows.map encAff), .imm (S.q.goal.terms.map encTerm), .bool S.q.goal.const.neg, encN S.q.goal.const.num, encN S.q.goal.const.den, .own a 0 k, .own b 0 m]) = some (encScp (kidS S n D), [a, b]) := fun h1 h2 h3 h4 h5 h6 => frz_scp2 (S := S) (S' := kidS S n D) rfl h1 h2 h3 h4 h5 h6
    cases hb0 : belowO (kidS S n D) n.kids[i]! with
    | none =>
      rw [hb0] at cb;refine zAA cb (zAF (arg rfl rfl (by simp) rfl (by show [] ++ List.map encLem S.lems ++ List.map encLem n.lemmas = _; simp) (by show 0 + (List.map encLem S.lems).length + (List.map encLem n.lemmas).length = _; simp)) (zAF rfl rfl)) ?_;refine sns ?_;exact ⟨i + 1, ⟨⟨by omega, fun j hj => zAZ (p := fun j => belowO (kidS S n (kidD n j)) n.kids[j]! = none) i2 (by rw [hD]; exact hb0) hj⟩, by show n.kids.length - (i + 1) < n.kids.length - i; omega⟩, [0, 1], [], [], [], ttt, ⟨apx, apx, zAC rfl rfl, trivial⟩, ⟨bbx, bbx, trivial⟩, by simp [ren]⟩
    | some p =>
      rw [hb0] at cb;refine zAA cb (zAF (arg rfl rfl (by simp) rfl (by show [] ++ List.map encLem S.lems ++ List.map encLem n.lemmas = _; simp) (by show 0 + (List.map encLem S.lems).length + (List.map encLem n.lemmas).length = _; simp)) (zAF rfl rfl)) ?_;refine sns ?_
      have e : belV S n = .tup [.imm (p.map encDec), .bool false] := by
       unfold belV;rw [zDV hr (zK7 e1)];rcases hDk with ⟨e, e2⟩ | ⟨e, e2⟩
       ·rw [e, e2] at hb0
        rw [hb0]
       ·have h0 := i2 0 (by omega)
        rw [e, e2] at hb0;rw [show belowO (kidS S n n.split) n.kids[0]! = none from h0];dsimp only;rw [hb0]
      rw [e];exact zAB rfl rfl
   ·obtain rfl : i = n.kids.length := by omega
    have e : belV S n = .tup [.imm [], .bool true] := by
     unfold belV;rcases Nat.eq_zero_or_pos n.kids.length with h0 | h0
     ·rw [zEX hr h0]
     ·have hfo := hf
      rw [zB8 (by omega)] at hfo;simp only [Bool.and_eq_true, decide_eq_true_eq] at hfo;have h5 := hfo.1.1;unfold innerOk at h5;obtain ⟨e1, _⟩ := of_decide_eq_true h5;rw [zDV hr (zK7 e1), show belowO (kidS S n n.split) n.kids[0]! = none from i2 0 (by omega)];dsimp only;rw [show belowO (kidS S n (opD' n.split)) n.kids[1]! = none from i2 1 (by omega)]
    rw [e]
    (repeat' (first|refine stn ?_|(with_reducible refine brr ?_ ?_<;>intro h)|(with_reducible refine zAI ?_ ?_<;>intro h)|with_reducible refine zAW ?_ ?_)); all_goals try (conv=>whnf)
    all_goals try (exfalso; omega)
    exact zAB rfl rfl
theorem ok_rtree48 : FO 14 Tryz.f14 [.tmp 4, .tmp 5] 26 := mkO Tryz.func14 Tryz.ntmps14 Tryz.results14
theorem c_rtree48 (q : QryL) (n : NodeL) (P V v : Nat) (hvV : v ≤ V) (hq : szQ q P) (hs : n.Sm) (hz : NodeZ P V v 1048576 n) (hB : P + 2 * V + 20 ≤ 20000000) (hv : q.g.ins + q.g.units.length ≤ 16) : Fn 14 [encQry q, nodeV n] (.data (.tup [.imm ((treeR q n).1.map encDec), .int .i64 (treeR q n).2])) := by
 have cva := zHM q P hq (by omega);have crv := c_refValid n hs
 have bad : ¬ (n.valid = true ∧ VaQ q) → PV.tup [.imm [], .int .i64 1] = .tup [.imm ((treeR q n).1.map encDec), .int .i64 (treeR q n).2] := fun h => by
  unfold treeR;rw [if_neg h]; rfl
 refine zAJ hmix hT ok_rtree48 (by simp [encQry]) ?_;refine sns ?_;refine zAA cva rfl ?_
 (repeat' (first|refine stn ?_|(with_reducible refine brr ?_ ?_<;>intro h)|(with_reducible refine zAI ?_ ?_<;>intro h)|with_reducible refine zAW ?_ ?_)); all_goals try (conv=>whnf)
 rotate_left
 ·have hva := dB_false.1 (by assumption : dB _ = false)
  exact zAB rfl (bad fun e => hva e.2)
 have hVa := dB_true.1 (by assumption : dB (VaQ q) = true);refine zAA crv rfl ?_
 (repeat' (first|refine stn ?_|(with_reducible refine brr ?_ ?_<;>intro h)|(with_reducible refine zAI ?_ ?_<;>intro h)|with_reducible refine zAW ?_ ?_)); all_goals try (conv=>whnf)
 rotate_left
 ·have hval : n.valid = false := by assumption
  exact zAB rfl (bad fun e => by rw [hval] at e; exact absurd e.1 (by decide))
 have hval : n.valid = true := by assumption
 have hS : okScp ⟨q, [], []⟩ := ⟨hVa, fun d hd => by cases hd⟩
 have hsz : szT ⟨q, [], []⟩ P V v 1048576 2048 := by
  refine ⟨hq.P1, hq.g.1.2, hq.r.1, hq.r.2.1, ⟨hq.r.2.2.2, hq.r.2.2.1⟩, hq.goal, (by show 0 + 2048 ≤ 1048576; omega), (fun d hd => by cases hd), (fun d hd => by cases hd), (fun d hd => by cases hd), ⟨hvV, fun m hm => by cases hm⟩, (by show 0 + 1048576 ≤ 1048576; omega), by omega, ?_⟩;show q.g.ins + q.g.units.length ≤ 1280
  omega
 have hfo : formOk 2048 n = true := by unfold NodeL.valid at hval; simp only [Bool.and_eq_true] at hval; exact hval.1
 have cb := c_below48 _ n ⟨q, [], []⟩ P V v 1048576 2048 (Nat.lt_succ_self _) hs hfo hS hsz hz hq (by omega) hv
 have hres : treeR q n = (match belowO ⟨q, [], []⟩ n with
  | none => ([], 0)
  | some p => (p, 12)) := if_pos ⟨hval, hVa⟩
 unfold belV at cb;rw [hres];cases hb0 : belowO ⟨q, [], []⟩ n with
 | none =>
   rw [hb0] at cb;refine zAA cb rfl ?_;refine sns ?_;exact zAB rfl rfl
 | some p =>
   rw [hb0] at cb;refine zAA cb rfl ?_;refine sns ?_;exact zAB rfl rfl
end Go.PI.Tryz
namespace Go.PI.Tryz
open Go.Proofs Go.PI
theorem lsz_wt (most : Int) : ∀ (n : Nat) (x : NodeL), SizeOf.sizeOf x < n → lsz most x ≤ most → (x.wt : Int) = lsz most x := by
 intro n
 induction n with
 | zero => intro x h; omega
 | succ n ih =>
   intro x hx hm;rw [lsz_eq] at hm;have h1 : ∀ k : NodeL, 1 ≤ lsz most k := fun k => (zD5 most _ k (Nat.lt_succ_self _)).1
   obtain ⟨h2, h3⟩ := foldl_all most x.kids (fun k _ => h1 k) _ hm;rw [lsz_eq, h2, x.wt_eq]
   have h4 : ∀ l : List NodeL, (∀ k ∈ l, k ∈ x.kids) → (((l.map NodeL.wt).sum : Nat) : Int) = (l.map (lsz most)).sum := by
    intro l
    induction l with
    | nil => intro _; simp
    | cons a l ihl =>
      intro hl;have ha := hl a (by simp);have g1 := ih a (by have := NodeL.sizeOf_kid ha; omega) (by have := h3 a ha; omega);have g2 := ihl (fun k hk => hl k (by simp [hk]));simp only [List.map_cons, List.sum_cons];omega
   have := h4 x.kids (fun _ h => h);have hl := zIV x.lemmas;omega
theorem ok_lsize48 : FO 19 Tryz.f19 [.tmp 4] 54 := mkO Tryz.func19 Tryz.ntmps19 Tryz.results19
theorem c_lsize48 : ∀ (n : Nat) (x : NodeL) (most : Int), SizeOf.sizeOf x < n → x.wt ≤ 2097152 → Fn 19 [nodeV x, .int .i64 most] (.data (.int .i64 (lsz most x))) := by
 intro n
 induction n with
 | zero => intro x y h; omega
 | succ n ih =>
   intro x most hx hs;have hw := x.wt_eq;have hlw := zIV x.lemmas;have hk := zHZ most x.kids (fun k _ => zD5 most _ k (Nat.lt_succ_self _)) (1 + x.lemmas.length + x.proof.length + ((x.lemmas.map fun x => x.proof.length).sum : Nat));have hlz := lsz_eq most x;have hkl := kids_len_wt x;refine zAJ hmix hT ok_lsize48 (by simp) ?_;refine sns ?_
   refine zD6 hT (fun i : Nat => [(1, .int .i64 most), (2, .ptr 0 0 0), (5, .int .i64 (1 + x.lemmas.length + x.proof.length + (((x.lemmas.take i).map fun x => x.proof.length).sum : Nat))), (6, .int .i64 i)]) (fun _ => [(0, ⟨[nodeV x], 9, true⟩)]) [] 1 (fun i => i ≤ x.lemmas.length) (fun i => x.lemmas.length - i) 0 (by simp) (by decide) (by simp)
    [0] ⟨zAC rfl rfl, apx, zAC rfl (by simp), zAC rfl rfl, trivial⟩ ⟨bbx, trivial⟩ (by simp) ?_
   intro i hi;have hsl := @sum_take_le _ (fun x : LemL => x.proof.length) x.lemmas i
   (repeat' (first|refine stn ?_|(with_reducible refine brr ?_ ?_<;>intro h)|(with_reducible refine zAI ?_ ?_<;>intro h)|with_reducible refine zAW ?_ ?_)); all_goals try (conv=>whnf)
   ·have hi' : i < x.lemmas.length := by omega
    have hs1 := sum_take_succ (f := fun x : LemL => x.proof.length) hi';have hs2 := @sum_take_le _ (fun x : LemL => x.proof.length) x.lemmas (i + 1);refine zMS (by simp only [List.length_map]; omega) ?_;refine sns ?_;exact ⟨i + 1, [0], ⟨by omega, by omega⟩, ⟨zAC rfl rfl, apx, zAC rfl (by simp only [List.length_map]; omega), zAC rfl (by omega), trivial⟩, ⟨bbx, trivial⟩, by simp [ren]⟩
   ·have e : x.lemmas.take i = x.lemmas := List.take_of_length_le (by omega)
    rw [e];generalize hk0 : (1 + (x.lemmas.length : Int) + x.proof.length + ((x.lemmas.map fun x => x.proof.length).sum : Nat)) = k0 at *
    have kb : ∀ i, k0 ≤ ((x.kids.take i).map (lsz most)).foldl (fun k c => if k ≤ most then k + c else k) k0 ∧ ((x.kids.take i).map (lsz most)).foldl (fun k c => if k ≤ most then k + c else k) k0 ≤ k0 + (x.kids.map NodeL.wt).sum := fun i => by
     have h1 := zHZ most (x.kids.take i) (fun k _ => zD5 most _ k (Nat.lt_succ_self _)) k0;have h2 := @sum_take_le _ NodeL.wt x.kids i;omega
    refine zD6 hT (fun i : Nat => [(1, .int .i64 most), (2, .ptr 0 0 0), (5, .int .i64 (((x.kids.take i).map (lsz most)).foldl (fun k c => if k ≤ most then k + c else k) k0)), (7, .int .i64 i)]) (fun _ => [(0, ⟨[nodeV x], 9, true⟩)]) [] 1 (fun i => i ≤ x.kids.length) (fun i => x.kids.length - i) 0 (by simp) (by decide) (by simp)
     [0] ⟨zAC rfl rfl, apx, zAC rfl rfl, zAC rfl rfl, trivial⟩ ⟨bbx, trivial⟩ (by simp [ren]) ?_
    intro i hi;have kb0 := kb i;have kb1 := kb (i + 1)
    (repeat' (first|refine stn ?_|(with_reducible refine brr ?_ ?_<;>intro h)|(with_reducible refine zAI ?_ ?_<;>intro h)|with_reducible refine zAW ?_ ?_)); all_goals try (conv=>whnf)
    ·have hi' : i < x.kids.length := by omega
     have hkm : x.kids[i]! ∈ x.kids := bang_mem hi';have hwk := wt_kid hkm;have hlb := zD5 most _ x.kids[i]! (Nat.lt_succ_self _)
     have hst : ((x.kids.take (i + 1)).map (lsz most)).foldl (fun k c => if k ≤ most then k + c else k) k0 = ((x.kids.take i).map (lsz most)).foldl (fun k c => if k ≤ most then k + c else k) k0 + lsz most x.kids[i]! := by
      rw [List.take_succ_eq_append_getElem hi', List.map_append, List.foldl_append, getElem!_pos x.kids i hi'];simp only [List.map_cons, List.map_nil, List.foldl_cons, List.foldl_nil];rw [if_pos h]
     refine zAA (ih x.kids[i]! most (by have := NodeL.sizeOf_kid hkm; omega) (by omega)) rfl ?_;refine sns ?_;exact ⟨i + 1, [0], ⟨by omega, by omega⟩, ⟨zAC rfl rfl, apx, zAC rfl (by omega), zAC rfl (by omega), trivial⟩, ⟨bbx, trivial⟩, by simp [ren]⟩
    ·refine zAB rfl ?_
     rw [hlz]
     conv => rhs; rw [← List.take_append_drop i x.kids, List.map_append, List.foldl_append, zJV most _ _ h]
    ·refine zAB rfl ?_
     rw [hlz, List.take_of_length_le (by omega)]
end Go.PI.Tryz
namespace Go.PI.Tryz
open Go.Proofs Go.PI
theorem cost_of {P V C : Nat} {l : List MultL} (hr : ∀ p ∈ l, okR p.coef) (hl : l.length ≤ 400) (hC : sC l ≤ C) (hB : P + V + C ≤ 1048600) : costM P V l := by
 refine ⟨⟨by omega, fun p hp => ?_⟩, ?_⟩
 ·have := sC_mem hp
  unfold lQ at this;exact ⟨hr p hp, by omega, by omega⟩
 ·have h1 : l.length * (P + 2 * V + 18) ≤ 400 * (P + 2 * V + 18) := Nat.mul_le_mul_right _ hl
  have h2 : sumC l ≤ C := hC;omega
theorem nodeZ_of {P V v : Nat} : ∀ (k : Nat) (n : NodeL) (c : Nat), SizeOf.sizeOf n < k → n.NOk → n.wt ≤ 400 → n.tot spF ≤ P → P + V + n.tot coF ≤ 1048600 → n.tot uF ≤ v → n.tot lF ≤ V - v → n.wt ≤ c → NodeZ P V v c n := by
 intro k
 induction k with
 | zero => intro n c h; omega
 | succ k ih =>
   intro n c h hok hw hP hB hu hl hc;have s1 := zKK spF n;have s2 := zKK uF n;have s4 := zKK lF n;have s3 := zKK coF n;have hwt := n.wt_eq;have hll := zIV n.lemmas;refine .mk v c n (fun m hm => ?_) (by omega) (fun m hm => ⟨⟨(hok.lem m hm).1, by unfold lenQ; omega, by unfold lenQ; omega⟩, ?_⟩) ?_ ?_ fun x hx => ?_
   ·split
    ·rename_i hup
     have h1 : (if m.upper = true then lQ m.value else 0) ≤ uL n.lemmas := zGA (f := fun m : LemL => if m.upper = true then lQ m.value else 0) hm;rw [if_pos hup] at h1;have e : uF n = uL n.lemmas := rfl;have e2 : lenQ m.value = lQ m.value := rfl;omega
    ·rename_i hup
     have h1 : (if m.upper = true then 0 else lQ m.value) ≤ loL n.lemmas := zGA (f := fun m : LemL => if m.upper = true then 0 else lQ m.value) hm;rw [if_neg hup] at h1;have e : lF n = loL n.lemmas := rfl;have e2 : lenQ m.value = lQ m.value := rfl;omega
   ·have h1 : lemWt m ≤ (n.lemmas.map lemWt).sum := zGA hm
    have h2 : sC m.proof ≤ (n.lemmas.map fun m => sC m.proof).sum := zGA (f := fun m : LemL => sC m.proof) hm;have e1 : lemWt m = 1 + m.proof.length := rfl;have e2 : coF n = (n.lemmas.map fun m => sC m.proof).sum + sC n.proof := rfl;exact cost_of (hok.lem m hm).2 (by omega) (C := n.tot coF) (by omega) hB
   ·have e1 : spF n = n.split.rat.num.length + n.split.rat.den.length := rfl
    exact ⟨hok.spl, by omega, by omega⟩
   ·have e2 : coF n = (n.lemmas.map fun m => sC m.proof).sum + sC n.proof := rfl
    exact cost_of hok.prf (by omega) (C := n.tot coF) (by omega) hB
   ·have k1 := tot_kid (f := spF) hx
    have k2 := tot_kid (f := uF) hx;have k4 := tot_kid (f := lF) hx;have k3 := tot_kid (f := coF) hx;have k5 : x.wt ≤ (n.kids.map NodeL.wt).sum := zGA hx;exact ih x _ (by have := NodeL.sizeOf_kid hx; omega) (hok.kid hx) (by omega) (by omega) (by omega) (by omega) (by omega) (by omega)
structure inZ (q : QryL) (n : NodeL) (P V v : Nat) : Prop where
 q : szQ q P
 hv : v ≤ V
 B : P + 2 * V + 20 ≤ 20000000
 z : NodeZ P V v 1048576 n
 sm : n.Sm
 cnt : n.cnt ≤ 4194304
theorem inZ.trees {q : QryL} {n : NodeL} {P V v : Nat} (h : inZ q n P V v) (hv : q.g.ins + q.g.units.length ≤ 16) :
 Fn 13 [encQry q, nodeV n] (.data (.tup [.imm ((treeR q n).1.map encDec), .int .i64 (treeR q n).2])) ∧ Fn 14 [encQry q, nodeV n] (.data (.tup [.imm ((treeR q n).1.map encDec), .int .i64 (treeR q n).2])) := by
 have hB := h.B;exact ⟨c_ktree q n P V v h.hv h.q h.sm h.cnt h.z (by omega), c_rtree48 q n P V v h.hv h.q h.sm h.z hB hv⟩
theorem szQ.le {q : QryL} {P P' : Nat} (hq : szQ q P) (h : P ≤ P') : szQ q P' := by
 have hg : okGra P' q.g := ⟨⟨hq.g.1.1, fun f hf => zBE h (hq.g.1.2 f hf)⟩, ⟨hq.g.2.1, fun f hf => zBE h (hq.g.2.2 f hf)⟩⟩;exact ⟨by have := hq.P1; omega, hg, zEJ h hq.r, hq.goal⟩
structure inB (q : QryL) (n : NodeL) (Bq Bn : Nat) : Prop where
 q : szQ q Bq
 B : Bq + Bn ≤ 1048590
 ok : n.NOk
 sm : n.Sm
 bk : n.bk ≤ Bn
 wt : n.wt ≤ Bn
theorem inB.z {q : QryL} {n : NodeL} {Bq Bn : Nat} (h : inB q n Bq Bn) (hw : n.wt ≤ 400) : inZ q n (Bq + n.tot spF) (n.tot vlF) (n.tot uF) := by
 have hb := bk_eq n;have hvl := vl_tot n;have hbk := h.bk;have hB := h.B;have hc := cnt_wt _ n (Nat.lt_succ_self _);exact ⟨h.q.le (by omega), by omega, by omega, nodeZ_of _ n _ (Nat.lt_succ_self _) h.ok hw (by omega) (by omega) (Nat.le_refl _) (by omega) (by omega), h.sm, by omega⟩
theorem zKJ {q : QryL} {n : NodeL} {Bq Bn : Nat} (h : inB q n Bq Bn) (hw : n.wt ≤ 400) (hv : q.g.ins + q.g.units.length ≤ 16) :
 Fn 13 [encQry q, nodeV n] (.data (.tup [.imm ((treeR q n).1.map encDec), .int .i64 (treeR q n).2])) ∧ Fn 14 [encQry q, nodeV n] (.data (.tup [.imm ((treeR q n).1.map encDec), .int .i64 (treeR q n).2])) := (h.z hw).trees hv
end Go.PI.Tryz
namespace Go.PI.Tryz
open Go.Proofs Go.PI
theorem ok_mult48 : FO 42 Tryz.f42 [.cell 2 105] 7 := mkO Tryz.func42 Tryz.ntmps42 Tryz.results42
theorem zK2 (k : Int) : Fn 42 [.int .i64 k] (.data (encMult (mE k))) := by
 have co := zKF 1 (by decide);refine zAJ hmix hT ok_mult48 (by simp) ?_;refine sts ?_;refine zAA co rfl ?_;refine sts ?_;exact zAB rfl rfl
theorem qE_sz : szQ qE 2 := by
 have h1 : szF 2 (varQ 0) := ⟨zC9 (by decide) (zCL (z := 0) (by decide)), fun p hp => by rw [List.mem_singleton.1 hp]; exact sz1 1 (by decide)⟩;have h2 : szF 2 (varQ 1) := ⟨zC9 (by decide) (zCL (z := 0) (by decide)), fun p hp => by rw [List.mem_singleton.1 hp]; exact sz1 1 (by decide)⟩
 have h3 : szF 2 (mergeQ (numQ' 1) (varQ 1) (-1)) := by
  rw [show mergeQ (numQ' 1) (varQ 1) (-1) = ⟨[(1, -1)], 1⟩ from eqQF_of (by decide +kernel)];exact one_szF 1 (-1) 1 (by decide) (by decide)
 have a1 := zIN (sz1 (-1) (by decide));have a2 := zIN (sz1 1 (by decide));refine ⟨by decide, ⟨⟨by decide, fun f hf => ?_⟩, ⟨by decide, fun f hf => ?_⟩⟩, ⟨⟨by decide, fun x hx => ?_⟩, ⟨by decide, fun x hx => ?_⟩, (fun f hf => by cases hf), by decide⟩, ?_⟩
 ·rw [List.mem_singleton.1 hf]; exact okA_L h1 (by decide)
 ·rw [List.mem_singleton.1 hf]; exact okA_L h2 (by decide)
 ·rw [List.mem_singleton.1 hx]; exact a1
 ·rw [List.mem_singleton.1 hx]; exact a2
 ·exact zBE (by decide) (okA_L h3 (by decide +kernel))
theorem leafP_V (l : List MultL) : encNode (leafP l) = .agg [.imm [], .int .i64 0, .int .i64 0, .bool false, .imm [], .imm [], .imm [], .bool false, .imm (l.map encMult)] := by
 rw [zE9]; rfl
theorem nE_V : nodeV nE = .agg [.imm [], .int .i64 1, .int .i64 0, .bool false, .imm [], .imm [], .imm [.agg [.imm [], .int .i64 0, .int .i64 0, .bool false, .imm [], .imm [], .imm [], .bool false, .imm [encMult (mE 2), encMult (mE 8)]], .agg [.imm [], .int .i64 0, .int .i64 0, .bool false, .imm [], .imm [], .imm [], .bool false, .imm [encMult (mE 10)]]], .bool false, .imm []] := by
 have e : nodeV nE = .agg [.imm [], .int .i64 1, .int .i64 0, .bool false, .imm [], .imm [], .imm [encNode (leafP [mE 2, mE 8]), encNode (leafP [mE 10])], .bool false, .imm []] := rfl;rw [e, leafP_V, leafP_V]; rfl
theorem qE_V : encQry qE = .agg [.int .i64 1, .imm [encF (varQ 0)], .imm [encF (varQ 1)], .imm [encRat (cr (-1))], .imm [encRat (cr 1)], .imm [], .imm ((subQ (numQ' 1) (varQ 1)).ts.map encQ), .bool (cr (subQ (numQ' 1) (varQ 1)).c).neg, encN (cr (subQ (numQ' 1) (varQ 1)).c).num, encN (cr (subQ (numQ' 1) (varQ 1)).c).den] := by
 have e1 := zG6 (varQ 0);have e2 := zG6 (varQ 1)
 have e3 : (subQ (numQ' 1) (varQ 1)).L.terms.map encTerm = (subQ (numQ' 1) (varQ 1)).ts.map encQ := by
  unfold QF.L; simp only [List.map_map]; rfl
 rw [e1, e2, ← e3];rfl
theorem ok_awake48 : FO 11 Tryz.f11 [.tmp 0] 59 := mkO Tryz.func11 Tryz.ntmps11 Tryz.results11
theorem zB3 : Fn 11 [] (.data (.bool true)) := by
 have c1 := zKF 1 (by decide);have c2 := zKF (-1) (by decide);have v0 := zFN 0;have v1 := zFN 1;have cn := zDN (cr 1) (by unfold CanR; rw [zBA]);rw [zBA] at cn;have h1 : szF 2 (numQ' 1) := ⟨sz1 1 (by decide), fun p hp => by cases hp⟩;have h2 : szF 2 (varQ 1) := ⟨zC9 (by decide) (zCL (z := 0) (by decide)), fun p hp => by rw [List.mem_singleton.1 hp]; exact sz1 1 (by decide)⟩;have cs := zDM (numQ' 1) (varQ 1) 2 2 h1 h2 (zDK _) (zD8 _) (by decide) (by decide);have t1 := (zKJ (q := qE) (n := nE) (Bq := 2) (Bn := 9) ⟨qE_sz, by decide, nE_ok, nE_sm, nE_bk, by rw [nE_wt]; decide⟩ (by rw [nE_wt]; decide) (by decide)).1;have t2 := (zKJ (q := qE) (n := wE) (Bq := 2) (Bn := 9) ⟨qE_sz, by decide, wE_ok, wE_sm, Nat.le_trans wE_bk (by decide), by rw [wE_wt]; decide⟩ (by rw [wE_wt]; decide) (by decide)).1;have e1 : treeR qE nE = ([], 0) := by unfold treeR; rw [if_pos ⟨nE_valid, qE_ok⟩, below_nE]
 have e2 : treeR qE wE = ([], 12) := by unfold treeR; rw [if_pos ⟨wE_valid, qE_ok⟩, below_wE]
 rw [e1, nE_V, qE_V] at t1;rw [e2, qE_V] at t2;refine zAJ hmix hT ok_awake48 (by simp) ?_;refine sts ?_;refine zAA v0 rfl ?_;refine sts ?_;refine zAA v1 rfl ?_;refine sts ?_;refine zAA c2 rfl ?_;refine sts ?_;refine zAA c1 rfl ?_;refine sts ?_;refine zAA c1 rfl ?_;refine sts ?_;refine zAA cn rfl ?_;refine sts ?_;refine zAA v1 rfl ?_;refine sts ?_;refine zAA cs rfl ?_;refine sts ?_;refine zAA (zK2 2) rfl ?_;refine sts ?_;refine zAA (zK2 8) rfl ?_;refine sts ?_;refine zAA (zK2 10) rfl ?_;refine sts ?_;refine zAA t1 (zAF rfl (zAF rfl rfl)) ?_;refine sts ?_;refine zAA (zK2 5) rfl ?_;refine sts ?_;refine zAA t2 rfl ?_;refine sts ?_
  
 exact zAB rfl rfl
end Go.PI.Tryz
