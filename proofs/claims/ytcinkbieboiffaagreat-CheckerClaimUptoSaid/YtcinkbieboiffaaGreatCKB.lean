/-
  The checker: Tree.
-/
import Derived.Test.YtcinkbieboiffaaGreatCKA
import Derived.Test.YtcinkbieboiffaaGreatCTR
import Derived.Test.YtcinkbieboiffaaGreatCPE
import Derived.Test.YtcinkbieboiffaaGreatCGA
import Derived.Test.YtcinkbieboiffaaGreatCHA
set_option linter.unusedVariables false
set_option linter.unusedSimpArgs false
set_option linter.unnecessarySimpa false
namespace Go.PI.Tryz
open Go.Proofs Go.PI
theorem zL4 {f : AffL} {n : Int} (h : ValidF f n) : encF f.Q = encAff f := by rw [zG6, canF h]
theorem encF_zero' : encF zeroQ = .agg [.imm [], .bool false, .imm [], .imm []] := by unfold encF zeroQ; rw [zJX]; rfl
theorem lem_sz {S : ScpL} {P V : Nat} (hz : szS S P V) {n j : Int} {up : Bool} {l : Rat} (h : bndO S n j up = some l) : ∃ a, a < S.lems.length ∧ S.lems[a]!.upper = up ∧ l = qv S.lems[a]!.value ∧ sz (lenQ S.lems[a]!.value + 1) l ∧ lenQ S.lems[a]!.value ≤ 2 * V := by
 unfold bndO at h
 split at h
 ·rename_i c
  cases h
  have hi : n.toNat - 1 < S.lems.length := by omega
  have hq := hz.lems.2 _ (get_mem hi);refine ⟨_, hi, c.2.2.2, rfl, zF2 (zBU (Nat.le_succ _) (zJN hq)) (by omega), ?_⟩;unfold lenQ; have := hq.2; omega
 ·cases h
theorem row_sz {S : ScpL} {P V : Nat} (hS : okScp S) (hz : szS S P V) {r : RowL} {f : QF} (h : rowO S r = some f) : szF (P + 2 * V + 14) f := by
 have hP := hz.P1;have cn : ∀ {c : RatL}, okQ P c → szF P (numQ' (qv c)) := fun hc => zDE (zF2 hc hP)
 unfold rowO at h
 split at h
 ·unfold inO at h
  rcases zAX h with ⟨h0, h⟩ | ⟨h0, h⟩
  ·cases h
  rcases zAX h with ⟨c, h⟩ | ⟨_, h⟩
  ·cases h; exact zED (zC8 _) (cn (zBQ hz.lo (by omega))) (by omega)
  rcases zAX h with ⟨c, h⟩ | ⟨_, h⟩
  ·cases h; exact zED (cn (zBQ hz.hi (by omega))) (zC8 _) (by omega)
  rcases zAX h with ⟨c, h⟩ | ⟨_, h⟩
  ·cases h; exact zFY (by omega) (zCQ (hz.rows.2 _ (get_mem (by omega))) hP)
  rcases zAX h with ⟨c, h⟩ | ⟨_, h⟩
  ·have hq := hz.path.2 _ (get_mem (show r.index.toNat < S.path.length by omega))
   rcases zAX h with ⟨_, h⟩ | ⟨_, h⟩
   ·cases h; exact zED (zC8 _) (cn hq) (by omega)
   ·rw [← (zBD h).2]; exact zED (cn hq) (zC8 _) (by omega)
  ·cases h
 ·unfold unO at h
  rcases zAX h with ⟨h0, h⟩ | ⟨h0, h⟩
  ·cases h
  have hv : szF 1 (varQ (S.q.g.ins + r.index)) := zC8 _;have hp : szF P S.q.g.units[r.index.toNat]!.Q := zCQ (hz.units _ (get_mem (by omega))) hP;have one : sz 1 (-1 : Rat) := zCL (z := -1) (by decide);rcases zAX h with ⟨_, h⟩ | ⟨_, h⟩
  ·rw [← (zBD h).2]; exact zFY (by omega) hv
  rcases zAX h with ⟨_, h⟩ | ⟨_, h⟩
  ·rw [← (zBD h).2]; exact zED hv hp (by omega)
  rcases zAX h with ⟨_, h⟩ | ⟨_, h⟩
  ·rw [← (zBD h).2]; exact zFY (by omega) hp
  rcases zAX h with ⟨_, h⟩ | ⟨_, h⟩
  ·rw [← (zBD h).2]; exact zED hp hv (by omega)
  rcases zAX h with ⟨_, h⟩ | ⟨_, h⟩
  ·rw [← (zBD h).2]; exact zF0 hp one (by omega)
  rcases zAX h with ⟨_, h⟩ | ⟨_, h⟩
  ·rw [← (zBD h).2]; exact zF0 hv one (by omega)
  rcases zAX h with ⟨_, h⟩ | ⟨_, h⟩
  ·cases hb : bndO S r.lo r.index false with
   | none => rw [hb] at h; cases h
   | some l =>
     rw [hb] at h;obtain ⟨a, _, _, _, hl, hl2⟩ := lem_sz hz hb;rw [← (zBD h).2]; exact zED hp (zDE hl) (by omega)
  rcases zAX h with ⟨_, h⟩ | ⟨_, h⟩
  ·cases hb : bndO S r.hi r.index true with
   | none => rw [hb] at h; cases h
   | some l =>
     rw [hb] at h;obtain ⟨a, _, _, _, hl, hl2⟩ := lem_sz hz hb;rw [← (zBD h).2]; exact zED (zDE hl) hp (by omega)
  rcases zAX h with ⟨_, h⟩ | ⟨_, h⟩
  ·cases hb : bndO S r.lo r.index false with
   | none => rw [hb] at h; cases h
   | some l => cases hb2 : bndO S r.hi r.index true with
     | none => rw [hb, hb2] at h; cases h
     | some u =>
       rw [hb, hb2] at h;obtain ⟨a, ha, ea, _, hl, _⟩ := lem_sz hz hb;obtain ⟨b, hb', eb, _, hu, _⟩ := lem_sz hz hb2;have htwo := hz.two a b ha hb' ea eb;rw [← (zBD h).2];unfold triQ;exact zED (zF0 (zED hp (zDE hl) (Nat.le_refl _)) hu (Nat.le_refl _)) (zF0 hv (sz_sub hu hl) (Nat.le_refl _)) (by omega)
  ·cases h
theorem row_len {S : ScpL} {P V : Nat} (hS : okScp S) (hz : szS S P V) {f : QF} (h : okF (nvar S) f) : f.ts.length ≤ 1280 := by
 have hn := hz.nv;have hi := hS.1.1.1.1;obtain ⟨n, hn2⟩ : ∃ n : Nat, nvar S = n := ⟨(nvar S).toNat, by unfold nvar at *; omega⟩;rw [hn2] at h;have := zDP n h.1.1 h.2;omega
def sumC (l : List MultL) : Nat := (l.map fun m => lenQ m.coef + 1).sum
theorem zGT {l : List MultL} {i : Nat} (h : i < l.length) : sumC (l.take (i + 1)) = sumC (l.take i) + lenQ l[i]!.coef + 1 := by
 unfold sumC;rw [List.take_succ_eq_append_getElem h, List.map_append, List.sum_append, getElem!_pos l i h]
 simp; omega
theorem sumC_le (l : List MultL) (i : Nat) : sumC (l.take i) ≤ sumC l := by
 unfold sumC
 conv => rhs; rw [← List.take_append_drop i l, List.map_append, List.sum_append]
 omega
def szM (l : List MultL) : Prop := l.length ≤ 1048576 ∧ ∀ m ∈ l, okQ 900000000 m.coef
theorem rst_sz {S : ScpL} {P V kf : Nat} (hS : okScp S) (hz : szS S P V) {f : QF} (hf : szF kf f) {l : List MultL} (hl : szM l) : ∀ {i : Nat}, i ≤ l.length → okM S l i → szF (kf + i * (P + 2 * V + 18) + sumC (l.take i)) (rstN S f l i)
 | 0, _, _ => by
   show szF _ f
   exact zFY (by rw [Nat.zero_mul]; omega) hf
 | i + 1, hi, hk => by
   have ih := rst_sz hS hz hf hl (i := i) (by omega) fun k h => hk k (by omega)
   obtain ⟨_, _, _, h4⟩ := hk i (by omega);obtain ⟨g, hg⟩ := Option.isSome_iff_exists.1 h4;have hr := row_sz hS hz hg;have e : rw' S l[i]! = g := by unfold rw'; rw [hg]; rfl
   have hc : sz (lenQ l[i]!.coef + 1) (- qv l[i]!.coef) := sz_neg (zF2 (zBU (Nat.le_succ _) (zJN (hl.2 _ (get_mem (by omega))))) (by omega));obtain ⟨R, hR⟩ : ∃ R, P + 2 * V + 18 = R := ⟨_, rfl⟩;rw [hR] at ih ⊢;have hr2 : szF (R - 4) g := zFY (by omega) hr;rw [zEZ (by omega), e];refine zD3 ih hr2 hc ?_;rw [zGT (by omega), Nat.succ_mul];generalize i * R = X;omega
open Classical in
noncomputable def restV (S : ScpL) (f : QF) (l : List MultL) : RatL × Bool := if okM S l l.length then (cr (rstN S f l l.length).c, decide ((rstN S f l l.length).ts.length = 0)) else (⟨false, [], []⟩, false)
theorem ok_krest : FO 94 Tryz.f94 [.cell 6 32, .tmp 7] 69 := mkO Tryz.func94 Tryz.ntmps94 Tryz.results94
theorem c_krest (S : ScpL) (f : QF) (l : List MultL) (P V kf : Nat) (hS : okScp S) (hz : szS S P V) (hf : szF kf f) (hof : okF (nvar S) f) (hl : szM l) (hsz : kf + l.length * (P + 2 * V + 18) + sumC l ≤ 940000000) : Fn 94 [encScp S, encF f, .imm (l.map encMult)] (.data (.tup [encRat (restV S f l).1, .bool (restV S f l).2])) := by
 have bad : ¬ okM S l l.length → PV.tup [.agg [.bool false, .imm [], .imm []], .bool false] = .tup [encRat (restV S f l).1, .bool (restV S f l).2] := fun e => by unfold restV; rw [if_neg e]; rfl
 have l1 := hl.1;refine zAJ hmix hT ok_krest (by simp [encScp, encF]) ?_;refine sts ?_
 refine zAL hT (fun (i : Nat) => [(2, .imm (l.map encMult)), (3, .ptr 0 0 0), (4, .ptr 1 0 0), (6, .ptr 2 0 0), (12, .imm (l.map encMult)), (13, .int .i64 l.length), (14, .int .i64 i)])
  (fun i => [(0, ⟨[encScp S], 12, true⟩), (1, ⟨[encF (rstN S f l i)], 4, true⟩), (2, ⟨[.agg [.bool false, .nilsl, .nilsl]], 3, true⟩)]) [] 3
  (fun i => i ≤ l.length ∧ okM S l i) (fun i => l.length - i) 0 ⟨Nat.zero_le _, fun k h => by omega⟩ (by decide) (by simp) ?_ ?_
 ·exact ⟨[_, _, _], [], [], [], ttt, ⟨zAD rfl rfl, (apy rfl), (apy rfl), (apy rfl), zAD rfl rfl, zAC rfl (by simp), zAC rfl rfl, trivial⟩, ⟨bbx, bbx, bbx, trivial⟩, by simp [ren]⟩
 rintro i ⟨i1, i2⟩
 by_cases hi : i < l.length
 ·have hm := hl.2 _ (get_mem hi)
  have hm2 := hm.2;have hno : ¬ okM1 S l i → ¬ okM S l l.length := fun h e => h (e i hi)
  have cva := zFO l[i]!.coef hm.1 (by omega) (by omega);have csg := zFD l[i]!.coef hm.1 (by omega);have cle := c_kless l[i - 1]!.row l[i]!.row;obtain ⟨g, b, hgb, cf⟩ := c_kform S l[i]!.row P V hS hz
  (repeat' (first|refine stp ?_|with_reducible(refine brr ?_ ?_<;>intro h)));all_goals try(conv=>whnf)
  all_goals try (exfalso; omega)
  refine zAA cva rfl ?_
  (repeat' (first|refine stp ?_|with_reducible(refine brr ?_ ?_<;>intro h)));all_goals try(conv=>whnf)
  rotate_left
  ·exact zAB rfl (bad (hno fun e => by have := e.1; contradiction))
  have hcan : CanR l[i]!.coef := by assumption
  refine zAA csg rfl ?_
  (repeat' (first|refine stp ?_|with_reducible(refine brr ?_ ?_<;>intro h)));all_goals try(conv=>whnf)
  ·exact zAB rfl (bad (hno fun e => by have := sgnQ_pos.2 e.2.1; omega))
  ·have hpos : 0 < qv l[i]!.coef := sgnQ_pos.1 (by omega)
   refine zAY (j := i - 1) (by omega) (by omega) ?_;refine sts ?_;refine zAA cle rfl ?_
   (repeat' (first|refine stp ?_|with_reducible(refine brr ?_ ?_<;>intro h)));all_goals try(conv=>whnf)
   ·have hless : lessR l[i - 1]!.row l[i]!.row := dB_true.1 (by assumption)
    refine zAA cf rfl ?_
    (repeat' (first|refine stp ?_|with_reducible(refine brr ?_ ?_<;>intro h)));all_goals try(conv=>whnf)
    ·have hrow : rowO S l[i]!.row = some g := by rcases hgb with ⟨_, e⟩ | ⟨e, _⟩; exact e; exact absurd (show b = true by assumption) (by rw [e]; decide)
     have hk1 : okM1 S l i := ⟨hcan, hpos, fun _ => hless, by rw [hrow]; rfl⟩;have e1 : rw' S l[i]! = g := by unfold rw'; rw [hrow]; rfl
     have hgo : okF (nvar S) g := row_ok hS hrow;have hg2 := row_sz hS hz hrow;have hgl := row_len hS hz hgo;have z0 := rst_sz hS hz hf hl (i := i) (by omega) i2;have hfo := zJD hS hof (l := l) (i := i) (by omega);have hfl := row_len hS hz hfo;have hsi := zGT (l := l) hi;have hsj := sumC_le l (i + 1);have hmul : (i + 1) * (P + 2 * V + 18) ≤ l.length * (P + 2 * V + 18) := Nat.mul_le_mul_right _ hi;rw [Nat.succ_mul] at hmul;have zc : sz (lenQ l[i]!.coef + 1) (qv l[i]!.coef) := zF2 (zBU (Nat.le_succ _) (zJN hm)) (by omega);have q1 := zHN g (qv l[i]!.coef) _ _ hg2 zc (by omega) (by omega);rw [← hcan] at q1;have z2 : szF (P + 2 * V + 17 + lenQ l[i]!.coef) (sclQ g (qv l[i]!.coef)) := zF0 hg2 zc (by omega);have q2 := zFE (rstN S f l i) (sclQ g (qv l[i]!.coef)) _ _ z0 z2 (by omega) (by omega) (Nat.le_trans zHW (by omega));have e2 : mergeQ (rstN S f l i) (sclQ g (qv l[i]!.coef)) (-1) = rstN S f l (i + 1) := by rw [zEZ hi, e1]; exact sub_scl hfo.1 hgo.1
     rw [e2] at q2;refine zAA q1 rfl ?_;refine sts ?_;refine zAA q2 rfl ?_;refine sts ?_;exact ⟨i + 1, ⟨⟨by omega, fun k hk => zAZ (p := okM1 S l) i2 hk1 hk⟩, by show l.length - (i + 1) < l.length - i; omega⟩, [0, 1, 2], [], [], [], ttt, ⟨zAD rfl rfl, apx, apx, apx, zAD rfl rfl, zAC rfl rfl, zAC rfl rfl, trivial⟩, ⟨bbx, bbx, bbx, trivial⟩, by simp [ren]⟩
    ·have hrow : rowO S l[i]!.row = none := by rcases hgb with ⟨e, _⟩ | ⟨_, e⟩; exact absurd (show b = false by assumption) (by rw [e]; decide); exact e
     exact zAB rfl (bad (hno fun e => by have := e.2.2.2; rw [hrow] at this; cases this))
   ·exact zAB rfl (bad (hno fun e => dB_false.1 (by assumption) (e.2.2.1 (by omega))))
  ·have hpos : 0 < qv l[i]!.coef := sgnQ_pos.1 (by omega)
   ·refine zAA cf rfl ?_
    (repeat' (first|refine stp ?_|with_reducible(refine brr ?_ ?_<;>intro h)));all_goals try(conv=>whnf)
    ·have hrow : rowO S l[i]!.row = some g := by rcases hgb with ⟨_, e⟩ | ⟨e, _⟩; exact e; exact absurd (show b = true by assumption) (by rw [e]; decide)
     have hk1 : okM1 S l i := ⟨hcan, hpos, fun h => by omega, by rw [hrow]; rfl⟩;have e1 : rw' S l[i]! = g := by unfold rw'; rw [hrow]; rfl
     have hgo : okF (nvar S) g := row_ok hS hrow;have hg2 := row_sz hS hz hrow;have hgl := row_len hS hz hgo;have z0 := rst_sz hS hz hf hl (i := i) (by omega) i2;have hfo := zJD hS hof (l := l) (i := i) (by omega);have hfl := row_len hS hz hfo;have hsi := zGT (l := l) hi;have hsj := sumC_le l (i + 1);have hmul : (i + 1) * (P + 2 * V + 18) ≤ l.length * (P + 2 * V + 18) := Nat.mul_le_mul_right _ hi;rw [Nat.succ_mul] at hmul;have zc : sz (lenQ l[i]!.coef + 1) (qv l[i]!.coef) := zF2 (zBU (Nat.le_succ _) (zJN hm)) (by omega);have q1 := zHN g (qv l[i]!.coef) _ _ hg2 zc (by omega) (by omega);rw [← hcan] at q1;have z2 : szF (P + 2 * V + 17 + lenQ l[i]!.coef) (sclQ g (qv l[i]!.coef)) := zF0 hg2 zc (by omega);have q2 := zFE (rstN S f l i) (sclQ g (qv l[i]!.coef)) _ _ z0 z2 (by omega) (by omega) (Nat.le_trans zHW (by omega));have e2 : mergeQ (rstN S f l i) (sclQ g (qv l[i]!.coef)) (-1) = rstN S f l (i + 1) := by rw [zEZ hi, e1]; exact sub_scl hfo.1 hgo.1
     rw [e2] at q2;refine zAA q1 rfl ?_;refine sts ?_;refine zAA q2 rfl ?_;refine sts ?_;exact ⟨i + 1, ⟨⟨by omega, fun k hk => zAZ (p := okM1 S l) i2 hk1 hk⟩, by show l.length - (i + 1) < l.length - i; omega⟩, [0, 1, 2], [], [], [], ttt, ⟨zAD rfl rfl, apx, apx, apx, zAD rfl rfl, zAC rfl rfl, zAC rfl rfl, trivial⟩, ⟨bbx, bbx, bbx, trivial⟩, by simp [ren]⟩
    ·have hrow : rowO S l[i]!.row = none := by rcases hgb with ⟨e, _⟩ | ⟨_, e⟩; exact absurd (show b = false by assumption) (by rw [e]; decide); exact e
     exact zAB rfl (bad (hno fun e => by have := e.2.2.2; rw [hrow] at this; cases this))
 ·have ei : i = l.length := by omega
  subst ei
  (repeat' (first|refine stp ?_|with_reducible(refine brr ?_ ?_<;>intro h)));all_goals try(conv=>whnf)
  all_goals try (exfalso; omega)
  refine zAB rfl ?_;unfold restV;rw [if_pos i2];have hb : (((rstN S f l l.length).ts.length : Int) == 0) = decide ((rstN S f l l.length).ts.length = 0) := by rw [Bool.eq_iff_iff, beq_iff_eq, decide_eq_true_eq]; omega
  rw [← hb];simp only [List.length_map];rfl
theorem rest_prv {S : ScpL} {f : QF} {l : List MultL} : ((restV S f l).2 && decide (0 ≤ sgnQ (qv (restV S f l).1))) = dB (prvP S f l) := by
 unfold restV prvP;by_cases h : okM S l l.length
 ·rw [if_pos h, Bool.eq_iff_iff, dB_true]
  simp only [Bool.and_eq_true, decide_eq_true_eq, zBA, sgnQ_nn', List.length_eq_zero_iff];exact ⟨fun e => ⟨h, e⟩, fun e => e.2⟩
 ·rw [if_neg h, Bool.eq_iff_iff, dB_true]
  exact ⟨(fun e => by cases e), fun e => absurd e.1 h⟩
theorem rest_ref {S : ScpL} {l : List MultL} : ((restV S zeroQ l).2 && decide (0 < sgnQ (qv (restV S zeroQ l).1))) = dB (refP S l) := by
 unfold restV refP;by_cases h : okM S l l.length
 ·rw [if_pos h, Bool.eq_iff_iff, dB_true]
  simp only [Bool.and_eq_true, decide_eq_true_eq, zBA, sgnQ_pos, List.length_eq_zero_iff];exact ⟨fun e => ⟨h, e⟩, fun e => e.2⟩
 ·rw [if_neg h, Bool.eq_iff_iff, dB_true]
  exact ⟨(fun e => by cases e), fun e => absurd e.1 h⟩
theorem restV_ok {S : ScpL} {f : QF} {l : List MultL} {P V kf : Nat} (hS : okScp S) (hz : szS S P V) (hf : szF kf f) (hl : szM l) (hsz : kf + l.length * (P + 2 * V + 18) + sumC l ≤ 940000000) : okQ 940000000 (restV S f l).1 := by
 unfold restV
 split
 ·rename_i h
  have z := rst_sz hS hz hf hl (Nat.le_refl _) h;rw [List.take_length] at z;exact zIN (zC9 hsz z.1)
 ·exact ⟨⟨by simp [okN], by simp [okN]⟩, Nat.zero_le _, Nat.zero_le _⟩
theorem ok_kprv : FO 50 Tryz.f50 [.tmp 6] 22 := mkO Tryz.func50 Tryz.ntmps50 Tryz.results50
theorem c_kprv (S : ScpL) (f : QF) (l : List MultL) (P V kf : Nat) (hS : okScp S) (hz : szS S P V) (hf : szF kf f) (hof : okF (nvar S) f) (hl : szM l) (hsz : kf + l.length * (P + 2 * V + 18) + sumC l ≤ 940000000) : Fn 50 [encScp S, encF f, .imm (l.map encMult)] (.data (.bool (dB (prvP S f l)))) := by
 have c1 := c_krest S f l P V kf hS hz hf hof hl hsz;have hq := restV_ok hS hz hf hl hsz;have c2 := zFD (restV S f l).1 hq.1 (by have := hq.2; omega);rw [← rest_prv];generalize (restV S f l).1 = c at *
 generalize (restV S f l).2 = b at *
 refine zAJ hmix hT ok_kprv (by simp [encScp, encF]) ?_;refine sts ?_;refine zAA c1 rfl ?_
 (repeat' (first|refine stp ?_|with_reducible(refine brr ?_ ?_<;>intro h)));all_goals try(conv=>whnf)
 ·refine zAA c2 rfl ?_
  refine sts ?_;exact zAB rfl (by rw [show b = true by assumption]; rfl)
 ·exact zAB rfl (by rw [show b = false by assumption]; rfl)
theorem ok_kref : FO 49 Tryz.f49 [.tmp 4] 20 := mkO Tryz.func49 Tryz.ntmps49 Tryz.results49
theorem c_kref (S : ScpL) (l : List MultL) (P V : Nat) (hS : okScp S) (hz : szS S P V) (hl : szM l) (hsz : 1 + l.length * (P + 2 * V + 18) + sumC l ≤ 940000000) : Fn 49 [encScp S, .imm (l.map encMult)] (.data (.bool (dB (refP S l)))) := by
 have c1 := c_krest S zeroQ l P V 1 hS hz (zC4 1 (by decide)) (zFH _) hl hsz;have hq := restV_ok hS hz (zC4 1 (by decide)) hl hsz;have c2 := zFD (restV S zeroQ l).1 hq.1 (by have := hq.2; omega);rw [← rest_ref];rw [encF_zero'] at c1;generalize (restV S zeroQ l).1 = c at *
 generalize (restV S zeroQ l).2 = b at *
 refine zAJ hmix hT ok_kref (by simp [encScp]) ?_;refine sts ?_;refine zAA c1 rfl ?_
 (repeat' (first|refine stp ?_|with_reducible(refine brr ?_ ?_<;>intro h)));all_goals try(conv=>whnf)
 ·refine zAA c2 rfl ?_
  refine sts ?_;exact zAB rfl (by rw [show b = true by assumption]; rfl)
 ·exact zAB rfl (by rw [show b = false by assumption]; rfl)
theorem ok_klem : FO 48 Tryz.f48 [.tmp 4] 46 := mkO Tryz.func48 Tryz.ntmps48 Tryz.results48
theorem c_klem (S : ScpL) (m : LemL) (P V : Nat) (hS : okScp S) (hz : szS S P V) (hm : okQ V m.value) (hl : szM m.proof) (hsz : P + V + 10 + m.proof.length * (P + 2 * V + 18) + sumC m.proof ≤ 940000000) : Fn 48 [encScp S, encLem m] (.data (.bool (dB (lemP S m)))) := by
 have hnu := hS.1.1.2.1;have hB := hz.B;have hP := hz.P1;have no : ¬ lemP S m → false = dB (lemP S m) := zFA;have cva := zFO m.value hm.1 (by have := hm.2; omega) (by have := hm.2; omega);by_cases hu : 0 ≤ m.unit ∧ m.unit < S.q.g.units.length
 ·have hj : m.unit.toNat < S.q.g.units.length := by omega
  have hvu := hS.1.1.2.2.2.1 _ hj;have hpa := hz.units _ (get_mem hj);have szp : szF P S.q.g.units[m.unit.toNat]!.Q := zCQ hpa hP;have zn : szF (V + 1) (numQ' (qv m.value)) := zDE (zF2 (zBU (Nat.le_succ _) hm) (by omega));have cn := zMJ m.value V hm (by omega);have lp : S.q.g.units[m.unit.toNat]!.Q.ts.length ≤ 1048576 := by rw [Q_len]; exact hpa.2.2
  have cs := zFE S.q.g.units[m.unit.toNat]!.Q (numQ' (qv m.value)) P (V + 1) szp zn (by omega) lp (by simp [numQ']);rw [zL4 hvu] at cs;have z1 : szF (P + V + 3) (subQ S.q.g.units[m.unit.toNat]!.Q (numQ' (qv m.value))) := zED szp zn (by omega);have cmi := c_kminus (subQ S.q.g.units[m.unit.toNat]!.Q (numQ' (qv m.value))) _ z1 (by omega) (Nat.le_trans zHD lp);have hof : okF (nvar S) S.q.g.units[m.unit.toNat]!.Q := okF_le (by unfold nvar; omega) (zD0 hvu)
  have hlf : szF (P + V + 10) (lemF S m) := by
   unfold lemF; split
   ·exact zF0 z1 (zCL (z := -1) (by decide)) (by omega)
   ·exact zFY (by omega) z1
  have hlo : okF (nvar S) (lemF S m) := by
   unfold lemF; split
   ·exact zJ4 (zDZ hof (zFJ _ _))
   ·exact zDZ hof (zFJ _ _)
  have cp := c_kprv S (lemF S m) m.proof P V _ hS hz hlf hlo hl hsz
  have fin : CanR m.value → dB (prvP S (lemF S m) m.proof) = dB (lemP S m) := fun hc => by
   rw [Bool.eq_iff_iff, dB_true, dB_true]; exact ⟨fun e => ⟨hu, hc, e⟩, fun e => e.2.2⟩
  refine zAJ hmix hT ok_klem (by simp [encScp, encLem]) ?_
  (repeat' (first|refine stp ?_|with_reducible(refine brr ?_ ?_<;>intro h)));all_goals try(conv=>whnf)
  all_goals try (exfalso; omega)
  refine zAA cva rfl ?_
  (repeat' (first|refine stp ?_|with_reducible(refine brr ?_ ?_<;>intro h)));all_goals try(conv=>whnf)
  rotate_left
  ·exact zAB rfl (congrArg PV.bool (no fun e => by have := e.2.1; contradiction))
  have hcan : CanR m.value := by assumption
  refine zAY (j := m.unit.toNat) (show m.unit = _ by omega) hj ?_;refine sts ?_;refine zAA cn rfl ?_;refine sts ?_;refine zAA cs rfl ?_
  (repeat' (first|refine stp ?_|with_reducible(refine brr ?_ ?_<;>intro h)));all_goals try(conv=>whnf)
  ·have e1 : lemF S m = sclQ (subQ S.q.g.units[m.unit.toNat]!.Q (numQ' (qv m.value))) (-1) := if_pos (by assumption)
   rw [e1] at cp;refine zAA cmi rfl ?_;refine sts ?_;refine zAA cp rfl ?_;refine sts ?_;exact zAB rfl (congrArg PV.bool (by rw [← e1]; exact fin hcan))
  ·have e1 : lemF S m = subQ S.q.g.units[m.unit.toNat]!.Q (numQ' (qv m.value)) := if_neg (by rw [show m.upper = false by assumption]; decide)
   rw [e1] at cp;refine zAA cp rfl ?_;refine sts ?_;exact zAB rfl (congrArg PV.bool (by rw [← e1]; exact fin hcan))
 ·refine zAJ hmix hT ok_klem (by simp [encScp, encLem]) ?_
  (repeat' (first|refine stp ?_|with_reducible(refine brr ?_ ?_<;>intro h)));all_goals try(conv=>whnf)
  all_goals try (exfalso; omega)
  all_goals exact zAB rfl (congrArg PV.bool (no fun e => hu e.1))
end Go.PI.Tryz
namespace Go.PI.Tryz
open Go.Proofs Go.PI
set_option maxHeartbeats 0
theorem zLT : FO 44 Tryz.f44 [.tmp 6, .tmp 7] 111 := mkO Tryz.func44 Tryz.ntmps44 Tryz.results44
theorem c_kshp : ∀ (s : Nat) (n : NodeL) (d m : Nat), SizeOf.sizeOf n < s → n.Sm → n.cnt ≤ 4194304 → d ≤ 2048 → m ≤ 65536 → ∃ k : Nat, k ≤ n.cnt ∧ ((formOk d n && decide (n.cnt ≤ m)) = true → k = n.cnt) ∧ Fn 44 [nodeV n, .int .i64 d, .int .i64 m] (.data (.tup [.int .i64 k, .bool (formOk d n && decide (n.cnt ≤ m))])) := by
 intro s
 induction s with
 | zero => intro n d m h; omega
 | succ s ih =>
   intro n d m hn hs hct hd hm;have hl := hs.len;have hpos := zL6 n;have l1 := hs.prf.1;have l2 := hs.dec;have l3 := l2.1;have l4 := l2.2;have zero : (formOk d n && decide (n.cnt ≤ m)) = false → ∃ k : Nat, k ≤ n.cnt ∧ ((formOk d n && decide (n.cnt ≤ m)) = true → k = n.cnt) := fun e => ⟨0, Nat.zero_le _, fun h => by rw [e] at h; cases h⟩
   by_cases h0 : m = 0
   ·have e : (formOk d n && decide (n.cnt ≤ m)) = false := by rw [decide_eq_false (by omega), Bool.and_false]
    refine ⟨0, Nat.zero_le _, (fun h => by rw [e] at h; cases h), ?_⟩;rw [e];refine zAJ hmix hT zLT (by simp) ?_
    (repeat' (first|refine stn ?_|(with_reducible refine brr ?_ ?_<;>intro h)|(with_reducible refine zAI ?_ ?_<;>intro h)|with_reducible refine zAW ?_ ?_)); all_goals try (conv=>whnf)
    all_goals try (exfalso; omega)
    exact zAB rfl rfl
   by_cases hk : n.kids.length = 0
   ·have e : (formOk d n && decide (n.cnt ≤ m)) = leafOk n := by rw [zE8 hk, zHK hk, decide_eq_true (by omega), Bool.and_true]
    refine ⟨1, hpos, fun _ => (zHK hk).symm, ?_⟩;rw [e]
    have lf : leafOk n = decide (n.split.kind = 0 ∧ n.split.index = 0 ∧ n.split.rat.neg = false ∧ n.split.rat.num.length = 0 ∧ n.split.rat.den.length = 0) := by
     unfold leafOk;refine decide_eq_decide.2 ?_;generalize n.split = x;obtain ⟨a, b, ⟨c, d, e⟩⟩ := x
     simp
    rw [lf];refine zAJ hmix hT zLT (by simp) ?_
    (repeat' (first|refine stn ?_|(with_reducible refine brr ?_ ?_<;>intro h)|(with_reducible refine zAI ?_ ?_<;>intro h)|with_reducible refine zAW ?_ ?_)); all_goals try (conv=>whnf)
    all_goals try (exfalso; omega)
    all_goals refine zAB rfl (congrArg (fun b => PV.tup [.int .i64 1, .bool b]) ?_)
    all_goals (rw [Bool.eq_iff_iff, decide_eq_true_eq]; simp_all; try omega)
   ·have h2 := hn
    by_cases hin : innerOk n = true ∧ d ≠ 0
    rotate_left
    ·have e : (formOk d n && decide (n.cnt ≤ m)) = false := by
      rw [zB8 hk];cases h1 : innerOk n
      ·rfl
      ·by_cases h5 : d = 0
       ·simp [h5]
       ·exact absurd ⟨h1, h5⟩ hin
     refine ⟨0, Nat.zero_le _, (fun h => by rw [e] at h; cases h), ?_⟩;rw [e];have hno : ¬ (n.kids.length = 2 ∧ 1 ≤ n.split.kind ∧ n.split.kind ≤ 4 ∧ n.empty = false ∧ n.proof.length = 0 ∧ d ≠ 0) := fun ⟨e1, e2, e3, e4, e5, e6⟩ => hin ⟨by unfold innerOk; exact decide_eq_true ⟨e1, e2, e3, e4, e5⟩, e6⟩
     refine zAJ hmix hT zLT (by simp) ?_
     (repeat' (first|refine stn ?_|(with_reducible refine brr ?_ ?_<;>intro h)|(with_reducible refine zAI ?_ ?_<;>intro h)|with_reducible refine zAW ?_ ?_)); all_goals try (conv=>whnf)
     all_goals try (exfalso; omega)
     all_goals try exact zAB rfl rfl
     all_goals (exfalso; refine hno ⟨?_, ?_, ?_, ?_, ?_, ?_⟩ <;> first | omega | assumption)
    ·obtain ⟨h3, h4⟩ := hin
     have h5 := h3;unfold innerOk at h5;obtain ⟨e1, e2, e3, e4, e5⟩ := of_decide_eq_true h5;have hm0 : n.kids[0]! ∈ n.kids := get_mem (by omega);have hm1 : n.kids[1]! ∈ n.kids := get_mem (by omega);have s0 := NodeL.sizeOf_kid hm0;have s1 := NodeL.sizeOf_kid hm1;have ct := cnt_two e1;have p0 := zL6 n.kids[0]!;have p1 := zL6 n.kids[1]!;obtain ⟨a, a1, a2, ca⟩ := ih n.kids[0]! (d - 1) (m - 1) (by omega) (hs.kid hm0) (by omega) (by omega) (by omega)
     have ef : (formOk d n && decide (n.cnt ≤ m)) = ((formOk (d - 1) n.kids[0]! && decide (n.kids[0]!.cnt ≤ m - 1)) && (formOk (d - 1) n.kids[1]! && decide (n.kids[1]!.cnt ≤ m - 1 - n.kids[0]!.cnt))) := by
      rw [zEU e1, h3, decide_eq_true h4, ct];rw [Bool.eq_iff_iff];simp only [Bool.and_eq_true, decide_eq_true_eq, true_and];constructor
      ·rintro ⟨⟨f1, f2⟩, f3⟩; exact ⟨⟨f1, by omega⟩, f2, by omega⟩
      ·rintro ⟨⟨f1, f2⟩, f3, f4⟩; exact ⟨⟨f1, f3⟩, by omega⟩
     have ed : ((d - 1 : Nat) : Int) = (d : Int) - 1 := by omega
     have em : ((m - 1 : Nat) : Int) = (m : Int) - 1 := by omega
     rw [ed, em] at ca;cases hA : (formOk (d - 1) n.kids[0]! && decide (n.kids[0]!.cnt ≤ m - 1))
     ·rw [hA] at ef ca
      refine ⟨0, Nat.zero_le _, (fun h => by rw [ef] at h; cases h), ?_⟩;rw [ef];refine zAJ hmix hT zLT (by simp) ?_
      (repeat' (first|refine stn ?_|(with_reducible refine brr ?_ ?_<;>intro h)|(with_reducible refine zAI ?_ ?_<;>intro h)|with_reducible refine zAW ?_ ?_)); all_goals try (conv=>whnf)
      all_goals try (exfalso; omega)
      all_goals try (exfalso; simp_all; done)
      refine zAA ca rfl ?_;refine sns ?_
      all_goals try (exfalso; omega)
      exact zAB rfl rfl
     ·have ea := a2 hA
      obtain ⟨b, b1, b2, cb⟩ := ih n.kids[1]! (d - 1) (m - 1 - a) (by omega) (hs.kid hm1) (by omega) (by omega) (by omega);rw [hA, Bool.true_and, ← ea] at ef;rw [hA] at ca;have am : a ≤ m - 1 := by simp only [Bool.and_eq_true, decide_eq_true_eq] at hA; omega
      have em2 : ((m - 1 - a : Nat) : Int) = (m : Int) - 1 - a := by omega
      rw [ed, em2] at cb;refine ⟨1 + a + b, by omega, (fun h => by have := b2 (ef ▸ h); omega), ?_⟩;rw [ef];refine zAJ hmix hT zLT (by simp) ?_
      (repeat' (first|refine stn ?_|(with_reducible refine brr ?_ ?_<;>intro h)|(with_reducible refine zAI ?_ ?_<;>intro h)|with_reducible refine zAW ?_ ?_)); all_goals try (conv=>whnf)
      all_goals try (exfalso; omega)
      all_goals try (exfalso; simp_all; done)
      refine zAA ca rfl ?_;refine sns ?_
      all_goals try (exfalso; omega)
      refine zAA cb rfl ?_;refine sns ?_
      all_goals try (exfalso; omega)
      refine zAB rfl (congrArg (fun x => PV.tup [.int .i64 x, .bool _]) ?_);omega
end Go.PI.Tryz
namespace Go.PI.Tryz
open Go.Proofs Go.PI
set_option maxHeartbeats 0
def lvOk (v V : Nat) (l : List LemL) : Prop := ∀ m ∈ l, lenQ m.value ≤ if m.upper = true then v else V - v
theorem lv_le {v V : Nat} {l : List LemL} (h : lvOk v V l) (hv : v ≤ V) {m : LemL} (hm : m ∈ l) : lenQ m.value ≤ V := by
 have := h m hm
 split at this <;> omega
def costM (P V : Nat) (l : List MultL) : Prop := szM l ∧ 40000000 + P + V + 10 + l.length * (P + 2 * V + 18) + sumC l + 18 * (P + 2 * V + 40 + sumC l) ≤ 940000000
inductive NodeZ (P V : Nat) : Nat → Nat → NodeL → Prop
 | mk (v c : Nat) (n : NodeL) (h1 : lvOk v V n.lemmas) (h2 : n.lemmas.length ≤ c) (h3 : ∀ m ∈ n.lemmas, okQ (lenQ m.value) m.value ∧ costM P V m.proof) (h4 : okQ P n.split.rat) (h5 : costM P V n.proof)
  (h6 : ∀ k ∈ n.kids, NodeZ P V v (c - n.lemmas.length) k) : NodeZ P V v c n
section
variable {P V v c : Nat} {n : NodeL}
theorem NodeZ.val (h : NodeZ P V v c n) : lvOk v V n.lemmas := by cases h; assumption
theorem NodeZ.num (h : NodeZ P V v c n) : n.lemmas.length ≤ c := by cases h; assumption
theorem NodeZ.lem (h : NodeZ P V v c n) : ∀ m ∈ n.lemmas, okQ (lenQ m.value) m.value ∧ costM P V m.proof := by cases h; assumption
theorem NodeZ.spl (h : NodeZ P V v c n) : okQ P n.split.rat := by cases h; assumption
theorem NodeZ.prf (h : NodeZ P V v c n) : costM P V n.proof := by cases h; assumption
theorem NodeZ.kid (h : NodeZ P V v c n) : ∀ k ∈ n.kids, NodeZ P V v (c - n.lemmas.length) k := by cases h; assumption
end
structure szT (S : ScpL) (P V v c d : Nat) : Prop where
 P1 : 1 ≤ P
 units : ∀ f ∈ S.q.g.units, okA P f
 lo : okLs P S.q.r.lo
 hi : okLs P S.q.r.hi
 rows : okFs P S.q.r.rows
 goal : okA 40000000 S.q.goal
 plen : S.path.length + d ≤ 1048576
 path : ∀ e ∈ S.path, okQ P e.rat
 lems : ∀ m ∈ S.lems, okQ (lenQ m.value) m.value
 can : ∀ m ∈ S.lems, CanR m.value
 val : v ≤ V ∧ lvOk v V S.lems
 num : S.lems.length + c ≤ 1048576
 B : P + 2 * V + 20 ≤ 100000000
 nv : nvar S ≤ 1280
theorem szT.szS {S : ScpL} {P V v c d : Nat} (h : szT S P V v c d) : szS S P V := by
 refine ⟨h.P1, h.units, h.lo, h.hi, h.rows, ⟨by have := h.plen; omega, h.path⟩, ⟨by have := h.num; omega, fun m hm => zBU (lv_le h.val.2 h.val.1 hm) (h.lems m hm)⟩, h.can, fun i j hi hj ei ej => ?_, h.B, h.nv⟩;have h1 := h.val.2 _ (get_mem hi);have h2 := h.val.2 _ (get_mem hj);have h3 := h.val.1;rw [ei, if_neg (by decide)] at h1;rw [ej, if_pos rfl] at h2;omega
theorem szT.take {S : ScpL} {P V v c d : Nat} (h : szT S P V v c d) {n : NodeL} (hn : NodeZ P V v c n) {i : Nat} (hi : i ≤ n.lemmas.length) (hc : ∀ k, k < i → CanR n.lemmas[k]!.value) : szT (scpL S (n.lemmas.take i)) P V v (c - i) d := by
 have h1 := hn.val;have h2 := hn.num;refine ⟨h.P1, h.units, h.lo, h.hi, h.rows, h.goal, h.plen, h.path, fun m hm => ?_, fun m hm => ?_, ?_, ?_, h.B, h.nv⟩
 ·rcases List.mem_append.1 hm with hm | hm
  ·exact h.lems m hm
  ·exact (hn.lem m (List.mem_of_mem_take hm)).1
 ·rcases List.mem_append.1 hm with hm | hm
  ·exact h.can m hm
  ·obtain ⟨k, hk, rfl⟩ := List.getElem_of_mem hm
   have hk2 : k < i := by rw [List.length_take] at hk; omega
   have := hc k hk2;rw [getElem!_pos _ _ (by omega)] at this
   simpa using this
 ·refine ⟨h.val.1, fun m hm => ?_⟩
  rcases List.mem_append.1 hm with hm | hm
  ·exact h.val.2 m hm
  ·exact h1 m (List.mem_of_mem_take hm)
 ·have := h.num
  show (S.lems ++ n.lemmas.take i).length + _ ≤ _
  rw [List.length_append, List.length_take]; omega
theorem szT.kid {S : ScpL} {P V v c d : Nat} (h : szT S P V v c d) (hd : d ≠ 0) {n : NodeL} (hn : NodeZ P V v c n) (hc : ∀ k, k < n.lemmas.length → CanR n.lemmas[k]!.value) {e : DecL} (he : okQ P e.rat) : szT (kidS S n e) P V v (c - n.lemmas.length) (d - 1) := by
 have h0 := h.take hn (Nat.le_refl _) hc;rw [List.take_length] at h0;refine ⟨h.P1, h.units, h.lo, h.hi, h.rows, h.goal, ?_, fun x hx => ?_, h0.lems, h0.can, h0.val, h0.num, h.B, h.nv⟩
 ·have := h.plen
  show (S.path ++ [e]).length + _ ≤ _
  rw [List.length_append, List.length_singleton]; omega
 ·rcases List.mem_append.1 hx with hx | hx
  ·exact h.path x hx
  ·rw [List.mem_singleton.1 hx]; exact he
def scpV (a b : Nat) (S : ScpL) : PV := .agg [.int .i64 S.q.g.ins, .imm (S.q.g.units.map encAff), .imm (S.q.g.outs.map encAff), .imm (S.q.r.lo.map encRat), .imm (S.q.r.hi.map encRat), .imm (S.q.r.rows.map encAff), .imm (S.q.goal.terms.map encTerm), .bool S.q.goal.const.neg, encN S.q.goal.const.num, encN S.q.goal.const.den, .own a 0 S.path.length, .own b 0 S.lems.length]
theorem ok_kvis : FO 47 Tryz.f47 [.tmp 5] 103 := mkO Tryz.func47 Tryz.ntmps47 Tryz.results47
def visV (q : QryL) : PV := .func (.func 47) [] [.ptr 0 0 0, .cptr (encQry q) 0, .ptr 1 0 0]
abbrev visH (a b : Nat) (S : ScpL) : List (Nat × Blk) := [(0, ⟨[scpV a b S], 12, true⟩), (1, ⟨[visV S.q], 1, false⟩), (a, ⟨S.path.map encDec, 5, true⟩), (b, ⟨S.lems.map encLem, 6, true⟩)]
def visK (S : ScpL) (n : NodeL) (pv : PV) (s' : St) : Prop := ∃ S' : ScpL, S'.q = S.q ∧ ((pv = .bool true ∧ belowO S n = none ∧ S' = S) ∨ (pv = .bool false ∧ belowO S n = some S'.path)) ∧ s'.h = hv (visH 4 5 S') ∧ s'.z = zv [] ∧ 6 ≤ s'.nx
theorem zEE {ρ : Nat → Nat} {k a b a' b' : Nat} {S : ScpL} (h1 : a < k) (h2 : b < k) (e1 : a' = ρ a) (e2 : b' = ρ b) : rn ρ k 3 (scpV a b S) (scpV a' b' S) := by
 subst e1 e2;exact ⟨rfl, rfl, rfl, rfl, rfl, rfl, rfl, rfl, rfl, rfl, ⟨h1, rfl⟩, ⟨h2, rfl⟩, trivial⟩
theorem rn_scp' {ρ : Nat → Nat} {k a b a' b' m1 m2 : Nat} {S S' : ScpL} (hq : S'.q = S.q) (h1 : a < k) (h2 : b < k) (e1 : a' = ρ a) (e2 : b' = ρ b) (g1 : m1 = S'.path.length) (g2 : m2 = S'.lems.length) : rn ρ k 3 (scpV a b S') (.agg [.int .i64 S.q.g.ins, .imm (S.q.g.units.map encAff), .imm (S.q.g.outs.map encAff), .imm (S.q.r.lo.map encRat), .imm (S.q.r.hi.map encRat), .imm (S.q.r.rows.map encAff), .imm (S.q.goal.terms.map encTerm), .bool S.q.goal.const.neg, encN S.q.goal.const.num, encN S.q.goal.const.den, .own a' 0 m1, .own b' 0 m2]) := by
 subst e1 e2 g1 g2;rw [← hq];exact ⟨rfl, rfl, rfl, rfl, rfl, rfl, rfl, rfl, rfl, rfl, ⟨h1, rfl⟩, ⟨h2, rfl⟩, trivial⟩
theorem frz_scp {h : Hp} {n a b : Nat} {S : ScpL} (ha : h a = some ⟨S.path.map encDec, 5, true⟩) (hb : h b = some ⟨S.lems.map encLem, 6, true⟩) : frz h (n + 3) (scpV a b S) = some (encScp S, [a, b]) := by
 refine zEL ?_;refine zAF (ks := []) rfl (zAF (ks := []) rfl (zAF (ks := []) rfl (zAF (ks := []) rfl (zAF (ks := []) rfl (zAF (ks := []) rfl (zAF (ks := []) rfl (zAF (ks := []) rfl (zAF (ks := []) rfl (zAF (ks := []) rfl (zAF (ks := [a]) (zAN ha rfl rfl fun x => by cases n <;> rfl) (zAF (ks := [b]) (zAN hb rfl rfl fun x => by cases n <;> rfl) rfl)))))))))))
theorem zDJ {ρ : Nat → Nat} {k : Nat} {q : QryL} (h0 : ρ 0 = 0 := by rfl) (h1 : ρ 1 = 1 := by rfl) (hk : 2 ≤ k := by decide) : rn ρ k 3 (visV q) (visV q) := by
 refine ⟨rfl, trivial, ⟨by omega, by rw [h0]⟩, rfl, ⟨by omega, by rw [h1]⟩, trivial⟩
theorem frz_box {h : Hp} {n r : Nat} {e d : PV} {sz : Nat} {agg : Bool} (hb : h r = some ⟨[e], sz, agg⟩) (he : frz h n e = some (d, [])) : frz h (n + 1) (.ptr r 0 0) = some (.cptr d 0, [r]) := by
 unfold frz;simp only [hb, List.getElem?_cons_zero, he]
theorem hv_key (a b : Nat) (S : ScpL) (h1 : 2 ≤ a) (h2 : a < b) : hv (visH a b S) 0 = some ⟨[scpV a b S], 12, true⟩ ∧ hv (visH a b S) 1 = some ⟨[visV S.q], 1, false⟩ ∧ hv (visH a b S) a = some ⟨S.path.map encDec, 5, true⟩ ∧ hv (visH a b S) b = some ⟨S.lems.map encLem, 6, true⟩ := by
 rw [hv_eq];simp only [visH, hl];refine ⟨rfl, rfl, ?_, ?_⟩
 ·rw [if_neg (by omega), if_neg (by omega)]; simp
 ·rw [if_neg (by omega), if_neg (by omega), if_neg (by omega)]; simp
def visR (r : Nat) : Nat := if r = 2 then 4 else if r = 3 then 5 else r
def visS (nx M r : Nat) : Nat := if r < 2 then r else if r = nx then 4 else if r = nx + 1 then 5 else M + r
theorem vis_call {S : ScpL} {n : NodeL} {K : PV → St → Prop} {t : Tm} {h : Hp} {z : Fz} {nx : Nat} (hF : ∀ t, FnH Tryz.prog G0 47 [nodeV n, .ptr 0 0 0, .cptr (encQry S.q) 0, .ptr 1 0 0] (visK S n) ⟨t, hv (visH 2 3 S), zv [], 4⟩) (hh : h = hv (visH 4 5 S)) (hz0 : z = zv []) (hnx : 6 ≤ nx)
 (hK : ∀ (bv : Bool) S', S'.q = S.q → ((bv = true ∧ belowO S n = none ∧ S' = S) ∨ (bv = false ∧ belowO S n = some S'.path)) → K (.bool bv) ⟨fun _ => .any, hv (visH nx (nx + 1) S'), zv [], nx + 2⟩) : FnH Tryz.prog G0 47 [nodeV n, .ptr 0 0 0, .cptr (encQry S.q) 0, .ptr 1 0 0] K ⟨t, h, z, nx⟩ := by
 subst hh hz0;have hF := hF t;rw [hv_eq, zv_eq] at hF;obtain ⟨g0, g1, g4, g5⟩ := hv_key 4 5 S (by decide) (by decide);refine fnH_re visR hF rfl (fun i d' hd => ?_) (okH_all (zHF ?_)) (by simp) ?_ ⟨_, g0, fun i e => by have := congrArg Blk.agg e; cases this⟩ fun pv s' hk => ?_
 ·refine ⟨d', hd, ?_⟩
  match i, hd with
  | 0, hd => cases hd; exact ⟨rfl, rfl, rfl, rfl, rfl, rfl, rfl, rfl, rfl, trivial⟩
  | 1, hd => cases hd; exact ⟨by decide, rfl⟩
  | 2, hd => cases hd; exact rfl
  | 3, hd => cases hd; exact ⟨by decide, rfl⟩
  | i + 4, hd => simp at hd
 ·exact ⟨zAR (by decide) g0 (zEE (by decide) (by decide) rfl rfl) rfl rfl, zAR (by decide) g1 (zDJ rfl rfl) rfl rfl, zAE (by decide) g4 rfl (zAM fun _ => ⟨rfl, by simp [encDec]⟩) rfl, zAE (by decide) g5 rfl (zAM fun _ => ⟨rfl, by simp [encLem]⟩) rfl, trivial⟩
 ·intro p hp q hq
  simp only [visH, List.mem_cons, List.not_mem_nil, or_false] at hp hq;rcases hp with rfl | rfl | rfl | rfl <;> rcases hq with rfl | rfl | rfl | rfl <;> simp [visR]
 ·obtain ⟨S', hq, hb, h1, h2, h3⟩ := hk
  obtain ⟨k0, k1, k4, k5⟩ := hv_key 4 5 S' (by decide) (by decide);obtain ⟨bv, hbv⟩ : ∃ bv : Bool, pv = .bool bv := by rcases hb with ⟨e, _⟩ | ⟨e, _⟩ <;> exact ⟨_, e⟩
  subst hbv;have hKK := hK bv S' hq (by simpa using hb);refine ⟨bv, visH nx (nx + 1) S', [], nx + 2, visS nx s'.nx, rfl, by omega, fun r hr => ?_, okH_all (zHF ?_), by simp, ?_, by rw [← hv_eq, ← zv_eq]; exact hKK⟩
  ·by_cases h : r < 2
   ·left
    unfold visS;rw [if_pos h];refine ⟨by omega, ?_⟩;unfold visR;rw [if_neg (by omega), if_neg (by omega)]
   ·right
    unfold visS;rw [if_neg h, if_neg (by omega), if_neg (by omega)]; omega
  ·rw [h1, h2]
   have e4 : visS nx s'.nx nx = 4 := by unfold visS; rw [if_neg (by omega), if_pos rfl]
   have e5 : visS nx s'.nx (nx + 1) = 5 := by unfold visS; rw [if_neg (by omega), if_neg (by omega), if_pos rfl]
   exact ⟨zAR (by omega) k0 (zEE (by omega) (by omega) e4.symm e5.symm) rfl rfl, zAR (by omega) k1 (zDJ rfl rfl (by omega)) rfl rfl, zAE (by omega) (by rw [e4]; exact k4) rfl (zAM fun _ => ⟨rfl, by simp [encDec]⟩) rfl, zAE (by omega) (by rw [e5]; exact k5) rfl (zAM fun _ => ⟨rfl, by simp [encLem]⟩) rfl, trivial⟩
  ·intro p hp q hq
   simp only [visH, List.mem_cons, List.not_mem_nil, or_false] at hp hq;rcases hp with rfl | rfl | rfl | rfl <;> rcases hq with rfl | rfl | rfl | rfl <;> intro hne <;> simp only [visS] at hne ⊢ <;> (try exact absurd rfl hne) <;> (repeat' split) <;> omega
theorem h_vis : ∀ (s : Nat) (n : NodeL) (S : ScpL) (P V v c d : Nat) (t : Tm), SizeOf.sizeOf n < s → n.Sm → formOk d n = true → okScp S → szT S P V v c d → NodeZ P V v c n →
 FnH Tryz.prog G0 47 [nodeV n, .ptr 0 0 0, .cptr (encQry S.q) 0, .ptr 1 0 0] (visK S n) ⟨t, hv (visH 2 3 S), zv [], 4⟩ := by
 intro s
 induction s with
 | zero => intro n S P V v c d t h; omega
 | succ s ih =>
   intro n S P V v c d t hs hsm hf hS hz hn;have hl := hsm.len;have l1 := hsm.prf.1;have l2 := hsm.lems.1;have p1 := hz.plen;have p2 := hz.num;have n2 := hn.num;refine fnH_v hmix hT ok_kvis (by simp) ?_;refine sus ?_;refine zBC ?_;refine sus ?_;refine tellV [] [(1, .ptr 0 0 0), (2, .cptr (encQry S.q) 0), (3, .ptr 1 0 0), (4, .cptr (nodeV n) 0), (6, .int .i64 S.lems.length)] (visH 4 5 S) [] 6 (by decide) (by simp) trivial ?_ ?_
   ·refine ⟨[2, 3], [4], [(4, .cptr (nodeV n) 0)], [], ⟨⟨⟨_, rfl⟩, trivial⟩, ⟨⟨6, [4], frz_box rfl rfl, rfl⟩, trivial⟩, trivial⟩, ⟨apx, zCB rfl, apx, zCB rfl, zAC rfl (by simp), trivial⟩, ?_, by simp [ren]⟩
    exact ⟨zAR (by decide) rfl (zEE (by decide) (by decide) rfl rfl) rfl rfl, zAR (by decide) rfl zDJ rfl rfl, zAE (by decide) rfl rfl (zAM fun _ => ⟨rfl, by simp [encDec]⟩) rfl, zAE (by decide) rfl rfl (zAM fun _ => ⟨rfl, by simp [encLem]⟩) rfl, trivial⟩
   refine sus ?_;refine zBC ?_;refine sus ?_;have e0 : scpL S (n.lemmas.take 0) = S := by unfold scpL; rw [List.take_zero, List.append_nil]
   refine zAL hT (fun (i : Nat) => [(1, .ptr 0 0 0), (2, .cptr (encQry S.q) 0), (3, .ptr 1 0 0), (4, .cptr (nodeV n) 0), (6, .int .i64 S.lems.length), (15, .imm (n.lemmas.map encLem)), (16, .int .i64 n.lemmas.length), (17, .int .i64 i)])
    (fun i => visH 4 5 (scpL S (n.lemmas.take i))) [] 6 (fun i => i ≤ n.lemmas.length ∧ ∀ k, k < i → lemP (scpL S (n.lemmas.take k)) n.lemmas[k]!) (fun i => n.lemmas.length - i) 0 ⟨Nat.zero_le _, fun k h => by omega⟩ (by decide) (by simp) ?_ ?_
   ·dsimp only
    rw [e0];refine ⟨[4, 5], [], [], [], ttt, ⟨apx, zCB rfl, apx, zCB rfl, zAC rfl rfl, zAD rfl rfl, zAC rfl (by simp), zAC rfl rfl, trivial⟩, ?_, by simp [ren]⟩;exact ⟨zAR (by decide) rfl (zEE (by decide) (by decide) rfl rfl) rfl rfl, zAR (by decide) rfl zDJ rfl rfl, zAE (by decide) rfl rfl (zAM fun _ => ⟨rfl, by simp [encDec]⟩) rfl, zAE (by decide) rfl rfl (zAM fun _ => ⟨rfl, by simp [encLem]⟩) rfl, trivial⟩
   rintro i ⟨i1, i2⟩
   have hcan : ∀ k, k < i → CanR n.lemmas[k]!.value := fun k hk => (i2 k hk).2.1
   have hzi := hz.take hn i1 hcan;have hSi : okScp (scpL S (n.lemmas.take i)) := ok_add hS;by_cases hi : i < n.lemmas.length
   ·have hm := get_mem hi
    obtain ⟨m1, m2, m3⟩ := hn.lem _ hm;have hvm := lv_le hn.val hz.val.1 hm;have cl := c_klem (scpL S (n.lemmas.take i)) n.lemmas[i]! P V hSi hzi.szS (zBU (by omega) m1) m2 (by omega);refine sus ?_
    all_goals try (exfalso; omega)
    refine zBC ?_; (repeat' (first|refine stu ?_|with_reducible(refine brr ?_ ?_<;>intro h)));all_goals try(conv=>whnf)
    all_goals try (exfalso; omega)
    (refine zBC ?_; refine sus ?_)
    all_goals try (exfalso; omega)
    (refine zBC ?_; refine sus ?_)
    refine zJY cl (zAF (frz_scp rfl rfl) (zAF rfl rfl)) ?_;refine sus ?_;refine zBC ?_; (repeat' (first|refine stu ?_|with_reducible(refine brr ?_ ?_<;>intro h)));all_goals try(conv=>whnf)
    ·have hlem := dB_true.1 (by assumption : dB _ = true)
     have ln : (scpL S (n.lemmas.take i)).lems.length = S.lems.length + i := by unfold scpL; rw [List.length_append, List.length_take]; omega
     (refine zBC ?_; refine sus ?_)
     (refine zBC ?_; refine sus ?_)
     have e1 : scpL S (n.lemmas.take (i + 1)) = ⟨S.q, S.path, (S.lems ++ n.lemmas.take i) ++ [n.lemmas[i]!]⟩ := by
      unfold scpL; rw [List.append_assoc, List.take_succ_eq_append_getElem hi, getElem!_pos n.lemmas i hi]
     refine ⟨i + 1, ⟨⟨by omega, fun k hk => zAZ (p := fun k => lemP (scpL S (n.lemmas.take k)) n.lemmas[k]!) i2 hlem hk⟩, by show n.lemmas.length - (i + 1) < n.lemmas.length - i; omega⟩, ?_⟩;rw [e1];refine ⟨[4, 18], [], [], [], ttt, ⟨apx, zCB rfl, apx, zCB rfl, zAC rfl rfl, zAD rfl rfl, zAC rfl rfl, zAC rfl rfl, trivial⟩, ?_, by simp [ren]⟩;refine ⟨zAR (by decide) rfl (rn_scp' (S := S) rfl (by decide) (by decide) rfl rfl rfl (by rw [ln]; simp [scpL]; omega)) rfl rfl, zAR (by decide) rfl zDJ rfl rfl, zAE (by decide) rfl rfl (zAM fun _ => ⟨rfl, by simp [encDec]⟩) rfl, ?_, trivial⟩;exact zAE (by decide) rfl (by show _ = List.map encLem _; rw [List.map_append]; rfl) (zAM fun _ => ⟨rfl, by simp [encLem]⟩) rfl
    ·have hlem := dB_false.1 (by assumption : dB _ = false)
     refine tellV [] [(5, .bool false)] (visH 4 5 (scpL S (n.lemmas.take i))) [] 6 (by decide) (by simp) trivial ?_ ?_
     ·exact ⟨[4, 5], [], [], [], ttt, ⟨zAG rfl rfl, trivial⟩, ⟨zAR (by decide) rfl (zEE (by decide) (by decide) rfl rfl) rfl rfl, zAR (by decide) rfl zDJ rfl rfl, zAE (by decide) rfl rfl (zAM fun _ => ⟨rfl, by simp [encDec]⟩) rfl, zAE (by decide) rfl rfl (zAM fun _ => ⟨rfl, by simp [encLem]⟩) rfl, trivial⟩, by simp [ren]⟩
     refine sus ?_;exact ⟨scpL S (n.lemmas.take i), rfl, Or.inr ⟨rfl, zCW fun e => hlem (e.1 i hi)⟩, rfl, rfl, Nat.le_refl 6⟩
   ·obtain rfl : i = n.lemmas.length := by omega
    rw [List.take_length] at *
    have hlems : lemsP S n.lemmas := i2;refine sus ?_;refine zBC ?_
    (repeat' (first|refine stu ?_|with_reducible(refine brr ?_ ?_<;>intro h)));all_goals try(conv=>whnf)
    all_goals try (exfalso; omega)
    refine zBC ?_;have lt : (scpL S n.lemmas).lems.length = S.lems.length + n.lemmas.length := by unfold scpL; rw [List.length_append]
    refine r_cutP ⟨sv [(1, .ptr 0 0 0), (6, .int .i64 S.lems.length)], hv (visH 4 5 (scpL S n.lemmas)), zv [], 6⟩ (belowO S n = none) (fun hb => ?_) fun H9 => ?_
    ·refine sus ?_
     refine tellT 5 S.lems.length rfl (fun i e => by have := congrArg Blk.agg e; cases this) ?_;refine tellV [] [] (visH 4 5 S) [] 6 (by decide) (by simp) trivial ?_ ?_
     ·refine ⟨[4, 5], [], [], [], ttt, trivial, ?_, by simp [ren]⟩
      refine ⟨zAR (by decide) rfl (rn_scp' (S := scpL S n.lemmas) rfl (by decide) (by decide) rfl rfl rfl rfl) rfl rfl, zAR (by decide) rfl zDJ rfl rfl, zAE (by decide) rfl rfl (zAM fun _ => ⟨rfl, by simp [encDec]⟩) rfl, ?_, trivial⟩;exact zAE (by decide) rfl (by show List.take _ (List.map encLem (S.lems ++ n.lemmas)) = _; rw [List.map_append, List.take_left' (by simp)]) (zAM fun _ => ⟨rfl, by simp [encLem]⟩) rfl
     refine sus ?_
     (refine zBC ?_; refine sus ?_)
     exact ⟨S, rfl, Or.inl ⟨rfl, hb, rfl⟩, rfl, rfl, Nat.le_succ 6⟩
    ·(repeat' (first|refine stu ?_|with_reducible(refine brr ?_ ?_<;>intro h)));all_goals try(conv=>whnf)
     all_goals refine zBC ?_; (repeat' (first|refine stu ?_|with_reducible(refine brr ?_ ?_<;>intro h)));all_goals try(conv=>whnf)
     ·have hk : n.kids.length = 0 := by omega
      have he : n.empty = true := by assumption
      have cr := c_kref (scpL S n.lemmas) n.proof P V hSi hzi.szS hn.prf.1 (by have := hn.prf.2; omega);refine zJY cr (zAF (frz_scp rfl rfl) (zAF rfl rfl)) ?_;refine sus ?_;refine zBC ?_; (repeat' (first|refine stu ?_|with_reducible(refine brr ?_ ?_<;>intro h)));all_goals try(conv=>whnf)
      ·have hr := dB_true.1 (by assumption : dB _ = true)
       refine tellV [] [(1, .ptr 0 0 0), (6, .int .i64 S.lems.length)] (visH 4 5 (scpL S n.lemmas)) [] 6 (by decide) (by simp) trivial ⟨[4, 5], [], [], [], ttt, ⟨apx, zAC rfl rfl, trivial⟩, ⟨zAR (by decide) rfl (zEE (by decide) (by decide) rfl rfl) rfl rfl, zAR (by decide) rfl zDJ rfl rfl, zAE (by decide) rfl rfl (zAM fun _ => ⟨rfl, by simp [encDec]⟩) rfl, zAE (by decide) rfl rfl (zAM fun _ => ⟨rfl, by simp [encLem]⟩) rfl, trivial⟩, by simp [ren]⟩ ?_;exact H9 (zEX ⟨hlems, by rw [if_pos hk, if_pos he]; exact hr⟩ hk)
      ·have hr := dB_false.1 (by assumption : dB _ = false)
       refine tellV [] [(5, .bool false)] (visH 4 5 (scpL S n.lemmas)) [] 6 (by decide) (by simp) trivial ⟨[4, 5], [], [], [], ttt, ⟨zAG rfl rfl, trivial⟩, ⟨zAR (by decide) rfl (zEE (by decide) (by decide) rfl rfl) rfl rfl, zAR (by decide) rfl zDJ rfl rfl, zAE (by decide) rfl rfl (zAM fun _ => ⟨rfl, by simp [encDec]⟩) rfl, zAE (by decide) rfl rfl (zAM fun _ => ⟨rfl, by simp [encLem]⟩) rfl, trivial⟩, by simp [ren]⟩ ?_;refine sus ?_;exact ⟨scpL S n.lemmas, rfl, Or.inr ⟨rfl, zCW fun e => hr (by have := e.2; rw [if_pos hk, if_pos he] at this; exact this)⟩, rfl, rfl, Nat.le_refl 6⟩
     ·refine zBC ?_; (repeat' (first|refine stu ?_|with_reducible(refine brr ?_ ?_<;>intro h)));all_goals try(conv=>whnf)
      all_goals try (exfalso; omega)
      have hk : n.kids.length = 0 := by omega
      have he : ¬ n.empty = true := by rw [show n.empty = false by assumption]; decide
      have hvg : ValidF S.q.goal (S.q.g.ins + S.q.g.units.length) := hS.1.2.2;have cp := c_kprv (scpL S n.lemmas) S.q.goal.Q n.proof P V 40000000 hSi hzi.szS (zCQ hz.goal (by decide)) (zD0 hvg) hn.prf.1 (by have := hn.prf.2; omega);rw [zL4 hvg] at cp;refine zJY cp (zAF (frz_scp rfl rfl) (zAF rfl (zAF rfl rfl))) ?_;refine sus ?_;refine zBC ?_; (repeat' (first|refine stu ?_|with_reducible(refine brr ?_ ?_<;>intro h)));all_goals try(conv=>whnf)
      ·have hr := dB_true.1 (by assumption : dB _ = true)
       refine tellV [] [(1, .ptr 0 0 0), (6, .int .i64 S.lems.length)] (visH 4 5 (scpL S n.lemmas)) [] 6 (by decide) (by simp) trivial ⟨[4, 5], [], [], [], ttt, ⟨apx, zAC rfl rfl, trivial⟩, ⟨zAR (by decide) rfl (zEE (by decide) (by decide) rfl rfl) rfl rfl, zAR (by decide) rfl zDJ rfl rfl, zAE (by decide) rfl rfl (zAM fun _ => ⟨rfl, by simp [encDec]⟩) rfl, zAE (by decide) rfl rfl (zAM fun _ => ⟨rfl, by simp [encLem]⟩) rfl, trivial⟩, by simp [ren]⟩ ?_;exact H9 (zEX ⟨hlems, by rw [if_pos hk, if_neg he]; exact hr⟩ hk)
      ·have hr := dB_false.1 (by assumption : dB _ = false)
       refine tellV [] [(5, .bool false)] (visH 4 5 (scpL S n.lemmas)) [] 6 (by decide) (by simp) trivial ⟨[4, 5], [], [], [], ttt, ⟨zAG rfl rfl, trivial⟩, ⟨zAR (by decide) rfl (zEE (by decide) (by decide) rfl rfl) rfl rfl, zAR (by decide) rfl zDJ rfl rfl, zAE (by decide) rfl rfl (zAM fun _ => ⟨rfl, by simp [encDec]⟩) rfl, zAE (by decide) rfl rfl (zAM fun _ => ⟨rfl, by simp [encLem]⟩) rfl, trivial⟩, by simp [ren]⟩ ?_;refine sus ?_;exact ⟨scpL S n.lemmas, rfl, Or.inr ⟨rfl, zCW fun e => hr (by have := e.2; rw [if_pos hk, if_neg he] at this; exact this)⟩, rfl, rfl, Nat.le_refl 6⟩
     ·refine zBC ?_; (repeat' (first|refine stu ?_|with_reducible(refine brr ?_ ?_<;>intro h)));all_goals try(conv=>whnf)
      all_goals try (exfalso; omega)
      have hk : n.kids.length ≠ 0 := by omega
      have hfo := hf;rw [zB8 hk] at hfo;simp only [Bool.and_eq_true, decide_eq_true_eq] at hfo;have hd0 : d ≠ 0 := hfo.1.2;have h5 := hfo.1.1;unfold innerOk at h5;obtain ⟨e1, e2, e3, e4, e5⟩ := of_decide_eq_true h5;have hfk := zEU e1 (d := d);rw [hf] at hfk;have hfk := hfk.symm;simp only [Bool.and_eq_true] at hfk;have cfit := c_kfits S.q n.split (by have := hz.nv; have := hS.1.1.1.1; unfold nvar at *; omega) (zBU (by have := hz.B; omega) hn.spl);have copp := c_kopp n.split ⟨e2, e3⟩;refine zAA cfit rfl ?_;refine sus ?_;refine zBC ?_; (repeat' (first|refine stu ?_|with_reducible(refine brr ?_ ?_<;>intro h)));all_goals try(conv=>whnf)
      rotate_left
      ·have hr := dB_false.1 (by assumption : dB _ = false)
       refine tellV [] [(5, .bool false)] (visH 4 5 (scpL S n.lemmas)) [] 6 (by decide) (by simp) trivial ⟨[4, 5], [], [], [], ttt, ⟨zAG rfl rfl, trivial⟩, ⟨zAR (by decide) rfl (zEE (by decide) (by decide) rfl rfl) rfl rfl, zAR (by decide) rfl zDJ rfl rfl, zAE (by decide) rfl rfl (zAM fun _ => ⟨rfl, by simp [encDec]⟩) rfl, zAE (by decide) rfl rfl (zAM fun _ => ⟨rfl, by simp [encLem]⟩) rfl, trivial⟩, by simp [ren]⟩ ?_;refine sus ?_;exact ⟨scpL S n.lemmas, rfl, Or.inr ⟨rfl, zCW fun e => hr (by have := e.2; rw [if_neg hk] at this; exact this)⟩, rfl, rfl, Nat.le_refl 6⟩
      have hfit := dB_true.1 (by assumption : dB _ = true);have hright : rightP S n := ⟨hlems, by rw [if_neg hk]; exact hfit⟩
      (refine zBC ?_; refine sus ?_)
      refine zAA copp rfl ?_;refine sus ?_;refine tellV [] [(1, .ptr 0 0 0), (2, .cptr (encQry S.q) 0), (3, .ptr 1 0 0), (4, .cptr (nodeV n) 0), (6, .int .i64 S.lems.length), (42, .imm ([n.split, opp n.split].map encDec)), (43, .int .i64 2), (44, .int .i64 0)] (visH 4 5 (scpL S n.lemmas)) [] 6 (by decide) (by simp) trivial ?_ ?_
      ·refine ⟨[4, 5], [31], [(42, .imm ([n.split, opp n.split].map encDec))], [], ⟨⟨⟨_, rfl⟩, trivial⟩, ⟨⟨6, [31], rfl, rfl⟩, trivial⟩, trivial⟩, ⟨apx, zCB rfl, apx, zCB rfl, zAC rfl rfl, zAD rfl rfl, zAC rfl rfl, zAC rfl rfl, trivial⟩, ?_, by simp [ren]⟩
       exact ⟨zAR (by decide) rfl (zEE (by decide) (by decide) rfl rfl) rfl rfl, zAR (by decide) rfl zDJ rfl rfl, zAE (by decide) rfl rfl (zAM fun _ => ⟨rfl, by simp [encDec]⟩) rfl, zAE (by decide) rfl rfl (zAM fun _ => ⟨rfl, by simp [encLem]⟩) rfl, trivial⟩
      refine sus ?_
      refine zAL hT (fun (i : Nat) => [(1, .ptr 0 0 0), (2, .cptr (encQry S.q) 0), (3, .ptr 1 0 0), (4, .cptr (nodeV n) 0), (6, .int .i64 S.lems.length), (42, .imm ([n.split, opp n.split].map encDec)), (43, .int .i64 2), (44, .int .i64 i)]) (fun _ => visH 4 5 (scpL S n.lemmas)) [] 6
       (fun i => i ≤ 2 ∧ ∀ j, j < i → belowO (kidS S n [n.split, opp n.split][j]!) n.kids[j]! = none) (fun i => 2 - i) 0 ⟨by omega, fun j h => by omega⟩ (by decide) (by simp) ?_ ?_
      ·refine ⟨[4, 5], [], [], [], ttt, ⟨apx, zCB rfl, apx, zCB rfl, zAC rfl rfl, zAD rfl rfl, zAC rfl rfl, zAC rfl rfl, trivial⟩, ?_, by simp [ren]⟩
       exact ⟨zAR (by decide) rfl (zEE (by decide) (by decide) rfl rfl) rfl rfl, zAR (by decide) rfl zDJ rfl rfl, zAE (by decide) rfl rfl (zAM fun _ => ⟨rfl, by simp [encDec]⟩) rfl, zAE (by decide) rfl rfl (zAM fun _ => ⟨rfl, by simp [encLem]⟩) rfl, trivial⟩
      rintro i ⟨i3, i4⟩
      by_cases hi2 : i < 2
      ·refine sus ?_
       refine zBC ?_; (repeat' (first|refine stu ?_|with_reducible(refine brr ?_ ?_<;>intro h)));all_goals try(conv=>whnf)
       all_goals try (exfalso; omega)
       (refine zBC ?_; refine sus ?_)
       obtain ⟨D, hD⟩ : ∃ D, [n.split, opp n.split][i]! = D := ⟨_, rfl⟩
       have hDk : (i = 0 ∧ D = n.split) ∨ (i = 1 ∧ D = opp n.split) := by
        rcases Nat.lt_or_ge i 1 with h | h
        ·obtain rfl : i = 0 := by omega
         exact Or.inl ⟨rfl, hD.symm⟩
        ·obtain rfl : i = 1 := by omega
         exact Or.inr ⟨rfl, hD.symm⟩
       have lp : (scpL S n.lemmas).path.length = S.path.length := rfl
       try rw [hD]
       (refine zBC ?_; refine sus ?_)
       have hdr : D.rat = n.split.rat := by
        rcases hDk with ⟨_, e⟩ | ⟨_, e⟩ <;> rw [e]
        rfl
       have hDf : fitD S.q D := by
        rcases hDk with ⟨_, e⟩ | ⟨_, e⟩ <;> rw [e]
        ·exact hfit
        ·exact fit_op hfit
       have hcan2 : ∀ k, k < n.lemmas.length → CanR n.lemmas[k]!.value := hcan;have hz2 : szT (kidS S n D) P V v (c - n.lemmas.length) (d - 1) := hz.kid hd0 hn hcan2 (by rw [hdr]; exact hn.spl);have hS2 : okScp (kidS S n D) := ok_kid hS hDf;have hkm : n.kids[i]! ∈ n.kids := get_mem (by omega);have hks := NodeL.sizeOf_kid hkm
       have hkf : formOk (d - 1) n.kids[i]! = true := by
        rcases hDk with ⟨e, _⟩ | ⟨e, _⟩ <;> rw [e]
        ·exact hfk.2.1
        ·exact hfk.2.2
       have hvis := fun t => ih n.kids[i]! (kidS S n D) P V _ _ (d - 1) t (by omega) (hsm.kid hkm) hkf hS2 hz2 (hn.kid _ hkm)
       refine tellV [] [(1, .ptr 0 0 0), (2, .cptr (encQry S.q) 0), (3, .ptr 1 0 0), (4, .cptr (nodeV n) 0), (6, .int .i64 S.lems.length), (9, .int .i64 i), (42, .imm ([n.split, opp n.split].map encDec)), (43, .int .i64 2), (44, .int .i64 i)] (visH 4 5 (kidS S n D)) [] 6 (by decide) (by simp) trivial ?_ ?_
       ·refine ⟨[17, 5], [], [], [], ttt, ⟨apx, zCB rfl, apx, zCB rfl, zAC rfl rfl, zAC rfl rfl, zAD rfl rfl, zAC rfl rfl, zAC rfl rfl, trivial⟩, ?_, by simp [ren]⟩
        refine ⟨zAR (by decide) rfl (rn_scp' (S := S) rfl (by decide) (by decide) rfl rfl (by simp [kidS, scpL]) rfl) rfl rfl, zAR (by decide) rfl zDJ rfl rfl, ?_, zAE (by decide) rfl rfl (zAM fun _ => ⟨rfl, by simp [encLem]⟩) rfl, trivial⟩;exact zAE (by decide) rfl (by show _ = List.map encDec (S.path ++ [D]); rw [List.map_append]; rfl) (zAM fun _ => ⟨rfl, by simp [encDec]⟩) rfl
       refine sus ?_;rw [zE9];refine sus ?_;refine zF8 (vis_call hvis rfl rfl (by decide) fun bv S' hq' hbv => ?_);refine sus ?_;refine zBC ?_; (repeat' (first|refine stu ?_|with_reducible(refine brr ?_ ?_<;>intro h)));all_goals try(conv=>whnf)
       ·obtain ⟨hb0, rfl⟩ : belowO (kidS S n D) n.kids[i]! = none ∧ S' = kidS S n D := by
         rcases hbv with ⟨_, e⟩ | ⟨e, _⟩
         ·exact e
         ·exact absurd e (by rw [show bv = true by assumption]; decide)
        have lk : (kidS S n D).path.length = S.path.length + 1 := by simp [kidS]
        (refine zBC ?_; refine sus ?_)
        refine tellT 12 S.path.length rfl (fun i e => by have := congrArg Blk.agg e; cases this) ?_;refine tellV [] [(1, .ptr 0 0 0), (2, .cptr (encQry S.q) 0), (3, .ptr 1 0 0), (4, .cptr (nodeV n) 0), (6, .int .i64 S.lems.length), (42, .imm ([n.split, opp n.split].map encDec)), (43, .int .i64 2), (44, .int .i64 i)] (visH 4 5 (scpL S n.lemmas)) [] 6 (by decide) (by simp) trivial ?_ ?_
        ·refine ⟨[12, 13], [], [], [], ttt, ⟨apx, zCB rfl, apx, zCB rfl, zAC rfl rfl, zAD rfl rfl, zAC rfl rfl, zAC rfl rfl, trivial⟩, ?_, by simp [ren]⟩
         refine ⟨zAR (by decide) rfl (rn_scp' (S := kidS S n D) rfl (by decide) (by decide) rfl rfl (by rw [lk]; show Int.toNat _ - 0 = S.path.length; omega) rfl) rfl rfl, zAR (by decide) rfl zDJ rfl rfl, ?_, zAE (by decide) rfl rfl (zAM fun _ => ⟨rfl, by simp [encLem]⟩) rfl, trivial⟩;exact zAE (by decide) rfl (by show List.take _ (List.map encDec (S.path ++ [D])) = _; rw [List.map_append, List.take_left' (by simp)]; rfl) (zAM fun _ => ⟨rfl, by simp [encDec]⟩) rfl
        refine sus ?_;refine ⟨i + 1, ⟨⟨by omega, fun j hj => zAZ (p := fun j => belowO (kidS S n [n.split, opp n.split][j]!) n.kids[j]! = none) i4 (by rw [hD]; exact hb0) hj⟩, by show 2 - (i + 1) < 2 - i; omega⟩, ?_⟩;refine ⟨[4, 5], [], [], [], ttt, ⟨apx, zCB rfl, apx, zCB rfl, zAC rfl rfl, zAD rfl rfl, zAC rfl rfl, zAC rfl rfl, trivial⟩, ?_, by simp [ren]⟩;exact ⟨zAR (by decide) rfl (zEE (by decide) (by decide) rfl rfl) rfl rfl, zAR (by decide) rfl zDJ rfl rfl, zAE (by decide) rfl rfl (zAM fun _ => ⟨rfl, by simp [encDec]⟩) rfl, zAE (by decide) rfl rfl (zAM fun _ => ⟨rfl, by simp [encLem]⟩) rfl, trivial⟩
       ·have hb0 : belowO (kidS S n D) n.kids[i]! = some S'.path := by
         rcases hbv with ⟨e, _⟩ | ⟨_, e⟩
         ·exact absurd e (by rw [show bv = false by assumption]; decide)
         ·exact e
        refine tellV [] [(5, .bool false)] (visH 4 5 S') [] 6 (by decide) (by simp) trivial ⟨[12, 13], [], [], [], ttt, ⟨zAG rfl rfl, trivial⟩, ⟨zAR (by decide) rfl (zEE (by decide) (by decide) rfl rfl) rfl rfl, zAR (by decide) rfl zDJ rfl rfl, zAE (by decide) rfl rfl (zAM fun _ => ⟨rfl, by simp [encDec]⟩) rfl, zAE (by decide) rfl rfl (zAM fun _ => ⟨rfl, by simp [encLem]⟩) rfl, trivial⟩, by simp [ren]⟩ ?_;refine sus ?_;refine ⟨S', hq', Or.inr ⟨rfl, ?_⟩, rfl, rfl, Nat.le_refl 6⟩;rw [zDV hright (zK7 e1)];rcases hDk with ⟨e, e2⟩ | ⟨e, e2⟩
        ·rw [e, e2] at hb0
         rw [hb0]
        ·have h0 := i4 0 (by omega)
         rw [e, e2] at hb0;rw [show belowO (kidS S n n.split) n.kids[0]! = none from h0];exact hb0
      ·obtain rfl : i = 2 := by omega
       have hnone : belowO S n = none := by
        rw [zDV hright (zK7 e1), show belowO (kidS S n n.split) n.kids[0]! = none from i4 0 (by omega)];exact i4 1 (by omega)
       refine sus ?_
       (refine zBC ?_; refine sus ?_)
       refine tellV [] [(1, .ptr 0 0 0), (6, .int .i64 S.lems.length)] (visH 4 5 (scpL S n.lemmas)) [] 6 (by decide) (by simp) trivial ⟨[4, 5], [], [], [], ttt, ⟨apx, zAC rfl rfl, trivial⟩, ⟨zAR (by decide) rfl (zEE (by decide) (by decide) rfl rfl) rfl rfl, zAR (by decide) rfl zDJ rfl rfl, zAE (by decide) rfl rfl (zAM fun _ => ⟨rfl, by simp [encDec]⟩) rfl, zAE (by decide) rfl rfl (zAM fun _ => ⟨rfl, by simp [encLem]⟩) rfl, trivial⟩, by simp [ren]⟩ ?_;exact H9 hnone
end Go.PI.Tryz
namespace Go.PI.Tryz
open Go.Proofs Go.PI
set_option maxHeartbeats 0
open Classical in
noncomputable def nVars (g : GraL) : Int := if VaG g then g.ins + g.units.length else 0
theorem ok_gvars : FO 43 Tryz.f43 [.tmp 2] 12 := mkO Tryz.func43 Tryz.ntmps43 Tryz.results43
theorem c_gvars (g : GraL) (hg : okGra 950000000 g) : Fn 43 [encGra g] (.data (.int .i64 (nVars g))) := by
 have cv := c_gvalid g hg;have l1 := hg.1.1;refine zAJ hmix hT ok_gvars (by simp [encGra]) ?_;refine sts ?_;refine zAA cv rfl ?_
 (repeat' (first|refine stp ?_|with_reducible(refine brr ?_ ?_<;>intro h)));all_goals try(conv=>whnf)
 ·have hv : VaG g := dB_true.1 (by assumption)
  have h1 := hv.1;refine sts ?_;exact zAB rfl (by unfold nVars; rw [if_pos hv]; simp)
 ·have hv : ¬ VaG g := dB_false.1 (by assumption)
  exact zAB rfl (by unfold nVars; rw [if_neg hv])
structure szQ (q : QryL) (P : Nat) : Prop where
 P1 : 1 ≤ P
 g : okGra P q.g
 r : okReg P q.r
 goal : okA 40000000 q.goal
theorem VaQ_split {q : QryL} : VaQ q ↔ nVars q.g ≠ 0 ∧ VaR q.r q.g.ins ∧ validB q.goal (nVars q.g) = true := by
 unfold VaQ nVars;by_cases h : VaG q.g
 ·rw [if_pos h, validB_true]
  have := h.1;exact ⟨fun e => ⟨by omega, e.2⟩, fun e => ⟨h, e.2⟩⟩
 ·rw [if_neg h]
  exact ⟨fun e => absurd e.1 h, fun e => absurd rfl e.1⟩
open Classical in
noncomputable def treeR (q : QryL) (n : NodeL) : List DecL × Int := if n.valid = true ∧ VaQ q then (match belowO ⟨q, [], []⟩ n with
 | none => ([], 0)
 | some p => (p, 12)) else ([], 1)
theorem rn_vis2 {ρ : Nat → Nat} {k a b : Nat} {q : QryL} (h0 : a = ρ 0) (h1 : b = ρ 1) (hk : 2 ≤ k := by decide) : rn ρ k 3 (visV q) (.func (.func 47) [] [.ptr a 0 0, .cptr (encQry q) 0, .ptr b 0 0]) := by
 subst h0 h1;exact ⟨rfl, trivial, ⟨by omega, rfl⟩, rfl, ⟨by omega, rfl⟩, trivial⟩
theorem below_len : ∀ (k : Nat) (n : NodeL) (S : ScpL) (d : Nat) (p : List DecL), SizeOf.sizeOf n < k → formOk d n = true → belowO S n = some p → p.length ≤ S.path.length + d := by
 intro k
 induction k with
 | zero => intro n S d p h; omega
 | succ k ih =>
   intro n S d p hk hf hb;by_cases hr : rightP S n
   ·by_cases h0 : n.kids.length = 0
    ·rw [zEX hr h0] at hb; cases hb
    ·have hfo := hf
     rw [zB8 h0] at hfo;simp only [Bool.and_eq_true, decide_eq_true_eq] at hfo;have hd0 : d ≠ 0 := hfo.1.2;have h5 := hfo.1.1;unfold innerOk at h5;obtain ⟨e1, _⟩ := of_decide_eq_true h5;have hfk := zEU e1 (d := d);rw [hf] at hfk;have hfk := hfk.symm;simp only [Bool.and_eq_true] at hfk;have s0 := NodeL.sizeOf_kid (get_mem (l := n.kids) (show 0 < n.kids.length by omega));have s1 := NodeL.sizeOf_kid (get_mem (l := n.kids) (show 1 < n.kids.length by omega));rw [zDV hr (zK7 e1)] at hb;have lk : ∀ e, (kidS S n e).path.length = S.path.length + 1 := fun e => by simp [kidS]
     split at hb
     ·rename_i p' hp
      cases hb
      have := ih _ _ (d - 1) _ (by omega) hfk.2.1 hp;rw [lk] at this; omega
     ·have := ih _ _ (d - 1) _ (by omega) hfk.2.2 hb
      rw [lk] at this; omega
   ·rw [zCW hr] at hb; cases hb; omega
theorem ok_ktree : FO 13 Tryz.f13 [.tmp 4, .tmp 5] 52 := mkO Tryz.func13 Tryz.ntmps13 Tryz.results13
theorem c_ktree (q : QryL) (n : NodeL) (P V v : Nat) (hvV : v ≤ V) (hq : szQ q P) (hs : n.Sm) (hc : n.cnt ≤ 4194304) (hz : NodeZ P V v 1048576 n) (hB : P + 2 * V + 20 ≤ 100000000) : Fn 13 [encQry q, nodeV n] (.data (.tup [.imm ((treeR q n).1.map encDec), .int .i64 (treeR q n).2])) := by
 obtain ⟨k, k1, k2, cshp⟩ := c_kshp _ n 2048 65536 (Nat.lt_succ_self _) hs hc (by decide) (by decide);have cva := c_gvars q.g ⟨⟨hq.g.1.1, fun f hf => zBE (by omega) (hq.g.1.2 f hf)⟩, ⟨hq.g.2.1, fun f hf => zBE (by omega) (hq.g.2.2 f hf)⟩⟩;have crg := c_rgvalid q.r q.g.ins ⟨zFR (by omega) hq.r.1, zFR (by omega) hq.r.2.1, fun f hf => zBE (by omega) (hq.r.2.2.1 f hf), hq.r.2.2.2⟩;have clv := zI9 q.goal (nVars q.g) (zBE (by omega) hq.goal);have ev : (formOk 2048 n && decide (n.cnt ≤ 65536)) = n.valid := rfl;rw [ev] at cshp k2
 have bad : ¬ (n.valid = true ∧ nVars q.g ≠ 0 ∧ VaR q.r q.g.ins ∧ validB q.goal (nVars q.g) = true) → PV.tup [.imm [], .int .i64 1] = .tup [.imm ((treeR q n).1.map encDec), .int .i64 (treeR q n).2] := fun h => by
  unfold treeR;rw [if_neg (fun e => h ⟨e.1, VaQ_split.1 e.2⟩)]; rfl
 refine zAJ hmix hT ok_ktree (by simp [encQry]) ?_;refine sus ?_;refine tellV [] [(2, .cptr (encQry q) 0), (3, .cptr (nodeV n) 0)] [] [] 0 (by decide) (by simp) trivial ?_ ?_
 ·exact ⟨[], [0, 1], [(2, .cptr (encQry q) 0), (3, .cptr (nodeV n) 0)], [], ⟨⟨⟨_, rfl⟩, ⟨_, rfl⟩, trivial⟩, ⟨⟨6, [0], frz_box rfl rfl, rfl⟩, ⟨6, [1], frz_box rfl rfl, rfl⟩, trivial⟩, trivial⟩, ⟨zCB rfl, zCB rfl, trivial⟩, trivial, by simp [ren]⟩
 refine sus ?_;refine zAA cva rfl ?_;refine sus ?_
 (refine zBC ?_; refine sus ?_)
 refine zAA cshp rfl ?_;refine sus ?_;refine zBC ?_; (repeat' (first|refine stu ?_|with_reducible(refine brr ?_ ?_<;>intro h)));all_goals try(conv=>whnf)
 rotate_left 2
 ·have hv : n.valid = false := by assumption
  refine sts ?_;exact zAB rfl (bad fun e => by rw [hv] at e; exact absurd e.1 (by decide))
 ·have hv : nVars q.g = 0 := by assumption
  refine sts ?_;exact zAB rfl (bad fun e => e.2.1 hv)
 have hnv : ¬ nVars q.g = 0 := by assumption
 have hval : n.valid = true := by assumption
 refine zAA crg rfl ?_
 (repeat' (first|refine stu ?_|with_reducible(refine brr ?_ ?_<;>intro h)));all_goals try(conv=>whnf)
 rotate_left
 ·have hv := dB_false.1 (by assumption : dB _ = false)
  refine sts ?_;exact zAB rfl (bad fun e => hv e.2.2.1)
 have hrg := dB_true.1 (by assumption : dB _ = true);refine zAA clv rfl ?_;refine sus ?_;refine zBC ?_; (repeat' (first|refine stu ?_|with_reducible(refine brr ?_ ?_<;>intro h)));all_goals try(conv=>whnf)
 rotate_left
 ·have hv : validB q.goal (nVars q.g) = false := by assumption
  refine sts ?_;exact zAB rfl (bad fun e => by rw [hv] at e; exact absurd e.2.2.2 (by decide))
 have hlv : validB q.goal (nVars q.g) = true := by assumption
 (refine zBC ?_; refine sus ?_)
 (refine zBC ?_; refine sus ?_)
 (refine zBC ?_; refine sus ?_)
 refine tellV [(.cl 35 0 10, 5, true), (.cl 35 0 11, 6, true)] [(3, .cptr (nodeV n) 0), (9, .ptr 0 0 0), (10, .ptr 1 0 0)] (visH 4 5 ⟨q, [], []⟩) [] 6 (by decide) (by simp) ⟨_, _, rfl, rfl, rfl, _, _, rfl, rfl, rfl, trivial⟩ ?_ ?_
 ·refine ⟨[35, 37, 0, 0, 40, 41], [], [], [], ttt, ⟨zCB rfl, apx, apx, trivial⟩, ?_, by simp [ren]⟩
  exact ⟨zAR (by decide) rfl (zEE (by decide) (by decide) rfl rfl) rfl rfl, zAR (by decide) rfl (rn_vis2 rfl rfl) rfl rfl, zAE (by decide) rfl rfl (zAM fun _ => ⟨rfl, by simp [encDec]⟩) rfl, zAE (by decide) rfl rfl (zAM fun _ => ⟨rfl, by simp [encLem]⟩) rfl, trivial⟩
 have hVa : VaQ q := VaQ_split.2 ⟨hnv, hrg, hlv⟩;have hS : okScp ⟨q, [], []⟩ := ⟨hVa, fun d hd => by cases hd⟩
 have hsz : szT ⟨q, [], []⟩ P V v 1048576 2048 := by
  refine ⟨hq.P1, hq.g.1.2, hq.r.1, hq.r.2.1, ⟨hq.r.2.2.2, hq.r.2.2.1⟩, hq.goal, (by show 0 + 2048 ≤ 1048576; omega), (fun d hd => by cases hd), (fun d hd => by cases hd), (fun d hd => by cases hd), ⟨hvV, fun m hm => by cases hm⟩, (by show 0 + 1048576 ≤ 1048576; omega), hB, ?_⟩;have h1 := hVa.1.1;have h2 := hVa.1.2.1;show q.g.ins + q.g.units.length ≤ 1280
  omega
 have hfo : formOk 2048 n = true := by unfold NodeL.valid at hval; simp only [Bool.and_eq_true] at hval; exact hval.1
 have hvis := fun t => h_vis _ n ⟨q, [], []⟩ P V v 1048576 2048 t (Nat.lt_succ_self _) hs hfo hS hsz hz
 have hres : treeR q n = (match belowO ⟨q, [], []⟩ n with
  | none => ([], 0)
  | some p => (p, 12)) := if_pos ⟨hval, hVa⟩
 refine sus ?_;refine zF8 (vis_call hvis rfl rfl (by decide) fun bv S' hq' hbv => ?_)
 have hpl : S'.path.length ≤ 2048 := by
  rcases hbv with ⟨_, _, e⟩ | ⟨_, e⟩
  ·rw [e]; exact Nat.zero_le _
  ·have := below_len _ n ⟨q, [], []⟩ 2048 _ (Nat.lt_succ_self _) hfo e
   simpa using this
 refine sus ?_
 (repeat' (first|refine stp ?_|with_reducible(refine brr ?_ ?_<;>intro h)));all_goals try(conv=>whnf)
 ·have hb0 : belowO ⟨q, [], []⟩ n = none := by
   rcases hbv with ⟨_, e, _⟩ | ⟨e, _⟩
   ·exact e
   ·exact absurd e (by rw [show bv = true by assumption]; decide)
  rw [hres, hb0];exact zAB rfl rfl
 ·have hb0 : belowO ⟨q, [], []⟩ n = some S'.path := by
   rcases hbv with ⟨e, _⟩ | ⟨_, e⟩
   ·exact absurd e (by rw [show bv = false by assumption]; decide)
   ·exact e
  rw [hres, hb0];exact zAB (zEK (zAF (zAN (f := encDec) (l := S'.path) rfl (by show [] ++ List.take S'.path.length (List.map encDec S'.path) = _; rw [List.nil_append, List.take_of_length_le (by simp)]) (by show 0 + (List.take S'.path.length (List.map encDec S'.path)).length = _; simp) fun x => rfl) rfl)) rfl
end Go.PI.Tryz
