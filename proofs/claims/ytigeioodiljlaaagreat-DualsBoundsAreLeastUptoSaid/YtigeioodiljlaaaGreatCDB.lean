/-
  Duals: Unbounded, Optimal, zero, Check, Slack.
-/
import Derived.Test.YtigeioodiljlaaaGreatCLB
import Derived.Test.YtigeioodiljlaaaGreatCPD
set_option linter.unusedVariables false
set_option linter.unusedSimpArgs false
set_option linter.unnecessarySimpa false
namespace Go.PI.Tryz
open Go.Proofs Go.PI
theorem ok_pvalid : FO 37 Tryz.f37 [.tmp 2] 40 := mkO Tryz.func37 Tryz.ntmps37 Tryz.results37
theorem c_pvalid (p : ProgL) (hp : okP 2147483596 p) : Fn 37 [encProg p] (.data (.bool (validPB p))) := by
 obtain ⟨ho, hr, hl⟩ := hp;have cv := c_lvalid p.obj p.vars ho;have bad : ¬ ValidP p → false = validPB p := fun h => (validPB_false.2 h).symm
 refine zAO hmix hT ok_pvalid (by simp [encProg]) ?_
 (repeat' (first|refine stp ?_|with_reducible(refine brr ?_ ?_<;>intro h)));all_goals try(conv=>whnf)
 ·exact zAB rfl (congrArg PV.bool (bad fun e => by have := e.1.1; omega))
 ·exact zAB rfl (congrArg PV.bool (bad fun e => by have := e.1.2; omega))
 ·exact zAB rfl (congrArg PV.bool (bad fun e => by have := e.2.1; omega))
 ·refine zAA cv rfl ?_
  (repeat' (first|refine stp ?_|with_reducible(refine brr ?_ ?_<;>intro h)));all_goals try(conv=>whnf)
  rotate_left
  ·exact zAB rfl (congrArg PV.bool (bad fun e => by have := validB_true.2 e.2.2.1; simp_all))
  have h0 : (0 ≤ p.vars ∧ p.vars ≤ 1280) ∧ p.rows.length ≤ 4096 := ⟨⟨by omega, by omega⟩, by omega⟩;have h1 : ValidF p.obj p.vars := validB_true.1 (by assumption)
  refine zAH hT (fun (i : Nat) => [(1, .ptr 0 0 0), (28, .imm (p.rows.map encAff)), (29, .int .i64 p.rows.length), (30, .int .i64 i)]) (fun _ => [(0, ⟨[encProg p], 6, true⟩)]) [] 1
   (fun i => i ≤ p.rows.length ∧ ∀ j, j < i → ValidF p.rows[j]! p.vars) (fun i => p.rows.length - i) 0 ⟨Nat.zero_le _, fun j h => (by omega)⟩ (by decide) (by simp) ?_ ?_
  ·exact ⟨[0], [], [], [], ttt, ⟨apx, zAD rfl rfl, zAC rfl (by simp), zAC rfl rfl, trivial⟩, ⟨bbx, trivial⟩, by simp [ren]⟩
  intro i ⟨i1, i2⟩;by_cases hi : i < p.rows.length
  ·have cr' := c_lvalid p.rows[i]! p.vars (okP_get ⟨ho, hr, hl⟩ hi)
   (repeat' (first|refine stp ?_|with_reducible(refine brr ?_ ?_<;>intro h)));all_goals try(conv=>whnf)
   ·refine zAA cr' rfl ?_
    (repeat' (first|refine stp ?_|with_reducible(refine brr ?_ ?_<;>intro h)));all_goals try(conv=>whnf)
    ·refine ⟨i + 1, ⟨⟨by omega, fun j hj => ?_⟩, by show p.rows.length - (i + 1) < p.rows.length - i; omega⟩, [0], [], [], [], ttt, ⟨apx, zAD rfl rfl, zAC rfl rfl, zAC rfl (by omega), trivial⟩, ⟨bbx, trivial⟩, by simp [ren]⟩
     rcases Nat.lt_or_eq_of_le (Nat.le_of_lt_succ hj) with hj | rfl
     ·exact i2 j hj
     ·exact validB_true.1 (by assumption)
    ·exact zAB rfl (congrArg PV.bool (bad fun e => by have := validB_true.2 (e.2.2.2 i hi); simp_all))
   all_goals (exfalso; omega)
  ·(repeat' (first|refine stp ?_|with_reducible(refine brr ?_ ?_<;>intro h)));all_goals try(conv=>whnf)
   all_goals try (exfalso; omega)
   exact zAB rfl (congrArg PV.bool (validPB_true.2 ⟨h0.1, h0.2, h1, fun j hj => i2 j (by omega)⟩).symm)
end Go.PI.Tryz
namespace Go.PI.Tryz
open Go.Proofs Go.PI
theorem zG0 {P : QP} (h : smP P) : Fn 37 [encP P] (.data (.bool true)) := by
 have := c_pvalid P.L (okP_L h);rw [encP_eq]
 rwa [validPB_true.2 (validP_of h.1)] at this
theorem ok_pfeas : FO 87 Tryz.f87 [.tmp 4] 40 := mkO Tryz.func87 Tryz.ntmps87 Tryz.results87
theorem c_pfeas (P : QP) (x : List Rat) (hP : smP P) (hx : ∀ q ∈ x, sz 4 q) (hxl : x.length ≤ 1048576) : Fn 87 [encP P, .imm (x.map encX)] (.data (.bool (decide (feas P x)))) := by
 have cv := zG0 hP;have hl := hP.2.1;refine zAO hmix hT ok_pfeas (by simp [encP]) ?_;refine sts ?_;refine zAA cv rfl ?_
 (repeat' (first|refine stp ?_|with_reducible(refine brr ?_ ?_<;>intro h)));all_goals try(conv=>whnf)
 ·exact zAB rfl (congrArg PV.bool (decide_eq_false fun e => h e.1).symm)
 have hxv : (x.length : Int) = P.vars := by omega
 refine zAH hT (fun (i : Nat) => [(1, .imm (x.map encX)), (20, .imm (P.rows.map encF)), (21, .int .i64 P.rows.length), (22, .int .i64 i)]) (fun _ => []) [] 1
  (fun i => i ≤ P.rows.length ∧ ∀ j, j < i → 0 ≤ evQ P.rows[j]! x) (fun i => P.rows.length - i) 0 ⟨Nat.zero_le _, fun j h => (by omega)⟩ (by decide) (by simp) ?_ ?_
 ·exact ⟨[0], [], [], [], ttt, ⟨zAD rfl rfl, zAD rfl rfl, zAC rfl (by simp), zAC rfl rfl, trivial⟩, trivial, by simp [ren]⟩
 intro i ⟨i1, i2⟩;by_cases hi : i < P.rows.length
 ·obtain ⟨⟨h1, h2⟩, h3⟩ := smP_row hP hi
  have hv : ∀ t ∈ P.rows[i]!.ts, 0 ≤ t.1 ∧ t.1 < x.length := fun t ht => by have := h3.2 t ht; omega
  have ce := c_leval P.rows[i]! x 2 4 h1 hx hv (by omega) (by omega) hxl;have hs := evQ_sz h1 hx hv;have hl4 := zAY hs;have cs := zDX (cr (evQ P.rows[i]! x)) (zAR _) (by omega);rw [zA3] at cs
  (repeat' (first|refine stp ?_|with_reducible(refine brr ?_ ?_<;>intro h)));all_goals try(conv=>whnf)
  ·refine zAA ce rfl ?_
   refine sts ?_;refine zAA cs rfl ?_
   (repeat' (first|refine stp ?_|with_reducible(refine brr ?_ ?_<;>intro h)));all_goals try(conv=>whnf)
   ·exact zAB rfl (congrArg PV.bool (feas_no hi (sgnQ_neg.1 h)))
   ·refine ⟨i + 1, ⟨⟨by omega, fun j hj => ?_⟩, by show P.rows.length - (i + 1) < P.rows.length - i; omega⟩, [0], [], [], [], ttt, ⟨zAD rfl rfl, zAD rfl rfl, zAC rfl rfl, zAC rfl (by omega), trivial⟩, trivial, by simp [ren]⟩
    rcases Nat.lt_or_eq_of_le (Nat.le_of_lt_succ hj) with hj | rfl
    ·exact i2 j hj
    ·exact Rat.not_lt.1 fun e => h (sgnQ_neg.2 e)
  all_goals (exfalso; omega)
 ·(repeat' (first|refine stp ?_|with_reducible(refine brr ?_ ?_<;>intro h)));all_goals try(conv=>whnf)
  all_goals try (exfalso; omega)
  exact zAB rfl (congrArg PV.bool (feas_yes hxv fun j hj => i2 j (by omega)))
theorem ok_pvalue : FO 53 Tryz.f53 [.cell 4 27, .tmp 5] 26 := mkO Tryz.func53 Tryz.ntmps53 Tryz.results53
theorem c_pvalue (P : QP) (x : List Rat) (hP : smP P) (hx : ∀ q ∈ x, sz 4 q) (hxl : x.length ≤ 1048576) (hxv : (x.length : Int) = P.vars) : Fn 53 [encP P, .imm (x.map encX)] (.data (.tup [encRat (cr (evQ P.obj x)), .int .i64 0])) := by
 have cv := zG0 hP;have hv : ∀ t ∈ P.obj.ts, 0 ≤ t.1 ∧ t.1 < x.length := fun t ht => by have := hP.1.2.2.1.2 t ht; omega
 have h4 := hP.2.2.2.2;have ce := c_leval P.obj x 2 4 hP.2.2.2.1 hx hv (by omega) (by omega) hxl;refine zAO hmix hT ok_pvalue (by simp [encP]) ?_;refine sts ?_;refine zAA cv rfl ?_
 (repeat' (first|refine stp ?_|with_reducible(refine brr ?_ ?_<;>intro h)));all_goals try(conv=>whnf)
 ·exact absurd (show (x.length : Int) = P.vars from hxv) (by omega)
 refine zAA ce rfl ?_;refine sts ?_;exact zAB rfl rfl
theorem ok_dcanon : FO 58 Tryz.f58 [.tmp 2] 15 := mkO Tryz.func58 Tryz.ntmps58 Tryz.results58
theorem c_dcanon (l : List RatL) (h : ∀ x ∈ l, okQ 2147483596 x) (hl : l.length ≤ 1048576) : Fn 58 [.imm (l.map encRat)] (.data (.bool (decide (canL l)))) := by
 refine zAO hmix hT ok_dcanon (by simp) ?_;refine sts ?_
 refine zAH hT (fun (i : Nat) => [(5, .imm (l.map encRat)), (6, .int .i64 l.length), (7, .int .i64 i)]) (fun _ => []) [] 1
  (fun i => i ≤ l.length ∧ ∀ j, j < i → l[j]! = cr (qv l[j]!)) (fun i => l.length - i) 0 ⟨Nat.zero_le _, fun j h => (by omega)⟩ (by decide) (by simp) ?_ ?_
 ·exact ⟨[0], [], [], [], ttt, ⟨zAD rfl rfl, zAC rfl (by simp), zAC rfl rfl, trivial⟩, trivial, by simp [ren]⟩
 intro i ⟨i1, i2⟩;by_cases hi : i < l.length
 ·have hq := h l[i]! (by rw [getElem!_pos l i hi]; exact List.getElem_mem hi)
  have cv := zGO l[i]! hq.1 (by have := hq.2; omega) (by have := hq.2; omega)
  (repeat' (first|refine stp ?_|with_reducible(refine brr ?_ ?_<;>intro h)));all_goals try(conv=>whnf)
  ·refine zAA cv rfl ?_
   (repeat' (first|refine stp ?_|with_reducible(refine brr ?_ ?_<;>intro h)));all_goals try(conv=>whnf)
   ·refine ⟨i + 1, ⟨⟨by omega, fun j hj => ?_⟩, by show l.length - (i + 1) < l.length - i; omega⟩, [0], [], [], [], ttt, ⟨zAD rfl rfl, zAC rfl rfl, zAC rfl (by omega), trivial⟩, trivial, by simp [ren]⟩
    rcases Nat.lt_or_eq_of_le (Nat.le_of_lt_succ hj) with hj | rfl
    ·exact i2 j hj
    ·assumption
   ·exact zAB rfl (congrArg PV.bool (canL_no hi h))
  all_goals (exfalso; omega)
 ·(repeat' (first|refine stp ?_|with_reducible(refine brr ?_ ?_<;>intro h)));all_goals try(conv=>whnf)
  all_goals try (exfalso; omega)
  exact zAB rfl (congrArg PV.bool (canL_yes fun j hj => i2 j (by omega)))
theorem ok_dfeas : FO 52 Tryz.f52 [.tmp 4] 12 := mkO Tryz.func52 Tryz.ntmps52 Tryz.results52
theorem c_dfeas (P : QP) (l : List RatL) (hP : smP P) (hL : ∀ x ∈ l, okQ 4 x) (hl : l.length ≤ 1048576) : Fn 52 [encP P, .imm (l.map encRat)] (.data (.bool (decide (canL l ∧ feas P (l.map qv))))) := by
 have cc := c_dcanon l (fun x hx => zI5 (by decide) (hL x hx)) hl;refine zAO hmix hT ok_dfeas (by simp [encP]) ?_;refine sts ?_;refine zAA cc rfl ?_
 (repeat' (first|refine stp ?_|with_reducible(refine brr ?_ ?_<;>intro h)));all_goals try(conv=>whnf)
 ·have hc : canL l := by assumption
  have cf := c_pfeas P (l.map qv) hP (fun q hq => by obtain ⟨y, hy, rfl⟩ := List.mem_map.1 hq; exact zH2 (hL y hy).1 (hL y hy).2.1 (hL y hy).2.2 (by decide)) (by simpa using hl);rw [← encL_of hc] at cf;refine zAA cf rfl ?_;refine sts ?_;refine zAB rfl (congrArg PV.bool ?_);exact decide_eq_decide.2 ⟨fun e => ⟨hc, e⟩, fun e => e.2⟩
 ·have hc : ¬ canL l := by assumption
  exact zAB rfl (congrArg PV.bool (decide_eq_false fun e => hc e.1).symm)
end Go.PI.Tryz
namespace Go.PI.Tryz
open Go.Proofs Go.PI
theorem ok_dadd : FO 38 Tryz.f38 [] 10 := mkO Tryz.func38 Tryz.ntmps38 Tryz.results38
theorem c_dadd (s f : QF) (y : Rat) (k : Nat) (hs : szF k s) (hf : szF 2 f) (hy : sz 4 y) (hk : k ≤ 1000) (hl : s.ts.length ≤ 1000) (hl2 : f.ts.length ≤ 8) : Fn 38 [encF f, encRat (cr y), .ptr 0 0 0] (.wrt ⟨[encF s], 4, true⟩ (.tup []) ⟨[encF (opP s f y)], 4, true⟩) := by
 have c1 := c_lscale f y 2 4 hf hy (by decide) (by omega);have z1 : szF 10 (mergeQ zeroQ f y) := zD7 (zCM 1 (by decide)) hf hy (by decide);have zl : (mergeQ zeroQ f y).ts.length ≤ 0 + f.ts.length := zD8;have c2 := c_ladd s (mergeQ zeroQ f y) k 10 hs z1 (by omega) (by omega) (by omega);refine fnC_vmut hmix hT ok_dadd (by simp) ?_;refine sts ?_;refine zAA c1 rfl ?_;refine sts ?_;refine zAA c2 rfl ?_;refine sts ?_;exact zG8 rfl rfl rfl rfl rfl (fun e he => by simp at he; subst he; rfl)
theorem opP_sz {s f : QF} {y : Rat} {k : Nat} (hs : szF k s) (hf : szF 2 f) (hy : sz 4 y) : szF (k + 12) (opP s f y) :=
 zD7 hs (zD7 (K := 8) (zCM 1 (by decide)) hf hy (by decide)) (zFU (z := 1) (by decide)) (by omega)
theorem opP_len {s f : QF} {y : Rat} : (opP s f y).ts.length ≤ s.ts.length + f.ts.length := by
 have h1 : (opP s f y).ts.length ≤ s.ts.length + (mergeQ zeroQ f y).ts.length := zD8;have h2 : (mergeQ zeroQ f y).ts.length ≤ 0 + f.ts.length := zD8;omega
def cmbV (P : QP) (ys : List RatL) : QF × Bool := if ys.length = P.rows.length ∧ (cmb opP P.rows ys zeroQ).2 = true then ((cmb opP P.rows ys zeroQ).1, true) else (zeroQ, false)
theorem ok_dcomb : FO 12 Tryz.f12 [.cell 4 29, .tmp 5] 48 := mkO Tryz.func12 Tryz.ntmps12 Tryz.results12
theorem c_dcomb (P : QP) (ys : List RatL) (hP : smP P) (hy : ∀ y ∈ ys, okQ 4 y) (hyl : ys.length ≤ 1048576) : Fn 12 [encP P, .imm (ys.map encRat)] (.data (.tup [encF (cmbV P ys).1, .bool (cmbV P ys).2])) := by
 have cv := zG0 hP;have hl := hP.2.1;refine zAO hmix hT ok_dcomb (by simp [encP]) ?_;refine sts ?_;refine zAA cv rfl ?_
 (repeat' (first|refine stp ?_|with_reducible(refine brr ?_ ?_<;>intro h)));all_goals try(conv=>whnf)
 ·rw [cmbV, if_neg (fun e => h (by rw [e.1])), encF_zero]
  exact zAB rfl rfl
 have hle : ys.length = P.rows.length := by omega
 obtain ⟨R, hR⟩ : ∃ R, cmb opP P.rows ys zeroQ = R := ⟨_, rfl⟩;unfold cmbV;rw [hR];simp only [hle, true_and]
 refine zAH hT (fun ((i, s) : Nat × QF) => [(2, .ptr 0 0 0), (4, .ptr 1 0 0), (6, .ptr 2 0 0), (7, .func (.func 38) [] [.ptr 2 0 0]), (23, .imm (ys.map encRat)), (24, .int .i64 ys.length), (25, .int .i64 i)])
  (fun (i, s) => [(0, ⟨[encP P], 6, true⟩), (1, ⟨[zeroF], 4, true⟩), (2, ⟨[encF s], 4, true⟩)]) [] 3
  (fun (i, s) => i ≤ ys.length ∧ cmb opP (P.rows.drop i) (ys.drop i) s = R ∧ szF (12 * i + 1) s ∧ s.ts.length ≤ 8 * i) (fun (i, _) => ys.length - i) (0, zeroQ) ⟨Nat.zero_le _, hR, zCM 1 (by decide), Nat.le_refl _⟩ (by decide) (by simp) ?_ ?_
 ·exact ⟨[0, 1, 14], [], [], [(14, [.agg [.imm [], .bool false, .imm [], .imm []]])], ⟨trivial, trivial, ⟨⟨_, 4, _, rfl, rfl, rfl⟩, trivial⟩⟩,
   ⟨apx, apx, apx, at_fun1 (by decide) rfl, zAD rfl rfl, zAC rfl (by simp), zAC rfl rfl, trivial⟩,
   ⟨bbx, bbx, blk_box (by decide) rfl encF_zero.symm rfl rfl rfl, trivial⟩, by simp [ren]⟩
 intro ⟨i, s⟩ ⟨i1, i2, i3, i4⟩;by_cases hi : i < ys.length
 ·have hi' : i < P.rows.length := by omega
  obtain ⟨⟨h1, h2⟩, h3⟩ := smP_row hP hi';have hyi := hy ys[i]! (by rw [getElem!_pos ys i hi]; exact List.getElem_mem hi);have cq := zGO ys[i]! hyi.1 (by have := hyi.2; omega) (by have := hyi.2; omega);rw [cmb_drop hi' hi] at i2
  (repeat' (first|refine stp ?_|with_reducible(refine brr ?_ ?_<;>intro h)));all_goals try(conv=>whnf)
  ·refine zAA cq rfl ?_
   (repeat' (first|refine stp ?_|with_reducible(refine brr ?_ ?_<;>intro h)));all_goals try(conv=>whnf)
   ·rw [if_neg (fun e => by have := e.2; rw [h] at this; cases this)] at i2
    subst i2;simp only [Bool.false_eq_true, if_false, encF_zero];exact zAB rfl rfl
   ·have hc : ys[i]! = cr (qv ys[i]!) := by assumption
    rw [if_pos ⟨hc, h⟩] at i2;have hsz := zH2 hyi.1 hyi.2.1 hyi.2.2 (by decide);have cda := c_dadd s P.rows[i]! (qv ys[i]!) (12 * i + 1) i3 h1 hsz (by omega) (by omega) h2;rw [← hc] at cda;have hln := opP_len (s := s) (f := P.rows[i]!) (y := qv ys[i]!);refine zGM (r := 2) cda rfl rfl rfl rfl (fun e he => by simp at he; subst he; rfl) (by decide) ?_;refine sts ?_
    exact ⟨(i + 1, opP s P.rows[i]! (qv ys[i]!)), ⟨⟨by omega, i2, zFE (by omega) (opP_sz i3 h1 hsz), by omega⟩, by show ys.length - (i + 1) < ys.length - i; omega⟩, [0, 1, 2], [], [], [], ttt,
     ⟨apx, apx, apx, at_fun1 (by decide) rfl, zAD rfl rfl, zAC rfl rfl, zAC rfl (by omega), trivial⟩,
     ⟨bbx, bbx, bbx, trivial⟩, by simp [ren]⟩
   ·rw [if_neg (fun e => h e.1)] at i2
    subst i2;simp only [Bool.false_eq_true, if_false, encF_zero];exact zAB rfl rfl
  all_goals (exfalso; omega)
 ·rw [cmb_end (by omega)] at i2
  subst i2
  (repeat' (first|refine stp ?_|with_reducible(refine brr ?_ ?_<;>intro h)));all_goals try(conv=>whnf)
  all_goals try (exfalso; omega)
  exact zAB rfl rfl
theorem cmbP_sz : ∀ (fs : List QF) (ys : List RatL) (s : QF) (k n : Nat), szF k s → s.ts.length ≤ n → (∀ f ∈ fs, szF 2 f ∧ f.ts.length ≤ 8) → (∀ y ∈ ys, okQ 4 y) → szF (k + 12 * fs.length) (cmb opP fs ys s).1 ∧ (cmb opP fs ys s).1.ts.length ≤ n + 8 * fs.length
 | [], _, s, k, n, hs, hn, _, _ => ⟨zFE (by omega) hs, by show s.ts.length ≤ _; omega⟩
 | f :: fs, [], s, k, n, hs, hn, _, _ => ⟨zFE (by omega) hs, by show s.ts.length ≤ _; omega⟩
 | f :: fs, y :: ys, s, k, n, hs, hn, hf, hy => by
   simp only [cmb];have h1 := hf f (by simp);have h2 := hy y (by simp)
   split
   ·have hsz := zH2 h2.1 h2.2.1 h2.2.2 (by decide)
    have hln := opP_len (s := s) (f := f) (y := qv y);obtain ⟨g1, g2⟩ := cmbP_sz fs ys (opP s f (qv y)) (k + 12) (n + 8) (opP_sz hs h1.1 hsz) (by omega) (fun g hg => hf g (by simp [hg])) (fun z hz => hy z (by simp [hz]));rw [List.length_cons];exact ⟨zFE (by omega) g1, by omega⟩
   ·rw [List.length_cons]
    exact ⟨zFE (by omega) hs, by show s.ts.length ≤ _; omega⟩
theorem cmbV_sz {P : QP} (hP : smP P) {ys : List RatL} (hy : ∀ y ∈ ys, okQ 4 y) : szF 100 (cmbV P ys).1 ∧ (cmbV P ys).1.ts.length ≤ 64 := by
 have hl := hP.2.1;unfold cmbV
 split
 ·obtain ⟨h1, h2⟩ := cmbP_sz P.rows ys zeroQ 1 0 (zCM 1 (by decide)) (Nat.le_refl _) hP.2.2.1 hy
  exact ⟨zFE (by omega) h1, by show (cmb opP P.rows ys zeroQ).1.ts.length ≤ _; omega⟩
 ·exact ⟨zCM 100 (by decide), by show 0 ≤ _; omega⟩
def bndV (P : QP) (ys : List RatL) : Rat × Bool := if (cmbV P ys).2 = true ∧ (mergeQ P.obj (cmbV P ys).1 (-1)).ts = [] then ((mergeQ P.obj (cmbV P ys).1 (-1)).c, true) else (0, false)
theorem ok_dbound : FO 14 Tryz.f14 [.cell 4 27, .tmp 5] 29 := mkO Tryz.func14 Tryz.ntmps14 Tryz.results14
theorem zIL (P : QP) (ys : List RatL) (hP : smP P) (hy : ∀ y ∈ ys, okQ 4 y) (hyl : ys.length ≤ 1048576) : Fn 14 [encP P, .imm (ys.map encRat)] (.data (.tup [encRat (cr (bndV P ys).1), .bool (bndV P ys).2])) := by
 have cc := c_dcomb P ys hP hy hyl;obtain ⟨z1, z2⟩ := cmbV_sz hP hy;unfold bndV;obtain ⟨⟨F, ok⟩, hF⟩ : ∃ r, cmbV P ys = r := ⟨_, rfl⟩;rw [hF] at cc z1 z2;simp only [hF];dsimp only at cc z1 z2;have hol := hP.2.2.2.2;have cs := c_lsub P.obj F 2 100 hP.2.2.2.1 z1 (by decide) (by omega) (by omega);generalize mergeQ P.obj F (-1) = D at *
 refine zAO hmix hT ok_dbound (by simp [encP]) ?_;refine sts ?_;refine zAA cc rfl ?_
 (repeat' (first|refine stp ?_|with_reducible(refine brr ?_ ?_<;>intro h)));all_goals try(conv=>whnf)
 ·subst h
  refine zAA cs rfl ?_
  (repeat' (first|refine stp ?_|with_reducible(refine brr ?_ ?_<;>intro h)));all_goals try(conv=>whnf)
  ·rw [if_neg (fun e => by rw [e.2] at h; simp at h)]
   rw [show cr ((0 : Rat), false).1 = ⟨false, [], []⟩ from zCU];exact zAB rfl rfl
  ·rw [if_pos ⟨rfl, List.length_eq_zero_iff.1 (by omega)⟩]
   exact zAB rfl rfl
 ·subst h
  rw [if_neg (fun e => by cases e.1)];rw [show cr ((0 : Rat), false).1 = ⟨false, [], []⟩ from zCU];exact zAB rfl rfl
def infV (P : QP) (ys : List RatL) : Bool := (cmbV P ys).2 && decide ((cmbV P ys).1.ts = [] ∧ (cmbV P ys).1.c < 0)
theorem ok_dinfeas : FO 22 Tryz.f22 [.tmp 4] 26 := mkO Tryz.func22 Tryz.ntmps22 Tryz.results22
theorem c_dinfeas (P : QP) (ys : List RatL) (hP : smP P) (hy : ∀ y ∈ ys, okQ 4 y) (hyl : ys.length ≤ 1048576) : Fn 22 [encP P, .imm (ys.map encRat)] (.data (.bool (infV P ys))) := by
 have cc := c_dcomb P ys hP hy hyl;obtain ⟨z1, z2⟩ := cmbV_sz hP hy;unfold infV;obtain ⟨⟨F, ok⟩, hF⟩ : ∃ r, cmbV P ys = r := ⟨_, rfl⟩;rw [hF] at cc z1 z2;simp only [hF];dsimp only at cc z1 z2;have hl := zAY z1.1;have cs := zDX (cr F.c) (zAR _) (by omega);rw [zA3] at cs;refine zAO hmix hT ok_dinfeas (by simp [encP]) ?_;refine sts ?_;refine zAA cc rfl ?_
 (repeat' (first|refine stp ?_|with_reducible(refine brr ?_ ?_<;>intro h)));all_goals try(conv=>whnf)
 ·have ho : ok = true := by assumption
  subst ho;have : F.ts = [] := List.length_eq_zero_iff.1 (by omega);refine zAA cs rfl ?_;refine sts ?_;refine zAB rfl (congrArg PV.bool ?_);rw [Bool.true_and, decide_eq_decide, sgnQ_neg];simp [this]
 ·refine zAB rfl (congrArg PV.bool ?_)
  have : F.ts ≠ [] := fun e => by rw [e] at h; simp at h
  simp [this]
 ·subst h
  exact zAB rfl rfl
end Go.PI.Tryz
namespace Go.PI.Tryz
open Go.Proofs Go.PI
theorem sz_list {l : List RatL} (h : ∀ x ∈ l, okQ 4 x) : ∀ q ∈ l.map qv, sz 4 q := fun q hq => by
 obtain ⟨y, hy, rfl⟩ := List.mem_map.1 hq;exact zH2 (h y hy).1 (h y hy).2.1 (h y hy).2.2 (by decide)
theorem ok_ddir : FO 59 Tryz.f59 [.tmp 3] 16 := mkO Tryz.func59 Tryz.ntmps59 Tryz.results59
theorem c_ddir (f : QF) (x : List Rat) (hf : szF 2 f) (hx : ∀ q ∈ x, sz 4 q) (hv : ∀ t ∈ f.ts, 0 ≤ t.1 ∧ t.1 < x.length) (hl : f.ts.length ≤ 8) (hxl : x.length ≤ 1048576) : Fn 59 [encF f, .cptr (.imm (x.map encX)) 0] (.data (.int .i64 (sgnQ (dirQ f x)))) := by
 have hf0 : szF 2 (⟨f.ts, 0⟩ : QF) := ⟨(zCM 2 (by decide)).1, hf.2⟩;have ce := c_leval ⟨f.ts, 0⟩ x 2 4 hf0 hx hv (by show 2 + f.ts.length * _ + _ + _ ≤ _; omega) (by show f.ts.length ≤ _; omega) hxl;have hs := evQ_sz hf0 hx hv;have hl4 := zAY hs;have cs := zDX (cr (evQ ⟨f.ts, 0⟩ x)) (zAR _) (by have : (⟨f.ts, 0⟩ : QF).ts.length ≤ 8 := hl; omega);rw [zA3] at cs;have e0 : encF ⟨f.ts, 0⟩ = .agg [.imm (f.ts.map encQ), .bool false, .imm [], .imm []] := by unfold encF; rw [zCU]; rfl
 rw [e0] at ce;refine zAO hmix hT ok_ddir (by simp) ?_;refine sts ?_;refine zAA ce rfl ?_;refine sts ?_;refine zAA cs rfl ?_;refine sts ?_;exact zAB rfl rfl
theorem ok_dunb : FO 24 Tryz.f24 [.tmp 6] 44 := mkO Tryz.func24 Tryz.ntmps24 Tryz.results24
theorem c_dunb (P : QP) (pt ray : List RatL) (hP : smP P) (hp : ∀ y ∈ pt, okQ 4 y) (hr : ∀ y ∈ ray, okQ 4 y) (hpl : pt.length ≤ 1048576) (hrl : ray.length ≤ 1048576) : Fn 24 [encP P, .imm (pt.map encRat), .imm (ray.map encRat)] (.data (.bool (decide (unbP P pt ray)))) := by
 have cf := c_dfeas P pt hP hp hpl;have cc := c_dcanon ray (fun x hx => zI5 (by decide) (hr x hx)) hrl;have no : ¬ unbP P pt ray → false = decide (unbP P pt ray) := fun h => (decide_eq_false h).symm
 by_cases hc : canL ray
 ·rw [encL_of hc] at cc ⊢
  have hx := sz_list hr;have hxl : (ray.map qv).length ≤ 1048576 := by simpa using hrl
  rw [show decide (canL ray) = true by simpa using hc] at cc;have hlen : (ray.map qv).length = ray.length := by simp
  have huse : unbP P pt ray ↔ (canL pt ∧ feas P (pt.map qv)) ∧ ((ray.map qv).length : Int) = P.vars ∧ unbX P (ray.map qv) := by
   unfold unbP; rw [hlen]; exact ⟨fun e => ⟨e.1, e.2.1, e.2.2.2⟩, fun e => ⟨e.1, e.2.1, hc, e.2.2⟩⟩
  generalize ray.map qv = x at *
  refine zAO hmix hT ok_dunb (by simp [encP]) ?_;refine sts ?_;refine zAA cf rfl ?_
  (repeat' (first|refine stp ?_|with_reducible(refine brr ?_ ?_<;>intro h)));all_goals try(conv=>whnf)
  ·exact zAB rfl (congrArg PV.bool (no fun e => h (huse.1 e).2.1))
  ·refine zAA cc rfl ?_
   refine sts ?_;have hxv : (x.length : Int) = P.vars := by assumption
   have hpf : canL pt ∧ feas P (pt.map qv) := by assumption
   refine zAH hT (fun (i : Nat) => [(3, .ptr 0 0 0), (7, .func (.func 59) [] [.ptr 1 0 0]), (28, .imm (P.rows.map encF)), (29, .int .i64 P.rows.length), (30, .int .i64 i)]) (fun _ => [(0, ⟨[encP P], 6, true⟩), (1, ⟨[.imm (x.map encX)], 1, false⟩)]) [1] 2
    (fun i => i ≤ P.rows.length ∧ ∀ j, j < i → 0 ≤ dirQ P.rows[j]! x) (fun i => P.rows.length - i) 0 ⟨Nat.zero_le _, fun j h => (by omega)⟩ (by decide) (by simp) ?_ ?_
   ·exact ⟨[0, 1], [1], [], [], ⟨⟨⟨_, rfl⟩, trivial⟩, trivial, trivial⟩, ⟨apx, at_fun1 (by decide) rfl, zAD rfl rfl, zAC rfl (by simp), zAC rfl rfl, trivial⟩, ⟨bbx, bbx, trivial⟩, by simp [ren]⟩
   intro i ⟨i1, i2⟩;have hl := hP.2.1;by_cases hi : i < P.rows.length
   ·obtain ⟨⟨h1, h2⟩, h3⟩ := smP_row hP hi
    have hv : ∀ t ∈ P.rows[i]!.ts, 0 ≤ t.1 ∧ t.1 < x.length := fun t ht => by have := h3.2 t ht; omega
    have cd := c_ddir P.rows[i]! x h1 hx hv h2 hxl
    (repeat' (first|refine stp ?_|with_reducible(refine brr ?_ ?_<;>intro h)));all_goals try(conv=>whnf)
    ·refine zAA cd rfl ?_
     (repeat' (first|refine stp ?_|with_reducible(refine brr ?_ ?_<;>intro h)));all_goals try(conv=>whnf)
     ·exact zAB rfl (congrArg PV.bool (no fun e => unbX_no hi (sgnQ_neg.1 h) (huse.1 e).2.2))
     ·refine ⟨i + 1, ⟨⟨by omega, fun j hj => ?_⟩, by show P.rows.length - (i + 1) < P.rows.length - i; omega⟩, [0, 1], [], [], [], ttt, ⟨apx, at_fun1 (by decide) rfl, zAD rfl rfl, zAC rfl rfl, zAC rfl (by omega), trivial⟩, ⟨bbx, bbx, trivial⟩, by simp [ren]⟩
      rcases Nat.lt_or_eq_of_le (Nat.le_of_lt_succ hj) with hj | rfl
      ·exact i2 j hj
      ·exact Rat.not_lt.1 fun e => h (sgnQ_neg.2 e)
    all_goals (exfalso; omega)
   ·have hv : ∀ t ∈ P.obj.ts, 0 ≤ t.1 ∧ t.1 < x.length := fun t ht => by have := hP.1.2.2.1.2 t ht; omega
    have cd := c_ddir P.obj x hP.2.2.2.1 hx hv hP.2.2.2.2 hxl;have hrw := unbX_rows (P := P) (x := x) fun j hj => i2 j (by omega)
    (repeat' (first|refine stp ?_|with_reducible(refine brr ?_ ?_<;>intro h)));all_goals try(conv=>whnf)
    all_goals try (exfalso; omega)
    refine zAA cd rfl ?_;refine sts ?_;refine zAB rfl (congrArg PV.bool ?_);refine decide_eq_decide.2 ?_;rw [sgnQ_neg, huse, hrw];exact ⟨fun e => ⟨hpf, hxv, e⟩, fun e => e.2.2⟩
  ·exact zAB rfl (congrArg PV.bool (no fun e => h (huse.1 e).1))
 ·rw [show decide (canL ray) = false by simpa using hc] at cc
  have hno := no fun e => hc e.2.2.1
  refine zAO hmix hT ok_dunb (by simp [encP]) ?_;refine sts ?_;refine zAA cf rfl ?_
  (repeat' (first|refine stp ?_|with_reducible(refine brr ?_ ?_<;>intro h)));all_goals try(conv=>whnf)
  ·exact zAB rfl (congrArg PV.bool hno)
  ·refine zAA cc rfl ?_
   refine sts ?_;exact zAB rfl (congrArg PV.bool hno)
  ·exact zAB rfl (congrArg PV.bool hno)
def optP (P : QP) (s : SolL) : Prop := (canL s.point ∧ feas P (s.point.map qv)) ∧ s.value = cr (qv s.value) ∧ s.ray = [] ∧ (bndV P s.dual).2 = true ∧ evQ P.obj (s.point.map qv) = qv s.value ∧ (bndV P s.dual).1 = qv s.value
instance (P : QP) (s : SolL) : Decidable (optP P s) := by unfold optP; exact inferInstance
theorem bndV_sz {P : QP} (hP : smP P) {ys : List RatL} (hy : ∀ y ∈ ys, okQ 4 y) : sz 200 (bndV P ys).1 := by
 obtain ⟨z1, z2⟩ := cmbV_sz hP hy;unfold bndV
 split
 ·exact (zD7 (K := 200) hP.2.2.2.1 z1 (zFU (z := -1) (by decide)) (by decide)).1
 ·exact (zCM 200 (by decide)).1
theorem sub_zero_iff {a b : Rat} : a - b = 0 ↔ a = b := by constructor <;> intro h <;> grind
theorem ok_dopt : FO 20 Tryz.f20 [.tmp 4] 59 := mkO Tryz.func20 Tryz.ntmps20 Tryz.results20
theorem c_dopt (P : QP) (s : SolL) (hP : smP P) (hs : okSol s) : Fn 20 [encP P, encSol s] (.data (.bool (decide (optP P s)))) := by
 obtain ⟨s1, s2, s3, s4, s5, s6, s7⟩ := hs;have cf := c_dfeas P s.point hP s2 (by omega);have cv := zGO s.value s1.1 (by have := s1.2; omega) (by have := s1.2; omega);have cb := zIL P s.dual hP s3 (by omega);have zb := zAY (bndV_sz hP s3);have no : ¬ optP P s → false = decide (optP P s) := fun h => (decide_eq_false h).symm
 have c2 := c_qcmp (cr (bndV P s.dual).1) s.value (zAR _) s1.1 (by omega) (by omega) (by have := s1.2; omega) (by have := s1.2; omega);rw [zA3] at c2;refine zAO hmix hT ok_dopt (by simp [encP]) ?_;refine sts ?_;refine zAA cf rfl ?_
 (repeat' (first|refine stp ?_|with_reducible(refine brr ?_ ?_<;>intro h)));all_goals try(conv=>whnf)
 ·refine zAA cv rfl ?_
  (repeat' (first|refine stp ?_|with_reducible(refine brr ?_ ?_<;>intro h)));all_goals try(conv=>whnf)
  ·exact zAB rfl (congrArg PV.bool (no fun e => by have := e.2.2.1; rw [this] at h; simp at h))
  ·have hray : s.ray = [] := List.length_eq_zero_iff.1 (by omega)
   have hval : s.value = cr (qv s.value) := by assumption
   have hpf : canL s.point ∧ feas P (s.point.map qv) := by assumption
   have hxv : ((s.point.map qv).length : Int) = P.vars := hpf.2.1;have hv : ∀ t ∈ P.obj.ts, 0 ≤ t.1 ∧ t.1 < (s.point.map qv).length := fun t ht => by have := hP.1.2.2.1.2 t ht; omega
   have hol := hP.2.2.2.2;have ce := c_pvalue P (s.point.map qv) hP (sz_list s2) (by simp; omega) hxv;rw [← encL_of hpf.1] at ce;have ze := zAY (evQ_sz hP.2.2.2.1 (sz_list s2) hv);have c1 := c_qcmp (cr (evQ P.obj (s.point.map qv))) s.value (zAR _) s1.1 (by omega) (by omega) (by have := s1.2; omega) (by have := s1.2; omega);rw [zA3] at c1;refine zAA ce rfl ?_;refine sts ?_;refine zAA cb rfl ?_
   (repeat' (first|refine stp ?_|with_reducible(refine brr ?_ ?_<;>intro h)));all_goals try(conv=>whnf)
   ·refine zAA c1 rfl ?_
    (repeat' (first|refine stp ?_|with_reducible(refine brr ?_ ?_<;>intro h)));all_goals try(conv=>whnf)
    ·refine zAA c2 rfl ?_
     refine sts ?_;refine zAB rfl (congrArg PV.bool ?_);rw [zIM];refine decide_eq_decide.2 ?_;rw [sgnQ_zero, sub_zero_iff];exact ⟨fun e => ⟨hpf, hval, hray, by assumption, sub_zero_iff.1 (sgnQ_zero.1 (by assumption)), e⟩, fun e => e.2.2.2.2.2⟩
    ·exact zAB rfl (congrArg PV.bool (no fun e => h (sgnQ_zero.2 (sub_zero_iff.2 e.2.2.2.2.1))))
   ·exact zAB rfl (congrArg PV.bool (no fun e => by have h2 := e.2.2.2.1; rw [h2] at h; cases h))
  ·exact zAB rfl (congrArg PV.bool (no fun e => h e.2.1))
 ·exact zAB rfl (congrArg PV.bool (no fun e => h e.1))
theorem ok_dzero : FO 49 Tryz.f49 [.tmp 2] 21 := mkO Tryz.func49 Tryz.ntmps49 Tryz.results49
theorem c_dzero (s : SolL) : Fn 49 [encSol s] (.data (.bool (decide (s.value = ⟨false, [], []⟩)))) := by
 have e : s.value = ⟨false, [], []⟩ ↔ s.value.neg = false ∧ s.value.num = [] ∧ s.value.den = [] := by cases s.value; simp
 refine zAO hmix hT ok_dzero (by simp) ?_
 (repeat' (first|refine stp ?_|with_reducible(refine brr ?_ ?_<;>intro h)));all_goals try(conv=>whnf)
 ·exact zAB rfl (congrArg PV.bool (decide_eq_false fun q => by have := (e.1 q).1; rw [h] at this; cases this).symm)
 ·refine zAB rfl (congrArg PV.bool ?_)
  rw [zIM];refine decide_eq_decide.2 ?_;rw [e];exact ⟨fun q => ⟨by assumption, List.length_eq_zero_iff.1 (by omega), List.length_eq_zero_iff.1 (by simpa using q)⟩, fun q => by rw [q.2.2]; rfl⟩
 ·exact zAB rfl (congrArg PV.bool (decide_eq_false fun q => h (by rw [(e.1 q).2.1]; rfl)).symm)
theorem ok_dchk1 : FO 47 Tryz.f47 [.tmp 2] 6 := mkO Tryz.func47 Tryz.ntmps47 Tryz.results47
theorem c_dchk1 (P : QP) (s : SolL) (hP : smP P) (hs : okSol s) : Fn 47 [.cptr (encP P) 0, .cptr (encSol s) 0] (.data (.bool (decide (optP P s)))) := by
 have co := c_dopt P s hP hs;refine zAO hmix hT ok_dchk1 (by simp) ?_;refine sts ?_;refine zAA co rfl ?_;refine sts ?_;exact zAB rfl rfl
def chk2 (P : QP) (s : SolL) : Prop := s.value = ⟨false, [], []⟩ ∧ (s.point = [] ∧ s.ray = []) ∧ infV P s.dual = true
def chk3 (P : QP) (s : SolL) : Prop := s.value = ⟨false, [], []⟩ ∧ s.dual = [] ∧ unbP P s.point s.ray
instance (P : QP) (s : SolL) : Decidable (chk2 P s) := by unfold chk2; exact inferInstance
instance (P : QP) (s : SolL) : Decidable (chk3 P s) := by unfold chk3; exact inferInstance
theorem ok_dchk2 : FO 48 Tryz.f48 [.tmp 2] 21 := mkO Tryz.func48 Tryz.ntmps48 Tryz.results48
theorem c_dchk2 (P : QP) (s : SolL) (hP : smP P) (hs : okSol s) : Fn 48 [.cptr (encSol s) 0, .cptr (encP P) 0] (.data (.bool (decide (chk2 P s)))) := by
 obtain ⟨s1, s2, s3, s4, s5, s6, s7⟩ := hs;have cz := c_dzero s;have ci := c_dinfeas P s.dual hP s3 (by omega);have no : ¬ chk2 P s → false = decide (chk2 P s) := fun h => (decide_eq_false h).symm
 refine zAO hmix hT ok_dchk2 (by simp) ?_;refine sts ?_;refine zAA cz rfl ?_
 (repeat' (first|refine stp ?_|with_reducible(refine brr ?_ ?_<;>intro h)));all_goals try(conv=>whnf)
 ·refine zAA ci rfl ?_
  refine sts ?_;refine zAB rfl (congrArg PV.bool ?_);have hp : s.point = [] := List.length_eq_zero_iff.1 (by omega);have hr : s.ray = [] := List.length_eq_zero_iff.1 (by omega);have hv : s.value = ⟨false, [], []⟩ := by assumption
  rw [Bool.eq_iff_iff, decide_eq_true_eq];exact ⟨fun e => ⟨hv, ⟨hp, hr⟩, e⟩, fun e => e.2.2⟩
 ·exact zAB rfl (congrArg PV.bool (no fun e => h (by rw [e.2.1.1, e.2.1.2]; rfl)))
 ·exact zAB rfl (congrArg PV.bool (no fun e => h e.1))
theorem ok_dchk3 : FO 50 Tryz.f50 [.tmp 2] 19 := mkO Tryz.func50 Tryz.ntmps50 Tryz.results50
theorem c_dchk3 (P : QP) (s : SolL) (hP : smP P) (hs : okSol s) : Fn 50 [.cptr (encSol s) 0, .cptr (encP P) 0] (.data (.bool (decide (chk3 P s)))) := by
 obtain ⟨s1, s2, s3, s4, s5, s6, s7⟩ := hs;have cz := c_dzero s;have ci := c_dunb P s.point s.ray hP s2 s4 (by omega) (by omega);have no : ¬ chk3 P s → false = decide (chk3 P s) := fun h => (decide_eq_false h).symm
 refine zAO hmix hT ok_dchk3 (by simp) ?_;refine sts ?_;refine zAA cz rfl ?_
 (repeat' (first|refine stp ?_|with_reducible(refine brr ?_ ?_<;>intro h)));all_goals try(conv=>whnf)
 ·refine zAA ci rfl ?_
  refine sts ?_;refine zAB rfl (congrArg PV.bool ?_);have hp : s.dual = [] := List.length_eq_zero_iff.1 (by omega);have hv : s.value = ⟨false, [], []⟩ := by assumption
  exact decide_eq_decide.2 ⟨fun e => ⟨hv, hp, e⟩, fun e => e.2.2⟩
 ·exact zAB rfl (congrArg PV.bool (no fun e => h (by rw [e.2.1]; rfl)))
 ·exact zAB rfl (congrArg PV.bool (no fun e => h e.1))
def chkP (P : QP) (s : SolL) : Prop := (s.status = 1 ∧ optP P s) ∨ (s.status = 2 ∧ chk2 P s) ∨ (s.status = 3 ∧ chk3 P s)
instance (P : QP) (s : SolL) : Decidable (chkP P s) := by unfold chkP; exact inferInstance
theorem zF3 : FO 18 Tryz.f18 [.tmp 4] 25 := mkO Tryz.func18 Tryz.ntmps18 Tryz.results18
theorem c_dcheck (P : QP) (s : SolL) (hP : smP P) (hs : okSol s) : Fn 18 [encP P, encSol s] (.data (.bool (decide (chkP P s)))) := by
 have k1 := c_dchk1 P s hP hs;have k2 := c_dchk2 P s hP hs;have k3 := c_dchk3 P s hP hs;have no : ¬ chkP P s → false = decide (chkP P s) := fun h => (decide_eq_false h).symm
 have lift : ∀ {st : Int} {p : Prop} [Decidable p], (st = s.status) → (chkP P s ↔ p) → decide p = decide (chkP P s) := fun _ h => decide_eq_decide.2 h.symm
 obtain ⟨st, val, pt, du, ra, ba, pv⟩ := s;by_cases e1 : st = 1
 ·subst e1
  have hk : chkP P ⟨1, val, pt, du, ra, ba, pv⟩ ↔ optP P ⟨1, val, pt, du, ra, ba, pv⟩ := ⟨fun h => by rcases h with h | h | h; exact h.2; exact absurd (show (1 : Int) = 2 from h.1) (by decide); exact absurd (show (1 : Int) = 3 from h.1) (by decide), fun h => Or.inl ⟨rfl, h⟩⟩;rw [show decide (chkP P ⟨1, val, pt, du, ra, ba, pv⟩) = decide (optP P ⟨1, val, pt, du, ra, ba, pv⟩) from decide_eq_decide.2 hk];refine zAO hmix hT zF3 (by simp [encP]) ?_;refine sts ?_;refine zAA k1 rfl ?_;refine sts ?_;exact zAB rfl rfl
 by_cases e2 : st = 2
 ·subst e2
  have hk : chkP P ⟨2, val, pt, du, ra, ba, pv⟩ ↔ chk2 P ⟨2, val, pt, du, ra, ba, pv⟩ := ⟨fun h => by rcases h with h | h | h; exact absurd (show (2 : Int) = 1 from h.1) (by decide); exact h.2; exact absurd (show (2 : Int) = 3 from h.1) (by decide), fun h => Or.inr (Or.inl ⟨rfl, h⟩)⟩;rw [show decide (chkP P ⟨2, val, pt, du, ra, ba, pv⟩) = decide (chk2 P ⟨2, val, pt, du, ra, ba, pv⟩) from decide_eq_decide.2 hk];refine zAO hmix hT zF3 (by simp [encP]) ?_;refine sts ?_;refine zAA k2 rfl ?_;refine sts ?_;exact zAB rfl rfl
 by_cases e3 : st = 3
 ·subst e3
  have hk : chkP P ⟨3, val, pt, du, ra, ba, pv⟩ ↔ chk3 P ⟨3, val, pt, du, ra, ba, pv⟩ := ⟨fun h => by rcases h with h | h | h; exact absurd (show (3 : Int) = 1 from h.1) (by decide); exact absurd (show (3 : Int) = 2 from h.1) (by decide); exact h.2, fun h => Or.inr (Or.inr ⟨rfl, h⟩)⟩;rw [show decide (chkP P ⟨3, val, pt, du, ra, ba, pv⟩) = decide (chk3 P ⟨3, val, pt, du, ra, ba, pv⟩) from decide_eq_decide.2 hk];refine zAO hmix hT zF3 (by simp [encP]) ?_;refine sts ?_;refine zAA k3 rfl ?_;refine sts ?_;exact zAB rfl rfl
 have hno := no (fun h => by rcases h with h | h | h; exact e1 h.1; exact e2 h.1; exact e3 h.1);refine zAO hmix hT zF3 (by simp [encP]) ?_
 (repeat' (first|refine stp ?_|with_reducible(refine brr ?_ ?_<;>intro h)));all_goals try(conv=>whnf)
 all_goals try (exfalso; omega)
 all_goals exact zAB rfl (congrArg PV.bool hno)
theorem ok_dslack : FO 27 Tryz.f27 [.tmp 6] 53 := mkO Tryz.func27 Tryz.ntmps27 Tryz.results27
def slkP (P : QP) (pt ys : List RatL) : Prop := (cmbV P ys).2 = true ∧ (canL pt ∧ feas P (pt.map qv)) ∧ ∀ i, i < ys.length → evQ P.rows[i]! (pt.map qv) = 0 ∨ qv ys[i]! = 0
noncomputable def slkB (P : QP) (pt ys : List RatL) : Bool := @decide (slkP P pt ys) (Classical.propDecidable _)
theorem c_dslack (P : QP) (pt ys : List RatL) (hP : smP P) (hp : ∀ y ∈ pt, okQ 4 y) (hy : ∀ y ∈ ys, okQ 4 y) (hpl : pt.length ≤ 1048576) (hyl : ys.length ≤ 1048576) : Fn 27 [encP P, .imm (pt.map encRat), .imm (ys.map encRat)] (.data (.bool (slkB P pt ys))) := by
 have cc := c_dcomb P ys hP hy hyl;have cf := c_dfeas P pt hP hp hpl;have no : ¬ slkP P pt ys → false = slkB P pt ys := fun h => by simp [slkB, h]
 have hcl : (cmbV P ys).2 = true → ys.length = P.rows.length := fun h => by
  unfold cmbV at h; split at h
  ·rename_i e; exact e.1
  ·cases h
 refine zAO hmix hT ok_dslack (by simp [encP]) ?_;refine sts ?_;refine zAA cc rfl ?_
 (repeat' (first|refine stp ?_|with_reducible(refine brr ?_ ?_<;>intro h)));all_goals try(conv=>whnf)
 ·have hok : (cmbV P ys).2 = true := h
  have hle := hcl hok;refine zAA cf rfl ?_
  (repeat' (first|refine stp ?_|with_reducible(refine brr ?_ ?_<;>intro h)));all_goals try(conv=>whnf)
  ·have hpf : canL pt ∧ feas P (pt.map qv) := h
   have hx := sz_list hp;have hxl : (pt.map qv).length ≤ 1048576 := by simpa using hpl
   have hxv : ((pt.map qv).length : Int) = P.vars := hpf.2.1;have he := encL_of hpf.1;rw [he];have hslk : slkP P pt ys ↔ ∀ i, i < ys.length → evQ P.rows[i]! (pt.map qv) = 0 ∨ qv ys[i]! = 0 := ⟨fun e => e.2.2, fun e => ⟨hok, hpf, e⟩⟩;generalize pt.map qv = x at *
   refine zAH hT (fun (i : Nat) => [(1, .imm (x.map encX)), (3, .ptr 0 0 0), (27, .imm (ys.map encRat)), (28, .int .i64 ys.length), (29, .int .i64 i)]) (fun _ => [(0, ⟨[encP P], 6, true⟩)]) [] 1
    (fun i => i ≤ ys.length ∧ ∀ j, j < i → evQ P.rows[j]! x = 0 ∨ qv ys[j]! = 0) (fun i => ys.length - i) 0 ⟨Nat.zero_le _, fun j h => (by omega)⟩ (by decide) (by simp) ?_ ?_
   ·exact ⟨[0], [], [], [], ttt, ⟨zAD rfl rfl, apx, zAD rfl rfl, zAC rfl (by simp), zAC rfl rfl, trivial⟩, ⟨bbx, trivial⟩, by simp [ren]⟩
   intro i ⟨i1, i2⟩;have hl := hP.2.1;by_cases hi : i < ys.length
   ·have hi' : i < P.rows.length := by omega
    obtain ⟨⟨h1, h2⟩, h3⟩ := smP_row hP hi';have hyi := hy ys[i]! (by rw [getElem!_pos ys i hi]; exact List.getElem_mem hi);have hv : ∀ t ∈ P.rows[i]!.ts, 0 ≤ t.1 ∧ t.1 < x.length := fun t ht => by have := h3.2 t ht; omega
    have ce := c_leval P.rows[i]! x 2 4 h1 hx hv (by omega) (by omega) hxl;have ze := zAY (evQ_sz h1 hx hv);have cs1 := zDX (cr (evQ P.rows[i]! x)) (zAR _) (by omega);have cs2 := zDX ys[i]! hyi.1 (by have := hyi.2; omega);rw [zA3] at cs1
    have nxt : (evQ P.rows[i]! x = 0 ∨ qv ys[i]! = 0) → ∀ j, j < i + 1 → evQ P.rows[j]! x = 0 ∨ qv ys[j]! = 0 := fun q j hj => by
     rcases Nat.lt_or_eq_of_le (Nat.le_of_lt_succ hj) with hj | rfl
     ·exact i2 j hj
     ·exact q
    (repeat' (first|refine stp ?_|with_reducible(refine brr ?_ ?_<;>intro h)));all_goals try(conv=>whnf)
    ·refine zAA ce rfl ?_
     refine sts ?_;refine zAA cs1 rfl ?_
     (repeat' (first|refine stp ?_|with_reducible(refine brr ?_ ?_<;>intro h)));all_goals try(conv=>whnf)
     ·refine zAA cs2 rfl ?_
      (repeat' (first|refine stp ?_|with_reducible(refine brr ?_ ?_<;>intro h)));all_goals try(conv=>whnf)
      ·refine zAB rfl (congrArg PV.bool (no fun e => ?_))
       rcases hslk.1 e i hi with q | q
       ·exact absurd (sgnQ_zero.2 q) (by assumption)
       ·exact absurd (sgnQ_zero.2 q) (by assumption)
      ·exact ⟨i + 1, ⟨⟨by omega, nxt (Or.inr (sgnQ_zero.1 h))⟩, by show ys.length - (i + 1) < ys.length - i; omega⟩, [0], [], [], [], ttt, ⟨zAD rfl rfl, apx, zAD rfl rfl, zAC rfl rfl, zAC rfl (by omega), trivial⟩, ⟨bbx, trivial⟩, by simp [ren]⟩
     ·exact ⟨i + 1, ⟨⟨by omega, nxt (Or.inl (sgnQ_zero.1 h))⟩, by show ys.length - (i + 1) < ys.length - i; omega⟩, [0], [], [], [], ttt, ⟨zAD rfl rfl, apx, zAD rfl rfl, zAC rfl rfl, zAC rfl (by omega), trivial⟩, ⟨bbx, trivial⟩, by simp [ren]⟩
    all_goals (exfalso; omega)
   ·(repeat' (first|refine stp ?_|with_reducible(refine brr ?_ ?_<;>intro h)));all_goals try(conv=>whnf)
    all_goals try (exfalso; omega)
    refine zAB rfl (congrArg PV.bool ?_);have : slkP P pt ys := hslk.2 fun j hj => i2 j (by omega)
    simp [slkB, this]
  ·exact zAB rfl (congrArg PV.bool (no fun e => h e.2.1))
 ·exact zAB rfl (congrArg PV.bool (no fun e => by have := e.1; rw [h] at this; cases this))
end Go.PI.Tryz
