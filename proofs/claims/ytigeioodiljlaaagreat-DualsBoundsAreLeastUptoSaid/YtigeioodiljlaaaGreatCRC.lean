/-
  The reference: affine forms: Scale, Add, Sub, Make.
-/
import Derived.Test.YtigeioodiljlaaaGreatCRB
import Derived.Test.YtigeioodiljlaaaGreatCPD
import Derived.Test.YtigeioodiljlaaaGreatCLB
set_option linter.unusedVariables false
set_option linter.unusedSimpArgs false
set_option linter.unnecessarySimpa false
namespace Go.PI.Tryz
open Go.Proofs Go.PI
theorem ok_rpvalid : FO 29 Tryz.f29 [.tmp 2] 42 := mkO Tryz.func29 Tryz.ntmps29 Tryz.results29
theorem c_rpvalid (p : ProgL) (hp : okP 2147483596 p) : Fn 29 [encProg p] (.data (.bool (validPB p))) := by
 obtain ⟨ho, hr, hl⟩ := hp;have cv := zJS p.obj p.vars ho;have bad : ¬ ValidP p → false = validPB p := fun h => (validPB_false.2 h).symm
 refine zAO hmix hT ok_rpvalid (by simp [encProg]) ?_
 (repeat' (first|refine stp ?_|with_reducible(refine brr ?_ ?_<;>intro h)));all_goals try(conv=>whnf)
 ·exact zAB rfl (congrArg PV.bool (bad fun e => by have := e.1.1; omega))
 ·exact zAB rfl (congrArg PV.bool (bad fun e => by have := e.1.2; omega))
 ·exact zAB rfl (congrArg PV.bool (bad fun e => by have := e.2.1; omega))
 ·refine zAA cv rfl ?_
  (repeat' (first|refine stp ?_|with_reducible(refine brr ?_ ?_<;>intro h)));all_goals try(conv=>whnf)
  rotate_left
  ·exact zAB rfl (congrArg PV.bool (bad fun e => by have := validB_true.2 e.2.2.1; simp_all))
  have h0 : (0 ≤ p.vars ∧ p.vars ≤ 1280) ∧ p.rows.length ≤ 4096 := ⟨⟨by omega, by omega⟩, by omega⟩;have h1 : ValidF p.obj p.vars := validB_true.1 (by assumption)
  refine zAH hT (fun (i : Nat) => [(1, .ptr 0 0 0), (3, .int .i64 i)]) (fun _ => [(0, ⟨[encProg p], 6, true⟩)]) [] 1
   (fun i => i ≤ p.rows.length ∧ ∀ j, j < i → ValidF p.rows[j]! p.vars) (fun i => p.rows.length - i) 0 ⟨Nat.zero_le _, fun j h => (by omega)⟩ (by decide) (by simp) ?_ ?_
  ·exact ⟨[0], [], [], [], ttt, ⟨apx, zAC rfl rfl, trivial⟩, ⟨bbx, trivial⟩, by simp [ren]⟩
  intro i ⟨i1, i2⟩;by_cases hi : i < p.rows.length
  ·have cr' := zJS p.rows[i]! p.vars (okP_get ⟨ho, hr, hl⟩ hi)
   (repeat' (first|refine stp ?_|with_reducible(refine brr ?_ ?_<;>intro h)));all_goals try(conv=>whnf)
   ·refine zAA cr' rfl ?_
    (repeat' (first|refine stp ?_|with_reducible(refine brr ?_ ?_<;>intro h)));all_goals try(conv=>whnf)
    ·refine ⟨i + 1, ⟨⟨by omega, fun j hj => ?_⟩, by show p.rows.length - (i + 1) < p.rows.length - i; omega⟩, [0], [], [], [], ttt, ⟨apx, zAC rfl (by omega), trivial⟩, ⟨bbx, trivial⟩, by simp [ren]⟩
     rcases Nat.lt_or_eq_of_le (Nat.le_of_lt_succ hj) with hj | rfl
     ·exact i2 j hj
     ·exact validB_true.1 (by assumption)
    ·exact zAB rfl (congrArg PV.bool (bad fun e => by have := validB_true.2 (e.2.2.2 i hi); simp_all))
   all_goals (exfalso; omega)
  ·(repeat' (first|refine stp ?_|with_reducible(refine brr ?_ ?_<;>intro h)));all_goals try(conv=>whnf)
   all_goals try (exfalso; omega)
   exact zAB rfl (congrArg PV.bool (validPB_true.2 ⟨h0.1, h0.2, h1, fun j hj => i2 j (by omega)⟩).symm)
end Go.PI.Tryz
namespace Go.PI.Tryz
open Go.Proofs Go.PI
theorem own1_ok (O : List QT) : okRes (rowB O) (.own 0 0 O.length) := Or.inl ⟨fun x hx => by simp [resCells] at hx; left; simp [hx, rowB], by simp [resCells, rowB]⟩
theorem zI4 : FO 97 Tryz.f97 [.tmp 4] 14 := mkO Tryz.func97 Tryz.ntmps97 Tryz.results97
theorem zA5 (O : List QT) (v : Int) (q : Rat) (k : Nat) (hq : sz k q) (hk : k ≤ 2147483596) (hO : O.length < 4194304) : Fn 97 [.own 0 0 O.length, encQ (v, q)] (.own (some (rowB O)) (.own 0 0 (O ++ nzq v q).length) (rowB (O ++ nzq v q))) := by
 have hl := zAY hq;have cs := zII (cr q) (zAR q) (by omega);rw [zA3] at cs;refine fnC_vtake hmix hT zI4 (by simp) ?_;refine sts ?_;refine zAA cs rfl ?_
 (repeat' (first|refine stp ?_|with_reducible(refine brr ?_ ?_<;>intro h)));all_goals try(conv=>whnf)
 ·rw [show q = 0 from sgnQ_zero.1 h, zH8, List.append_nil]
  exact zG3 (r := 0) rfl rfl rfl rfl (fun e he => (zAX _ e he).1) (own1_ok _)
 ·rw [zKP fun e => h (sgnQ_zero.2 e)]
  refine zA7 ⟨rfl, by simp [rowB], by simp; omega⟩ ?_;refine sts ?_;refine zG3 (r := 10) ?_ rfl ?_ rfl (fun e he => (zAX _ e he).1) (own1_ok _)
  ·simp [rk, rk1]
  ·simp [rowB, encQ, encTerm, tQ]
theorem zBJ (v : Int) (q : Rat) (k : Nat) (hq : sz k q) (hk : k ≤ 2147483596) : Fn 97 [.nilsl, encQ (v, q)] (.own none (.own 0 0 (nzq v q).length) (rowB (nzq v q))) := by
 have hl := zAY hq;have cs := zII (cr q) (zAR q) (by omega);rw [zA3] at cs;refine fnC_vgive hmix hT zI4 (by simp) ?_;refine sts ?_;refine zAA cs rfl ?_
 (repeat' (first|refine stp ?_|with_reducible(refine brr ?_ ?_<;>intro h)));all_goals try(conv=>whnf)
 ·rw [show q = 0 from sgnQ_zero.1 h, zH8]
  exact ownV_nil rfl rfl (own1_ok [])
 ·rw [zKP fun e => h (sgnQ_zero.2 e)]
  refine zG3 (r := 10) ?_ rfl ?_ rfl (fun e he => (zAX _ e he).1) (own1_ok _)
  ·simp [rk, rk1]
  ·simp [encQ, encTerm, tQ]
def grS : Bool → Nat → PV
 | true, n => .own 0 0 n
 | false, _ => .nilsl
theorem ok_rplus : FO 115 Tryz.f115 [.cell 6 29] 61 := mkO Tryz.func115 Tryz.ntmps115 Tryz.results115
set_option maxHeartbeats 1000000 in
theorem c_rplus (f : QF) (v : Int) (c : Rat) (kf kc : Nat) (hf : szF kf f) (hc : sz kc c) (hk : kf ≤ 949999990 ∧ kc ≤ 949999990) (hl : f.ts.length ≤ 2097150) : Fn 115 [encF f, .int .i64 v, encRat (cr c)] (.data (encF (plusQ f v c))) := by
 obtain ⟨M, hM⟩ : ∃ M, plusL v c f.ts false = M := ⟨_, rfl⟩;unfold plusQ;rw [hM];have lc := zAY hc;have cc := zGN (cr c) (zAR _) (by omega) (by omega);rw [zA3] at cc;refine zAO hmix hT ok_rplus (by simp [encF]) ?_;refine sts ?_
 refine zAH hT (fun ((i, O, s, d) : Nat × List QT × Bool × Bool) => [(1, .int .i64 v), (3, .ptr 1 0 0), (5, .ptr 2 0 0), (6, .ptr 3 0 0), (7, grS s O.length), (8, .bool d), (9, .int .i64 i)])
  (fun (i, O, s, d) => (1, ⟨[encF f], 4, true⟩) :: (2, ⟨[encRat (cr c)], 3, true⟩) :: (3, ⟨[zeroF], 4, true⟩) :: grH s O) [] 4
  (fun (i, O, s, d) => (s = false → O = []) ∧ O ++ plusL v c (f.ts.drop i) d = M ∧ i ≤ f.ts.length ∧ O.length ≤ 2 * i)
  (fun (i, _) => f.ts.length - i) (0, [], false, false) ⟨fun _ => rfl, hM, Nat.zero_le _, by simp⟩ (by decide) (by simp) ?_ ?_
 ·exact ⟨[0, _, _, _], [], [], [], ttt, ⟨zAC rfl rfl, (apy rfl), (apy rfl), (apy rfl), at_nilsl rfl, zBA rfl rfl, zAC rfl rfl, trivial⟩,
   ⟨bbx, bbx, bbx, trivial⟩, by simp [ren, grH]⟩
 intro ⟨i, O, s, d⟩ ⟨i1, i2, i3, i4⟩;cases s <;> cases d
 ·by_cases hi : i < f.ts.length
  ·have hdrop : f.ts.drop i = f.ts[i]! :: f.ts.drop (i + 1) := by rw [List.drop_eq_getElem_cons hi, getElem!_pos f.ts i hi]
   have hp := hf.2 f.ts[i]! (by rw [getElem!_pos f.ts i hi]; exact List.getElem_mem hi);have hpc := zDQ hp hc;have lp := zAY hp;have ca := zHF (cr f.ts[i]!.2) (cr c) (zAR _) (zAR _) (by omega) (by omega) (by omega) (by omega);rw [zA3, zA3] at ca
   (repeat' (first|refine stp ?_|with_reducible(refine brr ?_ ?_<;>intro h)));all_goals try(conv=>whnf)
   ·have hv : f.ts[i]!.1 = v := h
    refine zAA ca rfl ?_;refine sts ?_;refine zBL (zBJ f.ts[i]!.1 (f.ts[i]!.2 + c) _ hpc (by omega)) rfl ?_;refine sts ?_;have nl := zA8 f.ts[i]!.1 (f.ts[i]!.2 + c);exact ⟨(i + 1, nzq f.ts[i]!.1 (f.ts[i]!.2 + c), true, true), ⟨⟨by simp, by rw [hdrop] at i2; simp only [plusL, hv, decide_true, Bool.or_true, Bool.true_or, Bool.true_eq_false, false_and, if_false, if_true, List.nil_append] at i2; rw [hv]; rw [i1 rfl, List.nil_append] at i2; exact i2, by omega, by (try simp only [List.length_append]); omega⟩, by show f.ts.length - (i + 1) < f.ts.length - i; omega⟩, [_, _, _, _], [], [], [], ttt, ⟨zAC rfl rfl, (apy rfl), (apy rfl), (apy rfl), zAG (by decide) rfl rfl, zBA rfl rfl, zAC rfl (by omega), trivial⟩, ⟨bbx, bbx, bbx, zAE (by decide) rfl rfl (zAX _) rfl, trivial⟩, by simp [ren, grH]⟩
   ·have hv : v < f.ts[i]!.1 := h
    have hne : ¬ f.ts[i]!.1 = v := by omega
    refine zAA cc rfl ?_;refine sts ?_;refine zBL (zBJ v c _ hc (by omega)) rfl ?_;refine sts ?_;have nl1 := zA8 v c;have nl2 := zA8 f.ts[i]!.1 f.ts[i]!.2;refine zBE (r := 33) (zA5 (nzq v c) f.ts[i]!.1 f.ts[i]!.2 _ hp (by omega) (by (try simp only [List.length_append]); omega)) rfl rfl rfl rfl (zC3 (zAX _)) ?_;refine sts ?_;exact ⟨(i + 1, nzq v c ++ nzq f.ts[i]!.1 f.ts[i]!.2, true, true), ⟨⟨by simp, by rw [hdrop] at i2; simp only [plusL, hne, hv, decide_false, decide_true, Bool.or_false, Bool.or_true, and_self, if_false, if_true] at i2; rw [i1 rfl, List.nil_append] at i2; exact i2, by omega, by (try simp only [List.length_append]); omega⟩, by show f.ts.length - (i + 1) < f.ts.length - i; omega⟩, [_, _, _, _], [], [], [], ttt, ⟨zAC rfl rfl, (apy rfl), (apy rfl), (apy rfl), zAG (by decide) rfl rfl, zBA rfl rfl, zAC rfl (by omega), trivial⟩, ⟨bbx, bbx, bbx, zAE (by decide) rfl rfl (zAX _) rfl, trivial⟩, by simp [ren, grH]⟩
   ·have hne : ¬ f.ts[i]!.1 = v := ‹¬ (tQ f.ts[i]!).var = v›
    have hle : ¬ v < f.ts[i]!.1 := h;refine zBL (zBJ f.ts[i]!.1 f.ts[i]!.2 _ hp (by omega)) rfl ?_;refine sts ?_;have nl := zA8 f.ts[i]!.1 f.ts[i]!.2;exact ⟨(i + 1, nzq f.ts[i]!.1 f.ts[i]!.2, true, false), ⟨⟨by simp, by rw [hdrop] at i2; simp only [plusL, hne, hle, decide_false, Bool.or_false, Bool.or_self, and_false, if_false, List.nil_append] at i2; rw [i1 rfl, List.nil_append] at i2; exact i2, by omega, by (try simp only [List.length_append]); omega⟩, by show f.ts.length - (i + 1) < f.ts.length - i; omega⟩, [_, _, _, _], [], [], [], ttt, ⟨zAC rfl rfl, (apy rfl), (apy rfl), (apy rfl), zAG (by decide) rfl rfl, zBA rfl rfl, zAC rfl (by omega), trivial⟩, ⟨bbx, bbx, bbx, zAE (by decide) rfl rfl (zAX _) rfl, trivial⟩, by simp [ren, grH]⟩
   all_goals (exfalso; omega)
  ·(repeat' (first|refine stp ?_|with_reducible(refine brr ?_ ?_<;>intro h)));all_goals try(conv=>whnf)
   all_goals try (exfalso; omega)
   have hN : plusL v c (f.ts.drop i) false = nzq v c := by rw [List.drop_of_length_le (by omega)]; rfl
   rw [hN] at i2;refine zAA cc rfl ?_;refine sts ?_;refine zBL (zBJ v c _ hc (by omega)) rfl ?_;refine sts ?_;rw [i1 rfl, List.nil_append] at i2;subst i2;exact zAB (zEO (zAV (zAN rfl rfl rfl (fun x => zFA x)) rfl)) rfl
 ·by_cases hi : i < f.ts.length
  ·have hdrop : f.ts.drop i = f.ts[i]! :: f.ts.drop (i + 1) := by rw [List.drop_eq_getElem_cons hi, getElem!_pos f.ts i hi]
   have hp := hf.2 f.ts[i]! (by rw [getElem!_pos f.ts i hi]; exact List.getElem_mem hi);have hpc := zDQ hp hc;have lp := zAY hp;have ca := zHF (cr f.ts[i]!.2) (cr c) (zAR _) (zAR _) (by omega) (by omega) (by omega) (by omega);rw [zA3, zA3] at ca
   (repeat' (first|refine stp ?_|with_reducible(refine brr ?_ ?_<;>intro h)));all_goals try(conv=>whnf)
   ·have hv : f.ts[i]!.1 = v := h
    refine zAA ca rfl ?_;refine sts ?_;refine zBL (zBJ f.ts[i]!.1 (f.ts[i]!.2 + c) _ hpc (by omega)) rfl ?_;refine sts ?_;have nl := zA8 f.ts[i]!.1 (f.ts[i]!.2 + c);exact ⟨(i + 1, nzq f.ts[i]!.1 (f.ts[i]!.2 + c), true, true), ⟨⟨by simp, by rw [hdrop] at i2; simp only [plusL, hv, decide_true, Bool.or_true, Bool.true_or, Bool.true_eq_false, false_and, if_false, if_true, List.nil_append] at i2; rw [hv]; rw [i1 rfl, List.nil_append] at i2; exact i2, by omega, by (try simp only [List.length_append]); omega⟩, by show f.ts.length - (i + 1) < f.ts.length - i; omega⟩, [_, _, _, _], [], [], [], ttt, ⟨zAC rfl rfl, (apy rfl), (apy rfl), (apy rfl), zAG (by decide) rfl rfl, zBA rfl rfl, zAC rfl (by omega), trivial⟩, ⟨bbx, bbx, bbx, zAE (by decide) rfl rfl (zAX _) rfl, trivial⟩, by simp [ren, grH]⟩
   ·have hne : ¬ f.ts[i]!.1 = v := ‹¬ (tQ f.ts[i]!).var = v›
    refine zBL (zBJ f.ts[i]!.1 f.ts[i]!.2 _ hp (by omega)) rfl ?_;refine sts ?_;have nl := zA8 f.ts[i]!.1 f.ts[i]!.2;exact ⟨(i + 1, nzq f.ts[i]!.1 f.ts[i]!.2, true, true), ⟨⟨by simp, by rw [hdrop] at i2; simp only [plusL, hne, decide_false, Bool.true_or, Bool.true_eq_false, false_and, if_false, List.nil_append] at i2; rw [i1 rfl, List.nil_append] at i2; exact i2, by omega, by (try simp only [List.length_append]); omega⟩, by show f.ts.length - (i + 1) < f.ts.length - i; omega⟩, [_, _, _, _], [], [], [], ttt, ⟨zAC rfl rfl, (apy rfl), (apy rfl), (apy rfl), zAG (by decide) rfl rfl, zBA rfl rfl, zAC rfl (by omega), trivial⟩, ⟨bbx, bbx, bbx, zAE (by decide) rfl rfl (zAX _) rfl, trivial⟩, by simp [ren, grH]⟩
   all_goals (exfalso; omega)
  ·(repeat' (first|refine stp ?_|with_reducible(refine brr ?_ ?_<;>intro h)));all_goals try(conv=>whnf)
   all_goals try (exfalso; omega)
   have hN : plusL v c (f.ts.drop i) true = [] := by rw [List.drop_of_length_le (by omega)]; rfl
   rw [hN] at i2;rw [List.append_nil] at i2;subst i2;rw [i1 rfl];exact zAB rfl rfl
 ·by_cases hi : i < f.ts.length
  ·have hdrop : f.ts.drop i = f.ts[i]! :: f.ts.drop (i + 1) := by rw [List.drop_eq_getElem_cons hi, getElem!_pos f.ts i hi]
   have hp := hf.2 f.ts[i]! (by rw [getElem!_pos f.ts i hi]; exact List.getElem_mem hi);have hpc := zDQ hp hc;have lp := zAY hp;have ca := zHF (cr f.ts[i]!.2) (cr c) (zAR _) (zAR _) (by omega) (by omega) (by omega) (by omega);rw [zA3, zA3] at ca
   (repeat' (first|refine stp ?_|with_reducible(refine brr ?_ ?_<;>intro h)));all_goals try(conv=>whnf)
   ·have hv : f.ts[i]!.1 = v := h
    refine zAA ca rfl ?_;refine sts ?_;refine zBE (r := 0) (zA5 O f.ts[i]!.1 (f.ts[i]!.2 + c) _ hpc (by omega) (by (try simp only [List.length_append]); omega)) rfl rfl rfl rfl (zC3 (zAX _)) ?_;refine sts ?_;have nl := zA8 f.ts[i]!.1 (f.ts[i]!.2 + c);exact ⟨(i + 1, O ++ nzq f.ts[i]!.1 (f.ts[i]!.2 + c), true, true), ⟨⟨by simp, by rw [hdrop] at i2; simp only [plusL, hv, decide_true, Bool.or_true, Bool.true_or, Bool.true_eq_false, false_and, if_false, if_true, List.nil_append] at i2; rw [hv]; rw [List.append_assoc]; exact i2, by omega, by (try simp only [List.length_append]); omega⟩, by show f.ts.length - (i + 1) < f.ts.length - i; omega⟩, [_, _, _, _], [], [], [], ttt, ⟨zAC rfl rfl, (apy rfl), (apy rfl), (apy rfl), zAG (by decide) rfl rfl, zBA rfl rfl, zAC rfl (by omega), trivial⟩, ⟨bbx, bbx, bbx, zAE (by decide) rfl rfl (zAX _) rfl, trivial⟩, by simp [ren, grH]⟩
   ·have hv : v < f.ts[i]!.1 := h
    have hne : ¬ f.ts[i]!.1 = v := by omega
    refine zAA cc rfl ?_;refine sts ?_;refine zBE (r := 0) (zA5 O v c _ hc (by omega) (by (try simp only [List.length_append]); omega)) rfl rfl rfl rfl (zC3 (zAX _)) ?_;refine sts ?_;have nl1 := zA8 v c;have nl2 := zA8 f.ts[i]!.1 f.ts[i]!.2;refine zBE (r := 33) (zA5 (O ++ nzq v c) f.ts[i]!.1 f.ts[i]!.2 _ hp (by omega) (by (try simp only [List.length_append]); omega)) rfl rfl rfl rfl (zC3 (zAX _)) ?_;refine sts ?_;exact ⟨(i + 1, O ++ nzq v c ++ nzq f.ts[i]!.1 f.ts[i]!.2, true, true), ⟨⟨by simp, by rw [hdrop] at i2; simp only [plusL, hne, hv, decide_false, decide_true, Bool.or_false, Bool.or_true, and_self, if_false, if_true] at i2; simp only [List.append_assoc] at i2 ⊢; exact i2, by omega, by (try simp only [List.length_append]); omega⟩, by show f.ts.length - (i + 1) < f.ts.length - i; omega⟩, [_, _, _, _], [], [], [], ttt, ⟨zAC rfl rfl, (apy rfl), (apy rfl), (apy rfl), zAG (by decide) rfl rfl, zBA rfl rfl, zAC rfl (by omega), trivial⟩, ⟨bbx, bbx, bbx, zAE (by decide) rfl rfl (zAX _) rfl, trivial⟩, by simp [ren, grH]⟩
   ·have hne : ¬ f.ts[i]!.1 = v := ‹¬ (tQ f.ts[i]!).var = v›
    have hle : ¬ v < f.ts[i]!.1 := h;refine zBE (r := 0) (zA5 O f.ts[i]!.1 f.ts[i]!.2 _ hp (by omega) (by (try simp only [List.length_append]); omega)) rfl rfl rfl rfl (zC3 (zAX _)) ?_;refine sts ?_;have nl := zA8 f.ts[i]!.1 f.ts[i]!.2;exact ⟨(i + 1, O ++ nzq f.ts[i]!.1 f.ts[i]!.2, true, false), ⟨⟨by simp, by rw [hdrop] at i2; simp only [plusL, hne, hle, decide_false, Bool.or_false, Bool.or_self, and_false, if_false, List.nil_append] at i2; rw [List.append_assoc]; exact i2, by omega, by (try simp only [List.length_append]); omega⟩, by show f.ts.length - (i + 1) < f.ts.length - i; omega⟩, [_, _, _, _], [], [], [], ttt, ⟨zAC rfl rfl, (apy rfl), (apy rfl), (apy rfl), zAG (by decide) rfl rfl, zBA rfl rfl, zAC rfl (by omega), trivial⟩, ⟨bbx, bbx, bbx, zAE (by decide) rfl rfl (zAX _) rfl, trivial⟩, by simp [ren, grH]⟩
   all_goals (exfalso; omega)
  ·(repeat' (first|refine stp ?_|with_reducible(refine brr ?_ ?_<;>intro h)));all_goals try(conv=>whnf)
   all_goals try (exfalso; omega)
   have hN : plusL v c (f.ts.drop i) false = nzq v c := by rw [List.drop_of_length_le (by omega)]; rfl
   rw [hN] at i2;refine zAA cc rfl ?_;refine sts ?_;refine zBE (r := 0) (zA5 O v c _ hc (by omega) (by (try simp only [List.length_append]); omega)) rfl rfl rfl rfl (zC3 (zAX _)) ?_;refine sts ?_;subst i2;exact zAB (zEO (zAV (zAN rfl rfl rfl (fun x => zFA x)) rfl)) rfl
 ·by_cases hi : i < f.ts.length
  ·have hdrop : f.ts.drop i = f.ts[i]! :: f.ts.drop (i + 1) := by rw [List.drop_eq_getElem_cons hi, getElem!_pos f.ts i hi]
   have hp := hf.2 f.ts[i]! (by rw [getElem!_pos f.ts i hi]; exact List.getElem_mem hi);have hpc := zDQ hp hc;have lp := zAY hp;have ca := zHF (cr f.ts[i]!.2) (cr c) (zAR _) (zAR _) (by omega) (by omega) (by omega) (by omega);rw [zA3, zA3] at ca
   (repeat' (first|refine stp ?_|with_reducible(refine brr ?_ ?_<;>intro h)));all_goals try(conv=>whnf)
   ·have hv : f.ts[i]!.1 = v := h
    refine zAA ca rfl ?_;refine sts ?_;refine zBE (r := 0) (zA5 O f.ts[i]!.1 (f.ts[i]!.2 + c) _ hpc (by omega) (by (try simp only [List.length_append]); omega)) rfl rfl rfl rfl (zC3 (zAX _)) ?_;refine sts ?_;have nl := zA8 f.ts[i]!.1 (f.ts[i]!.2 + c);exact ⟨(i + 1, O ++ nzq f.ts[i]!.1 (f.ts[i]!.2 + c), true, true), ⟨⟨by simp, by rw [hdrop] at i2; simp only [plusL, hv, decide_true, Bool.or_true, Bool.true_or, Bool.true_eq_false, false_and, if_false, if_true, List.nil_append] at i2; rw [hv]; rw [List.append_assoc]; exact i2, by omega, by (try simp only [List.length_append]); omega⟩, by show f.ts.length - (i + 1) < f.ts.length - i; omega⟩, [_, _, _, _], [], [], [], ttt, ⟨zAC rfl rfl, (apy rfl), (apy rfl), (apy rfl), zAG (by decide) rfl rfl, zBA rfl rfl, zAC rfl (by omega), trivial⟩, ⟨bbx, bbx, bbx, zAE (by decide) rfl rfl (zAX _) rfl, trivial⟩, by simp [ren, grH]⟩
   ·have hne : ¬ f.ts[i]!.1 = v := ‹¬ (tQ f.ts[i]!).var = v›
    refine zBE (r := 0) (zA5 O f.ts[i]!.1 f.ts[i]!.2 _ hp (by omega) (by (try simp only [List.length_append]); omega)) rfl rfl rfl rfl (zC3 (zAX _)) ?_;refine sts ?_;have nl := zA8 f.ts[i]!.1 f.ts[i]!.2;exact ⟨(i + 1, O ++ nzq f.ts[i]!.1 f.ts[i]!.2, true, true), ⟨⟨by simp, by rw [hdrop] at i2; simp only [plusL, hne, decide_false, Bool.true_or, Bool.true_eq_false, false_and, if_false, List.nil_append] at i2; rw [List.append_assoc]; exact i2, by omega, by (try simp only [List.length_append]); omega⟩, by show f.ts.length - (i + 1) < f.ts.length - i; omega⟩, [_, _, _, _], [], [], [], ttt, ⟨zAC rfl rfl, (apy rfl), (apy rfl), (apy rfl), zAG (by decide) rfl rfl, zBA rfl rfl, zAC rfl (by omega), trivial⟩, ⟨bbx, bbx, bbx, zAE (by decide) rfl rfl (zAX _) rfl, trivial⟩, by simp [ren, grH]⟩
   all_goals (exfalso; omega)
  ·(repeat' (first|refine stp ?_|with_reducible(refine brr ?_ ?_<;>intro h)));all_goals try(conv=>whnf)
   all_goals try (exfalso; omega)
   have hN : plusL v c (f.ts.drop i) true = [] := by rw [List.drop_of_length_le (by omega)]; rfl
   rw [hN] at i2;rw [List.append_nil] at i2;subst i2;exact zAB (zEO (zAV (zAN rfl rfl rfl (fun x => zFA x)) rfl)) rfl
end Go.PI.Tryz
namespace Go.PI.Tryz
open Go.Proofs Go.PI
end Go.PI.Tryz
namespace Go.PI.Tryz
open Go.Proofs Go.PI
theorem sclL_drop {c : Rat} {ts : List QT} {i : Nat} (hi : i < ts.length) : sclL c (ts.drop i) = nzq ts[i]!.1 (ts[i]!.2 * c) ++ sclL c (ts.drop (i + 1)) := by
 unfold sclL; rw [List.drop_eq_getElem_cons hi, List.flatMap_cons, getElem!_pos ts i hi]
theorem ok_rscale : FO 66 Tryz.f66 [.cell 4 29] 39 := mkO Tryz.func66 Tryz.ntmps66 Tryz.results66
theorem c_rscale (f : QF) (c : Rat) (kf kc : Nat) (hf : szF kf f) (hc : sz kc c) (hk : kf + kc ≤ 949999990) (hl : f.ts.length ≤ 2097150) : Fn 66 [encF f, encRat (cr c)] (.data (encF (scaleR f c))) := by
 obtain ⟨M, hM⟩ : ∃ M, sclL c f.ts = M := ⟨_, rfl⟩;have lf := zAY hf.1;have lc := zAY hc;have cm0 := c_rqmul (cr f.c) (cr c) (zAR _) (zAR _) (by omega) (by omega) (by omega) (by omega);rw [zA3, zA3] at cm0;unfold scaleR;obtain ⟨C, hC⟩ : ∃ C, f.c * c = C := ⟨_, rfl⟩;rw [hC] at cm0;rw [hM, hC];refine zAO hmix hT ok_rscale (by simp [encF]) ?_;refine sts ?_;refine zAA cm0 rfl ?_;refine sts ?_
 refine zAH hT (fun ((i, O, s) : Nat × List QT × Bool) => [(2, .ptr 1 0 0), (3, .ptr 2 0 0), (4, .ptr 3 0 0), (5, .ptr 4 0 0), (6, .int .i64 i)])
  (fun (i, O, s) => (1, ⟨[encF f], 4, true⟩) :: (2, ⟨[encRat (cr c)], 3, true⟩) :: (3, ⟨[zeroF], 4, true⟩) :: (4, ⟨[grF s O.length C], 4, true⟩) :: grH s O) [] 5
  (fun (i, O, s) => (s = false → O = []) ∧ O ++ sclL c (f.ts.drop i) = M ∧ i ≤ f.ts.length ∧ O.length ≤ i)
  (fun (i, _) => f.ts.length - i) (0, [], false) ⟨fun _ => rfl, hM, Nat.zero_le _, by simp⟩ (by decide) (by simp) ?_ ?_
 ·exact ⟨[0, _, _, _, _], [], [], [], ttt, ⟨(apy rfl), (apy rfl), (apy rfl), (apy rfl), zAC rfl rfl, trivial⟩,
   ⟨bbx, bbx, bbx, bbx, trivial⟩, by simp [ren, grH]⟩
 intro ⟨i, O, s⟩ ⟨i1, i2, i3, i4⟩;by_cases hi : i < f.ts.length
 ·have hp := hf.2 f.ts[i]! (by rw [getElem!_pos f.ts i hi]; exact List.getElem_mem hi)
  have hpc := zC8 hp hc;have lp := zAY hp;have cm := c_rqmul (cr f.ts[i]!.2) (cr c) (zAR _) (zAR _) (by omega) (by omega) (by omega) (by omega);rw [zA3, zA3] at cm;have nl := zA8 f.ts[i]!.1 (f.ts[i]!.2 * c);rw [sclL_drop hi] at i2;cases s
  ·(repeat' (first|refine stp ?_|with_reducible(refine brr ?_ ?_<;>intro h)));all_goals try(conv=>whnf)
   ·refine zAA cm rfl ?_
    refine sts ?_;refine zBL (zBJ f.ts[i]!.1 (f.ts[i]!.2 * c) _ hpc (by omega)) rfl ?_;refine sts ?_
    exact ⟨(i + 1, nzq f.ts[i]!.1 (f.ts[i]!.2 * c), true), ⟨⟨by simp, by rw [i1 rfl, List.nil_append] at i2; exact i2, by omega, by omega⟩, by show f.ts.length - (i + 1) < f.ts.length - i; omega⟩, [_, _, _, _, _], [], [], [], ttt,
     ⟨(apy rfl), (apy rfl), (apy rfl), (apy rfl), zAC rfl (by omega), trivial⟩,
     ⟨bbx, bbx, bbx, zCH (by decide) rfl ⟨⟨by decide, rfl⟩, rfl, rfl, rfl, trivial⟩ rfl rfl, zAE (by decide) rfl rfl (zAX _) rfl, trivial⟩, by simp [ren, grH]⟩
   all_goals (exfalso; omega)
  ·(repeat' (first|refine stp ?_|with_reducible(refine brr ?_ ?_<;>intro h)));all_goals try(conv=>whnf)
   ·refine zAA cm rfl ?_
    refine sts ?_;refine zBE (r := 0) (zA5 O f.ts[i]!.1 (f.ts[i]!.2 * c) _ hpc (by omega) (by omega)) rfl rfl rfl rfl (zC3 (zAX _)) ?_;refine sts ?_
    exact ⟨(i + 1, O ++ nzq f.ts[i]!.1 (f.ts[i]!.2 * c), true), ⟨⟨by simp, by rw [List.append_assoc]; exact i2, by omega, by rw [List.length_append]; omega⟩, by show f.ts.length - (i + 1) < f.ts.length - i; omega⟩, [_, _, _, _, _], [], [], [], ttt,
     ⟨(apy rfl), (apy rfl), (apy rfl), (apy rfl), zAC rfl (by omega), trivial⟩,
     ⟨bbx, bbx, bbx, zCH (by decide) rfl ⟨⟨by decide, rfl⟩, rfl, rfl, rfl, trivial⟩ rfl rfl, zAE (by decide) rfl rfl (zAX _) rfl, trivial⟩, by simp [ren, grH]⟩
   all_goals (exfalso; omega)
 ·rw [List.drop_of_length_le (by omega), show sclL c [] = [] from rfl, List.append_nil] at i2
  subst i2;cases s
  ·rw [i1 rfl]
   (repeat' (first|refine stp ?_|with_reducible(refine brr ?_ ?_<;>intro h)));all_goals try(conv=>whnf)
   all_goals try (exfalso; omega)
   exact zAB rfl rfl
  ·(repeat' (first|refine stp ?_|with_reducible(refine brr ?_ ?_<;>intro h)));all_goals try(conv=>whnf)
   all_goals try (exfalso; omega)
   exact zAB (zEO (zAV (zAN rfl rfl rfl (fun x => zFA x)) rfl)) rfl
theorem plusL_sz {v : Int} {c : Rat} {k kc K : Nat} (hc : sz kc c) (hK : k + kc + 1 ≤ K) : ∀ {l : List QT} {d : Bool}, (∀ p ∈ l, sz k p.2) → ∀ r ∈ plusL v c l d, sz K r.2
 | [], d, _, r, h => by
   simp only [plusL] at h
   split at h
   ·cases h
   ·rw [zEL h]; exact zC5 (by omega) hc
 | t :: l, d, hl, r, h => by
   simp only [plusL] at h;rcases List.mem_append.1 h with h | h
   ·rcases List.mem_append.1 h with h | h
    ·split at h
     ·rw [zEL h]; exact zC5 (by omega) hc
     ·cases h
    ·rw [zEL h]
     show sz K (if t.1 = v then t.2 + c else t.2)
     split
     ·exact zC5 hK (zDQ (hl t (by simp)) hc)
     ·exact zC5 (by omega) (hl t (by simp))
   ·exact plusL_sz hc hK (fun p hp => hl p (by simp [hp])) r h
theorem zI0 {v : Int} {c : Rat} : ∀ {l : List QT} {d : Bool}, (plusL v c l d).length ≤ l.length + (if d then 0 else 1)
 | [], d => by
   simp only [plusL]
   split
   ·simp
   ·have := zA8 v c; omega
 | t :: l, d => by
   have nl1 := zA8 v c;have nl2 := zA8 t.1 (if t.1 = v then t.2 + c else t.2);have ih := zI0 (v := v) (c := c) (l := l) (d := ((d || decide (t.1 = v)) || decide (v < t.1)));simp only [plusL, List.length_append, List.length_cons];by_cases hA : (d || decide (t.1 = v)) = false ∧ v < t.1
   ·rw [if_pos hA]
    have hd : d = false := by have := hA.1; cases d <;> simp_all
    have hx : ((d || decide (t.1 = v)) || decide (v < t.1)) = true := by simp [hA.2]
    rw [hx] at ih ⊢;subst hd;simp at ih ⊢;omega
   ·rw [if_neg hA]
    have : (if ((d || decide (t.1 = v)) || decide (v < t.1)) = true then 0 else 1) ≤ (if d = true then 0 else 1) := by cases d <;> simp <;> split <;> omega
    simp only [List.length_nil];omega
theorem sclL_sz {c : Rat} {k kc : Nat} (hc : sz kc c) {l : List QT} (h : ∀ p ∈ l, sz k p.2) : ∀ r ∈ sclL c l, sz (k + kc) r.2 := fun r hr => by
 unfold sclL at hr;obtain ⟨t, ht, hr⟩ := List.mem_flatMap.1 hr;rw [zEL hr]; exact zC8 (h t ht) hc
theorem sclL_len {c : Rat} : ∀ {l : List QT}, (sclL c l).length ≤ l.length
 | [] => Nat.le_refl _
 | t :: l => by
   have := zA8 t.1 (t.2 * c);have := sclL_len (c := c) (l := l);unfold sclL at *
   rw [List.flatMap_cons, List.length_append, List.length_cons]; omega
theorem scaleR_sz {f : QF} {c : Rat} {k kc : Nat} (hf : szF k f) (hc : sz kc c) : szF (k + kc) (scaleR f c) := ⟨zC8 hf.1 hc, sclL_sz hc hf.2⟩
theorem ok_rmake : FO 103 Tryz.f103 [.cell 4 29, .tmp 5] 37 := mkO Tryz.func103 Tryz.ntmps103 Tryz.results103
theorem c_rmake (ts : List QT) (c : Rat) (k kc : Nat) (hf : ∀ p ∈ ts, sz k p.2) (hv : ∀ p ∈ ts, 0 ≤ p.1) (hc : sz kc c) (hk : k + kc + (ts.length + 1) * (k + 1) ≤ 949999980) (hl : ts.length ≤ 2097140) : Fn 103 [.imm (ts.map encQ), encRat (cr c)] (.data (.tup [encF ⟨addL [] ts, c⟩, .int .i64 0])) := by
 have lc := zAY hc;have cc := zGN (cr c) (zAR _) (by omega) (by omega);rw [zA3] at cc;refine zAO hmix hT ok_rmake (by simp) ?_;refine sts ?_;refine zAA cc rfl ?_;refine sts ?_
 refine zAH hT (fun ((i, l) : Nat × List QT) => [(0, .imm (ts.map encQ)), (4, .ptr 0 0 0), (6, .ptr 1 0 0), (7, .int .i64 i)])
  (fun (i, l) => [(0, ⟨[zeroF], 4, true⟩), (1, ⟨[encF ⟨l, c⟩], 4, true⟩)]) [] 2
  (fun (i, l) => l = addL [] (ts.take i) ∧ i ≤ ts.length ∧ l.length ≤ i ∧ ∀ p ∈ l, sz (i * (k + 1)) p.2)
  (fun (i, _) => ts.length - i) (0, []) ⟨rfl, Nat.zero_le _, Nat.le_refl _, fun p hp => by cases hp⟩ (by decide) (by simp) ?_ ?_
 ·exact ⟨[_, _], [], [], [(6, [encF ⟨[], c⟩])], ⟨trivial, trivial, ⟨⟨_, 4, _, rfl, rfl, rfl⟩, trivial⟩⟩, ⟨zAD rfl rfl, (apy rfl), (apy rfl), zAC rfl rfl, trivial⟩,
   ⟨bbx, bbx, trivial⟩, by simp [ren]⟩
 intro ⟨i, l⟩ ⟨i1, i2, i3, i4⟩;by_cases hi : i < ts.length
 ·have hmem : ts[i]! ∈ ts := by rw [getElem!_pos ts i hi]; exact List.getElem_mem hi
  have hp := hf ts[i]! hmem;have hv0 := hv ts[i]! hmem;have hmul : (i + 1) * (k + 1) ≤ ts.length * (k + 1) := Nat.mul_le_mul_right _ (by omega);rw [Nat.add_mul] at hmul hk;have hK : i * (k + 1) + k + 1 ≤ (i + 1) * (k + 1) := by rw [Nat.add_mul]; omega
  have cp := c_rplus ⟨l, c⟩ ts[i]!.1 ts[i]!.2 (kc + i * (k + 1)) k ⟨zC5 (by omega) hc, fun p hp => zC5 (by omega) (i4 p hp)⟩ hp (by omega) (by show l.length ≤ _; omega);have hln := zI0 (v := ts[i]!.1) (c := ts[i]!.2) (l := l) (d := false);have hsn := plusL_sz (v := ts[i]!.1) hp hK (l := l) (d := false) i4
  have hn : plusL ts[i]!.1 ts[i]!.2 l false = addL [] (ts.take (i + 1)) := by
   rw [i1]; unfold addL; rw [List.take_succ_eq_append_getElem hi, List.foldl_append, getElem!_pos ts i hi]; rfl
  simp only [Bool.false_eq_true, if_false] at hln
  (repeat' (first|refine stp ?_|with_reducible(refine brr ?_ ?_<;>intro h)));all_goals try(conv=>whnf)
  ·exact absurd h (show ¬ ts[i]!.1 < 0 by omega)
  ·refine zAA cp rfl ?_
   refine sts ?_
   exact ⟨(i + 1, plusL ts[i]!.1 ts[i]!.2 l false), ⟨⟨hn, by omega, by omega, hsn⟩, by show ts.length - (i + 1) < ts.length - i; omega⟩, [0, 1], [], [], [], ttt,
    ⟨zAD rfl rfl, apx, apx, zAC rfl (by omega), trivial⟩,
    ⟨bbx, bbx, trivial⟩, by simp [ren]⟩
  all_goals (exfalso; omega)
 ·rw [List.take_of_length_le (by omega)] at i1
  subst i1
  (repeat' (first|refine stp ?_|with_reducible(refine brr ?_ ?_<;>intro h)));all_goals try(conv=>whnf)
  all_goals try (exfalso; omega)
  exact zAB rfl rfl
end Go.PI.Tryz
