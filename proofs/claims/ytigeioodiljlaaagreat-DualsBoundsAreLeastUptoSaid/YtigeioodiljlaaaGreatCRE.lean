/-
  All that the law of bounds needs.
-/
import Derived.Test.YtigeioodiljlaaaGreatCRD
import Derived.Test.YtigeioodiljlaaaGreatCDB
import Derived.Test.YtigeioodiljlaaaGreatCPD
import Derived.Test.YtigeioodiljlaaaGreatCFB
import Derived.Test.YtigeioodiljlaaaGreatCPE
set_option linter.unusedVariables false
set_option linter.unusedSimpArgs false
set_option linter.unnecessarySimpa false
namespace Go.PI.Tryz
open Go.Proofs Go.PI
end Go.PI.Tryz
namespace Go.PI.Tryz
open Go.Proofs Go.PI
theorem cmbV_eq {P : QP} (hP : okQP P) {ys : List RatL} (h : (cmbV P ys).2 = true) :
 ys.length = P.rows.length ∧ (cmb mergeQ P.rows ys zeroQ).2 = true ∧ (cmbV P ys).1 = (cmb mergeQ P.rows ys zeroQ).1 := by
 have e := cmb_eq (op := opP) (fun s f y hs hf => opP_eq hs hf y) P.rows ys zeroQ zFK fun f hf => (hP.2.2.2 f hf).1
 unfold cmbV at h ⊢;rw [e] at h ⊢
 split at h
 ·rename_i hh; rw [if_pos hh]; exact ⟨hh.1, hh.2, rfl⟩
 ·exact absurd h (by simp)
theorem bnd_val {P : QP} (hP : okQP P) {ys : List RatL} (h : (bndV P ys).2 = true) (x : List Rat) :
 (cmbV P ys).2 = true ∧ evQ P.obj x = (bndV P ys).1 + wsum (fun f => evQ f x) P.rows ys ∧ dirQ P.obj x = wsum (fun f => dirQ f x) P.rows ys := by
 unfold bndV at h ⊢
 split at h
 ·rename_i hh
  rw [if_pos hh];obtain ⟨h1, h2⟩ := hh;obtain ⟨_, h3, h4⟩ := cmbV_eq hP h1;have e1 := zJH x P.obj (cmbV P ys).1 (-1);have e2 := zHE x P.obj (cmbV P ys).1 (-1);rw [evQ_nil h2] at e1;rw [dirQ_nil h2] at e2;have e3 := cmb_val (val := fun f => evQ f x) (zJH x) P.rows ys zeroQ h3;have e4 := cmb_val (val := fun f => dirQ f x) (zHE x) P.rows ys zeroQ h3;rw [← h4] at e3 e4;simp only [evQ_zero, dirQ_zero] at e3 e4;refine ⟨h1, ?_, ?_⟩ <;> grind
 ·exact absurd h (by simp)
end Go.PI.Tryz
namespace Go.PI.Tryz
open Go.Proofs Go.PI
end Go.PI.Tryz
namespace Go.PI.Tryz
open Go.Proofs Go.PI
set_option maxHeartbeats 4000000
theorem zBX : FO 8 Tryz.f8 [.tmp 4] 56 := mkO Tryz.func8 Tryz.ntmps8 Tryz.results8
theorem zE2 (p : ProgL) (ys : List RatL) (hp : okP 1048576 p) (hy : okL ys) : Fn 8 [encProg p, .imm (ys.map encRat)] (.data (.bool true)) := by
 have cw := c_wsmall p [ys] (okP_le (by decide) hp) (by simp) (okL_len (fun l hl => by simp at hl; subst hl; exact hy));by_cases hs : smA p [ys]
 ·rw [dB_true.2 hs] at cw
  have hP := smP_of hp hs.1;have he := encP_of hs.1.2.2.2;obtain ⟨h4, hyl⟩ := okL_4 hy (hs.2 0 (by simp));by_cases hq : p.Q.vars ≤ 2 ∧ p.Q.rows.length ≤ 5
  ·have c1 := zIL p.Q ys hP h4 hyl
   have zb := zAY (bndV_sz hP h4);have hv0 : 0 ≤ p.Q.vars := by have := hP.1.1; omega
   obtain ⟨n, hn⟩ : ∃ n : Nat, p.Q.vars = (n : Int) := ⟨p.Q.vars.toNat, by omega⟩;have hO : okF n p.Q.obj := by rw [← hn]; exact hP.1.2.2.1
   have hR : ∀ f ∈ p.Q.rows, okF n f := fun f hf => by rw [← hn]; exact hP.1.2.2.2 f hf
   have c2 := c_least27 n p.Q.rows p.Q.obj 2 (by omega) (by decide) (by decide) hP.2.2.2.1 hO (fun f hf => ⟨(hP.2.2.1 f hf).1, hR f hf⟩) (by omega);obtain ⟨V, hV⟩ : ∃ V, V = lstV (prgA n p.Q.rows p.Q.obj) n := ⟨_, rfl⟩;rw [← hV] at c2;have hVz : sz 2 V.2 := by rw [hV]; exact lst_sz _ _
   have zv := zAY hVz;have cq := zJQ (cr (bndV p.Q ys).1) (cr V.2) (zAR _) (zAR _) (by omega) (by omega) (by omega) (by omega);rw [zA3, zA3] at cq
   have key : (bndV p.Q ys).2 = true → (V.1 = 1 → (bndV p.Q ys).1 ≤ V.2) ∧ V.1 ≠ 3 := fun h => by
    have hb := fun x => bnd_val hP.1 h x
    obtain ⟨hl, h3, _⟩ := cmbV_eq hP.1 (hb []).1;exact dual_least hR hO (cmb_pos _ _ _ h3) (fun x => (hb x).2.1) (fun x => (hb x).2.2) hV
   have hst : V.1 = 0 ∨ V.1 = 1 ∨ V.1 = 2 ∨ V.1 = 3 := by rw [hV]; exact lst_st _ _
   have hpv : encP p.Q = prgV n p.Q.rows p.Q.obj := by unfold encP prgV; rw [hn]
   rw [he] at cw ⊢;rw [← hpv] at c2;obtain ⟨S, hS⟩ : ∃ S, sgnQ ((bndV p.Q ys).1 - V.2) = S := ⟨_, rfl⟩;rw [hS] at cq
   have hSb : (bndV p.Q ys).2 = true → V.1 = 1 → S ≤ 0 := fun h h1 => Int.not_lt.1 fun e => by
    rw [← hS] at e;have := sgnQ_pos.1 e;have := (key h).1 h1
    grind
   have h3n : (bndV p.Q ys).2 = true → V.1 ≠ 3 := fun h => (key h).2
   generalize p.Q = P at *
   refine zAO hmix hT zBX (by simp [encP]) ?_;refine sts ?_;refine zAA c_awake rfl ?_;refine sts ?_;refine zAA cw rfl ?_
   (repeat' (first|refine stp ?_|with_reducible(refine brr ?_ ?_<;>intro h)));all_goals try(conv=>whnf)
   all_goals try (exfalso; omega)
   refine zAA c1 rfl ?_
   (repeat' (first|refine stp ?_|with_reducible(refine brr ?_ ?_<;>intro h)));all_goals try(conv=>whnf)
   ·have k1 := hSb h
    have k3 := h3n h;refine zAA c2 rfl ?_
    (repeat' (first|refine stp ?_|with_reducible(refine brr ?_ ?_<;>intro h)));all_goals try(conv=>whnf)
    all_goals try (exfalso; omega)
    ·exact zAB rfl rfl
    ·exact zAB rfl rfl
    ·refine zAA cq rfl ?_
     refine sts ?_;exact zAB rfl (congrArg PV.bool (decide_eq_true (k1 (by omega))))
   ·exact zAB rfl rfl
  ·rw [he] at cw ⊢
   generalize p.Q = P at *
   refine zAO hmix hT zBX (by simp [encP]) ?_;refine sts ?_;refine zAA c_awake rfl ?_;refine sts ?_;refine zAA cw rfl ?_
   (repeat' (first|refine stp ?_|with_reducible(refine brr ?_ ?_<;>intro h)));all_goals try(conv=>whnf)
   all_goals first | exact zAB rfl rfl | (exfalso; (try simp only [List.length_map] at *); omega)
 ·rw [dB_false.2 hs] at cw
  refine zAO hmix hT zBX (by simp [encProg]) ?_;refine sts ?_;refine zAA c_awake rfl ?_;refine sts ?_;refine zAA cw rfl ?_;refine sts ?_;exact zAB rfl rfl
end Go.PI.Tryz
namespace Go.PI.Tryz
end Go.PI.Tryz
