/-
  What is read at the types of linear programs and solutions; the rows' ends.
-/
import Derived.Test.YtigeioodiljlaaaGreatCRC
import Derived.Test.YtigeioodiljlaaaGreatCDB
import Derived.Test.YtigeioodiljlaaaGreatCPD
import Derived.Test.YtigeioodiljlaaaGreatRows
import Derived.WalkKit
import Derived.ProofKit
import Derived.OpenShut
import Derived.JoinedCond
set_option linter.unusedVariables false
set_option linter.unusedSimpArgs false
set_option linter.unnecessarySimpa false
namespace Go.PI.Tryz
open Go.Proofs Go.PI
theorem ok_smrat : FO 62 Tryz.f62 [.tmp 2] 17 := mkO Tryz.func62 Tryz.ntmps62 Tryz.results62
theorem c_smrat (x : RatL) (hx : okQ 2147483596 x) : Fn 62 [encRat x] (.data (.bool (decide (smR x)))) := by
 have cv := zJO x hx.1 (by have := hx.2; omega) (by have := hx.2; omega);have no : ¬ smR x → false = decide (smR x) := fun h => (decide_eq_false h).symm
 refine zAO hmix hT ok_smrat (by simp) ?_
 (repeat' (first|refine stp ?_|with_reducible(refine brr ?_ ?_<;>intro h)));all_goals try(conv=>whnf)
 ·refine zAA cv rfl ?_
  refine sts ?_;refine zAB rfl (congrArg PV.bool ?_);exact decide_eq_decide.2 ⟨fun e => ⟨by omega, by omega, e⟩, fun e => e.2.2⟩
 ·exact zAB rfl (congrArg PV.bool (no fun e => by have := e.2.1; omega))
 ·exact zAB rfl (congrArg PV.bool (no fun e => by have := e.1; omega))
theorem ok_smform : FO 75 Tryz.f75 [.tmp 2] 34 := mkO Tryz.func75 Tryz.ntmps75 Tryz.results75
theorem c_smform (f : AffL) (hf : okA 2147483596 f) : Fn 75 [encAff f] (.data (.bool (dB (smF f)))) := by
 have c1 := c_smrat f.const hf.1;have c2 := zJS f 1048576 hf;have no : ¬ smF f → false = dB (smF f) := dB_no;refine zAO hmix hT ok_smform (by simp [encAff]) ?_
 (repeat' (first|refine stp ?_|with_reducible(refine brr ?_ ?_<;>intro h)));all_goals try(conv=>whnf)
 ·exact zAB rfl (congrArg PV.bool (no fun e => by have := e.1; omega))
 ·refine zAA c1 rfl ?_
  (repeat' (first|refine stp ?_|with_reducible(refine brr ?_ ?_<;>intro h)));all_goals try(conv=>whnf)
  ·refine zAA c2 rfl ?_
   (repeat' (first|refine stp ?_|with_reducible(refine brr ?_ ?_<;>intro h)));all_goals try(conv=>whnf)
   ·have hv : ValidF f 1048576 := validB_true.1 (by assumption)
    have hs : smR f.const := by assumption
    have hl : f.terms.length ≤ 8 := by omega
    refine zAH hT (fun (i : Nat) => [(1, .ptr 0 0 0), (3, .int .i64 i)]) (fun _ => [(0, ⟨[encAff f], 4, true⟩)]) [] 1
     (fun i => i ≤ f.terms.length ∧ ∀ j, j < i → smR f.terms[j]!.coef) (fun i => f.terms.length - i) 0 ⟨Nat.zero_le _, fun j h => (by omega)⟩ (by decide) (by simp) ?_ ?_
    ·exact ⟨[0], [], [], [], ttt, ⟨apx, zAC rfl rfl, trivial⟩, ⟨bbx, trivial⟩, by simp [ren]⟩
    intro i ⟨i1, i2⟩;by_cases hi : i < f.terms.length
    ·have cr' := c_smrat f.terms[i]!.coef (okA_get hf hi)
     (repeat' (first|refine stp ?_|with_reducible(refine brr ?_ ?_<;>intro h)));all_goals try(conv=>whnf)
     ·refine zAA cr' rfl ?_
      (repeat' (first|refine stp ?_|with_reducible(refine brr ?_ ?_<;>intro h)));all_goals try(conv=>whnf)
      ·refine ⟨i + 1, ⟨⟨by omega, fun j hj => ?_⟩, by show f.terms.length - (i + 1) < f.terms.length - i; omega⟩, [0], [], [], [], ttt, ⟨apx, zAC rfl (by omega), trivial⟩, ⟨bbx, trivial⟩, by simp [ren]⟩
       rcases Nat.lt_or_eq_of_le (Nat.le_of_lt_succ hj) with hj | rfl
       ·exact i2 j hj
       ·assumption
      ·exact zAB rfl (congrArg PV.bool (no fun e => h (e.2.2.2 i hi)))
     all_goals (exfalso; omega)
    ·(repeat' (first|refine stp ?_|with_reducible(refine brr ?_ ?_<;>intro h)));all_goals try(conv=>whnf)
     all_goals try (exfalso; omega)
     exact zAB rfl (congrArg PV.bool (dB_yes ⟨hl, hs, hv, fun j hj => i2 j (by omega)⟩))
   ·exact zAB rfl (congrArg PV.bool (no fun e => by have := validB_true.2 e.2.2.1; rw [h] at this; cases this))
  ·exact zAB rfl (congrArg PV.bool (no fun e => h e.2.1))
theorem ok_smforms : FO 74 Tryz.f74 [.tmp 4] 22 := mkO Tryz.func74 Tryz.ntmps74 Tryz.results74
theorem c_smforms (l : List AffL) (m : Int) (hl : ∀ i, i < l.length → okA 2147483596 l[i]!) (hll : l.length ≤ 1048576) : Fn 74 [.imm (l.map encAff), .int .i64 m] (.data (.bool (dB (smFs l m)))) := by
 have no : ¬ smFs l m → false = dB (smFs l m) := dB_no;refine zAO hmix hT ok_smforms (by simp) ?_
 (repeat' (first|refine stp ?_|with_reducible(refine brr ?_ ?_<;>intro h)));all_goals try(conv=>whnf)
 ·exact zAB rfl (congrArg PV.bool (no fun e => by have := e.1; omega))
 have hm : (l.length : Int) ≤ m := by omega
 refine zAH hT (fun (i : Nat) => [(0, .imm (l.map encAff)), (5, .int .i64 i)]) (fun _ => []) [] 1
  (fun i => i ≤ l.length ∧ ∀ j, j < i → smF l[j]!) (fun i => l.length - i) 0 ⟨Nat.zero_le _, fun j h => (by omega)⟩ (by decide) (by simp) ?_ ?_
 ·exact ⟨[0], [], [], [], ttt, ⟨zAD rfl rfl, zAC rfl rfl, trivial⟩, trivial, by simp [ren]⟩
 intro i ⟨i1, i2⟩;by_cases hi : i < l.length
 ·have cr' := c_smform l[i]! (hl i hi)
  (repeat' (first|refine stp ?_|with_reducible(refine brr ?_ ?_<;>intro h)));all_goals try(conv=>whnf)
  ·refine zAA cr' rfl ?_
   (repeat' (first|refine stp ?_|with_reducible(refine brr ?_ ?_<;>intro h)));all_goals try(conv=>whnf)
   ·refine ⟨i + 1, ⟨⟨by omega, fun j hj => ?_⟩, by show l.length - (i + 1) < l.length - i; omega⟩, [0], [], [], [], ttt, ⟨zAD rfl rfl, zAC rfl (by omega), trivial⟩, trivial, by simp [ren]⟩
    rcases Nat.lt_or_eq_of_le (Nat.le_of_lt_succ hj) with hj | rfl
    ·exact i2 j hj
    ·exact dB_true.1 (by assumption)
   ·exact zAB rfl (congrArg PV.bool (no fun e => by have := dB_true.2 (e.2 i hi); rw [h] at this; cases this))
  all_goals (exfalso; omega)
 ·(repeat' (first|refine stp ?_|with_reducible(refine brr ?_ ?_<;>intro h)));all_goals try(conv=>whnf)
  all_goals try (exfalso; omega)
  exact zAB rfl (congrArg PV.bool (dB_yes ⟨hm, fun j hj => i2 j (by omega)⟩))
theorem ok_rsmall : FO 36 Tryz.f36 [.tmp 2] 20 := mkO Tryz.func36 Tryz.ntmps36 Tryz.results36
theorem c_rsmall (p : ProgL) (hp : okP 2147483596 p) : Fn 36 [encProg p] (.data (.bool (dB (smallP p)))) := by
 have c1 := c_smforms p.rows 8 (fun i hi => okP_get hp hi) hp.2.2;have c2 := c_smform p.obj hp.1;have c3 := c_rpvalid p hp;have no : ¬ smallP p → false = dB (smallP p) := dB_no;refine zAO hmix hT ok_rsmall (by simp [encProg]) ?_
 (repeat' (first|refine stp ?_|with_reducible(refine brr ?_ ?_<;>intro h)));all_goals try(conv=>whnf)
 ·refine zAA c1 rfl ?_
  (repeat' (first|refine stp ?_|with_reducible(refine brr ?_ ?_<;>intro h)));all_goals try(conv=>whnf)
  ·refine zAA c2 rfl ?_
   (repeat' (first|refine stp ?_|with_reducible(refine brr ?_ ?_<;>intro h)));all_goals try(conv=>whnf)
   ·refine zAA c3 rfl ?_
    refine sts ?_;refine zAB rfl (congrArg PV.bool ?_);have h1 : smFs p.rows 8 := dB_true.1 (by assumption);have h2 : smF p.obj := dB_true.1 (by assumption);have h0 : p.vars ≤ 4 := by omega
    rw [Bool.eq_iff_iff, validPB_true, dB_true];exact ⟨fun e => ⟨h0, h1, h2, e⟩, fun e => e.2.2.2⟩
   ·exact zAB rfl (congrArg PV.bool (no fun e => by have := dB_true.2 e.2.2.1; rw [h] at this; cases this))
  ·exact zAB rfl (congrArg PV.bool (no fun e => by have := dB_true.2 e.2.1; rw [h] at this; cases this))
 ·exact zAB rfl (congrArg PV.bool (no fun e => by have := e.1; omega))
theorem ok_rform : FO 71 Tryz.f71 [.cell 4 29] 14 := mkO Tryz.func71 Tryz.ntmps71 Tryz.results71
theorem c_rform (ts : List QT) (c : Rat) (hf : ∀ p ∈ ts, sz 2 p.2) (hv : ∀ p ∈ ts, 0 ≤ p.1) (hc : sz 2 c) (hl : ts.length ≤ 10) : Fn 71 [.imm (ts.map encQ), encRat (cr c)] (.data (encF ⟨addL [] ts, c⟩)) := by
 have cm := c_rmake ts c 2 2 hf hv hc (by omega) (by omega);refine zAO hmix hT ok_rform (by simp) ?_;refine sts ?_;refine zAA cm rfl ?_;refine sts ?_;exact zAB rfl rfl
end Go.PI.Tryz
namespace Go.PI.Tryz
open Go.Proofs Go.PI
end Go.PI.Tryz
namespace Go.PI.Tryz
open Go.Proofs Go.PI
theorem cmb_C {P : QP} (ys : List RatL) : cmbV P ys = cmbC P ys := by unfold cmbV cmbC; rw [op_F]
theorem bnd_C {P : QP} (ys : List RatL) : bndV P ys = bndC P ys := by unfold bndV bndC; rw [cmb_C, merge_F]
theorem ok_wform : FO 33 Tryz.f33 [.cell 6 29] 17 := mkO Tryz.func33 Tryz.ntmps33 Tryz.results33
theorem c_wform (c0 c1 c : Int) (h0 : c0.natAbs < 4294967296) (h1 : c1.natAbs < 4294967296) (h : c.natAbs < 4294967296) : Fn 33 [.int .i64 c0, .int .i64 c1, .int .i64 c] (.data (encF (formQ c0 c1 c))) := by
 obtain ⟨a1, a2, a3⟩ := aw_form c0 c1 c h0 h1 h;have cf := c_rform [((0 : Int), (c0 : Rat)), (1, (c1 : Rat))] (c : Rat) a1 a2 a3 (by simp);refine zAO hmix hT ok_wform (by simp) ?_;refine sts ?_;refine zAA (zHY c0 (by omega)) rfl ?_;refine sts ?_;refine zAA (zHY c1 (by omega)) rfl ?_;refine sts ?_;refine zAA (zHY c (by omega)) rfl ?_;refine sts ?_;refine zAA cf rfl ?_;refine sts ?_;exact zAB rfl rfl
theorem ok_awake : FO 10 Tryz.f10 [.tmp 0] 90 := mkO Tryz.func10 Tryz.ntmps10 Tryz.results10
theorem c_awake : Fn 10 [] (.data (.bool true)) := by
 have f1 := c_wform 1 1 0 (by decide) (by decide) (by decide);have f2 := c_wform 1 2 (-4) (by decide) (by decide) (by decide);have f3 := c_wform 1 0 0 (by decide) (by decide) (by decide);have f4 := c_wform 0 1 0 (by decide) (by decide) (by decide);have fr := c_rqfrac 1 2 (by decide) (by decide);have o2 := zHY 2 (by decide);have o1 := zHY 1 (by decide);have hD : ∀ y ∈ D0, okQ 4 y := aw_sol.2.2.1;have hX : ∀ y ∈ X0, okQ 4 y := aw_sol.2.1;have b0 := zIL P0 D0 aw_sm hD (by decide);rw [bnd_C, aw_bnd] at b0;have b1 := zIL P0 D1 aw_sm aw_D1 (by decide);rw [bnd_C, aw_bnd1] at b1;have hbl := zAY (bndV_sz aw_sm aw_D1);have cq := zJQ (cr ((2 : Int) : Rat)) (cr ((2 : Int) : Rat)) (zAR _) (zAR _) (by decide +kernel) (by decide +kernel) (by decide +kernel) (by decide +kernel);rw [show sgnQ (qv (cr ((2 : Int) : Rat)) - qv (cr ((2 : Int) : Rat))) = 0 by rw [sgnQ_zero]; grind] at cq;have hopt : optP P0 S0 := ⟨aw_feas, aw_can, rfl, by rw [bnd_C, show S0.dual = D0 from rfl, aw_bnd], aw_val, by rw [bnd_C, show S0.dual = D0 from rfl, aw_bnd]; exact aw_v2⟩;have k1 := c_dcheck P0 S0 aw_sm aw_sol;rw [show decide (chkP P0 S0) = true from decide_eq_true (Or.inl ⟨rfl, hopt⟩)] at k1;have k2 := c_dopt P0 S0 aw_sm aw_sol;rw [show decide (optP P0 S0) = true from decide_eq_true hopt] at k2;have k3 := c_dslack P0 X0 D0 aw_sm hX hD (by decide) (by decide);rw [show slkB P0 X0 D0 = true by simp only [slkB, decide_eq_true_eq]; exact ⟨by rw [cmb_C]; exact aw_comb.1, aw_feas, aw_slk⟩] at k3;have k4 := c_dinfeas P0 D0 aw_sm hD (by decide);rw [show infV P0 D0 = false by unfold infV; rw [cmb_C, aw_comb.1]; simp [aw_comb.2]] at k4;have k5 := c_dunb P0 X0 X0 aw_sm hX hX (by decide) (by decide);rw [show decide (unbP P0 X0 X0) = false from decide_eq_false aw_unb] at k5;refine zAO hmix hT ok_awake (by simp) ?_;refine sts ?_;refine zAA f1 rfl ?_;refine sts ?_;refine zAA f2 rfl ?_;refine sts ?_;refine zAA f3 rfl ?_;refine sts ?_;refine zAA f4 rfl ?_;refine sts ?_;refine zAA fr rfl ?_;refine sts ?_;refine zAA o2 rfl ?_;refine sts ?_;refine zAA b0 rfl ?_;refine sts ?_;refine zAA o1 rfl ?_;refine sts ?_;refine zAA b1 rfl ?_;refine sts ?_;refine zAA cq rfl ?_;refine sts ?_;refine zAA k1 rfl ?_;refine sts ?_;refine zAA k2 rfl ?_;refine sts ?_;refine zAA k3 rfl ?_;refine sts ?_;refine zAA k4 rfl ?_;refine sts ?_;refine zAA k5 rfl ?_;refine sts ?_;exact zAB rfl rfl
def encL (l : List RatL) : PV := .imm (l.map encRat)
def smA (p : ProgL) (ls : List (List RatL)) : Prop := smallP p ∧ ∀ i, i < ls.length → smL ls[i]!
theorem ok_wsmall : FO 11 Tryz.f11 [.tmp 4] 53 := mkO Tryz.func11 Tryz.ntmps11 Tryz.results11
theorem c_wsmall (p : ProgL) (ls : List (List RatL)) (hp : okP 2147483596 p) (hl : ls.length ≤ 1000) (hll : ∀ l ∈ ls, l.length ≤ 1048576 ∧ ∀ x ∈ l, x.num.length ≤ 1048576 ∧ x.den.length ≤ 1048576) : Fn 11 [encProg p, .imm (ls.map encL)] (.data (.bool (dB (smA p ls)))) := by
 have c1 := c_rsmall p hp;have no : ¬ smA p ls → false = dB (smA p ls) := dB_no;refine zAO hmix hT ok_wsmall (by simp [encProg]) ?_;refine sts ?_;refine zAA c1 rfl ?_
 (repeat' (first|refine stp ?_|with_reducible(refine brr ?_ ?_<;>intro h)));all_goals try(conv=>whnf)
 ·have hs : smallP p := dB_true.1 (by assumption)
  refine zAH hT (fun (i : Nat) => [(1, .imm (ls.map encL)), (5, .int .i64 i)]) (fun _ => []) [] 1
   (fun i => i ≤ ls.length ∧ ∀ j, j < i → smL ls[j]!) (fun i => ls.length - i) 0 ⟨Nat.zero_le _, fun j h => (by omega)⟩ (by decide) (by simp) ?_ ?_
  ·exact ⟨[0], [], [], [], ttt, ⟨zAD rfl rfl, zAC rfl rfl, trivial⟩, trivial, by simp [ren]⟩
  intro i ⟨i1, i2⟩;by_cases hi : i < ls.length
  ·obtain ⟨l1, l2⟩ := hll ls[i]! (by rw [getElem!_pos ls i hi]; exact List.getElem_mem hi)
   have hno : ¬ smL ls[i]! → false = dB (smA p ls) := fun h => no fun e => h (e.2 i hi)
   (repeat' (first|refine stp ?_|with_reducible(refine brr ?_ ?_<;>intro h)));all_goals try(conv=>whnf)
   ·exact zAB rfl (congrArg PV.bool (hno fun e => by have := e.1; omega))
   ·have hlen : ls[i]!.length ≤ 10 := by omega
    refine zAH hT (fun (k : Nat) => [(1, .imm (ls.map encL)), (5, .int .i64 i), (6, .int .i64 k)]) (fun _ => []) [] 1
     (fun k => k ≤ ls[i]!.length ∧ ∀ j, j < k → ls[i]![j]!.num.length ≤ 4 ∧ ls[i]![j]!.den.length ≤ 4) (fun k => ls[i]!.length - k) 0 ⟨Nat.zero_le _, fun j h => (by omega)⟩ (by decide) (by simp) ?_ ?_
    ·exact ⟨[0], [], [], [], ttt, ⟨zAD rfl rfl, zAC rfl rfl, zAC rfl rfl, trivial⟩, trivial, by simp [ren]⟩
    intro k ⟨k1, k2⟩;by_cases hk : k < ls[i]!.length
    ·have l3 := l2 ls[i]![k]! (by rw [getElem!_pos _ k hk]; exact List.getElem_mem hk)
     (repeat' (first|refine stp ?_|with_reducible(refine brr ?_ ?_<;>intro h)));all_goals try(conv=>whnf)
     ·exact zAB rfl (congrArg PV.bool (hno fun e => by have := (e.2 k hk).1; omega))
     ·exact zAB rfl (congrArg PV.bool (hno fun e => by have := (e.2 k hk).2; omega))
     ·refine ⟨k + 1, ⟨⟨by omega, fun j hj => ?_⟩, by show ls[i]!.length - (k + 1) < ls[i]!.length - k; omega⟩, [0], [], [], [], ttt, ⟨zAD rfl rfl, zAC rfl rfl, zAC rfl (by omega), trivial⟩, trivial, by simp [ren]⟩
      rcases Nat.lt_or_eq_of_le (Nat.le_of_lt_succ hj) with hj | rfl
      ·exact k2 j hj
      ·exact ⟨by omega, by omega⟩
     all_goals (exfalso; omega)
    ·(repeat' (first|refine stp ?_|with_reducible(refine brr ?_ ?_<;>intro h)));all_goals try(conv=>whnf)
     all_goals try (exfalso; omega)
     refine ⟨i + 1, ⟨⟨by omega, fun j hj => ?_⟩, by show ls.length - (i + 1) < ls.length - i; omega⟩, [0], [], [], [], ttt, ⟨zAD rfl rfl, zAC rfl (by omega), trivial⟩, trivial, by simp [ren]⟩;rcases Nat.lt_or_eq_of_le (Nat.le_of_lt_succ hj) with hj | rfl
     ·exact i2 j hj
     ·exact ⟨hlen, fun q hq => k2 q (by omega)⟩
   all_goals (exfalso; omega)
  ·(repeat' (first|refine stp ?_|with_reducible(refine brr ?_ ?_<;>intro h)));all_goals try(conv=>whnf)
   all_goals try (exfalso; omega)
   exact zAB rfl (congrArg PV.bool (dB_yes ⟨hs, fun j hj => i2 j (by omega)⟩))
 ·exact zAB rfl (congrArg PV.bool (no fun e => by have := dB_true.2 e.1; rw [h] at this; cases this))
end Go.PI.Tryz
namespace Go.PI.Tryz
open Go.Proofs Go.PI
def smI (r : RatL) : Prop := okQ 1048576 r
def okL (l : List RatL) : Prop := l.length ≤ 1048576 ∧ ∀ x ∈ l, smI x
theorem okL_4 {l : List RatL} (h : okL l) (hs : smL l) : (∀ y ∈ l, okQ 4 y) ∧ l.length ≤ 1048576 := by
 refine ⟨fun y hy => ?_, h.1⟩;obtain ⟨i, hi, rfl⟩ := List.getElem_of_mem hy;have := hs.2 i hi;rw [getElem!_pos l i hi] at this;exact ⟨(h.2 _ hy).1, this.1, this.2⟩
theorem okL_len {ls : List (List RatL)} (h : ∀ l ∈ ls, okL l) : ∀ l ∈ ls, l.length ≤ 1048576 ∧ ∀ x ∈ l, x.num.length ≤ 1048576 ∧ x.den.length ≤ 1048576 := fun l hl => ⟨(h l hl).1, fun x hx => ((h l hl).2 x hx).2⟩
theorem okP_le {j k : Nat} (h : j ≤ k) {p : ProgL} (hp : okP j p) : okP k p := by
 have a : ∀ {f : AffL}, okA j f → okA k f := fun hf => ⟨zI5 h hf.1, fun t ht => zI5 h (hf.2.1 t ht), hf.2.2⟩
 exact ⟨a hp.1, fun f hf => a (hp.2.1 f hf), hp.2.2⟩
end Go.PI.Tryz
namespace Go.PI.Tryz
open Go Go.Proofs Go.PI Go.Proofs.YtigeioodiljlaaaGreat
open Go.ChangeShapes Go.WideShapes Go.ChangeAt Go.RowKit
section
variable {H : Type} {enc : TypeId × Value → H} {w : World}
def QNat (xs : List Int) (B : Nat) : Prop := QL (fun x b => (Lit.int .u32 x).wf = true ∧ 1 ≤ b) xs B
theorem r_nat (n : Nat) : Reads enc Tryz.prog w (n + 1) 25 (fun xs : List Int => [encN xs]) QNat :=
 zEJ Tryz.underlying25 (by kernel_rfl) (by decide) (fun _ => ⟨rfl, rfl⟩) (zIX Tryz.underlying115)
theorem QNat.ok {x : List Int} {B : Nat} (h : QNat x B) : okN x := fun y hy => by
 obtain ⟨b, ⟨h1, _⟩, _⟩ := QL.mem h y hy;have : 0 ≤ y ∧ y ≤ 4294967295 := by simpa [Lit.wf, IntKind.min, IntKind.max, IntKind.signed, IntKind.bits] using h1
 omega
theorem QNat.len {x : List Int} {B : Nat} (h : QNat x B) : x.length < B := QL.len (fun _ _ h => h.2) h
def QRat (x : RatL) (B : Nat) : Prop := ∃ b c, QNat x.num b ∧ QNat x.den c ∧ b + c + 2 ≤ B
def cRat (x : RatL) : List PV := [.bool x.neg, encN x.num, encN x.den]
theorem r_rat (n : Nat) : Reads enc Tryz.prog w (n + 2) 27 cRat QRat := by
 refine (zDS (tot := 3) Tryz.underlying27 (by kernel_rfl) (zBO rfl (k := 1) (by kernel_rfl) (by decide) (reads_bool Tryz.underlying4)
  (zBO rfl (k := 1) (by kernel_rfl) (by decide) (r_nat n) (zBO rfl (k := 1) (by kernel_rfl) (by decide) (r_nat n) (zE4 (by decide)))))).to (fun x => (⟨x.1, x.2.1, x.2.2.1⟩ : RatL)) (fun _ => rfl) ?_
 rintro ⟨a, b, c, u⟩ B ⟨b0, ⟨b1, b2, h1, ⟨b3, b4, h3, ⟨b5, b6, h5, _, h6⟩, h4⟩, h2⟩, h0⟩
 exact ⟨b3, b5, h3, h5, by omega⟩
theorem QRat.ok {x : RatL} {B : Nat} (h : QRat x B) : okQ B x := by
 obtain ⟨b, c, h1, h2, h3⟩ := h;have := h1.len; have := h2.len;exact ⟨⟨h1.ok, h2.ok⟩, by omega, by omega⟩
theorem QRat.pos (x : RatL) (B : Nat) (h : QRat x B) : 1 ≤ B := by obtain ⟨b, c, h1, h2, h3⟩ := h; omega
theorem r_rats (m : Nat) : Reads enc Tryz.prog w m 32 (fun xs : List RatL => [.imm (xs.map encRat)]) (QL QRat) :=
 (zEJ (n := m + 2) (sz := 3) Tryz.underlying32 (by kernel_rfl) (by decide) (fun _ => ⟨rfl, rfl⟩) (r_rat m)).le (by omega)
theorem okL_of {xs : List RatL} {B : Nat} (h : QL QRat xs B) (hB : B ≤ 1048576) : okL xs := by
 refine ⟨by have := QL.len QRat.pos h; omega, fun x hx => ?_⟩;obtain ⟨b, h1, h2⟩ := h.mem x hx;exact zI5 (by omega) h1.ok
def cTerm (x : TermL) : List PV := [.int .i64 x.var, .bool x.coef.neg, encN x.coef.num, encN x.coef.den]
def QTerm (x : TermL) (B : Nat) : Prop := ∃ b, QRat x.coef b ∧ b + 2 ≤ B
theorem r_term (m : Nat) : Reads enc Tryz.prog w m 64 cTerm QTerm := by
 refine ((zDS (n := m + 2) (tot := 4) Tryz.underlying64 (by kernel_rfl) (zBO rfl (k := 1) (by kernel_rfl) (by decide) (zIX Tryz.underlying3)
  (zBO rfl (k := 3) (by kernel_rfl) (by decide) (r_rat m) (zE4 (by decide))))).le (by omega)).to (fun x => (⟨x.1, x.2.1⟩ : TermL)) (fun _ => rfl) ?_
 rintro ⟨a, c, u⟩ B ⟨b0, ⟨b1, b2, h1, ⟨b3, b4, h3, _, h4⟩, h2⟩, h0⟩
 exact ⟨b3, h3, by have := h1.2; omega⟩
theorem QTerm.pos (x : TermL) (B : Nat) (h : QTerm x B) : 1 ≤ B := by obtain ⟨b, h1, h3⟩ := h; omega
theorem r_terms (m : Nat) : Reads enc Tryz.prog w m 23 (fun xs : List TermL => [.imm (xs.map encTerm)]) (QL QTerm) :=
 (zEJ (n := m) (sz := 4) Tryz.underlying23 (by kernel_rfl) (by decide) (fun _ => ⟨rfl, rfl⟩) (r_term m)).le (by omega)
def cAff (x : AffL) : List PV := [.imm (x.terms.map encTerm), .bool x.const.neg, encN x.const.num, encN x.const.den]
def QAff (x : AffL) (B : Nat) : Prop := ∃ b c, QL QTerm x.terms b ∧ QRat x.const c ∧ b + c ≤ B
theorem r_aff (m : Nat) : Reads enc Tryz.prog w m 29 cAff QAff := by
 refine ((zDS (n := m + 2) (tot := 4) Tryz.underlying29 (by kernel_rfl) (zBO rfl (k := 1) (by kernel_rfl) (by decide) (r_terms (m + 2))
  (zBO rfl (k := 3) (by kernel_rfl) (by decide) (r_rat m) (zE4 (by decide))))).le (by omega)).to (fun x => (⟨x.1, x.2.1⟩ : AffL)) (fun _ => rfl) ?_
 rintro ⟨a, c, u⟩ B ⟨b0, ⟨b1, b2, h1, ⟨b3, b4, h3, _, h4⟩, h2⟩, h0⟩
 exact ⟨b1, b3, h1, h3, by omega⟩
theorem QAff.ok {x : AffL} {B : Nat} (h : QAff x B) (hB : B ≤ 1048576) : okA 1048576 x := by
 obtain ⟨b, c, h1, h2, h3⟩ := h;refine ⟨zI5 (by omega) h2.ok, fun t ht => ?_, by have := QL.len QTerm.pos h1; omega⟩;obtain ⟨d, ⟨e, h4, h5⟩, h6⟩ := h1.mem t ht;exact zI5 (by omega) h4.ok
theorem QAff.pos (x : AffL) (B : Nat) (h : QAff x B) : 1 ≤ B := by
 obtain ⟨b, c, _, ⟨d, e, _, _, h4⟩, h3⟩ := h; omega
theorem r_rows (m : Nat) : Reads enc Tryz.prog w m 22 (fun xs : List AffL => [.imm (xs.map encAff)]) (QL QAff) :=
 (zEJ (n := m) (sz := 4) Tryz.underlying22 (by kernel_rfl) (by decide) (fun _ => ⟨rfl, rfl⟩) (r_aff m)).le (by omega)
def cProg (p : ProgL) : List PV := [.int .i64 p.vars, .imm (p.rows.map encAff), .imm (p.obj.terms.map encTerm), .bool p.obj.const.neg, encN p.obj.const.num, encN p.obj.const.den]
def QProg (p : ProgL) (B : Nat) : Prop := ∃ b c, QL QAff p.rows b ∧ QAff p.obj c ∧ b + c ≤ B
theorem r_prog (m : Nat) : Reads enc Tryz.prog w m 31 cProg QProg := by
 refine ((zDS (n := m) (tot := 6) Tryz.underlying31 (by kernel_rfl) (zBO rfl (k := 1) (by kernel_rfl) (by decide) (zIX Tryz.underlying3)
  (zBO rfl (k := 1) (by kernel_rfl) (by decide) (r_rows m) (zBO rfl (k := 4) (by kernel_rfl) (by decide) (r_aff m) (zE4 (by decide)))))).le (by omega)).to (fun x => (⟨x.1, x.2.1, x.2.2.1⟩ : ProgL)) (fun _ => rfl) ?_
 rintro ⟨a, b, c, u⟩ B ⟨b0, ⟨b1, b2, h1, ⟨b3, b4, h3, ⟨b5, b6, h5, _, h6⟩, h4⟩, h2⟩, h0⟩
 exact ⟨b3, b5, h3, h5, by omega⟩
theorem QProg.ok {p : ProgL} {B : Nat} (h : QProg p B) (hB : B ≤ 1048576) : okP 1048576 p := by
 obtain ⟨b, c, h1, h2, h3⟩ := h;refine ⟨h2.ok (by omega), fun f hf => ?_, by have := QL.len QAff.pos h1; omega⟩;obtain ⟨d, h4, h5⟩ := h1.mem f hf;exact h4.ok (by omega)
end
theorem own : ownKnob Tryz.prog.godebug = none := by kernel_rfl
theorem laidOut : laidOutB Tryz.prog = true := by kernel_rfl
theorem gok {W : World} : Gok G0 W (AllB W) := fun g e hg => by simp [G0] at hg
mutual
theorem bulk_eq {H : Type} : ∀ d : DataW H, Rows.uptoBulk d = bulk d
 | .lit l => by cases l <;> rfl
 | .nil => rfl
 | .ptr d => by simp only [Rows.uptoBulk, bulk, bulk_eq d]
 | .slice elems spare => by simp only [Rows.uptoBulk, bulk, zED elems, zED spare]
 | .agg parts => by simp only [Rows.uptoBulk, bulk, zED parts]
 | .iface _ d => by simp only [Rows.uptoBulk, bulk, bulk_eq d]
 | .map entries => by simp only [Rows.uptoBulk, bulk, zFI entries]
 | .held _ => rfl
theorem zED {H : Type} : ∀ d : List (DataW H), Rows.uptoBulkAll d = bulkAll d
 | [] => rfl
 | d :: r => by simp only [Rows.uptoBulkAll, bulkAll, bulk_eq d, zED r]
theorem zFI {H : Type} : ∀ d : List (Lit × DataW H), Rows.uptoBulkEntries d = bulkEntries d
 | [] => rfl
 | x :: r => by simp only [Rows.uptoBulkEntries, bulkEntries, bulkEntry_eq x, zFI r]
theorem bulkEntry_eq {H : Type} : ∀ d : Lit × DataW H, Rows.uptoBulkEntry d = bulkEntry d
 | (l, d) => by cases l <;> simp only [Rows.uptoBulkEntry, bulkEntry, bulk_eq d]
end
end Go.PI.Tryz
