/-
  What is read at the types of linear programs and solutions; the rows' ends.
-/
import Derived.Test.YtigeioodiljlaaaGreatCRC
import Derived.Test.YtigeioodiljlaaaGreatCDB
import Derived.Test.YtigeioodiljlaaaGreatCPD
import Derived.Test.YtigeioodiljlaaaGreatRows
import Derived.Test.YtigeioodiljlaaaGreatCPE
import Derived.WalkKit
import Derived.ProofKit
import Derived.OpenShut
import Derived.JoinedCond
namespace Go.PI.Tryz
set_option linter.unnecessarySimpa false
open Go.Proofs Go.PI
set_option linter.unusedSimpArgs false
set_option linter.unusedVariables false

theorem ok_smrat : FnOk Tryz.prog 62 Tryz.f62 (Tryz.f62.body.getD .skip) [.tmp 2] 17 := ⟨Tryz.func62, rfl, by decide, Tryz.ntmps62, Tryz.results62, by kernel_rfl, by kernel_rfl⟩
theorem c_smrat (x : RatL) (hx : okQ 2097100 x) : Fn 62 [encRat x] (.data (.bool (decide (smR x)))) := by
  have cv := c_rqvalid x hx.1 (by have := hx.2; omega) (by have := hx.2; omega)
  have no : ¬ smR x → false = decide (smR x) := fun h => (decide_eq_false h).symm
  refine fnC_v hmix hT ok_smrat (by simp) ?_
  (repeat' (first|refine stp ?_|(with_reducible refine brr ?_ ?_<;>intro h)|(with_reducible refine nilImm_map ?_ ?_<;>intro h)|with_reducible refine anyb_of ?_ ?_)); all_goals try (conv=>whnf)
  · refine callV_data cv rfl ?_
    (repeat' (first|refine stp ?_|(with_reducible refine brr ?_ ?_<;>intro h)|(with_reducible refine nilImm_map ?_ ?_<;>intro h)|with_reducible refine anyb_of ?_ ?_)); all_goals try (conv=>whnf)
    refine givesV_to rfl (congrArg PV.bool ?_)
    exact decide_eq_decide.2 ⟨fun e => ⟨by omega, by omega, e⟩, fun e => e.2.2⟩
  · exact givesV_to rfl (congrArg PV.bool (no fun e => by have := e.2.1; omega))
  · exact givesV_to rfl (congrArg PV.bool (no fun e => by have := e.1; omega))

theorem ok_smform : FnOk Tryz.prog 75 Tryz.f75 (Tryz.f75.body.getD .skip) [.tmp 2] 34 := ⟨Tryz.func75, rfl, by decide, Tryz.ntmps75, Tryz.results75, by kernel_rfl, by kernel_rfl⟩
theorem c_smform (f : AffL) (hf : okA 2097100 f) : Fn 75 [encAff f] (.data (.bool (dB (smF f)))) := by
  have c1 := c_smrat f.const hf.1
  have c2 := c_rlvalid f 1048576 hf
  have no : ¬ smF f → false = dB (smF f) := dB_no
  refine fnC_v hmix hT ok_smform (by simp [encAff]) ?_
  (repeat' (first|refine stp ?_|(with_reducible refine brr ?_ ?_<;>intro h)|(with_reducible refine nilImm_map ?_ ?_<;>intro h)|with_reducible refine anyb_of ?_ ?_)); all_goals try (conv=>whnf)
  · exact givesV_to rfl (congrArg PV.bool (no fun e => by have := e.1; omega))
  · refine callV_data c1 rfl ?_
    (repeat' (first|refine stp ?_|(with_reducible refine brr ?_ ?_<;>intro h)|(with_reducible refine nilImm_map ?_ ?_<;>intro h)|with_reducible refine anyb_of ?_ ?_)); all_goals try (conv=>whnf)
    · refine callV_data c2 rfl ?_
      (repeat' (first|refine stp ?_|(with_reducible refine brr ?_ ?_<;>intro h)|(with_reducible refine nilImm_map ?_ ?_<;>intro h)|with_reducible refine anyb_of ?_ ?_)); all_goals try (conv=>whnf)
      · have hv : ValidF f 1048576 := validB_true.1 (by assumption)
        have hs : smR f.const := by assumption
        have hl : f.terms.length ≤ 8 := by omega
        refine loopV_kept hT (fun (i : Nat) => [(1, .ptr 0 0 0), (3, .int .i64 i)]) (fun _ => [(0, ⟨[encAff f], 4, true⟩)]) [] 1
          (fun i => i ≤ f.terms.length ∧ ∀ j, j < i → smR f.terms[j]!.coef) (fun i => f.terms.length - i) 0 ⟨Nat.zero_le _, fun j h => (by omega)⟩ (by decide) (by simp) ?_ ?_
        · exact ⟨[0], [], [], [], ⟨trivial, trivial, trivial⟩, ⟨at_ptr (by decide) rfl, at_int rfl rfl, trivial⟩, ⟨blk_box (by decide) rfl rfl rfl rfl rfl, trivial⟩, by simp [ren]⟩
        intro i ⟨i1, i2⟩
        by_cases hi : i < f.terms.length
        · have cr' := c_smrat f.terms[i]!.coef (okA_get hf hi)
          (repeat' (first|refine stp ?_|(with_reducible refine brr ?_ ?_<;>intro h)|(with_reducible refine nilImm_map ?_ ?_<;>intro h)|with_reducible refine anyb_of ?_ ?_)); all_goals try (conv=>whnf)
          · refine callV_data cr' rfl ?_
            (repeat' (first|refine stp ?_|(with_reducible refine brr ?_ ?_<;>intro h)|(with_reducible refine nilImm_map ?_ ?_<;>intro h)|with_reducible refine anyb_of ?_ ?_)); all_goals try (conv=>whnf)
            · refine ⟨i + 1, ⟨⟨by omega, fun j hj => ?_⟩, by show f.terms.length - (i + 1) < f.terms.length - i; omega⟩, [0], [], [], [], ⟨trivial, trivial, trivial⟩, ⟨at_ptr (by decide) rfl, at_int rfl (by omega), trivial⟩, ⟨blk_box (by decide) rfl rfl rfl rfl rfl, trivial⟩, by simp [ren]⟩
              rcases Nat.lt_or_eq_of_le (Nat.le_of_lt_succ hj) with hj | rfl
              · exact i2 j hj
              · assumption
            · exact givesV_to rfl (congrArg PV.bool (no fun e => h (e.2.2.2 i hi)))
          all_goals (exfalso; omega)
        · (repeat' (first|refine stp ?_|(with_reducible refine brr ?_ ?_<;>intro h)|(with_reducible refine nilImm_map ?_ ?_<;>intro h)|with_reducible refine anyb_of ?_ ?_)); all_goals try (conv=>whnf)
          all_goals try (exfalso; omega)
          exact givesV_to rfl (congrArg PV.bool (dB_yes ⟨hl, hs, hv, fun j hj => i2 j (by omega)⟩))
      · exact givesV_to rfl (congrArg PV.bool (no fun e => by have := validB_true.2 e.2.2.1; rw [h] at this; cases this))
    · exact givesV_to rfl (congrArg PV.bool (no fun e => h e.2.1))

theorem ok_smforms : FnOk Tryz.prog 74 Tryz.f74 (Tryz.f74.body.getD .skip) [.tmp 4] 22 := ⟨Tryz.func74, rfl, by decide, Tryz.ntmps74, Tryz.results74, by kernel_rfl, by kernel_rfl⟩
theorem c_smforms (l : List AffL) (m : Int) (hl : ∀ i, i < l.length → okA 2097100 l[i]!) (hll : l.length ≤ 1048576) : Fn 74 [.imm (l.map encAff), .int .i64 m] (.data (.bool (dB (smFs l m)))) := by
  have no : ¬ smFs l m → false = dB (smFs l m) := dB_no
  refine fnC_v hmix hT ok_smforms (by simp) ?_
  (repeat' (first|refine stp ?_|(with_reducible refine brr ?_ ?_<;>intro h)|(with_reducible refine nilImm_map ?_ ?_<;>intro h)|with_reducible refine anyb_of ?_ ?_)); all_goals try (conv=>whnf)
  · exact givesV_to rfl (congrArg PV.bool (no fun e => by have := e.1; omega))
  have hm : (l.length : Int) ≤ m := by omega
  refine loopV_kept hT (fun (i : Nat) => [(0, .imm (l.map encAff)), (5, .int .i64 i)]) (fun _ => []) [] 1
    (fun i => i ≤ l.length ∧ ∀ j, j < i → smF l[j]!) (fun i => l.length - i) 0 ⟨Nat.zero_le _, fun j h => (by omega)⟩ (by decide) (by simp) ?_ ?_
  · exact ⟨[0], [], [], [], ⟨trivial, trivial, trivial⟩, ⟨at_imm rfl rfl, at_int rfl rfl, trivial⟩, trivial, by simp [ren]⟩
  intro i ⟨i1, i2⟩
  by_cases hi : i < l.length
  · have cr' := c_smform l[i]! (hl i hi)
    (repeat' (first|refine stp ?_|(with_reducible refine brr ?_ ?_<;>intro h)|(with_reducible refine nilImm_map ?_ ?_<;>intro h)|with_reducible refine anyb_of ?_ ?_)); all_goals try (conv=>whnf)
    · refine callV_data cr' rfl ?_
      (repeat' (first|refine stp ?_|(with_reducible refine brr ?_ ?_<;>intro h)|(with_reducible refine nilImm_map ?_ ?_<;>intro h)|with_reducible refine anyb_of ?_ ?_)); all_goals try (conv=>whnf)
      · refine ⟨i + 1, ⟨⟨by omega, fun j hj => ?_⟩, by show l.length - (i + 1) < l.length - i; omega⟩, [0], [], [], [], ⟨trivial, trivial, trivial⟩, ⟨at_imm rfl rfl, at_int rfl (by omega), trivial⟩, trivial, by simp [ren]⟩
        rcases Nat.lt_or_eq_of_le (Nat.le_of_lt_succ hj) with hj | rfl
        · exact i2 j hj
        · exact dB_true.1 (by assumption)
      · exact givesV_to rfl (congrArg PV.bool (no fun e => by have := dB_true.2 (e.2 i hi); rw [h] at this; cases this))
    all_goals (exfalso; omega)
  · (repeat' (first|refine stp ?_|(with_reducible refine brr ?_ ?_<;>intro h)|(with_reducible refine nilImm_map ?_ ?_<;>intro h)|with_reducible refine anyb_of ?_ ?_)); all_goals try (conv=>whnf)
    all_goals try (exfalso; omega)
    exact givesV_to rfl (congrArg PV.bool (dB_yes ⟨hm, fun j hj => i2 j (by omega)⟩))

theorem ok_rsmall : FnOk Tryz.prog 36 Tryz.f36 (Tryz.f36.body.getD .skip) [.tmp 2] 20 := ⟨Tryz.func36, rfl, by decide, Tryz.ntmps36, Tryz.results36, by kernel_rfl, by kernel_rfl⟩
theorem c_rsmall (p : ProgL) (hp : okP 2097100 p) : Fn 36 [encProg p] (.data (.bool (dB (smallP p)))) := by
  have c1 := c_smforms p.rows 8 (fun i hi => okP_get hp hi) hp.2.2
  have c2 := c_smform p.obj hp.1
  have c3 := c_rpvalid p hp
  have no : ¬ smallP p → false = dB (smallP p) := dB_no
  refine fnC_v hmix hT ok_rsmall (by simp [encProg]) ?_
  (repeat' (first|refine stp ?_|(with_reducible refine brr ?_ ?_<;>intro h)|(with_reducible refine nilImm_map ?_ ?_<;>intro h)|with_reducible refine anyb_of ?_ ?_)); all_goals try (conv=>whnf)
  · refine callV_data c1 rfl ?_
    (repeat' (first|refine stp ?_|(with_reducible refine brr ?_ ?_<;>intro h)|(with_reducible refine nilImm_map ?_ ?_<;>intro h)|with_reducible refine anyb_of ?_ ?_)); all_goals try (conv=>whnf)
    · refine callV_data c2 rfl ?_
      (repeat' (first|refine stp ?_|(with_reducible refine brr ?_ ?_<;>intro h)|(with_reducible refine nilImm_map ?_ ?_<;>intro h)|with_reducible refine anyb_of ?_ ?_)); all_goals try (conv=>whnf)
      · refine callV_data c3 rfl ?_
        (repeat' (first|refine stp ?_|(with_reducible refine brr ?_ ?_<;>intro h)|(with_reducible refine nilImm_map ?_ ?_<;>intro h)|with_reducible refine anyb_of ?_ ?_)); all_goals try (conv=>whnf)
        refine givesV_to rfl (congrArg PV.bool ?_)
        have h1 : smFs p.rows 8 := dB_true.1 (by assumption)
        have h2 : smF p.obj := dB_true.1 (by assumption)
        have h0 : p.vars ≤ 4 := by omega
        rw [Bool.eq_iff_iff, validPB_true, dB_true]
        exact ⟨fun e => ⟨h0, h1, h2, e⟩, fun e => e.2.2.2⟩
      · exact givesV_to rfl (congrArg PV.bool (no fun e => by have := dB_true.2 e.2.2.1; rw [h] at this; cases this))
    · exact givesV_to rfl (congrArg PV.bool (no fun e => by have := dB_true.2 e.2.1; rw [h] at this; cases this))
  · exact givesV_to rfl (congrArg PV.bool (no fun e => by have := e.1; omega))

theorem ok_rform : FnOk Tryz.prog 71 Tryz.f71 (Tryz.f71.body.getD .skip) [.cell 4 29] 14 := ⟨Tryz.func71, rfl, by decide, Tryz.ntmps71, Tryz.results71, by kernel_rfl, by kernel_rfl⟩
theorem c_rform (ts : List QT) (c : Rat) (hf : ∀ p ∈ ts, sz 2 p.2) (hv : ∀ p ∈ ts, 0 ≤ p.1) (hc : sz 2 c) (hl : ts.length ≤ 10) : Fn 71 [.imm (ts.map encQ), encRat (cr c)] (.data (encF ⟨addL [] ts, c⟩)) := by
  have cm := c_rmake ts c 2 2 hf hv hc (by omega) (by omega)
  refine fnC_v hmix hT ok_rform (by simp) ?_
  (repeat' (first|refine stp ?_|(with_reducible refine brr ?_ ?_<;>intro h)|(with_reducible refine nilImm_map ?_ ?_<;>intro h)|with_reducible refine anyb_of ?_ ?_)); all_goals try (conv=>whnf)
  refine callV_data cm rfl ?_
  (repeat' (first|refine stp ?_|(with_reducible refine brr ?_ ?_<;>intro h)|(with_reducible refine nilImm_map ?_ ?_<;>intro h)|with_reducible refine anyb_of ?_ ?_)); all_goals try (conv=>whnf)
  exact givesV_to rfl rfl

theorem ok_sameform : FnOk Tryz.prog 16 Tryz.f16 (Tryz.f16.body.getD .skip) [.tmp 4] 57 := ⟨Tryz.func16, rfl, by decide, Tryz.ntmps16, Tryz.results16, by kernel_rfl, by kernel_rfl⟩
theorem c_sameform (f : QF) (k : Nat) (hf : szF k f) (hk : k ≤ 400000) (hl : f.ts.length ≤ 1048576) : Fn 16 [encF f, encF f] (.data (.bool true)) := by
  have l0 := cr_len hf.1
  have c0 := c_rqcmp (cr f.c) (cr f.c) (okR_cr _) (okR_cr _) (by omega) (by omega) (by omega) (by omega)
  have self : ∀ q : Rat, sgnQ (qv (cr q) - qv (cr q)) = 0 := fun q => by rw [sgnQ_zero]; grind
  rw [self] at c0
  refine fnC_v hmix hT ok_sameform (by simp) ?_
  (repeat' (first|refine stp ?_|(with_reducible refine brr ?_ ?_<;>intro h)|(with_reducible refine nilImm_map ?_ ?_<;>intro h)|with_reducible refine anyb_of ?_ ?_)); all_goals try (conv=>whnf)
  · exact absurd rfl h
  refine callV_data c0 rfl ?_
  (repeat' (first|refine stp ?_|(with_reducible refine brr ?_ ?_<;>intro h)|(with_reducible refine nilImm_map ?_ ?_<;>intro h)|with_reducible refine anyb_of ?_ ?_)); all_goals try (conv=>whnf)
  refine loopV_kept hT (fun (i : Nat) => [(2, .ptr 0 0 0), (3, .ptr 1 0 0), (5, .int .i64 i)]) (fun _ => [(0, ⟨[encF f], 4, true⟩), (1, ⟨[encF f], 4, true⟩)]) [] 2
    (fun i => i ≤ f.ts.length) (fun i => f.ts.length - i) 0 (Nat.zero_le _) (by decide) (by simp) ?_ ?_
  · exact ⟨[_, _], [], [], [], ⟨trivial, trivial, trivial⟩, ⟨at_ptr (by decide) rfl, at_ptr (by decide) rfl, at_int rfl rfl, trivial⟩, ⟨blk_box (by decide) rfl rfl rfl rfl rfl, blk_box (by decide) rfl rfl rfl rfl rfl, trivial⟩, by simp [ren]⟩
  intro i i1
  by_cases hi : i < f.ts.length
  · have hp := hf.2 f.ts[i]! (by rw [getElem!_pos f.ts i hi]; exact List.getElem_mem hi)
    have l1 := cr_len hp
    have c1 := c_rqcmp (cr f.ts[i]!.2) (cr f.ts[i]!.2) (okR_cr _) (okR_cr _) (by omega) (by omega) (by omega) (by omega)
    rw [self] at c1
    (repeat' (first|refine stp ?_|(with_reducible refine brr ?_ ?_<;>intro h)|(with_reducible refine nilImm_map ?_ ?_<;>intro h)|with_reducible refine anyb_of ?_ ?_)); all_goals try (conv=>whnf)
    · exact absurd rfl h
    · refine callV_data c1 rfl ?_
      (repeat' (first|refine stp ?_|(with_reducible refine brr ?_ ?_<;>intro h)|(with_reducible refine nilImm_map ?_ ?_<;>intro h)|with_reducible refine anyb_of ?_ ?_)); all_goals try (conv=>whnf)
      exact ⟨i + 1, ⟨by omega, by show f.ts.length - (i + 1) < f.ts.length - i; omega⟩, [0, 1], [], [], [], ⟨trivial, trivial, trivial⟩, ⟨at_ptr (by decide) rfl, at_ptr (by decide) rfl, at_int rfl (by omega), trivial⟩, ⟨blk_box (by decide) rfl rfl rfl rfl rfl, blk_box (by decide) rfl rfl rfl rfl rfl, trivial⟩, by simp [ren]⟩
    all_goals (exfalso; omega)
  · (repeat' (first|refine stp ?_|(with_reducible refine brr ?_ ?_<;>intro h)|(with_reducible refine nilImm_map ?_ ?_<;>intro h)|with_reducible refine anyb_of ?_ ?_)); all_goals try (conv=>whnf)
    all_goals try (exfalso; omega)
    exact givesV_to rfl rfl
end Go.PI.Tryz
namespace Go.PI.Tryz
set_option linter.unnecessarySimpa false
open Go.Proofs Go.PI
set_option linter.unusedSimpArgs false
set_option linter.unusedVariables false

theorem rpvalid_yes {P : QP} (h : smP P) : Fn 29 [encP P] (.data (.bool true)) := by
  have := c_rpvalid P.L (okP_L h)
  rw [encP_eq]
  rwa [validPB_true.2 (validP_of h.1)] at this
theorem cmbP_eq {P : QP} (hP : smP P) (ys : List RatL) : cmb opP P.rows ys zeroQ = cmb mergeQ P.rows ys zeroQ :=
  cmb_eq (fun s f y h1 h2 => opP_eq h1 h2 y) _ _ _ srt_nil (fun f hf => (hP.1.2.2.2 f hf).1)
theorem cmbV_srt {P : QP} (hP : smP P) (ys : List RatL) : Srt (cmbV P ys).1.ts := by
  unfold cmbV
  split
  · rw [cmbP_eq hP]; exact cmb_srt _ _ _ srt_nil (fun f hf => (hP.1.2.2.2 f hf).1)
  · exact srt_nil
/-- What the reference's Combination hands back. -/
def cmbN (P : QP) (ys : List RatL) : QF × Bool := if ys.length = P.rows.length then cmb mergeQ P.rows ys zeroQ else (zeroQ, false)
theorem cmbN_V {P : QP} (hP : smP P) (ys : List RatL) : (cmbN P ys).2 = (cmbV P ys).2 ∧ ((cmbN P ys).2 = true → (cmbN P ys).1 = (cmbV P ys).1) := by
  unfold cmbN cmbV
  rw [cmbP_eq hP]
  by_cases h : ys.length = P.rows.length
  · rw [if_pos h]
    by_cases h2 : (cmb mergeQ P.rows ys zeroQ).2 = true
    · rw [if_pos ⟨h, h2⟩, h2]; exact ⟨rfl, fun _ => rfl⟩
    · rw [if_neg (fun e => h2 e.2)]
      simp only [Bool.not_eq_true] at h2
      rw [h2]; exact ⟨rfl, fun e => by cases e⟩
  · rw [if_neg h, if_neg (fun e => h e.1)]; exact ⟨rfl, fun e => by cases e⟩

theorem ok_rcombn : FnOk Tryz.prog 42 Tryz.f42 (Tryz.f42.body.getD .skip) [.cell 4 29, .tmp 5] 49 := ⟨Tryz.func42, rfl, by decide, Tryz.ntmps42, Tryz.results42, by kernel_rfl, by kernel_rfl⟩
theorem c_rcombn (P : QP) (ys : List RatL) (hP : smP P) (hy : ∀ y ∈ ys, okQ 4 y) (hyl : ys.length ≤ 1048576) : Fn 42 [encP P, .imm (ys.map encRat)] (.data (.tup [encF (cmbN P ys).1, .bool (cmbN P ys).2])) := by
  have hl := hP.2.1
  refine fnC_v hmix hT ok_rcombn (by simp [encP]) ?_
  (repeat' (first|refine stp ?_|(with_reducible refine brr ?_ ?_<;>intro h)|(with_reducible refine nilImm_map ?_ ?_<;>intro h)|with_reducible refine anyb_of ?_ ?_)); all_goals try (conv=>whnf)
  · rw [cmbN, if_neg (fun e => h (by rw [e])), encF_zero]
    exact givesV_to rfl rfl
  have hle : ys.length = P.rows.length := by omega
  obtain ⟨R, hR⟩ : ∃ R, cmb mergeQ P.rows ys zeroQ = R := ⟨_, rfl⟩
  rw [cmbN, if_pos hle, hR]
  refine loopV_kept hT (fun ((i, s) : Nat × QF) => [(1, .imm (ys.map encRat)), (2, .ptr 0 0 0), (4, .ptr 1 0 0), (6, .ptr 2 0 0), (7, .int .i64 i)])
    (fun (i, s) => [(0, ⟨[encP P], 6, true⟩), (1, ⟨[zeroF], 4, true⟩), (2, ⟨[encF s], 4, true⟩)]) [] 3
    (fun (i, s) => i ≤ ys.length ∧ cmb mergeQ (P.rows.drop i) (ys.drop i) s = R ∧ szF (12 * i + 1) s ∧ s.ts.length ≤ 8 * i ∧ Srt s.ts) (fun (i, _) => ys.length - i) (0, zeroQ) ⟨Nat.zero_le _, hR, szF_zero 1 (by decide), Nat.le_refl _, srt_nil⟩ (by decide) (by simp) ?_ ?_
  · exact ⟨[0, 1, 3], [], [], [(3, [.agg [.imm [], .bool false, .imm [], .imm []]])], ⟨trivial, trivial, ⟨⟨_, 4, _, rfl, rfl, rfl⟩, trivial⟩⟩,
      ⟨at_imm rfl rfl, at_ptr (by decide) rfl, at_ptr (by decide) rfl, at_ptr (by decide) rfl, at_int rfl rfl, trivial⟩,
      ⟨blk_box (by decide) rfl rfl rfl rfl rfl, blk_box (by decide) rfl rfl rfl rfl rfl, blk_box (by decide) rfl encF_zero.symm rfl rfl rfl, trivial⟩, by simp [ren]⟩
  intro ⟨i, s⟩ ⟨i1, i2, i3, i4, i5⟩
  by_cases hi : i < ys.length
  · have hi' : i < P.rows.length := by omega
    obtain ⟨⟨h1, h2⟩, h3⟩ := smP_row hP hi'
    have hyi := hy ys[i]! (by rw [getElem!_pos ys i hi]; exact List.getElem_mem hi)
    have cq := c_rqvalid ys[i]! hyi.1 (by have := hyi.2; omega) (by have := hyi.2; omega)
    have cs := c_rqsign ys[i]! hyi.1 (by have := hyi.2; omega)
    have hsz := sz_qv hyi.1 hyi.2.1 hyi.2.2 (by decide)
    have hit := posQ_iff (y := ys[i]!)
    rw [cmb_drop hi' hi] at i2
    have hzs := scaleR_sz h1 hsz
    have hzl := sclL_len (c := qv ys[i]!) (l := P.rows[i]!.ts)
    have cc1 := c_rscale P.rows[i]! (qv ys[i]!) 2 4 h1 hsz (by decide) (by omega)
    have hmul : ((scaleR P.rows[i]! (qv ys[i]!)).ts.length + 1) * (2 + 4 + 1) ≤ 9 * 7 := Nat.mul_le_mul (by show (sclL _ _).length + 1 ≤ _; omega) (by decide)
    have cc2 := c_radd s (scaleR P.rows[i]! (qv ys[i]!)) (12 * i + 1) (2 + 4) i3 hzs (by omega) (by show _ + (sclL _ _).length ≤ _; omega)
    rw [add_scale i5 h3.1] at cc2
    have hln : (mergeQ s P.rows[i]! (qv ys[i]!)).ts.length ≤ s.ts.length + P.rows[i]!.ts.length := mergeQ_len
    (repeat' (first|refine stp ?_|(with_reducible refine brr ?_ ?_<;>intro h)|(with_reducible refine nilImm_map ?_ ?_<;>intro h)|with_reducible refine anyb_of ?_ ?_)); all_goals try (conv=>whnf)
    · refine callV_data cq rfl ?_
      (repeat' (first|refine stp ?_|(with_reducible refine brr ?_ ?_<;>intro h)|(with_reducible refine nilImm_map ?_ ?_<;>intro h)|with_reducible refine anyb_of ?_ ?_)); all_goals try (conv=>whnf)
      · have hc : ys[i]! = cr (qv ys[i]!) := by assumption
        refine callV_data cs rfl ?_
        (repeat' (first|refine stp ?_|(with_reducible refine brr ?_ ?_<;>intro h)|(with_reducible refine nilImm_map ?_ ?_<;>intro h)|with_reducible refine anyb_of ?_ ?_)); all_goals try (conv=>whnf)
        · rw [if_neg (fun e => (hit hc).1 e h)] at i2
          subst i2
          exact givesV_to rfl rfl
        · rw [if_pos ((hit hc).2 h)] at i2
          rw [← hc] at cc1
          refine callV_data cc1 rfl ?_
          (repeat' (first|refine stp ?_|(with_reducible refine brr ?_ ?_<;>intro h)|(with_reducible refine nilImm_map ?_ ?_<;>intro h)|with_reducible refine anyb_of ?_ ?_)); all_goals try (conv=>whnf)
          refine callV_data cc2 rfl ?_
          (repeat' (first|refine stp ?_|(with_reducible refine brr ?_ ?_<;>intro h)|(with_reducible refine nilImm_map ?_ ?_<;>intro h)|with_reducible refine anyb_of ?_ ?_)); all_goals try (conv=>whnf)
          exact ⟨(i + 1, mergeQ s P.rows[i]! (qv ys[i]!)), ⟨⟨by omega, i2, mergeQ_sz i3 h1 hsz (by omega), by omega, mergeQ_srt i5 h3.1⟩, by show ys.length - (i + 1) < ys.length - i; omega⟩, [0, 1, 2], [], [], [], ⟨trivial, trivial, trivial⟩,
            ⟨at_imm rfl rfl, at_ptr (by decide) rfl, at_ptr (by decide) rfl, at_ptr (by decide) rfl, at_int rfl (by omega), trivial⟩,
            ⟨blk_box (by decide) rfl rfl rfl rfl rfl, blk_box (by decide) rfl rfl rfl rfl rfl, blk_box (by decide) rfl rfl rfl rfl rfl, trivial⟩, by simp [ren]⟩
      · rw [if_neg (fun e => h e.1)] at i2
        subst i2
        exact givesV_to rfl rfl
    all_goals (exfalso; omega)
  · rw [cmb_end (by omega)] at i2
    subst i2
    (repeat' (first|refine stp ?_|(with_reducible refine brr ?_ ?_<;>intro h)|(with_reducible refine nilImm_map ?_ ?_<;>intro h)|with_reducible refine anyb_of ?_ ?_)); all_goals try (conv=>whnf)
    all_goals try (exfalso; omega)
    exact givesV_to rfl rfl

theorem ok_rcomb : FnOk Tryz.prog 13 Tryz.f13 (Tryz.f13.body.getD .skip) [.cell 4 29, .tmp 5] 22 := ⟨Tryz.func13, rfl, by decide, Tryz.ntmps13, Tryz.results13, by kernel_rfl, by kernel_rfl⟩
theorem c_rcomb (P : QP) (ys : List RatL) (hP : smP P) (hy : ∀ y ∈ ys, okQ 4 y) (hyl : ys.length ≤ 1048576) : Fn 13 [encP P, .imm (ys.map encRat)] (.data (.tup [encF (cmbV P ys).1, .bool (cmbV P ys).2])) := by
  have cv := rpvalid_yes hP
  have cc := c_rcombn P ys hP hy hyl
  obtain ⟨e1, e2⟩ := cmbN_V hP ys
  have hz : (cmbV P ys).2 = false → (cmbV P ys).1 = zeroQ := fun h => by unfold cmbV at *; split at h; cases h; rename_i q; rw [if_neg q]
  refine fnC_v hmix hT ok_rcomb (by simp [encP]) ?_
  (repeat' (first|refine stp ?_|(with_reducible refine brr ?_ ?_<;>intro h)|(with_reducible refine nilImm_map ?_ ?_<;>intro h)|with_reducible refine anyb_of ?_ ?_)); all_goals try (conv=>whnf)
  refine callV_data cv rfl ?_
  (repeat' (first|refine stp ?_|(with_reducible refine brr ?_ ?_<;>intro h)|(with_reducible refine nilImm_map ?_ ?_<;>intro h)|with_reducible refine anyb_of ?_ ?_)); all_goals try (conv=>whnf)
  refine callV_data cc rfl ?_
  (repeat' (first|refine stp ?_|(with_reducible refine brr ?_ ?_<;>intro h)|(with_reducible refine nilImm_map ?_ ?_<;>intro h)|with_reducible refine anyb_of ?_ ?_)); all_goals try (conv=>whnf)
  · rw [← e2 h, ← e1, h]
    exact givesV_to rfl rfl
  · rw [hz (by rw [← e1]; exact h), ← e1, h, encF_zero]
    exact givesV_to rfl rfl

theorem ok_rbound : FnOk Tryz.prog 15 Tryz.f15 (Tryz.f15.body.getD .skip) [.cell 4 27, .tmp 5] 30 := ⟨Tryz.func15, rfl, by decide, Tryz.ntmps15, Tryz.results15, by kernel_rfl, by kernel_rfl⟩
theorem c_rbound (P : QP) (ys : List RatL) (hP : smP P) (hy : ∀ y ∈ ys, okQ 4 y) (hyl : ys.length ≤ 1048576) : Fn 15 [encP P, .imm (ys.map encRat)] (.data (.tup [encRat (cr (bndV P ys).1), .bool (bndV P ys).2])) := by
  have cc := c_rcomb P ys hP hy hyl
  obtain ⟨z1, z2⟩ := cmbV_sz hP hy
  have hsr := cmbV_srt hP ys
  unfold bndV
  obtain ⟨⟨F, ok⟩, hF⟩ : ∃ r, cmbV P ys = r := ⟨_, rfl⟩
  rw [hF] at cc z1 z2 hsr
  simp only [hF]
  dsimp only at cc z1 z2 hsr
  have hol := hP.2.2.2.2
  have hmul : (F.ts.length + 1) * (100 + 2) ≤ 65 * 102 := Nat.mul_le_mul (by omega) (by decide)
  have cs := c_rsub P.obj F 2 100 hP.2.2.2.1 z1 (by omega) (by omega)
  rw [add_scale hP.1.2.2.1.1 hsr] at cs
  generalize mergeQ P.obj F (-1) = D at *
  refine fnC_v hmix hT ok_rbound (by simp [encP]) ?_
  (repeat' (first|refine stp ?_|(with_reducible refine brr ?_ ?_<;>intro h)|(with_reducible refine nilImm_map ?_ ?_<;>intro h)|with_reducible refine anyb_of ?_ ?_)); all_goals try (conv=>whnf)
  refine callV_data cc rfl ?_
  (repeat' (first|refine stp ?_|(with_reducible refine brr ?_ ?_<;>intro h)|(with_reducible refine nilImm_map ?_ ?_<;>intro h)|with_reducible refine anyb_of ?_ ?_)); all_goals try (conv=>whnf)
  refine callV_data cs rfl ?_
  (repeat' (first|refine stp ?_|(with_reducible refine brr ?_ ?_<;>intro h)|(with_reducible refine nilImm_map ?_ ?_<;>intro h)|with_reducible refine anyb_of ?_ ?_)); all_goals try (conv=>whnf)
  · rw [if_neg (fun e => by rw [e.2] at h; simp at h)]
    rw [show cr ((0 : Rat), false).1 = ⟨false, [], []⟩ from cr_zero]
    exact givesV_to rfl rfl
  · have ho : ok = true := by assumption
    rw [if_pos ⟨ho, List.length_eq_zero_iff.1 (by omega)⟩]
    exact givesV_to rfl rfl
  · rw [if_neg (fun e => by rw [h] at e; cases e.1)]
    rw [show cr ((0 : Rat), false).1 = ⟨false, [], []⟩ from cr_zero]
    exact givesV_to rfl rfl
end Go.PI.Tryz
namespace Go.PI.Tryz
set_option linter.unnecessarySimpa false
open Go.Proofs Go.PI
set_option linter.unusedSimpArgs false
set_option linter.unusedVariables false

theorem cmb_C {P : QP} (ys : List RatL) : cmbV P ys = cmbC P ys := by unfold cmbV cmbC; rw [op_F]
theorem bnd_C {P : QP} (ys : List RatL) : bndV P ys = bndC P ys := by unfold bndV bndC; rw [cmb_C, merge_F]

theorem ok_wform : FnOk Tryz.prog 33 Tryz.f33 (Tryz.f33.body.getD .skip) [.cell 6 29] 17 := ⟨Tryz.func33, rfl, by decide, Tryz.ntmps33, Tryz.results33, by kernel_rfl, by kernel_rfl⟩
theorem c_wform (c0 c1 c : Int) (h0 : c0.natAbs < 4294967296) (h1 : c1.natAbs < 4294967296) (h : c.natAbs < 4294967296) : Fn 33 [.int .i64 c0, .int .i64 c1, .int .i64 c] (.data (encF (formQ c0 c1 c))) := by
  obtain ⟨a1, a2, a3⟩ := aw_form c0 c1 c h0 h1 h
  have cf := c_rform [((0 : Int), (c0 : Rat)), (1, (c1 : Rat))] (c : Rat) a1 a2 a3 (by simp)
  refine fnC_v hmix hT ok_wform (by simp) ?_
  (repeat' (first|refine stp ?_|(with_reducible refine brr ?_ ?_<;>intro h)|(with_reducible refine nilImm_map ?_ ?_<;>intro h)|with_reducible refine anyb_of ?_ ?_)); all_goals try (conv=>whnf)
  refine callV_data (c_rqof c0 (by omega)) rfl ?_
  (repeat' (first|refine stp ?_|(with_reducible refine brr ?_ ?_<;>intro h)|(with_reducible refine nilImm_map ?_ ?_<;>intro h)|with_reducible refine anyb_of ?_ ?_)); all_goals try (conv=>whnf)
  refine callV_data (c_rqof c1 (by omega)) rfl ?_
  (repeat' (first|refine stp ?_|(with_reducible refine brr ?_ ?_<;>intro h)|(with_reducible refine nilImm_map ?_ ?_<;>intro h)|with_reducible refine anyb_of ?_ ?_)); all_goals try (conv=>whnf)
  refine callV_data (c_rqof c (by omega)) rfl ?_
  (repeat' (first|refine stp ?_|(with_reducible refine brr ?_ ?_<;>intro h)|(with_reducible refine nilImm_map ?_ ?_<;>intro h)|with_reducible refine anyb_of ?_ ?_)); all_goals try (conv=>whnf)
  refine callV_data cf rfl ?_
  (repeat' (first|refine stp ?_|(with_reducible refine brr ?_ ?_<;>intro h)|(with_reducible refine nilImm_map ?_ ?_<;>intro h)|with_reducible refine anyb_of ?_ ?_)); all_goals try (conv=>whnf)
  exact givesV_to rfl rfl

theorem ok_awake : FnOk Tryz.prog 10 Tryz.f10 (Tryz.f10.body.getD .skip) [.tmp 0] 90 := ⟨Tryz.func10, rfl, by decide, Tryz.ntmps10, Tryz.results10, by kernel_rfl, by kernel_rfl⟩
theorem c_awake : Fn 10 [] (.data (.bool true)) := by
  have f1 := c_wform 1 1 0 (by decide) (by decide) (by decide)
  have f2 := c_wform 1 2 (-4) (by decide) (by decide) (by decide)
  have f3 := c_wform 1 0 0 (by decide) (by decide) (by decide)
  have f4 := c_wform 0 1 0 (by decide) (by decide) (by decide)
  have fr := c_rqfrac 1 2 (by decide) (by decide)
  have o2 := c_rqof 2 (by decide)
  have o1 := c_rqof 1 (by decide)
  have hD : ∀ y ∈ D0, okQ 4 y := aw_sol.2.2.1
  have hX : ∀ y ∈ X0, okQ 4 y := aw_sol.2.1
  have b0 := c_dbound P0 D0 aw_sm hD (by decide)
  rw [bnd_C, aw_bnd] at b0
  have b1 := c_dbound P0 D1 aw_sm aw_D1 (by decide)
  rw [bnd_C, aw_bnd1] at b1
  have hbl := cr_len (bndV_sz aw_sm aw_D1)
  have cq := c_rqcmp (cr ((2 : Int) : Rat)) (cr ((2 : Int) : Rat)) (okR_cr _) (okR_cr _) (by decide +kernel) (by decide +kernel) (by decide +kernel) (by decide +kernel)
  rw [show sgnQ (qv (cr ((2 : Int) : Rat)) - qv (cr ((2 : Int) : Rat))) = 0 by rw [sgnQ_zero]; grind] at cq
  have hopt : optP P0 S0 := ⟨aw_feas, aw_can, rfl, by rw [bnd_C, show S0.dual = D0 from rfl, aw_bnd], aw_val, by rw [bnd_C, show S0.dual = D0 from rfl, aw_bnd]; exact aw_v2⟩
  have k1 := c_dcheck P0 S0 aw_sm aw_sol
  rw [show decide (chkP P0 S0) = true from decide_eq_true (Or.inl ⟨rfl, hopt⟩)] at k1
  have k2 := c_dopt P0 S0 aw_sm aw_sol
  rw [show decide (optP P0 S0) = true from decide_eq_true hopt] at k2
  have k3 := c_dslack P0 X0 D0 aw_sm hX hD (by decide) (by decide)
  rw [show slkB P0 X0 D0 = true by simp only [slkB, decide_eq_true_eq]; exact ⟨by rw [cmb_C]; exact aw_comb.1, aw_feas, aw_slk⟩] at k3
  have k4 := c_dinfeas P0 D0 aw_sm hD (by decide)
  rw [show infV P0 D0 = false by unfold infV; rw [cmb_C, aw_comb.1]; simp [aw_comb.2]] at k4
  have k5 := c_dunb P0 X0 X0 aw_sm hX hX (by decide) (by decide)
  rw [show decide (unbP P0 X0 X0) = false from decide_eq_false aw_unb] at k5
  refine fnC_v hmix hT ok_awake (by simp) ?_
  (repeat' (first|refine stp ?_|(with_reducible refine brr ?_ ?_<;>intro h)|(with_reducible refine nilImm_map ?_ ?_<;>intro h)|with_reducible refine anyb_of ?_ ?_)); all_goals try (conv=>whnf)
  refine callV_data f1 rfl ?_
  (repeat' (first|refine stp ?_|(with_reducible refine brr ?_ ?_<;>intro h)|(with_reducible refine nilImm_map ?_ ?_<;>intro h)|with_reducible refine anyb_of ?_ ?_)); all_goals try (conv=>whnf)
  refine callV_data f2 rfl ?_
  (repeat' (first|refine stp ?_|(with_reducible refine brr ?_ ?_<;>intro h)|(with_reducible refine nilImm_map ?_ ?_<;>intro h)|with_reducible refine anyb_of ?_ ?_)); all_goals try (conv=>whnf)
  refine callV_data f3 rfl ?_
  (repeat' (first|refine stp ?_|(with_reducible refine brr ?_ ?_<;>intro h)|(with_reducible refine nilImm_map ?_ ?_<;>intro h)|with_reducible refine anyb_of ?_ ?_)); all_goals try (conv=>whnf)
  refine callV_data f4 rfl ?_
  (repeat' (first|refine stp ?_|(with_reducible refine brr ?_ ?_<;>intro h)|(with_reducible refine nilImm_map ?_ ?_<;>intro h)|with_reducible refine anyb_of ?_ ?_)); all_goals try (conv=>whnf)
  refine callV_data fr rfl ?_
  (repeat' (first|refine stp ?_|(with_reducible refine brr ?_ ?_<;>intro h)|(with_reducible refine nilImm_map ?_ ?_<;>intro h)|with_reducible refine anyb_of ?_ ?_)); all_goals try (conv=>whnf)
  refine callV_data o2 rfl ?_
  (repeat' (first|refine stp ?_|(with_reducible refine brr ?_ ?_<;>intro h)|(with_reducible refine nilImm_map ?_ ?_<;>intro h)|with_reducible refine anyb_of ?_ ?_)); all_goals try (conv=>whnf)
  refine callV_data b0 rfl ?_
  (repeat' (first|refine stp ?_|(with_reducible refine brr ?_ ?_<;>intro h)|(with_reducible refine nilImm_map ?_ ?_<;>intro h)|with_reducible refine anyb_of ?_ ?_)); all_goals try (conv=>whnf)
  refine callV_data o1 rfl ?_
  (repeat' (first|refine stp ?_|(with_reducible refine brr ?_ ?_<;>intro h)|(with_reducible refine nilImm_map ?_ ?_<;>intro h)|with_reducible refine anyb_of ?_ ?_)); all_goals try (conv=>whnf)
  refine callV_data b1 rfl ?_
  (repeat' (first|refine stp ?_|(with_reducible refine brr ?_ ?_<;>intro h)|(with_reducible refine nilImm_map ?_ ?_<;>intro h)|with_reducible refine anyb_of ?_ ?_)); all_goals try (conv=>whnf)
  refine callV_data cq rfl ?_
  (repeat' (first|refine stp ?_|(with_reducible refine brr ?_ ?_<;>intro h)|(with_reducible refine nilImm_map ?_ ?_<;>intro h)|with_reducible refine anyb_of ?_ ?_)); all_goals try (conv=>whnf)
  refine callV_data k1 rfl ?_
  (repeat' (first|refine stp ?_|(with_reducible refine brr ?_ ?_<;>intro h)|(with_reducible refine nilImm_map ?_ ?_<;>intro h)|with_reducible refine anyb_of ?_ ?_)); all_goals try (conv=>whnf)
  refine callV_data k2 rfl ?_
  (repeat' (first|refine stp ?_|(with_reducible refine brr ?_ ?_<;>intro h)|(with_reducible refine nilImm_map ?_ ?_<;>intro h)|with_reducible refine anyb_of ?_ ?_)); all_goals try (conv=>whnf)
  refine callV_data k3 rfl ?_
  (repeat' (first|refine stp ?_|(with_reducible refine brr ?_ ?_<;>intro h)|(with_reducible refine nilImm_map ?_ ?_<;>intro h)|with_reducible refine anyb_of ?_ ?_)); all_goals try (conv=>whnf)
  refine callV_data k4 rfl ?_
  (repeat' (first|refine stp ?_|(with_reducible refine brr ?_ ?_<;>intro h)|(with_reducible refine nilImm_map ?_ ?_<;>intro h)|with_reducible refine anyb_of ?_ ?_)); all_goals try (conv=>whnf)
  refine callV_data k5 rfl ?_
  (repeat' (first|refine stp ?_|(with_reducible refine brr ?_ ?_<;>intro h)|(with_reducible refine nilImm_map ?_ ?_<;>intro h)|with_reducible refine anyb_of ?_ ?_)); all_goals try (conv=>whnf)
  exact givesV_to rfl rfl

/-- A list of numbers, told. -/
def encL (l : List RatL) : PV := .imm (l.map encRat)
def smA (p : ProgL) (ls : List (List RatL)) : Prop := smallP p ∧ ∀ i, i < ls.length → smL ls[i]!
theorem ok_wsmall : FnOk Tryz.prog 11 Tryz.f11 (Tryz.f11.body.getD .skip) [.tmp 4] 53 := ⟨Tryz.func11, rfl, by decide, Tryz.ntmps11, Tryz.results11, by kernel_rfl, by kernel_rfl⟩
theorem c_wsmall (p : ProgL) (ls : List (List RatL)) (hp : okP 2097100 p) (hl : ls.length ≤ 1000) (hll : ∀ l ∈ ls, l.length ≤ 1048576 ∧ ∀ x ∈ l, x.num.length ≤ 1048576 ∧ x.den.length ≤ 1048576) : Fn 11 [encProg p, .imm (ls.map encL)] (.data (.bool (dB (smA p ls)))) := by
  have c1 := c_rsmall p hp
  have no : ¬ smA p ls → false = dB (smA p ls) := dB_no
  refine fnC_v hmix hT ok_wsmall (by simp [encProg]) ?_
  (repeat' (first|refine stp ?_|(with_reducible refine brr ?_ ?_<;>intro h)|(with_reducible refine nilImm_map ?_ ?_<;>intro h)|with_reducible refine anyb_of ?_ ?_)); all_goals try (conv=>whnf)
  refine callV_data c1 rfl ?_
  (repeat' (first|refine stp ?_|(with_reducible refine brr ?_ ?_<;>intro h)|(with_reducible refine nilImm_map ?_ ?_<;>intro h)|with_reducible refine anyb_of ?_ ?_)); all_goals try (conv=>whnf)
  · have hs : smallP p := dB_true.1 (by assumption)
    refine loopV_kept hT (fun (i : Nat) => [(1, .imm (ls.map encL)), (5, .int .i64 i)]) (fun _ => []) [] 1
      (fun i => i ≤ ls.length ∧ ∀ j, j < i → smL ls[j]!) (fun i => ls.length - i) 0 ⟨Nat.zero_le _, fun j h => (by omega)⟩ (by decide) (by simp) ?_ ?_
    · exact ⟨[0], [], [], [], ⟨trivial, trivial, trivial⟩, ⟨at_imm rfl rfl, at_int rfl rfl, trivial⟩, trivial, by simp [ren]⟩
    intro i ⟨i1, i2⟩
    by_cases hi : i < ls.length
    · obtain ⟨l1, l2⟩ := hll ls[i]! (by rw [getElem!_pos ls i hi]; exact List.getElem_mem hi)
      have hno : ¬ smL ls[i]! → false = dB (smA p ls) := fun h => no fun e => h (e.2 i hi)
      (repeat' (first|refine stp ?_|(with_reducible refine brr ?_ ?_<;>intro h)|(with_reducible refine nilImm_map ?_ ?_<;>intro h)|with_reducible refine anyb_of ?_ ?_)); all_goals try (conv=>whnf)
      · exact givesV_to rfl (congrArg PV.bool (hno fun e => by have := e.1; omega))
      · have hlen : ls[i]!.length ≤ 10 := by omega
        refine loopV_kept hT (fun (k : Nat) => [(1, .imm (ls.map encL)), (5, .int .i64 i), (6, .int .i64 k)]) (fun _ => []) [] 1
          (fun k => k ≤ ls[i]!.length ∧ ∀ j, j < k → ls[i]![j]!.num.length ≤ 4 ∧ ls[i]![j]!.den.length ≤ 4) (fun k => ls[i]!.length - k) 0 ⟨Nat.zero_le _, fun j h => (by omega)⟩ (by decide) (by simp) ?_ ?_
        · exact ⟨[0], [], [], [], ⟨trivial, trivial, trivial⟩, ⟨at_imm rfl rfl, at_int rfl rfl, at_int rfl rfl, trivial⟩, trivial, by simp [ren]⟩
        intro k ⟨k1, k2⟩
        by_cases hk : k < ls[i]!.length
        · have l3 := l2 ls[i]![k]! (by rw [getElem!_pos _ k hk]; exact List.getElem_mem hk)
          (repeat' (first|refine stp ?_|(with_reducible refine brr ?_ ?_<;>intro h)|(with_reducible refine nilImm_map ?_ ?_<;>intro h)|with_reducible refine anyb_of ?_ ?_)); all_goals try (conv=>whnf)
          · exact givesV_to rfl (congrArg PV.bool (hno fun e => by have := (e.2 k hk).1; omega))
          · exact givesV_to rfl (congrArg PV.bool (hno fun e => by have := (e.2 k hk).2; omega))
          · refine ⟨k + 1, ⟨⟨by omega, fun j hj => ?_⟩, by show ls[i]!.length - (k + 1) < ls[i]!.length - k; omega⟩, [0], [], [], [], ⟨trivial, trivial, trivial⟩, ⟨at_imm rfl rfl, at_int rfl rfl, at_int rfl (by omega), trivial⟩, trivial, by simp [ren]⟩
            rcases Nat.lt_or_eq_of_le (Nat.le_of_lt_succ hj) with hj | rfl
            · exact k2 j hj
            · exact ⟨by omega, by omega⟩
          all_goals (exfalso; omega)
        · (repeat' (first|refine stp ?_|(with_reducible refine brr ?_ ?_<;>intro h)|(with_reducible refine nilImm_map ?_ ?_<;>intro h)|with_reducible refine anyb_of ?_ ?_)); all_goals try (conv=>whnf)
          all_goals try (exfalso; omega)
          refine ⟨i + 1, ⟨⟨by omega, fun j hj => ?_⟩, by show ls.length - (i + 1) < ls.length - i; omega⟩, [0], [], [], [], ⟨trivial, trivial, trivial⟩, ⟨at_imm rfl rfl, at_int rfl (by omega), trivial⟩, trivial, by simp [ren]⟩
          rcases Nat.lt_or_eq_of_le (Nat.le_of_lt_succ hj) with hj | rfl
          · exact i2 j hj
          · exact ⟨hlen, fun q hq => k2 q (by omega)⟩
      all_goals (exfalso; omega)
    · (repeat' (first|refine stp ?_|(with_reducible refine brr ?_ ?_<;>intro h)|(with_reducible refine nilImm_map ?_ ?_<;>intro h)|with_reducible refine anyb_of ?_ ?_)); all_goals try (conv=>whnf)
      all_goals try (exfalso; omega)
      exact givesV_to rfl (congrArg PV.bool (dB_yes ⟨hs, fun j hj => i2 j (by omega)⟩))
  · exact givesV_to rfl (congrArg PV.bool (no fun e => by have := dB_true.2 e.1; rw [h] at this; cases this))
end Go.PI.Tryz
namespace Go.PI.Tryz
set_option linter.unnecessarySimpa false
open Go.Proofs Go.PI
set_option linter.unusedSimpArgs false
set_option linter.unusedVariables false

/-- What comes in has few limbs and rows, and its limbs are limbs. -/
def smI (r : RatL) : Prop := okQ 1048576 r
def okL (l : List RatL) : Prop := l.length ≤ 1048576 ∧ ∀ x ∈ l, smI x
theorem okL_4 {l : List RatL} (h : okL l) (hs : smL l) : (∀ y ∈ l, okQ 4 y) ∧ l.length ≤ 1048576 := by
  refine ⟨fun y hy => ?_, h.1⟩
  obtain ⟨i, hi, rfl⟩ := List.getElem_of_mem hy
  have := hs.2 i hi
  rw [getElem!_pos l i hi] at this
  exact ⟨(h.2 _ hy).1, this.1, this.2⟩
theorem okL_len {ls : List (List RatL)} (h : ∀ l ∈ ls, okL l) : ∀ l ∈ ls, l.length ≤ 1048576 ∧ ∀ x ∈ l, x.num.length ≤ 1048576 ∧ x.den.length ≤ 1048576 := fun l hl => ⟨(h l hl).1, fun x hx => ((h l hl).2 x hx).2⟩
theorem okP_le {j k : Nat} (h : j ≤ k) {p : ProgL} (hp : okP j p) : okP k p := by
  have a : ∀ {f : AffL}, okA j f → okA k f := fun hf => ⟨okQ_le h hf.1, fun t ht => okQ_le h (hf.2.1 t ht), hf.2.2⟩
  exact ⟨a hp.1, fun f hf => a (hp.2.1 f hf), hp.2.2⟩

theorem ok_dualsCombine : FnOk Tryz.prog 3 Tryz.f3 (Tryz.f3.body.getD .skip) [.tmp 4] 63 := ⟨Tryz.func3, rfl, by decide, Tryz.ntmps3, Tryz.results3, by kernel_rfl, by kernel_rfl⟩
theorem c_dualsCombine (p : ProgL) (ys : List RatL) (hp : okP 1048576 p) (hy : okL ys) : Fn 3 [encProg p, .imm (ys.map encRat)] (.data (.bool true)) := by
  have cw := c_wsmall p [ys] (okP_le (by decide) hp) (by simp) (okL_len (fun l hl => by simp at hl; subst hl; exact hy))
  by_cases hs : smA p [ys]
  · rw [dB_true.2 hs] at cw
    have hP := smP_of hp hs.1
    have he := encP_of hs.1.2.2.2
    obtain ⟨h4, hyl⟩ := okL_4 hy (hs.2 0 (by simp))
    have c1 := c_dcomb p.Q ys hP h4 hyl
    have c2 := c_rcomb p.Q ys hP h4 hyl
    have c3 := c_dbound p.Q ys hP h4 hyl
    have c4 := c_rbound p.Q ys hP h4 hyl
    obtain ⟨z1, z2⟩ := cmbV_sz hP h4
    have zb := cr_len (bndV_sz hP h4)
    have cs := c_sameform (cmbV p.Q ys).1 100 z1 (by decide) (by omega)
    have cq := c_rqcmp (cr (bndV p.Q ys).1) (cr (bndV p.Q ys).1) (okR_cr _) (okR_cr _) (by omega) (by omega) (by omega) (by omega)
    rw [show sgnQ (qv (cr (bndV p.Q ys).1) - qv (cr (bndV p.Q ys).1)) = 0 by rw [sgnQ_zero]; grind] at cq
    rw [he] at cw ⊢
    generalize p.Q = P at *
    generalize cmbV P ys = A at *
    generalize bndV P ys = B at *
    refine fnC_v hmix hT ok_dualsCombine (by simp [encP]) ?_
    (repeat' (first|refine stp ?_|(with_reducible refine brr ?_ ?_<;>intro h)|(with_reducible refine nilImm_map ?_ ?_<;>intro h)|with_reducible refine anyb_of ?_ ?_)); all_goals try (conv=>whnf)
    refine callV_data c_awake rfl ?_
    (repeat' (first|refine stp ?_|(with_reducible refine brr ?_ ?_<;>intro h)|(with_reducible refine nilImm_map ?_ ?_<;>intro h)|with_reducible refine anyb_of ?_ ?_)); all_goals try (conv=>whnf)
    refine callV_data cw rfl ?_
    (repeat' (first|refine stp ?_|(with_reducible refine brr ?_ ?_<;>intro h)|(with_reducible refine nilImm_map ?_ ?_<;>intro h)|with_reducible refine anyb_of ?_ ?_)); all_goals try (conv=>whnf)
    refine callV_data c1 rfl ?_
    (repeat' (first|refine stp ?_|(with_reducible refine brr ?_ ?_<;>intro h)|(with_reducible refine nilImm_map ?_ ?_<;>intro h)|with_reducible refine anyb_of ?_ ?_)); all_goals try (conv=>whnf)
    refine callV_data c2 rfl ?_
    (repeat' (first|refine stp ?_|(with_reducible refine brr ?_ ?_<;>intro h)|(with_reducible refine nilImm_map ?_ ?_<;>intro h)|with_reducible refine anyb_of ?_ ?_)); all_goals try (conv=>whnf)
    refine callV_data c3 rfl ?_
    (repeat' (first|refine stp ?_|(with_reducible refine brr ?_ ?_<;>intro h)|(with_reducible refine nilImm_map ?_ ?_<;>intro h)|with_reducible refine anyb_of ?_ ?_)); all_goals try (conv=>whnf)
    refine callV_data c4 rfl ?_
    (repeat' (first|refine stp ?_|(with_reducible refine brr ?_ ?_<;>intro h)|(with_reducible refine nilImm_map ?_ ?_<;>intro h)|with_reducible refine anyb_of ?_ ?_)); all_goals try (conv=>whnf)
    · refine callV_data cs rfl ?_
      (repeat' (first|refine stp ?_|(with_reducible refine brr ?_ ?_<;>intro h)|(with_reducible refine nilImm_map ?_ ?_<;>intro h)|with_reducible refine anyb_of ?_ ?_)); all_goals try (conv=>whnf)
      · refine callV_data cq rfl ?_
        (repeat' (first|refine stp ?_|(with_reducible refine brr ?_ ?_<;>intro h)|(with_reducible refine nilImm_map ?_ ?_<;>intro h)|with_reducible refine anyb_of ?_ ?_)); all_goals try (conv=>whnf)
        exact givesV_to rfl rfl
      · exact absurd trivial h
    · exact absurd trivial h
  · rw [dB_false.2 hs] at cw
    refine fnC_v hmix hT ok_dualsCombine (by simp [encProg]) ?_
    (repeat' (first|refine stp ?_|(with_reducible refine brr ?_ ?_<;>intro h)|(with_reducible refine nilImm_map ?_ ?_<;>intro h)|with_reducible refine anyb_of ?_ ?_)); all_goals try (conv=>whnf)
    refine callV_data c_awake rfl ?_
    (repeat' (first|refine stp ?_|(with_reducible refine brr ?_ ?_<;>intro h)|(with_reducible refine nilImm_map ?_ ?_<;>intro h)|with_reducible refine anyb_of ?_ ?_)); all_goals try (conv=>whnf)
    refine callV_data cw rfl ?_
    (repeat' (first|refine stp ?_|(with_reducible refine brr ?_ ?_<;>intro h)|(with_reducible refine nilImm_map ?_ ?_<;>intro h)|with_reducible refine anyb_of ?_ ?_)); all_goals try (conv=>whnf)
    exact givesV_to rfl rfl
end Go.PI.Tryz
namespace Go.PI.Tryz
set_option linter.unusedSimpArgs false
set_option linter.unnecessarySimpa false
open Go Go.Proofs Go.PI Go.Proofs.YtigeioodiljlaaaGreat
open Go.ChangeShapes Go.WideShapes Go.ChangeAt Go.RowKit
set_option linter.unusedVariables false

section
variable {H : Type} {enc : TypeId × Value → H} {w : World}
def QNat (xs : List Int) (B : Nat) : Prop := QL (fun x b => (Lit.int .u32 x).wf = true ∧ 1 ≤ b) xs B
theorem r_nat (n : Nat) : Reads enc Tryz.prog w (n + 1) 25 (fun xs : List Int => [encN xs]) QNat :=
  reads_slice Tryz.underlying25 (by kernel_rfl) (by decide) (fun _ => ⟨rfl, rfl⟩) (reads_int Tryz.underlying115)
theorem QNat.ok {x : List Int} {B : Nat} (h : QNat x B) : okN x := fun y hy => by
  obtain ⟨b, ⟨h1, _⟩, _⟩ := QL.mem h y hy
  have : 0 ≤ y ∧ y ≤ 4294967295 := by simpa [Lit.wf, IntKind.min, IntKind.max, IntKind.signed, IntKind.bits] using h1
  omega
theorem QNat.len {x : List Int} {B : Nat} (h : QNat x B) : x.length < B := QL.len (fun _ _ h => h.2) h
def QRat (x : RatL) (B : Nat) : Prop := ∃ b c, QNat x.num b ∧ QNat x.den c ∧ b + c + 2 ≤ B
def cRat (x : RatL) : List PV := [.bool x.neg, encN x.num, encN x.den]
theorem r_rat (n : Nat) : Reads enc Tryz.prog w (n + 2) 27 cRat QRat := by
  refine (reads_struct (tot := 3) Tryz.underlying27 (by kernel_rfl) (readsF_cons rfl (k := 1) (by kernel_rfl) (by decide) (reads_bool Tryz.underlying4)
    (readsF_cons rfl (k := 1) (by kernel_rfl) (by decide) (r_nat n) (readsF_cons rfl (k := 1) (by kernel_rfl) (by decide) (r_nat n) (readsF_nil (by decide)))))).to (fun x => (⟨x.1, x.2.1, x.2.2.1⟩ : RatL)) (fun _ => rfl) ?_
  rintro ⟨a, b, c, u⟩ B ⟨b0, ⟨b1, b2, h1, ⟨b3, b4, h3, ⟨b5, b6, h5, _, h6⟩, h4⟩, h2⟩, h0⟩
  exact ⟨b3, b5, h3, h5, by omega⟩
theorem QRat.ok {x : RatL} {B : Nat} (h : QRat x B) : okQ B x := by
  obtain ⟨b, c, h1, h2, h3⟩ := h
  have := h1.len; have := h2.len
  exact ⟨⟨h1.ok, h2.ok⟩, by omega, by omega⟩
theorem QRat.pos (x : RatL) (B : Nat) (h : QRat x B) : 1 ≤ B := by obtain ⟨b, c, h1, h2, h3⟩ := h; omega
theorem r_rats (m : Nat) : Reads enc Tryz.prog w m 32 (fun xs : List RatL => [.imm (xs.map encRat)]) (QL QRat) :=
  (reads_slice (n := m + 2) (sz := 3) Tryz.underlying32 (by kernel_rfl) (by decide) (fun _ => ⟨rfl, rfl⟩) (r_rat m)).le (by omega)
theorem okL_of {xs : List RatL} {B : Nat} (h : QL QRat xs B) (hB : B ≤ 1048576) : okL xs := by
  refine ⟨by have := QL.len QRat.pos h; omega, fun x hx => ?_⟩
  obtain ⟨b, h1, h2⟩ := h.mem x hx
  exact okQ_le (by omega) h1.ok
def cTerm (x : TermL) : List PV := [.int .i64 x.var, .bool x.coef.neg, encN x.coef.num, encN x.coef.den]
def QTerm (x : TermL) (B : Nat) : Prop := ∃ b, QRat x.coef b ∧ b + 2 ≤ B
theorem r_term (m : Nat) : Reads enc Tryz.prog w m 64 cTerm QTerm := by
  refine ((reads_struct (n := m + 2) (tot := 4) Tryz.underlying64 (by kernel_rfl) (readsF_cons rfl (k := 1) (by kernel_rfl) (by decide) (reads_int Tryz.underlying3)
    (readsF_cons rfl (k := 3) (by kernel_rfl) (by decide) (r_rat m) (readsF_nil (by decide))))).le (by omega)).to (fun x => (⟨x.1, x.2.1⟩ : TermL)) (fun _ => rfl) ?_
  rintro ⟨a, c, u⟩ B ⟨b0, ⟨b1, b2, h1, ⟨b3, b4, h3, _, h4⟩, h2⟩, h0⟩
  exact ⟨b3, h3, by have := h1.2; omega⟩
theorem QTerm.pos (x : TermL) (B : Nat) (h : QTerm x B) : 1 ≤ B := by obtain ⟨b, h1, h3⟩ := h; omega
theorem r_terms (m : Nat) : Reads enc Tryz.prog w m 23 (fun xs : List TermL => [.imm (xs.map encTerm)]) (QL QTerm) :=
  (reads_slice (n := m) (sz := 4) Tryz.underlying23 (by kernel_rfl) (by decide) (fun _ => ⟨rfl, rfl⟩) (r_term m)).le (by omega)
def cAff (x : AffL) : List PV := [.imm (x.terms.map encTerm), .bool x.const.neg, encN x.const.num, encN x.const.den]
def QAff (x : AffL) (B : Nat) : Prop := ∃ b c, QL QTerm x.terms b ∧ QRat x.const c ∧ b + c ≤ B
theorem r_aff (m : Nat) : Reads enc Tryz.prog w m 29 cAff QAff := by
  refine ((reads_struct (n := m + 2) (tot := 4) Tryz.underlying29 (by kernel_rfl) (readsF_cons rfl (k := 1) (by kernel_rfl) (by decide) (r_terms (m + 2))
    (readsF_cons rfl (k := 3) (by kernel_rfl) (by decide) (r_rat m) (readsF_nil (by decide))))).le (by omega)).to (fun x => (⟨x.1, x.2.1⟩ : AffL)) (fun _ => rfl) ?_
  rintro ⟨a, c, u⟩ B ⟨b0, ⟨b1, b2, h1, ⟨b3, b4, h3, _, h4⟩, h2⟩, h0⟩
  exact ⟨b1, b3, h1, h3, by omega⟩
theorem QAff.ok {x : AffL} {B : Nat} (h : QAff x B) (hB : B ≤ 1048576) : okA 1048576 x := by
  obtain ⟨b, c, h1, h2, h3⟩ := h
  refine ⟨okQ_le (by omega) h2.ok, fun t ht => ?_, by have := QL.len QTerm.pos h1; omega⟩
  obtain ⟨d, ⟨e, h4, h5⟩, h6⟩ := h1.mem t ht
  exact okQ_le (by omega) h4.ok
theorem QAff.pos (x : AffL) (B : Nat) (h : QAff x B) : 1 ≤ B := by
  obtain ⟨b, c, _, ⟨d, e, _, _, h4⟩, h3⟩ := h; omega
theorem r_rows (m : Nat) : Reads enc Tryz.prog w m 22 (fun xs : List AffL => [.imm (xs.map encAff)]) (QL QAff) :=
  (reads_slice (n := m) (sz := 4) Tryz.underlying22 (by kernel_rfl) (by decide) (fun _ => ⟨rfl, rfl⟩) (r_aff m)).le (by omega)
def cProg (p : ProgL) : List PV := [.int .i64 p.vars, .imm (p.rows.map encAff), .imm (p.obj.terms.map encTerm), .bool p.obj.const.neg, encN p.obj.const.num, encN p.obj.const.den]
def QProg (p : ProgL) (B : Nat) : Prop := ∃ b c, QL QAff p.rows b ∧ QAff p.obj c ∧ b + c ≤ B
theorem r_prog (m : Nat) : Reads enc Tryz.prog w m 31 cProg QProg := by
  refine ((reads_struct (n := m) (tot := 6) Tryz.underlying31 (by kernel_rfl) (readsF_cons rfl (k := 1) (by kernel_rfl) (by decide) (reads_int Tryz.underlying3)
    (readsF_cons rfl (k := 1) (by kernel_rfl) (by decide) (r_rows m) (readsF_cons rfl (k := 4) (by kernel_rfl) (by decide) (r_aff m) (readsF_nil (by decide)))))).le (by omega)).to (fun x => (⟨x.1, x.2.1, x.2.2.1⟩ : ProgL)) (fun _ => rfl) ?_
  rintro ⟨a, b, c, u⟩ B ⟨b0, ⟨b1, b2, h1, ⟨b3, b4, h3, ⟨b5, b6, h5, _, h6⟩, h4⟩, h2⟩, h0⟩
  exact ⟨b3, b5, h3, h5, by omega⟩
theorem QProg.ok {p : ProgL} {B : Nat} (h : QProg p B) (hB : B ≤ 1048576) : okP 1048576 p := by
  obtain ⟨b, c, h1, h2, h3⟩ := h
  refine ⟨h2.ok (by omega), fun f hf => ?_, by have := QL.len QAff.pos h1; omega⟩
  obtain ⟨d, h4, h5⟩ := h1.mem f hf
  exact h4.ok (by omega)
def cSol (s : SolL) : List PV := [.int .i64 s.status, .bool s.value.neg, encN s.value.num, encN s.value.den, .imm (s.point.map encRat), .imm (s.dual.map encRat), .imm (s.ray.map encRat), .imm (s.basis.map (.int .i64)), .int .i64 s.pivots]
def QSol (s : SolL) (B : Nat) : Prop := okQ B s.value ∧ (B ≤ 1048576 → okL s.point ∧ okL s.dual ∧ okL s.ray)
theorem r_ints (m : Nat) : Reads enc Tryz.prog w m 43 (fun xs : List Int => [.imm (xs.map (.int .i64))]) (QL (fun x b => (Lit.int .i64 x).wf = true ∧ 1 ≤ b)) :=
  (reads_slice (n := m) (sz := 1) Tryz.underlying43 (by kernel_rfl) (by decide) (fun _ => ⟨rfl, rfl⟩) (reads_int Tryz.underlying3)).le (by omega)
theorem r_sol (m : Nat) : Reads enc Tryz.prog w m 45 cSol QSol := by
  refine ((reads_struct (n := m + 2) (tot := 9) Tryz.underlying45 (by kernel_rfl) (readsF_cons rfl (k := 1) (by kernel_rfl) (by decide) (reads_int Tryz.underlying3)
    (readsF_cons rfl (k := 3) (by kernel_rfl) (by decide) (r_rat m) (readsF_cons rfl (k := 1) (by kernel_rfl) (by decide) (r_rats _) (readsF_cons rfl (k := 1) (by kernel_rfl) (by decide) (r_rats _)
    (readsF_cons rfl (k := 1) (by kernel_rfl) (by decide) (r_rats _) (readsF_cons rfl (k := 1) (by kernel_rfl) (by decide) (r_ints _) (readsF_cons rfl (k := 1) (by kernel_rfl) (by decide) (reads_int Tryz.underlying3) (readsF_nil (by decide)))))))))).le (by omega)).to
    (fun x => (⟨x.1, x.2.1, x.2.2.1, x.2.2.2.1, x.2.2.2.2.1, x.2.2.2.2.2.1, x.2.2.2.2.2.2.1⟩ : SolL)) (fun _ => rfl) ?_
  rintro ⟨a, b, c, d, e, f, g, u⟩ B ⟨b0, ⟨b1, b2, h1, ⟨b3, b4, h3, ⟨b5, b6, h5, ⟨b7, b8, h7, ⟨b9, b10, h9, ⟨b11, b12, h11, ⟨b13, b14, h13, _, h14⟩, h12⟩, h10⟩, h8⟩, h6⟩, h4⟩, h2⟩, h0⟩
  exact ⟨okQ_le (by omega) h3.ok, fun hB => ⟨okL_of h5 (by omega), okL_of h7 (by omega), okL_of h9 (by omega)⟩⟩
end

theorem own : ownKnob Tryz.prog.godebug = none := by kernel_rfl
theorem laidOut : laidOutB Tryz.prog = true := by kernel_rfl
theorem gok {W : World} : Gok G0 W (AllB W) := fun g e hg => by simp [G0] at hg
mutual
theorem bulk_eq {H : Type} : ∀ d : DataW H, Rows.uptoBulk d = bulk d
  | .lit l => by cases l <;> rfl
  | .nil => rfl
  | .ptr d => by simp only [Rows.uptoBulk, bulk, bulk_eq d]
  | .slice elems spare => by simp only [Rows.uptoBulk, bulk, bulkAll_eq elems, bulkAll_eq spare]
  | .agg parts => by simp only [Rows.uptoBulk, bulk, bulkAll_eq parts]
  | .iface _ d => by simp only [Rows.uptoBulk, bulk, bulk_eq d]
  | .map entries => by simp only [Rows.uptoBulk, bulk, bulkEntries_eq entries]
  | .held _ => rfl
theorem bulkAll_eq {H : Type} : ∀ d : List (DataW H), Rows.uptoBulkAll d = bulkAll d
  | [] => rfl
  | d :: r => by simp only [Rows.uptoBulkAll, bulkAll, bulk_eq d, bulkAll_eq r]
theorem bulkEntries_eq {H : Type} : ∀ d : List (Lit × DataW H), Rows.uptoBulkEntries d = bulkEntries d
  | [] => rfl
  | x :: r => by simp only [Rows.uptoBulkEntries, bulkEntries, bulkEntry_eq x, bulkEntries_eq r]
theorem bulkEntry_eq {H : Type} : ∀ d : Lit × DataW H, Rows.uptoBulkEntry d = bulkEntry d
  | (l, d) => by cases l <;> simp only [Rows.uptoBulkEntry, bulkEntry, bulk_eq d]
end
end Go.PI.Tryz
