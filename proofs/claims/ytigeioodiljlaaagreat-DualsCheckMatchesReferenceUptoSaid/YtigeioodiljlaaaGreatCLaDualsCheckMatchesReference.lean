/-
  For every input of bulk at most 1048576: DualsCheckMatchesReference returns true and leaves all that came in as it was.
-/
import Derived.Test.YtigeioodiljlaaaGreatCRD
import Derived.Test.YtigeioodiljlaaaGreatCPD
import Derived.Test.YtigeioodiljlaaaGreatCDB
namespace Go.PI.Tryz
set_option linter.unnecessarySimpa false
open Go.Proofs Go.PI
set_option linter.unusedSimpArgs false
set_option linter.unusedVariables false

theorem ok_rfeas : FnOk Tryz.prog 30 Tryz.f30 (Tryz.f30.body.getD .skip) [.tmp 4] 42 := ⟨Tryz.func30, rfl, by decide, Tryz.ntmps30, Tryz.results30, by kernel_rfl, by kernel_rfl⟩
theorem c_rfeas (P : QP) (x : List Rat) (hP : smP P) (hx : ∀ q ∈ x, sz 4 q) (hxl : x.length ≤ 1048576) : Fn 30 [encP P, .imm (x.map encX)] (.data (.bool (decide (feas P x)))) := by
  have cv := rpvalid_yes hP
  have hl := hP.2.1
  refine fnC_v hmix hT ok_rfeas (by simp [encP]) ?_
  (repeat' (first|refine stp ?_|(with_reducible refine brr ?_ ?_<;>intro h)|(with_reducible refine nilImm_map ?_ ?_<;>intro h)|with_reducible refine anyb_of ?_ ?_)); all_goals try (conv=>whnf)
  refine callV_data cv rfl ?_
  (repeat' (first|refine stp ?_|(with_reducible refine brr ?_ ?_<;>intro h)|(with_reducible refine nilImm_map ?_ ?_<;>intro h)|with_reducible refine anyb_of ?_ ?_)); all_goals try (conv=>whnf)
  · exact givesV_to rfl (congrArg PV.bool (decide_eq_false fun e => h e.1).symm)
  have hxv : (x.length : Int) = P.vars := by omega
  refine loopV_kept hT (fun (i : Nat) => [(1, .imm (x.map encX)), (2, .ptr 0 0 0), (5, .int .i64 i)]) (fun _ => [(0, ⟨[encP P], 6, true⟩)]) [] 1
    (fun i => i ≤ P.rows.length ∧ ∀ j, j < i → 0 ≤ evQ P.rows[j]! x) (fun i => P.rows.length - i) 0 ⟨Nat.zero_le _, fun j h => (by omega)⟩ (by decide) (by simp) ?_ ?_
  · exact ⟨[0], [], [], [], ⟨trivial, trivial, trivial⟩, ⟨at_imm rfl rfl, at_ptr (by decide) rfl, at_int rfl rfl, trivial⟩, ⟨blk_box (by decide) rfl rfl rfl rfl rfl, trivial⟩, by simp [ren]⟩
  intro i ⟨i1, i2⟩
  by_cases hi : i < P.rows.length
  · obtain ⟨⟨h1, h2⟩, h3⟩ := smP_row hP hi
    have hv : ∀ t ∈ P.rows[i]!.ts, 0 ≤ t.1 ∧ t.1 < x.length := fun t ht => by have := h3.2 t ht; omega
    have ce := c_rleval P.rows[i]! x 2 4 h1 hx hv (by omega) (by omega) hxl
    have hs := evQ_sz h1 hx hv
    have hl4 := cr_len hs
    have cs := c_rqsign (cr (evQ P.rows[i]! x)) (okR_cr _) (by omega)
    rw [qv_cr] at cs
    (repeat' (first|refine stp ?_|(with_reducible refine brr ?_ ?_<;>intro h)|(with_reducible refine nilImm_map ?_ ?_<;>intro h)|with_reducible refine anyb_of ?_ ?_)); all_goals try (conv=>whnf)
    · refine callV_data ce rfl ?_
      (repeat' (first|refine stp ?_|(with_reducible refine brr ?_ ?_<;>intro h)|(with_reducible refine nilImm_map ?_ ?_<;>intro h)|with_reducible refine anyb_of ?_ ?_)); all_goals try (conv=>whnf)
      refine callV_data cs rfl ?_
      (repeat' (first|refine stp ?_|(with_reducible refine brr ?_ ?_<;>intro h)|(with_reducible refine nilImm_map ?_ ?_<;>intro h)|with_reducible refine anyb_of ?_ ?_)); all_goals try (conv=>whnf)
      · exact givesV_to rfl (congrArg PV.bool (feas_no hi (sgnQ_neg.1 h)))
      · refine ⟨i + 1, ⟨⟨by omega, fun j hj => ?_⟩, by show P.rows.length - (i + 1) < P.rows.length - i; omega⟩, [0], [], [], [], ⟨trivial, trivial, trivial⟩, ⟨at_imm rfl rfl, at_ptr (by decide) rfl, at_int rfl (by omega), trivial⟩, ⟨blk_box (by decide) rfl rfl rfl rfl rfl, trivial⟩, by simp [ren]⟩
        rcases Nat.lt_or_eq_of_le (Nat.le_of_lt_succ hj) with hj | rfl
        · exact i2 j hj
        · exact Rat.not_lt.1 fun e => h (sgnQ_neg.2 e)
    all_goals (exfalso; omega)
  · (repeat' (first|refine stp ?_|(with_reducible refine brr ?_ ?_<;>intro h)|(with_reducible refine nilImm_map ?_ ?_<;>intro h)|with_reducible refine anyb_of ?_ ?_)); all_goals try (conv=>whnf)
    all_goals try (exfalso; omega)
    exact givesV_to rfl (congrArg PV.bool (feas_yes hxv fun j hj => i2 j (by omega)))

theorem ok_rvalue : FnOk Tryz.prog 31 Tryz.f31 (Tryz.f31.body.getD .skip) [.cell 4 27, .tmp 5] 22 := ⟨Tryz.func31, rfl, by decide, Tryz.ntmps31, Tryz.results31, by kernel_rfl, by kernel_rfl⟩
theorem c_rvalue (P : QP) (x : List Rat) (hP : smP P) (hx : ∀ q ∈ x, sz 4 q) (hxl : x.length ≤ 1048576) (hxv : (x.length : Int) = P.vars) : Fn 31 [encP P, .imm (x.map encX)] (.data (.tup [encRat (cr (evQ P.obj x)), .int .i64 0])) := by
  have cv := rpvalid_yes hP
  have hv : ∀ t ∈ P.obj.ts, 0 ≤ t.1 ∧ t.1 < x.length := fun t ht => by have := hP.1.2.2.1.2 t ht; omega
  have h4 := hP.2.2.2.2
  have ce := c_rleval P.obj x 2 4 hP.2.2.2.1 hx hv (by omega) (by omega) hxl
  refine fnC_v hmix hT ok_rvalue (by simp [encP]) ?_
  (repeat' (first|refine stp ?_|(with_reducible refine brr ?_ ?_<;>intro h)|(with_reducible refine nilImm_map ?_ ?_<;>intro h)|with_reducible refine anyb_of ?_ ?_)); all_goals try (conv=>whnf)
  refine callV_data cv rfl ?_
  (repeat' (first|refine stp ?_|(with_reducible refine brr ?_ ?_<;>intro h)|(with_reducible refine nilImm_map ?_ ?_<;>intro h)|with_reducible refine anyb_of ?_ ?_)); all_goals try (conv=>whnf)
  · exact absurd (show (x.length : Int) = P.vars from hxv) (by omega)
  refine callV_data ce rfl ?_
  (repeat' (first|refine stp ?_|(with_reducible refine brr ?_ ?_<;>intro h)|(with_reducible refine nilImm_map ?_ ?_<;>intro h)|with_reducible refine anyb_of ?_ ?_)); all_goals try (conv=>whnf)
  exact givesV_to rfl rfl

theorem ok_rpoints : FnOk Tryz.prog 90 Tryz.f90 (Tryz.f90.body.getD .skip) [.tmp 4] 23 := ⟨Tryz.func90, rfl, by decide, Tryz.ntmps90, Tryz.results90, by kernel_rfl, by kernel_rfl⟩
theorem c_rpoints (P : QP) (l : List RatL) (hL : ∀ x ∈ l, okQ 4 x) (hl : l.length ≤ 1048576) : Fn 90 [encP P, .imm (l.map encRat)] (.data (.bool (decide ((l.length : Int) = P.vars ∧ canL l)))) := by
  refine fnC_v hmix hT ok_rpoints (by simp [encP]) ?_
  (repeat' (first|refine stp ?_|(with_reducible refine brr ?_ ?_<;>intro h)|(with_reducible refine nilImm_map ?_ ?_<;>intro h)|with_reducible refine anyb_of ?_ ?_)); all_goals try (conv=>whnf)
  · exact givesV_to rfl (congrArg PV.bool (decide_eq_false fun e => h e.1).symm)
  have hv : (l.length : Int) = P.vars := by omega
  refine loopV_kept hT (fun (i : Nat) => [(1, .imm (l.map encRat)), (5, .int .i64 i)]) (fun _ => []) [] 1
    (fun i => i ≤ l.length ∧ ∀ j, j < i → l[j]! = cr (qv l[j]!)) (fun i => l.length - i) 0 ⟨Nat.zero_le _, fun j h => (by omega)⟩ (by decide) (by simp) ?_ ?_
  · exact ⟨[0], [], [], [], ⟨trivial, trivial, trivial⟩, ⟨at_imm rfl rfl, at_int rfl rfl, trivial⟩, trivial, by simp [ren]⟩
  intro i ⟨i1, i2⟩
  by_cases hi : i < l.length
  · have hq := hL l[i]! (by rw [getElem!_pos l i hi]; exact List.getElem_mem hi)
    have cv := c_rqvalid l[i]! hq.1 (by have := hq.2; omega) (by have := hq.2; omega)
    (repeat' (first|refine stp ?_|(with_reducible refine brr ?_ ?_<;>intro h)|(with_reducible refine nilImm_map ?_ ?_<;>intro h)|with_reducible refine anyb_of ?_ ?_)); all_goals try (conv=>whnf)
    · refine callV_data cv rfl ?_
      (repeat' (first|refine stp ?_|(with_reducible refine brr ?_ ?_<;>intro h)|(with_reducible refine nilImm_map ?_ ?_<;>intro h)|with_reducible refine anyb_of ?_ ?_)); all_goals try (conv=>whnf)
      · refine ⟨i + 1, ⟨⟨by omega, fun j hj => ?_⟩, by show l.length - (i + 1) < l.length - i; omega⟩, [0], [], [], [], ⟨trivial, trivial, trivial⟩, ⟨at_imm rfl rfl, at_int rfl (by omega), trivial⟩, trivial, by simp [ren]⟩
        rcases Nat.lt_or_eq_of_le (Nat.le_of_lt_succ hj) with hj | rfl
        · exact i2 j hj
        · assumption
      · exact givesV_to rfl (congrArg PV.bool (decide_eq_false fun e => h (e.2 l[i]! (by rw [getElem!_pos l i hi]; exact List.getElem_mem hi))).symm)
    all_goals (exfalso; omega)
  · (repeat' (first|refine stp ?_|(with_reducible refine brr ?_ ?_<;>intro h)|(with_reducible refine nilImm_map ?_ ?_<;>intro h)|with_reducible refine anyb_of ?_ ?_)); all_goals try (conv=>whnf)
    all_goals try (exfalso; omega)
    exact givesV_to rfl (congrArg PV.bool (decide_eq_true ⟨hv, of_decide_eq_true (canL_yes fun j hj => i2 j (by omega)).symm⟩).symm)

theorem ok_rdir : FnOk Tryz.prog 95 Tryz.f95 (Tryz.f95.body.getD .skip) [.cell 4 27] 16 := ⟨Tryz.func95, rfl, by decide, Tryz.ntmps95, Tryz.results95, by kernel_rfl, by kernel_rfl⟩
theorem c_rdir (f : QF) (x : List Rat) (hf : szF 2 f) (hx : ∀ q ∈ x, sz 4 q) (hv : ∀ t ∈ f.ts, 0 ≤ t.1 ∧ t.1 < x.length) (hl : f.ts.length ≤ 8) (hxl : x.length ≤ 1048576) : Fn 95 [encF f, .imm (x.map encX)] (.data (encRat (cr (dirQ f x)))) := by
  have hf0 : szF 2 (⟨f.ts, 0⟩ : QF) := ⟨(szF_zero 2 (by decide)).1, hf.2⟩
  have ce := c_rleval ⟨f.ts, 0⟩ x 2 4 hf0 hx hv (by show 2 + f.ts.length * _ + _ + _ ≤ _; omega) (by show f.ts.length ≤ _; omega) hxl
  have e0 : encF ⟨f.ts, 0⟩ = .agg [.imm (f.ts.map encQ), .bool false, .imm [], .imm []] := by unfold encF; rw [cr_zero]; rfl
  rw [e0] at ce
  refine fnC_v hmix hT ok_rdir (by simp [encF]) ?_
  (repeat' (first|refine stp ?_|(with_reducible refine brr ?_ ?_<;>intro h)|(with_reducible refine nilImm_map ?_ ?_<;>intro h)|with_reducible refine anyb_of ?_ ?_)); all_goals try (conv=>whnf)
  refine callV_data ce rfl ?_
  (repeat' (first|refine stp ?_|(with_reducible refine brr ?_ ?_<;>intro h)|(with_reducible refine nilImm_map ?_ ?_<;>intro h)|with_reducible refine anyb_of ?_ ?_)); all_goals try (conv=>whnf)
  exact givesV_to rfl rfl

theorem ok_smpoint : FnOk Tryz.prog 26 Tryz.f26 (Tryz.f26.body.getD .skip) [.tmp 2] 19 := ⟨Tryz.func26, rfl, by decide, Tryz.ntmps26, Tryz.results26, by kernel_rfl, by kernel_rfl⟩
def smPt (l : List RatL) : Prop := l.length ≤ 8 ∧ ∀ i, i < l.length → smR l[i]!
theorem smPt_canL {l : List RatL} (h : smPt l) : canL l := fun x hx => by
  obtain ⟨i, hi, rfl⟩ := List.getElem_of_mem hx
  have := h.2 i hi
  rw [getElem!_pos l i hi] at this
  exact this.2.2
theorem c_smpoint (l : List RatL) (hL : ∀ x ∈ l, okQ 1048576 x) (hl : l.length ≤ 1048576) : Fn 26 [.imm (l.map encRat)] (.data (.bool (dB (smPt l)))) := by
  have no : ¬ smPt l → false = dB (smPt l) := dB_no
  refine fnC_v hmix hT ok_smpoint (by simp) ?_
  (repeat' (first|refine stp ?_|(with_reducible refine brr ?_ ?_<;>intro h)|(with_reducible refine nilImm_map ?_ ?_<;>intro h)|with_reducible refine anyb_of ?_ ?_)); all_goals try (conv=>whnf)
  · exact givesV_to rfl (congrArg PV.bool (no fun e => by have := e.1; omega))
  have hv : l.length ≤ 8 := by omega
  refine loopV_kept hT (fun (i : Nat) => [(0, .imm (l.map encRat)), (3, .int .i64 i)]) (fun _ => []) [] 1
    (fun i => i ≤ l.length ∧ ∀ j, j < i → smR l[j]!) (fun i => l.length - i) 0 ⟨Nat.zero_le _, fun j h => (by omega)⟩ (by decide) (by simp) ?_ ?_
  · exact ⟨[0], [], [], [], ⟨trivial, trivial, trivial⟩, ⟨at_imm rfl rfl, at_int rfl rfl, trivial⟩, trivial, by simp [ren]⟩
  intro i ⟨i1, i2⟩
  by_cases hi : i < l.length
  · have hq := hL l[i]! (by rw [getElem!_pos l i hi]; exact List.getElem_mem hi)
    have cv := c_smrat l[i]! (okQ_le (by decide) hq)
    (repeat' (first|refine stp ?_|(with_reducible refine brr ?_ ?_<;>intro h)|(with_reducible refine nilImm_map ?_ ?_<;>intro h)|with_reducible refine anyb_of ?_ ?_)); all_goals try (conv=>whnf)
    · refine callV_data cv rfl ?_
      (repeat' (first|refine stp ?_|(with_reducible refine brr ?_ ?_<;>intro h)|(with_reducible refine nilImm_map ?_ ?_<;>intro h)|with_reducible refine anyb_of ?_ ?_)); all_goals try (conv=>whnf)
      · refine ⟨i + 1, ⟨⟨by omega, fun j hj => ?_⟩, by show l.length - (i + 1) < l.length - i; omega⟩, [0], [], [], [], ⟨trivial, trivial, trivial⟩, ⟨at_imm rfl rfl, at_int rfl (by omega), trivial⟩, trivial, by simp [ren]⟩
        rcases Nat.lt_or_eq_of_le (Nat.le_of_lt_succ hj) with hj | rfl
        · exact i2 j hj
        · assumption
      · exact givesV_to rfl (congrArg PV.bool (no fun e => h (e.2 i hi)))
    all_goals (exfalso; omega)
  · (repeat' (first|refine stp ?_|(with_reducible refine brr ?_ ?_<;>intro h)|(with_reducible refine nilImm_map ?_ ?_<;>intro h)|with_reducible refine anyb_of ?_ ?_)); all_goals try (conv=>whnf)
    all_goals try (exfalso; omega)
    exact givesV_to rfl (congrArg PV.bool (dB_yes ⟨hv, fun j hj => i2 j (by omega)⟩))
end Go.PI.Tryz
namespace Go.PI.Tryz
set_option linter.unnecessarySimpa false
open Go.Proofs Go.PI
set_option linter.unusedSimpArgs false
set_option linter.unusedVariables false

theorem cmbV_no {P : QP} {ys : List RatL} (h : (cmbV P ys).2 = false) : (bndV P ys).2 = false := by
  unfold bndV; rw [if_neg (fun e => by rw [e.1] at h; cases h)]
theorem ok_ropt : FnOk Tryz.prog 55 Tryz.f55 (Tryz.f55.body.getD .skip) [.tmp 4] 77 := ⟨Tryz.func55, rfl, by decide, Tryz.ntmps55, Tryz.results55, by kernel_rfl, by kernel_rfl⟩
theorem c_ropt (P : QP) (s : SolL) (hP : smP P) (hs : okSol s) : Fn 55 [encP P, encSol s] (.data (.bool (decide (optP P s)))) := by
  obtain ⟨s1, s2, s3, s4, s5, s6, s7⟩ := hs
  have cp := c_rpoints P s.point s2 (by omega)
  have cv := c_rqvalid s.value s1.1 (by have := s1.2; omega) (by have := s1.2; omega)
  have cc := c_rcombn P s.dual hP s3 (by omega)
  obtain ⟨w1, w2⟩ := cmbN_V hP s.dual
  have no : ¬ optP P s → false = decide (optP P s) := fun h => (decide_eq_false h).symm
  by_cases hpt : (s.point.length : Int) = P.vars ∧ canL s.point
  · rw [decide_eq_true hpt] at cp
    have hxl : ((s.point.map qv).length : Int) = P.vars := by simpa using hpt.1
    have cf := c_rfeas P (s.point.map qv) hP (sz_list s2) (by simp; omega)
    have cval := c_rvalue P (s.point.map qv) hP (sz_list s2) (by simp; omega) hxl
    rw [← encL_of hpt.2] at cf cval
    have hv : ∀ t ∈ P.obj.ts, 0 ≤ t.1 ∧ t.1 < (s.point.map qv).length := fun t ht => by have := hP.1.2.2.1.2 t ht; omega
    have hol := hP.2.2.2.2
    have ze := cr_len (evQ_sz hP.2.2.2.1 (sz_list s2) hv)
    have c1 := c_rqcmp (cr (evQ P.obj (s.point.map qv))) s.value (okR_cr _) s1.1 (by omega) (by omega) (by have := s1.2; omega) (by have := s1.2; omega)
    rw [qv_cr] at c1
    by_cases hok : (cmbN P s.dual).2 = true
    · have e1 := w2 hok
      obtain ⟨z1, z2⟩ := cmbV_sz hP s3
      have hsr := cmbV_srt hP s.dual
      have hV : (cmbV P s.dual).2 = true := by rw [← w1]; exact hok
      have hb : bndV P s.dual = if (mergeQ P.obj (cmbV P s.dual).1 (-1)).ts = [] then ((mergeQ P.obj (cmbV P s.dual).1 (-1)).c, true) else (0, false) := by
        unfold bndV; simp only [hV, true_and]
      have hmul : ((cmbV P s.dual).1.ts.length + 1) * (100 + 2) ≤ 65 * 102 := Nat.mul_le_mul (by omega) (by decide)
      have csb := c_rsub P.obj (cmbV P s.dual).1 2 100 hP.2.2.2.1 z1 (by omega) (by omega)
      rw [add_scale hP.1.2.2.1.1 hsr] at csb
      have zq : sz 200 (mergeQ P.obj (cmbV P s.dual).1 (-1)).c := (mergeQ_sz (K := 200) hP.2.2.2.1 z1 (sz_int (z := -1) (by decide)) (by decide)).1
      have zd := cr_len zq
      rw [e1, hok] at cc
      have hbz : (mergeQ P.obj (cmbV P s.dual).1 (-1)).ts = [] → (bndV P s.dual) = ((mergeQ P.obj (cmbV P s.dual).1 (-1)).c, true) := fun h => by rw [hb, if_pos h]
      have hbn : (mergeQ P.obj (cmbV P s.dual).1 (-1)).ts ≠ [] → (bndV P s.dual).2 = false := fun h => by rw [hb, if_neg h]
      clear hb
      generalize mergeQ P.obj (cmbV P s.dual).1 (-1) = D at *
      have c2 := c_rqcmp (cr D.c) s.value (okR_cr _) s1.1 (by omega) (by omega) (by have := s1.2; omega) (by have := s1.2; omega)
      rw [qv_cr] at c2
      refine fnC_v hmix hT ok_ropt (by simp [encP]) ?_
      (repeat' (first|refine stp ?_|(with_reducible refine brr ?_ ?_<;>intro h)|(with_reducible refine nilImm_map ?_ ?_<;>intro h)|with_reducible refine anyb_of ?_ ?_)); all_goals try (conv=>whnf)
      refine callV_data cp rfl ?_
      (repeat' (first|refine stp ?_|(with_reducible refine brr ?_ ?_<;>intro h)|(with_reducible refine nilImm_map ?_ ?_<;>intro h)|with_reducible refine anyb_of ?_ ?_)); all_goals try (conv=>whnf)
      refine callV_data cv rfl ?_
      (repeat' (first|refine stp ?_|(with_reducible refine brr ?_ ?_<;>intro h)|(with_reducible refine nilImm_map ?_ ?_<;>intro h)|with_reducible refine anyb_of ?_ ?_)); all_goals try (conv=>whnf)
      · exact givesV_to rfl (congrArg PV.bool (no fun e => by have := e.2.2.1; rw [this] at h; simp at h))
      · refine callV_data cf rfl ?_
        (repeat' (first|refine stp ?_|(with_reducible refine brr ?_ ?_<;>intro h)|(with_reducible refine nilImm_map ?_ ?_<;>intro h)|with_reducible refine anyb_of ?_ ?_)); all_goals try (conv=>whnf)
        · refine callV_data cval rfl ?_
          (repeat' (first|refine stp ?_|(with_reducible refine brr ?_ ?_<;>intro h)|(with_reducible refine nilImm_map ?_ ?_<;>intro h)|with_reducible refine anyb_of ?_ ?_)); all_goals try (conv=>whnf)
          refine callV_data cc rfl ?_
          (repeat' (first|refine stp ?_|(with_reducible refine brr ?_ ?_<;>intro h)|(with_reducible refine nilImm_map ?_ ?_<;>intro h)|with_reducible refine anyb_of ?_ ?_)); all_goals try (conv=>whnf)
          refine callV_data c1 rfl ?_
          (repeat' (first|refine stp ?_|(with_reducible refine brr ?_ ?_<;>intro h)|(with_reducible refine nilImm_map ?_ ?_<;>intro h)|with_reducible refine anyb_of ?_ ?_)); all_goals try (conv=>whnf)
          · exact givesV_to rfl (congrArg PV.bool (no fun e => h (sgnQ_zero.2 (sub_zero_iff.2 e.2.2.2.2.1))))
          · refine callV_data csb rfl ?_
            (repeat' (first|refine stp ?_|(with_reducible refine brr ?_ ?_<;>intro h)|(with_reducible refine nilImm_map ?_ ?_<;>intro h)|with_reducible refine anyb_of ?_ ?_)); all_goals try (conv=>whnf)
            · refine callV_data c2 rfl ?_
              (repeat' (first|refine stp ?_|(with_reducible refine brr ?_ ?_<;>intro h)|(with_reducible refine nilImm_map ?_ ?_<;>intro h)|with_reducible refine anyb_of ?_ ?_)); all_goals try (conv=>whnf)
              have ht : D.ts = [] := List.length_eq_zero_iff.1 (by omega)
              have hray : s.ray = [] := List.length_eq_zero_iff.1 (by omega)
              refine givesV_to rfl (congrArg PV.bool ?_)
              rw [beq_dec']
              refine decide_eq_decide.2 ?_
              rw [sgnQ_zero, sub_zero_iff]
              unfold optP
              rw [hbz ht]
              exact ⟨fun e => ⟨⟨hpt.2, by assumption⟩, by assumption, hray, rfl, sub_zero_iff.1 (sgnQ_zero.1 (by assumption)), e⟩, fun e => e.2.2.2.2.2⟩
            · have ht : D.ts ≠ [] := fun e => by simp [e] at *
              exact givesV_to rfl (congrArg PV.bool (no fun e => by have h2 := e.2.2.2.1; rw [hbn ht] at h2; cases h2))
        · exact givesV_to rfl (congrArg PV.bool (no fun e => h e.1.2))
      · exact givesV_to rfl (congrArg PV.bool (no fun e => h e.2.1))
    · simp only [Bool.not_eq_true] at hok
      have hno := no fun e => by have h2 := e.2.2.2.1; rw [cmbV_no (by rw [← w1]; exact hok)] at h2; cases h2
      rw [hok] at cc
      refine fnC_v hmix hT ok_ropt (by simp [encP]) ?_
      (repeat' (first|refine stp ?_|(with_reducible refine brr ?_ ?_<;>intro h)|(with_reducible refine nilImm_map ?_ ?_<;>intro h)|with_reducible refine anyb_of ?_ ?_)); all_goals try (conv=>whnf)
      refine callV_data cp rfl ?_
      (repeat' (first|refine stp ?_|(with_reducible refine brr ?_ ?_<;>intro h)|(with_reducible refine nilImm_map ?_ ?_<;>intro h)|with_reducible refine anyb_of ?_ ?_)); all_goals try (conv=>whnf)
      refine callV_data cv rfl ?_
      (repeat' (first|refine stp ?_|(with_reducible refine brr ?_ ?_<;>intro h)|(with_reducible refine nilImm_map ?_ ?_<;>intro h)|with_reducible refine anyb_of ?_ ?_)); all_goals try (conv=>whnf)
      · exact givesV_to rfl (congrArg PV.bool hno)
      · refine callV_data cf rfl ?_
        (repeat' (first|refine stp ?_|(with_reducible refine brr ?_ ?_<;>intro h)|(with_reducible refine nilImm_map ?_ ?_<;>intro h)|with_reducible refine anyb_of ?_ ?_)); all_goals try (conv=>whnf)
        · refine callV_data cval rfl ?_
          (repeat' (first|refine stp ?_|(with_reducible refine brr ?_ ?_<;>intro h)|(with_reducible refine nilImm_map ?_ ?_<;>intro h)|with_reducible refine anyb_of ?_ ?_)); all_goals try (conv=>whnf)
          refine callV_data cc rfl ?_
          (repeat' (first|refine stp ?_|(with_reducible refine brr ?_ ?_<;>intro h)|(with_reducible refine nilImm_map ?_ ?_<;>intro h)|with_reducible refine anyb_of ?_ ?_)); all_goals try (conv=>whnf)
          exact givesV_to rfl (congrArg PV.bool hno)
        · exact givesV_to rfl (congrArg PV.bool hno)
      · exact givesV_to rfl (congrArg PV.bool hno)
  · rw [decide_eq_false hpt] at cp
    refine fnC_v hmix hT ok_ropt (by simp [encP]) ?_
    (repeat' (first|refine stp ?_|(with_reducible refine brr ?_ ?_<;>intro h)|(with_reducible refine nilImm_map ?_ ?_<;>intro h)|with_reducible refine anyb_of ?_ ?_)); all_goals try (conv=>whnf)
    refine callV_data cp rfl ?_
    (repeat' (first|refine stp ?_|(with_reducible refine brr ?_ ?_<;>intro h)|(with_reducible refine nilImm_map ?_ ?_<;>intro h)|with_reducible refine anyb_of ?_ ?_)); all_goals try (conv=>whnf)
    exact givesV_to rfl (congrArg PV.bool (no fun e => hpt ⟨by have := e.1.2.1; simpa using this, e.1.1⟩))

theorem ok_rinf : FnOk Tryz.prog 57 Tryz.f57 (Tryz.f57.body.getD .skip) [.tmp 4] 26 := ⟨Tryz.func57, rfl, by decide, Tryz.ntmps57, Tryz.results57, by kernel_rfl, by kernel_rfl⟩
theorem c_rinf (P : QP) (ys : List RatL) (hP : smP P) (hy : ∀ y ∈ ys, okQ 4 y) (hyl : ys.length ≤ 1048576) : Fn 57 [encP P, .imm (ys.map encRat)] (.data (.bool (infV P ys))) := by
  have cc := c_rcombn P ys hP hy hyl
  obtain ⟨z1, z2⟩ := cmbV_sz hP hy
  obtain ⟨w1, w2⟩ := cmbN_V hP ys
  unfold infV
  rw [← w1]
  by_cases hok : (cmbN P ys).2 = true
  · rw [w2 hok, hok] at cc
    rw [hok, Bool.true_and]
    generalize (cmbV P ys).1 = F at *
    have zl := cr_len z1.1
    have cs := c_rqsign (cr F.c) (okR_cr _) (by omega)
    rw [qv_cr] at cs
    refine fnC_v hmix hT ok_rinf (by simp [encP]) ?_
    (repeat' (first|refine stp ?_|(with_reducible refine brr ?_ ?_<;>intro h)|(with_reducible refine nilImm_map ?_ ?_<;>intro h)|with_reducible refine anyb_of ?_ ?_)); all_goals try (conv=>whnf)
    refine callV_data cc rfl ?_
    (repeat' (first|refine stp ?_|(with_reducible refine brr ?_ ?_<;>intro h)|(with_reducible refine nilImm_map ?_ ?_<;>intro h)|with_reducible refine anyb_of ?_ ?_)); all_goals try (conv=>whnf)
    · refine callV_data cs rfl ?_
      (repeat' (first|refine stp ?_|(with_reducible refine brr ?_ ?_<;>intro h)|(with_reducible refine nilImm_map ?_ ?_<;>intro h)|with_reducible refine anyb_of ?_ ?_)); all_goals try (conv=>whnf)
      have ht : F.ts = [] := List.length_eq_zero_iff.1 (by omega)
      refine givesV_to rfl (congrArg PV.bool (decide_eq_decide.2 ?_))
      rw [sgnQ_neg]
      exact ⟨fun e => ⟨ht, e⟩, fun e => e.2⟩
    · have ht : F.ts ≠ [] := fun e => by simp [e] at *
      exact givesV_to rfl (congrArg PV.bool (decide_eq_false fun e => ht e.1).symm)
  · simp only [Bool.not_eq_true] at hok
    rw [hok] at cc ⊢
    refine fnC_v hmix hT ok_rinf (by simp [encP]) ?_
    (repeat' (first|refine stp ?_|(with_reducible refine brr ?_ ?_<;>intro h)|(with_reducible refine nilImm_map ?_ ?_<;>intro h)|with_reducible refine anyb_of ?_ ?_)); all_goals try (conv=>whnf)
    refine callV_data cc rfl ?_
    (repeat' (first|refine stp ?_|(with_reducible refine brr ?_ ?_<;>intro h)|(with_reducible refine nilImm_map ?_ ?_<;>intro h)|with_reducible refine anyb_of ?_ ?_)); all_goals try (conv=>whnf)
    exact givesV_to rfl rfl

theorem ok_runb : FnOk Tryz.prog 61 Tryz.f61 (Tryz.f61.body.getD .skip) [.tmp 6] 46 := ⟨Tryz.func61, rfl, by decide, Tryz.ntmps61, Tryz.results61, by kernel_rfl, by kernel_rfl⟩
theorem c_runb (P : QP) (pt ray : List RatL) (hP : smP P) (hp : ∀ y ∈ pt, okQ 4 y) (hr : ∀ y ∈ ray, okQ 4 y) (hpl : pt.length ≤ 1048576) (hrl : ray.length ≤ 1048576) : Fn 61 [encP P, .imm (pt.map encRat), .imm (ray.map encRat)] (.data (.bool (decide (unbP P pt ray)))) := by
  have c1 := c_rpoints P pt hp hpl
  have c2 := c_rpoints P ray hr hrl
  have no : ¬ unbP P pt ray → false = decide (unbP P pt ray) := fun h => (decide_eq_false h).symm
  by_cases k1 : (pt.length : Int) = P.vars ∧ canL pt
  · by_cases k2 : (ray.length : Int) = P.vars ∧ canL ray
    · rw [decide_eq_true k1] at c1
      rw [decide_eq_true k2] at c2
      have cf := c_rfeas P (pt.map qv) hP (sz_list hp) (by simp; omega)
      rw [← encL_of k1.2] at cf
      have he := encL_of k2.2
      have hx := sz_list hr
      have hxl : (ray.map qv).length ≤ 1048576 := by simpa using hrl
      have hxv : ((ray.map qv).length : Int) = P.vars := by simpa using k2.1
      have huse : unbP P pt ray ↔ feas P (pt.map qv) ∧ unbX P (ray.map qv) := ⟨fun e => ⟨e.1.2, e.2.2.2⟩, fun e => ⟨⟨k1.2, e.1⟩, k2.1, k2.2, e.2⟩⟩
      rw [he] at c2 ⊢
      generalize ray.map qv = x at *
      refine fnC_v hmix hT ok_runb (by simp [encP]) ?_
      (repeat' (first|refine stp ?_|(with_reducible refine brr ?_ ?_<;>intro h)|(with_reducible refine nilImm_map ?_ ?_<;>intro h)|with_reducible refine anyb_of ?_ ?_)); all_goals try (conv=>whnf)
      refine callV_data c1 rfl ?_
      (repeat' (first|refine stp ?_|(with_reducible refine brr ?_ ?_<;>intro h)|(with_reducible refine nilImm_map ?_ ?_<;>intro h)|with_reducible refine anyb_of ?_ ?_)); all_goals try (conv=>whnf)
      refine callV_data c2 rfl ?_
      (repeat' (first|refine stp ?_|(with_reducible refine brr ?_ ?_<;>intro h)|(with_reducible refine nilImm_map ?_ ?_<;>intro h)|with_reducible refine anyb_of ?_ ?_)); all_goals try (conv=>whnf)
      refine callV_data cf rfl ?_
      (repeat' (first|refine stp ?_|(with_reducible refine brr ?_ ?_<;>intro h)|(with_reducible refine nilImm_map ?_ ?_<;>intro h)|with_reducible refine anyb_of ?_ ?_)); all_goals try (conv=>whnf)
      · have hpf : feas P (pt.map qv) := by assumption
        refine loopV_kept hT (fun (i : Nat) => [(2, .imm (x.map encX)), (3, .ptr 0 0 0), (7, .int .i64 i)]) (fun _ => [(0, ⟨[encP P], 6, true⟩)]) [] 1
          (fun i => i ≤ P.rows.length ∧ ∀ j, j < i → 0 ≤ dirQ P.rows[j]! x) (fun i => P.rows.length - i) 0 ⟨Nat.zero_le _, fun j h => (by omega)⟩ (by decide) (by simp) ?_ ?_
        · exact ⟨[0], [], [], [], ⟨trivial, trivial, trivial⟩, ⟨at_imm rfl rfl, at_ptr (by decide) rfl, at_int rfl rfl, trivial⟩, ⟨blk_box (by decide) rfl rfl rfl rfl rfl, trivial⟩, by simp [ren]⟩
        intro i ⟨i1, i2⟩
        have hl := hP.2.1
        by_cases hi : i < P.rows.length
        · obtain ⟨⟨h1, h2⟩, h3⟩ := smP_row hP hi
          have hv : ∀ t ∈ P.rows[i]!.ts, 0 ≤ t.1 ∧ t.1 < x.length := fun t ht => by have := h3.2 t ht; omega
          have cd := c_rdir P.rows[i]! x h1 hx hv h2 hxl
          have zd := cr_len (evQ_sz (f := ⟨P.rows[i]!.ts, 0⟩) ⟨(szF_zero 2 (by decide)).1, h1.2⟩ hx hv)
          have zd2 : (cr (dirQ P.rows[i]! x)).num.length < 2097140 := Nat.lt_of_le_of_lt zd.1 (by show 2 + P.rows[i]!.ts.length * _ < _; omega)
          have cs := c_rqsign (cr (dirQ P.rows[i]! x)) (okR_cr _) zd2
          rw [qv_cr] at cs
          (repeat' (first|refine stp ?_|(with_reducible refine brr ?_ ?_<;>intro h)|(with_reducible refine nilImm_map ?_ ?_<;>intro h)|with_reducible refine anyb_of ?_ ?_)); all_goals try (conv=>whnf)
          · refine callV_data cd rfl ?_
            (repeat' (first|refine stp ?_|(with_reducible refine brr ?_ ?_<;>intro h)|(with_reducible refine nilImm_map ?_ ?_<;>intro h)|with_reducible refine anyb_of ?_ ?_)); all_goals try (conv=>whnf)
            refine callV_data cs rfl ?_
            (repeat' (first|refine stp ?_|(with_reducible refine brr ?_ ?_<;>intro h)|(with_reducible refine nilImm_map ?_ ?_<;>intro h)|with_reducible refine anyb_of ?_ ?_)); all_goals try (conv=>whnf)
            · exact givesV_to rfl (congrArg PV.bool (no fun e => unbX_no hi (sgnQ_neg.1 h) (huse.1 e).2))
            · refine ⟨i + 1, ⟨⟨by omega, fun j hj => ?_⟩, by show P.rows.length - (i + 1) < P.rows.length - i; omega⟩, [0], [], [], [], ⟨trivial, trivial, trivial⟩, ⟨at_imm rfl rfl, at_ptr (by decide) rfl, at_int rfl (by omega), trivial⟩, ⟨blk_box (by decide) rfl rfl rfl rfl rfl, trivial⟩, by simp [ren]⟩
              rcases Nat.lt_or_eq_of_le (Nat.le_of_lt_succ hj) with hj | rfl
              · exact i2 j hj
              · exact Rat.not_lt.1 fun e => h (sgnQ_neg.2 e)
          all_goals (exfalso; omega)
        · have hv : ∀ t ∈ P.obj.ts, 0 ≤ t.1 ∧ t.1 < x.length := fun t ht => by have := hP.1.2.2.1.2 t ht; omega
          have cd := c_rdir P.obj x hP.2.2.2.1 hx hv hP.2.2.2.2 hxl
          have zd := cr_len (evQ_sz (f := ⟨P.obj.ts, 0⟩) ⟨(szF_zero 2 (by decide)).1, hP.2.2.2.1.2⟩ hx hv)
          have hol := hP.2.2.2.2
          have zd2 : (cr (dirQ P.obj x)).num.length < 2097140 := Nat.lt_of_le_of_lt zd.1 (by show 2 + P.obj.ts.length * _ < _; omega)
          have cs := c_rqsign (cr (dirQ P.obj x)) (okR_cr _) zd2
          rw [qv_cr] at cs
          have hrw := unbX_rows (P := P) (x := x) fun j hj => i2 j (by omega)
          (repeat' (first|refine stp ?_|(with_reducible refine brr ?_ ?_<;>intro h)|(with_reducible refine nilImm_map ?_ ?_<;>intro h)|with_reducible refine anyb_of ?_ ?_)); all_goals try (conv=>whnf)
          all_goals try (exfalso; omega)
          refine callV_data cd rfl ?_
          (repeat' (first|refine stp ?_|(with_reducible refine brr ?_ ?_<;>intro h)|(with_reducible refine nilImm_map ?_ ?_<;>intro h)|with_reducible refine anyb_of ?_ ?_)); all_goals try (conv=>whnf)
          refine callV_data cs rfl ?_
          (repeat' (first|refine stp ?_|(with_reducible refine brr ?_ ?_<;>intro h)|(with_reducible refine nilImm_map ?_ ?_<;>intro h)|with_reducible refine anyb_of ?_ ?_)); all_goals try (conv=>whnf)
          refine givesV_to rfl (congrArg PV.bool ?_)
          refine decide_eq_decide.2 ?_
          rw [sgnQ_neg, huse, hrw]
          exact ⟨fun e => ⟨hpf, e⟩, fun e => e.2⟩
      · exact givesV_to rfl (congrArg PV.bool (no fun e => h (huse.1 e).1))
    · have hno := no fun e => k2 ⟨e.2.1, e.2.2.1⟩
      rw [decide_eq_true k1] at c1
      rw [decide_eq_false k2] at c2
      refine fnC_v hmix hT ok_runb (by simp [encP]) ?_
      (repeat' (first|refine stp ?_|(with_reducible refine brr ?_ ?_<;>intro h)|(with_reducible refine nilImm_map ?_ ?_<;>intro h)|with_reducible refine anyb_of ?_ ?_)); all_goals try (conv=>whnf)
      refine callV_data c1 rfl ?_
      (repeat' (first|refine stp ?_|(with_reducible refine brr ?_ ?_<;>intro h)|(with_reducible refine nilImm_map ?_ ?_<;>intro h)|with_reducible refine anyb_of ?_ ?_)); all_goals try (conv=>whnf)
      refine callV_data c2 rfl ?_
      (repeat' (first|refine stp ?_|(with_reducible refine brr ?_ ?_<;>intro h)|(with_reducible refine nilImm_map ?_ ?_<;>intro h)|with_reducible refine anyb_of ?_ ?_)); all_goals try (conv=>whnf)
      exact givesV_to rfl (congrArg PV.bool hno)
  · have hno := no fun e => k1 ⟨by have := e.1.2.1; simpa using this, e.1.1⟩
    rw [decide_eq_false k1] at c1
    refine fnC_v hmix hT ok_runb (by simp [encP]) ?_
    (repeat' (first|refine stp ?_|(with_reducible refine brr ?_ ?_<;>intro h)|(with_reducible refine nilImm_map ?_ ?_<;>intro h)|with_reducible refine anyb_of ?_ ?_)); all_goals try (conv=>whnf)
    refine callV_data c1 rfl ?_
    (repeat' (first|refine stp ?_|(with_reducible refine brr ?_ ?_<;>intro h)|(with_reducible refine nilImm_map ?_ ?_<;>intro h)|with_reducible refine anyb_of ?_ ?_)); all_goals try (conv=>whnf)
    exact givesV_to rfl (congrArg PV.bool hno)
end Go.PI.Tryz
namespace Go.PI.Tryz
set_option linter.unnecessarySimpa false
open Go.Proofs Go.PI
set_option linter.unusedSimpArgs false
set_option linter.unusedVariables false

/-- A value is canonical and zero. -/
def zerP (s : SolL) : Prop := s.value = ⟨false, [], []⟩
instance (s : SolL) : Decidable (zerP s) := by unfold zerP; exact inferInstance
theorem zerP_iff {x : RatL} : (x = cr (qv x) ∧ qv x = 0) ↔ x = ⟨false, [], []⟩ := by
  constructor
  · rintro ⟨h1, h2⟩; rw [h2, cr_zero] at h1; exact h1
  · intro h; rw [h, ← cr_zero, qv_cr]; exact ⟨rfl, rfl⟩

theorem ok_rprov : FnOk Tryz.prog 51 Tryz.f51 (Tryz.f51.body.getD .skip) [.tmp 4] 60 := ⟨Tryz.func51, rfl, by decide, Tryz.ntmps51, Tryz.results51, by kernel_rfl, by kernel_rfl⟩
theorem c_rprov (P : QP) (s : SolL) (hP : smP P) (hs : okSol s) : Fn 51 [encP P, encSol s] (.data (.bool (decide (chkP P s)))) := by
  have s1 := hs.1
  have k1 := c_ropt P s hP hs
  have k2 := c_rinf P s.dual hP hs.2.2.1 (by have := hs.2.2.2.2.2.1; omega)
  have k3 := c_runb P s.point s.ray hP hs.2.1 hs.2.2.2.1 (by have := hs.2.2.2.2.1; omega) (by have := hs.2.2.2.2.2.2; omega)
  have cv := c_rqvalid s.value s1.1 (by have := s1.2; omega) (by have := s1.2; omega)
  have cs := c_rqsign s.value s1.1 (by have := s1.2; omega)
  have no : ¬ chkP P s → false = decide (chkP P s) := fun h => (decide_eq_false h).symm
  have hz : s.value = ⟨false, [], []⟩ → s.value = cr (qv s.value) ∧ sgnQ (qv s.value) = 0 := fun h => by
    obtain ⟨a, b⟩ := zerP_iff.2 h; exact ⟨a, sgnQ_zero.2 b⟩
  have hz2 : s.value = cr (qv s.value) → sgnQ (qv s.value) = 0 → s.value = ⟨false, [], []⟩ := fun a b => zerP_iff.1 ⟨a, sgnQ_zero.1 b⟩
  obtain ⟨st, val, pt, du, ra, ba, pv⟩ := s
  dsimp only at k2 k3 cv cs hz hz2
  by_cases e1 : st = 1
  · subst e1
    have hk : chkP P ⟨1, val, pt, du, ra, ba, pv⟩ ↔ optP P ⟨1, val, pt, du, ra, ba, pv⟩ := ⟨fun h => by rcases h with h | h | h; exact h.2; exact absurd (show (1 : Int) = 2 from h.1) (by decide); exact absurd (show (1 : Int) = 3 from h.1) (by decide), fun h => Or.inl ⟨rfl, h⟩⟩
    rw [show decide (chkP P ⟨1, val, pt, du, ra, ba, pv⟩) = decide (optP P ⟨1, val, pt, du, ra, ba, pv⟩) from decide_eq_decide.2 hk]
    refine fnC_v hmix hT ok_rprov (by simp [encP]) ?_
    (repeat' (first|refine stp ?_|(with_reducible refine brr ?_ ?_<;>intro h)|(with_reducible refine nilImm_map ?_ ?_<;>intro h)|with_reducible refine anyb_of ?_ ?_)); all_goals try (conv=>whnf)
    refine callV_data cv rfl ?_
    (repeat' (first|refine stp ?_|(with_reducible refine brr ?_ ?_<;>intro h)|(with_reducible refine nilImm_map ?_ ?_<;>intro h)|with_reducible refine anyb_of ?_ ?_)); all_goals try (conv=>whnf)
    · refine callV_data cs rfl ?_
      (repeat' (first|refine stp ?_|(with_reducible refine brr ?_ ?_<;>intro h)|(with_reducible refine nilImm_map ?_ ?_<;>intro h)|with_reducible refine anyb_of ?_ ?_)); all_goals try (conv=>whnf)
      refine callV_data k1 rfl ?_
      (repeat' (first|refine stp ?_|(with_reducible refine brr ?_ ?_<;>intro h)|(with_reducible refine nilImm_map ?_ ?_<;>intro h)|with_reducible refine anyb_of ?_ ?_)); all_goals try (conv=>whnf)
      exact givesV_to rfl rfl
    · refine callV_data k1 rfl ?_
      (repeat' (first|refine stp ?_|(with_reducible refine brr ?_ ?_<;>intro h)|(with_reducible refine nilImm_map ?_ ?_<;>intro h)|with_reducible refine anyb_of ?_ ?_)); all_goals try (conv=>whnf)
      exact givesV_to rfl rfl
  by_cases e2 : st = 2
  · subst e2
    have hk : chkP P ⟨2, val, pt, du, ra, ba, pv⟩ ↔ chk2 P ⟨2, val, pt, du, ra, ba, pv⟩ := ⟨fun h => by rcases h with h | h | h; exact absurd (show (2 : Int) = 1 from h.1) (by decide); exact h.2; exact absurd (show (2 : Int) = 3 from h.1) (by decide), fun h => Or.inr (Or.inl ⟨rfl, h⟩)⟩
    rw [show decide (chkP P ⟨2, val, pt, du, ra, ba, pv⟩) = decide (chk2 P ⟨2, val, pt, du, ra, ba, pv⟩) from decide_eq_decide.2 hk]
    have no : ¬ chk2 P ⟨2, val, pt, du, ra, ba, pv⟩ → false = decide (chk2 P ⟨2, val, pt, du, ra, ba, pv⟩) := fun h => (decide_eq_false h).symm
    refine fnC_v hmix hT ok_rprov (by simp [encP]) ?_
    (repeat' (first|refine stp ?_|(with_reducible refine brr ?_ ?_<;>intro h)|(with_reducible refine nilImm_map ?_ ?_<;>intro h)|with_reducible refine anyb_of ?_ ?_)); all_goals try (conv=>whnf)
    refine callV_data cv rfl ?_
    (repeat' (first|refine stp ?_|(with_reducible refine brr ?_ ?_<;>intro h)|(with_reducible refine nilImm_map ?_ ?_<;>intro h)|with_reducible refine anyb_of ?_ ?_)); all_goals try (conv=>whnf)
    · have hv1 : val = cr (qv val) := by assumption
      refine callV_data cs rfl ?_
      (repeat' (first|refine stp ?_|(with_reducible refine brr ?_ ?_<;>intro h)|(with_reducible refine nilImm_map ?_ ?_<;>intro h)|with_reducible refine anyb_of ?_ ?_)); all_goals try (conv=>whnf)
      · refine callV_data k2 rfl ?_
        (repeat' (first|refine stp ?_|(with_reducible refine brr ?_ ?_<;>intro h)|(with_reducible refine nilImm_map ?_ ?_<;>intro h)|with_reducible refine anyb_of ?_ ?_)); all_goals try (conv=>whnf)
        have hp : pt = [] := List.length_eq_zero_iff.1 (by omega)
        have hr : ra = [] := List.length_eq_zero_iff.1 (by omega)
        have hv := hz2 hv1 (by assumption)
        refine givesV_to rfl (congrArg PV.bool ?_)
        exact (Bool.eq_iff_iff.2 (by rw [decide_eq_true_iff]; exact ⟨fun e => ⟨hv, ⟨hp, hr⟩, e⟩, fun e => e.2.2⟩))
      · exact givesV_to rfl (congrArg PV.bool (no fun e => by have h2 := e.2.1.2; dsimp only at h2; subst h2; exact absurd rfl h))
      · exact givesV_to rfl (congrArg PV.bool (no fun e => by have h2 := e.2.1.1; dsimp only at h2; subst h2; exact absurd rfl h))
      · exact givesV_to rfl (congrArg PV.bool (no fun e => h (hz e.1).2))
    · exact givesV_to rfl (congrArg PV.bool (no fun e => h (hz e.1).1))
  by_cases e3 : st = 3
  · subst e3
    have hk : chkP P ⟨3, val, pt, du, ra, ba, pv⟩ ↔ chk3 P ⟨3, val, pt, du, ra, ba, pv⟩ := ⟨fun h => by rcases h with h | h | h; exact absurd (show (3 : Int) = 1 from h.1) (by decide); exact absurd (show (3 : Int) = 2 from h.1) (by decide); exact h.2, fun h => Or.inr (Or.inr ⟨rfl, h⟩)⟩
    rw [show decide (chkP P ⟨3, val, pt, du, ra, ba, pv⟩) = decide (chk3 P ⟨3, val, pt, du, ra, ba, pv⟩) from decide_eq_decide.2 hk]
    have no : ¬ chk3 P ⟨3, val, pt, du, ra, ba, pv⟩ → false = decide (chk3 P ⟨3, val, pt, du, ra, ba, pv⟩) := fun h => (decide_eq_false h).symm
    refine fnC_v hmix hT ok_rprov (by simp [encP]) ?_
    (repeat' (first|refine stp ?_|(with_reducible refine brr ?_ ?_<;>intro h)|(with_reducible refine nilImm_map ?_ ?_<;>intro h)|with_reducible refine anyb_of ?_ ?_)); all_goals try (conv=>whnf)
    refine callV_data cv rfl ?_
    (repeat' (first|refine stp ?_|(with_reducible refine brr ?_ ?_<;>intro h)|(with_reducible refine nilImm_map ?_ ?_<;>intro h)|with_reducible refine anyb_of ?_ ?_)); all_goals try (conv=>whnf)
    · have hv1 : val = cr (qv val) := by assumption
      refine callV_data cs rfl ?_
      (repeat' (first|refine stp ?_|(with_reducible refine brr ?_ ?_<;>intro h)|(with_reducible refine nilImm_map ?_ ?_<;>intro h)|with_reducible refine anyb_of ?_ ?_)); all_goals try (conv=>whnf)
      · refine callV_data k3 rfl ?_
        (repeat' (first|refine stp ?_|(with_reducible refine brr ?_ ?_<;>intro h)|(with_reducible refine nilImm_map ?_ ?_<;>intro h)|with_reducible refine anyb_of ?_ ?_)); all_goals try (conv=>whnf)
        have hp : du = [] := List.length_eq_zero_iff.1 (by omega)
        have hv := hz2 hv1 (by assumption)
        refine givesV_to rfl (congrArg PV.bool ?_)
        exact decide_eq_decide.2 ⟨fun e => ⟨hv, hp, e⟩, fun e => e.2.2⟩
      · exact givesV_to rfl (congrArg PV.bool (no fun e => by have h2 := e.2.1; dsimp only at h2; subst h2; exact absurd rfl h))
      · exact givesV_to rfl (congrArg PV.bool (no fun e => h (hz e.1).2))
    · exact givesV_to rfl (congrArg PV.bool (no fun e => h (hz e.1).1))
  have hno := no (fun h => by rcases h with h | h | h; exact e1 h.1; exact e2 h.1; exact e3 h.1)
  refine fnC_v hmix hT ok_rprov (by simp [encP]) ?_
  (repeat' (first|refine stp ?_|(with_reducible refine brr ?_ ?_<;>intro h)|(with_reducible refine nilImm_map ?_ ?_<;>intro h)|with_reducible refine anyb_of ?_ ?_)); all_goals try (conv=>whnf)
  refine callV_data cv rfl ?_
  (repeat' (first|refine stp ?_|(with_reducible refine brr ?_ ?_<;>intro h)|(with_reducible refine nilImm_map ?_ ?_<;>intro h)|with_reducible refine anyb_of ?_ ?_)); all_goals try (conv=>whnf)
  · refine callV_data cs rfl ?_
    (repeat' (first|refine stp ?_|(with_reducible refine brr ?_ ?_<;>intro h)|(with_reducible refine nilImm_map ?_ ?_<;>intro h)|with_reducible refine anyb_of ?_ ?_)); all_goals try (conv=>whnf)
    all_goals try (exfalso; omega)
    all_goals exact givesV_to rfl (congrArg PV.bool hno)
  all_goals try (exfalso; omega)
  all_goals exact givesV_to rfl (congrArg PV.bool hno)

theorem ok_rcheck : FnOk Tryz.prog 19 Tryz.f19 (Tryz.f19.body.getD .skip) [.tmp 4] 12 := ⟨Tryz.func19, rfl, by decide, Tryz.ntmps19, Tryz.results19, by kernel_rfl, by kernel_rfl⟩
theorem c_rcheck (P : QP) (s : SolL) (hP : smP P) (hs : okSol s) : Fn 19 [encP P, encSol s] (.data (.bool (decide (chkP P s)))) := by
  have cv := rpvalid_yes hP
  have cc := c_rprov P s hP hs
  refine fnC_v hmix hT ok_rcheck (by simp [encP]) ?_
  (repeat' (first|refine stp ?_|(with_reducible refine brr ?_ ?_<;>intro h)|(with_reducible refine nilImm_map ?_ ?_<;>intro h)|with_reducible refine anyb_of ?_ ?_)); all_goals try (conv=>whnf)
  refine callV_data cv rfl ?_
  (repeat' (first|refine stp ?_|(with_reducible refine brr ?_ ?_<;>intro h)|(with_reducible refine nilImm_map ?_ ?_<;>intro h)|with_reducible refine anyb_of ?_ ?_)); all_goals try (conv=>whnf)
  refine callV_data cc rfl ?_
  (repeat' (first|refine stp ?_|(with_reducible refine brr ?_ ?_<;>intro h)|(with_reducible refine nilImm_map ?_ ?_<;>intro h)|with_reducible refine anyb_of ?_ ?_)); all_goals try (conv=>whnf)
  exact givesV_to rfl rfl
theorem ok_ropt9 : FnOk Tryz.prog 21 Tryz.f21 (Tryz.f21.body.getD .skip) [.tmp 4] 12 := ⟨Tryz.func21, rfl, by decide, Tryz.ntmps21, Tryz.results21, by kernel_rfl, by kernel_rfl⟩
theorem c_ropt9 (P : QP) (s : SolL) (hP : smP P) (hs : okSol s) : Fn 21 [encP P, encSol s] (.data (.bool (decide (optP P s)))) := by
  have cv := rpvalid_yes hP
  have cc := c_ropt P s hP hs
  refine fnC_v hmix hT ok_ropt9 (by simp [encP]) ?_
  (repeat' (first|refine stp ?_|(with_reducible refine brr ?_ ?_<;>intro h)|(with_reducible refine nilImm_map ?_ ?_<;>intro h)|with_reducible refine anyb_of ?_ ?_)); all_goals try (conv=>whnf)
  refine callV_data cv rfl ?_
  (repeat' (first|refine stp ?_|(with_reducible refine brr ?_ ?_<;>intro h)|(with_reducible refine nilImm_map ?_ ?_<;>intro h)|with_reducible refine anyb_of ?_ ?_)); all_goals try (conv=>whnf)
  refine callV_data cc rfl ?_
  (repeat' (first|refine stp ?_|(with_reducible refine brr ?_ ?_<;>intro h)|(with_reducible refine nilImm_map ?_ ?_<;>intro h)|with_reducible refine anyb_of ?_ ?_)); all_goals try (conv=>whnf)
  exact givesV_to rfl rfl
theorem ok_rinf9 : FnOk Tryz.prog 23 Tryz.f23 (Tryz.f23.body.getD .skip) [.tmp 4] 12 := ⟨Tryz.func23, rfl, by decide, Tryz.ntmps23, Tryz.results23, by kernel_rfl, by kernel_rfl⟩
theorem c_rinf9 (P : QP) (ys : List RatL) (hP : smP P) (hy : ∀ y ∈ ys, okQ 4 y) (hyl : ys.length ≤ 1048576) : Fn 23 [encP P, .imm (ys.map encRat)] (.data (.bool (infV P ys))) := by
  have cv := rpvalid_yes hP
  have cc := c_rinf P ys hP hy hyl
  refine fnC_v hmix hT ok_rinf9 (by simp [encP]) ?_
  (repeat' (first|refine stp ?_|(with_reducible refine brr ?_ ?_<;>intro h)|(with_reducible refine nilImm_map ?_ ?_<;>intro h)|with_reducible refine anyb_of ?_ ?_)); all_goals try (conv=>whnf)
  refine callV_data cv rfl ?_
  (repeat' (first|refine stp ?_|(with_reducible refine brr ?_ ?_<;>intro h)|(with_reducible refine nilImm_map ?_ ?_<;>intro h)|with_reducible refine anyb_of ?_ ?_)); all_goals try (conv=>whnf)
  refine callV_data cc rfl ?_
  (repeat' (first|refine stp ?_|(with_reducible refine brr ?_ ?_<;>intro h)|(with_reducible refine nilImm_map ?_ ?_<;>intro h)|with_reducible refine anyb_of ?_ ?_)); all_goals try (conv=>whnf)
  exact givesV_to rfl rfl
theorem ok_runb9 : FnOk Tryz.prog 25 Tryz.f25 (Tryz.f25.body.getD .skip) [.tmp 6] 15 := ⟨Tryz.func25, rfl, by decide, Tryz.ntmps25, Tryz.results25, by kernel_rfl, by kernel_rfl⟩
theorem c_runb9 (P : QP) (pt ray : List RatL) (hP : smP P) (hp : ∀ y ∈ pt, okQ 4 y) (hr : ∀ y ∈ ray, okQ 4 y) (hpl : pt.length ≤ 1048576) (hrl : ray.length ≤ 1048576) : Fn 25 [encP P, .imm (pt.map encRat), .imm (ray.map encRat)] (.data (.bool (decide (unbP P pt ray)))) := by
  have cv := rpvalid_yes hP
  have cc := c_runb P pt ray hP hp hr hpl hrl
  refine fnC_v hmix hT ok_runb9 (by simp [encP]) ?_
  (repeat' (first|refine stp ?_|(with_reducible refine brr ?_ ?_<;>intro h)|(with_reducible refine nilImm_map ?_ ?_<;>intro h)|with_reducible refine anyb_of ?_ ?_)); all_goals try (conv=>whnf)
  refine callV_data cv rfl ?_
  (repeat' (first|refine stp ?_|(with_reducible refine brr ?_ ?_<;>intro h)|(with_reducible refine nilImm_map ?_ ?_<;>intro h)|with_reducible refine anyb_of ?_ ?_)); all_goals try (conv=>whnf)
  refine callV_data cc rfl ?_
  (repeat' (first|refine stp ?_|(with_reducible refine brr ?_ ?_<;>intro h)|(with_reducible refine nilImm_map ?_ ?_<;>intro h)|with_reducible refine anyb_of ?_ ?_)); all_goals try (conv=>whnf)
  exact givesV_to rfl rfl
end Go.PI.Tryz
namespace Go.PI
set_option linter.unusedVariables false
set_option linter.unusedSimpArgs false
set_option linter.unnecessarySimpa false

/-- The sum of a form's terms at a point. -/
def dot (x : List Rat) : List QT → Rat
  | [] => 0
  | t :: l => t.2 * x[t.1.toNat]! + dot x l
theorem ev1_dot (x : List Rat) : ∀ (l : List QT) (y : Rat), ev1 x l y = y + dot x l
  | [], y => by simp only [ev1, List.foldl_nil, dot]; grind
  | t :: l, y => by
    have e : ev1 x (t :: l) y = ev1 x l (y + t.2 * x[t.1.toNat]!) := rfl
    rw [e, ev1_dot x l]; simp only [dot]; grind
theorem dot_append (x : List Rat) : ∀ (a b : List QT), dot x (a ++ b) = dot x a + dot x b
  | [], b => by simp only [List.nil_append, dot]; grind
  | t :: a, b => by simp only [List.cons_append, dot, dot_append x a b]; grind
theorem dot_nzq (x : List Rat) (v : Int) (c : Rat) : dot x (nzq v c) = c * x[v.toNat]! := by
  unfold nzq; split
  · rename_i h; subst h; simp only [dot]; grind
  · simp only [dot]; grind
theorem dot_mrg (x : List Rat) (c : Rat) : ∀ (n : Nat) (a b : List QT), a.length + b.length ≤ n → dot x (mrg c a b) = dot x a + c * dot x b
  | n, [], [], _ => by rw [mrg]; simp only [dot]; grind
  | 0, _ :: _, _, h => by simp at h
  | 0, _, _ :: _, h => by simp at h
  | n + 1, p :: a, [], hn => by
    rw [mrg, dot_append, dot_nzq, dot_mrg x c n a [] (by simp at hn ⊢; omega)]; simp only [dot]; grind
  | n + 1, [], q :: b, hn => by
    rw [mrg, dot_append, dot_nzq, dot_mrg x c n [] b (by simp at hn ⊢; omega)]; simp only [dot]; grind
  | n + 1, p :: a, q :: b, hn => by
    simp only [List.length_cons] at hn
    rw [mrg]
    split
    · rw [dot_append, dot_nzq, dot_mrg x c n a (q :: b) (by simp; omega)]; simp only [dot]; grind
    · split
      · rw [dot_append, dot_nzq, dot_mrg x c n (p :: a) b (by simp; omega)]; simp only [dot]; grind
      · have he : p.1 = q.1 := by omega
        rw [dot_append, dot_nzq, dot_mrg x c n a b (by omega)]; simp only [dot, he]; grind
theorem evQ_dot (f : QF) (x : List Rat) : evQ f x = f.c + dot x f.ts := ev1_dot x f.ts f.c
theorem dirQ_dot (f : QF) (x : List Rat) : dirQ f x = dot x f.ts := by unfold dirQ; rw [evQ_dot]; grind
theorem evQ_merge (x : List Rat) (f g : QF) (c : Rat) : evQ (mergeQ f g c) x = evQ f x + c * evQ g x := by
  simp only [evQ_dot, mergeQ, dot_mrg x c _ _ _ (Nat.le_refl _)]; grind
theorem dirQ_merge (x : List Rat) (f g : QF) (c : Rat) : dirQ (mergeQ f g c) x = dirQ f x + c * dirQ g x := by
  simp only [dirQ_dot, mergeQ, dot_mrg x c _ _ _ (Nat.le_refl _)]
theorem evQ_nil {f : QF} (h : f.ts = []) (x : List Rat) : evQ f x = f.c := by rw [evQ_dot, h]; simp only [dot]; grind
theorem dirQ_nil {f : QF} (h : f.ts = []) (x : List Rat) : dirQ f x = 0 := by rw [dirQ_dot, h]; rfl
theorem evQ_zero (x : List Rat) : evQ zeroQ x = 0 := evQ_nil rfl x
theorem dirQ_zero (x : List Rat) : dirQ zeroQ x = 0 := dirQ_nil rfl x

/-- The multipliers' sum of a number of each row. -/
def wsum (val : QF → Rat) : List QF → List RatL → Rat
  | f :: fs, y :: ys => qv y * val f + wsum val fs ys
  | _, _ => 0
theorem cmb_val {val : QF → Rat} (hv : ∀ f g c, val (mergeQ f g c) = val f + c * val g) : ∀ (fs : List QF) (ys : List RatL) (s : QF), (cmb mergeQ fs ys s).2 = true → val (cmb mergeQ fs ys s).1 = val s + wsum val fs ys
  | [], _, s, _ => by simp only [cmb, wsum]; grind
  | _ :: _, [], s, _ => by simp only [cmb, wsum]; grind
  | f :: fs, y :: ys, s, h => by
    simp only [cmb] at h ⊢
    split at h
    · rename_i hp
      rw [if_pos hp, cmb_val hv fs ys _ h, hv]; simp only [wsum]; grind
    · exact absurd h (by simp)
theorem posQ_le {y : RatL} (h : posQ y) : 0 ≤ qv y := Rat.not_lt.1 fun h2 => (posQ_iff h.1).1 h (sgnQ_neg.2 h2)
theorem cmb_pos : ∀ (fs : List QF) (ys : List RatL) (s : QF), (cmb mergeQ fs ys s).2 = true → ∀ i, i < fs.length → i < ys.length → 0 ≤ qv ys[i]!
  | [], _, _, _, i, hi, _ => by simp at hi
  | _ :: _, [], _, _, i, _, hi => by simp at hi
  | f :: fs, y :: ys, s, h, i, hi, hj => by
    simp only [cmb] at h
    split at h
    · rename_i hp
      match i, hi, hj with
      | 0, _, _ => simpa using posQ_le hp
      | i + 1, hi, hj => simpa using cmb_pos fs ys _ h i (by simpa using hi) (by simpa using hj)
    · exact absurd h (by simp)
theorem wsum_nonneg {val : QF → Rat} : ∀ (fs : List QF) (ys : List RatL) (s : QF), (cmb mergeQ fs ys s).2 = true → (∀ f ∈ fs, 0 ≤ val f) → 0 ≤ wsum val fs ys
  | [], _, _, _, _ => by simp only [wsum]; exact Rat.le_refl
  | _ :: _, [], _, _, _ => by simp only [wsum]; exact Rat.le_refl
  | f :: fs, y :: ys, s, h, hf => by
    simp only [cmb] at h
    split at h
    · rename_i hp
      simp only [wsum]
      exact Rat.add_nonneg (Rat.mul_nonneg (posQ_le hp) (hf f (by simp))) (wsum_nonneg fs ys _ h fun g hg => hf g (by simp [hg]))
    · exact absurd h (by simp)
theorem add_zero_of {a b : Rat} (ha : 0 ≤ a) (hb : 0 ≤ b) (h : a + b = 0) : a = 0 ∧ b = 0 := by constructor <;> grind
/-- The sum is zero exactly if each row's number or its multiplier is. -/
theorem wsum_zero {val : QF → Rat} : ∀ (fs : List QF) (ys : List RatL) (s : QF), (cmb mergeQ fs ys s).2 = true → (∀ f ∈ fs, 0 ≤ val f) → ys.length = fs.length → (wsum val fs ys = 0 ↔ ∀ i, i < ys.length → val fs[i]! = 0 ∨ qv ys[i]! = 0)
  | [], [], _, _, _, _ => by simp [wsum]
  | [], _ :: _, _, _, _, h => by simp at h
  | _ :: _, [], _, _, _, h => by simp at h
  | f :: fs, y :: ys, s, h, hf, hl => by
    simp only [cmb] at h
    split at h
    · rename_i hp
      have ih := wsum_zero fs ys _ h (fun g hg => hf g (by simp [hg])) (by simpa using hl)
      have h1 : 0 ≤ qv y * val f := Rat.mul_nonneg (posQ_le hp) (hf f (by simp))
      have h2 := wsum_nonneg (val := val) fs ys _ h fun g hg => hf g (by simp [hg])
      simp only [wsum]
      constructor
      · intro e i hi
        obtain ⟨e1, e2⟩ := add_zero_of h1 h2 e
        match i, hi with
        | 0, _ => simp only [List.getElem!_cons_zero]; rcases Rat.mul_eq_zero.1 e1 with h | h; exact .inr h; exact .inl h
        | i + 1, hi => simpa using ih.1 e2 i (by simpa using hi)
      · intro e
        have e0 := e 0 (by simp)
        simp only [List.getElem!_cons_zero] at e0
        rw [ih.2 fun i hi => by simpa using e (i + 1) (by simpa using hi)]
        rcases e0 with h | h <;> rw [h] <;> grind
    · exact absurd h (by simp)
end Go.PI
namespace Go.PI.Tryz
set_option linter.unusedVariables false
set_option linter.unusedSimpArgs false
set_option linter.unnecessarySimpa false
open Go.Proofs Go.PI

theorem cmbV_eq {P : QP} (hP : okQP P) {ys : List RatL} (h : (cmbV P ys).2 = true) :
    ys.length = P.rows.length ∧ (cmb mergeQ P.rows ys zeroQ).2 = true ∧ (cmbV P ys).1 = (cmb mergeQ P.rows ys zeroQ).1 := by
  have e := cmb_eq (op := opP) (fun s f y hs hf => opP_eq hs hf y) P.rows ys zeroQ srt_nil fun f hf => (hP.2.2.2 f hf).1
  unfold cmbV at h ⊢
  rw [e] at h ⊢
  split at h
  · rename_i hh; rw [if_pos hh]; exact ⟨hh.1, hh.2, rfl⟩
  · exact absurd h (by simp)
/-- A bound that there is: the objective is the bound and the multipliers' sum, at each point and along each ray. -/
theorem bnd_val {P : QP} (hP : okQP P) {ys : List RatL} (h : (bndV P ys).2 = true) (x : List Rat) :
    (cmbV P ys).2 = true ∧ evQ P.obj x = (bndV P ys).1 + wsum (fun f => evQ f x) P.rows ys ∧ dirQ P.obj x = wsum (fun f => dirQ f x) P.rows ys := by
  unfold bndV at h ⊢
  split at h
  · rename_i hh
    rw [if_pos hh]
    obtain ⟨h1, h2⟩ := hh
    obtain ⟨_, h3, h4⟩ := cmbV_eq hP h1
    have e1 := evQ_merge x P.obj (cmbV P ys).1 (-1)
    have e2 := dirQ_merge x P.obj (cmbV P ys).1 (-1)
    rw [evQ_nil h2] at e1
    rw [dirQ_nil h2] at e2
    have e3 := cmb_val (val := fun f => evQ f x) (evQ_merge x) P.rows ys zeroQ h3
    have e4 := cmb_val (val := fun f => dirQ f x) (dirQ_merge x) P.rows ys zeroQ h3
    rw [← h4] at e3 e4
    simp only [evQ_zero, dirQ_zero] at e3 e4
    refine ⟨h1, ?_, ?_⟩ <;> grind
  · exact absurd h (by simp)
theorem bnd_le {P : QP} (hP : okQP P) {ys : List RatL} (h : (bndV P ys).2 = true) {x : List Rat} (hx : feas P x) :
    (bndV P ys).1 ≤ evQ P.obj x ∧ ((bndV P ys).1 = evQ P.obj x ↔ ∀ i, i < ys.length → evQ P.rows[i]! x = 0 ∨ qv ys[i]! = 0) := by
  obtain ⟨h1, h2, _⟩ := bnd_val hP h x
  obtain ⟨hl, h3, _⟩ := cmbV_eq hP h1
  have h4 := wsum_nonneg (val := fun f => evQ f x) P.rows ys zeroQ h3 hx.2
  have h5 := wsum_zero (val := fun f => evQ f x) P.rows ys zeroQ h3 hx.2 hl
  refine ⟨by grind, ?_⟩
  rw [← h5]
  constructor <;> intro e <;> grind
theorem inf_no {P : QP} (hP : okQP P) {ys : List RatL} (h : infV P ys = true) {x : List Rat} (hx : feas P x) : False := by
  unfold infV at h
  simp only [Bool.and_eq_true, decide_eq_true_eq] at h
  obtain ⟨h1, h2, h3⟩ := h
  obtain ⟨_, h4, h5⟩ := cmbV_eq hP h1
  have e3 := cmb_val (val := fun f => evQ f x) (evQ_merge x) P.rows ys zeroQ h4
  have h6 := wsum_nonneg (val := fun f => evQ f x) P.rows ys zeroQ h4 hx.2
  rw [← h5] at e3
  simp only [evQ_nil h2, evQ_zero] at e3
  grind
theorem unb_no {P : QP} (hP : okQP P) {ys : List RatL} (h : (bndV P ys).2 = true) {x : List Rat} (hx : unbX P x) : False := by
  obtain ⟨h1, _, h2⟩ := bnd_val hP h x
  obtain ⟨_, h3, _⟩ := cmbV_eq hP h1
  have h4 := wsum_nonneg (val := fun f => dirQ f x) P.rows ys zeroQ h3 hx.1
  have := hx.2
  grind
/-- At most one status has a proof. -/
theorem one_status {P : QP} (hP : okQP P) {s t : SolL} (hs : chkP P s) (ht : chkP P t) : s.status = t.status ∧ qv s.value = qv t.value := by
  have val : ∀ {r : RatL}, r = ⟨false, [], []⟩ → qv r = 0 := fun h => by rw [h, ← cr_zero, qv_cr]
  have oo : ∀ {a b : SolL}, optP P a → optP P b → qv a.value ≤ qv b.value := fun ha hb => by
    have := (bnd_le hP ha.2.2.2.1 hb.1.2).1
    rw [ha.2.2.2.2.2, hb.2.2.2.2.1] at this
    exact this
  rcases hs with ⟨a, hs⟩ | ⟨a, hs⟩ | ⟨a, hs⟩ <;> rcases ht with ⟨b, ht⟩ | ⟨b, ht⟩ | ⟨b, ht⟩
  · exact ⟨by rw [a, b], Rat.le_antisymm (oo hs ht) (oo ht hs)⟩
  · exact (inf_no hP ht.2.2 hs.1.2).elim
  · exact (unb_no hP hs.2.2.2.1 ht.2.2.2.2.2).elim
  · exact (inf_no hP hs.2.2 ht.1.2).elim
  · exact ⟨by rw [a, b], by rw [val hs.1, val ht.1]⟩
  · exact (inf_no hP hs.2.2 ht.2.2.1.2).elim
  · exact (unb_no hP ht.2.2.2.1 hs.2.2.2.2.2).elim
  · exact (inf_no hP ht.2.2 hs.2.2.1.2).elim
  · exact ⟨by rw [a, b], by rw [val hs.1, val ht.1]⟩
end Go.PI.Tryz
namespace Go.PI.Tryz
set_option linter.unnecessarySimpa false
open Go.Proofs Go.PI
set_option linter.unusedSimpArgs false
set_option linter.unusedVariables false

/-- A solution as it comes in. -/
def okB (s : SolL) : Prop := okQ 1048576 s.value ∧ okL s.point ∧ okL s.dual ∧ okL s.ray
theorem okSol_of {s : SolL} (h : okB s) (h1 : smL s.point) (h2 : smL s.dual) (h3 : smL s.ray) (h4 : smL [s.value]) : okSol s := by
  have hv := h4.2 0 (by simp)
  simp only [List.getElem!_cons_zero] at hv
  exact ⟨⟨h.1.1, hv.1, hv.2⟩, (okL_4 h.2.1 h1).1, (okL_4 h.2.2.1 h2).1, (okL_4 h.2.2.2 h3).1, h1.1, h2.1, h3.1⟩
theorem okL_one {x : RatL} (h : okQ 1048576 x) : okL [x] := ⟨by simp, fun y hy => by simp at hy; subst hy; exact h⟩

theorem ok_dualsOneStatus : FnOk Tryz.prog 9 Tryz.f9 (Tryz.f9.body.getD .skip) [.tmp 6] 54 := ⟨Tryz.func9, rfl, by decide, Tryz.ntmps9, Tryz.results9, by kernel_rfl, by kernel_rfl⟩
theorem c_dualsOneStatus (p : ProgL) (s t : SolL) (hp : okP 1048576 p) (hs : okB s) (ht : okB t) : Fn 9 [encProg p, encSol s, encSol t] (.data (.bool true)) := by
  have cw := c_wsmall p [s.point, s.dual, s.ray, [s.value], t.point, t.dual, t.ray, [t.value]] (okP_le (by decide) hp) (by simp) (okL_len (fun l hl => by
    simp only [List.mem_cons, List.not_mem_nil, or_false] at hl
    rcases hl with rfl | rfl | rfl | rfl | rfl | rfl | rfl | rfl
    · exact hs.2.1
    · exact hs.2.2.1
    · exact hs.2.2.2
    · exact okL_one hs.1
    · exact ht.2.1
    · exact ht.2.2.1
    · exact ht.2.2.2
    · exact okL_one ht.1))
  by_cases hsm : smA p [s.point, s.dual, s.ray, [s.value], t.point, t.dual, t.ray, [t.value]]
  · rw [dB_true.2 hsm] at cw
    have hP := smP_of hp hsm.1
    have he := encP_of hsm.1.2.2.2
    have h := hsm.2
    have os := okSol_of hs (h 0 (by simp)) (h 1 (by simp)) (h 2 (by simp)) (h 3 (by simp))
    have ot := okSol_of ht (h 4 (by simp)) (h 5 (by simp)) (h 6 (by simp)) (h 7 (by simp))
    have c1 := c_dcheck p.Q s hP os
    have c2 := c_dcheck p.Q t hP ot
    have one : chkP p.Q s → chkP p.Q t → s.status = t.status ∧ sgnQ (qv s.value - qv t.value) = 0 := fun a b => by
      obtain ⟨e1, e2⟩ := one_status hP.1 a b
      exact ⟨e1, sgnQ_zero.2 (by rw [e2]; grind)⟩
    have cq := c_rqcmp s.value t.value hs.1.1 ht.1.1 (by have := os.1.2; omega) (by have := os.1.2; omega) (by have := ot.1.2; omega) (by have := ot.1.2; omega)
    rw [he] at cw ⊢
    generalize p.Q = P at *
    refine fnC_v hmix hT ok_dualsOneStatus (by simp [encP, encSol]) ?_
    (repeat' (first|refine stp ?_|(with_reducible refine brr ?_ ?_<;>intro h)|(with_reducible refine nilImm_map ?_ ?_<;>intro h)|with_reducible refine anyb_of ?_ ?_)); all_goals try (conv=>whnf)
    refine callV_data c_awake rfl ?_
    (repeat' (first|refine stp ?_|(with_reducible refine brr ?_ ?_<;>intro h)|(with_reducible refine nilImm_map ?_ ?_<;>intro h)|with_reducible refine anyb_of ?_ ?_)); all_goals try (conv=>whnf)
    refine callV_data cw rfl ?_
    (repeat' (first|refine stp ?_|(with_reducible refine brr ?_ ?_<;>intro h)|(with_reducible refine nilImm_map ?_ ?_<;>intro h)|with_reducible refine anyb_of ?_ ?_)); all_goals try (conv=>whnf)
    refine callV_data c1 rfl ?_
    (repeat' (first|refine stp ?_|(with_reducible refine brr ?_ ?_<;>intro h)|(with_reducible refine nilImm_map ?_ ?_<;>intro h)|with_reducible refine anyb_of ?_ ?_)); all_goals try (conv=>whnf)
    · refine callV_data c2 rfl ?_
      (repeat' (first|refine stp ?_|(with_reducible refine brr ?_ ?_<;>intro h)|(with_reducible refine nilImm_map ?_ ?_<;>intro h)|with_reducible refine anyb_of ?_ ?_)); all_goals try (conv=>whnf)
      · obtain ⟨e1, e2⟩ := one (by assumption) (by assumption)
        rw [e2] at cq
        refine callV_data cq rfl ?_
        (repeat' (first|refine stp ?_|(with_reducible refine brr ?_ ?_<;>intro h)|(with_reducible refine nilImm_map ?_ ?_<;>intro h)|with_reducible refine anyb_of ?_ ?_)); all_goals try (conv=>whnf)
        exact givesV_to rfl rfl
      all_goals first | exact givesV_to rfl rfl | (exfalso; have e := (one (by assumption) (by assumption)).1; first | exact absurd e (by assumption) | omega)
    all_goals exact givesV_to rfl rfl
  · rw [dB_false.2 hsm] at cw
    refine fnC_v hmix hT ok_dualsOneStatus (by simp [encProg, encSol]) ?_
    (repeat' (first|refine stp ?_|(with_reducible refine brr ?_ ?_<;>intro h)|(with_reducible refine nilImm_map ?_ ?_<;>intro h)|with_reducible refine anyb_of ?_ ?_)); all_goals try (conv=>whnf)
    refine callV_data c_awake rfl ?_
    (repeat' (first|refine stp ?_|(with_reducible refine brr ?_ ?_<;>intro h)|(with_reducible refine nilImm_map ?_ ?_<;>intro h)|with_reducible refine anyb_of ?_ ?_)); all_goals try (conv=>whnf)
    refine callV_data cw rfl ?_
    (repeat' (first|refine stp ?_|(with_reducible refine brr ?_ ?_<;>intro h)|(with_reducible refine nilImm_map ?_ ?_<;>intro h)|with_reducible refine anyb_of ?_ ?_)); all_goals try (conv=>whnf)
    exact givesV_to rfl rfl
end Go.PI.Tryz
namespace Go.PI.Tryz
set_option linter.unnecessarySimpa false
open Go.Proofs Go.PI
set_option linter.unusedSimpArgs false
set_option linter.unusedVariables false

theorem ok_dualsCheckMatchesReference : FnOk Tryz.prog 4 Tryz.f4 (Tryz.f4.body.getD .skip) [.tmp 4] 62 := ⟨Tryz.func4, rfl, by decide, Tryz.ntmps4, Tryz.results4, by kernel_rfl, by kernel_rfl⟩
theorem c_dualsCheckMatchesReference (p : ProgL) (s : SolL) (hp : okP 1048576 p) (hs : okB s) : Fn 4 [encProg p, encSol s] (.data (.bool true)) := by
  have cw := c_wsmall p [s.point, s.dual, s.ray, [s.value]] (okP_le (by decide) hp) (by simp) (okL_len (fun l hl => by
    simp only [List.mem_cons, List.not_mem_nil, or_false] at hl
    rcases hl with rfl | rfl | rfl | rfl
    · exact hs.2.1
    · exact hs.2.2.1
    · exact hs.2.2.2
    · exact okL_one hs.1))
  by_cases hsm : smA p [s.point, s.dual, s.ray, [s.value]]
  · rw [dB_true.2 hsm] at cw
    have hP := smP_of hp hsm.1
    have he := encP_of hsm.1.2.2.2
    have h := hsm.2
    have os := okSol_of hs (h 0 (by simp)) (h 1 (by simp)) (h 2 (by simp)) (h 3 (by simp))
    have l1 : s.dual.length ≤ 1048576 := by have := os.2.2.2.2.2.1; omega
    have l2 : s.point.length ≤ 1048576 := by have := os.2.2.2.2.1; omega
    have l3 : s.ray.length ≤ 1048576 := by have := os.2.2.2.2.2.2; omega
    have a1 := c_dcheck p.Q s hP os
    have a2 := c_rcheck p.Q s hP os
    have b1 := c_dopt p.Q s hP os
    have b2 := c_ropt9 p.Q s hP os
    have d1 := c_dinfeas p.Q s.dual hP os.2.2.1 l1
    have d2 := c_rinf9 p.Q s.dual hP os.2.2.1 l1
    have e1 := c_dunb p.Q s.point s.ray hP os.2.1 os.2.2.2.1 l2 l3
    have e2 := c_runb9 p.Q s.point s.ray hP os.2.1 os.2.2.2.1 l2 l3
    rw [he] at cw ⊢
    generalize p.Q = P at *
    generalize decide (chkP P s) = B1 at *
    generalize decide (optP P s) = B2 at *
    generalize infV P s.dual = B3 at *
    generalize decide (unbP P s.point s.ray) = B4 at *
    refine fnC_v hmix hT ok_dualsCheckMatchesReference (by simp [encP, encSol]) ?_
    (repeat' (first|refine stp ?_|(with_reducible refine brr ?_ ?_<;>intro h)|(with_reducible refine nilImm_map ?_ ?_<;>intro h)|with_reducible refine anyb_of ?_ ?_)); all_goals try (conv=>whnf)
    refine callV_data c_awake rfl ?_
    (repeat' (first|refine stp ?_|(with_reducible refine brr ?_ ?_<;>intro h)|(with_reducible refine nilImm_map ?_ ?_<;>intro h)|with_reducible refine anyb_of ?_ ?_)); all_goals try (conv=>whnf)
    refine callV_data cw rfl ?_
    (repeat' (first|refine stp ?_|(with_reducible refine brr ?_ ?_<;>intro h)|(with_reducible refine nilImm_map ?_ ?_<;>intro h)|with_reducible refine anyb_of ?_ ?_)); all_goals try (conv=>whnf)
    refine callV_data a1 rfl ?_
    (repeat' (first|refine stp ?_|(with_reducible refine brr ?_ ?_<;>intro h)|(with_reducible refine nilImm_map ?_ ?_<;>intro h)|with_reducible refine anyb_of ?_ ?_)); all_goals try (conv=>whnf)
    refine callV_data a2 rfl ?_
    (repeat' (first|refine stp ?_|(with_reducible refine brr ?_ ?_<;>intro h)|(with_reducible refine nilImm_map ?_ ?_<;>intro h)|with_reducible refine anyb_of ?_ ?_)); all_goals try (conv=>whnf)
    · refine callV_data b1 rfl ?_
      (repeat' (first|refine stp ?_|(with_reducible refine brr ?_ ?_<;>intro h)|(with_reducible refine nilImm_map ?_ ?_<;>intro h)|with_reducible refine anyb_of ?_ ?_)); all_goals try (conv=>whnf)
      refine callV_data b2 rfl ?_
      (repeat' (first|refine stp ?_|(with_reducible refine brr ?_ ?_<;>intro h)|(with_reducible refine nilImm_map ?_ ?_<;>intro h)|with_reducible refine anyb_of ?_ ?_)); all_goals try (conv=>whnf)
      · refine callV_data d1 rfl ?_
        (repeat' (first|refine stp ?_|(with_reducible refine brr ?_ ?_<;>intro h)|(with_reducible refine nilImm_map ?_ ?_<;>intro h)|with_reducible refine anyb_of ?_ ?_)); all_goals try (conv=>whnf)
        refine callV_data d2 rfl ?_
        (repeat' (first|refine stp ?_|(with_reducible refine brr ?_ ?_<;>intro h)|(with_reducible refine nilImm_map ?_ ?_<;>intro h)|with_reducible refine anyb_of ?_ ?_)); all_goals try (conv=>whnf)
        · refine callV_data e1 rfl ?_
          (repeat' (first|refine stp ?_|(with_reducible refine brr ?_ ?_<;>intro h)|(with_reducible refine nilImm_map ?_ ?_<;>intro h)|with_reducible refine anyb_of ?_ ?_)); all_goals try (conv=>whnf)
          refine callV_data e2 rfl ?_
          (repeat' (first|refine stp ?_|(with_reducible refine brr ?_ ?_<;>intro h)|(with_reducible refine nilImm_map ?_ ?_<;>intro h)|with_reducible refine anyb_of ?_ ?_)); all_goals try (conv=>whnf)
          all_goals exact givesV_to rfl (by cases B4 <;> rfl)
        all_goals exact absurd trivial h
      all_goals exact absurd trivial h
    all_goals exact absurd trivial h
  · rw [dB_false.2 hsm] at cw
    refine fnC_v hmix hT ok_dualsCheckMatchesReference (by simp [encProg, encSol]) ?_
    (repeat' (first|refine stp ?_|(with_reducible refine brr ?_ ?_<;>intro h)|(with_reducible refine nilImm_map ?_ ?_<;>intro h)|with_reducible refine anyb_of ?_ ?_)); all_goals try (conv=>whnf)
    refine callV_data c_awake rfl ?_
    (repeat' (first|refine stp ?_|(with_reducible refine brr ?_ ?_<;>intro h)|(with_reducible refine nilImm_map ?_ ?_<;>intro h)|with_reducible refine anyb_of ?_ ?_)); all_goals try (conv=>whnf)
    refine callV_data cw rfl ?_
    (repeat' (first|refine stp ?_|(with_reducible refine brr ?_ ?_<;>intro h)|(with_reducible refine nilImm_map ?_ ?_<;>intro h)|with_reducible refine anyb_of ?_ ?_)); all_goals try (conv=>whnf)
    exact givesV_to rfl rfl
end Go.PI.Tryz
namespace Go.Proofs.YtigeioodiljlaaaGreat
set_option linter.unusedSimpArgs false
set_option linter.unnecessarySimpa false
open Go Go.PI Go.PI.Tryz
open Go.ChangeShapes Go.WideShapes Go.ChangeAt Go.RowKit
set_option linter.unusedVariables false
theorem ok_law_dualsCheckMatchesReference : FnOk Tryz.prog 4 Tryz.f4 (Tryz.f4.body.getD .skip) [.tmp 4] 62 := ⟨Tryz.func4, rfl, by decide, Tryz.ntmps4, Tryz.results4, by kernel_rfl, by kernel_rfl⟩
set_option maxRecDepth 100000 in
theorem dualsCheckMatchesReference_contract (H : Type) (enc : TypeId × Value → H) (W : World) (args : Array Value) (ds gs : List (DataW H)) (before : List MemPlace) (base : Nat) (hb : Rows.uptoBulkAll ds ≤ 1048576)
    (hvl : ∀ (j : Nat) t v, Tryz.f4.params[j]? = some t → args[j]? = some v → Value.okWide Tryz.prog W .any base t v)
    (hW : DataW.Whole enc Tryz.prog Tryz.f4.params.toList Rows.dualsCheckMatchesReferenceSpec.vars false W args.toList ds gs before) :
    Calls Tryz.prog 4 args W fun e W' => ∃ v, e = .returned v ∧ Rows.dualsCheckMatchesReferenceSpec.post enc Tryz.prog Tryz.f4 false true false false W args v W' := by
  have hW' := hW
  obtain ⟨p, q, hA0, hV, hpq, hfz, hnd⟩ := hW
  have hA : DataW.TrodAll enc Tryz.prog W 0 (fun _ => true) true Tryz.f4.params.toList args.toList ds p := hA0
  rw [Tryz.params4] at hA hvl
  obtain ⟨v0, vs0, d0, ds0, p0, q0', hargs, rfl, hp0, ⟨fuel0, h0⟩, r0⟩ := trodAll_cons hA
  obtain ⟨v1, vs1, d1, ds1, p1, q1', rfl, rfl, hp1, ⟨fuel1, h1⟩, r1⟩ := trodAll_cons r0
  obtain ⟨rfl, rfl, rfl⟩ := trodAll_nil r1
  have hargs2 : args = #[v0, v1] := by cases args; simp_all
  rw [hargs2] at hvl
  simp only [bulkAll_eq, bulkAll] at hb
  obtain ⟨x0, g0, q0⟩ := (r_prog _) fuel0 (Nat.le_refl _) _ _ _ h0
  obtain ⟨x1, g1, q1⟩ := (r_sol _) fuel1 (Nat.le_refl _) _ _ _ h1
  have hval : ∀ (j : Nat) (d : PV), [encProg x0, encSol x1][j]? = some d → RD W (AllB W) d (args.toList.getD j undef) := by
    intro j d hj
    rw [hargs]
    match j, hj with
    | 0, hj => cases hj; exact rc_agg (arg_struct hvl 0 (t := 31) (v := v0) rfl rfl Tryz.underlying31) g0
    | 1, hj => cases hj; exact rc_agg (arg_struct hvl 1 (t := 45) (v := v1) rfl rfl Tryz.underlying45) g1
    | n + 2, hj => simp at hj
  refine law_post (G := G0) laidOut (by kernel_rfl) rfl Tryz.underlying4 rfl (fun gs hgs => by subst hgs; rfl) hW' gok (pvs := [encProg x0, encSol x1]) ⟨by rw [hargs]; rfl, hval⟩ ?_
  exact c_dualsCheckMatchesReference x0 x1 (q0.ok (by omega)) ⟨okQ_le (by omega) q1.1, q1.2 (by omega)⟩
set_option maxRecDepth 100000 in
theorem dualsCheckMatchesReference_lifted (os : Os) (started : os.Started) (H : Type) (enc : TypeId × Value → H) (F : Stop.Interp) :
    ReturnsInHanded {} Tryz.checked os 4 .any ((Rows.OpenSpec.upto Rows.dualsCheckMatchesReferenceSpec).pre6 enc Tryz.prog Tryz.f4 Rows.dualsCheckMatchesReferenceUptoRow.domain false) (((Rows.OpenSpec.upto Rows.dualsCheckMatchesReferenceSpec).at F).post enc Tryz.prog Tryz.f4 false true false false) := by
  refine returnsInHanded_of_cond (C := Tryz.checked) (s := Rows.OpenSpec.upto Rows.dualsCheckMatchesReferenceSpec) (k := Rows.uptoSmall) rfl own started (by kernel_rfl) Tryz.func4
    (OpenSpec.witness (enc := enc) (C := Tryz.checked) (s := Rows.OpenSpec.upto Rows.dualsCheckMatchesReferenceSpec) (k := Rows.uptoSmall) rfl false ⟨#[], #[.agg #[.int .i64 0, .slice none 0 0, .slice none 0 0, .bool false, .slice none 0 0, .slice none 0 0], .agg #[.int .i64 0, .bool false, .slice none 0 0, .slice none 0 0, .slice none 0 0, .slice none 0 0, .slice none 0 0, .slice none 0 0, .int .i64 0]], []⟩ 8 (by kernel_rfl) (by kernel_rfl) (by kernel_rfl)
      (x := ([.agg [.lit (.int .i64 0), .nil, .agg [.nil, .agg [.lit (.bool false), .nil, .nil]]], .agg [.lit (.int .i64 0), .agg [.lit (.bool false), .nil, .nil], .nil, .nil, .nil, .nil, .lit (.int .i64 0)]], [], [])) (by kernel_rfl) rfl (by kernel_rfl)) ?_
  intro W base args ds gs before hval hW _ hk _
  have hb : Rows.uptoBulkAll (ds ++ gs) ≤ 1048576 := of_decide_eq_true hk
  have hgs : gs = [] := by obtain ⟨p, q, _, hV, _⟩ := hW; exact (trodVars_none hV).1
  rw [hgs, List.append_nil] at hb
  exact dualsCheckMatchesReference_contract H enc W args ds gs before base hb hval hW
/-- THE ROW. -/
theorem dualsCheckMatchesReference_holds : Rows.DualsCheckMatchesReferenceUptoSaid :=
  OpenClaim.holds_of_cond 4 Tryz.f4 rfl rfl rfl rfl rfl rfl rfl ⟨rfl, rfl, rfl, rfl, rfl⟩ rfl rfl rfl rfl rfl (by kernel_rfl) Tryz.func4 (by kernel_rfl)
    (of_decide_eq_true (by kernel_rfl)) (by unfold Func.isWrapper; first | (rw [if_pos (by decide +kernel)]; kernel_rfl) | (rw [if_neg (by decide +kernel)]; exact ⟨rfl, rfl⟩))
    (fun os started H enc _ F => dualsCheckMatchesReference_lifted os started H enc F)
end Go.Proofs.YtigeioodiljlaaaGreat
