/-
  For every input of bulk at most 1048576: DualsSlack returns true and leaves all that came in as it was.
-/
import Derived.Test.YtigeioodiljlaaaGreatCRD
namespace Go.PI.Tryz
set_option linter.unnecessarySimpa false
open Go.Proofs Go.PI
set_option linter.unusedSimpArgs false
set_option linter.unusedVariables false

theorem ok_rfeas : FnOk Tryz.prog 30 Tryz.f30 (Tryz.f30.body.getD .skip) [.tmp 4] 42 := ⟨Tryz.func30, rfl, by decide, Tryz.ntmps30, Tryz.results30, by kernel_rfl, by kernel_rfl⟩
theorem c_rfeas (P : QP) (x : List Rat) (hP : smP P) (hx : ∀ q ∈ x, sz 4 q) (hxl : x.length ≤ 1048576) : Fn 30 [encP P, .imm (x.map encX)] (.data (.bool (decide (feas P x)))) := by
  have cv := rpvalid_yes hP
  have hl := hP.2.1
  refine fnC_v hmix hT ok_rfeas (by simp [encP]) ?_
  (repeat' (first|refine stp ?_|(with_reducible refine brr ?_ ?_<;>intro h)|(with_reducible refine nilImm_map ?_ ?_<;>intro h)|with_reducible refine anyb_of ?_ ?_)); all_goals try (conv=>whnf)
  refine callV_data cv rfl ?_
  (repeat' (first|refine stp ?_|(with_reducible refine brr ?_ ?_<;>intro h)|(with_reducible refine nilImm_map ?_ ?_<;>intro h)|with_reducible refine anyb_of ?_ ?_)); all_goals try (conv=>whnf)
  · exact givesV_to rfl (congrArg PV.bool (decide_eq_false fun e => h e.1).symm)
  have hxv : (x.length : Int) = P.vars := by omega
  refine loopV_kept hT (fun (i : Nat) => [(1, .imm (x.map encX)), (2, .ptr 0 0 0), (5, .int .i64 i)]) (fun _ => [(0, ⟨[encP P], 6, true⟩)]) [] 1
    (fun i => i ≤ P.rows.length ∧ ∀ j, j < i → 0 ≤ evQ P.rows[j]! x) (fun i => P.rows.length - i) 0 ⟨Nat.zero_le _, fun j h => (by omega)⟩ (by decide) (by simp) ?_ ?_
  · exact ⟨[0], [], [], [], ⟨trivial, trivial, trivial⟩, ⟨at_imm rfl rfl, at_ptr (by decide) rfl, at_int rfl rfl, trivial⟩, ⟨blk_box (by decide) rfl rfl rfl rfl rfl, trivial⟩, by simp [ren]⟩
  intro i ⟨i1, i2⟩
  by_cases hi : i < P.rows.length
  · obtain ⟨⟨h1, h2⟩, h3⟩ := smP_row hP hi
    have hv : ∀ t ∈ P.rows[i]!.ts, 0 ≤ t.1 ∧ t.1 < x.length := fun t ht => by have := h3.2 t ht; omega
    have ce := c_rleval P.rows[i]! x 2 4 h1 hx hv (by omega) (by omega) hxl
    have hs := evQ_sz h1 hx hv
    have hl4 := cr_len hs
    have cs := c_rqsign (cr (evQ P.rows[i]! x)) (okR_cr _) (by omega)
    rw [qv_cr] at cs
    (repeat' (first|refine stp ?_|(with_reducible refine brr ?_ ?_<;>intro h)|(with_reducible refine nilImm_map ?_ ?_<;>intro h)|with_reducible refine anyb_of ?_ ?_)); all_goals try (conv=>whnf)
    · refine callV_data ce rfl ?_
      (repeat' (first|refine stp ?_|(with_reducible refine brr ?_ ?_<;>intro h)|(with_reducible refine nilImm_map ?_ ?_<;>intro h)|with_reducible refine anyb_of ?_ ?_)); all_goals try (conv=>whnf)
      refine callV_data cs rfl ?_
      (repeat' (first|refine stp ?_|(with_reducible refine brr ?_ ?_<;>intro h)|(with_reducible refine nilImm_map ?_ ?_<;>intro h)|with_reducible refine anyb_of ?_ ?_)); all_goals try (conv=>whnf)
      · exact givesV_to rfl (congrArg PV.bool (feas_no hi (sgnQ_neg.1 h)))
      · refine ⟨i + 1, ⟨⟨by omega, fun j hj => ?_⟩, by show P.rows.length - (i + 1) < P.rows.length - i; omega⟩, [0], [], [], [], ⟨trivial, trivial, trivial⟩, ⟨at_imm rfl rfl, at_ptr (by decide) rfl, at_int rfl (by omega), trivial⟩, ⟨blk_box (by decide) rfl rfl rfl rfl rfl, trivial⟩, by simp [ren]⟩
        rcases Nat.lt_or_eq_of_le (Nat.le_of_lt_succ hj) with hj | rfl
        · exact i2 j hj
        · exact Rat.not_lt.1 fun e => h (sgnQ_neg.2 e)
    all_goals (exfalso; omega)
  · (repeat' (first|refine stp ?_|(with_reducible refine brr ?_ ?_<;>intro h)|(with_reducible refine nilImm_map ?_ ?_<;>intro h)|with_reducible refine anyb_of ?_ ?_)); all_goals try (conv=>whnf)
    all_goals try (exfalso; omega)
    exact givesV_to rfl (congrArg PV.bool (feas_yes hxv fun j hj => i2 j (by omega)))

theorem ok_rvalue : FnOk Tryz.prog 31 Tryz.f31 (Tryz.f31.body.getD .skip) [.cell 4 27, .tmp 5] 22 := ⟨Tryz.func31, rfl, by decide, Tryz.ntmps31, Tryz.results31, by kernel_rfl, by kernel_rfl⟩
theorem c_rvalue (P : QP) (x : List Rat) (hP : smP P) (hx : ∀ q ∈ x, sz 4 q) (hxl : x.length ≤ 1048576) (hxv : (x.length : Int) = P.vars) : Fn 31 [encP P, .imm (x.map encX)] (.data (.tup [encRat (cr (evQ P.obj x)), .int .i64 0])) := by
  have cv := rpvalid_yes hP
  have hv : ∀ t ∈ P.obj.ts, 0 ≤ t.1 ∧ t.1 < x.length := fun t ht => by have := hP.1.2.2.1.2 t ht; omega
  have h4 := hP.2.2.2.2
  have ce := c_rleval P.obj x 2 4 hP.2.2.2.1 hx hv (by omega) (by omega) hxl
  refine fnC_v hmix hT ok_rvalue (by simp [encP]) ?_
  (repeat' (first|refine stp ?_|(with_reducible refine brr ?_ ?_<;>intro h)|(with_reducible refine nilImm_map ?_ ?_<;>intro h)|with_reducible refine anyb_of ?_ ?_)); all_goals try (conv=>whnf)
  refine callV_data cv rfl ?_
  (repeat' (first|refine stp ?_|(with_reducible refine brr ?_ ?_<;>intro h)|(with_reducible refine nilImm_map ?_ ?_<;>intro h)|with_reducible refine anyb_of ?_ ?_)); all_goals try (conv=>whnf)
  · exact absurd (show (x.length : Int) = P.vars from hxv) (by omega)
  refine callV_data ce rfl ?_
  (repeat' (first|refine stp ?_|(with_reducible refine brr ?_ ?_<;>intro h)|(with_reducible refine nilImm_map ?_ ?_<;>intro h)|with_reducible refine anyb_of ?_ ?_)); all_goals try (conv=>whnf)
  exact givesV_to rfl rfl

theorem ok_rpoints : FnOk Tryz.prog 90 Tryz.f90 (Tryz.f90.body.getD .skip) [.tmp 4] 23 := ⟨Tryz.func90, rfl, by decide, Tryz.ntmps90, Tryz.results90, by kernel_rfl, by kernel_rfl⟩
theorem c_rpoints (P : QP) (l : List RatL) (hL : ∀ x ∈ l, okQ 4 x) (hl : l.length ≤ 1048576) : Fn 90 [encP P, .imm (l.map encRat)] (.data (.bool (decide ((l.length : Int) = P.vars ∧ canL l)))) := by
  refine fnC_v hmix hT ok_rpoints (by simp [encP]) ?_
  (repeat' (first|refine stp ?_|(with_reducible refine brr ?_ ?_<;>intro h)|(with_reducible refine nilImm_map ?_ ?_<;>intro h)|with_reducible refine anyb_of ?_ ?_)); all_goals try (conv=>whnf)
  · exact givesV_to rfl (congrArg PV.bool (decide_eq_false fun e => h e.1).symm)
  have hv : (l.length : Int) = P.vars := by omega
  refine loopV_kept hT (fun (i : Nat) => [(1, .imm (l.map encRat)), (5, .int .i64 i)]) (fun _ => []) [] 1
    (fun i => i ≤ l.length ∧ ∀ j, j < i → l[j]! = cr (qv l[j]!)) (fun i => l.length - i) 0 ⟨Nat.zero_le _, fun j h => (by omega)⟩ (by decide) (by simp) ?_ ?_
  · exact ⟨[0], [], [], [], ⟨trivial, trivial, trivial⟩, ⟨at_imm rfl rfl, at_int rfl rfl, trivial⟩, trivial, by simp [ren]⟩
  intro i ⟨i1, i2⟩
  by_cases hi : i < l.length
  · have hq := hL l[i]! (by rw [getElem!_pos l i hi]; exact List.getElem_mem hi)
    have cv := c_rqvalid l[i]! hq.1 (by have := hq.2; omega) (by have := hq.2; omega)
    (repeat' (first|refine stp ?_|(with_reducible refine brr ?_ ?_<;>intro h)|(with_reducible refine nilImm_map ?_ ?_<;>intro h)|with_reducible refine anyb_of ?_ ?_)); all_goals try (conv=>whnf)
    · refine callV_data cv rfl ?_
      (repeat' (first|refine stp ?_|(with_reducible refine brr ?_ ?_<;>intro h)|(with_reducible refine nilImm_map ?_ ?_<;>intro h)|with_reducible refine anyb_of ?_ ?_)); all_goals try (conv=>whnf)
      · refine ⟨i + 1, ⟨⟨by omega, fun j hj => ?_⟩, by show l.length - (i + 1) < l.length - i; omega⟩, [0], [], [], [], ⟨trivial, trivial, trivial⟩, ⟨at_imm rfl rfl, at_int rfl (by omega), trivial⟩, trivial, by simp [ren]⟩
        rcases Nat.lt_or_eq_of_le (Nat.le_of_lt_succ hj) with hj | rfl
        · exact i2 j hj
        · assumption
      · exact givesV_to rfl (congrArg PV.bool (decide_eq_false fun e => h (e.2 l[i]! (by rw [getElem!_pos l i hi]; exact List.getElem_mem hi))).symm)
    all_goals (exfalso; omega)
  · (repeat' (first|refine stp ?_|(with_reducible refine brr ?_ ?_<;>intro h)|(with_reducible refine nilImm_map ?_ ?_<;>intro h)|with_reducible refine anyb_of ?_ ?_)); all_goals try (conv=>whnf)
    all_goals try (exfalso; omega)
    exact givesV_to rfl (congrArg PV.bool (decide_eq_true ⟨hv, of_decide_eq_true (canL_yes fun j hj => i2 j (by omega)).symm⟩).symm)

theorem ok_rdir : FnOk Tryz.prog 95 Tryz.f95 (Tryz.f95.body.getD .skip) [.cell 4 27] 16 := ⟨Tryz.func95, rfl, by decide, Tryz.ntmps95, Tryz.results95, by kernel_rfl, by kernel_rfl⟩
theorem c_rdir (f : QF) (x : List Rat) (hf : szF 2 f) (hx : ∀ q ∈ x, sz 4 q) (hv : ∀ t ∈ f.ts, 0 ≤ t.1 ∧ t.1 < x.length) (hl : f.ts.length ≤ 8) (hxl : x.length ≤ 1048576) : Fn 95 [encF f, .imm (x.map encX)] (.data (encRat (cr (dirQ f x)))) := by
  have hf0 : szF 2 (⟨f.ts, 0⟩ : QF) := ⟨(szF_zero 2 (by decide)).1, hf.2⟩
  have ce := c_rleval ⟨f.ts, 0⟩ x 2 4 hf0 hx hv (by show 2 + f.ts.length * _ + _ + _ ≤ _; omega) (by show f.ts.length ≤ _; omega) hxl
  have e0 : encF ⟨f.ts, 0⟩ = .agg [.imm (f.ts.map encQ), .bool false, .imm [], .imm []] := by unfold encF; rw [cr_zero]; rfl
  rw [e0] at ce
  refine fnC_v hmix hT ok_rdir (by simp [encF]) ?_
  (repeat' (first|refine stp ?_|(with_reducible refine brr ?_ ?_<;>intro h)|(with_reducible refine nilImm_map ?_ ?_<;>intro h)|with_reducible refine anyb_of ?_ ?_)); all_goals try (conv=>whnf)
  refine callV_data ce rfl ?_
  (repeat' (first|refine stp ?_|(with_reducible refine brr ?_ ?_<;>intro h)|(with_reducible refine nilImm_map ?_ ?_<;>intro h)|with_reducible refine anyb_of ?_ ?_)); all_goals try (conv=>whnf)
  exact givesV_to rfl rfl

theorem ok_smpoint : FnOk Tryz.prog 26 Tryz.f26 (Tryz.f26.body.getD .skip) [.tmp 2] 19 := ⟨Tryz.func26, rfl, by decide, Tryz.ntmps26, Tryz.results26, by kernel_rfl, by kernel_rfl⟩
def smPt (l : List RatL) : Prop := l.length ≤ 8 ∧ ∀ i, i < l.length → smR l[i]!
theorem smPt_canL {l : List RatL} (h : smPt l) : canL l := fun x hx => by
  obtain ⟨i, hi, rfl⟩ := List.getElem_of_mem hx
  have := h.2 i hi
  rw [getElem!_pos l i hi] at this
  exact this.2.2
theorem c_smpoint (l : List RatL) (hL : ∀ x ∈ l, okQ 1048576 x) (hl : l.length ≤ 1048576) : Fn 26 [.imm (l.map encRat)] (.data (.bool (dB (smPt l)))) := by
  have no : ¬ smPt l → false = dB (smPt l) := dB_no
  refine fnC_v hmix hT ok_smpoint (by simp) ?_
  (repeat' (first|refine stp ?_|(with_reducible refine brr ?_ ?_<;>intro h)|(with_reducible refine nilImm_map ?_ ?_<;>intro h)|with_reducible refine anyb_of ?_ ?_)); all_goals try (conv=>whnf)
  · exact givesV_to rfl (congrArg PV.bool (no fun e => by have := e.1; omega))
  have hv : l.length ≤ 8 := by omega
  refine loopV_kept hT (fun (i : Nat) => [(0, .imm (l.map encRat)), (3, .int .i64 i)]) (fun _ => []) [] 1
    (fun i => i ≤ l.length ∧ ∀ j, j < i → smR l[j]!) (fun i => l.length - i) 0 ⟨Nat.zero_le _, fun j h => (by omega)⟩ (by decide) (by simp) ?_ ?_
  · exact ⟨[0], [], [], [], ⟨trivial, trivial, trivial⟩, ⟨at_imm rfl rfl, at_int rfl rfl, trivial⟩, trivial, by simp [ren]⟩
  intro i ⟨i1, i2⟩
  by_cases hi : i < l.length
  · have hq := hL l[i]! (by rw [getElem!_pos l i hi]; exact List.getElem_mem hi)
    have cv := c_smrat l[i]! (okQ_le (by decide) hq)
    (repeat' (first|refine stp ?_|(with_reducible refine brr ?_ ?_<;>intro h)|(with_reducible refine nilImm_map ?_ ?_<;>intro h)|with_reducible refine anyb_of ?_ ?_)); all_goals try (conv=>whnf)
    · refine callV_data cv rfl ?_
      (repeat' (first|refine stp ?_|(with_reducible refine brr ?_ ?_<;>intro h)|(with_reducible refine nilImm_map ?_ ?_<;>intro h)|with_reducible refine anyb_of ?_ ?_)); all_goals try (conv=>whnf)
      · refine ⟨i + 1, ⟨⟨by omega, fun j hj => ?_⟩, by show l.length - (i + 1) < l.length - i; omega⟩, [0], [], [], [], ⟨trivial, trivial, trivial⟩, ⟨at_imm rfl rfl, at_int rfl (by omega), trivial⟩, trivial, by simp [ren]⟩
        rcases Nat.lt_or_eq_of_le (Nat.le_of_lt_succ hj) with hj | rfl
        · exact i2 j hj
        · assumption
      · exact givesV_to rfl (congrArg PV.bool (no fun e => h (e.2 i hi)))
    all_goals (exfalso; omega)
  · (repeat' (first|refine stp ?_|(with_reducible refine brr ?_ ?_<;>intro h)|(with_reducible refine nilImm_map ?_ ?_<;>intro h)|with_reducible refine anyb_of ?_ ?_)); all_goals try (conv=>whnf)
    all_goals try (exfalso; omega)
    exact givesV_to rfl (congrArg PV.bool (dB_yes ⟨hv, fun j hj => i2 j (by omega)⟩))
end Go.PI.Tryz
namespace Go.PI.Tryz
set_option linter.unnecessarySimpa false
open Go.Proofs Go.PI
set_option linter.unusedSimpArgs false
set_option linter.unusedVariables false

theorem ok_rslack : FnOk Tryz.prog 28 Tryz.f28 (Tryz.f28.body.getD .skip) [.tmp 6] 57 := ⟨Tryz.func28, rfl, by decide, Tryz.ntmps28, Tryz.results28, by kernel_rfl, by kernel_rfl⟩
theorem c_rslack (P : QP) (pt ys : List RatL) (hP : smP P) (hp : ∀ y ∈ pt, okQ 4 y) (hy : ∀ y ∈ ys, okQ 4 y) (hpl : pt.length ≤ 1048576) (hyl : ys.length ≤ 1048576) (hc : canL pt) : Fn 28 [encP P, .imm (pt.map encRat), .imm (ys.map encRat)] (.data (.bool (slkB P pt ys))) := by
  have cc := c_rcomb P ys hP hy hyl
  have cf := c_rfeas P (pt.map qv) hP (sz_list hp) (by simp; omega)
  have no : ¬ slkP P pt ys → false = slkB P pt ys := fun h => by simp [slkB, h]
  have hcl : (cmbV P ys).2 = true → ys.length = P.rows.length := fun h => by
    unfold cmbV at h; split at h
    · rename_i e; exact e.1
    · cases h
  have he := encL_of hc
  have hx := sz_list hp
  have hxl : (pt.map qv).length ≤ 1048576 := by simpa using hpl
  have hslk : (cmbV P ys).2 = true → feas P (pt.map qv) → (slkP P pt ys ↔ ∀ i, i < ys.length → evQ P.rows[i]! (pt.map qv) = 0 ∨ qv ys[i]! = 0) := fun a b => ⟨fun e => e.2.2, fun e => ⟨a, ⟨hc, b⟩, e⟩⟩
  have hfs : slkP P pt ys → feas P (pt.map qv) := fun e => e.2.1.2
  rw [he]
  generalize pt.map qv = x at *
  refine fnC_v hmix hT ok_rslack (by simp [encP]) ?_
  (repeat' (first|refine stp ?_|(with_reducible refine brr ?_ ?_<;>intro h)|(with_reducible refine nilImm_map ?_ ?_<;>intro h)|with_reducible refine anyb_of ?_ ?_)); all_goals try (conv=>whnf)
  refine callV_data cc rfl ?_
  (repeat' (first|refine stp ?_|(with_reducible refine brr ?_ ?_<;>intro h)|(with_reducible refine nilImm_map ?_ ?_<;>intro h)|with_reducible refine anyb_of ?_ ?_)); all_goals try (conv=>whnf)
  · have hok : (cmbV P ys).2 = true := h
    have hle := hcl hok
    refine callV_data cf rfl ?_
    (repeat' (first|refine stp ?_|(with_reducible refine brr ?_ ?_<;>intro h)|(with_reducible refine nilImm_map ?_ ?_<;>intro h)|with_reducible refine anyb_of ?_ ?_)); all_goals try (conv=>whnf)
    · have hpf : feas P x := by assumption
      have hxv : (x.length : Int) = P.vars := hpf.1
      have hslk := hslk hok hpf
      refine loopV_kept hT (fun (i : Nat) => [(1, .imm (x.map encX)), (2, .imm (ys.map encRat)), (3, .ptr 0 0 0), (9, .int .i64 i)]) (fun _ => [(0, ⟨[encP P], 6, true⟩)]) [] 1
        (fun i => i ≤ ys.length ∧ ∀ j, j < i → evQ P.rows[j]! x = 0 ∨ qv ys[j]! = 0) (fun i => ys.length - i) 0 ⟨Nat.zero_le _, fun j h => (by omega)⟩ (by decide) (by simp) ?_ ?_
      · exact ⟨[0], [], [], [], ⟨trivial, trivial, trivial⟩, ⟨at_imm rfl rfl, at_imm rfl rfl, at_ptr (by decide) rfl, at_int rfl rfl, trivial⟩, ⟨blk_box (by decide) rfl rfl rfl rfl rfl, trivial⟩, by simp [ren]⟩
      intro i ⟨i1, i2⟩
      have hl := hP.2.1
      by_cases hi : i < ys.length
      · have hi' : i < P.rows.length := by omega
        obtain ⟨⟨h1, h2⟩, h3⟩ := smP_row hP hi'
        have hyi := hy ys[i]! (by rw [getElem!_pos ys i hi]; exact List.getElem_mem hi)
        have hv : ∀ t ∈ P.rows[i]!.ts, 0 ≤ t.1 ∧ t.1 < x.length := fun t ht => by have := h3.2 t ht; omega
        have ce := c_rleval P.rows[i]! x 2 4 h1 hx hv (by omega) (by omega) hxl
        have hs := evQ_sz h1 hx hv
        have hl4 := cr_len hs
        have cs := c_rqsign (cr (evQ P.rows[i]! x)) (okR_cr _) (by omega)
        rw [qv_cr] at cs
        have cy := c_rqsign ys[i]! hyi.1 (by have := hyi.2; omega)
        have nxt : (evQ P.rows[i]! x = 0 ∨ qv ys[i]! = 0) → ∀ j, j < i + 1 → evQ P.rows[j]! x = 0 ∨ qv ys[j]! = 0 := fun h j hj => by
          rcases Nat.lt_or_eq_of_le (Nat.le_of_lt_succ hj) with hj | rfl
          · exact i2 j hj
          · exact h
        (repeat' (first|refine stp ?_|(with_reducible refine brr ?_ ?_<;>intro h)|(with_reducible refine nilImm_map ?_ ?_<;>intro h)|with_reducible refine anyb_of ?_ ?_)); all_goals try (conv=>whnf)
        · refine callV_data ce rfl ?_
          (repeat' (first|refine stp ?_|(with_reducible refine brr ?_ ?_<;>intro h)|(with_reducible refine nilImm_map ?_ ?_<;>intro h)|with_reducible refine anyb_of ?_ ?_)); all_goals try (conv=>whnf)
          refine callV_data cs rfl ?_
          (repeat' (first|refine stp ?_|(with_reducible refine brr ?_ ?_<;>intro h)|(with_reducible refine nilImm_map ?_ ?_<;>intro h)|with_reducible refine anyb_of ?_ ?_)); all_goals try (conv=>whnf)
          · refine callV_data cy rfl ?_
            (repeat' (first|refine stp ?_|(with_reducible refine brr ?_ ?_<;>intro h)|(with_reducible refine nilImm_map ?_ ?_<;>intro h)|with_reducible refine anyb_of ?_ ?_)); all_goals try (conv=>whnf)
            · exact givesV_to rfl (congrArg PV.bool (no fun e => by
                rcases hslk.1 e i hi with e | e
                · exact absurd (sgnQ_zero.2 e) (by assumption)
                · exact absurd (sgnQ_zero.2 e) (by assumption)))
            · exact ⟨i + 1, ⟨⟨by omega, nxt (.inr (sgnQ_zero.1 (by assumption)))⟩, by show ys.length - (i + 1) < ys.length - i; omega⟩, [0], [], [], [], ⟨trivial, trivial, trivial⟩, ⟨at_imm rfl rfl, at_imm rfl rfl, at_ptr (by decide) rfl, at_int rfl (by omega), trivial⟩, ⟨blk_box (by decide) rfl rfl rfl rfl rfl, trivial⟩, by simp [ren]⟩
          · exact ⟨i + 1, ⟨⟨by omega, nxt (.inl (sgnQ_zero.1 (by assumption)))⟩, by show ys.length - (i + 1) < ys.length - i; omega⟩, [0], [], [], [], ⟨trivial, trivial, trivial⟩, ⟨at_imm rfl rfl, at_imm rfl rfl, at_ptr (by decide) rfl, at_int rfl (by omega), trivial⟩, ⟨blk_box (by decide) rfl rfl rfl rfl rfl, trivial⟩, by simp [ren]⟩
        all_goals (exfalso; omega)
      · (repeat' (first|refine stp ?_|(with_reducible refine brr ?_ ?_<;>intro h)|(with_reducible refine nilImm_map ?_ ?_<;>intro h)|with_reducible refine anyb_of ?_ ?_)); all_goals try (conv=>whnf)
        all_goals try (exfalso; omega)
        have hy2 : slkP P pt ys := hslk.2 fun j hj => i2 j (by omega)
        exact givesV_to rfl (congrArg PV.bool (by simp [slkB, hy2]))
    · exact givesV_to rfl (congrArg PV.bool (no fun e => h (hfs e)))
  · exact givesV_to rfl (congrArg PV.bool (no fun e => by rw [e.1] at h; cases h))

theorem ok_dualsSlack : FnOk Tryz.prog 5 Tryz.f5 (Tryz.f5.body.getD .skip) [.tmp 6] 28 := ⟨Tryz.func5, rfl, by decide, Tryz.ntmps5, Tryz.results5, by kernel_rfl, by kernel_rfl⟩
theorem c_dualsSlack (p : ProgL) (pt ys : List RatL) (hp : okP 1048576 p) (hpt : okL pt) (hy : okL ys) : Fn 5 [encProg p, .imm (pt.map encRat), .imm (ys.map encRat)] (.data (.bool true)) := by
  have cw := c_wsmall p [ys] (okP_le (by decide) hp) (by simp) (okL_len (fun l hl => by simp at hl; subst hl; exact hy))
  have cp := c_smpoint pt hpt.2 hpt.1
  by_cases hs : smA p [ys]
  · rw [dB_true.2 hs] at cw
    by_cases hq : smPt pt
    · rw [dB_true.2 hq] at cp
      have hP := smP_of hp hs.1
      have he := encP_of hs.1.2.2.2
      obtain ⟨h4, hyl⟩ := okL_4 hy (hs.2 0 (by simp))
      have hp4 : ∀ y ∈ pt, okQ 4 y := fun y hy => by
        obtain ⟨i, hi, rfl⟩ := List.getElem_of_mem hy
        have h1 := hq.2 i hi
        rw [getElem!_pos pt i hi] at h1
        exact ⟨(hpt.2 _ hy).1, by have := h1.1; omega, by have := h1.2.1; omega⟩
      have c1 := c_dslack p.Q pt ys hP hp4 h4 hpt.1 hyl
      have c2 := c_rslack p.Q pt ys hP hp4 h4 hpt.1 hyl (smPt_canL hq)
      rw [he] at cw ⊢
      generalize p.Q = P at *
      generalize slkB P pt ys = B at *
      refine fnC_v hmix hT ok_dualsSlack (by simp [encP]) ?_
      (repeat' (first|refine stp ?_|(with_reducible refine brr ?_ ?_<;>intro h)|(with_reducible refine nilImm_map ?_ ?_<;>intro h)|with_reducible refine anyb_of ?_ ?_)); all_goals try (conv=>whnf)
      refine callV_data c_awake rfl ?_
      (repeat' (first|refine stp ?_|(with_reducible refine brr ?_ ?_<;>intro h)|(with_reducible refine nilImm_map ?_ ?_<;>intro h)|with_reducible refine anyb_of ?_ ?_)); all_goals try (conv=>whnf)
      refine callV_data cw rfl ?_
      (repeat' (first|refine stp ?_|(with_reducible refine brr ?_ ?_<;>intro h)|(with_reducible refine nilImm_map ?_ ?_<;>intro h)|with_reducible refine anyb_of ?_ ?_)); all_goals try (conv=>whnf)
      refine callV_data cp rfl ?_
      (repeat' (first|refine stp ?_|(with_reducible refine brr ?_ ?_<;>intro h)|(with_reducible refine nilImm_map ?_ ?_<;>intro h)|with_reducible refine anyb_of ?_ ?_)); all_goals try (conv=>whnf)
      refine callV_data c1 rfl ?_
      (repeat' (first|refine stp ?_|(with_reducible refine brr ?_ ?_<;>intro h)|(with_reducible refine nilImm_map ?_ ?_<;>intro h)|with_reducible refine anyb_of ?_ ?_)); all_goals try (conv=>whnf)
      refine callV_data c2 rfl ?_
      (repeat' (first|refine stp ?_|(with_reducible refine brr ?_ ?_<;>intro h)|(with_reducible refine nilImm_map ?_ ?_<;>intro h)|with_reducible refine anyb_of ?_ ?_)); all_goals try (conv=>whnf)
      all_goals exact givesV_to rfl (by cases B <;> rfl)
    · rw [dB_false.2 hq] at cp
      refine fnC_v hmix hT ok_dualsSlack (by simp [encProg]) ?_
      (repeat' (first|refine stp ?_|(with_reducible refine brr ?_ ?_<;>intro h)|(with_reducible refine nilImm_map ?_ ?_<;>intro h)|with_reducible refine anyb_of ?_ ?_)); all_goals try (conv=>whnf)
      refine callV_data c_awake rfl ?_
      (repeat' (first|refine stp ?_|(with_reducible refine brr ?_ ?_<;>intro h)|(with_reducible refine nilImm_map ?_ ?_<;>intro h)|with_reducible refine anyb_of ?_ ?_)); all_goals try (conv=>whnf)
      refine callV_data cw rfl ?_
      (repeat' (first|refine stp ?_|(with_reducible refine brr ?_ ?_<;>intro h)|(with_reducible refine nilImm_map ?_ ?_<;>intro h)|with_reducible refine anyb_of ?_ ?_)); all_goals try (conv=>whnf)
      refine callV_data cp rfl ?_
      (repeat' (first|refine stp ?_|(with_reducible refine brr ?_ ?_<;>intro h)|(with_reducible refine nilImm_map ?_ ?_<;>intro h)|with_reducible refine anyb_of ?_ ?_)); all_goals try (conv=>whnf)
      exact givesV_to rfl rfl
  · rw [dB_false.2 hs] at cw
    refine fnC_v hmix hT ok_dualsSlack (by simp [encProg]) ?_
    (repeat' (first|refine stp ?_|(with_reducible refine brr ?_ ?_<;>intro h)|(with_reducible refine nilImm_map ?_ ?_<;>intro h)|with_reducible refine anyb_of ?_ ?_)); all_goals try (conv=>whnf)
    refine callV_data c_awake rfl ?_
    (repeat' (first|refine stp ?_|(with_reducible refine brr ?_ ?_<;>intro h)|(with_reducible refine nilImm_map ?_ ?_<;>intro h)|with_reducible refine anyb_of ?_ ?_)); all_goals try (conv=>whnf)
    refine callV_data cw rfl ?_
    (repeat' (first|refine stp ?_|(with_reducible refine brr ?_ ?_<;>intro h)|(with_reducible refine nilImm_map ?_ ?_<;>intro h)|with_reducible refine anyb_of ?_ ?_)); all_goals try (conv=>whnf)
    exact givesV_to rfl rfl
end Go.PI.Tryz
namespace Go.Proofs.YtigeioodiljlaaaGreat
set_option linter.unusedSimpArgs false
set_option linter.unnecessarySimpa false
open Go Go.PI Go.PI.Tryz
open Go.ChangeShapes Go.WideShapes Go.ChangeAt Go.RowKit
set_option linter.unusedVariables false
theorem ok_law_dualsSlack : FnOk Tryz.prog 5 Tryz.f5 (Tryz.f5.body.getD .skip) [.tmp 6] 28 := ⟨Tryz.func5, rfl, by decide, Tryz.ntmps5, Tryz.results5, by kernel_rfl, by kernel_rfl⟩
set_option maxRecDepth 100000 in
theorem dualsSlack_contract (H : Type) (enc : TypeId × Value → H) (W : World) (args : Array Value) (ds gs : List (DataW H)) (before : List MemPlace) (base : Nat) (hb : Rows.uptoBulkAll ds ≤ 1048576)
    (hvl : ∀ (j : Nat) t v, Tryz.f5.params[j]? = some t → args[j]? = some v → Value.okWide Tryz.prog W .any base t v)
    (hW : DataW.Whole enc Tryz.prog Tryz.f5.params.toList Rows.dualsSlackSpec.vars false W args.toList ds gs before) :
    Calls Tryz.prog 5 args W fun e W' => ∃ v, e = .returned v ∧ Rows.dualsSlackSpec.post enc Tryz.prog Tryz.f5 false true false false W args v W' := by
  have hW' := hW
  obtain ⟨p, q, hA0, hV, hpq, hfz, hnd⟩ := hW
  have hA : DataW.TrodAll enc Tryz.prog W 0 (fun _ => true) true Tryz.f5.params.toList args.toList ds p := hA0
  rw [Tryz.params5] at hA hvl
  obtain ⟨v0, vs0, d0, ds0, p0, q0', hargs, rfl, hp0, ⟨fuel0, h0⟩, r0⟩ := trodAll_cons hA
  obtain ⟨v1, vs1, d1, ds1, p1, q1', rfl, rfl, hp1, ⟨fuel1, h1⟩, r1⟩ := trodAll_cons r0
  obtain ⟨v2, vs2, d2, ds2, p2, q2', rfl, rfl, hp2, ⟨fuel2, h2⟩, r2⟩ := trodAll_cons r1
  obtain ⟨rfl, rfl, rfl⟩ := trodAll_nil r2
  have hargs2 : args = #[v0, v1, v2] := by cases args; simp_all
  rw [hargs2] at hvl
  simp only [bulkAll_eq, bulkAll] at hb
  obtain ⟨x0, g0, q0⟩ := (r_prog _) fuel0 (Nat.le_refl _) _ _ _ h0
  obtain ⟨x1, g1, q1⟩ := (r_rats _) fuel1 (Nat.le_refl _) _ _ _ h1
  obtain ⟨x2, g2, q2⟩ := (r_rats _) fuel2 (Nat.le_refl _) _ _ _ h2
  have hval : ∀ (j : Nat) (d : PV), [encProg x0, .imm (x1.map encRat), .imm (x2.map encRat)][j]? = some d → RD W (AllB W) d (args.toList.getD j undef) := by
    intro j d hj
    rw [hargs]
    match j, hj with
    | 0, hj => cases hj; exact rc_agg (arg_struct hvl 0 (t := 31) (v := v0) rfl rfl Tryz.underlying31) g0
    | 1, hj => cases hj; exact rc_one (arg_slice hvl 1 (t := 32) (v := v1) rfl rfl Tryz.underlying32) g1
    | 2, hj => cases hj; exact rc_one (arg_slice hvl 2 (t := 32) (v := v2) rfl rfl Tryz.underlying32) g2
    | n + 3, hj => simp at hj
  refine law_post (G := G0) laidOut (by kernel_rfl) rfl Tryz.underlying4 rfl (fun gs hgs => by subst hgs; rfl) hW' gok (pvs := [encProg x0, .imm (x1.map encRat), .imm (x2.map encRat)]) ⟨by rw [hargs]; rfl, hval⟩ ?_
  exact c_dualsSlack x0 x1 x2 (q0.ok (by omega)) (okL_of q1 (by omega)) (okL_of q2 (by omega))
set_option maxRecDepth 100000 in
theorem dualsSlack_lifted (os : Os) (started : os.Started) (H : Type) (enc : TypeId × Value → H) (F : Stop.Interp) :
    ReturnsInHanded {} Tryz.checked os 5 .any ((Rows.OpenSpec.upto Rows.dualsSlackSpec).pre6 enc Tryz.prog Tryz.f5 Rows.dualsSlackUptoRow.domain false) (((Rows.OpenSpec.upto Rows.dualsSlackSpec).at F).post enc Tryz.prog Tryz.f5 false true false false) := by
  refine returnsInHanded_of_cond (C := Tryz.checked) (s := Rows.OpenSpec.upto Rows.dualsSlackSpec) (k := Rows.uptoSmall) rfl own started (by kernel_rfl) Tryz.func5
    (OpenSpec.witness (enc := enc) (C := Tryz.checked) (s := Rows.OpenSpec.upto Rows.dualsSlackSpec) (k := Rows.uptoSmall) rfl false ⟨#[], #[.agg #[.int .i64 0, .slice none 0 0, .slice none 0 0, .bool false, .slice none 0 0, .slice none 0 0], .slice none 0 0, .slice none 0 0], []⟩ 8 (by kernel_rfl) (by kernel_rfl) (by kernel_rfl)
      (x := ([.agg [.lit (.int .i64 0), .nil, .agg [.nil, .agg [.lit (.bool false), .nil, .nil]]], .nil, .nil], [], [])) (by kernel_rfl) rfl (by kernel_rfl)) ?_
  intro W base args ds gs before hval hW _ hk _
  have hb : Rows.uptoBulkAll (ds ++ gs) ≤ 1048576 := of_decide_eq_true hk
  have hgs : gs = [] := by obtain ⟨p, q, _, hV, _⟩ := hW; exact (trodVars_none hV).1
  rw [hgs, List.append_nil] at hb
  exact dualsSlack_contract H enc W args ds gs before base hb hval hW
/-- THE ROW. -/
theorem dualsSlack_holds : Rows.DualsSlackUptoSaid :=
  OpenClaim.holds_of_cond 5 Tryz.f5 rfl rfl rfl rfl rfl rfl rfl ⟨rfl, rfl, rfl, rfl, rfl⟩ rfl rfl rfl rfl rfl (by kernel_rfl) Tryz.func5 (by kernel_rfl)
    (of_decide_eq_true (by kernel_rfl)) (by unfold Func.isWrapper; first | (rw [if_pos (by decide +kernel)]; kernel_rfl) | (rw [if_neg (by decide +kernel)]; exact ⟨rfl, rfl⟩))
    (fun os started H enc _ F => dualsSlack_lifted os started H enc F)
end Go.Proofs.YtigeioodiljlaaaGreat
