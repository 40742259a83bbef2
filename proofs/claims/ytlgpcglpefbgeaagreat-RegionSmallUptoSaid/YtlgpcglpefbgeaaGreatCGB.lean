/-
  The laws' own functions of chapter 19: half, short, few, copied, awake.
-/
import Derived.Test.YtlgpcglpefbgeaaGreatCRC
import Derived.Test.YtlgpcglpefbgeaaGreatCPD
import Derived.Test.YtlgpcglpefbgeaaGreatCGA
import Derived.Test.YtlgpcglpefbgeaaGreatCPE
namespace Go.PI.Tryz
set_option linter.unnecessarySimpa false
open Go.Proofs Go.PI
set_option linter.unusedSimpArgs false
set_option linter.unusedVariables false
theorem ok_fnew : FnOk Tryz.prog 28 Tryz.f28 (Tryz.f28.body.getD .skip) [.tmp 2] 8 := ⟨Tryz.func28, rfl, by decide, Tryz.ntmps28, Tryz.results28, by kernel_rfl, by kernel_rfl⟩
theorem c_fnew (l : List Int) (hl : okBy l) : Fn 28 [.imm (l.map (.int .u8))] (.own none (.ptr 0 0 0) (fdB l 0)) := by
  have l1 := hl.1
  refine fnC_vgive hmix hT ok_fnew (by simp) ?_
  (repeat' (first|refine stu ?_|(with_reducible refine brr ?_ ?_<;>intro h)|(with_reducible refine nilImm_map ?_ ?_<;>intro h)|with_reducible refine anyb_of ?_ ?_)); all_goals try (conv=>whnf)
  refine r_thenL ?_
  (repeat' (first|refine stu ?_|(with_reducible refine brr ?_ ?_<;>intro h)|(with_reducible refine nilImm_map ?_ ?_<;>intro h)|with_reducible refine anyb_of ?_ ?_)); all_goals try (conv=>whnf)
  refine tellV [] [(2, .ptr 1 0 0)] [(1, fdB l 0)] [] 2 (by decide) (by simp) trivial
    ⟨[_], [4], [], [(6, [.agg [.imm (l.map (.int .u8)), .int .i64 0]])], ⟨⟨⟨_, rfl⟩, trivial⟩, trivial, ⟨⟨_, 6, _, rfl, mapF_cons (frz_aggL (mapF_cons (frz_own_map (f := .int .u8) (l := l) rfl rfl (by simp) (fun x => by rfl)) rfl)) rfl, rfl⟩, trivial⟩⟩, ⟨at_ptr (by decide) rfl, trivial⟩, ⟨blk_box (by decide) rfl rfl rfl rfl rfl, trivial⟩, by simp [ren]⟩ ?_
  (repeat' (first|refine stp ?_|(with_reducible refine brr ?_ ?_<;>intro h)|(with_reducible refine nilImm_map ?_ ?_<;>intro h)|with_reducible refine anyb_of ?_ ?_)); all_goals try (conv=>whnf)
  exact ownV_to (r := 1) rfl rfl rfl rfl (fun e he => by simp at he; subst he; rfl) (Or.inr ⟨rfl, by simp⟩)
theorem ok_fnext : FnOk Tryz.prog 78 Tryz.f78 (Tryz.f78.body.getD .skip) [.tmp 4] 36 := ⟨Tryz.func78, rfl, by decide, Tryz.ntmps78, Tryz.results78, by kernel_rfl, by kernel_rfl⟩
theorem c_fnext (l : List Int) (a n : Nat) (hl : okBy l) (ha : a ≤ l.length) (hn : 0 < n ∧ n < 1000) : Fn 78 [.ptr 0 0 0, .int .i64 n] (.wrt (fdB l a) (.int .i64 (nx1 l a n)) (fdB l (nx2 l a))) := by
  have l1 := hl.1
  refine fnC_vmut hmix hT ok_fnext (by simp) ?_
  by_cases hi : a < l.length
  · have hx := hl.2 l[a]! (by rw [getElem!_pos l a hi]; exact List.getElem_mem hi)
    have e1 : nx1 l a n = l[a]!.toNat % n := by unfold nx1; rw [if_pos hi]
    have e2 : nx2 l a = a + 1 := by unfold nx2; rw [if_pos hi]
    (repeat' (first|refine stp ?_|(with_reducible refine brr ?_ ?_<;>intro h)|(with_reducible refine nilImm_map ?_ ?_<;>intro h)|with_reducible refine anyb_of ?_ ?_)); all_goals try (conv=>whnf)
    all_goals try (exfalso; omega)
    refine oK_atN a (by omega) hi ?_
    (repeat' (first|refine stp ?_|(with_reducible refine brr ?_ ?_<;>intro h)|(with_reducible refine nilImm_map ?_ ?_<;>intro h)|with_reducible refine anyb_of ?_ ?_)); all_goals try (conv=>whnf)
    rw [show l[a]!.tmod n = ((nx1 l a n : Nat) : Int) by
      rw [Int.tmod_eq_emod_of_nonneg (by omega), e1]
      obtain ⟨b, hb⟩ := Int.eq_ofNat_of_zero_le hx.1
      rw [hb]
      rfl, e2]
    exact mutV_to rfl rfl rfl rfl rfl (fun e he => by simp at he; subst he; rfl)
  · have e1 : nx1 l a n = 0 := by unfold nx1; rw [if_neg hi]
    have e2 : nx2 l a = a := by unfold nx2; rw [if_neg hi]
    rw [e1, e2]
    (repeat' (first|refine stp ?_|(with_reducible refine brr ?_ ?_<;>intro h)|(with_reducible refine nilImm_map ?_ ?_<;>intro h)|with_reducible refine anyb_of ?_ ?_)); all_goals try (conv=>whnf)
    all_goals try (exfalso; omega)
    exact mutV_to rfl rfl rfl rfl rfl (fun e he => by simp at he; subst he; rfl)
theorem fd_nr (l : List Int) (a : Nat) : nrs (fdB l a) := fun e he => by simp [fdB] at he; subst he; rfl
theorem ok_fnum : FnOk Tryz.prog 77 Tryz.f77 (Tryz.f77.body.getD .skip) [.cell 2 40] 17 := ⟨Tryz.func77, rfl, by decide, Tryz.ntmps77, Tryz.results77, by kernel_rfl, by kernel_rfl⟩
theorem c_fnum (l : List Int) (a : Nat) (hl : okBy l) (ha : a ≤ l.length) : Fn 77 [.ptr 0 0 0] (.wrt (fdB l a) (encRat (cr (numQ l a))) (fdB l (numA l a))) := by
  have c1 := c_fnext l a 9 hl ha (by decide)
  have c2 := c_fnext l (nx2 l a) 4 hl (nx2_le ha) (by decide)
  have h1 := nx1_lt (l := l) (a := a) (n := 9) (by decide)
  have h2 := nx1_lt (l := l) (a := nx2 l a) (n := 4) (by decide)
  have hq : numQ l a = mkRat ((nx1 l a 9 : Int) - 4) (den4 (nx1 l (nx2 l a) 4)) := rfl
  have hA : numA l a = nx2 l (nx2 l a) := rfl
  rw [hq, hA]
  generalize nx1 l a 9 = k1 at *
  generalize nx1 l (nx2 l a) 4 = k2 at *
  have cf : ∀ D : Nat, 0 < D → D < 10 → den4 k2 = D → Fn 72 [.int .i64 ((k1 : Int) - 4), .int .i64 D] (.data (.tup [encRat (cr (mkRat ((k1 : Int) - 4) (den4 k2))), .int .i64 0])) := fun D h3 h4 e => by
    have := c_rqfrac ((k1 : Int) - 4) D (by omega) (by omega)
    rw [show ((D : Int)).natAbs = den4 k2 by rw [e]; rfl] at this
    exact this
  refine fnC_vmut hmix hT ok_fnum (by simp) ?_
  (repeat' (first|refine stp ?_|(with_reducible refine brr ?_ ?_<;>intro h)|(with_reducible refine nilImm_map ?_ ?_<;>intro h)|with_reducible refine anyb_of ?_ ?_)); all_goals try (conv=>whnf)
  refine callV_mut0 (r := 0) c1 rfl rfl rfl rfl (fd_nr _ _) (fdB_g _ _) ?_
  (repeat' (first|refine stp ?_|(with_reducible refine brr ?_ ?_<;>intro h)|(with_reducible refine nilImm_map ?_ ?_<;>intro h)|with_reducible refine anyb_of ?_ ?_)); all_goals try (conv=>whnf)
  refine callV_mut0 (r := 0) c2 rfl rfl rfl rfl (fd_nr _ _) (fdB_g _ _) ?_
  rcases (show k2 = 0 ∨ k2 = 1 ∨ k2 = 2 ∨ k2 = 3 by omega) with rfl | rfl | rfl | rfl
  · (repeat' (first|refine stp ?_|(with_reducible refine brr ?_ ?_<;>intro h)|(with_reducible refine nilImm_map ?_ ?_<;>intro h)|with_reducible refine anyb_of ?_ ?_)); all_goals try (conv=>whnf)
    refine callV_data (cf 1 (by decide) (by decide) rfl) rfl ?_
    (repeat' (first|refine stp ?_|(with_reducible refine brr ?_ ?_<;>intro h)|(with_reducible refine nilImm_map ?_ ?_<;>intro h)|with_reducible refine anyb_of ?_ ?_)); all_goals try (conv=>whnf)
    exact mutV_to rfl rfl rfl rfl rfl (fd_nr _ _)
  · (repeat' (first|refine stp ?_|(with_reducible refine brr ?_ ?_<;>intro h)|(with_reducible refine nilImm_map ?_ ?_<;>intro h)|with_reducible refine anyb_of ?_ ?_)); all_goals try (conv=>whnf)
    refine callV_data (cf 1 (by decide) (by decide) rfl) rfl ?_
    (repeat' (first|refine stp ?_|(with_reducible refine brr ?_ ?_<;>intro h)|(with_reducible refine nilImm_map ?_ ?_<;>intro h)|with_reducible refine anyb_of ?_ ?_)); all_goals try (conv=>whnf)
    exact mutV_to rfl rfl rfl rfl rfl (fd_nr _ _)
  · (repeat' (first|refine stp ?_|(with_reducible refine brr ?_ ?_<;>intro h)|(with_reducible refine nilImm_map ?_ ?_<;>intro h)|with_reducible refine anyb_of ?_ ?_)); all_goals try (conv=>whnf)
    refine callV_data (cf 2 (by decide) (by decide) rfl) rfl ?_
    (repeat' (first|refine stp ?_|(with_reducible refine brr ?_ ?_<;>intro h)|(with_reducible refine nilImm_map ?_ ?_<;>intro h)|with_reducible refine anyb_of ?_ ?_)); all_goals try (conv=>whnf)
    exact mutV_to rfl rfl rfl rfl rfl (fd_nr _ _)
  · (repeat' (first|refine stp ?_|(with_reducible refine brr ?_ ?_<;>intro h)|(with_reducible refine nilImm_map ?_ ?_<;>intro h)|with_reducible refine anyb_of ?_ ?_)); all_goals try (conv=>whnf)
    refine callV_data (cf 4 (by decide) (by decide) rfl) rfl ?_
    (repeat' (first|refine stp ?_|(with_reducible refine brr ?_ ?_<;>intro h)|(with_reducible refine nilImm_map ?_ ?_<;>intro h)|with_reducible refine anyb_of ?_ ?_)); all_goals try (conv=>whnf)
    exact mutV_to rfl rfl rfl rfl rfl (fd_nr _ _)
theorem encF_var (v : Int) : encF (varQ v) = .agg [.imm [encQ (v, 1)], .bool false, .imm [], .imm []] := by unfold encF varQ; rw [cr_zero]; rfl
theorem ok_rvar : FnOk Tryz.prog 45 Tryz.f45 (Tryz.f45.body.getD .skip) [.cell 2 55] 8 := ⟨Tryz.func45, rfl, by decide, Tryz.ntmps45, Tryz.results45, by kernel_rfl, by kernel_rfl⟩
theorem c_rvar (v : Int) : Fn 45 [.int .i64 v] (.data (encF (varQ v))) := by
  have c1 := c_rqof 1 (by decide)
  rw [show ((1 : Int) : Rat) = 1 by rfl] at c1
  rw [encF_var]
  refine fnC_v hmix hT ok_rvar (by simp) ?_
  (repeat' (first|refine stp ?_|(with_reducible refine brr ?_ ?_<;>intro h)|(with_reducible refine nilImm_map ?_ ?_<;>intro h)|with_reducible refine anyb_of ?_ ?_)); all_goals try (conv=>whnf)
  refine callV_data c1 rfl ?_
  (repeat' (first|refine stp ?_|(with_reducible refine brr ?_ ?_<;>intro h)|(with_reducible refine nilImm_map ?_ ?_<;>intro h)|with_reducible refine anyb_of ?_ ?_)); all_goals try (conv=>whnf)
  exact givesV_to rfl rfl
theorem scale_var (v : Int) (q : Rat) (f : QF) (hf : Srt f.ts) : addR f (scaleR (varQ v) q) = mergeQ f (varQ v) q := add_scale hf (varQ_srt v) q
theorem scaleR_var_sz (v : Int) {q : Rat} (hq : sz 1 q) : szF 2 (scaleR (varQ v) q) ∧ (scaleR (varQ v) q).ts.length ≤ 1 := by
  have h0 : sz 2 ((0 : Rat) * q) := by rw [Rat.zero_mul]; exact (szF_zero 2 (by decide)).1
  refine ⟨⟨h0, fun p hp => ?_⟩, ?_⟩
  · simp only [scaleR, sclL, varQ, List.flatMap_cons, List.flatMap_nil, List.append_nil] at hp
    have e := mem_nzq hp
    rw [e]
    show sz 2 ((1 : Rat) * q)
    rw [Rat.one_mul]; exact sz_le (by decide) hq
  · simp only [scaleR, sclL, varQ, List.flatMap_cons, List.flatMap_nil, List.append_nil, nzq]
    split <;> simp
theorem ok_fform : FnOk Tryz.prog 79 Tryz.f79 (Tryz.f79.body.getD .skip) [.cell 4 55] 26 := ⟨Tryz.func79, rfl, by decide, Tryz.ntmps79, Tryz.results79, by kernel_rfl, by kernel_rfl⟩
theorem c_fform (l : List Int) (a m : Nat) (hl : okBy l) (ha : a ≤ l.length) (hm : m ≤ 20) : Fn 79 [.ptr 0 0 0, .int .i64 m] (.wrt (fdB l a) (encF (frmI l a m).1) (fdB l (frmI l a m).2)) := by
  have c0 := c_fnum l a hl ha
  refine fnC_vmut hmix hT ok_fform (by simp) ?_
  (repeat' (first|refine stp ?_|(with_reducible refine brr ?_ ?_<;>intro h)|(with_reducible refine nilImm_map ?_ ?_<;>intro h)|with_reducible refine anyb_of ?_ ?_)); all_goals try (conv=>whnf)
  refine callV_mut0 (r := 0) c0 rfl rfl rfl rfl (fd_nr _ _) (fdB_g _ _) ?_
  (repeat' (first|refine stp ?_|(with_reducible refine brr ?_ ?_<;>intro h)|(with_reducible refine nilImm_map ?_ ?_<;>intro h)|with_reducible refine anyb_of ?_ ?_)); all_goals try (conv=>whnf)
  refine loopV_kept hT (fun (i : Nat) => [(0, .ptr 0 0 0), (1, .int .i64 m), (4, .ptr 1 0 0), (5, .ptr 2 0 0), (6, .int .i64 i)]) (fun i => [(0, fdB l (frmI l a i).2), (1, ⟨[.agg [.nilsl, .bool false, .nilsl, .nilsl]], 4, true⟩), (2, ⟨[encF (frmI l a i).1], 4, true⟩)]) [] 3
    (fun i => i ≤ m) (fun i => m - i) 0 (Nat.zero_le _) (by decide) (by simp) ?_ ?_
  · exact ⟨[_, _], [], [], [(5, [encF ⟨[], numQ l a⟩])], ⟨trivial, trivial, ⟨⟨_, 6, _, rfl, rfl, rfl⟩, trivial⟩⟩, ⟨at_ptr (by decide) rfl, at_int rfl rfl, at_ptr (by decide) rfl, at_ptr (by decide) rfl, at_int rfl rfl, trivial⟩,
      ⟨blk_box (by decide) rfl rfl rfl rfl rfl, blk_box (by decide) rfl rfl rfl rfl rfl, blk_box (by decide) rfl rfl rfl rfl rfl, trivial⟩, by simp [ren]⟩
  intro i i1
  obtain ⟨g1, g2, g3, g4⟩ := frmI_ok ha i
  by_cases hi : i < m
  · have c1 := c_fnext l (frmI l a i).2 3 hl g4 (by decide)
    have c2 := c_fnum l (nx2 l (frmI l a i).2) hl (nx2_le g4)
    have c3 := c_rvar i
    have hq := numQ_sz l (nx2 l (frmI l a i).2)
    have c4 := c_rscale (varQ i) (numQ l (nx2 l (frmI l a i).2)) 1 1 (varQ_sz i) hq (by decide) (by show 1 ≤ _; decide)
    obtain ⟨s1, s2⟩ := scaleR_var_sz i hq
    have hmul : ((scaleR (varQ i) (numQ l (nx2 l (frmI l a i).2))).ts.length + 1) * (2 + 1) ≤ (1 + 1) * (2 + 1) := Nat.mul_le_mul_right _ (by omega)
    have c5 := c_radd (frmI l a i).1 (scaleR (varQ i) (numQ l (nx2 l (frmI l a i).2))) (1 + 3 * i) 2 g2 s1 (by omega) (by omega)
    rw [scale_var i _ _ g1.1] at c5
    have hI : frmI l a (i + 1) = frmS l i (frmI l a i) := rfl
    (repeat' (first|refine stp ?_|(with_reducible refine brr ?_ ?_<;>intro h)|(with_reducible refine nilImm_map ?_ ?_<;>intro h)|with_reducible refine anyb_of ?_ ?_)); all_goals try (conv=>whnf)
    · refine callV_mut0 (r := 0) c1 rfl rfl rfl rfl (fd_nr _ _) (fdB_g _ _) ?_
      (repeat' (first|refine stp ?_|(with_reducible refine brr ?_ ?_<;>intro h)|(with_reducible refine nilImm_map ?_ ?_<;>intro h)|with_reducible refine anyb_of ?_ ?_)); all_goals try (conv=>whnf)
      · refine callV_data c3 rfl ?_
        (repeat' (first|refine stp ?_|(with_reducible refine brr ?_ ?_<;>intro h)|(with_reducible refine nilImm_map ?_ ?_<;>intro h)|with_reducible refine anyb_of ?_ ?_)); all_goals try (conv=>whnf)
        refine callV_mut0 (r := 0) c2 rfl rfl rfl rfl (fd_nr _ _) (fdB_g _ _) ?_
        (repeat' (first|refine stp ?_|(with_reducible refine brr ?_ ?_<;>intro h)|(with_reducible refine nilImm_map ?_ ?_<;>intro h)|with_reducible refine anyb_of ?_ ?_)); all_goals try (conv=>whnf)
        refine callV_data c4 rfl ?_
        (repeat' (first|refine stp ?_|(with_reducible refine brr ?_ ?_<;>intro h)|(with_reducible refine nilImm_map ?_ ?_<;>intro h)|with_reducible refine anyb_of ?_ ?_)); all_goals try (conv=>whnf)
        refine callV_data c5 rfl ?_
        (repeat' (first|refine stp ?_|(with_reducible refine brr ?_ ?_<;>intro h)|(with_reducible refine nilImm_map ?_ ?_<;>intro h)|with_reducible refine anyb_of ?_ ?_)); all_goals try (conv=>whnf)
        have hs : frmS l i (frmI l a i) = (mergeQ (frmI l a i).1 (varQ i) (numQ l (nx2 l (frmI l a i).2)), numA l (nx2 l (frmI l a i).2)) := by unfold frmS; rw [if_pos (by omega)]
        rw [hs] at hI
        exact ⟨i + 1, ⟨by omega, by show m - (i + 1) < m - i; omega⟩, [1, 2], [], [], [], ⟨trivial, trivial, trivial⟩, ⟨at_ptr (by decide) rfl, at_int rfl rfl, at_ptr (by decide) rfl, at_ptr (by decide) rfl, at_int rfl rfl, trivial⟩,
          ⟨blk_box (by decide) rfl (by rw [hI]) rfl rfl rfl, blk_box (by decide) rfl rfl rfl rfl rfl, blk_box (by decide) rfl (by rw [hI]; rfl) rfl rfl rfl, trivial⟩, by simp [ren]⟩
      · have hs : frmS l i (frmI l a i) = ((frmI l a i).1, nx2 l (frmI l a i).2) := by unfold frmS; rw [if_neg (by omega)]
        rw [hs] at hI
        exact ⟨i + 1, ⟨by omega, by show m - (i + 1) < m - i; omega⟩, [1, 2], [], [], [], ⟨trivial, trivial, trivial⟩, ⟨at_ptr (by decide) rfl, at_int rfl rfl, at_ptr (by decide) rfl, at_ptr (by decide) rfl, at_int rfl rfl, trivial⟩,
          ⟨blk_box (by decide) rfl (by rw [hI]) rfl rfl rfl, blk_box (by decide) rfl rfl rfl rfl rfl, blk_box (by decide) rfl (by rw [hI]) rfl rfl rfl, trivial⟩, by simp [ren]⟩
    all_goals (exfalso; omega)
  · obtain rfl : i = m := by omega
    (repeat' (first|refine stp ?_|(with_reducible refine brr ?_ ?_<;>intro h)|(with_reducible refine nilImm_map ?_ ?_<;>intro h)|with_reducible refine anyb_of ?_ ?_)); all_goals try (conv=>whnf)
    all_goals try (exfalso; omega)
    exact mutV_to rfl rfl rfl rfl rfl (fd_nr _ _)
end Go.PI.Tryz
namespace Go.PI.Tryz
set_option linter.unnecessarySimpa false
open Go.Proofs Go.PI
set_option linter.unusedSimpArgs false
set_option linter.unusedVariables false
theorem ok_sgvalid : FnOk Tryz.prog 15 Tryz.f15 (Tryz.f15.body.getD .skip) [.tmp 4] 66 := ⟨Tryz.func15, rfl, by decide, Tryz.ntmps15, Tryz.results15, by kernel_rfl, by kernel_rfl⟩
theorem c_sgvalid (r : RegL) (n : Int) (hr : okReg 400000 r) : Fn 15 [encReg r, .int .i64 n] (.data (.bool (dB (VaR r n)))) := by
  obtain ⟨hlo, hhi, hrw, hrl⟩ := hr
  have no : ¬ VaR r n → false = dB (VaR r n) := dB_no
  have l1 := hlo.1
  have l2 := hhi.1
  have v1 := c_validall r.lo (okLs_le (by decide) hlo)
  have v2 := c_validall r.hi (okLs_le (by decide) hhi)
  have v3 := c_rlvalidall r.rows n ⟨hrl, fun f hf => okA_le (by decide) (hrw f hf)⟩
  refine fnC_v hmix hT ok_sgvalid (by simp [encReg]) ?_
  (repeat' (first|refine stp ?_|(with_reducible refine brr ?_ ?_<;>intro h)|(with_reducible refine nilImm_map ?_ ?_<;>intro h)|with_reducible refine anyb_of ?_ ?_)); all_goals try (conv=>whnf)
  · exact givesV_to rfl (congrArg PV.bool (no fun e => by have := e.1.1; omega))
  · exact givesV_to rfl (congrArg PV.bool (no fun e => by have := e.1.2; omega))
  · exact givesV_to rfl (congrArg PV.bool (no fun e => by have := e.2.1; omega))
  · exact givesV_to rfl (congrArg PV.bool (no fun e => by have := e.2.2.1; omega))
  · exact givesV_to rfl (congrArg PV.bool (no fun e => by have := e.2.2.2.1; omega))
  · have h0 : (1 ≤ n ∧ n ≤ 256) ∧ (r.lo.length : Int) = n ∧ (r.hi.length : Int) = n ∧ r.rows.length ≤ 256 := ⟨⟨by omega, by omega⟩, by omega, by omega, by omega⟩
    obtain ⟨h1, h2, h3, h4⟩ := h0
    have hh : r.hi.length = r.lo.length := by omega
    refine callV_data v1 rfl ?_
    (repeat' (first|refine stp ?_|(with_reducible refine brr ?_ ?_<;>intro h)|(with_reducible refine nilImm_map ?_ ?_<;>intro h)|with_reducible refine anyb_of ?_ ?_)); all_goals try (conv=>whnf)
    rotate_left
    · exact givesV_to rfl (congrArg PV.bool (no fun e => dB_false.1 h fun j hj => (e.2.2.2.2.1 j hj).1))
    refine callV_data v2 rfl ?_
    (repeat' (first|refine stp ?_|(with_reducible refine brr ?_ ?_<;>intro h)|(with_reducible refine nilImm_map ?_ ?_<;>intro h)|with_reducible refine anyb_of ?_ ?_)); all_goals try (conv=>whnf)
    rotate_left
    · exact givesV_to rfl (congrArg PV.bool (no fun e => dB_false.1 h fun j hj => (e.2.2.2.2.1 j (by omega)).2.1))
    refine callV_data v3 rfl ?_
    (repeat' (first|refine stp ?_|(with_reducible refine brr ?_ ?_<;>intro h)|(with_reducible refine nilImm_map ?_ ?_<;>intro h)|with_reducible refine anyb_of ?_ ?_)); all_goals try (conv=>whnf)
    rotate_left
    · exact givesV_to rfl (congrArg PV.bool (no fun e => dB_false.1 h fun j hj => e.2.2.2.2.2 j hj))
    have w1 : canAt r.lo := dB_true.1 (by assumption)
    have w2 : canAt r.hi := dB_true.1 (by assumption)
    have w3 : valAll r.rows n := dB_true.1 (by assumption)
    refine loopV_kept hT (fun (i : Nat) => [(1, .int .i64 n), (2, .ptr 0 0 0), (5, .int .i64 i)]) (fun _ => [(0, ⟨[encReg r], 3, true⟩)]) [] 1
      (fun i => i ≤ r.lo.length ∧ ∀ j, j < i → qv r.lo[j]! ≤ qv r.hi[j]!) (fun i => r.lo.length - i) 0 ⟨Nat.zero_le _, fun j h => (by omega)⟩ (by decide) (by simp) ?_ ?_
    · exact ⟨[0], [], [], [], ⟨trivial, trivial, trivial⟩, ⟨at_int rfl rfl, at_ptr (by decide) rfl, at_int rfl rfl, trivial⟩, ⟨blk_box (by decide) rfl rfl rfl rfl rfl, trivial⟩, by simp [ren]⟩
    intro i ⟨i1, i2⟩
    by_cases hi : i < r.lo.length
    · have hi2 : i < r.hi.length := by omega
      have q1 := okLs_get hlo hi
      have q2 := okLs_get hhi hi2
      have c3 := c_rqcmp r.lo[i]! r.hi[i]! q1.1 q2.1 (by have := q1.2; omega) (by have := q1.2; omega) (by have := q2.2; omega) (by have := q2.2; omega)
      (repeat' (first|refine stp ?_|(with_reducible refine brr ?_ ?_<;>intro h)|(with_reducible refine nilImm_map ?_ ?_<;>intro h)|with_reducible refine anyb_of ?_ ?_)); all_goals try (conv=>whnf)
      · refine callV_data c3 rfl ?_
        (repeat' (first|refine stp ?_|(with_reducible refine brr ?_ ?_<;>intro h)|(with_reducible refine nilImm_map ?_ ?_<;>intro h)|with_reducible refine anyb_of ?_ ?_)); all_goals try (conv=>whnf)
        · exact givesV_to rfl (congrArg PV.bool (no fun e => by have := sgn_le.2 (e.2.2.2.2.1 i hi).2.2; omega))
        · exact ⟨i + 1, ⟨⟨by omega, fun j hj => lt_succ_cases (p := fun j => qv r.lo[j]! ≤ qv r.hi[j]!) i2 (sgn_le.1 (by omega)) hj⟩, by show r.lo.length - (i + 1) < r.lo.length - i; omega⟩, [0], [], [], [], ⟨trivial, trivial, trivial⟩, ⟨at_int rfl rfl, at_ptr (by decide) rfl, at_int rfl rfl, trivial⟩, ⟨blk_box (by decide) rfl rfl rfl rfl rfl, trivial⟩, by simp [ren]⟩
      all_goals (exfalso; omega)
    · (repeat' (first|refine stp ?_|(with_reducible refine brr ?_ ?_<;>intro h)|(with_reducible refine nilImm_map ?_ ?_<;>intro h)|with_reducible refine anyb_of ?_ ?_)); all_goals try (conv=>whnf)
      all_goals try (exfalso; omega)
      exact givesV_to rfl (congrArg PV.bool (dB_yes ⟨h1, h2, h3, h4, fun j hj => ⟨w1 j hj, w2 j (by omega), i2 j (by omega)⟩, w3⟩))
theorem ok_sgown : FnOk Tryz.prog 58 Tryz.f58 (Tryz.f58.body.getD .skip) [.tmp 2] 8 := ⟨Tryz.func58, rfl, by decide, Tryz.ntmps58, Tryz.results58, by kernel_rfl, by kernel_rfl⟩
theorem c_sgown (r : RegL) (hr : okReg 400000 r) : Fn 58 [encReg r] (.data (.bool (dB (VaO r)))) := by
  have cc := c_sgvalid r r.lo.length hr
  have l1 := hr.1.1
  refine fnC_v hmix hT ok_sgown (by simp [encReg]) ?_
  (repeat' (first|refine stp ?_|(with_reducible refine brr ?_ ?_<;>intro h)|(with_reducible refine nilImm_map ?_ ?_<;>intro h)|with_reducible refine anyb_of ?_ ?_)); all_goals try (conv=>whnf)
  refine callV_data cc (by simp; rfl) ?_
  (repeat' (first|refine stp ?_|(with_reducible refine brr ?_ ?_<;>intro h)|(with_reducible refine nilImm_map ?_ ?_<;>intro h)|with_reducible refine anyb_of ?_ ?_)); all_goals try (conv=>whnf)
  exact givesV_to rfl rfl
theorem take_snocX {l : List RatL} {i : Nat} (h : i < l.length) : ((l.take i).map qv).map encX ++ [encRat (cr (qv l[i]!))] = ((l.take (i + 1)).map qv).map encX := by
  rw [List.take_succ_eq_append_getElem h, List.map_append, List.map_append, getElem!_pos l i h]; rfl
theorem ok_sgcan : FnOk Tryz.prog 57 Tryz.f57 (Tryz.f57.body.getD .skip) [.tmp 2] 20 := ⟨Tryz.func57, rfl, by decide, Tryz.ntmps57, Tryz.results57, by kernel_rfl, by kernel_rfl⟩
theorem c_sgcan (l : List RatL) (hl : okLs 2097100 l) : Fn 57 [.imm (l.map encRat)] (.data (.imm ((l.map qv).map encX))) := by
  have l1 := hl.1
  refine fnC_v hmix hT ok_sgcan (by simp) ?_
  (repeat' (first|refine stp ?_|(with_reducible refine brr ?_ ?_<;>intro h)|(with_reducible refine nilImm_map ?_ ?_<;>intro h)|with_reducible refine anyb_of ?_ ?_)); all_goals try (conv=>whnf)
  refine loopV_grow hT [(.sl 3, 3, true)] (fun (i : Nat) => [(0, .imm (l.map encRat)), (3, .own 0 0 i), (4, .int .i64 i)]) (fun i => [(0, ⟨((l.take i).map qv).map encX, 3, true⟩)]) [] 1
    (fun i => i ≤ l.length) (fun i => l.length - i) 0 (Nat.zero_le _) (by decide) (by simp) ⟨rfl, trivial⟩ ?_ ?_
  · exact ⟨[_], [], [], [], ⟨trivial, trivial, trivial⟩, ⟨at_imm rfl rfl, at_own (by decide) rfl rfl, at_int rfl rfl, trivial⟩, ⟨blk_row (by decide) rfl rfl (nr_map fun _ => ⟨rfl, by simp [encX, encRat]⟩) rfl, trivial⟩, by simp [ren]⟩
  intro i i1
  have hlen : ((l.take i).map qv).length = i := by rw [List.length_map, List.length_take]; omega
  by_cases hi : i < l.length
  · have q1 := okLs_get hl hi
    have cc := c_rqcanon l[i]! q1.1 (by have := q1.2; omega) (by have := q1.2; omega)
    (repeat' (first|refine stp ?_|(with_reducible refine brr ?_ ?_<;>intro h)|(with_reducible refine nilImm_map ?_ ?_<;>intro h)|with_reducible refine anyb_of ?_ ?_)); all_goals try (conv=>whnf)
    · refine callV_data cc rfl ?_
      (repeat' (first|refine stp ?_|(with_reducible refine brr ?_ ?_<;>intro h)|(with_reducible refine nilImm_map ?_ ?_<;>intro h)|with_reducible refine anyb_of ?_ ?_)); all_goals try (conv=>whnf)
      exact ⟨i + 1, ⟨by omega, by show l.length - (i + 1) < l.length - i; omega⟩, [_], [], [], [], ⟨trivial, trivial, trivial⟩, ⟨at_imm rfl rfl, at_own (by decide) rfl rfl, at_int rfl rfl, trivial⟩, ⟨blk_row (by decide) rfl (take_snocX hi) (nr_map fun _ => ⟨rfl, by simp [encX, encRat]⟩) rfl, trivial⟩, by simp [ren]⟩
    all_goals (exfalso; omega)
  · (repeat' (first|refine stp ?_|(with_reducible refine brr ?_ ?_<;>intro h)|(with_reducible refine nilImm_map ?_ ?_<;>intro h)|with_reducible refine anyb_of ?_ ?_)); all_goals try (conv=>whnf)
    all_goals try (exfalso; omega)
    exact givesV_to (frz_own_map rfl rfl (by omega) fun q => frz_rat (cr q)) (by rw [List.take_of_length_le (by omega)])
theorem ok_sgbox : FnOk Tryz.prog 18 Tryz.f18 (Tryz.f18.body.getD .skip) [.cell 4 25, .tmp 5] 17 := ⟨Tryz.func18, rfl, by decide, Tryz.ntmps18, Tryz.results18, by kernel_rfl, by kernel_rfl⟩
theorem c_sgbox (lo hi : List RatL) (h1 : okLs 400000 lo) (h2 : okLs 400000 hi) : Fn 18 [.imm (lo.map encRat), .imm (hi.map encRat)] (.data (.tup [encReg (boxV lo hi).1, .int .i64 (boxV lo hi).2])) := by
  have e1 := c_sgcan lo (okLs_le (by decide) h1)
  have e2 := c_sgcan hi (okLs_le (by decide) h2)
  have co := c_sgown (canR lo hi) (okReg_can h1 h2 (by decide))
  rw [canR_reg] at co
  refine fnC_v hmix hT ok_sgbox (by simp) ?_
  (repeat' (first|refine stp ?_|(with_reducible refine brr ?_ ?_<;>intro h)|(with_reducible refine nilImm_map ?_ ?_<;>intro h)|with_reducible refine anyb_of ?_ ?_)); all_goals try (conv=>whnf)
  refine callV_data e1 rfl ?_
  (repeat' (first|refine stp ?_|(with_reducible refine brr ?_ ?_<;>intro h)|(with_reducible refine nilImm_map ?_ ?_<;>intro h)|with_reducible refine anyb_of ?_ ?_)); all_goals try (conv=>whnf)
  refine callV_data e2 rfl ?_
  (repeat' (first|refine stp ?_|(with_reducible refine brr ?_ ?_<;>intro h)|(with_reducible refine nilImm_map ?_ ?_<;>intro h)|with_reducible refine anyb_of ?_ ?_)); all_goals try (conv=>whnf)
  refine callV_data co rfl ?_
  (repeat' (first|refine stp ?_|(with_reducible refine brr ?_ ?_<;>intro h)|(with_reducible refine nilImm_map ?_ ?_<;>intro h)|with_reducible refine anyb_of ?_ ?_)); all_goals try (conv=>whnf)
  · unfold boxV; rw [if_pos (dB_true.1 (by assumption)), canR_reg]
    exact givesV_to rfl rfl
  · unfold boxV; rw [if_neg (dB_false.1 (by assumption))]
    exact givesV_to rfl rfl
def RegL.all (r : RegL) := (r.lo, r.hi, r.rows)
theorem reg_ext {a b : RegL} : a = b ↔ a.lo = b.lo ∧ a.hi = b.hi ∧ a.rows = b.rows := by cases a; cases b; simp
instance : DecidableEq RegL := fun a b => decidable_of_iff (a.lo = b.lo ∧ a.hi = b.hi ∧ a.rows = b.rows) reg_ext.symm
theorem ok_sgequal : FnOk Tryz.prog 19 Tryz.f19 (Tryz.f19.body.getD .skip) [.tmp 4] 24 := ⟨Tryz.func19, rfl, by decide, Tryz.ntmps19, Tryz.results19, by kernel_rfl, by kernel_rfl⟩
theorem c_sgequal (a b : RegL) (ha : okReg 2097100 a) (hb : okReg 2097100 b) : Fn 19 [encReg a, encReg b] (.data (.bool (decide (a = b)))) := by
  have c1 := c_sameall a.lo b.lo ha.1 hb.1
  have c2 := c_sameall a.hi b.hi ha.2.1 hb.2.1
  have c3 := c_rlequalall a.rows b.rows ⟨ha.2.2.2, ha.2.2.1⟩ ⟨hb.2.2.2, hb.2.2.1⟩
  refine fnC_v hmix hT ok_sgequal (by simp [encReg]) ?_
  (repeat' (first|refine stp ?_|(with_reducible refine brr ?_ ?_<;>intro h)|(with_reducible refine nilImm_map ?_ ?_<;>intro h)|with_reducible refine anyb_of ?_ ?_)); all_goals try (conv=>whnf)
  refine callV_data c1 rfl ?_
  (repeat' (first|refine stp ?_|(with_reducible refine brr ?_ ?_<;>intro h)|(with_reducible refine nilImm_map ?_ ?_<;>intro h)|with_reducible refine anyb_of ?_ ?_)); all_goals try (conv=>whnf)
  · refine callV_data c2 rfl ?_
    (repeat' (first|refine stp ?_|(with_reducible refine brr ?_ ?_<;>intro h)|(with_reducible refine nilImm_map ?_ ?_<;>intro h)|with_reducible refine anyb_of ?_ ?_)); all_goals try (conv=>whnf)
    · refine callV_data c3 rfl ?_
      (repeat' (first|refine stp ?_|(with_reducible refine brr ?_ ?_<;>intro h)|(with_reducible refine nilImm_map ?_ ?_<;>intro h)|with_reducible refine anyb_of ?_ ?_)); all_goals try (conv=>whnf)
      refine givesV_to rfl (congrArg PV.bool (decide_eq_decide.2 ?_))
      rw [reg_ext]; simp_all
    · refine givesV_to rfl (congrArg PV.bool (decide_eq_false ?_).symm)
      rw [reg_ext]; simp_all
  · refine givesV_to rfl (congrArg PV.bool (decide_eq_false ?_).symm)
    rw [reg_ext]; simp_all
theorem ok_sgcont : FnOk Tryz.prog 21 Tryz.f21 (Tryz.f21.body.getD .skip) [.tmp 4] 70 := ⟨Tryz.func21, rfl, by decide, Tryz.ntmps21, Tryz.results21, by kernel_rfl, by kernel_rfl⟩
theorem c_sgcont (r : RegL) (x : List RatL) (k kx : Nat) (hr : okReg k r) (hk1 : 1 ≤ k) (hkx : 1 ≤ kx) (hx : okLs kx x) (hk : ∀ f ∈ r.rows, k + f.terms.length * (k + kx + 1) + k + kx ≤ 399990) (hk2 : k ≤ 399990) (hk3 : kx ≤ 399990) : Fn 21 [encReg r, .imm (x.map encRat)] (.data (.bool (dB (conR r x)))) := by
  obtain ⟨hlo, hhi, hrw, hrl⟩ := hr
  have no : ¬ conR r x → false = dB (conR r x) := dB_no
  have l1 := hlo.1
  have l2 := hhi.1
  have l3 := hx.1
  have co := c_sgown r (okReg_le (by omega) ⟨hlo, hhi, hrw, hrl⟩)
  refine fnC_v hmix hT ok_sgcont (by simp [encReg]) ?_
  (repeat' (first|refine stp ?_|(with_reducible refine brr ?_ ?_<;>intro h)|(with_reducible refine nilImm_map ?_ ?_<;>intro h)|with_reducible refine anyb_of ?_ ?_)); all_goals try (conv=>whnf)
  refine callV_data co rfl ?_
  (repeat' (first|refine stp ?_|(with_reducible refine brr ?_ ?_<;>intro h)|(with_reducible refine nilImm_map ?_ ?_<;>intro h)|with_reducible refine anyb_of ?_ ?_)); all_goals try (conv=>whnf)
  · exact givesV_to rfl (congrArg PV.bool (no fun e => by have := e.2.1; omega))
  · have hlen : x.length = r.lo.length := by omega
    have hva : VaO r := dB_true.1 (by assumption)
    have hlh : r.hi.length = r.lo.length := by have := hva.2.2.1; omega
    refine loopV_kept hT (fun (i : Nat) => [(1, .imm (x.map encRat)), (2, .ptr 0 0 0), (5, .int .i64 i)]) (fun _ => [(0, ⟨[encReg r], 3, true⟩)]) [] 1
      (fun i => i ≤ x.length ∧ ∀ j, j < i → qv r.lo[j]! ≤ qv x[j]! ∧ qv x[j]! ≤ qv r.hi[j]!) (fun i => x.length - i) 0 ⟨Nat.zero_le _, fun j h => (by omega)⟩ (by decide) (by simp) ?_ ?_
    · exact ⟨[0], [], [], [], ⟨trivial, trivial, trivial⟩, ⟨at_imm rfl rfl, at_ptr (by decide) rfl, at_int rfl rfl, trivial⟩, ⟨blk_box (by decide) rfl rfl rfl rfl rfl, trivial⟩, by simp [ren]⟩
    intro i ⟨i1, i2⟩
    by_cases hi : i < x.length
    · have hi1 : i < r.lo.length := by omega
      have hi2 : i < r.hi.length := by omega
      have q0 := okLs_get hx hi
      have q1 := okLs_get hlo hi1
      have q2 := okLs_get hhi hi2
      have c1 := c_rqcmp x[i]! r.lo[i]! q0.1 q1.1 (by have := q0.2; omega) (by have := q0.2; omega) (by have := q1.2; omega) (by have := q1.2; omega)
      have c2 := c_rqcmp x[i]! r.hi[i]! q0.1 q2.1 (by have := q0.2; omega) (by have := q0.2; omega) (by have := q2.2; omega) (by have := q2.2; omega)
      (repeat' (first|refine stp ?_|(with_reducible refine brr ?_ ?_<;>intro h)|(with_reducible refine nilImm_map ?_ ?_<;>intro h)|with_reducible refine anyb_of ?_ ?_)); all_goals try (conv=>whnf)
      · refine callV_data c1 rfl ?_
        (repeat' (first|refine stp ?_|(with_reducible refine brr ?_ ?_<;>intro h)|(with_reducible refine nilImm_map ?_ ?_<;>intro h)|with_reducible refine anyb_of ?_ ?_)); all_goals try (conv=>whnf)
        · exact givesV_to rfl (congrArg PV.bool (no fun e => by have := sgn_ge.2 (e.2.2.1 i hi).1; omega))
        · refine callV_data c2 rfl ?_
          (repeat' (first|refine stp ?_|(with_reducible refine brr ?_ ?_<;>intro h)|(with_reducible refine nilImm_map ?_ ?_<;>intro h)|with_reducible refine anyb_of ?_ ?_)); all_goals try (conv=>whnf)
          · exact givesV_to rfl (congrArg PV.bool (no fun e => by have := sgn_le.2 (e.2.2.1 i hi).2; omega))
          · exact ⟨i + 1, ⟨⟨by omega, fun j hj => lt_succ_cases (p := fun j => qv r.lo[j]! ≤ qv x[j]! ∧ qv x[j]! ≤ qv r.hi[j]!) i2 ⟨sgn_ge.1 (by omega), sgn_le.1 (by omega)⟩ hj⟩, by show x.length - (i + 1) < x.length - i; omega⟩, [0], [], [], [], ⟨trivial, trivial, trivial⟩, ⟨at_imm rfl rfl, at_ptr (by decide) rfl, at_int rfl rfl, trivial⟩, ⟨blk_box (by decide) rfl rfl rfl rfl rfl, trivial⟩, by simp [ren]⟩
      all_goals (exfalso; omega)
    · (repeat' (first|refine stp ?_|(with_reducible refine brr ?_ ?_<;>intro h)|(with_reducible refine nilImm_map ?_ ?_<;>intro h)|with_reducible refine anyb_of ?_ ?_)); all_goals try (conv=>whnf)
      all_goals try (exfalso; omega)
      refine loopV_kept hT (fun (i : Nat) => [(1, .imm (x.map encRat)), (2, .ptr 0 0 0), (6, .int .i64 i)]) (fun _ => [(0, ⟨[encReg r], 3, true⟩)]) [] 1
        (fun i => i ≤ r.rows.length ∧ ∀ j, j < i → 0 ≤ evQ r.rows[j]!.Q (x.map qv)) (fun i => r.rows.length - i) 0 ⟨Nat.zero_le _, fun j h => (by omega)⟩ (by decide) (by simp) ?_ ?_
      · exact ⟨[0], [], [], [], ⟨trivial, trivial, trivial⟩, ⟨at_imm rfl rfl, at_ptr (by decide) rfl, at_int rfl rfl, trivial⟩, ⟨blk_box (by decide) rfl rfl rfl rfl rfl, trivial⟩, by simp [ren]⟩
      intro k1 ⟨k1a, k1b⟩
      by_cases hk' : k1 < r.rows.length
      · have hv := hva.2.2.2.2.2 k1 hk'
        rw [← hlen] at hv
        have hF := okF_of hv
        have ha := hrw _ (get_mem hk')
        have hs := szF_okA ha hk1
        have hlf := ha.2.2
        have hkk := hk _ (get_mem hk')
        have hvx : ∀ p ∈ r.rows[k1]!.Q.ts, 0 ≤ p.1 ∧ p.1 < x.length := fun p hp => hF.2 p hp
        have ql := Q_len r.rows[k1]!
        have ce := c_rlevalW r.rows[k1]!.Q x k kx hs hkx hx.2 hvx (by rw [ql]; exact hkk) (by omega) hx.1
        rw [← encF_of hv] at ce
        have hz := evQ_sz (kx := kx) (x := x.map qv) hs (fun q hq => by
          obtain ⟨y, hy, rfl⟩ := List.mem_map.1 hq
          have := hx.2 y hy
          exact sz_qv this.1 this.2.1 this.2.2 hkx) (fun p hp => by simpa using hvx p hp)
        rw [ql] at hz
        have hl4 := cr_len hz
        have cs := c_rqsign (cr (evQ r.rows[k1]!.Q (x.map qv))) (okR_cr _) (by omega)
        rw [qv_cr] at cs
        (repeat' (first|refine stp ?_|(with_reducible refine brr ?_ ?_<;>intro h)|(with_reducible refine nilImm_map ?_ ?_<;>intro h)|with_reducible refine anyb_of ?_ ?_)); all_goals try (conv=>whnf)
        · refine callV_data ce rfl ?_
          (repeat' (first|refine stp ?_|(with_reducible refine brr ?_ ?_<;>intro h)|(with_reducible refine nilImm_map ?_ ?_<;>intro h)|with_reducible refine anyb_of ?_ ?_)); all_goals try (conv=>whnf)
          refine callV_data cs rfl ?_
          (repeat' (first|refine stp ?_|(with_reducible refine brr ?_ ?_<;>intro h)|(with_reducible refine nilImm_map ?_ ?_<;>intro h)|with_reducible refine anyb_of ?_ ?_)); all_goals try (conv=>whnf)
          · exact givesV_to rfl (congrArg PV.bool (no fun e => by have := sgnQ_neg.1 h; have := e.2.2.2 k1 hk'; grind))
          · exact ⟨k1 + 1, ⟨⟨by omega, fun j hj => lt_succ_cases (p := fun j => 0 ≤ evQ r.rows[j]!.Q (x.map qv)) k1b (Rat.not_lt.1 fun e => by have := sgnQ_neg.2 e; omega) hj⟩, by show r.rows.length - (k1 + 1) < r.rows.length - k1; omega⟩, [0], [], [], [], ⟨trivial, trivial, trivial⟩, ⟨at_imm rfl rfl, at_ptr (by decide) rfl, at_int rfl rfl, trivial⟩, ⟨blk_box (by decide) rfl rfl rfl rfl rfl, trivial⟩, by simp [ren]⟩
        all_goals (exfalso; omega)
      · (repeat' (first|refine stp ?_|(with_reducible refine brr ?_ ?_<;>intro h)|(with_reducible refine nilImm_map ?_ ?_<;>intro h)|with_reducible refine anyb_of ?_ ?_)); all_goals try (conv=>whnf)
        all_goals try (exfalso; omega)
        exact givesV_to rfl (congrArg PV.bool (dB_yes ⟨hva, hlen, fun j hj => i2 j (by omega), fun j hj => k1b j (by omega)⟩))
  · exact givesV_to rfl (congrArg PV.bool (no fun e => dB_false.1 h e.1))
theorem ok_sgint : FnOk Tryz.prog 38 Tryz.f38 (Tryz.f38.body.getD .skip) [.tmp 2] 30 := ⟨Tryz.func38, rfl, by decide, Tryz.ntmps38, Tryz.results38, by kernel_rfl, by kernel_rfl⟩
theorem c_sgint (r : RegL) (hr : okReg 400000 r) : Fn 38 [encReg r] (.data (.imm ((ivR r).map encIv))) := by
  obtain ⟨hlo, hhi, hrw, hrl⟩ := hr
  have l1 := hlo.1
  have co := c_sgown r ⟨hlo, hhi, hrw, hrl⟩
  refine fnC_v hmix hT ok_sgint (by simp [encReg]) ?_
  (repeat' (first|refine stp ?_|(with_reducible refine brr ?_ ?_<;>intro h)|(with_reducible refine nilImm_map ?_ ?_<;>intro h)|with_reducible refine anyb_of ?_ ?_)); all_goals try (conv=>whnf)
  refine callV_data co rfl ?_
  (repeat' (first|refine stp ?_|(with_reducible refine brr ?_ ?_<;>intro h)|(with_reducible refine nilImm_map ?_ ?_<;>intro h)|with_reducible refine anyb_of ?_ ?_)); all_goals try (conv=>whnf)
  · have hva : VaO r := dB_true.1 (by assumption)
    have hlh : r.hi.length = r.lo.length := by have := hva.2.2.1; omega
    have hzl : (r.lo.zip r.hi).length = r.lo.length := by simp [hlh]
    rw [show ivR r = r.lo.zip r.hi by unfold ivR; rw [if_pos hva]]
    refine loopV_grow hT [(.sl 3, 6, true)] (fun (i : Nat) => [(1, .ptr 0 0 0), (3, .own 1 0 i), (4, .int .i64 i)]) (fun i => [(0, ⟨[encReg r], 3, true⟩), (1, ⟨((r.lo.zip r.hi).take i).map encIv, 6, true⟩)]) [] 2
      (fun i => i ≤ r.lo.length) (fun i => r.lo.length - i) 0 (Nat.zero_le _) (by decide) (by simp) ⟨rfl, trivial⟩ ?_ ?_
    · exact ⟨[0, _], [], [], [], ⟨trivial, trivial, trivial⟩, ⟨at_ptr (by decide) rfl, at_own (by decide) rfl rfl, at_int rfl rfl, trivial⟩, ⟨blk_box (by decide) rfl rfl rfl rfl rfl, blk_row (by decide) rfl rfl (nr_map fun _ => ⟨rfl, by simp [encIv]⟩) rfl, trivial⟩, by simp [ren]⟩
    intro i i1
    have hlen : ((r.lo.zip r.hi).take i).length = i := by rw [List.length_take]; omega
    by_cases hi : i < r.lo.length
    · have hi2 : i < r.hi.length := by omega
      have hs : ((r.lo.zip r.hi).take i).map encIv ++ [encIv (r.lo[i]!, r.hi[i]!)] = ((r.lo.zip r.hi).take (i + 1)).map encIv := by
        rw [List.take_succ_eq_append_getElem (by omega), List.map_append]
        simp [getElem!_pos r.lo i hi, getElem!_pos r.hi i hi2]
      (repeat' (first|refine stp ?_|(with_reducible refine brr ?_ ?_<;>intro h)|(with_reducible refine nilImm_map ?_ ?_<;>intro h)|with_reducible refine anyb_of ?_ ?_)); all_goals try (conv=>whnf)
      · exact ⟨i + 1, ⟨by omega, by show r.lo.length - (i + 1) < r.lo.length - i; omega⟩, [0, _], [], [], [], ⟨trivial, trivial, trivial⟩, ⟨at_ptr (by decide) rfl, at_own (by decide) rfl rfl, at_int rfl rfl, trivial⟩, ⟨blk_box (by decide) rfl rfl rfl rfl rfl, blk_row (by decide) rfl hs (nr_map fun _ => ⟨rfl, by simp [encIv]⟩) rfl, trivial⟩, by simp [ren]⟩
      all_goals (exfalso; omega)
    · (repeat' (first|refine stp ?_|(with_reducible refine brr ?_ ?_<;>intro h)|(with_reducible refine nilImm_map ?_ ?_<;>intro h)|with_reducible refine anyb_of ?_ ?_)); all_goals try (conv=>whnf)
      all_goals try (exfalso; omega)
      exact givesV_to (frz_own_map rfl rfl (by omega) fun q => by rfl) (by rw [List.take_of_length_le (by omega)])
  · rw [show ivR r = [] by unfold ivR; rw [if_neg (dB_false.1 h)]]
    exact givesV_to rfl rfl
end Go.PI.Tryz
namespace Go.PI.Tryz
set_option linter.unnecessarySimpa false
open Go.Proofs Go.PI
set_option linter.unusedSimpArgs false
set_option linter.unusedVariables false
theorem ok_sgwithin : FnOk Tryz.prog 26 Tryz.f26 (Tryz.f26.body.getD .skip) [.tmp 4] 64 := ⟨Tryz.func26, rfl, by decide, Tryz.ntmps26, Tryz.results26, by kernel_rfl, by kernel_rfl⟩
theorem c_sgwithin (a b : RegL) (ha : okReg 400000 a) (hb : okReg 400000 b) : Fn 26 [encReg a, encReg b] (.data (.bool (dB (wiR a b)))) := by
  have no : ¬ wiR a b → false = dB (wiR a b) := dB_no
  have c1 := c_sgown a ha
  have c2 := c_sgown b hb
  have cq := c_rlequalall a.rows b.rows ⟨ha.2.2.2, fun f hf => okA_le (by decide) (ha.2.2.1 f hf)⟩ ⟨hb.2.2.2, fun f hf => okA_le (by decide) (hb.2.2.1 f hf)⟩
  have l1 := ha.1.1
  have l2 := ha.2.1.1
  have l3 := hb.1.1
  have l4 := hb.2.1.1
  refine fnC_v hmix hT ok_sgwithin (by simp [encReg]) ?_
  (repeat' (first|refine stp ?_|(with_reducible refine brr ?_ ?_<;>intro h)|(with_reducible refine nilImm_map ?_ ?_<;>intro h)|with_reducible refine anyb_of ?_ ?_)); all_goals try (conv=>whnf)
  refine callV_data c1 rfl ?_
  (repeat' (first|refine stp ?_|(with_reducible refine brr ?_ ?_<;>intro h)|(with_reducible refine nilImm_map ?_ ?_<;>intro h)|with_reducible refine anyb_of ?_ ?_)); all_goals try (conv=>whnf)
  · refine callV_data c2 rfl ?_
    (repeat' (first|refine stp ?_|(with_reducible refine brr ?_ ?_<;>intro h)|(with_reducible refine nilImm_map ?_ ?_<;>intro h)|with_reducible refine anyb_of ?_ ?_)); all_goals try (conv=>whnf)
    · exact givesV_to rfl (congrArg PV.bool (no fun e => by have := e.2.2.1; omega))
    · refine callV_data cq rfl ?_
      (repeat' (first|refine stp ?_|(with_reducible refine brr ?_ ?_<;>intro h)|(with_reducible refine nilImm_map ?_ ?_<;>intro h)|with_reducible refine anyb_of ?_ ?_)); all_goals try (conv=>whnf)
      · have hva : VaO a := dB_true.1 (by assumption)
        have hvb : VaO b := dB_true.1 (by assumption)
        have hrows : a.rows = b.rows := by assumption
        have hlen : a.lo.length = b.lo.length := by omega
        have hla : a.hi.length = a.lo.length := by have := hva.2.2.1; omega
        have hlb : b.hi.length = b.lo.length := by have := hvb.2.2.1; omega
        refine loopV_kept hT (fun (i : Nat) => [(2, .ptr 0 0 0), (3, .ptr 1 0 0), (5, .int .i64 i)]) (fun _ => [(0, ⟨[encReg a], 3, true⟩), (1, ⟨[encReg b], 3, true⟩)]) [] 2
          (fun i => i ≤ a.lo.length ∧ ∀ j, j < i → qv b.lo[j]! ≤ qv a.lo[j]! ∧ qv a.hi[j]! ≤ qv b.hi[j]!) (fun i => a.lo.length - i) 0 ⟨Nat.zero_le _, fun j h => (by omega)⟩ (by decide) (by simp) ?_ ?_
        · exact ⟨[0, 1], [], [], [], ⟨trivial, trivial, trivial⟩, ⟨at_ptr (by decide) rfl, at_ptr (by decide) rfl, at_int rfl rfl, trivial⟩, ⟨blk_box (by decide) rfl rfl rfl rfl rfl, blk_box (by decide) rfl rfl rfl rfl rfl, trivial⟩, by simp [ren]⟩
        intro i ⟨i1, i2⟩
        by_cases hi : i < a.lo.length
        · have q1 := okLs_get ha.1 hi
          have q2 := okLs_get ha.2.1 (i := i) (by omega)
          have q3 := okLs_get hb.1 (i := i) (by omega)
          have q4 := okLs_get hb.2.1 (i := i) (by omega)
          have d1 := c_rqcmp a.lo[i]! b.lo[i]! q1.1 q3.1 (by have := q1.2; omega) (by have := q1.2; omega) (by have := q3.2; omega) (by have := q3.2; omega)
          have d2 := c_rqcmp a.hi[i]! b.hi[i]! q2.1 q4.1 (by have := q2.2; omega) (by have := q2.2; omega) (by have := q4.2; omega) (by have := q4.2; omega)
          have a1 : i < b.lo.length := by omega
          have a2 : i < a.hi.length := by omega
          have a3 : i < b.hi.length := by omega
          (repeat' (first|refine stp ?_|(with_reducible refine brr ?_ ?_<;>intro h)|(with_reducible refine nilImm_map ?_ ?_<;>intro h)|with_reducible refine anyb_of ?_ ?_)); all_goals try (conv=>whnf)
          · refine callV_data d1 rfl ?_
            (repeat' (first|refine stp ?_|(with_reducible refine brr ?_ ?_<;>intro h)|(with_reducible refine nilImm_map ?_ ?_<;>intro h)|with_reducible refine anyb_of ?_ ?_)); all_goals try (conv=>whnf)
            · exact givesV_to rfl (congrArg PV.bool (no fun e => by have := sgn_ge.2 (e.2.2.2.2 i hi).1; omega))
            · refine callV_data d2 rfl ?_
              (repeat' (first|refine stp ?_|(with_reducible refine brr ?_ ?_<;>intro h)|(with_reducible refine nilImm_map ?_ ?_<;>intro h)|with_reducible refine anyb_of ?_ ?_)); all_goals try (conv=>whnf)
              · exact givesV_to rfl (congrArg PV.bool (no fun e => by have := sgn_le.2 (e.2.2.2.2 i hi).2; omega))
              · exact ⟨i + 1, ⟨⟨by omega, fun j hj => lt_succ_cases (p := fun j => qv b.lo[j]! ≤ qv a.lo[j]! ∧ qv a.hi[j]! ≤ qv b.hi[j]!) i2 ⟨sgn_ge.1 (by omega), sgn_le.1 (by omega)⟩ hj⟩, by show a.lo.length - (i + 1) < a.lo.length - i; omega⟩, [0, 1], [], [], [], ⟨trivial, trivial, trivial⟩, ⟨at_ptr (by decide) rfl, at_ptr (by decide) rfl, at_int rfl rfl, trivial⟩, ⟨blk_box (by decide) rfl rfl rfl rfl rfl, blk_box (by decide) rfl rfl rfl rfl rfl, trivial⟩, by simp [ren]⟩
          all_goals (exfalso; omega)
        · (repeat' (first|refine stp ?_|(with_reducible refine brr ?_ ?_<;>intro h)|(with_reducible refine nilImm_map ?_ ?_<;>intro h)|with_reducible refine anyb_of ?_ ?_)); all_goals try (conv=>whnf)
          all_goals try (exfalso; omega)
          exact givesV_to rfl (congrArg PV.bool (dB_yes ⟨hva, hvb, hlen, hrows, fun j hj => i2 j (by omega)⟩))
      · exact givesV_to rfl (congrArg PV.bool (no fun e => h e.2.2.2.1))
    · exact givesV_to rfl (congrArg PV.bool (no fun e => dB_false.1 h e.2.1))
  · exact givesV_to rfl (congrArg PV.bool (no fun e => dB_false.1 h e.1))
theorem take_snocQ {l : List Rat} {i : Nat} {q : Rat} (h : i < l.length) (e : q = l[i]!) : (l.take i).map encX ++ [encRat (cr q)] = (l.take (i + 1)).map encX := by
  subst e; exact take_snoc h
theorem ok_sgcenter : FnOk Tryz.prog 40 Tryz.f40 (Tryz.f40.body.getD .skip) [.tmp 2] 38 := ⟨Tryz.func40, rfl, by decide, Tryz.ntmps40, Tryz.results40, by kernel_rfl, by kernel_rfl⟩
theorem c_sgcenter (r : RegL) (hr : okReg 100000 r) : Fn 40 [encReg r] (.data (.imm ((ceR r).map encX))) := by
  have co := c_sgown r (okReg_le (by decide) hr)
  have l1 := hr.1.1
  have ch := c_rqfrac 1 2 (by decide) (by decide)
  rw [show mkRat 1 (2 : Int).natAbs = halfQ by decide +kernel] at ch
  refine fnC_v hmix hT ok_sgcenter (by simp [encReg]) ?_
  (repeat' (first|refine stp ?_|(with_reducible refine brr ?_ ?_<;>intro h)|(with_reducible refine nilImm_map ?_ ?_<;>intro h)|with_reducible refine anyb_of ?_ ?_)); all_goals try (conv=>whnf)
  refine callV_data co rfl ?_
  (repeat' (first|refine stp ?_|(with_reducible refine brr ?_ ?_<;>intro h)|(with_reducible refine nilImm_map ?_ ?_<;>intro h)|with_reducible refine anyb_of ?_ ?_)); all_goals try (conv=>whnf)
  · have hva : VaO r := dB_true.1 (by assumption)
    have hlh : r.hi.length = r.lo.length := by have := hva.2.2.1; omega
    have hce : ceR r = (List.range r.lo.length).map fun i => halfQ * (qv r.lo[i]! + qv r.hi[i]!) := by
      unfold ceR; rw [if_pos hva]
      refine List.ext_getElem (by simp [hlh]) fun j h1 h2 => ?_
      have h3 : j < r.lo.length := by simpa using h2
      have h4 : j < r.hi.length := by omega
      simp [h3, h4]
    rw [hce]
    obtain ⟨Y, hY⟩ : ∃ Y, ((List.range r.lo.length).map fun i => halfQ * (qv r.lo[i]! + qv r.hi[i]!)) = Y := ⟨_, rfl⟩
    have hYl : Y.length = r.lo.length := by rw [← hY]; simp
    have hYg : ∀ i, i < r.lo.length → halfQ * (qv r.lo[i]! + qv r.hi[i]!) = Y[i]! := fun i hi => by rw [← hY, get_range hi]
    rw [hY]
    refine callV_data ch rfl ?_
    (repeat' (first|refine stp ?_|(with_reducible refine brr ?_ ?_<;>intro h)|(with_reducible refine nilImm_map ?_ ?_<;>intro h)|with_reducible refine anyb_of ?_ ?_)); all_goals try (conv=>whnf)
    refine loopV_grow hT [(.sl 5, 3, true)] (fun (i : Nat) => [(1, .ptr 0 0 0), (3, .ptr 1 0 0), (5, .own 2 0 i), (6, .int .i64 i)]) (fun i => [(0, ⟨[encReg r], 3, true⟩), (1, ⟨[encRat (cr halfQ)], 3, true⟩), (2, ⟨(Y.take i).map encX, 3, true⟩)]) [] 3
      (fun i => i ≤ r.lo.length) (fun i => r.lo.length - i) 0 (Nat.zero_le _) (by decide) (by simp) ⟨rfl, trivial⟩ ?_ ?_
    · exact ⟨[0, _, _], [], [], [], ⟨trivial, trivial, trivial⟩, ⟨at_ptr (by decide) rfl, at_ptr (by decide) rfl, at_own (by decide) rfl rfl, at_int rfl rfl, trivial⟩, ⟨blk_box (by decide) rfl rfl rfl rfl rfl, blk_box (by decide) rfl rfl rfl rfl rfl, blk_row (by decide) rfl rfl (nr_map fun _ => ⟨rfl, by simp [encX, encRat]⟩) rfl, trivial⟩, by simp [ren]⟩
    intro i i1
    have hlen : (Y.take i).length = i := by rw [List.length_take]; omega
    by_cases hi : i < r.lo.length
    · have hi2 : i < r.hi.length := by omega
      have q1 := okLs_get hr.1 hi
      have q2 := okLs_get hr.2.1 hi2
      have c1 := c_rqadd r.lo[i]! r.hi[i]! q1.1 q2.1 (by have := q1.2; omega) (by have := q1.2; omega) (by have := q2.2; omega) (by have := q2.2; omega)
      have s1 := sz_add (sz_qv q1.1 q1.2.1 q1.2.2 (by decide)) (sz_qv q2.1 q2.2.1 q2.2.2 (by decide))
      have l2 := cr_len s1
      have c2 := c_rqmul (cr halfQ) (cr (qv r.lo[i]! + qv r.hi[i]!)) (okR_cr _) (okR_cr _) (by decide +kernel) (by decide +kernel) (by omega) (by omega)
      rw [qv_cr, qv_cr] at c2
      (repeat' (first|refine stp ?_|(with_reducible refine brr ?_ ?_<;>intro h)|(with_reducible refine nilImm_map ?_ ?_<;>intro h)|with_reducible refine anyb_of ?_ ?_)); all_goals try (conv=>whnf)
      · refine callV_data c1 rfl ?_
        (repeat' (first|refine stp ?_|(with_reducible refine brr ?_ ?_<;>intro h)|(with_reducible refine nilImm_map ?_ ?_<;>intro h)|with_reducible refine anyb_of ?_ ?_)); all_goals try (conv=>whnf)
        refine callV_data c2 rfl ?_
        (repeat' (first|refine stp ?_|(with_reducible refine brr ?_ ?_<;>intro h)|(with_reducible refine nilImm_map ?_ ?_<;>intro h)|with_reducible refine anyb_of ?_ ?_)); all_goals try (conv=>whnf)
        exact ⟨i + 1, ⟨by omega, by show r.lo.length - (i + 1) < r.lo.length - i; omega⟩, [0, 1, _], [], [], [], ⟨trivial, trivial, trivial⟩, ⟨at_ptr (by decide) rfl, at_ptr (by decide) rfl, at_own (by decide) rfl rfl, at_int rfl rfl, trivial⟩, ⟨blk_box (by decide) rfl rfl rfl rfl rfl, blk_box (by decide) rfl rfl rfl rfl rfl, blk_row (by decide) rfl (take_snocQ (by omega) (hYg i hi)) (nr_map fun _ => ⟨rfl, by simp [encX, encRat]⟩) rfl, trivial⟩, by simp [ren]⟩
      all_goals (exfalso; omega)
    · (repeat' (first|refine stp ?_|(with_reducible refine brr ?_ ?_<;>intro h)|(with_reducible refine nilImm_map ?_ ?_<;>intro h)|with_reducible refine anyb_of ?_ ?_)); all_goals try (conv=>whnf)
      all_goals try (exfalso; omega)
      exact givesV_to (frz_own_map rfl rfl (by omega) fun q => frz_rat (cr q)) (by rw [List.take_of_length_le (by omega)])
  · rw [show ceR r = [] by unfold ceR; rw [if_neg (dB_false.1 h)]]
    exact givesV_to rfl rfl
def coL (r : RegL) (b i : Nat) : List RatL := (List.range r.lo.length).map fun j => if decide (j < i) && bitAt b j then r.hi[j]! else r.lo[j]!
theorem coL_len {r : RegL} {b i : Nat} : (coL r b i).length = r.lo.length := by simp [coL]
theorem coL_zero {r : RegL} {b : Nat} : r.lo = coL r b 0 := by
  unfold coL
  refine list_eq_of (by simp) fun j hj => ?_
  rw [get_range hj]; simp
theorem coL_get {r : RegL} {b i j : Nat} (h : j < r.lo.length) : (coL r b i)[j]! = if decide (j < i) && bitAt b j then r.hi[j]! else r.lo[j]! := by unfold coL; rw [get_range h]
theorem coL_set {r : RegL} {b i : Nat} (hi : i < r.lo.length) (h : bitAt b i = true) : (coL r b i).set i r.hi[i]! = coL r b (i + 1) := by
  refine list_eq_of (by simp [coL]) fun j hj => ?_
  have hj : j < r.lo.length := by simpa [coL] using hj
  rw [coL_get hj]
  by_cases e : j = i
  · subst e
    rw [getElem!_pos _ j (by simpa [coL] using hj), List.getElem_set_self]
    simp [h]
  · rw [getElem!_pos _ j (by simpa [coL] using hj), List.getElem_set_ne (Ne.symm e), ← getElem!_pos, coL_get hj]
    have : decide (j < i + 1) = decide (j < i) := decide_eq_decide.2 (by omega)
    rw [this]
theorem coL_keep {r : RegL} {b i : Nat} (h : bitAt b i = false) : coL r b i = coL r b (i + 1) := by
  refine list_eq_of (by simp [coL]) fun j hj => ?_
  have hj : j < r.lo.length := by simpa [coL] using hj
  rw [coL_get hj, coL_get hj]
  by_cases e : j = i
  · subst e; simp [h]
  · have : decide (j < i + 1) = decide (j < i) := decide_eq_decide.2 (by omega)
    rw [this]
theorem coL_end {r : RegL} {b i : Nat} (h : r.lo.length ≤ i ∨ 64 ≤ i) : coL r b i = (List.range r.lo.length).map fun j => if bitAt b j then r.hi[j]! else r.lo[j]! := by
  unfold coL
  refine List.map_congr_left fun j hj => ?_
  have hj : j < r.lo.length := by simpa using hj
  by_cases hb : bitAt b j = true
  · have : j < 64 := by unfold bitAt at hb; simp at hb; exact hb.1
    rw [show decide (j < i) = true from decide_eq_true (by omega)]; simp
  · simp at hb; simp [hb]
theorem ok_sgcorner : FnOk Tryz.prog 41 Tryz.f41 (Tryz.f41.body.getD .skip) [.tmp 4] 38 := ⟨Tryz.func41, rfl, by decide, Tryz.ntmps41, Tryz.results41, by kernel_rfl, by kernel_rfl⟩
theorem c_sgcorner (r : RegL) (b : Nat) (hr : okReg 400000 r) (hb : b < 18446744073709551616) : Fn 41 [encReg r, .int .u64 b] (.data (.imm ((coR r b).map encX))) := by
  have co := c_sgown r hr
  have l1 := hr.1.1
  have e1 : ∀ i : Nat, i < 64 → bitF .and .u64 ((b : Int).fdiv (shl2 .u64 i)) 1 = ((b / 2 ^ i % 2 : Nat) : Int) := fun i h => by
    rw [fdiv_pow (j := i) (by show min (i : Int).toNat 64 = i; omega)]
    have : ((b : Int) / 2 ^ i) = ((b / 2 ^ i : Nat) : Int) := by simp
    rw [this]
    exact bitF_and64 (Nat.lt_of_le_of_lt (Nat.div_le_self _ _) hb)
  refine fnC_v hmix hT ok_sgcorner (by simp [encReg]) ?_
  (repeat' (first|refine stp ?_|(with_reducible refine brr ?_ ?_<;>intro h)|(with_reducible refine nilImm_map ?_ ?_<;>intro h)|with_reducible refine anyb_of ?_ ?_)); all_goals try (conv=>whnf)
  refine callV_data co rfl ?_
  (repeat' (first|refine stp ?_|(with_reducible refine brr ?_ ?_<;>intro h)|(with_reducible refine nilImm_map ?_ ?_<;>intro h)|with_reducible refine anyb_of ?_ ?_)); all_goals try (conv=>whnf)
  · have hva : VaO r := dB_true.1 (by assumption)
    have hlh : r.hi.length = r.lo.length := by have := hva.2.2.1; omega
    rw [coR_at hva]
    refine loopV_kept hT (fun (i : Nat) => [(1, .int .u64 b), (2, .ptr 0 0 0), (5, .own 1 0 r.lo.length), (6, .int .i64 i)]) (fun i => [(0, ⟨[encReg r], 3, true⟩), (1, ⟨(coL r b i).map encRat, 3, true⟩)]) [] 2
      (fun i => i ≤ r.lo.length ∧ i ≤ 64) (fun i => r.lo.length - i) 0 ⟨Nat.zero_le _, by decide⟩ (by decide) (by simp) ?_ ?_
    · exact ⟨[0, _], [], [], [], ⟨trivial, trivial, trivial⟩, ⟨at_int rfl rfl, at_ptr (by decide) rfl, at_own (by decide) rfl (by simp), at_int rfl rfl, trivial⟩, ⟨blk_box (by decide) rfl rfl rfl rfl rfl, blk_row (by decide) rfl (by rw [← coL_zero]; rfl) (nr_map fun _ => ⟨rfl, by simp [encRat]⟩) rfl, trivial⟩, by simp [ren]⟩
    intro i ⟨i1, i2⟩
    have hcl := coL_len (r := r) (b := b) (i := i)
    by_cases hi : i < r.lo.length
    · have hi2 : i < r.hi.length := by omega
      (repeat' (first|refine stp ?_|(with_reducible refine brr ?_ ?_<;>intro h)|(with_reducible refine nilImm_map ?_ ?_<;>intro h)|with_reducible refine anyb_of ?_ ?_)); all_goals try (conv=>whnf)
      · rw [e1 i (by omega)] at h
        have hbit : bitAt b i = true := decide_eq_true ⟨by omega, by omega⟩
        have hset := coL_set hi hbit
        refine oK_atN i (by omega) (by omega) ?_
        (repeat' (first|refine stp ?_|(with_reducible refine brr ?_ ?_<;>intro h)|(with_reducible refine nilImm_map ?_ ?_<;>intro h)|with_reducible refine anyb_of ?_ ?_)); all_goals try (conv=>whnf)
        exact ⟨i + 1, ⟨⟨by omega, by omega⟩, by show r.lo.length - (i + 1) < r.lo.length - i; omega⟩, [0, _], [], [], [], ⟨trivial, trivial, trivial⟩, ⟨at_int rfl rfl, at_ptr (by decide) rfl, at_own (by decide) rfl rfl, at_int rfl rfl, trivial⟩, ⟨blk_box (by decide) rfl rfl rfl rfl rfl, blk_row (by decide) rfl (by rw [← hset]; exact set_to (f := encRat) (by simp) rfl) (nr_map fun _ => ⟨rfl, by simp [encRat]⟩) rfl, trivial⟩, by simp [ren]⟩
      · rw [e1 i (by omega)] at h
        have hbit : bitAt b i = false := decide_eq_false (by omega)
        exact ⟨i + 1, ⟨⟨by omega, by omega⟩, by show r.lo.length - (i + 1) < r.lo.length - i; omega⟩, [0, _], [], [], [], ⟨trivial, trivial, trivial⟩, ⟨at_int rfl rfl, at_ptr (by decide) rfl, at_own (by decide) rfl rfl, at_int rfl rfl, trivial⟩, ⟨blk_box (by decide) rfl rfl rfl rfl rfl, blk_row (by decide) rfl (by rw [← coL_keep hbit]) (nr_map fun _ => ⟨rfl, by simp [encRat]⟩) rfl, trivial⟩, by simp [ren]⟩
      · exact givesV_to (frz_own_map rfl rfl (by omega) fun q => frz_rat q) (by rw [coL_end (by omega)])
      all_goals (exfalso; omega)
    · (repeat' (first|refine stp ?_|(with_reducible refine brr ?_ ?_<;>intro h)|(with_reducible refine nilImm_map ?_ ?_<;>intro h)|with_reducible refine anyb_of ?_ ?_)); all_goals try (conv=>whnf)
      all_goals try (exfalso; omega)
      all_goals exact givesV_to (frz_own_map rfl rfl (by omega) fun q => frz_rat q) (by rw [coL_end (by omega)])
  · rw [show coR r b = [] by unfold coR; rw [if_neg (dB_false.1 h)]]
    exact givesV_to rfl rfl
def okBy (l : List Int) : Prop := l.length ≤ 1048576 ∧ ∀ x ∈ l, 0 ≤ x ∧ x < 256
theorem ok_sgins : FnOk Tryz.prog 24 Tryz.f24 (Tryz.f24.body.getD .skip) [.tmp 4] 55 := ⟨Tryz.func24, rfl, by decide, Tryz.ntmps24, Tryz.results24, by kernel_rfl, by kernel_rfl⟩
theorem c_sgins (r : RegL) (l : List Int) (hr : okReg 100000 r) (hlh : r.hi.length = r.lo.length) (hl : okBy l) : Fn 24 [encReg r, .imm (l.map (.int .u8))] (.data (.imm ((insR r l).map encX))) := by
  have l1 := hr.1.1
  have l2 := hl.1
  obtain ⟨Y, hY⟩ : ∃ Y, insR r l = Y := ⟨_, rfl⟩
  have hYl : Y.length = r.lo.length := by rw [← hY]; simp [insR]
  have hYg : ∀ i, i < r.lo.length → qv r.lo[i]! + mkRat (inK l i) 8 * (qv r.hi[i]! - qv r.lo[i]!) = Y[i]! := fun i hi => by rw [← hY]; unfold insR; rw [get_range hi]
  rw [hY]
  refine fnC_v hmix hT ok_sgins (by simp [encReg]) ?_
  (repeat' (first|refine stp ?_|(with_reducible refine brr ?_ ?_<;>intro h)|(with_reducible refine nilImm_map ?_ ?_<;>intro h)|with_reducible refine anyb_of ?_ ?_)); all_goals try (conv=>whnf)
  refine loopV_grow hT [(.sl 5, 3, true)] (fun (i : Nat) => [(1, .imm (l.map (.int .u8))), (2, .ptr 0 0 0), (5, .own 1 0 i), (6, .int .i64 i)]) (fun i => [(0, ⟨[encReg r], 3, true⟩), (1, ⟨(Y.take i).map encX, 3, true⟩)]) [] 2
    (fun i => i ≤ r.lo.length) (fun i => r.lo.length - i) 0 (Nat.zero_le _) (by decide) (by simp) ⟨rfl, trivial⟩ ?_ ?_
  · exact ⟨[0, _], [], [], [], ⟨trivial, trivial, trivial⟩, ⟨at_imm rfl rfl, at_ptr (by decide) rfl, at_own (by decide) rfl rfl, at_int rfl rfl, trivial⟩, ⟨blk_box (by decide) rfl rfl rfl rfl rfl, blk_row (by decide) rfl rfl (nr_map fun _ => ⟨rfl, by simp [encX, encRat]⟩) rfl, trivial⟩, by simp [ren]⟩
  intro i i1
  have hlen : (Y.take i).length = i := by rw [List.length_take]; omega
  by_cases hi : i < r.lo.length
  · have hi2 : i < r.hi.length := by omega
    have q1 := okLs_get hr.1 hi
    have q2 := okLs_get hr.2.1 hi2
    have cf := c_rqfrac (inK l i) 8 (by unfold inK; split <;> omega) (by decide)
    have s1 := sz_qv q1.1 q1.2.1 q1.2.2 (k := 100000) (by decide)
    have s2 := sz_qv q2.1 q2.2.1 q2.2.2 (k := 100000) (by decide)
    have c1 := c_rqsub r.hi[i]! r.lo[i]! q2.1 q1.1 (by have := q2.2; omega) (by have := q2.2; omega) (by have := q1.2; omega) (by have := q1.2; omega)
    have s3 := sz_sub s2 s1
    have l3 := cr_len s3
    have sp := sz_part l i
    have lp := cr_len sp
    have c2 := c_rqmul (cr (mkRat (inK l i) 8)) (cr (qv r.hi[i]! - qv r.lo[i]!)) (okR_cr _) (okR_cr _) (by omega) (by omega) (by omega) (by omega)
    rw [qv_cr, qv_cr] at c2
    have s4 := sz_mul sp s3
    have l4 := cr_len s4
    have c3 := c_rqadd r.lo[i]! (cr (mkRat (inK l i) 8 * (qv r.hi[i]! - qv r.lo[i]!))) q1.1 (okR_cr _) (by have := q1.2; omega) (by have := q1.2; omega) (by omega) (by omega)
    rw [qv_cr] at c3
    rw [show (8 : Int).natAbs = 8 from rfl] at cf
    have fin := take_snocQ (l := Y) (i := i) (by omega) (hYg i hi)
    by_cases hb : i < l.length
    · have hx := hl.2 _ (get_mem hb)
      have hk : inK l i = l[i]!.toNat % 9 := by unfold inK; rw [if_pos hb]
      have ht : l[i]!.tmod 9 = ((inK l i : Nat) : Int) := by rw [Int.tmod_eq_emod_of_nonneg (by omega), hk]; omega
      have hlt : inK l i < 9 := by omega
      (repeat' (first|refine stp ?_|(with_reducible refine brr ?_ ?_<;>intro h)|(with_reducible refine nilImm_map ?_ ?_<;>intro h)|with_reducible refine anyb_of ?_ ?_)); all_goals try (conv=>whnf)
      all_goals try (exfalso; omega)
      rw [ht]
      (repeat' (first|refine stp ?_|(with_reducible refine brr ?_ ?_<;>intro h)|(with_reducible refine nilImm_map ?_ ?_<;>intro h)|with_reducible refine anyb_of ?_ ?_)); all_goals try (conv=>whnf)
      refine callV_data cf rfl ?_
      (repeat' (first|refine stp ?_|(with_reducible refine brr ?_ ?_<;>intro h)|(with_reducible refine nilImm_map ?_ ?_<;>intro h)|with_reducible refine anyb_of ?_ ?_)); all_goals try (conv=>whnf)
      refine callV_data c1 rfl ?_
      (repeat' (first|refine stp ?_|(with_reducible refine brr ?_ ?_<;>intro h)|(with_reducible refine nilImm_map ?_ ?_<;>intro h)|with_reducible refine anyb_of ?_ ?_)); all_goals try (conv=>whnf)
      refine callV_data c2 rfl ?_
      (repeat' (first|refine stp ?_|(with_reducible refine brr ?_ ?_<;>intro h)|(with_reducible refine nilImm_map ?_ ?_<;>intro h)|with_reducible refine anyb_of ?_ ?_)); all_goals try (conv=>whnf)
      refine callV_data c3 rfl ?_
      (repeat' (first|refine stp ?_|(with_reducible refine brr ?_ ?_<;>intro h)|(with_reducible refine nilImm_map ?_ ?_<;>intro h)|with_reducible refine anyb_of ?_ ?_)); all_goals try (conv=>whnf)
      exact ⟨i + 1, ⟨by omega, by show r.lo.length - (i + 1) < r.lo.length - i; omega⟩, [0, _], [], [], [], ⟨trivial, trivial, trivial⟩, ⟨at_imm rfl rfl, at_ptr (by decide) rfl, at_own (by decide) rfl rfl, at_int rfl rfl, trivial⟩, ⟨blk_box (by decide) rfl rfl rfl rfl rfl, blk_row (by decide) rfl fin (nr_map fun _ => ⟨rfl, by simp [encX, encRat]⟩) rfl, trivial⟩, by simp [ren]⟩
    · have hk : inK l i = 0 := by unfold inK; rw [if_neg hb]
      rw [hk] at cf c2 c3 fin
      (repeat' (first|refine stp ?_|(with_reducible refine brr ?_ ?_<;>intro h)|(with_reducible refine nilImm_map ?_ ?_<;>intro h)|with_reducible refine anyb_of ?_ ?_)); all_goals try (conv=>whnf)
      all_goals try (exfalso; omega)
      refine callV_data cf rfl ?_
      (repeat' (first|refine stp ?_|(with_reducible refine brr ?_ ?_<;>intro h)|(with_reducible refine nilImm_map ?_ ?_<;>intro h)|with_reducible refine anyb_of ?_ ?_)); all_goals try (conv=>whnf)
      refine callV_data c1 rfl ?_
      (repeat' (first|refine stp ?_|(with_reducible refine brr ?_ ?_<;>intro h)|(with_reducible refine nilImm_map ?_ ?_<;>intro h)|with_reducible refine anyb_of ?_ ?_)); all_goals try (conv=>whnf)
      refine callV_data c2 rfl ?_
      (repeat' (first|refine stp ?_|(with_reducible refine brr ?_ ?_<;>intro h)|(with_reducible refine nilImm_map ?_ ?_<;>intro h)|with_reducible refine anyb_of ?_ ?_)); all_goals try (conv=>whnf)
      refine callV_data c3 rfl ?_
      (repeat' (first|refine stp ?_|(with_reducible refine brr ?_ ?_<;>intro h)|(with_reducible refine nilImm_map ?_ ?_<;>intro h)|with_reducible refine anyb_of ?_ ?_)); all_goals try (conv=>whnf)
      exact ⟨i + 1, ⟨by omega, by show r.lo.length - (i + 1) < r.lo.length - i; omega⟩, [0, _], [], [], [], ⟨trivial, trivial, trivial⟩, ⟨at_imm rfl rfl, at_ptr (by decide) rfl, at_own (by decide) rfl rfl, at_int rfl rfl, trivial⟩, ⟨blk_box (by decide) rfl rfl rfl rfl rfl, blk_row (by decide) rfl fin (nr_map fun _ => ⟨rfl, by simp [encX, encRat]⟩) rfl, trivial⟩, by simp [ren]⟩
  · (repeat' (first|refine stp ?_|(with_reducible refine brr ?_ ?_<;>intro h)|(with_reducible refine nilImm_map ?_ ?_<;>intro h)|with_reducible refine anyb_of ?_ ?_)); all_goals try (conv=>whnf)
    all_goals try (exfalso; omega)
    exact givesV_to (frz_own_map rfl rfl (by omega) fun q => frz_rat (cr q)) (by rw [List.take_of_length_le (by omega)])
end Go.PI.Tryz
namespace Go.PI.Tryz
set_option linter.unnecessarySimpa false
open Go.Proofs Go.PI
set_option linter.unusedSimpArgs false
set_option linter.unusedVariables false
theorem frz_aff {h : Hp} {n : Nat} (x : AffL) : frz h (n + 1) (encAff x) = some (encAff x, []) := by cases n <;> rfl
theorem ok_sgclip : FnOk Tryz.prog 23 Tryz.f23 (Tryz.f23.body.getD .skip) [.cell 4 25, .tmp 5] 94 := ⟨Tryz.func23, rfl, by decide, Tryz.ntmps23, Tryz.results23, by kernel_rfl, by kernel_rfl⟩
theorem c_sgclip (r : RegL) (d : DecL) (hr : okReg 100000 r) (hd : okQ 100000 d.rat) : Fn 23 [encReg r, encDec d] (.data (.tup [encReg (cliV r d).1, .int .i64 (cliV r d).2])) := by
  have co := c_sgown r (okReg_le (by decide) hr)
  have l1 := hr.1.1
  have l2 := hr.2.1.1
  have l3 := hr.2.2.2
  have no : ¬ cliOk r d → cliV r d = (zeroR, 1) := fun h => by unfold cliV; rw [if_neg h]
  by_cases hok : cliOk r d
  rotate_left
  · rw [no hok]
    refine fnC_v hmix hT ok_sgclip (by simp [encReg, encDec]) ?_
    (repeat' (first|refine stp ?_|(with_reducible refine brr ?_ ?_<;>intro h)|(with_reducible refine nilImm_map ?_ ?_<;>intro h)|with_reducible refine anyb_of ?_ ?_)); all_goals try (conv=>whnf)
    refine callV_data co rfl ?_
    (repeat' (first|refine stp ?_|(with_reducible refine brr ?_ ?_<;>intro h)|(with_reducible refine nilImm_map ?_ ?_<;>intro h)|with_reducible refine anyb_of ?_ ?_)); all_goals try (conv=>whnf)
    all_goals first | exact givesV_to rfl rfl | (exfalso; exact hok ⟨dB_true.1 (by assumption), by omega, by omega, by omega⟩)
  have hva := hok.1
  rw [dB_true.2 hva] at co
  have hlh : r.hi.length = r.lo.length := by have := hva.2.2.1; omega
  have hi0 := hok.2.2
  have hj : d.index.toNat < r.lo.length := by omega
  have hj2 : d.index.toNat < r.hi.length := by omega
  have q1 := okLs_get hr.1 hj
  have q2 := okLs_get hr.2.1 hj2
  have m1 := c_rqmax r.lo[d.index.toNat]! d.rat 100000 q1 hd (by decide)
  have m2 := c_rqmin r.hi[d.index.toNat]! d.rat 100000 q2 hd (by decide)
  obtain ⟨g1, g2, g3⟩ := cli_reg hr hd (by decide) hj hlh
  have p1 := okLs_get g1.1 (i := d.index.toNat) (by omega)
  have p2 := okLs_get g1.2.1 (i := d.index.toNat) (by omega)
  have ce := c_rqcmp (cliR r d).lo[d.index.toNat]! (cliR r d).hi[d.index.toNat]! p1.1 p2.1 (by have := p1.2; omega) (by have := p1.2; omega) (by have := p2.2; omega) (by have := p2.2; omega)
  have hem := emR_at hva hj (d := d)
  have hj3 : d.index.toNat < (cliR r d).lo.length := by omega
  have hj4 : d.index.toNat < (cliR r d).hi.length := by omega
  have hyT : emR (cliR r d) → cliV r d = (zeroR, 10) := fun h => by unfold cliV; rw [if_pos hok, if_pos h]
  have hyF : ¬ emR (cliR r d) → cliV r d = (cliR r d, 0) := fun h => by unfold cliV; rw [if_pos hok, if_neg h]
  rcases hok.2.1 with hk | hk
  · have hlo : (r.lo.map encRat).set (0 + d.index.toNat) (encRat (cr (maxQ (qv r.lo[d.index.toNat]!) (qv d.rat)))) = (cliR r d).lo.map encRat := by simp [cliR, hk, List.map_set]
    have hhi : r.hi.map encRat = (cliR r d).hi.map encRat := by simp [cliR, hk]
    refine fnC_v hmix hT ok_sgclip (by simp [encReg, encDec]) ?_
    (repeat' (first|refine stp ?_|(with_reducible refine brr ?_ ?_<;>intro h)|(with_reducible refine nilImm_map ?_ ?_<;>intro h)|with_reducible refine anyb_of ?_ ?_)); all_goals try (conv=>whnf)
    refine callV_data co rfl ?_
    (repeat' (first|refine stp ?_|(with_reducible refine brr ?_ ?_<;>intro h)|(with_reducible refine nilImm_map ?_ ?_<;>intro h)|with_reducible refine anyb_of ?_ ?_)); all_goals try (conv=>whnf)
    all_goals try (exfalso; omega)
    refine oK_map' (j := d.index.toNat) (by omega) hj ?_
    (repeat' (first|refine stp ?_|(with_reducible refine brr ?_ ?_<;>intro h)|(with_reducible refine nilImm_map ?_ ?_<;>intro h)|with_reducible refine anyb_of ?_ ?_)); all_goals try (conv=>whnf)
    refine callV_data m1 rfl ?_
    (repeat' (first|refine stu ?_|(with_reducible refine brr ?_ ?_<;>intro h)|(with_reducible refine nilImm_map ?_ ?_<;>intro h)|with_reducible refine anyb_of ?_ ?_)); all_goals try (conv=>whnf)
    refine oK_atN d.index.toNat (by omega) hj ?_
    (repeat' (first|refine stu ?_|(with_reducible refine brr ?_ ?_<;>intro h)|(with_reducible refine nilImm_map ?_ ?_<;>intro h)|with_reducible refine anyb_of ?_ ?_)); all_goals try (conv=>whnf)
    refine tellV [] [(3, .ptr 2 0 0), (4, .ptr 0 0 0), (6, .ptr 1 0 0)] [(0, ⟨[.agg [.nilsl, .nilsl, .nilsl]], 3, true⟩), (1, ⟨[encReg (cliR r d)], 3, true⟩), (2, ⟨[encDec d], 5, true⟩)] [] 3 (by decide) (by simp) trivial
      ⟨[_, _, _], [33, 37, 41], [], [(43, [encReg (cliR r d)])], ⟨⟨⟨_, rfl⟩, ⟨_, rfl⟩, ⟨_, rfl⟩, trivial⟩, trivial, ⟨⟨_, 6, _, rfl, mapF_cons (frz_aggL (mapF_cons (frz_own_map (f := encRat) (l := (cliR r d).lo) rfl hlo (by rw [g2]; simp) frz_rat) (mapF_cons (frz_own_map (f := encRat) (l := (cliR r d).hi) rfl hhi (by rw [g3]; simp [hlh]) frz_rat) (mapF_cons (frz_own_map (f := encAff) (l := r.rows) rfl rfl (by simp) frz_aff) rfl)))) rfl, rfl⟩, trivial⟩⟩,
        ⟨at_ptr (by decide) rfl, at_ptr (by decide) rfl, at_ptr (by decide) rfl, trivial⟩, ⟨blk_box (by decide) rfl rfl rfl rfl rfl, blk_box (by decide) rfl rfl rfl rfl rfl, blk_box (by decide) rfl rfl rfl rfl rfl, trivial⟩, by simp [ren]⟩ ?_
    (repeat' (first|refine stp ?_|(with_reducible refine brr ?_ ?_<;>intro h)|(with_reducible refine nilImm_map ?_ ?_<;>intro h)|with_reducible refine anyb_of ?_ ?_)); all_goals try (conv=>whnf)
    refine oK_map' (j := d.index.toNat) (by omega) hj3 ?_
    (repeat' (first|refine stp ?_|(with_reducible refine brr ?_ ?_<;>intro h)|(with_reducible refine nilImm_map ?_ ?_<;>intro h)|with_reducible refine anyb_of ?_ ?_)); all_goals try (conv=>whnf)
    refine oK_map' (j := d.index.toNat) (by omega) hj4 ?_
    (repeat' (first|refine stp ?_|(with_reducible refine brr ?_ ?_<;>intro h)|(with_reducible refine nilImm_map ?_ ?_<;>intro h)|with_reducible refine anyb_of ?_ ?_)); all_goals try (conv=>whnf)
    refine callV_data ce rfl ?_
    (repeat' (first|refine stp ?_|(with_reducible refine brr ?_ ?_<;>intro h)|(with_reducible refine nilImm_map ?_ ?_<;>intro h)|with_reducible refine anyb_of ?_ ?_)); all_goals try (conv=>whnf)
    · rw [hyT (hem.2 (sgn_gt.1 (by omega)))]
      exact givesV_to rfl rfl
    · rw [hyF (fun e => by have := sgn_gt.2 (hem.1 e); omega)]
      exact givesV_to rfl rfl
  · have hlo : r.lo.map encRat = (cliR r d).lo.map encRat := by simp [cliR, hk]
    have hhi : (r.hi.map encRat).set (0 + d.index.toNat) (encRat (cr (minQ (qv r.hi[d.index.toNat]!) (qv d.rat)))) = (cliR r d).hi.map encRat := by simp [cliR, hk, List.map_set]
    refine fnC_v hmix hT ok_sgclip (by simp [encReg, encDec]) ?_
    (repeat' (first|refine stp ?_|(with_reducible refine brr ?_ ?_<;>intro h)|(with_reducible refine nilImm_map ?_ ?_<;>intro h)|with_reducible refine anyb_of ?_ ?_)); all_goals try (conv=>whnf)
    refine callV_data co rfl ?_
    (repeat' (first|refine stp ?_|(with_reducible refine brr ?_ ?_<;>intro h)|(with_reducible refine nilImm_map ?_ ?_<;>intro h)|with_reducible refine anyb_of ?_ ?_)); all_goals try (conv=>whnf)
    all_goals try (exfalso; omega)
    refine oK_map' (j := d.index.toNat) (by omega) hj2 ?_
    (repeat' (first|refine stp ?_|(with_reducible refine brr ?_ ?_<;>intro h)|(with_reducible refine nilImm_map ?_ ?_<;>intro h)|with_reducible refine anyb_of ?_ ?_)); all_goals try (conv=>whnf)
    refine callV_data m2 rfl ?_
    (repeat' (first|refine stu ?_|(with_reducible refine brr ?_ ?_<;>intro h)|(with_reducible refine nilImm_map ?_ ?_<;>intro h)|with_reducible refine anyb_of ?_ ?_)); all_goals try (conv=>whnf)
    refine oK_atN d.index.toNat (by omega) hj2 ?_
    (repeat' (first|refine stu ?_|(with_reducible refine brr ?_ ?_<;>intro h)|(with_reducible refine nilImm_map ?_ ?_<;>intro h)|with_reducible refine anyb_of ?_ ?_)); all_goals try (conv=>whnf)
    refine tellV [] [(3, .ptr 2 0 0), (4, .ptr 0 0 0), (6, .ptr 1 0 0)] [(0, ⟨[.agg [.nilsl, .nilsl, .nilsl]], 3, true⟩), (1, ⟨[encReg (cliR r d)], 3, true⟩), (2, ⟨[encDec d], 5, true⟩)] [] 3 (by decide) (by simp) trivial
      ⟨[_, _, _], [33, 37, 41], [], [(43, [encReg (cliR r d)])], ⟨⟨⟨_, rfl⟩, ⟨_, rfl⟩, ⟨_, rfl⟩, trivial⟩, trivial, ⟨⟨_, 6, _, rfl, mapF_cons (frz_aggL (mapF_cons (frz_own_map (f := encRat) (l := (cliR r d).lo) rfl hlo (by rw [g2]; simp) frz_rat) (mapF_cons (frz_own_map (f := encRat) (l := (cliR r d).hi) rfl hhi (by rw [g3]; simp [hlh]) frz_rat) (mapF_cons (frz_own_map (f := encAff) (l := r.rows) rfl rfl (by simp) frz_aff) rfl)))) rfl, rfl⟩, trivial⟩⟩,
        ⟨at_ptr (by decide) rfl, at_ptr (by decide) rfl, at_ptr (by decide) rfl, trivial⟩, ⟨blk_box (by decide) rfl rfl rfl rfl rfl, blk_box (by decide) rfl rfl rfl rfl rfl, blk_box (by decide) rfl rfl rfl rfl rfl, trivial⟩, by simp [ren]⟩ ?_
    (repeat' (first|refine stp ?_|(with_reducible refine brr ?_ ?_<;>intro h)|(with_reducible refine nilImm_map ?_ ?_<;>intro h)|with_reducible refine anyb_of ?_ ?_)); all_goals try (conv=>whnf)
    refine oK_map' (j := d.index.toNat) (by omega) hj3 ?_
    (repeat' (first|refine stp ?_|(with_reducible refine brr ?_ ?_<;>intro h)|(with_reducible refine nilImm_map ?_ ?_<;>intro h)|with_reducible refine anyb_of ?_ ?_)); all_goals try (conv=>whnf)
    refine oK_map' (j := d.index.toNat) (by omega) hj4 ?_
    (repeat' (first|refine stp ?_|(with_reducible refine brr ?_ ?_<;>intro h)|(with_reducible refine nilImm_map ?_ ?_<;>intro h)|with_reducible refine anyb_of ?_ ?_)); all_goals try (conv=>whnf)
    refine callV_data ce rfl ?_
    (repeat' (first|refine stp ?_|(with_reducible refine brr ?_ ?_<;>intro h)|(with_reducible refine nilImm_map ?_ ?_<;>intro h)|with_reducible refine anyb_of ?_ ?_)); all_goals try (conv=>whnf)
    · rw [hyT (hem.2 (sgn_gt.1 (by omega)))]
      exact givesV_to rfl rfl
    · rw [hyF (fun e => by have := sgn_gt.2 (hem.1 e); omega)]
      exact givesV_to rfl rfl
theorem ok_sgball : FnOk Tryz.prog 32 Tryz.f32 (Tryz.f32.body.getD .skip) [.cell 6 25, .tmp 7] 82 := ⟨Tryz.func32, rfl, by decide, Tryz.ntmps32, Tryz.results32, by kernel_rfl, by kernel_rfl⟩
theorem c_sgball (r : RegL) (c : List RatL) (d : RatL) (hr : okReg 100000 r) (hc : okLs 100000 c) (hd : okQ 100000 d) : Fn 32 [.imm (c.map encRat), encRat d, encReg r] (.data (.tup [encReg (balV r c d).1, .int .i64 (balV r c d).2])) := by
  have co := c_sgown r (okReg_le (by decide) hr)
  have cs := c_rqsign d hd.1 (by have := hd.2; omega)
  have l1 := hr.1.1
  have l2 := hc.1
  have l3 := hr.2.2.2
  have no : ¬ balOk r c d → balV r c d = (zeroR, 1) := fun h => by unfold balV; rw [if_neg h]
  refine fnC_v hmix hT ok_sgball (by simp [encReg]) ?_
  (repeat' (first|refine stp ?_|(with_reducible refine brr ?_ ?_<;>intro h)|(with_reducible refine nilImm_map ?_ ?_<;>intro h)|with_reducible refine anyb_of ?_ ?_)); all_goals try (conv=>whnf)
  refine callV_data co rfl ?_
  (repeat' (first|refine stp ?_|(with_reducible refine brr ?_ ?_<;>intro h)|(with_reducible refine nilImm_map ?_ ?_<;>intro h)|with_reducible refine anyb_of ?_ ?_)); all_goals try (conv=>whnf)
  · rw [no fun e => by have := e.2.1; omega]
    exact givesV_to rfl rfl
  · refine callV_data cs rfl ?_
    (repeat' (first|refine stp ?_|(with_reducible refine brr ?_ ?_<;>intro h)|(with_reducible refine nilImm_map ?_ ?_<;>intro h)|with_reducible refine anyb_of ?_ ?_)); all_goals try (conv=>whnf)
    · rw [no fun e => by have := sgnQ_neg.1 h; have := e.2.2; grind]
      exact givesV_to rfl rfl
    · have hva : VaO r := dB_true.1 (by assumption)
      have hlen : c.length = r.lo.length := by omega
      have hlh : r.hi.length = r.lo.length := by have := hva.2.2.1; omega
      have hok : balOk r c d := ⟨hva, hlen, Rat.not_lt.1 fun e => by have := sgnQ_neg.2 e; omega⟩
      have hyT : emR (balR r c d) → balV r c d = (zeroR, 10) := fun h => by unfold balV; rw [if_pos hok, if_pos h]
      have hyF : ¬ emR (balR r c d) → balV r c d = (balR r c d, 0) := fun h => by unfold balV; rw [if_pos hok, if_neg h]
      have eb : encReg (balR r c d) = .agg [.imm ((balLo r c d).map encX), .imm ((balHi r c d).map encX), .imm (r.rows.map encAff)] := by
        unfold encReg balR; simp only [List.map_map]; rfl
      have hA : (balLo r c d).length = r.lo.length := by simp [balLo]
      have hB : (balHi r c d).length = r.lo.length := by simp [balHi]
      have gA : ∀ i, i < r.lo.length → maxQ (qv r.lo[i]!) (qv c[i]! - qv d) = (balLo r c d)[i]! := fun i hi => by unfold balLo; rw [get_range hi]
      have gB : ∀ i, i < r.lo.length → minQ (qv r.hi[i]!) (qv c[i]! + qv d) = (balHi r c d)[i]! := fun i hi => by unfold balHi; rw [get_range hi]
      have hem : emR (balR r c d) ↔ ∃ i, i < r.lo.length ∧ (balHi r c d)[i]! < (balLo r c d)[i]! := by
        unfold emR
        show (∃ i, i < ((balLo r c d).map cr).length ∧ qv ((balHi r c d).map cr)[i]! < qv ((balLo r c d).map cr)[i]!) ↔ _
        constructor
        · rintro ⟨i, h1, h2⟩
          have h1 : i < r.lo.length := by simpa [hA] using h1
          rw [getD_map_cr (by omega), getD_map_cr (by omega), qv_cr, qv_cr] at h2
          exact ⟨i, h1, h2⟩
        · rintro ⟨i, h1, h2⟩
          refine ⟨i, by simpa [hA] using h1, ?_⟩
          rw [getD_map_cr (by omega), getD_map_cr (by omega), qv_cr, qv_cr]
          exact h2
      generalize balLo r c d = A at *
      generalize balHi r c d = B at *
      have three : ∀ {n1 n2 n3 : Nat} {ρ : Nat → Nat} {a b e : Nat}, a = ρ 4 → b = ρ 5 → e = ρ 6 → rn ρ 7 3 (.agg [.own 4 0 n1, .own 5 0 n2, .own 6 0 n3]) (.agg [.own a 0 n1, .own b 0 n2, .own e 0 n3]) := fun h1 h2 h3 => by
        subst h1 h2 h3; exact ⟨⟨by decide, rfl⟩, ⟨by decide, rfl⟩, ⟨by decide, rfl⟩, trivial⟩
      refine loopV_grow hT [(.cl 25 0 0, 3, true), (.cl 25 0 1, 3, true)] (fun (i : Nat) => [(0, .imm (c.map encRat)), (4, .ptr 0 0 0), (5, .ptr 1 0 0), (6, .ptr 2 0 0), (8, .ptr 3 0 0), (9, .int .i64 i)])
        (fun i => [(0, ⟨[encRat d], 3, true⟩), (1, ⟨[encReg r], 3, true⟩), (2, ⟨[.agg [.nilsl, .nilsl, .nilsl]], 3, true⟩), (3, ⟨[.agg [.own 4 0 i, .own 5 0 i, .own 6 0 (0 + (r.rows.map encAff).length)]], 3, true⟩), (4, ⟨(A.take i).map encX, 3, true⟩), (5, ⟨(B.take i).map encX, 3, true⟩), (6, ⟨r.rows.map encAff, 4, true⟩)]) [] 7
        (fun i => i ≤ c.length ∧ ∀ j, j < i → ¬ B[j]! < A[j]!) (fun i => c.length - i) 0 ⟨Nat.zero_le _, fun j h => (by omega)⟩ (by decide) (by simp) ⟨_, _, rfl, rfl, rfl, _, _, rfl, rfl, rfl, trivial⟩ ?_ ?_
      · exact ⟨[0, 1, 2, 25, 28, 29, 23], [], [], [], ⟨trivial, trivial, trivial⟩, ⟨at_imm rfl rfl, at_ptr (by decide) rfl, at_ptr (by decide) rfl, at_ptr (by decide) rfl, at_ptr (by decide) rfl, at_int rfl rfl, trivial⟩,
          ⟨blk_box (by decide) rfl rfl rfl rfl rfl, blk_box (by decide) rfl rfl rfl rfl rfl, blk_box (by decide) rfl rfl rfl rfl rfl, blk_boxK (by decide) rfl (three rfl rfl rfl) rfl rfl, blk_row (by decide) rfl rfl (nr_map fun _ => ⟨rfl, by simp [encX, encRat]⟩) rfl, blk_row (by decide) rfl rfl (nr_map fun _ => ⟨rfl, by simp [encX, encRat]⟩) rfl, blk_row (by decide) rfl rfl (nr_map fun _ => ⟨rfl, by simp [encAff]⟩) rfl, trivial⟩, by simp [ren]⟩
      intro i ⟨i1, i2⟩
      have hA' : (A.take i).length = i := by rw [List.length_take]; omega
      have hB' : (B.take i).length = i := by rw [List.length_take]; omega
      by_cases hi : i < c.length
      · have a1 : i < r.lo.length := by omega
        have a2 : i < r.hi.length := by omega
        have q1 := okLs_get hr.1 a1
        have q2 := okLs_get hr.2.1 a2
        have q3 := okLs_get hc hi
        have z1 := sz_qv q1.1 q1.2.1 q1.2.2 (k := 100000) (by decide)
        have z2 := sz_qv q2.1 q2.2.1 q2.2.2 (k := 100000) (by decide)
        have z3 := sz_qv q3.1 q3.2.1 q3.2.2 (k := 100000) (by decide)
        have z4 := sz_qv hd.1 hd.2.1 hd.2.2 (k := 100000) (by decide)
        have c1 := c_rqsub c[i]! d q3.1 hd.1 (by have := q3.2; omega) (by have := q3.2; omega) (by have := hd.2; omega) (by have := hd.2; omega)
        have c2 := c_rqmax r.lo[i]! (cr (qv c[i]! - qv d)) 200001 (okQ_le (by decide) q1) (okQ_le (by decide) (okQ_cr (sz_sub z3 z4))) (by decide)
        have c3 := c_rqadd c[i]! d q3.1 hd.1 (by have := q3.2; omega) (by have := q3.2; omega) (by have := hd.2; omega) (by have := hd.2; omega)
        have c4 := c_rqmin r.hi[i]! (cr (qv c[i]! + qv d)) 200001 (okQ_le (by decide) q2) (okQ_le (by decide) (okQ_cr (sz_add z3 z4))) (by decide)
        rw [qv_cr, gA i a1] at c2
        rw [qv_cr, gB i a1] at c4
        have zA : sz 200001 A[i]! := by rw [← gA i a1]; exact sz_max (sz_le (by decide) z1) (sz_le (by decide) (sz_sub z3 z4))
        have zB : sz 200001 B[i]! := by rw [← gB i a1]; exact sz_min (sz_le (by decide) z2) (sz_le (by decide) (sz_add z3 z4))
        have lA := cr_len zA
        have lB := cr_len zB
        have c5 := c_rqcmp (cr A[i]!) (cr B[i]!) (okR_cr _) (okR_cr _) (by omega) (by omega) (by omega) (by omega)
        rw [qv_cr, qv_cr] at c5
        (repeat' (first|refine stp ?_|(with_reducible refine brr ?_ ?_<;>intro h)|(with_reducible refine nilImm_map ?_ ?_<;>intro h)|with_reducible refine anyb_of ?_ ?_)); all_goals try (conv=>whnf)
        · refine callV_data c1 rfl ?_
          (repeat' (first|refine stp ?_|(with_reducible refine brr ?_ ?_<;>intro h)|(with_reducible refine nilImm_map ?_ ?_<;>intro h)|with_reducible refine anyb_of ?_ ?_)); all_goals try (conv=>whnf)
          refine callV_data c2 rfl ?_
          (repeat' (first|refine stp ?_|(with_reducible refine brr ?_ ?_<;>intro h)|(with_reducible refine nilImm_map ?_ ?_<;>intro h)|with_reducible refine anyb_of ?_ ?_)); all_goals try (conv=>whnf)
          refine callV_data c3 rfl ?_
          (repeat' (first|refine stp ?_|(with_reducible refine brr ?_ ?_<;>intro h)|(with_reducible refine nilImm_map ?_ ?_<;>intro h)|with_reducible refine anyb_of ?_ ?_)); all_goals try (conv=>whnf)
          refine callV_data c4 rfl ?_
          (repeat' (first|refine stp ?_|(with_reducible refine brr ?_ ?_<;>intro h)|(with_reducible refine nilImm_map ?_ ?_<;>intro h)|with_reducible refine anyb_of ?_ ?_)); all_goals try (conv=>whnf)
          refine callV_data c5 rfl ?_
          (repeat' (first|refine stp ?_|(with_reducible refine brr ?_ ?_<;>intro h)|(with_reducible refine nilImm_map ?_ ?_<;>intro h)|with_reducible refine anyb_of ?_ ?_)); all_goals try (conv=>whnf)
          · rw [hyT (hem.2 ⟨i, a1, sgn_gt.1 (by omega)⟩)]
            exact givesV_to rfl rfl
          · have sA := take_snoc (ys := A) (i := i) (by omega)
            have sB := take_snoc (ys := B) (i := i) (by omega)
            exact ⟨i + 1, ⟨⟨by omega, fun j hj => lt_succ_cases (p := fun j => ¬ B[j]! < A[j]!) i2 (fun e => by have := sgn_gt.2 e; omega) hj⟩, by show c.length - (i + 1) < c.length - i; omega⟩, [0, 1, 2, 3, 47, 52, 6], [], [], [], ⟨trivial, trivial, trivial⟩, ⟨at_imm rfl rfl, at_ptr (by decide) rfl, at_ptr (by decide) rfl, at_ptr (by decide) rfl, at_ptr (by decide) rfl, at_int rfl rfl, trivial⟩,
              ⟨blk_box (by decide) rfl rfl rfl rfl rfl, blk_box (by decide) rfl rfl rfl rfl rfl, blk_box (by decide) rfl rfl rfl rfl rfl, blk_boxK (by decide) rfl (three rfl rfl rfl) rfl rfl, blk_row (by decide) rfl sA (nr_map fun _ => ⟨rfl, by simp [encX, encRat]⟩) rfl, blk_row (by decide) rfl sB (nr_map fun _ => ⟨rfl, by simp [encX, encRat]⟩) rfl, blk_row (by decide) rfl rfl (nr_map fun _ => ⟨rfl, by simp [encAff]⟩) rfl, trivial⟩, by simp [ren]⟩
        all_goals (exfalso; omega)
      · (repeat' (first|refine stp ?_|(with_reducible refine brr ?_ ?_<;>intro h)|(with_reducible refine nilImm_map ?_ ?_<;>intro h)|with_reducible refine anyb_of ?_ ?_)); all_goals try (conv=>whnf)
        all_goals try (exfalso; omega)
        rw [hyF (fun e => by obtain ⟨j, hj, e⟩ := hem.1 e; exact i2 j (by omega) e), eb]
        exact givesV_to (frz_tupL (mapF_cons (frz_aggL (mapF_cons (frz_own_map (f := encX) (l := A.take i) rfl rfl hA'.symm fun q => frz_rat (cr q)) (mapF_cons (frz_own_map (f := encX) (l := B.take i) rfl rfl hB'.symm fun q => frz_rat (cr q)) (mapF_cons (frz_own_map (f := encAff) (l := r.rows) rfl rfl (by simp) frz_aff) rfl)))) rfl)) (by
          rw [List.take_of_length_le (by omega), List.take_of_length_le (by omega)])
  · rw [no fun e => dB_false.1 h e.1]
    exact givesV_to rfl rfl
end Go.PI.Tryz
namespace Go.PI.Tryz
set_option linter.unnecessarySimpa false
open Go.Proofs Go.PI
set_option linter.unusedSimpArgs false
set_option linter.unusedVariables false
theorem rn_own3 {k a' b' c' n1 n2 n3 : Nat} {ρ : Nat → Nat} {a b e : Nat} (h1 : a = ρ a') (h2 : b = ρ b') (h3 : e = ρ c') (g1 : a' < k) (g2 : b' < k) (g3 : c' < k) : rn ρ k 3 (.agg [.own a' 0 n1, .own b' 0 n2, .own c' 0 n3]) (.agg [.own a 0 n1, .own b 0 n2, .own e 0 n3]) := by
  subst h1 h2 h3; exact ⟨⟨g1, rfl⟩, ⟨g2, rfl⟩, ⟨g3, rfl⟩, trivial⟩
theorem frz_form {h : Hp} {n : Nat} (x : QF) : frz h (n + 1) (encF x) = some (encF x, []) := by cases n <;> rfl
theorem ok_fsmall : FnOk Tryz.prog 27 Tryz.f27 (Tryz.f27.body.getD .skip) [.cell 4 25] 49 := ⟨Tryz.func27, rfl, by decide, Tryz.ntmps27, Tryz.results27, by kernel_rfl, by kernel_rfl⟩
theorem c_fsmall (l : List Int) (a m : Nat) (hl : okBy l) (ha : a ≤ l.length) (hm1 : 1 ≤ m) (hm : m ≤ 8) : Fn 27 [.ptr 0 0 0, .int .i64 m] (.wrt (fdB l a) (encReg (smR' l a m)) (fdB l (smRA l a m))) := by
  obtain ⟨A, hA⟩ : ∃ A, loI l a m = A := ⟨_, rfl⟩
  obtain ⟨B, hB⟩ : ∃ B, hiI l a m = B := ⟨_, rfl⟩
  have lA : A.length = m := by rw [← hA]; simp [loI]
  have lB : B.length = m := by rw [← hB]; simp [hiI]
  have gA : ∀ i, i < m → numQ l (bdA l a i) = A[i]! := fun i hi => by rw [← hA]; unfold loI; rw [get_range hi]
  have gB : ∀ i, i < m → numQ l (bdA l a i) + qv (absL (numQ l (numA l (bdA l a i)))) = B[i]! := fun i hi => by rw [← hB]; unfold hiI; rw [get_range hi]
  refine fnC_vmut hmix hT ok_fsmall (by simp) ?_
  (repeat' (first|refine stp ?_|(with_reducible refine brr ?_ ?_<;>intro h)|(with_reducible refine nilImm_map ?_ ?_<;>intro h)|with_reducible refine anyb_of ?_ ?_)); all_goals try (conv=>whnf)
  refine loopV_grow hT [(.cl 2 0 0, 3, true), (.cl 2 0 1, 3, true), (.cl 2 0 2, 4, true)] (fun (i : Nat) => [(0, .ptr 0 0 0), (1, .int .i64 m), (4, .ptr 1 0 0), (5, .ptr 2 0 0), (6, .int .i64 i)])
    (fun i => [(0, fdB l (bdA l a i)), (1, ⟨[.agg [.nilsl, .nilsl, .nilsl]], 3, true⟩), (2, ⟨[.agg [.own 3 0 i, .own 4 0 i, .own 5 0 0]], 3, true⟩), (3, ⟨(A.take i).map encX, 3, true⟩), (4, ⟨(B.take i).map encX, 3, true⟩), (5, ⟨[], 4, true⟩)]) [] 6
    (fun i => i ≤ m) (fun i => m - i) 0 (Nat.zero_le _) (by decide) (by simp) ⟨_, _, rfl, rfl, rfl, _, _, rfl, rfl, rfl, _, _, rfl, rfl, rfl, trivial⟩ ?_ ?_
  · exact ⟨[1, 2, 4, 5, 6], [], [], [], ⟨trivial, trivial, trivial⟩, ⟨at_ptr (by decide) rfl, at_int rfl rfl, at_ptr (by decide) rfl, at_ptr (by decide) rfl, at_int rfl rfl, trivial⟩,
      ⟨blk_box (by decide) rfl rfl rfl rfl rfl, blk_box (by decide) rfl rfl rfl rfl rfl, blk_boxK (by decide) rfl (rn_own3 rfl rfl rfl (by decide) (by decide) (by decide)) rfl rfl, blk_row (by decide) rfl rfl (nr_map fun _ => ⟨rfl, by simp [encX, encRat]⟩) rfl, blk_row (by decide) rfl rfl (nr_map fun _ => ⟨rfl, by simp [encX, encRat]⟩) rfl, blk_row (by decide) rfl rfl (fun e he => by cases he) rfl, trivial⟩, by simp [ren]⟩
  intro i i1
  have hA' : (A.take i).length = i := by rw [List.length_take]; omega
  have hB' : (B.take i).length = i := by rw [List.length_take]; omega
  have hd := bdA_le ha i
  by_cases hi : i < m
  · have c1 := c_fnum l (bdA l a i) hl hd
    have c2 := c_fnum l (numA l (bdA l a i)) hl (numA_le hd)
    have z1 := cr_len (numQ_sz l (bdA l a i))
    have z2 := cr_len (numQ_sz l (numA l (bdA l a i)))
    have c3 := c_rqadd (cr (numQ l (bdA l a i))) (absL (numQ l (numA l (bdA l a i)))) (okR_cr _) (absL_ok _) (by omega) (by omega) (by show (cr _).num.length < _; omega) (by show (cr _).den.length < _; omega)
    rw [qv_cr, gB i hi] at c3
    rw [gA i hi] at c1 c3
    (repeat' (first|refine stp ?_|(with_reducible refine brr ?_ ?_<;>intro h)|(with_reducible refine nilImm_map ?_ ?_<;>intro h)|with_reducible refine anyb_of ?_ ?_)); all_goals try (conv=>whnf)
    · refine callV_mut0 (r := 0) c1 rfl rfl rfl rfl (fd_nr _ _) (fdB_g _ _) ?_
      (repeat' (first|refine stp ?_|(with_reducible refine brr ?_ ?_<;>intro h)|(with_reducible refine nilImm_map ?_ ?_<;>intro h)|with_reducible refine anyb_of ?_ ?_)); all_goals try (conv=>whnf)
      refine callV_mut0 (r := 0) c2 rfl rfl rfl rfl (fd_nr _ _) (fdB_g _ _) ?_
      (repeat' (first|refine stp ?_|(with_reducible refine brr ?_ ?_<;>intro h)|(with_reducible refine nilImm_map ?_ ?_<;>intro h)|with_reducible refine anyb_of ?_ ?_)); all_goals try (conv=>whnf)
      refine callV_data c3 rfl ?_
      (repeat' (first|refine stp ?_|(with_reducible refine brr ?_ ?_<;>intro h)|(with_reducible refine nilImm_map ?_ ?_<;>intro h)|with_reducible refine anyb_of ?_ ?_)); all_goals try (conv=>whnf)
      have sA := take_snoc (ys := A) (i := i) (by omega)
      have sB := take_snoc (ys := B) (i := i) (by omega)
      exact ⟨i + 1, ⟨by omega, by show m - (i + 1) < m - i; omega⟩, [1, 2, 23, 30, 5], [], [], [], ⟨trivial, trivial, trivial⟩, ⟨at_ptr (by decide) rfl, at_int rfl rfl, at_ptr (by decide) rfl, at_ptr (by decide) rfl, at_int rfl rfl, trivial⟩,
      ⟨blk_box (by decide) rfl rfl rfl rfl rfl, blk_box (by decide) rfl rfl rfl rfl rfl, blk_boxK (by decide) rfl (rn_own3 rfl rfl rfl (by decide) (by decide) (by decide)) rfl rfl, blk_row (by decide) rfl sA (nr_map fun _ => ⟨rfl, by simp [encX, encRat]⟩) rfl, blk_row (by decide) rfl sB (nr_map fun _ => ⟨rfl, by simp [encX, encRat]⟩) rfl, blk_row (by decide) rfl rfl (fun e he => by cases he) rfl, trivial⟩, by simp [ren]⟩
    all_goals (exfalso; omega)
  · obtain rfl : i = m := by omega
    obtain ⟨R, hR⟩ : ∃ R, rwI l (nx2 l (bdA l a i)) i (nx1 l (bdA l a i) 3) = R := ⟨_, rfl⟩
    have hrA : smRA l a i = rwA l (nx2 l (bdA l a i)) i (nx1 l (bdA l a i) 3) := rfl
    have hreg : encReg (smR' l a i) = .agg [.imm (A.map encX), .imm (B.map encX), .imm (R.map encF)] := by
      unfold encReg smR'
      rw [hA, hB, hR]
      simp only [List.map_map]
      rw [show (encAff ∘ QF.L) = encF from funext fun f => (encF_eq f).symm]
      rfl
    have c0 := c_fnext l (bdA l a i) 3 hl hd (by decide)
    have hn := nx1_lt (l := l) (a := bdA l a i) (n := 3) (by decide)
    have ha1 := nx2_le hd
    rw [hreg, hrA]
    have lR : R.length = nx1 l (bdA l a i) 3 := by rw [← hR]; simp [rwI]
    have gR : ∀ j, j < nx1 l (bdA l a i) 3 → (frmI l (rwA l (nx2 l (bdA l a i)) i j) i).1 = R[j]! := fun j hj => by rw [← hR]; unfold rwI; rw [get_range hj]
    generalize nx1 l (bdA l a i) 3 = n at *
    generalize nx2 l (bdA l a i) = a1 at *
    (repeat' (first|refine stp ?_|(with_reducible refine brr ?_ ?_<;>intro h)|(with_reducible refine nilImm_map ?_ ?_<;>intro h)|with_reducible refine anyb_of ?_ ?_)); all_goals try (conv=>whnf)
    all_goals try (exfalso; omega)
    refine callV_mut0 (r := 0) c0 rfl rfl rfl rfl (fd_nr _ _) (fdB_g _ _) ?_
    (repeat' (first|refine stp ?_|(with_reducible refine brr ?_ ?_<;>intro h)|(with_reducible refine nilImm_map ?_ ?_<;>intro h)|with_reducible refine anyb_of ?_ ?_)); all_goals try (conv=>whnf)
    refine loopV_kept hT (fun (j : Nat) => [(0, .ptr 0 0 0), (1, .int .i64 i), (4, .ptr 1 0 0), (5, .ptr 2 0 0), (9, .int .i64 ((n - j : Nat) : Int))])
      (fun j => [(0, fdB l (rwA l a1 i j)), (1, ⟨[.agg [.nilsl, .nilsl, .nilsl]], 3, true⟩), (2, ⟨[.agg [.own 3 0 i, .own 4 0 i, .own 5 0 j]], 3, true⟩), (3, ⟨A.map encX, 3, true⟩), (4, ⟨B.map encX, 3, true⟩), (5, ⟨(R.take j).map encF, 4, true⟩)]) [] 6
      (fun j => j ≤ n) (fun j => n - j) 0 (Nat.zero_le _) (by decide) (by simp) ?_ ?_
    · exact ⟨[1, 2, 3, 4, 5], [], [], [], ⟨trivial, trivial, trivial⟩, ⟨at_ptr (by decide) rfl, at_int rfl rfl, at_ptr (by decide) rfl, at_ptr (by decide) rfl, at_int rfl rfl, trivial⟩,
        ⟨blk_box (by decide) rfl rfl rfl rfl rfl, blk_box (by decide) rfl rfl rfl rfl rfl, blk_boxK (by decide) rfl (rn_own3 rfl rfl rfl (by decide) (by decide) (by decide)) rfl rfl, blk_row (by decide) rfl (by rw [List.take_of_length_le (by omega)]) (nr_map fun _ => ⟨rfl, by simp [encX, encRat]⟩) rfl, blk_row (by decide) rfl (by rw [List.take_of_length_le (by omega)]) (nr_map fun _ => ⟨rfl, by simp [encX, encRat]⟩) rfl, blk_row (by decide) rfl rfl (fun e he => by cases he) rfl, trivial⟩, by simp [ren]⟩
    intro j j1
    have hR' : (R.take j).length = j := by rw [List.length_take]; omega
    by_cases hj : j < n
    · have cf := c_fform l (rwA l a1 i j) i hl (rwA_le ha1 j) (by omega)
      rw [gR j hj] at cf
      have sR : (R.take j).map encF ++ [encF R[j]!] = (R.take (j + 1)).map encF := by
        rw [List.take_succ_eq_append_getElem (by omega), List.map_append, getElem!_pos R j (by omega)]; rfl
      (repeat' (first|refine stp ?_|(with_reducible refine brr ?_ ?_<;>intro h)|(with_reducible refine nilImm_map ?_ ?_<;>intro h)|with_reducible refine anyb_of ?_ ?_)); all_goals try (conv=>whnf)
      · refine callV_mut0 (r := 0) cf rfl rfl rfl rfl (fd_nr _ _) (fdB_g _ _) ?_
        (repeat' (first|refine stp ?_|(with_reducible refine brr ?_ ?_<;>intro h)|(with_reducible refine nilImm_map ?_ ?_<;>intro h)|with_reducible refine anyb_of ?_ ?_)); all_goals try (conv=>whnf)
        exact ⟨j + 1, ⟨by omega, by show n - (j + 1) < n - j; omega⟩, [1, 2, 3, 4, 14], [], [], [], ⟨trivial, trivial, trivial⟩, ⟨at_ptr (by decide) rfl, at_int rfl rfl, at_ptr (by decide) rfl, at_ptr (by decide) rfl, at_int rfl (by omega), trivial⟩,
          ⟨blk_box (by decide) rfl rfl rfl rfl rfl, blk_box (by decide) rfl rfl rfl rfl rfl, blk_boxK (by decide) rfl (rn_own3 rfl rfl rfl (by decide) (by decide) (by decide)) rfl rfl, blk_row (by decide) rfl rfl (nr_map fun _ => ⟨rfl, by simp [encX, encRat]⟩) rfl, blk_row (by decide) rfl rfl (nr_map fun _ => ⟨rfl, by simp [encX, encRat]⟩) rfl, blk_row (by decide) rfl sR (nr_map fun _ => ⟨rfl, by simp [encF]⟩) rfl, trivial⟩, by simp [ren]⟩
      all_goals (exfalso; omega)
    · obtain rfl : j = n := by omega
      rw [List.take_of_length_le (by omega)]
      (repeat' (first|refine stu ?_|(with_reducible refine brr ?_ ?_<;>intro h)|(with_reducible refine nilImm_map ?_ ?_<;>intro h)|with_reducible refine anyb_of ?_ ?_)); all_goals try (conv=>whnf)
      refine r_thenL ?_
      (repeat' (first|refine stu ?_|(with_reducible refine brr ?_ ?_<;>intro h)|(with_reducible refine nilImm_map ?_ ?_<;>intro h)|with_reducible refine anyb_of ?_ ?_)); all_goals try (conv=>whnf)
      · exfalso; omega
      refine r_thenL ?_
      (repeat' (first|refine stu ?_|(with_reducible refine brr ?_ ?_<;>intro h)|(with_reducible refine nilImm_map ?_ ?_<;>intro h)|with_reducible refine anyb_of ?_ ?_)); all_goals try (conv=>whnf)
      refine tellV [] [(4, .ptr 1 0 0)] [(0, fdB l (rwA l a1 i j)), (1, ⟨[.agg [.imm (A.map encX), .imm (B.map encX), .imm (R.map encF)]], 3, true⟩)] [] 2 (by decide) (by simp) trivial
        ⟨[1], [3, 4, 5], [], [(1, [.agg [.imm (A.map encX), .imm (B.map encX), .imm (R.map encF)]])], ⟨⟨⟨_, rfl⟩, ⟨_, rfl⟩, ⟨_, rfl⟩, trivial⟩, trivial, ⟨⟨_, 6, _, rfl, mapF_cons (frz_aggL (mapF_cons (frz_own_map (f := encX) (l := A) rfl rfl lA.symm fun q => frz_rat (cr q)) (mapF_cons (frz_own_map (f := encX) (l := B) rfl rfl lB.symm fun q => frz_rat (cr q)) (mapF_cons (frz_own_map (f := encF) (l := R) rfl rfl lR.symm frz_form) rfl)))) rfl, rfl⟩, trivial⟩⟩,
          ⟨at_ptr (by decide) rfl, trivial⟩, ⟨blk_box (by decide) rfl rfl rfl rfl rfl, blk_box (by decide) rfl rfl rfl rfl rfl, trivial⟩, by simp [ren]⟩ ?_
      (repeat' (first|refine stp ?_|(with_reducible refine brr ?_ ?_<;>intro h)|(with_reducible refine nilImm_map ?_ ?_<;>intro h)|with_reducible refine anyb_of ?_ ?_)); all_goals try (conv=>whnf)
      exact mutV_to rfl rfl rfl rfl rfl (fd_nr _ _)
end Go.PI.Tryz
namespace Go.PI.Tryz
set_option linter.unnecessarySimpa false
open Go.Proofs Go.PI
set_option linter.unusedSimpArgs false
set_option linter.unusedVariables false
theorem ok_whalf : FnOk Tryz.prog 43 Tryz.f43 (Tryz.f43.body.getD .skip) [.cell 2 40] 11 := ⟨Tryz.func43, rfl, by decide, Tryz.ntmps43, Tryz.results43, by kernel_rfl, by kernel_rfl⟩
theorem c_whalf (a : Int) (ha : a.natAbs < 100) : Fn 43 [.int .i64 a] (.data (encRat (cH a))) := by
  have c1 := c_rqfrac a 2 (by omega) (by decide)
  rw [show (2 : Int).natAbs = 2 from rfl] at c1
  refine fnC_v hmix hT ok_whalf (by simp) ?_
  (repeat' (first|refine stp ?_|(with_reducible refine brr ?_ ?_<;>intro h)|(with_reducible refine nilImm_map ?_ ?_<;>intro h)|with_reducible refine anyb_of ?_ ?_)); all_goals try (conv=>whnf)
  refine callV_data c1 rfl ?_
  (repeat' (first|refine stp ?_|(with_reducible refine brr ?_ ?_<;>intro h)|(with_reducible refine nilImm_map ?_ ?_<;>intro h)|with_reducible refine anyb_of ?_ ?_)); all_goals try (conv=>whnf)
  exact givesV_to rfl rfl
def shL (l : List RatL) : Prop := (∀ i, i < l.length → l[i]!.num.length ≤ 2 ∧ l[i]!.den.length ≤ 2) ∧ l.length ≤ 6
theorem ok_wshort : FnOk Tryz.prog 16 Tryz.f16 (Tryz.f16.body.getD .skip) [.tmp 2] 29 := ⟨Tryz.func16, rfl, by decide, Tryz.ntmps16, Tryz.results16, by kernel_rfl, by kernel_rfl⟩
theorem c_wshort (l : List RatL) (hl : okLs 2097100 l) : Fn 16 [.imm (l.map encRat)] (.data (.bool (dB (shL l)))) := by
  have l1 := hl.1
  refine fnC_v hmix hT ok_wshort (by simp) ?_
  (repeat' (first|refine stp ?_|(with_reducible refine brr ?_ ?_<;>intro h)|(with_reducible refine nilImm_map ?_ ?_<;>intro h)|with_reducible refine anyb_of ?_ ?_)); all_goals try (conv=>whnf)
  refine loopV_slots hT (fun n : Nat => [(0, .imm (l.map encRat)), (3, .int .i64 n)]) (fun n => n ≤ l.length ∧ ∀ j, j < n → l[j]!.num.length ≤ 2 ∧ l[j]!.den.length ≤ 2) (fun n => l.length - n) 0 ⟨by omega, fun j hj => by omega⟩ ?_ ?_
  · exact ⟨at_imm rfl rfl, at_int rfl rfl, trivial⟩
  intro n ⟨hn, he⟩
  by_cases hi : n < l.length
  · have q := okLs_get hl hi
    have q2 := q.2
    (repeat' (first|refine stp ?_|(with_reducible refine brr ?_ ?_<;>intro h)|(with_reducible refine nilImm_map ?_ ?_<;>intro h)|with_reducible refine anyb_of ?_ ?_)); all_goals try (conv=>whnf)
    all_goals try (exfalso; omega)
    · exact givesV_to rfl (congrArg PV.bool (dB_no fun e => by have := (e.1 n hi).1; omega))
    · exact givesV_to rfl (congrArg PV.bool (dB_no fun e => by have := (e.1 n hi).2; omega))
    · exact ⟨n + 1, ⟨⟨by omega, fun j hj => lt_succ_cases (p := fun j => l[j]!.num.length ≤ 2 ∧ l[j]!.den.length ≤ 2) he ⟨by omega, by omega⟩ hj⟩, by omega⟩, at_imm rfl rfl, at_int rfl (by omega), trivial⟩
  · (repeat' (first|refine stp ?_|(with_reducible refine brr ?_ ?_<;>intro h)|(with_reducible refine nilImm_map ?_ ?_<;>intro h)|with_reducible refine anyb_of ?_ ?_)); all_goals try (conv=>whnf)
    all_goals try (exfalso; omega)
    refine givesV_to rfl (congrArg PV.bool ?_)
    rw [Bool.eq_iff_iff, dB_true, decide_eq_true_eq]
    simp only [List.length_map]
    exact ⟨fun e => ⟨fun j hj => he j (by omega), by omega⟩, fun e => by have := e.2; omega⟩
/-- The numbers of a form, its constant ahead. -/
def numsF (f : AffL) : List RatL := f.const :: (f.terms.take 7).map TermL.coef
def fewR (r : RegL) : Prop := shL r.lo ∧ shL r.hi ∧ r.rows.length ≤ 4 ∧ ∀ i, i < r.rows.length → r.rows[i]!.terms.length ≤ 5 ∧ shL (numsF r.rows[i]!)
theorem okLs_nums {k : Nat} {f : AffL} (h : okA k f) : okLs k (numsF f) := ⟨by simp [numsF, List.length_take]; omega, fun x hx => by
  rcases List.mem_cons.1 hx with rfl | hx
  · exact h.1
  · obtain ⟨t, ht, rfl⟩ := List.mem_map.1 hx
    exact h.2.1 t (List.mem_of_mem_take ht)⟩
theorem nums_snoc {f : AffL} {i : Nat} (h : i < f.terms.length) : (f.const :: (f.terms.take i).map TermL.coef) ++ [f.terms[i]!.coef] = f.const :: (f.terms.take (i + 1)).map TermL.coef := by
  rw [List.take_succ_eq_append_getElem h, List.map_append, getElem!_pos f.terms i h]; rfl
theorem ok_wfew : FnOk Tryz.prog 12 Tryz.f12 (Tryz.f12.body.getD .skip) [.tmp 2] 77 := ⟨Tryz.func12, rfl, by decide, Tryz.ntmps12, Tryz.results12, by kernel_rfl, by kernel_rfl⟩
theorem c_wfew (r : RegL) (hr : okReg 2097100 r) : Fn 12 [encReg r] (.data (.bool (dB (fewR r)))) := by
  obtain ⟨hlo, hhi, hrw, hrl⟩ := hr
  have no : ¬ fewR r → false = dB (fewR r) := dB_no
  have c1 := c_wshort r.lo hlo
  have c2 := c_wshort r.hi hhi
  refine fnC_v hmix hT ok_wfew (by simp [encReg]) ?_
  (repeat' (first|refine stp ?_|(with_reducible refine brr ?_ ?_<;>intro h)|(with_reducible refine nilImm_map ?_ ?_<;>intro h)|with_reducible refine anyb_of ?_ ?_)); all_goals try (conv=>whnf)
  refine callV_data c1 rfl ?_
  (repeat' (first|refine stp ?_|(with_reducible refine brr ?_ ?_<;>intro h)|(with_reducible refine nilImm_map ?_ ?_<;>intro h)|with_reducible refine anyb_of ?_ ?_)); all_goals try (conv=>whnf)
  rotate_left
  · exact givesV_to rfl (congrArg PV.bool (no fun e => dB_false.1 h e.1))
  refine callV_data c2 rfl ?_
  (repeat' (first|refine stp ?_|(with_reducible refine brr ?_ ?_<;>intro h)|(with_reducible refine nilImm_map ?_ ?_<;>intro h)|with_reducible refine anyb_of ?_ ?_)); all_goals try (conv=>whnf)
  · exact givesV_to rfl (congrArg PV.bool (no fun e => by have := e.2.2.1; omega))
  rotate_left
  · exact givesV_to rfl (congrArg PV.bool (no fun e => dB_false.1 h e.2.1))
  have h1 : shL r.lo := dB_true.1 (by assumption)
  have h2 : shL r.hi := dB_true.1 (by assumption)
  have h3 : r.rows.length ≤ 4 := by omega
  refine loopV_kept hT (fun (k : Nat) => [(1, .ptr 0 0 0), (3, .int .i64 k)]) (fun _ => [(0, ⟨[encReg r], 3, true⟩)]) [] 1
    (fun k => k ≤ r.rows.length ∧ ∀ j, j < k → r.rows[j]!.terms.length ≤ 5 ∧ shL (numsF r.rows[j]!)) (fun k => r.rows.length - k) 0 ⟨Nat.zero_le _, fun j h => (by omega)⟩ (by decide) (by simp) ?_ ?_
  · exact ⟨[0], [], [], [], ⟨trivial, trivial, trivial⟩, ⟨at_ptr (by decide) rfl, at_int rfl rfl, trivial⟩, ⟨blk_box (by decide) rfl rfl rfl rfl rfl, trivial⟩, by simp [ren]⟩
  intro k ⟨k1, k2⟩
  by_cases hk : k < r.rows.length
  · have ha := hrw _ (get_mem hk)
    have hlf := ha.2.2
    have hbad : ¬ (r.rows[k]!.terms.length ≤ 5 ∧ shL (numsF r.rows[k]!)) → false = dB (fewR r) := fun h => no fun e => h (e.2.2.2 k hk)
    have cs := c_wshort (numsF r.rows[k]!) (okLs_nums ha)
    (repeat' (first|refine stp ?_|(with_reducible refine brr ?_ ?_<;>intro h)|(with_reducible refine nilImm_map ?_ ?_<;>intro h)|with_reducible refine anyb_of ?_ ?_)); all_goals try (conv=>whnf)
    all_goals try (exfalso; omega)
    obtain ⟨f, hf⟩ : ∃ f, r.rows[k]! = f := ⟨_, rfl⟩
    refine loopV_kept hT (fun (i : Nat) => [(1, .ptr 0 0 0), (3, .int .i64 k), (4, .own 1 0 (i + 1)), (5, .int .i64 i)]) (fun i => [(0, ⟨[encReg r], 3, true⟩), (1, ⟨(r.rows[k]!.const :: (r.rows[k]!.terms.take i).map TermL.coef).map encRat, 3, true⟩)]) [] 2
      (fun i => i ≤ r.rows[k]!.terms.length ∧ i ≤ 7) (fun i => 7 - i) 0 ⟨Nat.zero_le _, by decide⟩ (by decide) (by simp) ?_ ?_
    · exact ⟨[0, _], [], [], [], ⟨trivial, trivial, trivial⟩, ⟨at_ptr (by decide) rfl, at_int rfl rfl, at_own (by decide) rfl rfl, at_int rfl rfl, trivial⟩, ⟨blk_box (by decide) rfl rfl rfl rfl rfl, blk_row (by decide) rfl rfl (nr_map fun _ => ⟨rfl, by simp [encRat]⟩) rfl, trivial⟩, by simp [ren]⟩
    intro i ⟨i1, i2⟩
    have hlen : (r.rows[k]!.const :: (r.rows[k]!.terms.take i).map TermL.coef).length = i + 1 := by rw [List.length_cons, List.length_map, List.length_take]; omega
    by_cases hi : i < r.rows[k]!.terms.length ∧ i < 7
    · have hi1 := hi.1
      have sn := nums_snoc hi1
      have sn2 : (r.rows[k]!.const :: (r.rows[k]!.terms.take i).map TermL.coef).map encRat ++ [encRat r.rows[k]!.terms[i]!.coef] = (r.rows[k]!.const :: (r.rows[k]!.terms.take (i + 1)).map TermL.coef).map encRat := by rw [← sn, List.map_append]; rfl
      (repeat' (first|refine stp ?_|(with_reducible refine brr ?_ ?_<;>intro h)|(with_reducible refine nilImm_map ?_ ?_<;>intro h)|with_reducible refine anyb_of ?_ ?_)); all_goals try (conv=>whnf)
      all_goals try (exfalso; omega)
      exact ⟨i + 1, ⟨⟨by omega, by omega⟩, by show 7 - (i + 1) < 7 - i; omega⟩, [0, _], [], [], [], ⟨trivial, trivial, trivial⟩, ⟨at_ptr (by decide) rfl, at_int rfl rfl, at_own (by decide) rfl rfl, at_int rfl rfl, trivial⟩, ⟨blk_box (by decide) rfl rfl rfl rfl rfl, blk_row (by decide) rfl sn2 (nr_map fun _ => ⟨rfl, by simp [encRat]⟩) rfl, trivial⟩, by simp [ren]⟩
    · have hnum : numsF r.rows[k]! = r.rows[k]!.const :: (r.rows[k]!.terms.take i).map TermL.coef := by
        unfold numsF
        by_cases h7 : i < 7
        · rw [List.take_of_length_le (i := 7) (by omega), List.take_of_length_le (i := i) (by omega)]
        · rw [show i = 7 by omega]
      rw [hnum] at cs
      (repeat' (first|refine stp ?_|(with_reducible refine brr ?_ ?_<;>intro h)|(with_reducible refine nilImm_map ?_ ?_<;>intro h)|with_reducible refine anyb_of ?_ ?_)); all_goals try (conv=>whnf)
      all_goals try (exfalso; omega)
      all_goals first
        | exact givesV_to rfl (congrArg PV.bool (hbad fun e => by have := e.1; omega))
        | (refine callV_data cs (mapF_cons (frz_own_map (f := encRat) rfl rfl hlen.symm frz_rat) rfl) ?_
           (repeat' (first|refine stp ?_|(with_reducible refine brr ?_ ?_<;>intro h)|(with_reducible refine nilImm_map ?_ ?_<;>intro h)|with_reducible refine anyb_of ?_ ?_)); all_goals try (conv=>whnf)
           · exact ⟨k + 1, ⟨⟨by omega, fun j hj => lt_succ_cases (p := fun j => r.rows[j]!.terms.length ≤ 5 ∧ shL (numsF r.rows[j]!)) k2 ⟨by omega, by rw [hnum]; exact dB_true.1 (by assumption)⟩ hj⟩, by show r.rows.length - (k + 1) < r.rows.length - k; omega⟩, [0], [], [], [], ⟨trivial, trivial, trivial⟩, ⟨at_ptr (by decide) rfl, at_int rfl (by omega), trivial⟩, ⟨blk_box (by decide) rfl rfl rfl rfl rfl, trivial⟩, by simp [ren]⟩
           · exact givesV_to rfl (congrArg PV.bool (hbad fun e => dB_false.1 h (by rw [← hnum]; exact e.2))))
  · (repeat' (first|refine stp ?_|(with_reducible refine brr ?_ ?_<;>intro h)|(with_reducible refine nilImm_map ?_ ?_<;>intro h)|with_reducible refine anyb_of ?_ ?_)); all_goals try (conv=>whnf)
    all_goals try (exfalso; omega)
    exact givesV_to rfl (congrArg PV.bool (dB_yes ⟨h1, h2, h3, fun j hj => k2 j (by omega)⟩))
theorem ok_wcopied : FnOk Tryz.prog 14 Tryz.f14 (Tryz.f14.body.getD .skip) [.cell 2 25] 16 := ⟨Tryz.func14, rfl, by decide, Tryz.ntmps14, Tryz.results14, by kernel_rfl, by kernel_rfl⟩
theorem c_wcopied (r : RegL) (hr : okReg 2097100 r) : Fn 14 [encReg r] (.data (encReg r)) := by
  have l1 := hr.1.1
  have l2 := hr.2.1.1
  have l3 := hr.2.2.2
  refine fnC_v hmix hT ok_wcopied (by simp [encReg]) ?_
  (repeat' (first|refine stp ?_|(with_reducible refine brr ?_ ?_<;>intro h)|(with_reducible refine nilImm_map ?_ ?_<;>intro h)|with_reducible refine anyb_of ?_ ?_)); all_goals try (conv=>whnf)
  exact givesV_to (frz_aggL (mapF_cons (frz_own_map (f := encRat) (l := r.lo) rfl rfl (by simp) frz_rat) (mapF_cons (frz_own_map (f := encRat) (l := r.hi) rfl rfl (by simp) frz_rat) (mapF_cons (frz_own_map (f := encAff) (l := r.rows) rfl rfl (by simp) frz_aff) rfl)))) rfl
theorem ok_awake19 : FnOk Tryz.prog 11 Tryz.f11 (Tryz.f11.body.getD .skip) [.tmp 0] 95 := ⟨Tryz.func11, rfl, by decide, Tryz.ntmps11, Tryz.results11, by kernel_rfl, by kernel_rfl⟩
theorem c_awake19 : Fn 11 [] (.data (.bool true)) := by
  have h0 := c_whalf 0 (by decide)
  have h1 := c_whalf 1 (by decide)
  have h2 := c_whalf 2 (by decide)
  have h4 := c_whalf 4 (by decide)
  have hm := c_whalf (-2) (by decide)
  obtain ⟨r1, r2⟩ := w_reg
  have q : ∀ a : Int, a.natAbs < 10 → okQ 2 (cH a) := fun a ha => okQ_cr (sz_mk (by decide) (Nat.lt_of_lt_of_le ha (by decide +kernel)) (by decide +kernel))
  have two : ∀ {x y : RatL}, okQ 2 x → okQ 2 y → okLs 2 [x, y] := fun hx hy => ⟨by simp, fun z hz => by
    rcases List.mem_cons.1 hz with rfl | hz
    · exact hx
    · rw [List.mem_singleton.1 hz]; exact hy⟩
  have b0 := c_rgbox [cH 0, cH (-2)] [cH 2, cH 2] (okLs_le (by decide) (two (q _ (by decide)) (q _ (by decide)))) (okLs_le (by decide) (two (q _ (by decide)) (q _ (by decide))))
  rw [w_boxV] at b0
  have v0 := c_rvar 0
  have v1 := c_rvar 1
  have vs := c_rsub (varQ 0) (varQ 1) 1 1 (varQ_sz 0) (varQ_sz 1) (by decide) (by decide)
  rw [encF_eq (addR (varQ 0) (scaleR (varQ 1) (-1))), show (addR (varQ 0) (scaleR (varQ 1) (-1))).L = G1 from rfl] at vs
  have k1 := c_rgclip R19 ⟨3, 0, cH 1⟩ (okReg_le (by decide) r1) (okQ_le (by decide) (q 1 (by decide)))
  rw [w_cli1] at k1
  have k2 := c_rgclip R19 ⟨3, 0, cH 4⟩ (okReg_le (by decide) r1) (okQ_le (by decide) (q 4 (by decide)))
  rw [w_cli2] at k2
  have va := c_rgvalid R19 2 (okReg_le (by decide) r1)
  rw [dB_true.2 w_va2] at va
  have vb := c_rgvalid R19 1 (okReg_le (by decide) r1)
  rw [dB_false.2 w_va1] at vb
  have hrow : ∀ f ∈ R19.rows, 2 + f.terms.length * (2 + 2 + 1) + 2 + 2 ≤ 399990 := fun f hf => by
    rw [List.mem_singleton.1 hf]; decide +kernel
  have ca := c_rgcont R19 [cH 2, cH 2] 2 2 r1 (by decide) (by decide) (two (q _ (by decide)) (q _ (by decide))) hrow (by decide) (by decide)
  rw [dB_true.2 w_con] at ca
  have cb := c_rgcont R19 [cH 0, cH 2] 2 2 r1 (by decide) (by decide) (two (q _ (by decide)) (q _ (by decide))) hrow (by decide) (by decide)
  rw [dB_false.2 w_ncon] at cb
  have ce := c_rgcenter R19 (okReg_le (by decide) r1)
  rw [encX_eq, w_cen] at ce
  have s1 := c_sameall [cH 1, cH 0] [cH 1, cH 0] (okLs_le (by decide) (two (q _ (by decide)) (q _ (by decide)))) (okLs_le (by decide) (two (q _ (by decide)) (q _ (by decide))))
  rw [decide_eq_true rfl] at s1
  have s2 := c_sameall [cH 1, cH (-2)] [cH 1, cH (-2)] (okLs_le (by decide) (two (q _ (by decide)) (q _ (by decide)))) (okLs_le (by decide) (two (q _ (by decide)) (q _ (by decide))))
  rw [decide_eq_true rfl] at s2
  have wa := c_rgwithin C19 R19 (okReg_le (by decide) r2) (okReg_le (by decide) r1)
  rw [dB_true.2 w_in] at wa
  have wb := c_rgwithin R19 C19 (okReg_le (by decide) r1) (okReg_le (by decide) r2)
  rw [dB_false.2 w_nin] at wb
  refine fnC_v hmix hT ok_awake19 (by simp) ?_
  (repeat' (first|refine stp ?_|(with_reducible refine brr ?_ ?_<;>intro h)|(with_reducible refine nilImm_map ?_ ?_<;>intro h)|with_reducible refine anyb_of ?_ ?_)); all_goals try (conv=>whnf)
  refine callV_data h0 rfl ?_
  (repeat' (first|refine stp ?_|(with_reducible refine brr ?_ ?_<;>intro h)|(with_reducible refine nilImm_map ?_ ?_<;>intro h)|with_reducible refine anyb_of ?_ ?_)); all_goals try (conv=>whnf)
  refine callV_data hm rfl ?_
  (repeat' (first|refine stp ?_|(with_reducible refine brr ?_ ?_<;>intro h)|(with_reducible refine nilImm_map ?_ ?_<;>intro h)|with_reducible refine anyb_of ?_ ?_)); all_goals try (conv=>whnf)
  refine callV_data h2 rfl ?_
  (repeat' (first|refine stp ?_|(with_reducible refine brr ?_ ?_<;>intro h)|(with_reducible refine nilImm_map ?_ ?_<;>intro h)|with_reducible refine anyb_of ?_ ?_)); all_goals try (conv=>whnf)
  refine callV_data h2 rfl ?_
  (repeat' (first|refine stp ?_|(with_reducible refine brr ?_ ?_<;>intro h)|(with_reducible refine nilImm_map ?_ ?_<;>intro h)|with_reducible refine anyb_of ?_ ?_)); all_goals try (conv=>whnf)
  refine callV_data b0 rfl ?_
  (repeat' (first|refine stp ?_|(with_reducible refine brr ?_ ?_<;>intro h)|(with_reducible refine nilImm_map ?_ ?_<;>intro h)|with_reducible refine anyb_of ?_ ?_)); all_goals try (conv=>whnf)
  refine callV_data v0 rfl ?_
  (repeat' (first|refine stp ?_|(with_reducible refine brr ?_ ?_<;>intro h)|(with_reducible refine nilImm_map ?_ ?_<;>intro h)|with_reducible refine anyb_of ?_ ?_)); all_goals try (conv=>whnf)
  refine callV_data v1 rfl ?_
  (repeat' (first|refine stp ?_|(with_reducible refine brr ?_ ?_<;>intro h)|(with_reducible refine nilImm_map ?_ ?_<;>intro h)|with_reducible refine anyb_of ?_ ?_)); all_goals try (conv=>whnf)
  refine callV_data vs rfl ?_
  (repeat' (first|refine stp ?_|(with_reducible refine brr ?_ ?_<;>intro h)|(with_reducible refine nilImm_map ?_ ?_<;>intro h)|with_reducible refine anyb_of ?_ ?_)); all_goals try (conv=>whnf)
  refine callV_data h1 rfl ?_
  (repeat' (first|refine stp ?_|(with_reducible refine brr ?_ ?_<;>intro h)|(with_reducible refine nilImm_map ?_ ?_<;>intro h)|with_reducible refine anyb_of ?_ ?_)); all_goals try (conv=>whnf)
  refine callV_data k1 rfl ?_
  (repeat' (first|refine stp ?_|(with_reducible refine brr ?_ ?_<;>intro h)|(with_reducible refine nilImm_map ?_ ?_<;>intro h)|with_reducible refine anyb_of ?_ ?_)); all_goals try (conv=>whnf)
  refine callV_data h4 rfl ?_
  (repeat' (first|refine stp ?_|(with_reducible refine brr ?_ ?_<;>intro h)|(with_reducible refine nilImm_map ?_ ?_<;>intro h)|with_reducible refine anyb_of ?_ ?_)); all_goals try (conv=>whnf)
  refine callV_data k2 rfl ?_
  (repeat' (first|refine stp ?_|(with_reducible refine brr ?_ ?_<;>intro h)|(with_reducible refine nilImm_map ?_ ?_<;>intro h)|with_reducible refine anyb_of ?_ ?_)); all_goals try (conv=>whnf)
  refine callV_data va rfl ?_
  (repeat' (first|refine stp ?_|(with_reducible refine brr ?_ ?_<;>intro h)|(with_reducible refine nilImm_map ?_ ?_<;>intro h)|with_reducible refine anyb_of ?_ ?_)); all_goals try (conv=>whnf)
  refine callV_data vb rfl ?_
  (repeat' (first|refine stp ?_|(with_reducible refine brr ?_ ?_<;>intro h)|(with_reducible refine nilImm_map ?_ ?_<;>intro h)|with_reducible refine anyb_of ?_ ?_)); all_goals try (conv=>whnf)
  refine callV_data h2 rfl ?_
  (repeat' (first|refine stp ?_|(with_reducible refine brr ?_ ?_<;>intro h)|(with_reducible refine nilImm_map ?_ ?_<;>intro h)|with_reducible refine anyb_of ?_ ?_)); all_goals try (conv=>whnf)
  refine callV_data h2 rfl ?_
  (repeat' (first|refine stp ?_|(with_reducible refine brr ?_ ?_<;>intro h)|(with_reducible refine nilImm_map ?_ ?_<;>intro h)|with_reducible refine anyb_of ?_ ?_)); all_goals try (conv=>whnf)
  refine callV_data ca rfl ?_
  (repeat' (first|refine stp ?_|(with_reducible refine brr ?_ ?_<;>intro h)|(with_reducible refine nilImm_map ?_ ?_<;>intro h)|with_reducible refine anyb_of ?_ ?_)); all_goals try (conv=>whnf)
  refine callV_data h0 rfl ?_
  (repeat' (first|refine stp ?_|(with_reducible refine brr ?_ ?_<;>intro h)|(with_reducible refine nilImm_map ?_ ?_<;>intro h)|with_reducible refine anyb_of ?_ ?_)); all_goals try (conv=>whnf)
  refine callV_data h2 rfl ?_
  (repeat' (first|refine stp ?_|(with_reducible refine brr ?_ ?_<;>intro h)|(with_reducible refine nilImm_map ?_ ?_<;>intro h)|with_reducible refine anyb_of ?_ ?_)); all_goals try (conv=>whnf)
  refine callV_data cb rfl ?_
  (repeat' (first|refine stp ?_|(with_reducible refine brr ?_ ?_<;>intro h)|(with_reducible refine nilImm_map ?_ ?_<;>intro h)|with_reducible refine anyb_of ?_ ?_)); all_goals try (conv=>whnf)
  refine callV_data ce rfl ?_
  (repeat' (first|refine stp ?_|(with_reducible refine brr ?_ ?_<;>intro h)|(with_reducible refine nilImm_map ?_ ?_<;>intro h)|with_reducible refine anyb_of ?_ ?_)); all_goals try (conv=>whnf)
  refine callV_data h1 rfl ?_
  (repeat' (first|refine stp ?_|(with_reducible refine brr ?_ ?_<;>intro h)|(with_reducible refine nilImm_map ?_ ?_<;>intro h)|with_reducible refine anyb_of ?_ ?_)); all_goals try (conv=>whnf)
  refine callV_data h0 rfl ?_
  (repeat' (first|refine stp ?_|(with_reducible refine brr ?_ ?_<;>intro h)|(with_reducible refine nilImm_map ?_ ?_<;>intro h)|with_reducible refine anyb_of ?_ ?_)); all_goals try (conv=>whnf)
  refine callV_data s1 rfl ?_
  (repeat' (first|refine stp ?_|(with_reducible refine brr ?_ ?_<;>intro h)|(with_reducible refine nilImm_map ?_ ?_<;>intro h)|with_reducible refine anyb_of ?_ ?_)); all_goals try (conv=>whnf)
  refine callV_data h1 rfl ?_
  (repeat' (first|refine stp ?_|(with_reducible refine brr ?_ ?_<;>intro h)|(with_reducible refine nilImm_map ?_ ?_<;>intro h)|with_reducible refine anyb_of ?_ ?_)); all_goals try (conv=>whnf)
  refine callV_data hm rfl ?_
  (repeat' (first|refine stp ?_|(with_reducible refine brr ?_ ?_<;>intro h)|(with_reducible refine nilImm_map ?_ ?_<;>intro h)|with_reducible refine anyb_of ?_ ?_)); all_goals try (conv=>whnf)
  refine callV_data s2 rfl ?_
  (repeat' (first|refine stp ?_|(with_reducible refine brr ?_ ?_<;>intro h)|(with_reducible refine nilImm_map ?_ ?_<;>intro h)|with_reducible refine anyb_of ?_ ?_)); all_goals try (conv=>whnf)
  refine callV_data wa rfl ?_
  (repeat' (first|refine stp ?_|(with_reducible refine brr ?_ ?_<;>intro h)|(with_reducible refine nilImm_map ?_ ?_<;>intro h)|with_reducible refine anyb_of ?_ ?_)); all_goals try (conv=>whnf)
  refine callV_data wb rfl ?_
  (repeat' (first|refine stp ?_|(with_reducible refine brr ?_ ?_<;>intro h)|(with_reducible refine nilImm_map ?_ ?_<;>intro h)|with_reducible refine anyb_of ?_ ?_)); all_goals try (conv=>whnf)
  exact givesV_to rfl rfl
end Go.PI.Tryz
