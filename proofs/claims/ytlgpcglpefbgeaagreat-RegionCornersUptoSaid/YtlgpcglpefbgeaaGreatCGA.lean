/-
  Regions: Ball and Clip of the program.
-/
import Derived.Test.YtlgpcglpefbgeaaGreatCLB
import Derived.Test.YtlgpcglpefbgeaaGreatCRC
import Derived.Test.YtlgpcglpefbgeaaGreatCPD
namespace Go.PI.Tryz
set_option linter.unnecessarySimpa false
open Go.Proofs Go.PI
set_option linter.unusedSimpArgs false
set_option linter.unusedVariables false
theorem c_levalW (f : QF) (x : List RatL) (k kx : Nat) (hf : szF k f) (hkx : 1 ≤ kx) (hx : ∀ q ∈ x, okQ kx q) (hv : ∀ p ∈ f.ts, 0 ≤ p.1 ∧ p.1 < x.length) (hk : k + f.ts.length * (k + kx + 1) + k + kx ≤ 399990) (hl : f.ts.length ≤ 1048576) (hxl : x.length ≤ 1048576) : Fn 61 [encF f, .imm (x.map encRat)] (.data (.tup [encRat (cr (evQ f (x.map qv))), .int .i64 0])) := by
  refine fnC_v hmix hT ok_leval (by simp [encF]) ?_
  (repeat' (first|refine stp ?_|(with_reducible refine brr ?_ ?_<;>intro h)|(with_reducible refine nilImm_map ?_ ?_<;>intro h)|with_reducible refine anyb_of ?_ ?_)); all_goals try (conv=>whnf)
  refine loopV_kept hT (fun ((i, y) : Nat × Rat) => [(1, .imm (x.map encRat)), (4, .ptr 0 0 0), (6, .ptr 1 0 0), (12, .imm (f.ts.map encQ)), (13, .int .i64 f.ts.length), (14, .int .i64 i)])
    (fun (_, y) => [(0, ⟨[.agg [.bool false, .nilsl, .nilsl]], 3, true⟩), (1, ⟨[encRat (cr y)], 3, true⟩)]) [] 2
    (fun (i, y) => i ≤ f.ts.length ∧ y = ev1 (x.map qv) (f.ts.take i) f.c ∧ sz (k + i * (k + kx + 1)) y) (fun (i, _) => f.ts.length - i) (0, f.c) ⟨Nat.zero_le _, rfl, by simpa using hf.1⟩ (by decide) (by simp) ?_ ?_
  · exact ⟨[_, _], [], [], [], ⟨trivial, trivial, trivial⟩, ⟨at_imm rfl rfl, at_ptr (by decide) rfl, at_ptr (by decide) rfl, at_imm rfl rfl, at_int rfl (by simp), at_int rfl rfl, trivial⟩,
      ⟨blk_box (by decide) rfl rfl rfl rfl rfl, blk_box (by decide) rfl rfl rfl rfl rfl, trivial⟩, by simp [ren]⟩
  intro ⟨i, y⟩ ⟨i1, i2, i3⟩
  by_cases hi : i < f.ts.length
  · have hmem : f.ts[i]! ∈ f.ts := by rw [getElem!_pos f.ts i hi]; exact List.getElem_mem hi
    have hvi := hv _ hmem
    have hp := hf.2 _ hmem
    have hj : f.ts[i]!.1.toNat < x.length := by omega
    have hxm : x[f.ts[i]!.1.toNat]! ∈ x := by rw [getElem!_pos x _ hj]; exact List.getElem_mem hj
    have hxo := hx _ hxm
    have hxi := sz_qv hxo.1 hxo.2.1 hxo.2.2 hkx
    have hxg : (x.map qv)[f.ts[i]!.1.toNat]! = qv x[f.ts[i]!.1.toNat]! := getD_map_qv hj
    have hm := sz_mul hp hxi
    have hmul : (i + 1) * (k + kx + 1) ≤ f.ts.length * (k + kx + 1) := Nat.mul_le_mul_right _ (by omega)
    rw [Nat.add_mul] at hmul
    have l1 := cr_len hp
    have l2 := hxo.2
    have l3 := cr_len hm
    have l4 := cr_len i3
    have cm := c_qmul (cr f.ts[i]!.2) x[f.ts[i]!.1.toNat]! (okR_cr _) hxo.1 (by omega) (by omega) (by omega) (by omega)
    rw [qv_cr] at cm
    have ca := c_qadd (cr y) (cr (f.ts[i]!.2 * qv x[f.ts[i]!.1.toNat]!)) (okR_cr _) (okR_cr _) (by omega) (by omega) (by omega) (by omega)
    rw [qv_cr, qv_cr] at ca
    have hsz := sz_le (show k + i * (k + kx + 1) + (k + kx) + 1 ≤ k + (i + 1) * (k + kx + 1) by rw [Nat.add_mul]; omega) (sz_add i3 hm)
    have hy : ev1 (x.map qv) (f.ts.take (i + 1)) f.c = y + f.ts[i]!.2 * qv x[f.ts[i]!.1.toNat]! := by rw [ev1_take (x.map qv) f.ts f.c i hi, i2, hxg]
    (repeat' (first|refine stp ?_|(with_reducible refine brr ?_ ?_<;>intro h)|(with_reducible refine nilImm_map ?_ ?_<;>intro h)|with_reducible refine anyb_of ?_ ?_)); all_goals try (conv=>whnf)
    · exact absurd h (show ¬ f.ts[i]!.1 < 0 by omega)
    · exact absurd h (show ¬ f.ts[i]!.1 ≥ (x.length : Int) by omega)
    · refine oK_map' (j := f.ts[i]!.1.toNat) (show f.ts[i]!.1 = _ by omega) hj ?_
      (repeat' (first|refine stp ?_|(with_reducible refine brr ?_ ?_<;>intro h)|(with_reducible refine nilImm_map ?_ ?_<;>intro h)|with_reducible refine anyb_of ?_ ?_)); all_goals try (conv=>whnf)
      refine callV_data cm rfl ?_
      (repeat' (first|refine stp ?_|(with_reducible refine brr ?_ ?_<;>intro h)|(with_reducible refine nilImm_map ?_ ?_<;>intro h)|with_reducible refine anyb_of ?_ ?_)); all_goals try (conv=>whnf)
      refine callV_data ca rfl ?_
      (repeat' (first|refine stp ?_|(with_reducible refine brr ?_ ?_<;>intro h)|(with_reducible refine nilImm_map ?_ ?_<;>intro h)|with_reducible refine anyb_of ?_ ?_)); all_goals try (conv=>whnf)
      exact ⟨(i + 1, y + f.ts[i]!.2 * qv x[f.ts[i]!.1.toNat]!), ⟨⟨by omega, hy.symm, hsz⟩, by show f.ts.length - (i + 1) < f.ts.length - i; omega⟩, [0, 1], [], [], [], ⟨trivial, trivial, trivial⟩, ⟨at_imm rfl rfl, at_ptr (by decide) rfl, at_ptr (by decide) rfl, at_imm rfl rfl, at_int rfl rfl, at_int rfl (by omega), trivial⟩,
        ⟨blk_box (by decide) rfl rfl rfl rfl rfl, blk_box (by decide) rfl rfl rfl rfl rfl, trivial⟩, by simp [ren]⟩
    · exact absurd (show (i : Int) < f.ts.length by omega) h
  · have hmul : i * (k + kx + 1) ≤ f.ts.length * (k + kx + 1) := Nat.mul_le_mul_right _ (by omega)
    have e : y = evQ f (x.map qv) := by rw [i2, List.take_of_length_le (by omega)]; rfl
    have l4 := cr_len i3
    have cc := c_qcanon (cr y) (okR_cr _) (by omega) (by omega)
    rw [qv_cr] at cc
    (repeat' (first|refine stp ?_|(with_reducible refine brr ?_ ?_<;>intro h)|(with_reducible refine nilImm_map ?_ ?_<;>intro h)|with_reducible refine anyb_of ?_ ?_)); all_goals try (conv=>whnf)
    all_goals try (exfalso; omega)
    refine callV_data cc rfl ?_
    (repeat' (first|refine stp ?_|(with_reducible refine brr ?_ ?_<;>intro h)|(with_reducible refine nilImm_map ?_ ?_<;>intro h)|with_reducible refine anyb_of ?_ ?_)); all_goals try (conv=>whnf)
    subst e
    exact givesV_to rfl rfl
theorem c_rlevalW (f : QF) (x : List RatL) (k kx : Nat) (hf : szF k f) (hkx : 1 ≤ kx) (hx : ∀ q ∈ x, okQ kx q) (hv : ∀ p ∈ f.ts, 0 ≤ p.1 ∧ p.1 < x.length) (hk : k + f.ts.length * (k + kx + 1) + k + kx ≤ 399990) (hl : f.ts.length ≤ 1048576) (hxl : x.length ≤ 1048576) : Fn 29 [encF f, .imm (x.map encRat)] (.data (.tup [encRat (cr (evQ f (x.map qv))), .int .i64 0])) := by
  refine fnC_v hmix hT ok_rleval (by simp [encF]) ?_
  (repeat' (first|refine stp ?_|(with_reducible refine brr ?_ ?_<;>intro h)|(with_reducible refine nilImm_map ?_ ?_<;>intro h)|with_reducible refine anyb_of ?_ ?_)); all_goals try (conv=>whnf)
  refine loopV_kept hT (fun ((i, y) : Nat × Rat) => [(1, .imm (x.map encRat)), (2, .ptr 2 0 0), (4, .ptr 0 0 0), (6, .ptr 1 0 0), (7, .int .i64 i)])
    (fun (_, y) => [(0, ⟨[.agg [.bool false, .nilsl, .nilsl]], 3, true⟩), (1, ⟨[encRat (cr y)], 3, true⟩), (2, ⟨[encF f], 4, true⟩)]) [] 3
    (fun (i, y) => i ≤ f.ts.length ∧ y = ev1 (x.map qv) (f.ts.take i) f.c ∧ sz (k + i * (k + kx + 1)) y) (fun (i, _) => f.ts.length - i) (0, f.c) ⟨Nat.zero_le _, rfl, by simpa using hf.1⟩ (by decide) (by simp) ?_ ?_
  · exact ⟨[_, _, _], [], [], [], ⟨trivial, trivial, trivial⟩, ⟨at_imm rfl rfl, at_ptr (by decide) rfl, at_ptr (by decide) rfl, at_ptr (by decide) rfl, at_int rfl rfl, trivial⟩,
      ⟨blk_box (by decide) rfl rfl rfl rfl rfl, blk_box (by decide) rfl rfl rfl rfl rfl, blk_box (by decide) rfl rfl rfl rfl rfl, trivial⟩, by simp [ren]⟩
  intro ⟨i, y⟩ ⟨i1, i2, i3⟩
  by_cases hi : i < f.ts.length
  · have hmem : f.ts[i]! ∈ f.ts := by rw [getElem!_pos f.ts i hi]; exact List.getElem_mem hi
    have hvi := hv _ hmem
    have hp := hf.2 _ hmem
    have hj : f.ts[i]!.1.toNat < x.length := by omega
    have hxm : x[f.ts[i]!.1.toNat]! ∈ x := by rw [getElem!_pos x _ hj]; exact List.getElem_mem hj
    have hxo := hx _ hxm
    have hxi := sz_qv hxo.1 hxo.2.1 hxo.2.2 hkx
    have hxg : (x.map qv)[f.ts[i]!.1.toNat]! = qv x[f.ts[i]!.1.toNat]! := getD_map_qv hj
    have hm := sz_mul hp hxi
    have hmul : (i + 1) * (k + kx + 1) ≤ f.ts.length * (k + kx + 1) := Nat.mul_le_mul_right _ (by omega)
    rw [Nat.add_mul] at hmul
    have l1 := cr_len hp
    have l2 := hxo.2
    have l3 := cr_len hm
    have l4 := cr_len i3
    have cm := c_rqmul (cr f.ts[i]!.2) x[f.ts[i]!.1.toNat]! (okR_cr _) hxo.1 (by omega) (by omega) (by omega) (by omega)
    rw [qv_cr] at cm
    have ca := c_rqadd (cr y) (cr (f.ts[i]!.2 * qv x[f.ts[i]!.1.toNat]!)) (okR_cr _) (okR_cr _) (by omega) (by omega) (by omega) (by omega)
    rw [qv_cr, qv_cr] at ca
    have hsz := sz_le (show k + i * (k + kx + 1) + (k + kx) + 1 ≤ k + (i + 1) * (k + kx + 1) by rw [Nat.add_mul]; omega) (sz_add i3 hm)
    have hy : ev1 (x.map qv) (f.ts.take (i + 1)) f.c = y + f.ts[i]!.2 * qv x[f.ts[i]!.1.toNat]! := by rw [ev1_take (x.map qv) f.ts f.c i hi, i2, hxg]
    (repeat' (first|refine stp ?_|(with_reducible refine brr ?_ ?_<;>intro h)|(with_reducible refine nilImm_map ?_ ?_<;>intro h)|with_reducible refine anyb_of ?_ ?_)); all_goals try (conv=>whnf)
    · exact absurd h (show ¬ f.ts[i]!.1 < 0 by omega)
    · exact absurd h (show ¬ f.ts[i]!.1 ≥ (x.length : Int) by omega)
    · refine oK_map' (j := f.ts[i]!.1.toNat) (show f.ts[i]!.1 = _ by omega) hj ?_
      (repeat' (first|refine stp ?_|(with_reducible refine brr ?_ ?_<;>intro h)|(with_reducible refine nilImm_map ?_ ?_<;>intro h)|with_reducible refine anyb_of ?_ ?_)); all_goals try (conv=>whnf)
      refine callV_data cm rfl ?_
      (repeat' (first|refine stp ?_|(with_reducible refine brr ?_ ?_<;>intro h)|(with_reducible refine nilImm_map ?_ ?_<;>intro h)|with_reducible refine anyb_of ?_ ?_)); all_goals try (conv=>whnf)
      refine callV_data ca rfl ?_
      (repeat' (first|refine stp ?_|(with_reducible refine brr ?_ ?_<;>intro h)|(with_reducible refine nilImm_map ?_ ?_<;>intro h)|with_reducible refine anyb_of ?_ ?_)); all_goals try (conv=>whnf)
      exact ⟨(i + 1, y + f.ts[i]!.2 * qv x[f.ts[i]!.1.toNat]!), ⟨⟨by omega, hy.symm, hsz⟩, by show f.ts.length - (i + 1) < f.ts.length - i; omega⟩, [0, 1, 2], [], [], [], ⟨trivial, trivial, trivial⟩, ⟨at_imm rfl rfl, at_ptr (by decide) rfl, at_ptr (by decide) rfl, at_ptr (by decide) rfl, at_int rfl (by omega), trivial⟩,
        ⟨blk_box (by decide) rfl rfl rfl rfl rfl, blk_box (by decide) rfl rfl rfl rfl rfl, blk_box (by decide) rfl rfl rfl rfl rfl, trivial⟩, by simp [ren]⟩
    · exact absurd (show (i : Int) < f.ts.length by omega) h
  · have hmul : i * (k + kx + 1) ≤ f.ts.length * (k + kx + 1) := Nat.mul_le_mul_right _ (by omega)
    have e : y = evQ f (x.map qv) := by rw [i2, List.take_of_length_le (by omega)]; rfl
    (repeat' (first|refine stp ?_|(with_reducible refine brr ?_ ?_<;>intro h)|(with_reducible refine nilImm_map ?_ ?_<;>intro h)|with_reducible refine anyb_of ?_ ?_)); all_goals try (conv=>whnf)
    all_goals try (exfalso; omega)
    subst e
    exact givesV_to rfl rfl
theorem ok_qmax : FnOk Tryz.prog 65 Tryz.f65 (Tryz.f65.body.getD .skip) [.cell 4 40] 13 := ⟨Tryz.func65, rfl, by decide, Tryz.ntmps65, Tryz.results65, by kernel_rfl, by kernel_rfl⟩
theorem c_qmax (x y : RatL) (k : Nat) (hx : okQ k x) (hy : okQ k y) (hk : k ≤ 399990) : Fn 65 [encRat x, encRat y] (.data (encRat (cr (maxQ (qv x) (qv y))))) := by
  have hx2 := hx.2
  have hy2 := hy.2
  have cc := c_qcmp x y hx.1 hy.1 (by omega) (by omega) (by omega) (by omega)
  have c1 := c_qcanon x hx.1 (by omega) (by omega)
  have c2 := c_qcanon y hy.1 (by omega) (by omega)
  have hs := sgn_ge (a := qv x) (b := qv y)
  refine fnC_v hmix hT ok_qmax (by simp [encRat]) ?_
  (repeat' (first|refine stp ?_|(with_reducible refine brr ?_ ?_<;>intro h)|(with_reducible refine nilImm_map ?_ ?_<;>intro h)|with_reducible refine anyb_of ?_ ?_)); all_goals try (conv=>whnf)
  refine callV_data cc rfl ?_
  (repeat' (first|refine stp ?_|(with_reducible refine brr ?_ ?_<;>intro h)|(with_reducible refine nilImm_map ?_ ?_<;>intro h)|with_reducible refine anyb_of ?_ ?_)); all_goals try (conv=>whnf)
  · refine callV_data c1 rfl ?_
    (repeat' (first|refine stp ?_|(with_reducible refine brr ?_ ?_<;>intro h)|(with_reducible refine nilImm_map ?_ ?_<;>intro h)|with_reducible refine anyb_of ?_ ?_)); all_goals try (conv=>whnf)
    rw [show maxQ (qv x) (qv y) = qv x from if_pos (hs.1 (by omega))]
    exact givesV_to rfl rfl
  · refine callV_data c2 rfl ?_
    (repeat' (first|refine stp ?_|(with_reducible refine brr ?_ ?_<;>intro h)|(with_reducible refine nilImm_map ?_ ?_<;>intro h)|with_reducible refine anyb_of ?_ ?_)); all_goals try (conv=>whnf)
    rw [show maxQ (qv x) (qv y) = qv y from if_neg (fun e => by have := hs.2 e; omega)]
    exact givesV_to rfl rfl
theorem ok_qmin : FnOk Tryz.prog 66 Tryz.f66 (Tryz.f66.body.getD .skip) [.cell 4 40] 13 := ⟨Tryz.func66, rfl, by decide, Tryz.ntmps66, Tryz.results66, by kernel_rfl, by kernel_rfl⟩
theorem c_qmin (x y : RatL) (k : Nat) (hx : okQ k x) (hy : okQ k y) (hk : k ≤ 399990) : Fn 66 [encRat x, encRat y] (.data (encRat (cr (minQ (qv x) (qv y))))) := by
  have hx2 := hx.2
  have hy2 := hy.2
  have cc := c_qcmp x y hx.1 hy.1 (by omega) (by omega) (by omega) (by omega)
  have c1 := c_qcanon x hx.1 (by omega) (by omega)
  have c2 := c_qcanon y hy.1 (by omega) (by omega)
  have hs := sgn_le (a := qv x) (b := qv y)
  refine fnC_v hmix hT ok_qmin (by simp [encRat]) ?_
  (repeat' (first|refine stp ?_|(with_reducible refine brr ?_ ?_<;>intro h)|(with_reducible refine nilImm_map ?_ ?_<;>intro h)|with_reducible refine anyb_of ?_ ?_)); all_goals try (conv=>whnf)
  refine callV_data cc rfl ?_
  (repeat' (first|refine stp ?_|(with_reducible refine brr ?_ ?_<;>intro h)|(with_reducible refine nilImm_map ?_ ?_<;>intro h)|with_reducible refine anyb_of ?_ ?_)); all_goals try (conv=>whnf)
  · refine callV_data c1 rfl ?_
    (repeat' (first|refine stp ?_|(with_reducible refine brr ?_ ?_<;>intro h)|(with_reducible refine nilImm_map ?_ ?_<;>intro h)|with_reducible refine anyb_of ?_ ?_)); all_goals try (conv=>whnf)
    rw [show minQ (qv x) (qv y) = qv x from if_pos (hs.1 (by omega))]
    exact givesV_to rfl rfl
  · refine callV_data c2 rfl ?_
    (repeat' (first|refine stp ?_|(with_reducible refine brr ?_ ?_<;>intro h)|(with_reducible refine nilImm_map ?_ ?_<;>intro h)|with_reducible refine anyb_of ?_ ?_)); all_goals try (conv=>whnf)
    rw [show minQ (qv x) (qv y) = qv y from if_neg (fun e => by have := hs.2 e; omega)]
    exact givesV_to rfl rfl
theorem ok_rqmax : FnOk Tryz.prog 70 Tryz.f70 (Tryz.f70.body.getD .skip) [.cell 4 40] 13 := ⟨Tryz.func70, rfl, by decide, Tryz.ntmps70, Tryz.results70, by kernel_rfl, by kernel_rfl⟩
theorem c_rqmax (x y : RatL) (k : Nat) (hx : okQ k x) (hy : okQ k y) (hk : k ≤ 399990) : Fn 70 [encRat x, encRat y] (.data (encRat (cr (maxQ (qv x) (qv y))))) := by
  have hx2 := hx.2
  have hy2 := hy.2
  have cc := c_rqcmp x y hx.1 hy.1 (by omega) (by omega) (by omega) (by omega)
  have c1 := c_rqcanon x hx.1 (by omega) (by omega)
  have c2 := c_rqcanon y hy.1 (by omega) (by omega)
  have hs := sgn_ge (a := qv x) (b := qv y)
  refine fnC_v hmix hT ok_rqmax (by simp [encRat]) ?_
  (repeat' (first|refine stp ?_|(with_reducible refine brr ?_ ?_<;>intro h)|(with_reducible refine nilImm_map ?_ ?_<;>intro h)|with_reducible refine anyb_of ?_ ?_)); all_goals try (conv=>whnf)
  refine callV_data cc rfl ?_
  (repeat' (first|refine stp ?_|(with_reducible refine brr ?_ ?_<;>intro h)|(with_reducible refine nilImm_map ?_ ?_<;>intro h)|with_reducible refine anyb_of ?_ ?_)); all_goals try (conv=>whnf)
  · refine callV_data c1 rfl ?_
    (repeat' (first|refine stp ?_|(with_reducible refine brr ?_ ?_<;>intro h)|(with_reducible refine nilImm_map ?_ ?_<;>intro h)|with_reducible refine anyb_of ?_ ?_)); all_goals try (conv=>whnf)
    rw [show maxQ (qv x) (qv y) = qv x from if_pos (hs.1 (by omega))]
    exact givesV_to rfl rfl
  · refine callV_data c2 rfl ?_
    (repeat' (first|refine stp ?_|(with_reducible refine brr ?_ ?_<;>intro h)|(with_reducible refine nilImm_map ?_ ?_<;>intro h)|with_reducible refine anyb_of ?_ ?_)); all_goals try (conv=>whnf)
    rw [show maxQ (qv x) (qv y) = qv y from if_neg (fun e => by have := hs.2 e; omega)]
    exact givesV_to rfl rfl
theorem ok_rqmin : FnOk Tryz.prog 71 Tryz.f71 (Tryz.f71.body.getD .skip) [.cell 4 40] 13 := ⟨Tryz.func71, rfl, by decide, Tryz.ntmps71, Tryz.results71, by kernel_rfl, by kernel_rfl⟩
theorem c_rqmin (x y : RatL) (k : Nat) (hx : okQ k x) (hy : okQ k y) (hk : k ≤ 399990) : Fn 71 [encRat x, encRat y] (.data (encRat (cr (minQ (qv x) (qv y))))) := by
  have hx2 := hx.2
  have hy2 := hy.2
  have cc := c_rqcmp x y hx.1 hy.1 (by omega) (by omega) (by omega) (by omega)
  have c1 := c_rqcanon x hx.1 (by omega) (by omega)
  have c2 := c_rqcanon y hy.1 (by omega) (by omega)
  have hs := sgn_le (a := qv x) (b := qv y)
  refine fnC_v hmix hT ok_rqmin (by simp [encRat]) ?_
  (repeat' (first|refine stp ?_|(with_reducible refine brr ?_ ?_<;>intro h)|(with_reducible refine nilImm_map ?_ ?_<;>intro h)|with_reducible refine anyb_of ?_ ?_)); all_goals try (conv=>whnf)
  refine callV_data cc rfl ?_
  (repeat' (first|refine stp ?_|(with_reducible refine brr ?_ ?_<;>intro h)|(with_reducible refine nilImm_map ?_ ?_<;>intro h)|with_reducible refine anyb_of ?_ ?_)); all_goals try (conv=>whnf)
  · refine callV_data c1 rfl ?_
    (repeat' (first|refine stp ?_|(with_reducible refine brr ?_ ?_<;>intro h)|(with_reducible refine nilImm_map ?_ ?_<;>intro h)|with_reducible refine anyb_of ?_ ?_)); all_goals try (conv=>whnf)
    rw [show minQ (qv x) (qv y) = qv x from if_pos (hs.1 (by omega))]
    exact givesV_to rfl rfl
  · refine callV_data c2 rfl ?_
    (repeat' (first|refine stp ?_|(with_reducible refine brr ?_ ?_<;>intro h)|(with_reducible refine nilImm_map ?_ ?_<;>intro h)|with_reducible refine anyb_of ?_ ?_)); all_goals try (conv=>whnf)
    rw [show minQ (qv x) (qv y) = qv y from if_neg (fun e => by have := hs.2 e; omega)]
    exact givesV_to rfl rfl
end Go.PI.Tryz
namespace Go.PI.Tryz
set_option linter.unnecessarySimpa false
open Go.Proofs Go.PI
set_option linter.unusedSimpArgs false
set_option linter.unusedVariables false
theorem lt_succ_cases {j n : Nat} {p : Nat → Prop} (h : ∀ j, j < n → p j) (hn : p n) (hj : j < n + 1) : p j := by
  rcases Nat.lt_or_eq_of_le (Nat.le_of_lt_succ hj) with hj | rfl
  · exact h j hj
  · exact hn
theorem list_eq_of {α : Type} [Inhabited α] {a b : List α} (hl : a.length = b.length) (h : ∀ j, j < a.length → a[j]! = b[j]!) : a = b :=
  List.ext_getElem hl fun j h1 h2 => by
    have := h j h1
    rw [getElem!_pos a j h1, getElem!_pos b j h2] at this
    exact this
theorem get_mem {α : Type} [Inhabited α] {l : List α} {i : Nat} (h : i < l.length) : l[i]! ∈ l := by rw [getElem!_pos l i h]; exact List.getElem_mem h
theorem ok_seqn : FnOk Tryz.prog 137 Tryz.f137 (Tryz.f137.body.getD .skip) [.tmp 4] 26 := ⟨Tryz.func137, rfl, by decide, Tryz.ntmps137, Tryz.results137, by kernel_rfl, by kernel_rfl⟩
theorem c_seqn (xs ys : List Int) (hl : xs.length < 2097152) (hl2 : ys.length < 2097152) : Fn 137 [encN xs, encN ys] (.data (.bool (decide (xs = ys)))) := by
  refine fnC_v hmix hT ok_seqn (by simp) ?_
  (repeat' (first|refine stp ?_|(with_reducible refine brr ?_ ?_<;>intro h)|(with_reducible refine nilImm_map ?_ ?_<;>intro h)|with_reducible refine anyb_of ?_ ?_)); all_goals try (conv=>whnf)
  · refine givesV_to rfl ?_
    rw [decide_eq_false (fun e => by subst e; exact h rfl)]
  · have hlen : xs.length = ys.length := by omega
    refine loopV_slots hT (fun n : Nat => [(0, encN xs), (1, encN ys), (12, .int .i64 xs.length), (13, .int .i64 n)]) (fun n => n ≤ xs.length ∧ ∀ j, j < n → xs[j]! = ys[j]!) (fun n => xs.length - n) 0 ⟨by omega, fun j hj => by omega⟩ ?_ ?_
    · exact ⟨at_imm rfl rfl, at_imm rfl rfl, at_int rfl (by simp), at_int rfl rfl, trivial⟩
    intro n ⟨hn, he⟩
    (repeat' (first|refine stp ?_|(with_reducible refine brr ?_ ?_<;>intro h)|(with_reducible refine nilImm_map ?_ ?_<;>intro h)|with_reducible refine anyb_of ?_ ?_)); all_goals try (conv=>whnf)
    · refine givesV_to rfl ?_
      rw [decide_eq_false (fun e => by subst e; exact h rfl)]
    · exact ⟨n + 1, ⟨⟨by omega, fun j hj => lt_succ_cases (p := fun j => xs[j]! = ys[j]!) he h hj⟩, by omega⟩, at_imm rfl rfl, at_imm rfl rfl, at_int rfl rfl, at_int rfl (by omega), trivial⟩
    · refine givesV_to rfl ?_
      rw [decide_eq_true (list_eq_of hlen fun j hj => he j (by omega))]
theorem rat_ext {x y : RatL} : x = y ↔ x.neg = y.neg ∧ x.num = y.num ∧ x.den = y.den := by cases x; cases y; simp
theorem ok_lsame : FnOk Tryz.prog 114 Tryz.f114 (Tryz.f114.body.getD .skip) [.tmp 4] 24 := ⟨Tryz.func114, rfl, by decide, Tryz.ntmps114, Tryz.results114, by kernel_rfl, by kernel_rfl⟩
theorem c_lsame (x y : RatL) (hl1 : x.num.length < 2097150) (hl2 : x.den.length < 2097150) (hl3 : y.num.length < 2097150) (hl4 : y.den.length < 2097150) : Fn 114 [encRat x, encRat y] (.data (.bool (decide (x = y)))) := by
  have c1 := c_seqn x.num y.num (by omega) (by omega)
  have c2 := c_seqn x.den y.den (by omega) (by omega)
  refine fnC_v hmix hT ok_lsame (by simp [encRat]) ?_
  (repeat' (first|refine stp ?_|(with_reducible refine brr ?_ ?_<;>intro h)|(with_reducible refine nilImm_map ?_ ?_<;>intro h)|with_reducible refine anyb_of ?_ ?_)); all_goals try (conv=>whnf)
  · refine callV_data c1 rfl ?_
    (repeat' (first|refine stp ?_|(with_reducible refine brr ?_ ?_<;>intro h)|(with_reducible refine nilImm_map ?_ ?_<;>intro h)|with_reducible refine anyb_of ?_ ?_)); all_goals try (conv=>whnf)
    · refine callV_data c2 rfl ?_
      (repeat' (first|refine stp ?_|(with_reducible refine brr ?_ ?_<;>intro h)|(with_reducible refine nilImm_map ?_ ?_<;>intro h)|with_reducible refine anyb_of ?_ ?_)); all_goals try (conv=>whnf)
      refine givesV_to rfl (congrArg PV.bool (decide_eq_decide.2 ?_))
      rw [rat_ext]; simp_all
    · refine givesV_to rfl (congrArg PV.bool (decide_eq_false ?_).symm)
      rw [rat_ext]; simp_all
  · refine givesV_to rfl (congrArg PV.bool (decide_eq_false ?_).symm)
    rw [rat_ext]; simp_all
theorem aff_ext {f g : AffL} (hc : f.const = g.const) (hl : f.terms.length = g.terms.length) (h : ∀ j, j < f.terms.length → f.terms[j]!.var = g.terms[j]!.var ∧ f.terms[j]!.coef = g.terms[j]!.coef) : f = g := by
  obtain ⟨t, c⟩ := f
  obtain ⟨u, d⟩ := g
  simp only at hc hl h
  subst hc
  congr 1
  refine list_eq_of hl fun j hj => ?_
  obtain ⟨h1, h2⟩ := h j hj
  generalize t[j]! = a at *
  generalize u[j]! = b at *
  cases a; cases b; simp_all
instance : LawfulBEq AffL := inferInstance
theorem ok_lequal : FnOk Tryz.prog 76 Tryz.f76 (Tryz.f76.body.getD .skip) [.tmp 4] 52 := ⟨Tryz.func76, rfl, by decide, Tryz.ntmps76, Tryz.results76, by kernel_rfl, by kernel_rfl⟩
theorem c_lequal (f g : AffL) (hf : okA 2097100 f) (hg : okA 2097100 g) : Fn 76 [encAff f, encAff g] (.data (.bool (decide (f = g)))) := by
  have no : ¬ f = g → false = decide (f = g) := fun h => (decide_eq_false h).symm
  have c1 := c_lsame f.const g.const (by have := hf.1.2; omega) (by have := hf.1.2; omega) (by have := hg.1.2; omega) (by have := hg.1.2; omega)
  have l1 := hf.2.2
  have l2 := hg.2.2
  refine fnC_v hmix hT ok_lequal (by simp [encAff]) ?_
  (repeat' (first|refine stp ?_|(with_reducible refine brr ?_ ?_<;>intro h)|(with_reducible refine nilImm_map ?_ ?_<;>intro h)|with_reducible refine anyb_of ?_ ?_)); all_goals try (conv=>whnf)
  · exact givesV_to rfl (congrArg PV.bool (no fun e => h (by rw [e])))
  · refine callV_data c1 rfl ?_
    (repeat' (first|refine stp ?_|(with_reducible refine brr ?_ ?_<;>intro h)|(with_reducible refine nilImm_map ?_ ?_<;>intro h)|with_reducible refine anyb_of ?_ ?_)); all_goals try (conv=>whnf)
    · have hc : f.const = g.const := by assumption
      have hlen : f.terms.length = g.terms.length := by omega
      refine loopV_kept hT (fun (i : Nat) => [(3, .ptr 0 0 0), (23, .imm (f.terms.map encTerm)), (24, .int .i64 f.terms.length), (25, .int .i64 i)]) (fun _ => [(0, ⟨[encAff g], 4, true⟩)]) [] 1
        (fun i => i ≤ f.terms.length ∧ ∀ j, j < i → f.terms[j]!.var = g.terms[j]!.var ∧ f.terms[j]!.coef = g.terms[j]!.coef) (fun i => f.terms.length - i) 0 ⟨Nat.zero_le _, fun j h => (by omega)⟩ (by decide) (by simp) ?_ ?_
      · exact ⟨[1], [], [], [], ⟨trivial, trivial, trivial⟩, ⟨at_ptr (by decide) rfl, at_imm rfl rfl, at_int rfl (by simp), at_int rfl rfl, trivial⟩, ⟨blk_box (by decide) rfl rfl rfl rfl rfl, trivial⟩, by simp [ren]⟩
      intro i ⟨i1, i2⟩
      by_cases hi : i < f.terms.length
      · have q1 := okA_get hf hi
        have q2 := okA_get hg (i := i) (by omega)
        have c2 := c_lsame f.terms[i]!.coef g.terms[i]!.coef (by have := q1.2; omega) (by have := q1.2; omega) (by have := q2.2; omega) (by have := q2.2; omega)
        (repeat' (first|refine stp ?_|(with_reducible refine brr ?_ ?_<;>intro h)|(with_reducible refine nilImm_map ?_ ?_<;>intro h)|with_reducible refine anyb_of ?_ ?_)); all_goals try (conv=>whnf)
        · exact givesV_to rfl (congrArg PV.bool (no fun e => h (by rw [e])))
        · refine callV_data c2 rfl ?_
          (repeat' (first|refine stp ?_|(with_reducible refine brr ?_ ?_<;>intro h)|(with_reducible refine nilImm_map ?_ ?_<;>intro h)|with_reducible refine anyb_of ?_ ?_)); all_goals try (conv=>whnf)
          · exact ⟨i + 1, ⟨⟨by omega, fun j hj => lt_succ_cases (p := fun j => f.terms[j]!.var = g.terms[j]!.var ∧ f.terms[j]!.coef = g.terms[j]!.coef) i2 ⟨by assumption, by assumption⟩ hj⟩, by show f.terms.length - (i + 1) < f.terms.length - i; omega⟩, [0], [], [], [], ⟨trivial, trivial, trivial⟩, ⟨at_ptr (by decide) rfl, at_imm rfl rfl, at_int rfl rfl, at_int rfl (by omega), trivial⟩, ⟨blk_box (by decide) rfl rfl rfl rfl rfl, trivial⟩, by simp [ren]⟩
          · exact givesV_to rfl (congrArg PV.bool (no fun e => h (by rw [e])))
        all_goals (exfalso; omega)
      · (repeat' (first|refine stp ?_|(with_reducible refine brr ?_ ?_<;>intro h)|(with_reducible refine nilImm_map ?_ ?_<;>intro h)|with_reducible refine anyb_of ?_ ?_)); all_goals try (conv=>whnf)
        all_goals try (exfalso; omega)
        exact givesV_to rfl (congrArg PV.bool (decide_eq_true (aff_ext hc hlen fun j hj => i2 j (by omega))).symm)
    · exact givesV_to rfl (congrArg PV.bool (no fun e => h (by rw [e])))
theorem ok_rlequal : FnOk Tryz.prog 103 Tryz.f103 (Tryz.f103.body.getD .skip) [.tmp 4] 57 := ⟨Tryz.func103, rfl, by decide, Tryz.ntmps103, Tryz.results103, by kernel_rfl, by kernel_rfl⟩
theorem c_rlequal (f g : AffL) (hf : okA 2097100 f) (hg : okA 2097100 g) : Fn 103 [encAff f, encAff g] (.data (.bool (decide (f = g)))) := by
  have no : ¬ f = g → false = decide (f = g) := fun h => (decide_eq_false h).symm
  have c1 := c_rqsame f.const g.const (by have := hf.1.2; omega) (by have := hf.1.2; omega) (by have := hg.1.2; omega) (by have := hg.1.2; omega)
  have l1 := hf.2.2
  have l2 := hg.2.2
  refine fnC_v hmix hT ok_rlequal (by simp [encAff]) ?_
  (repeat' (first|refine stp ?_|(with_reducible refine brr ?_ ?_<;>intro h)|(with_reducible refine nilImm_map ?_ ?_<;>intro h)|with_reducible refine anyb_of ?_ ?_)); all_goals try (conv=>whnf)
  · exact givesV_to rfl (congrArg PV.bool (no fun e => h (by rw [e])))
  · refine callV_data c1 rfl ?_
    (repeat' (first|refine stp ?_|(with_reducible refine brr ?_ ?_<;>intro h)|(with_reducible refine nilImm_map ?_ ?_<;>intro h)|with_reducible refine anyb_of ?_ ?_)); all_goals try (conv=>whnf)
    · have hc : f.const = g.const := by assumption
      have hlen : f.terms.length = g.terms.length := by omega
      refine loopV_kept hT (fun (i : Nat) => [(2, .ptr 0 0 0), (3, .ptr 1 0 0), (5, .int .i64 i)]) (fun _ => [(0, ⟨[encAff f], 4, true⟩), (1, ⟨[encAff g], 4, true⟩)]) [] 2
        (fun i => i ≤ f.terms.length ∧ ∀ j, j < i → f.terms[j]!.var = g.terms[j]!.var ∧ f.terms[j]!.coef = g.terms[j]!.coef) (fun i => f.terms.length - i) 0 ⟨Nat.zero_le _, fun j h => (by omega)⟩ (by decide) (by simp) ?_ ?_
      · exact ⟨[0, 1], [], [], [], ⟨trivial, trivial, trivial⟩, ⟨at_ptr (by decide) rfl, at_ptr (by decide) rfl, at_int rfl rfl, trivial⟩, ⟨blk_box (by decide) rfl rfl rfl rfl rfl, blk_box (by decide) rfl rfl rfl rfl rfl, trivial⟩, by simp [ren]⟩
      intro i ⟨i1, i2⟩
      by_cases hi : i < f.terms.length
      · have q1 := okA_get hf hi
        have q2 := okA_get hg (i := i) (by omega)
        have c2 := c_rqsame f.terms[i]!.coef g.terms[i]!.coef (by have := q1.2; omega) (by have := q1.2; omega) (by have := q2.2; omega) (by have := q2.2; omega)
        (repeat' (first|refine stp ?_|(with_reducible refine brr ?_ ?_<;>intro h)|(with_reducible refine nilImm_map ?_ ?_<;>intro h)|with_reducible refine anyb_of ?_ ?_)); all_goals try (conv=>whnf)
        · exact givesV_to rfl (congrArg PV.bool (no fun e => h (by rw [e])))
        · refine callV_data c2 rfl ?_
          (repeat' (first|refine stp ?_|(with_reducible refine brr ?_ ?_<;>intro h)|(with_reducible refine nilImm_map ?_ ?_<;>intro h)|with_reducible refine anyb_of ?_ ?_)); all_goals try (conv=>whnf)
          · exact ⟨i + 1, ⟨⟨by omega, fun j hj => lt_succ_cases (p := fun j => f.terms[j]!.var = g.terms[j]!.var ∧ f.terms[j]!.coef = g.terms[j]!.coef) i2 ⟨by assumption, by assumption⟩ hj⟩, by show f.terms.length - (i + 1) < f.terms.length - i; omega⟩, [0, 1], [], [], [], ⟨trivial, trivial, trivial⟩, ⟨at_ptr (by decide) rfl, at_ptr (by decide) rfl, at_int rfl (by omega), trivial⟩, ⟨blk_box (by decide) rfl rfl rfl rfl rfl, blk_box (by decide) rfl rfl rfl rfl rfl, trivial⟩, by simp [ren]⟩
          · exact givesV_to rfl (congrArg PV.bool (no fun e => h (by rw [e])))
        all_goals (exfalso; omega)
      · (repeat' (first|refine stp ?_|(with_reducible refine brr ?_ ?_<;>intro h)|(with_reducible refine nilImm_map ?_ ?_<;>intro h)|with_reducible refine anyb_of ?_ ?_)); all_goals try (conv=>whnf)
        all_goals try (exfalso; omega)
        exact givesV_to rfl (congrArg PV.bool (decide_eq_true (aff_ext hc hlen fun j hj => i2 j (by omega))).symm)
    · exact givesV_to rfl (congrArg PV.bool (no fun e => h (by rw [e])))
def okFs (k : Nat) (l : List AffL) : Prop := l.length ≤ 1048576 ∧ ∀ f ∈ l, okA k f
theorem ok_rlequalall : FnOk Tryz.prog 59 Tryz.f59 (Tryz.f59.body.getD .skip) [.tmp 4] 27 := ⟨Tryz.func59, rfl, by decide, Tryz.ntmps59, Tryz.results59, by kernel_rfl, by kernel_rfl⟩
theorem c_rlequalall (a b : List AffL) (ha : okFs 2097100 a) (hb : okFs 2097100 b) : Fn 59 [.imm (a.map encAff), .imm (b.map encAff)] (.data (.bool (decide (a = b)))) := by
  have no : ¬ a = b → false = decide (a = b) := fun h => (decide_eq_false h).symm
  have l1 := ha.1
  have l2 := hb.1
  refine fnC_v hmix hT ok_rlequalall (by simp) ?_
  (repeat' (first|refine stp ?_|(with_reducible refine brr ?_ ?_<;>intro h)|(with_reducible refine nilImm_map ?_ ?_<;>intro h)|with_reducible refine anyb_of ?_ ?_)); all_goals try (conv=>whnf)
  · exact givesV_to rfl (congrArg PV.bool (no fun e => h (by rw [e])))
  · have hlen : a.length = b.length := by omega
    refine loopV_slots hT (fun n : Nat => [(0, .imm (a.map encAff)), (1, .imm (b.map encAff)), (5, .int .i64 n)]) (fun n => n ≤ a.length ∧ ∀ j, j < n → a[j]! = b[j]!) (fun n => a.length - n) 0 ⟨by omega, fun j hj => by omega⟩ ?_ ?_
    · exact ⟨at_imm rfl rfl, at_imm rfl rfl, at_int rfl rfl, trivial⟩
    intro n ⟨hn, he⟩
    by_cases hi : n < a.length
    · have cc := c_rlequal a[n]! b[n]! (ha.2 _ (get_mem hi)) (hb.2 _ (get_mem (by omega)))
      (repeat' (first|refine stp ?_|(with_reducible refine brr ?_ ?_<;>intro h)|(with_reducible refine nilImm_map ?_ ?_<;>intro h)|with_reducible refine anyb_of ?_ ?_)); all_goals try (conv=>whnf)
      · refine callV_data cc rfl ?_
        (repeat' (first|refine stp ?_|(with_reducible refine brr ?_ ?_<;>intro h)|(with_reducible refine nilImm_map ?_ ?_<;>intro h)|with_reducible refine anyb_of ?_ ?_)); all_goals try (conv=>whnf)
        · exact ⟨n + 1, ⟨⟨by omega, fun j hj => lt_succ_cases (p := fun j => a[j]! = b[j]!) he (by assumption) hj⟩, by omega⟩, at_imm rfl rfl, at_imm rfl rfl, at_int rfl (by omega), trivial⟩
        · exact givesV_to rfl (congrArg PV.bool (no fun e => h (by rw [e])))
      all_goals (exfalso; omega)
    · (repeat' (first|refine stp ?_|(with_reducible refine brr ?_ ?_<;>intro h)|(with_reducible refine nilImm_map ?_ ?_<;>intro h)|with_reducible refine anyb_of ?_ ?_)); all_goals try (conv=>whnf)
      all_goals try (exfalso; omega)
      exact givesV_to rfl (congrArg PV.bool (decide_eq_true (list_eq_of hlen fun j hj => he j (by omega))).symm)
theorem ok_sameall : FnOk Tryz.prog 39 Tryz.f39 (Tryz.f39.body.getD .skip) [.tmp 4] 27 := ⟨Tryz.func39, rfl, by decide, Tryz.ntmps39, Tryz.results39, by kernel_rfl, by kernel_rfl⟩
theorem c_sameall (a b : List RatL) (ha : okLs 2097100 a) (hb : okLs 2097100 b) : Fn 39 [.imm (a.map encRat), .imm (b.map encRat)] (.data (.bool (decide (a = b)))) := by
  have no : ¬ a = b → false = decide (a = b) := fun h => (decide_eq_false h).symm
  have l1 := ha.1
  have l2 := hb.1
  refine fnC_v hmix hT ok_sameall (by simp) ?_
  (repeat' (first|refine stp ?_|(with_reducible refine brr ?_ ?_<;>intro h)|(with_reducible refine nilImm_map ?_ ?_<;>intro h)|with_reducible refine anyb_of ?_ ?_)); all_goals try (conv=>whnf)
  · exact givesV_to rfl (congrArg PV.bool (no fun e => h (by rw [e])))
  · have hlen : a.length = b.length := by omega
    refine loopV_slots hT (fun n : Nat => [(0, .imm (a.map encRat)), (1, .imm (b.map encRat)), (5, .int .i64 n)]) (fun n => n ≤ a.length ∧ ∀ j, j < n → a[j]! = b[j]!) (fun n => a.length - n) 0 ⟨by omega, fun j hj => by omega⟩ ?_ ?_
    · exact ⟨at_imm rfl rfl, at_imm rfl rfl, at_int rfl rfl, trivial⟩
    intro n ⟨hn, he⟩
    by_cases hi : n < a.length
    · have q1 := (okLs_get ha hi).2
      have q2 := (okLs_get hb (i := n) (by omega)).2
      have cc := c_rqsame a[n]! b[n]! (by omega) (by omega) (by omega) (by omega)
      (repeat' (first|refine stp ?_|(with_reducible refine brr ?_ ?_<;>intro h)|(with_reducible refine nilImm_map ?_ ?_<;>intro h)|with_reducible refine anyb_of ?_ ?_)); all_goals try (conv=>whnf)
      · refine callV_data cc rfl ?_
        (repeat' (first|refine stp ?_|(with_reducible refine brr ?_ ?_<;>intro h)|(with_reducible refine nilImm_map ?_ ?_<;>intro h)|with_reducible refine anyb_of ?_ ?_)); all_goals try (conv=>whnf)
        · exact ⟨n + 1, ⟨⟨by omega, fun j hj => lt_succ_cases (p := fun j => a[j]! = b[j]!) he (by assumption) hj⟩, by omega⟩, at_imm rfl rfl, at_imm rfl rfl, at_int rfl (by omega), trivial⟩
        · exact givesV_to rfl (congrArg PV.bool (no fun e => h (by rw [e])))
      all_goals (exfalso; omega)
    · (repeat' (first|refine stp ?_|(with_reducible refine brr ?_ ?_<;>intro h)|(with_reducible refine nilImm_map ?_ ?_<;>intro h)|with_reducible refine anyb_of ?_ ?_)); all_goals try (conv=>whnf)
      all_goals try (exfalso; omega)
      exact givesV_to rfl (congrArg PV.bool (decide_eq_true (list_eq_of hlen fun j hj => he j (by omega))).symm)
def canAt (l : List RatL) : Prop := ∀ i, i < l.length → l[i]! = cr (qv l[i]!)
theorem ok_validall : FnOk Tryz.prog 51 Tryz.f51 (Tryz.f51.body.getD .skip) [.tmp 2] 16 := ⟨Tryz.func51, rfl, by decide, Tryz.ntmps51, Tryz.results51, by kernel_rfl, by kernel_rfl⟩
theorem c_validall (l : List RatL) (hl : okLs 2097100 l) : Fn 51 [.imm (l.map encRat)] (.data (.bool (dB (canAt l)))) := by
  have l1 := hl.1
  refine fnC_v hmix hT ok_validall (by simp) ?_
  (repeat' (first|refine stp ?_|(with_reducible refine brr ?_ ?_<;>intro h)|(with_reducible refine nilImm_map ?_ ?_<;>intro h)|with_reducible refine anyb_of ?_ ?_)); all_goals try (conv=>whnf)
  refine loopV_slots hT (fun n : Nat => [(0, .imm (l.map encRat)), (3, .int .i64 n)]) (fun n => n ≤ l.length ∧ ∀ j, j < n → l[j]! = cr (qv l[j]!)) (fun n => l.length - n) 0 ⟨by omega, fun j hj => by omega⟩ ?_ ?_
  · exact ⟨at_imm rfl rfl, at_int rfl rfl, trivial⟩
  intro n ⟨hn, he⟩
  by_cases hi : n < l.length
  · have q1 := okLs_get hl hi
    have cc := c_rqvalid l[n]! q1.1 (by have := q1.2; omega) (by have := q1.2; omega)
    (repeat' (first|refine stp ?_|(with_reducible refine brr ?_ ?_<;>intro h)|(with_reducible refine nilImm_map ?_ ?_<;>intro h)|with_reducible refine anyb_of ?_ ?_)); all_goals try (conv=>whnf)
    · refine callV_data cc rfl ?_
      (repeat' (first|refine stp ?_|(with_reducible refine brr ?_ ?_<;>intro h)|(with_reducible refine nilImm_map ?_ ?_<;>intro h)|with_reducible refine anyb_of ?_ ?_)); all_goals try (conv=>whnf)
      · exact ⟨n + 1, ⟨⟨by omega, fun j hj => lt_succ_cases (p := fun j => l[j]! = cr (qv l[j]!)) he (by assumption) hj⟩, by omega⟩, at_imm rfl rfl, at_int rfl (by omega), trivial⟩
      · exact givesV_to rfl (congrArg PV.bool (dB_no fun e => h (e n hi)))
    all_goals (exfalso; omega)
  · (repeat' (first|refine stp ?_|(with_reducible refine brr ?_ ?_<;>intro h)|(with_reducible refine nilImm_map ?_ ?_<;>intro h)|with_reducible refine anyb_of ?_ ?_)); all_goals try (conv=>whnf)
    all_goals try (exfalso; omega)
    exact givesV_to rfl (congrArg PV.bool (dB_yes fun j hj => he j (by omega)))
def valAll (l : List AffL) (n : Int) : Prop := ∀ i, i < l.length → ValidF l[i]! n
theorem ok_rlvalidall : FnOk Tryz.prog 52 Tryz.f52 (Tryz.f52.body.getD .skip) [.tmp 4] 19 := ⟨Tryz.func52, rfl, by decide, Tryz.ntmps52, Tryz.results52, by kernel_rfl, by kernel_rfl⟩
theorem c_rlvalidall (l : List AffL) (m : Int) (hl : okFs 2097100 l) : Fn 52 [.imm (l.map encAff), .int .i64 m] (.data (.bool (dB (valAll l m)))) := by
  have l1 := hl.1
  refine fnC_v hmix hT ok_rlvalidall (by simp) ?_
  (repeat' (first|refine stp ?_|(with_reducible refine brr ?_ ?_<;>intro h)|(with_reducible refine nilImm_map ?_ ?_<;>intro h)|with_reducible refine anyb_of ?_ ?_)); all_goals try (conv=>whnf)
  refine loopV_slots hT (fun n : Nat => [(0, .imm (l.map encAff)), (1, .int .i64 m), (5, .int .i64 n)]) (fun n => n ≤ l.length ∧ ∀ j, j < n → ValidF l[j]! m) (fun n => l.length - n) 0 ⟨by omega, fun j hj => by omega⟩ ?_ ?_
  · exact ⟨at_imm rfl rfl, at_int rfl rfl, at_int rfl rfl, trivial⟩
  intro n ⟨hn, he⟩
  by_cases hi : n < l.length
  · have cc := c_rlvalid l[n]! m (hl.2 _ (get_mem hi))
    (repeat' (first|refine stp ?_|(with_reducible refine brr ?_ ?_<;>intro h)|(with_reducible refine nilImm_map ?_ ?_<;>intro h)|with_reducible refine anyb_of ?_ ?_)); all_goals try (conv=>whnf)
    · refine callV_data cc rfl ?_
      (repeat' (first|refine stp ?_|(with_reducible refine brr ?_ ?_<;>intro h)|(with_reducible refine nilImm_map ?_ ?_<;>intro h)|with_reducible refine anyb_of ?_ ?_)); all_goals try (conv=>whnf)
      · exact ⟨n + 1, ⟨⟨by omega, fun j hj => lt_succ_cases (p := fun j => ValidF l[j]! m) he (validB_true.1 (by assumption)) hj⟩, by omega⟩, at_imm rfl rfl, at_int rfl rfl, at_int rfl (by omega), trivial⟩
      · exact givesV_to rfl (congrArg PV.bool (dB_no fun e => by have := validB_true.2 (e n hi); simp_all))
    all_goals (exfalso; omega)
  · (repeat' (first|refine stp ?_|(with_reducible refine brr ?_ ?_<;>intro h)|(with_reducible refine nilImm_map ?_ ?_<;>intro h)|with_reducible refine anyb_of ?_ ?_)); all_goals try (conv=>whnf)
    all_goals try (exfalso; omega)
    exact givesV_to rfl (congrArg PV.bool (dB_yes fun j hj => he j (by omega)))
/-- Where the first form is that a test accepts. -/
def ixP (p : AffL → Bool) (l : List AffL) : Int := if l.any p then (l.findIdx p : Nat) else -1
theorem ix_hit {p : AffL → Bool} {l : List AffL} {i : Nat} (hi : i < l.length) (h : p l[i]! = true) (hb : ∀ j, j < i → p l[j]! = false) : (i : Int) = ixP p l := by
  have h1 : l.any p = true := List.any_eq_true.2 ⟨_, get_mem hi, h⟩
  have h2 : l.findIdx p = i := (List.findIdx_eq hi).2 ⟨by rw [getElem!_pos l i hi] at h; exact h, fun j hj => by have := hb j hj; rw [getElem!_pos l j (by omega)] at this; exact this⟩
  unfold ixP; rw [if_pos h1, h2]
theorem ix_end {p : AffL → Bool} {l : List AffL} (hb : ∀ j, j < l.length → p l[j]! = false) : -1 = ixP p l := by
  have h1 : ¬ l.any p = true := fun e => by
    obtain ⟨x, hx, e⟩ := List.any_eq_true.1 e
    obtain ⟨j, hj, rfl⟩ := List.getElem_of_mem hx
    have := hb j hj
    rw [getElem!_pos l j hj, e] at this; cases this
  unfold ixP; rw [if_neg h1]
theorem ix_ge {p : AffL → Bool} {l : List AffL} : decide (ixP p l ≥ 0) = l.any p := by
  unfold ixP; split
  · rename_i h; rw [h]; simp
  · rename_i h; simp at h; simp; exact h
theorem ixP_ge {p : AffL → Bool} {l : List AffL} : -1 ≤ ixP p l ∧ ixP p l ≤ l.length := by
  unfold ixP; split
  · have := List.findIdx_le_length (p := p) (xs := l); omega
  · omega
theorem ok_indexf : FnOk Tryz.prog 99 Tryz.f99 (Tryz.f99.body.getD .skip) [.tmp 4] 19 := ⟨Tryz.func99, rfl, by decide, Tryz.ntmps99, Tryz.results99, by kernel_rfl, by kernel_rfl⟩
theorem c_indexf (l : List AffL) (p : AffL → Bool) (g : FuncId) (c : PV) (hl : l.length ≤ 1048576) (hp : ∀ f ∈ l, Fn g [encAff f, .cptr c 0] (.data (.bool (p f)))) : Fn 99 [.imm (l.map encAff), .func (.func g) [] [.cptr c 0]] (.data (.int .i64 (ixP p l))) := by
  refine fnC_v hmix hT ok_indexf (by simp) ?_
  (repeat' (first|refine stp ?_|(with_reducible refine brr ?_ ?_<;>intro h)|(with_reducible refine nilImm_map ?_ ?_<;>intro h)|with_reducible refine anyb_of ?_ ?_)); all_goals try (conv=>whnf)
  refine loopV_slots hT (fun n : Nat => [(0, .imm (l.map encAff)), (1, .func (.func g) [] [.cptr c 0]), (7, .int .i64 l.length), (8, .int .i64 n)]) (fun n => n ≤ l.length ∧ ∀ j, j < n → p l[j]! = false) (fun n => l.length - n) 0 ⟨by omega, fun j hj => by omega⟩ ?_ ?_
  · exact ⟨at_imm rfl rfl, at_fun1c rfl, at_int rfl (by simp), at_int rfl rfl, trivial⟩
  intro n ⟨hn, he⟩
  by_cases hi : n < l.length
  · have cc := hp l[n]! (get_mem hi)
    (repeat' (first|refine stp ?_|(with_reducible refine brr ?_ ?_<;>intro h)|(with_reducible refine nilImm_map ?_ ?_<;>intro h)|with_reducible refine anyb_of ?_ ?_)); all_goals try (conv=>whnf)
    · refine callV_data cc rfl ?_
      (repeat' (first|refine stp ?_|(with_reducible refine brr ?_ ?_<;>intro h)|(with_reducible refine nilImm_map ?_ ?_<;>intro h)|with_reducible refine anyb_of ?_ ?_)); all_goals try (conv=>whnf)
      · exact givesV_to rfl (congrArg (PV.int .i64) (ix_hit hi h he))
      · exact ⟨n + 1, ⟨⟨by omega, fun j hj => lt_succ_cases (p := fun j => p l[j]! = false) he (by simpa using h) hj⟩, by omega⟩, at_imm rfl rfl, at_fun1c rfl, at_int rfl rfl, at_int rfl (by omega), trivial⟩
    all_goals (exfalso; omega)
  · (repeat' (first|refine stp ?_|(with_reducible refine brr ?_ ?_<;>intro h)|(with_reducible refine nilImm_map ?_ ?_<;>intro h)|with_reducible refine anyb_of ?_ ?_)); all_goals try (conv=>whnf)
    all_goals try (exfalso; omega)
    exact givesV_to rfl (congrArg (PV.int .i64) (ix_end fun j hj => he j (by omega)))
theorem ok_containsf : FnOk Tryz.prog 48 Tryz.f48 (Tryz.f48.body.getD .skip) [.tmp 4] 9 := ⟨Tryz.func48, rfl, by decide, Tryz.ntmps48, Tryz.results48, by kernel_rfl, by kernel_rfl⟩
theorem c_containsf (l : List AffL) (p : AffL → Bool) (g : FuncId) (c : PV) (hl : l.length ≤ 1048576) (hp : ∀ f ∈ l, Fn g [encAff f, .cptr c 0] (.data (.bool (p f)))) : Fn 48 [.imm (l.map encAff), .func (.func g) [] [.cptr c 0]] (.data (.bool (l.any p))) := by
  have cc := c_indexf l p g c hl hp
  have hg := ixP_ge (p := p) (l := l)
  refine fnC_v hmix hT ok_containsf (by simp) ?_
  (repeat' (first|refine stp ?_|(with_reducible refine brr ?_ ?_<;>intro h)|(with_reducible refine nilImm_map ?_ ?_<;>intro h)|with_reducible refine anyb_of ?_ ?_)); all_goals try (conv=>whnf)
  refine callV_data cc rfl ?_
  (repeat' (first|refine stp ?_|(with_reducible refine brr ?_ ?_<;>intro h)|(with_reducible refine nilImm_map ?_ ?_<;>intro h)|with_reducible refine anyb_of ?_ ?_)); all_goals try (conv=>whnf)
  exact givesV_to rfl (congrArg PV.bool ix_ge)
theorem ok_equalf : FnOk Tryz.prog 75 Tryz.f75 (Tryz.f75.body.getD .skip) [.tmp 6] 32 := ⟨Tryz.func75, rfl, by decide, Tryz.ntmps75, Tryz.results75, by kernel_rfl, by kernel_rfl⟩
theorem c_equalf (a b : List AffL) (ha : okFs 2097100 a) (hb : okFs 2097100 b) : Fn 75 [.imm (a.map encAff), .imm (b.map encAff), .func (.func 76) [] []] (.data (.bool (decide (a = b)))) := by
  have no : ¬ a = b → false = decide (a = b) := fun h => (decide_eq_false h).symm
  have l1 := ha.1
  have l2 := hb.1
  refine fnC_v hmix hT ok_equalf (by simp) ?_
  (repeat' (first|refine stp ?_|(with_reducible refine brr ?_ ?_<;>intro h)|(with_reducible refine nilImm_map ?_ ?_<;>intro h)|with_reducible refine anyb_of ?_ ?_)); all_goals try (conv=>whnf)
  · exact givesV_to rfl (congrArg PV.bool (no fun e => h (by rw [e])))
  · have hlen : a.length = b.length := by omega
    refine loopV_slots hT (fun n : Nat => [(1, .imm (b.map encAff)), (2, .func (.func 76) [] []), (15, .imm (a.map encAff)), (16, .int .i64 a.length), (17, .int .i64 n)]) (fun n => n ≤ a.length ∧ ∀ j, j < n → a[j]! = b[j]!) (fun n => a.length - n) 0 ⟨by omega, fun j hj => by omega⟩ ?_ ?_
    · exact ⟨at_imm rfl rfl, at_fun0 rfl, at_imm rfl rfl, at_int rfl (by simp), at_int rfl rfl, trivial⟩
    intro n ⟨hn, he⟩
    by_cases hi : n < a.length
    · have cc := c_lequal a[n]! b[n]! (ha.2 _ (get_mem hi)) (hb.2 _ (get_mem (by omega)))
      (repeat' (first|refine stp ?_|(with_reducible refine brr ?_ ?_<;>intro h)|(with_reducible refine nilImm_map ?_ ?_<;>intro h)|with_reducible refine anyb_of ?_ ?_)); all_goals try (conv=>whnf)
      · refine callV_data cc rfl ?_
        (repeat' (first|refine stp ?_|(with_reducible refine brr ?_ ?_<;>intro h)|(with_reducible refine nilImm_map ?_ ?_<;>intro h)|with_reducible refine anyb_of ?_ ?_)); all_goals try (conv=>whnf)
        · exact ⟨n + 1, ⟨⟨by omega, fun j hj => lt_succ_cases (p := fun j => a[j]! = b[j]!) he (by assumption) hj⟩, by omega⟩, at_imm rfl rfl, at_fun0 rfl, at_imm rfl rfl, at_int rfl rfl, at_int rfl (by omega), trivial⟩
        · exact givesV_to rfl (congrArg PV.bool (no fun e => h (by rw [e])))
      all_goals (exfalso; omega)
    · (repeat' (first|refine stp ?_|(with_reducible refine brr ?_ ?_<;>intro h)|(with_reducible refine nilImm_map ?_ ?_<;>intro h)|with_reducible refine anyb_of ?_ ?_)); all_goals try (conv=>whnf)
      all_goals try (exfalso; omega)
      exact givesV_to rfl (congrArg PV.bool (decide_eq_true (list_eq_of hlen fun j hj => he j (by omega))).symm)
end Go.PI.Tryz
namespace Go.PI.Tryz
set_option linter.unnecessarySimpa false
open Go.Proofs Go.PI
set_option linter.unusedSimpArgs false
set_option linter.unusedVariables false
theorem take_snoc {ys : List Rat} {i : Nat} (h : i < ys.length) : (ys.take i).map encX ++ [encRat (cr ys[i]!)] = (ys.take (i + 1)).map encX := by
  rw [List.take_succ_eq_append_getElem h, List.map_append, getElem!_pos ys i h]; rfl
theorem ok_each : FnOk Tryz.prog 53 Tryz.f53 (Tryz.f53.body.getD .skip) [.tmp 4] 20 := ⟨Tryz.func53, rfl, by decide, Tryz.ntmps53, Tryz.results53, by kernel_rfl, by kernel_rfl⟩
theorem c_each1 (ys : List Rat) (g : FuncId) (c : PV) (k : Nat) (hk : k ≤ 2097100) (hl : ys.length ≤ 1048576) (hp : ∀ i, i < ys.length → ∃ x, okQ k x ∧ qv x = ys[i]! ∧ Fn g [.int .i64 i, .cptr c 0] (.data (encRat x))) : Fn 53 [.int .i64 ys.length, .func (.func g) [] [.cptr c 0]] (.data (.imm (ys.map encX))) := by
  refine fnC_v hmix hT ok_each (by simp) ?_
  (repeat' (first|refine stp ?_|(with_reducible refine brr ?_ ?_<;>intro h)|(with_reducible refine nilImm_map ?_ ?_<;>intro h)|with_reducible refine anyb_of ?_ ?_)); all_goals try (conv=>whnf)
  refine loopV_grow hT [(.sl 5, 3, true)] (fun (i : Nat) => [(1, .func (.func g) [] [.cptr c 0]), (5, .own 0 0 i), (7, .int .i64 ys.length), (8, .int .i64 i)]) (fun i => [(0, ⟨(ys.take i).map encX, 3, true⟩)]) [] 1
    (fun i => i ≤ ys.length) (fun i => ys.length - i) 0 (Nat.zero_le _) (by decide) (by simp) ⟨rfl, trivial⟩ ?_ ?_
  · exact ⟨[_], [], [], [], ⟨trivial, trivial, trivial⟩, ⟨at_fun1c rfl, at_own (by decide) rfl rfl, at_int rfl rfl, at_int rfl rfl, trivial⟩, ⟨blk_row (by decide) rfl rfl (nr_map fun _ => ⟨rfl, by simp [encX, encRat]⟩) rfl, trivial⟩, by simp [ren]⟩
  intro i i1
  have hlen : (ys.take i).length = i := by rw [List.length_take]; omega
  by_cases hi : i < ys.length
  · obtain ⟨x, hx, hv, hc⟩ := hp i hi
    have cc := c_qcanon x hx.1 (by have := hx.2; omega) (by have := hx.2; omega)
    rw [hv] at cc
    (repeat' (first|refine stp ?_|(with_reducible refine brr ?_ ?_<;>intro h)|(with_reducible refine nilImm_map ?_ ?_<;>intro h)|with_reducible refine anyb_of ?_ ?_)); all_goals try (conv=>whnf)
    · refine callV_data hc rfl ?_
      (repeat' (first|refine stp ?_|(with_reducible refine brr ?_ ?_<;>intro h)|(with_reducible refine nilImm_map ?_ ?_<;>intro h)|with_reducible refine anyb_of ?_ ?_)); all_goals try (conv=>whnf)
      refine callV_data cc rfl ?_
      (repeat' (first|refine stp ?_|(with_reducible refine brr ?_ ?_<;>intro h)|(with_reducible refine nilImm_map ?_ ?_<;>intro h)|with_reducible refine anyb_of ?_ ?_)); all_goals try (conv=>whnf)
      exact ⟨i + 1, ⟨by omega, by show ys.length - (i + 1) < ys.length - i; omega⟩, [_], [], [], [], ⟨trivial, trivial, trivial⟩, ⟨at_fun1c rfl, at_own (by decide) rfl rfl, at_int rfl rfl, at_int rfl rfl, trivial⟩, ⟨blk_row (by decide) rfl (take_snoc hi) (nr_map fun _ => ⟨rfl, by simp [encX, encRat]⟩) rfl, trivial⟩, by simp [ren]⟩
    all_goals (exfalso; omega)
  · (repeat' (first|refine stp ?_|(with_reducible refine brr ?_ ?_<;>intro h)|(with_reducible refine nilImm_map ?_ ?_<;>intro h)|with_reducible refine anyb_of ?_ ?_)); all_goals try (conv=>whnf)
    all_goals try (exfalso; omega)
    exact givesV_to (frz_own_map rfl rfl (by omega) fun q => frz_rat (cr q)) (by rw [List.take_of_length_le (by omega)])
theorem c_each2 (ys : List Rat) (g : FuncId) (c d : PV) (k : Nat) (hk : k ≤ 2097100) (hl : ys.length ≤ 1048576) (hp : ∀ i, i < ys.length → ∃ x, okQ k x ∧ qv x = ys[i]! ∧ Fn g [.int .i64 i, .cptr c 0, .cptr d 0] (.data (encRat x))) : Fn 53 [.int .i64 ys.length, .func (.func g) [] [.cptr c 0, .cptr d 0]] (.data (.imm (ys.map encX))) := by
  refine fnC_v hmix hT ok_each (by simp) ?_
  (repeat' (first|refine stp ?_|(with_reducible refine brr ?_ ?_<;>intro h)|(with_reducible refine nilImm_map ?_ ?_<;>intro h)|with_reducible refine anyb_of ?_ ?_)); all_goals try (conv=>whnf)
  refine loopV_grow hT [(.sl 5, 3, true)] (fun (i : Nat) => [(1, .func (.func g) [] [.cptr c 0, .cptr d 0]), (5, .own 0 0 i), (7, .int .i64 ys.length), (8, .int .i64 i)]) (fun i => [(0, ⟨(ys.take i).map encX, 3, true⟩)]) [] 1
    (fun i => i ≤ ys.length) (fun i => ys.length - i) 0 (Nat.zero_le _) (by decide) (by simp) ⟨rfl, trivial⟩ ?_ ?_
  · exact ⟨[_], [], [], [], ⟨trivial, trivial, trivial⟩, ⟨at_fun2c rfl, at_own (by decide) rfl rfl, at_int rfl rfl, at_int rfl rfl, trivial⟩, ⟨blk_row (by decide) rfl rfl (nr_map fun _ => ⟨rfl, by simp [encX, encRat]⟩) rfl, trivial⟩, by simp [ren]⟩
  intro i i1
  have hlen : (ys.take i).length = i := by rw [List.length_take]; omega
  by_cases hi : i < ys.length
  · obtain ⟨x, hx, hv, hc⟩ := hp i hi
    have cc := c_qcanon x hx.1 (by have := hx.2; omega) (by have := hx.2; omega)
    rw [hv] at cc
    (repeat' (first|refine stp ?_|(with_reducible refine brr ?_ ?_<;>intro h)|(with_reducible refine nilImm_map ?_ ?_<;>intro h)|with_reducible refine anyb_of ?_ ?_)); all_goals try (conv=>whnf)
    · refine callV_data hc rfl ?_
      (repeat' (first|refine stp ?_|(with_reducible refine brr ?_ ?_<;>intro h)|(with_reducible refine nilImm_map ?_ ?_<;>intro h)|with_reducible refine anyb_of ?_ ?_)); all_goals try (conv=>whnf)
      refine callV_data cc rfl ?_
      (repeat' (first|refine stp ?_|(with_reducible refine brr ?_ ?_<;>intro h)|(with_reducible refine nilImm_map ?_ ?_<;>intro h)|with_reducible refine anyb_of ?_ ?_)); all_goals try (conv=>whnf)
      exact ⟨i + 1, ⟨by omega, by show ys.length - (i + 1) < ys.length - i; omega⟩, [_], [], [], [], ⟨trivial, trivial, trivial⟩, ⟨at_fun2c rfl, at_own (by decide) rfl rfl, at_int rfl rfl, at_int rfl rfl, trivial⟩, ⟨blk_row (by decide) rfl (take_snoc hi) (nr_map fun _ => ⟨rfl, by simp [encX, encRat]⟩) rfl, trivial⟩, by simp [ren]⟩
    all_goals (exfalso; omega)
  · (repeat' (first|refine stp ?_|(with_reducible refine brr ?_ ?_<;>intro h)|(with_reducible refine nilImm_map ?_ ?_<;>intro h)|with_reducible refine anyb_of ?_ ?_)); all_goals try (conv=>whnf)
    all_goals try (exfalso; omega)
    exact givesV_to (frz_own_map rfl rfl (by omega) fun q => frz_rat (cr q)) (by rw [List.take_of_length_le (by omega)])
theorem c_each3 (ys : List Rat) (g : FuncId) (c d e : PV) (k : Nat) (hk : k ≤ 2097100) (hl : ys.length ≤ 1048576) (hp : ∀ i, i < ys.length → ∃ x, okQ k x ∧ qv x = ys[i]! ∧ Fn g [.int .i64 i, .cptr c 0, .cptr d 0, .cptr e 0] (.data (encRat x))) : Fn 53 [.int .i64 ys.length, .func (.func g) [] [.cptr c 0, .cptr d 0, .cptr e 0]] (.data (.imm (ys.map encX))) := by
  refine fnC_v hmix hT ok_each (by simp) ?_
  (repeat' (first|refine stp ?_|(with_reducible refine brr ?_ ?_<;>intro h)|(with_reducible refine nilImm_map ?_ ?_<;>intro h)|with_reducible refine anyb_of ?_ ?_)); all_goals try (conv=>whnf)
  refine loopV_grow hT [(.sl 5, 3, true)] (fun (i : Nat) => [(1, .func (.func g) [] [.cptr c 0, .cptr d 0, .cptr e 0]), (5, .own 0 0 i), (7, .int .i64 ys.length), (8, .int .i64 i)]) (fun i => [(0, ⟨(ys.take i).map encX, 3, true⟩)]) [] 1
    (fun i => i ≤ ys.length) (fun i => ys.length - i) 0 (Nat.zero_le _) (by decide) (by simp) ⟨rfl, trivial⟩ ?_ ?_
  · exact ⟨[_], [], [], [], ⟨trivial, trivial, trivial⟩, ⟨at_fun3c rfl, at_own (by decide) rfl rfl, at_int rfl rfl, at_int rfl rfl, trivial⟩, ⟨blk_row (by decide) rfl rfl (nr_map fun _ => ⟨rfl, by simp [encX, encRat]⟩) rfl, trivial⟩, by simp [ren]⟩
  intro i i1
  have hlen : (ys.take i).length = i := by rw [List.length_take]; omega
  by_cases hi : i < ys.length
  · obtain ⟨x, hx, hv, hc⟩ := hp i hi
    have cc := c_qcanon x hx.1 (by have := hx.2; omega) (by have := hx.2; omega)
    rw [hv] at cc
    (repeat' (first|refine stp ?_|(with_reducible refine brr ?_ ?_<;>intro h)|(with_reducible refine nilImm_map ?_ ?_<;>intro h)|with_reducible refine anyb_of ?_ ?_)); all_goals try (conv=>whnf)
    · refine callV_data hc rfl ?_
      (repeat' (first|refine stp ?_|(with_reducible refine brr ?_ ?_<;>intro h)|(with_reducible refine nilImm_map ?_ ?_<;>intro h)|with_reducible refine anyb_of ?_ ?_)); all_goals try (conv=>whnf)
      refine callV_data cc rfl ?_
      (repeat' (first|refine stp ?_|(with_reducible refine brr ?_ ?_<;>intro h)|(with_reducible refine nilImm_map ?_ ?_<;>intro h)|with_reducible refine anyb_of ?_ ?_)); all_goals try (conv=>whnf)
      exact ⟨i + 1, ⟨by omega, by show ys.length - (i + 1) < ys.length - i; omega⟩, [_], [], [], [], ⟨trivial, trivial, trivial⟩, ⟨at_fun3c rfl, at_own (by decide) rfl rfl, at_int rfl rfl, at_int rfl rfl, trivial⟩, ⟨blk_row (by decide) rfl (take_snoc hi) (nr_map fun _ => ⟨rfl, by simp [encX, encRat]⟩) rfl, trivial⟩, by simp [ren]⟩
    all_goals (exfalso; omega)
  · (repeat' (first|refine stp ?_|(with_reducible refine brr ?_ ?_<;>intro h)|(with_reducible refine nilImm_map ?_ ?_<;>intro h)|with_reducible refine anyb_of ?_ ?_)); all_goals try (conv=>whnf)
    all_goals try (exfalso; omega)
    exact givesV_to (frz_own_map rfl rfl (by omega) fun q => frz_rat (cr q)) (by rw [List.take_of_length_le (by omega)])
end Go.PI.Tryz
namespace Go.PI.Tryz
set_option linter.unnecessarySimpa false
open Go.Proofs Go.PI
set_option linter.unusedSimpArgs false
set_option linter.unusedVariables false
theorem ok_rgv1 : FnOk Tryz.prog 49 Tryz.f49 (Tryz.f49.body.getD .skip) [.tmp 3] 8 := ⟨Tryz.func49, rfl, by decide, Tryz.ntmps49, Tryz.results49, by kernel_rfl, by kernel_rfl⟩
theorem c_rgv1 (f : AffL) (n : Int) (hf : okA 2097100 f) : Fn 49 [encAff f, .cptr (.int .i64 n) 0] (.data (.bool (!validB f n))) := by
  have cc := c_lvalid f n hf
  refine fnC_v hmix hT ok_rgv1 (by simp) ?_
  (repeat' (first|refine stp ?_|(with_reducible refine brr ?_ ?_<;>intro h)|(with_reducible refine nilImm_map ?_ ?_<;>intro h)|with_reducible refine anyb_of ?_ ?_)); all_goals try (conv=>whnf)
  refine callV_data cc rfl ?_
  (repeat' (first|refine stp ?_|(with_reducible refine brr ?_ ?_<;>intro h)|(with_reducible refine nilImm_map ?_ ?_<;>intro h)|with_reducible refine anyb_of ?_ ?_)); all_goals try (conv=>whnf)
  exact givesV_to rfl rfl
theorem ok_rgvalid : FnOk Tryz.prog 13 Tryz.f13 (Tryz.f13.body.getD .skip) [.tmp 4] 69 := ⟨Tryz.func13, rfl, by decide, Tryz.ntmps13, Tryz.results13, by kernel_rfl, by kernel_rfl⟩
theorem c_rgvalid (r : RegL) (n : Int) (hr : okReg 400000 r) : Fn 13 [encReg r, .int .i64 n] (.data (.bool (dB (VaR r n)))) := by
  obtain ⟨hlo, hhi, hrw, hrl⟩ := hr
  have no : ¬ VaR r n → false = dB (VaR r n) := dB_no
  have l1 := hlo.1
  have l2 := hhi.1
  have cc := c_containsf r.rows (fun f => !validB f n) 49 (.int .i64 n) hrl (fun f hf => c_rgv1 f n (okA_le (by decide) (hrw f hf)))
  refine fnC_v hmix hT ok_rgvalid (by simp [encReg]) ?_
  (repeat' (first|refine stp ?_|(with_reducible refine brr ?_ ?_<;>intro h)|(with_reducible refine nilImm_map ?_ ?_<;>intro h)|with_reducible refine anyb_of ?_ ?_)); all_goals try (conv=>whnf)
  · exact givesV_to rfl (congrArg PV.bool (no fun e => by have := e.1.1; omega))
  · exact givesV_to rfl (congrArg PV.bool (no fun e => by have := e.1.2; omega))
  · exact givesV_to rfl (congrArg PV.bool (no fun e => by have := e.2.1; omega))
  · exact givesV_to rfl (congrArg PV.bool (no fun e => by have := e.2.2.1; omega))
  · exact givesV_to rfl (congrArg PV.bool (no fun e => by have := e.2.2.2.1; omega))
  · have h0 : (1 ≤ n ∧ n ≤ 256) ∧ (r.lo.length : Int) = n ∧ (r.hi.length : Int) = n ∧ r.rows.length ≤ 256 := ⟨⟨by omega, by omega⟩, by omega, by omega, by omega⟩
    obtain ⟨h1, h2, h3, h4⟩ := h0
    refine loopV_kept hT (fun (i : Nat) => [(2, .ptr 0 0 0), (3, .ptr 1 0 0), (34, .imm (r.lo.map encRat)), (35, .int .i64 r.lo.length), (36, .int .i64 i)]) (fun _ => [(0, ⟨[encReg r], 3, true⟩), (1, ⟨[.int .i64 n], 1, false⟩)]) [] 2
      (fun i => i ≤ r.lo.length ∧ ∀ j, j < i → okBd r j) (fun i => r.lo.length - i) 0 ⟨Nat.zero_le _, fun j h => (by omega)⟩ (by decide) (by simp) ?_ ?_
    · exact ⟨[0, 1], [], [], [], ⟨trivial, trivial, trivial⟩, ⟨at_ptr (by decide) rfl, at_ptr (by decide) rfl, at_imm rfl rfl, at_int rfl (by simp), at_int rfl rfl, trivial⟩, ⟨blk_box (by decide) rfl rfl rfl rfl rfl, blk_box (by decide) rfl rfl rfl rfl rfl, trivial⟩, by simp [ren]⟩
    intro i ⟨i1, i2⟩
    by_cases hi : i < r.lo.length
    · have hi2 : i < r.hi.length := by omega
      have q1 := okLs_get hlo hi
      have q2 := okLs_get hhi hi2
      have c1 := c_qvalid r.lo[i]! q1.1 (by have := q1.2; omega) (by have := q1.2; omega)
      have c2 := c_qvalid r.hi[i]! q2.1 (by have := q2.2; omega) (by have := q2.2; omega)
      have c3 := c_qcmp r.lo[i]! r.hi[i]! q1.1 q2.1 (by have := q1.2; omega) (by have := q1.2; omega) (by have := q2.2; omega) (by have := q2.2; omega)
      have hb : ¬ okBd r i → ¬ VaR r n := fun h e => h (e.2.2.2.2.1 i hi)
      (repeat' (first|refine stp ?_|(with_reducible refine brr ?_ ?_<;>intro h)|(with_reducible refine nilImm_map ?_ ?_<;>intro h)|with_reducible refine anyb_of ?_ ?_)); all_goals try (conv=>whnf)
      · refine callV_data c1 rfl ?_
        (repeat' (first|refine stp ?_|(with_reducible refine brr ?_ ?_<;>intro h)|(with_reducible refine nilImm_map ?_ ?_<;>intro h)|with_reducible refine anyb_of ?_ ?_)); all_goals try (conv=>whnf)
        rotate_left
        · exact givesV_to rfl (congrArg PV.bool (no (hb fun e => h e.1)))
        · refine callV_data c2 rfl ?_
          (repeat' (first|refine stp ?_|(with_reducible refine brr ?_ ?_<;>intro h)|(with_reducible refine nilImm_map ?_ ?_<;>intro h)|with_reducible refine anyb_of ?_ ?_)); all_goals try (conv=>whnf)
          rotate_left
          · exact givesV_to rfl (congrArg PV.bool (no (hb fun e => h e.2.1)))
          · refine callV_data c3 rfl ?_
            (repeat' (first|refine stp ?_|(with_reducible refine brr ?_ ?_<;>intro h)|(with_reducible refine nilImm_map ?_ ?_<;>intro h)|with_reducible refine anyb_of ?_ ?_)); all_goals try (conv=>whnf)
            · exact givesV_to rfl (congrArg PV.bool (no (hb fun e => by have := sgn_le.2 e.2.2; omega)))
            · exact ⟨i + 1, ⟨⟨by omega, fun j hj => lt_succ_cases (p := fun j => okBd r j) i2 ⟨by assumption, by assumption, sgn_le.1 (by omega)⟩ hj⟩, by show r.lo.length - (i + 1) < r.lo.length - i; omega⟩, [0, 1], [], [], [], ⟨trivial, trivial, trivial⟩, ⟨at_ptr (by decide) rfl, at_ptr (by decide) rfl, at_imm rfl rfl, at_int rfl rfl, at_int rfl rfl, trivial⟩, ⟨blk_box (by decide) rfl rfl rfl rfl rfl, blk_box (by decide) rfl rfl rfl rfl rfl, trivial⟩, by simp [ren]⟩
      all_goals (exfalso; omega)
    · (repeat' (first|refine stp ?_|(with_reducible refine brr ?_ ?_<;>intro h)|(with_reducible refine nilImm_map ?_ ?_<;>intro h)|with_reducible refine anyb_of ?_ ?_)); all_goals try (conv=>whnf)
      all_goals try (exfalso; omega)
      refine callV_data cc rfl ?_
      (repeat' (first|refine stp ?_|(with_reducible refine brr ?_ ?_<;>intro h)|(with_reducible refine nilImm_map ?_ ?_<;>intro h)|with_reducible refine anyb_of ?_ ?_)); all_goals try (conv=>whnf)
      refine givesV_to rfl (congrArg PV.bool ?_)
      have hv : r.rows.any (fun f => !validB f n) = false ↔ ∀ j, j < r.rows.length → ValidF r.rows[j]! n := by
        rw [List.any_eq_false]
        constructor
        · intro e j hj
          have := e _ (get_mem hj)
          exact validB_true.1 (by simpa using this)
        · intro e f hf
          obtain ⟨j, hj, rfl⟩ := List.getElem_of_mem hf
          have := validB_true.2 (e j hj)
          rw [getElem!_pos r.rows j hj] at this
          simp [this]
      rw [Bool.eq_iff_iff, dB_true, Bool.not_eq_true', hv]
      exact ⟨fun e => ⟨h1, h2, h3, h4, fun j hj => i2 j (by omega), e⟩, fun e => e.2.2.2.2.2⟩
theorem ok_rgown : FnOk Tryz.prog 56 Tryz.f56 (Tryz.f56.body.getD .skip) [.tmp 2] 8 := ⟨Tryz.func56, rfl, by decide, Tryz.ntmps56, Tryz.results56, by kernel_rfl, by kernel_rfl⟩
theorem c_rgown (r : RegL) (hr : okReg 400000 r) : Fn 56 [encReg r] (.data (.bool (dB (VaO r)))) := by
  have cc := c_rgvalid r r.lo.length hr
  have l1 := hr.1.1
  refine fnC_v hmix hT ok_rgown (by simp [encReg]) ?_
  (repeat' (first|refine stp ?_|(with_reducible refine brr ?_ ?_<;>intro h)|(with_reducible refine nilImm_map ?_ ?_<;>intro h)|with_reducible refine anyb_of ?_ ?_)); all_goals try (conv=>whnf)
  refine callV_data cc (by simp; rfl) ?_
  (repeat' (first|refine stp ?_|(with_reducible refine brr ?_ ?_<;>intro h)|(with_reducible refine nilImm_map ?_ ?_<;>intro h)|with_reducible refine anyb_of ?_ ?_)); all_goals try (conv=>whnf)
  exact givesV_to rfl rfl
end Go.PI.Tryz
namespace Go.PI.Tryz
set_option linter.unnecessarySimpa false
open Go.Proofs Go.PI
set_option linter.unusedSimpArgs false
set_option linter.unusedVariables false
theorem ok_rgb1 : FnOk Tryz.prog 54 Tryz.f54 (Tryz.f54.body.getD .skip) [.cell 3 40] 8 := ⟨Tryz.func54, rfl, by decide, Tryz.ntmps54, Tryz.results54, by kernel_rfl, by kernel_rfl⟩
theorem c_rgb1 (l : List RatL) (i : Nat) (hi : i < l.length) : Fn 54 [.int .i64 i, .cptr (.imm (l.map encRat)) 0] (.data (encRat l[i]!)) := by
  refine fnC_v hmix hT ok_rgb1 (by simp) ?_
  (repeat' (first|refine stp ?_|(with_reducible refine brr ?_ ?_<;>intro h)|(with_reducible refine nilImm_map ?_ ?_<;>intro h)|with_reducible refine anyb_of ?_ ?_)); all_goals try (conv=>whnf)
  exact givesV_to rfl rfl
theorem ok_rgb2 : FnOk Tryz.prog 55 Tryz.f55 (Tryz.f55.body.getD .skip) [.cell 3 40] 8 := ⟨Tryz.func55, rfl, by decide, Tryz.ntmps55, Tryz.results55, by kernel_rfl, by kernel_rfl⟩
theorem c_rgb2 (l : List RatL) (i : Nat) (hi : i < l.length) : Fn 55 [.int .i64 i, .cptr (.imm (l.map encRat)) 0] (.data (encRat l[i]!)) := by
  refine fnC_v hmix hT ok_rgb2 (by simp) ?_
  (repeat' (first|refine stp ?_|(with_reducible refine brr ?_ ?_<;>intro h)|(with_reducible refine nilImm_map ?_ ?_<;>intro h)|with_reducible refine anyb_of ?_ ?_)); all_goals try (conv=>whnf)
  exact givesV_to rfl rfl
theorem ok_rgbox : FnOk Tryz.prog 17 Tryz.f17 (Tryz.f17.body.getD .skip) [.cell 4 25, .tmp 5] 21 := ⟨Tryz.func17, rfl, by decide, Tryz.ntmps17, Tryz.results17, by kernel_rfl, by kernel_rfl⟩
theorem c_rgbox (lo hi : List RatL) (h1 : okLs 400000 lo) (h2 : okLs 400000 hi) : Fn 17 [.imm (lo.map encRat), .imm (hi.map encRat)] (.data (.tup [encReg (boxV lo hi).1, .int .i64 (boxV lo hi).2])) := by
  have e1 := c_each1 (lo.map qv) 54 (.imm (lo.map encRat)) 400000 (by decide) (by simpa using h1.1) fun i hi => by
    have hi : i < lo.length := by simpa using hi
    exact ⟨lo[i]!, okLs_get h1 hi, (getD_map_qv hi).symm, c_rgb1 lo i hi⟩
  have e2 := c_each1 (hi.map qv) 55 (.imm (hi.map encRat)) 400000 (by decide) (by simpa using h2.1) fun i hj => by
    have hi : i < hi.length := by simpa using hj
    exact ⟨_, okLs_get h2 hi, (getD_map_qv hi).symm, c_rgb2 _ i hi⟩
  have co := c_rgown (canR lo hi) (okReg_can h1 h2 (by decide))
  rw [canR_reg] at co
  have l1 := h1.1
  have l2 := h2.1
  refine fnC_v hmix hT ok_rgbox (by simp) ?_
  (repeat' (first|refine stp ?_|(with_reducible refine brr ?_ ?_<;>intro h)|(with_reducible refine nilImm_map ?_ ?_<;>intro h)|with_reducible refine anyb_of ?_ ?_)); all_goals try (conv=>whnf)
  refine callV_data e1 (by simp; rfl) ?_
  (repeat' (first|refine stp ?_|(with_reducible refine brr ?_ ?_<;>intro h)|(with_reducible refine nilImm_map ?_ ?_<;>intro h)|with_reducible refine anyb_of ?_ ?_)); all_goals try (conv=>whnf)
  refine callV_data e2 (by simp; rfl) ?_
  (repeat' (first|refine stp ?_|(with_reducible refine brr ?_ ?_<;>intro h)|(with_reducible refine nilImm_map ?_ ?_<;>intro h)|with_reducible refine anyb_of ?_ ?_)); all_goals try (conv=>whnf)
  refine callV_data co rfl ?_
  (repeat' (first|refine stp ?_|(with_reducible refine brr ?_ ?_<;>intro h)|(with_reducible refine nilImm_map ?_ ?_<;>intro h)|with_reducible refine anyb_of ?_ ?_)); all_goals try (conv=>whnf)
  · unfold boxV; rw [if_pos (dB_true.1 (by assumption)), canR_reg]
    exact givesV_to rfl rfl
  · unfold boxV; rw [if_neg (dB_false.1 (by assumption))]
    exact givesV_to rfl rfl
theorem ok_rgempty : FnOk Tryz.prog 67 Tryz.f67 (Tryz.f67.body.getD .skip) [.tmp 2] 22 := ⟨Tryz.func67, rfl, by decide, Tryz.ntmps67, Tryz.results67, by kernel_rfl, by kernel_rfl⟩
theorem c_rgempty (r : RegL) (hr : okReg 400000 r) (hl : r.hi.length = r.lo.length) : Fn 67 [encReg r] (.data (.bool (dB (emR r)))) := by
  obtain ⟨hlo, hhi, hrw, hrl⟩ := hr
  have l1 := hlo.1
  have l2 := hhi.1
  refine fnC_v hmix hT ok_rgempty (by simp [encReg]) ?_
  (repeat' (first|refine stp ?_|(with_reducible refine brr ?_ ?_<;>intro h)|(with_reducible refine nilImm_map ?_ ?_<;>intro h)|with_reducible refine anyb_of ?_ ?_)); all_goals try (conv=>whnf)
  refine loopV_kept hT (fun (i : Nat) => [(1, .ptr 0 0 0), (6, .imm (r.lo.map encRat)), (7, .int .i64 r.lo.length), (8, .int .i64 i)]) (fun _ => [(0, ⟨[encReg r], 3, true⟩)]) [] 1
    (fun i => i ≤ r.lo.length ∧ ∀ j, j < i → ¬ qv r.hi[j]! < qv r.lo[j]!) (fun i => r.lo.length - i) 0 ⟨Nat.zero_le _, fun j h => (by omega)⟩ (by decide) (by simp) ?_ ?_
  · exact ⟨[0], [], [], [], ⟨trivial, trivial, trivial⟩, ⟨at_ptr (by decide) rfl, at_imm rfl rfl, at_int rfl (by simp), at_int rfl rfl, trivial⟩, ⟨blk_box (by decide) rfl rfl rfl rfl rfl, trivial⟩, by simp [ren]⟩
  intro i ⟨i1, i2⟩
  by_cases hi : i < r.lo.length
  · have hi2 : i < r.hi.length := by omega
    have q1 := okLs_get hlo hi
    have q2 := okLs_get hhi hi2
    have c3 := c_qcmp r.lo[i]! r.hi[i]! q1.1 q2.1 (by have := q1.2; omega) (by have := q1.2; omega) (by have := q2.2; omega) (by have := q2.2; omega)
    (repeat' (first|refine stp ?_|(with_reducible refine brr ?_ ?_<;>intro h)|(with_reducible refine nilImm_map ?_ ?_<;>intro h)|with_reducible refine anyb_of ?_ ?_)); all_goals try (conv=>whnf)
    · refine callV_data c3 rfl ?_
      (repeat' (first|refine stp ?_|(with_reducible refine brr ?_ ?_<;>intro h)|(with_reducible refine nilImm_map ?_ ?_<;>intro h)|with_reducible refine anyb_of ?_ ?_)); all_goals try (conv=>whnf)
      · exact givesV_to rfl (congrArg PV.bool (dB_yes ⟨i, hi, sgn_gt.1 (by omega)⟩))
      · exact ⟨i + 1, ⟨⟨by omega, fun j hj => lt_succ_cases (p := fun j => ¬ qv r.hi[j]! < qv r.lo[j]!) i2 (fun e => by have := sgn_gt.2 e; omega) hj⟩, by show r.lo.length - (i + 1) < r.lo.length - i; omega⟩, [0], [], [], [], ⟨trivial, trivial, trivial⟩, ⟨at_ptr (by decide) rfl, at_imm rfl rfl, at_int rfl rfl, at_int rfl rfl, trivial⟩, ⟨blk_box (by decide) rfl rfl rfl rfl rfl, trivial⟩, by simp [ren]⟩
    all_goals (exfalso; omega)
  · (repeat' (first|refine stp ?_|(with_reducible refine brr ?_ ?_<;>intro h)|(with_reducible refine nilImm_map ?_ ?_<;>intro h)|with_reducible refine anyb_of ?_ ?_)); all_goals try (conv=>whnf)
    all_goals try (exfalso; omega)
    exact givesV_to rfl (congrArg PV.bool (dB_no fun ⟨j, hj, e⟩ => i2 j (by omega) e))
theorem ok_rgc1 : FnOk Tryz.prog 60 Tryz.f60 (Tryz.f60.body.getD .skip) [.tmp 3] 15 := ⟨Tryz.func60, rfl, by decide, Tryz.ntmps60, Tryz.results60, by kernel_rfl, by kernel_rfl⟩
theorem c_rgc1 (f : AffL) (x : List RatL) (k kx : Nat) (hf : okA k f) (hk1 : 1 ≤ k) (hkx : 1 ≤ kx) (hx : okLs kx x) (hv : ValidF f x.length) (hk : k + f.terms.length * (k + kx + 1) + k + kx ≤ 399990) : Fn 60 [encAff f, .cptr (.imm (x.map encRat)) 0] (.data (.bool (decide (evQ f.Q (x.map qv) < 0)))) := by
  have hF := okF_of hv
  have hs := szF_okA hf hk1
  have hl := hf.2.2
  have hvx : ∀ p ∈ f.Q.ts, 0 ≤ p.1 ∧ p.1 < x.length := fun p hp => hF.2 p hp
  have ql := Q_len f
  have ce := c_levalW f.Q x k kx hs hkx hx.2 hvx (by rw [ql]; exact hk) (by omega) hx.1
  rw [← encF_of hv] at ce
  have hz := evQ_sz (kx := kx) (x := x.map qv) hs (fun q hq => by
    obtain ⟨y, hy, rfl⟩ := List.mem_map.1 hq
    have := hx.2 y hy
    exact sz_qv this.1 this.2.1 this.2.2 hkx) (fun p hp => by simpa using hvx p hp)
  rw [ql] at hz
  have hl4 := cr_len hz
  have cs := c_qsign (cr (evQ f.Q (x.map qv))) (okR_cr _) (by omega)
  rw [qv_cr] at cs
  refine fnC_v hmix hT ok_rgc1 (by simp) ?_
  (repeat' (first|refine stp ?_|(with_reducible refine brr ?_ ?_<;>intro h)|(with_reducible refine nilImm_map ?_ ?_<;>intro h)|with_reducible refine anyb_of ?_ ?_)); all_goals try (conv=>whnf)
  refine callV_data ce rfl ?_
  (repeat' (first|refine stp ?_|(with_reducible refine brr ?_ ?_<;>intro h)|(with_reducible refine nilImm_map ?_ ?_<;>intro h)|with_reducible refine anyb_of ?_ ?_)); all_goals try (conv=>whnf)
  refine callV_data cs rfl ?_
  (repeat' (first|refine stp ?_|(with_reducible refine brr ?_ ?_<;>intro h)|(with_reducible refine nilImm_map ?_ ?_<;>intro h)|with_reducible refine anyb_of ?_ ?_)); all_goals try (conv=>whnf)
  exact givesV_to rfl (congrArg PV.bool (decide_eq_decide.2 sgnQ_neg))
theorem ok_rgcont : FnOk Tryz.prog 20 Tryz.f20 (Tryz.f20.body.getD .skip) [.tmp 4] 49 := ⟨Tryz.func20, rfl, by decide, Tryz.ntmps20, Tryz.results20, by kernel_rfl, by kernel_rfl⟩
theorem c_rgcont (r : RegL) (x : List RatL) (k kx : Nat) (hr : okReg k r) (hk1 : 1 ≤ k) (hkx : 1 ≤ kx) (hx : okLs kx x) (hk : ∀ f ∈ r.rows, k + f.terms.length * (k + kx + 1) + k + kx ≤ 399990) (hk2 : k ≤ 399990) (hk3 : kx ≤ 399990) : Fn 20 [encReg r, .imm (x.map encRat)] (.data (.bool (dB (conR r x)))) := by
  obtain ⟨hlo, hhi, hrw, hrl⟩ := hr
  have no : ¬ conR r x → false = dB (conR r x) := dB_no
  have l1 := hlo.1
  have l2 := hhi.1
  have l3 := hx.1
  have co := c_rgown r (okReg_le (by omega) ⟨hlo, hhi, hrw, hrl⟩)
  refine fnC_v hmix hT ok_rgcont (by simp [encReg]) ?_
  (repeat' (first|refine stp ?_|(with_reducible refine brr ?_ ?_<;>intro h)|(with_reducible refine nilImm_map ?_ ?_<;>intro h)|with_reducible refine anyb_of ?_ ?_)); all_goals try (conv=>whnf)
  refine callV_data co rfl ?_
  (repeat' (first|refine stp ?_|(with_reducible refine brr ?_ ?_<;>intro h)|(with_reducible refine nilImm_map ?_ ?_<;>intro h)|with_reducible refine anyb_of ?_ ?_)); all_goals try (conv=>whnf)
  · exact givesV_to rfl (congrArg PV.bool (no fun e => by have := e.2.1; omega))
  · have hlen : x.length = r.lo.length := by omega
    have hva : VaO r := dB_true.1 (by assumption)
    have hlh : r.hi.length = r.lo.length := by have := hva.2.2.1; omega
    refine loopV_kept hT (fun (i : Nat) => [(2, .ptr 0 0 0), (3, .ptr 1 0 0), (18, .imm (x.map encRat)), (19, .int .i64 x.length), (20, .int .i64 i)]) (fun _ => [(0, ⟨[encReg r], 3, true⟩), (1, ⟨[.imm (x.map encRat)], 1, false⟩)]) [] 2
      (fun i => i ≤ x.length ∧ ∀ j, j < i → qv r.lo[j]! ≤ qv x[j]! ∧ qv x[j]! ≤ qv r.hi[j]!) (fun i => x.length - i) 0 ⟨Nat.zero_le _, fun j h => (by omega)⟩ (by decide) (by simp) ?_ ?_
    · exact ⟨[0, 1], [], [], [], ⟨trivial, trivial, trivial⟩, ⟨at_ptr (by decide) rfl, at_ptr (by decide) rfl, at_imm rfl rfl, at_int rfl (by simp), at_int rfl rfl, trivial⟩, ⟨blk_box (by decide) rfl rfl rfl rfl rfl, blk_box (by decide) rfl rfl rfl rfl rfl, trivial⟩, by simp [ren]⟩
    intro i ⟨i1, i2⟩
    by_cases hi : i < x.length
    · have hi1 : i < r.lo.length := by omega
      have hi2 : i < r.hi.length := by omega
      have q0 := okLs_get hx hi
      have q1 := okLs_get hlo hi1
      have q2 := okLs_get hhi hi2
      have c1 := c_qcmp x[i]! r.lo[i]! q0.1 q1.1 (by have := q0.2; omega) (by have := q0.2; omega) (by have := q1.2; omega) (by have := q1.2; omega)
      have c2 := c_qcmp x[i]! r.hi[i]! q0.1 q2.1 (by have := q0.2; omega) (by have := q0.2; omega) (by have := q2.2; omega) (by have := q2.2; omega)
      (repeat' (first|refine stp ?_|(with_reducible refine brr ?_ ?_<;>intro h)|(with_reducible refine nilImm_map ?_ ?_<;>intro h)|with_reducible refine anyb_of ?_ ?_)); all_goals try (conv=>whnf)
      · refine callV_data c1 rfl ?_
        (repeat' (first|refine stp ?_|(with_reducible refine brr ?_ ?_<;>intro h)|(with_reducible refine nilImm_map ?_ ?_<;>intro h)|with_reducible refine anyb_of ?_ ?_)); all_goals try (conv=>whnf)
        · exact givesV_to rfl (congrArg PV.bool (no fun e => by have := sgn_ge.2 (e.2.2.1 i hi).1; omega))
        · refine callV_data c2 rfl ?_
          (repeat' (first|refine stp ?_|(with_reducible refine brr ?_ ?_<;>intro h)|(with_reducible refine nilImm_map ?_ ?_<;>intro h)|with_reducible refine anyb_of ?_ ?_)); all_goals try (conv=>whnf)
          · exact givesV_to rfl (congrArg PV.bool (no fun e => by have := sgn_le.2 (e.2.2.1 i hi).2; omega))
          · exact ⟨i + 1, ⟨⟨by omega, fun j hj => lt_succ_cases (p := fun j => qv r.lo[j]! ≤ qv x[j]! ∧ qv x[j]! ≤ qv r.hi[j]!) i2 ⟨sgn_ge.1 (by omega), sgn_le.1 (by omega)⟩ hj⟩, by show x.length - (i + 1) < x.length - i; omega⟩, [0, 1], [], [], [], ⟨trivial, trivial, trivial⟩, ⟨at_ptr (by decide) rfl, at_ptr (by decide) rfl, at_imm rfl rfl, at_int rfl rfl, at_int rfl rfl, trivial⟩, ⟨blk_box (by decide) rfl rfl rfl rfl rfl, blk_box (by decide) rfl rfl rfl rfl rfl, trivial⟩, by simp [ren]⟩
      all_goals (exfalso; omega)
    · have cc := c_containsf r.rows (fun f => decide (evQ f.Q (x.map qv) < 0)) 60 (.imm (x.map encRat)) hrl (fun f hf => by
        obtain ⟨j, hj, rfl⟩ := List.getElem_of_mem hf
        have hv := hva.2.2.2.2.2 j hj
        rw [getElem!_pos r.rows j hj, ← hlen] at hv
        exact c_rgc1 _ x k kx (hrw _ (List.getElem_mem hj)) hk1 hkx hx hv (hk _ (List.getElem_mem hj)))
      (repeat' (first|refine stp ?_|(with_reducible refine brr ?_ ?_<;>intro h)|(with_reducible refine nilImm_map ?_ ?_<;>intro h)|with_reducible refine anyb_of ?_ ?_)); all_goals try (conv=>whnf)
      all_goals try (exfalso; omega)
      refine callV_data cc rfl ?_
      (repeat' (first|refine stp ?_|(with_reducible refine brr ?_ ?_<;>intro h)|(with_reducible refine nilImm_map ?_ ?_<;>intro h)|with_reducible refine anyb_of ?_ ?_)); all_goals try (conv=>whnf)
      refine givesV_to rfl (congrArg PV.bool ?_)
      rw [Bool.eq_iff_iff, dB_true, Bool.not_eq_true', List.any_eq_false]
      constructor
      · intro e
        refine ⟨hva, hlen, fun j hj => i2 j (by omega), fun j hj => ?_⟩
        have := e _ (get_mem hj)
        simp only [decide_eq_true_eq] at this
        exact Rat.not_lt.1 this
      · intro e f hf
        obtain ⟨j, hj, rfl⟩ := List.getElem_of_mem hf
        have := e.2.2.2 j hj
        rw [getElem!_pos r.rows j hj] at this
        simp only [decide_eq_true_eq]
        exact Rat.not_lt.2 this
  · exact givesV_to rfl (congrArg PV.bool (no fun e => dB_false.1 h e.1))
theorem ok_rgwithin : FnOk Tryz.prog 25 Tryz.f25 (Tryz.f25.body.getD .skip) [.tmp 4] 64 := ⟨Tryz.func25, rfl, by decide, Tryz.ntmps25, Tryz.results25, by kernel_rfl, by kernel_rfl⟩
theorem c_rgwithin (a b : RegL) (ha : okReg 400000 a) (hb : okReg 400000 b) : Fn 25 [encReg a, encReg b] (.data (.bool (dB (wiR a b)))) := by
  have no : ¬ wiR a b → false = dB (wiR a b) := dB_no
  have c1 := c_rgown a ha
  have c2 := c_rgown b hb
  have cq := c_equalf a.rows b.rows ⟨ha.2.2.2, fun f hf => okA_le (by decide) (ha.2.2.1 f hf)⟩ ⟨hb.2.2.2, fun f hf => okA_le (by decide) (hb.2.2.1 f hf)⟩
  have l1 := ha.1.1
  have l2 := ha.2.1.1
  have l3 := hb.1.1
  have l4 := hb.2.1.1
  refine fnC_v hmix hT ok_rgwithin (by simp [encReg]) ?_
  (repeat' (first|refine stp ?_|(with_reducible refine brr ?_ ?_<;>intro h)|(with_reducible refine nilImm_map ?_ ?_<;>intro h)|with_reducible refine anyb_of ?_ ?_)); all_goals try (conv=>whnf)
  refine callV_data c1 rfl ?_
  (repeat' (first|refine stp ?_|(with_reducible refine brr ?_ ?_<;>intro h)|(with_reducible refine nilImm_map ?_ ?_<;>intro h)|with_reducible refine anyb_of ?_ ?_)); all_goals try (conv=>whnf)
  · refine callV_data c2 rfl ?_
    (repeat' (first|refine stp ?_|(with_reducible refine brr ?_ ?_<;>intro h)|(with_reducible refine nilImm_map ?_ ?_<;>intro h)|with_reducible refine anyb_of ?_ ?_)); all_goals try (conv=>whnf)
    · exact givesV_to rfl (congrArg PV.bool (no fun e => by have := e.2.2.1; omega))
    · refine callV_data cq rfl ?_
      (repeat' (first|refine stp ?_|(with_reducible refine brr ?_ ?_<;>intro h)|(with_reducible refine nilImm_map ?_ ?_<;>intro h)|with_reducible refine anyb_of ?_ ?_)); all_goals try (conv=>whnf)
      · have hva : VaO a := dB_true.1 (by assumption)
        have hvb : VaO b := dB_true.1 (by assumption)
        have hrows : a.rows = b.rows := by assumption
        have hlen : a.lo.length = b.lo.length := by omega
        have hla : a.hi.length = a.lo.length := by have := hva.2.2.1; omega
        have hlb : b.hi.length = b.lo.length := by have := hvb.2.2.1; omega
        refine loopV_kept hT (fun (i : Nat) => [(2, .ptr 0 0 0), (3, .ptr 1 0 0), (33, .int .i64 a.lo.length), (34, .int .i64 i)]) (fun _ => [(0, ⟨[encReg a], 3, true⟩), (1, ⟨[encReg b], 3, true⟩)]) [] 2
          (fun i => i ≤ a.lo.length ∧ ∀ j, j < i → qv b.lo[j]! ≤ qv a.lo[j]! ∧ qv a.hi[j]! ≤ qv b.hi[j]!) (fun i => a.lo.length - i) 0 ⟨Nat.zero_le _, fun j h => (by omega)⟩ (by decide) (by simp) ?_ ?_
        · exact ⟨[0, 1], [], [], [], ⟨trivial, trivial, trivial⟩, ⟨at_ptr (by decide) rfl, at_ptr (by decide) rfl, at_int rfl (by simp), at_int rfl rfl, trivial⟩, ⟨blk_box (by decide) rfl rfl rfl rfl rfl, blk_box (by decide) rfl rfl rfl rfl rfl, trivial⟩, by simp [ren]⟩
        intro i ⟨i1, i2⟩
        by_cases hi : i < a.lo.length
        · have q1 := okLs_get ha.1 hi
          have q2 := okLs_get ha.2.1 (i := i) (by omega)
          have q3 := okLs_get hb.1 (i := i) (by omega)
          have q4 := okLs_get hb.2.1 (i := i) (by omega)
          have d1 := c_qcmp a.lo[i]! b.lo[i]! q1.1 q3.1 (by have := q1.2; omega) (by have := q1.2; omega) (by have := q3.2; omega) (by have := q3.2; omega)
          have d2 := c_qcmp a.hi[i]! b.hi[i]! q2.1 q4.1 (by have := q2.2; omega) (by have := q2.2; omega) (by have := q4.2; omega) (by have := q4.2; omega)
          have a1 : i < b.lo.length := by omega
          have a2 : i < a.hi.length := by omega
          have a3 : i < b.hi.length := by omega
          (repeat' (first|refine stp ?_|(with_reducible refine brr ?_ ?_<;>intro h)|(with_reducible refine nilImm_map ?_ ?_<;>intro h)|with_reducible refine anyb_of ?_ ?_)); all_goals try (conv=>whnf)
          · refine callV_data d1 rfl ?_
            (repeat' (first|refine stp ?_|(with_reducible refine brr ?_ ?_<;>intro h)|(with_reducible refine nilImm_map ?_ ?_<;>intro h)|with_reducible refine anyb_of ?_ ?_)); all_goals try (conv=>whnf)
            · exact givesV_to rfl (congrArg PV.bool (no fun e => by have := sgn_ge.2 (e.2.2.2.2 i hi).1; omega))
            · refine callV_data d2 rfl ?_
              (repeat' (first|refine stp ?_|(with_reducible refine brr ?_ ?_<;>intro h)|(with_reducible refine nilImm_map ?_ ?_<;>intro h)|with_reducible refine anyb_of ?_ ?_)); all_goals try (conv=>whnf)
              · exact givesV_to rfl (congrArg PV.bool (no fun e => by have := sgn_le.2 (e.2.2.2.2 i hi).2; omega))
              · exact ⟨i + 1, ⟨⟨by omega, fun j hj => lt_succ_cases (p := fun j => qv b.lo[j]! ≤ qv a.lo[j]! ∧ qv a.hi[j]! ≤ qv b.hi[j]!) i2 ⟨sgn_ge.1 (by omega), sgn_le.1 (by omega)⟩ hj⟩, by show a.lo.length - (i + 1) < a.lo.length - i; omega⟩, [0, 1], [], [], [], ⟨trivial, trivial, trivial⟩, ⟨at_ptr (by decide) rfl, at_ptr (by decide) rfl, at_int rfl rfl, at_int rfl rfl, trivial⟩, ⟨blk_box (by decide) rfl rfl rfl rfl rfl, blk_box (by decide) rfl rfl rfl rfl rfl, trivial⟩, by simp [ren]⟩
          all_goals (exfalso; omega)
        · (repeat' (first|refine stp ?_|(with_reducible refine brr ?_ ?_<;>intro h)|(with_reducible refine nilImm_map ?_ ?_<;>intro h)|with_reducible refine anyb_of ?_ ?_)); all_goals try (conv=>whnf)
          all_goals try (exfalso; omega)
          exact givesV_to rfl (congrArg PV.bool (dB_yes ⟨hva, hvb, hlen, hrows, fun j hj => i2 j (by omega)⟩))
      · exact givesV_to rfl (congrArg PV.bool (no fun e => h e.2.2.2.1))
    · exact givesV_to rfl (congrArg PV.bool (no fun e => dB_false.1 h e.2.1))
  · exact givesV_to rfl (congrArg PV.bool (no fun e => dB_false.1 h e.1))
end Go.PI.Tryz
namespace Go.PI.Tryz
set_option linter.unnecessarySimpa false
open Go.Proofs Go.PI
set_option linter.unusedSimpArgs false
set_option linter.unusedVariables false
theorem ok_qsub : FnOk Tryz.prog 82 Tryz.f82 (Tryz.f82.body.getD .skip) [.cell 4 40] 12 := ⟨Tryz.func82, rfl, by decide, Tryz.ntmps82, Tryz.results82, by kernel_rfl, by kernel_rfl⟩
theorem c_qsub (x y : RatL) (hx : okR x) (hy : okR y) (hl1 : x.num.length < 500000) (hl2 : x.den.length < 500000) (hl3 : y.num.length < 500000) (hl4 : y.den.length < 500000) : Fn 82 [encRat x, encRat y] (.data (encRat (cr (qv x - qv y)))) := by
  have e : qv (⟨!y.neg, y.num, y.den⟩ : RatL) = - qv y := by
    unfold qv; dsimp only; rw [sg_not]
    rw [show -(sg y.neg (nv y.num)) = (-1) * sg y.neg (nv y.num) by omega]
    have : ∀ (z : Int) (d : Nat), mkRat (-1 * z) d = - mkRat z d := fun z d => by rw [Int.neg_mul, Int.one_mul, Rat.neg_mkRat]
    exact this _ _
  have ca := c_qadd x ⟨!y.neg, y.num, y.den⟩ hx hy hl1 hl2 hl3 hl4
  rw [e, show qv x + -qv y = qv x - qv y by grind] at ca
  refine fnC_v hmix hT ok_qsub (by simp [encRat]) ?_
  (repeat' (first|refine stp ?_|(with_reducible refine brr ?_ ?_<;>intro h)|(with_reducible refine nilImm_map ?_ ?_<;>intro h)|with_reducible refine anyb_of ?_ ?_)); all_goals try (conv=>whnf)
  refine callV_data ca rfl ?_
  (repeat' (first|refine stp ?_|(with_reducible refine brr ?_ ?_<;>intro h)|(with_reducible refine nilImm_map ?_ ?_<;>intro h)|with_reducible refine anyb_of ?_ ?_)); all_goals try (conv=>whnf)
  exact givesV_to rfl rfl
theorem ok_qmake : FnOk Tryz.prog 120 Tryz.f120 (Tryz.f120.body.getD .skip) [.cell 4 40, .tmp 5] 20 := ⟨Tryz.func120, rfl, by decide, Tryz.ntmps120, Tryz.results120, by kernel_rfl, by kernel_rfl⟩
theorem c_qmake (x y : IntL) (hx : okN x.mag) (hy : okN y.mag) (h0 : nv y.mag ≠ 0) (hl : x.mag.length < 2097120) (hl2 : y.mag.length < 2097120) : Fn 120 [encInt x, encInt y] (.data (.tup [encRat (cr (mkRat (sg (x.neg != y.neg) (nv x.mag)) (nv y.mag))), .int .i64 0])) := by
  have cs := c_isign y hy (by omega)
  have cq := c_qquot (x.neg != y.neg) x.mag y.mag hx hy h0 (by omega) (by omega)
  refine fnC_v hmix hT ok_qmake (by simp [encInt]) ?_
  (repeat' (first|refine stp ?_|(with_reducible refine brr ?_ ?_<;>intro h)|(with_reducible refine nilImm_map ?_ ?_<;>intro h)|with_reducible refine anyb_of ?_ ?_)); all_goals try (conv=>whnf)
  refine callV_data cs rfl ?_
  (repeat' (first|refine stp ?_|(with_reducible refine brr ?_ ?_<;>intro h)|(with_reducible refine nilImm_map ?_ ?_<;>intro h)|with_reducible refine anyb_of ?_ ?_)); all_goals try (conv=>whnf)
  · exact absurd ((sg_eq0 y.neg _).1 (Int.sign_eq_zero_iff_zero.1 h)) h0
  · refine callV_data cq rfl ?_
    (repeat' (first|refine stp ?_|(with_reducible refine brr ?_ ?_<;>intro h)|(with_reducible refine nilImm_map ?_ ?_<;>intro h)|with_reducible refine anyb_of ?_ ?_)); all_goals try (conv=>whnf)
    exact givesV_to rfl rfl
theorem ok_qfrac : FnOk Tryz.prog 86 Tryz.f86 (Tryz.f86.body.getD .skip) [.cell 4 40, .tmp 5] 13 := ⟨Tryz.func86, rfl, by decide, Tryz.ntmps86, Tryz.results86, by kernel_rfl, by kernel_rfl⟩
theorem c_qhalf : Fn 86 [.int .i64 1, .int .i64 2] (.data (.tup [encRat (cr halfQ), .int .i64 0])) := by
  have c1 := c_iof 1 (by decide)
  have c2 := c_iof 2 (by decide)
  have cm := c_qmake (cz 1) (cz 2) (lims_ok _) (lims_ok _) (by decide +kernel) (by decide +kernel) (by decide +kernel)
  rw [show mkRat (sg ((cz 1).neg != (cz 2).neg) (nv (cz 1).mag)) (nv (cz 2).mag) = halfQ by decide +kernel] at cm
  refine fnC_v hmix hT ok_qfrac (by simp) ?_
  (repeat' (first|refine stp ?_|(with_reducible refine brr ?_ ?_<;>intro h)|(with_reducible refine nilImm_map ?_ ?_<;>intro h)|with_reducible refine anyb_of ?_ ?_)); all_goals try (conv=>whnf)
  refine callV_data c1 rfl ?_
  (repeat' (first|refine stp ?_|(with_reducible refine brr ?_ ?_<;>intro h)|(with_reducible refine nilImm_map ?_ ?_<;>intro h)|with_reducible refine anyb_of ?_ ?_)); all_goals try (conv=>whnf)
  refine callV_data c2 rfl ?_
  (repeat' (first|refine stp ?_|(with_reducible refine brr ?_ ?_<;>intro h)|(with_reducible refine nilImm_map ?_ ?_<;>intro h)|with_reducible refine anyb_of ?_ ?_)); all_goals try (conv=>whnf)
  refine callV_data cm rfl ?_
  (repeat' (first|refine stp ?_|(with_reducible refine brr ?_ ?_<;>intro h)|(with_reducible refine nilImm_map ?_ ?_<;>intro h)|with_reducible refine anyb_of ?_ ?_)); all_goals try (conv=>whnf)
  exact givesV_to rfl rfl
theorem ok_rgint : FnOk Tryz.prog 37 Tryz.f37 (Tryz.f37.body.getD .skip) [.tmp 2] 31 := ⟨Tryz.func37, rfl, by decide, Tryz.ntmps37, Tryz.results37, by kernel_rfl, by kernel_rfl⟩
theorem c_rgint (r : RegL) (hr : okReg 400000 r) : Fn 37 [encReg r] (.data (.imm ((ivR r).map encIv))) := by
  obtain ⟨hlo, hhi, hrw, hrl⟩ := hr
  have l1 := hlo.1
  have co := c_rgown r ⟨hlo, hhi, hrw, hrl⟩
  refine fnC_v hmix hT ok_rgint (by simp [encReg]) ?_
  (repeat' (first|refine stp ?_|(with_reducible refine brr ?_ ?_<;>intro h)|(with_reducible refine nilImm_map ?_ ?_<;>intro h)|with_reducible refine anyb_of ?_ ?_)); all_goals try (conv=>whnf)
  refine callV_data co rfl ?_
  (repeat' (first|refine stp ?_|(with_reducible refine brr ?_ ?_<;>intro h)|(with_reducible refine nilImm_map ?_ ?_<;>intro h)|with_reducible refine anyb_of ?_ ?_)); all_goals try (conv=>whnf)
  · have hva : VaO r := dB_true.1 (by assumption)
    have hlh : r.hi.length = r.lo.length := by have := hva.2.2.1; omega
    have hzl : (r.lo.zip r.hi).length = r.lo.length := by simp [hlh]
    rw [show ivR r = r.lo.zip r.hi by unfold ivR; rw [if_pos hva]]
    refine loopV_grow hT [(.sl 3, 6, true)] (fun (i : Nat) => [(1, .ptr 0 0 0), (3, .own 1 0 i), (10, .imm (r.lo.map encRat)), (11, .int .i64 r.lo.length), (12, .int .i64 i)]) (fun i => [(0, ⟨[encReg r], 3, true⟩), (1, ⟨((r.lo.zip r.hi).take i).map encIv, 6, true⟩)]) [] 2
      (fun i => i ≤ r.lo.length) (fun i => r.lo.length - i) 0 (Nat.zero_le _) (by decide) (by simp) ⟨rfl, trivial⟩ ?_ ?_
    · exact ⟨[0, _], [], [], [], ⟨trivial, trivial, trivial⟩, ⟨at_ptr (by decide) rfl, at_own (by decide) rfl rfl, at_imm rfl rfl, at_int rfl (by simp), at_int rfl rfl, trivial⟩, ⟨blk_box (by decide) rfl rfl rfl rfl rfl, blk_row (by decide) rfl rfl (nr_map fun _ => ⟨rfl, by simp [encIv]⟩) rfl, trivial⟩, by simp [ren]⟩
    intro i i1
    have hlen : ((r.lo.zip r.hi).take i).length = i := by rw [List.length_take]; omega
    by_cases hi : i < r.lo.length
    · have hi2 : i < r.hi.length := by omega
      have q1 := okLs_get hlo hi
      have q2 := okLs_get hhi hi2
      have c1 := c_qcanon r.lo[i]! q1.1 (by have := q1.2; omega) (by have := q1.2; omega)
      have c2 := c_qcanon r.hi[i]! q2.1 (by have := q2.2; omega) (by have := q2.2; omega)
      have hb := hva.2.2.2.2.1 i hi
      rw [← hb.1] at c1
      rw [← hb.2.1] at c2
      have hs : ((r.lo.zip r.hi).take i).map encIv ++ [encIv (r.lo[i]!, r.hi[i]!)] = ((r.lo.zip r.hi).take (i + 1)).map encIv := by
        rw [List.take_succ_eq_append_getElem (by omega), List.map_append]
        simp [getElem!_pos r.lo i hi, getElem!_pos r.hi i hi2]
      (repeat' (first|refine stp ?_|(with_reducible refine brr ?_ ?_<;>intro h)|(with_reducible refine nilImm_map ?_ ?_<;>intro h)|with_reducible refine anyb_of ?_ ?_)); all_goals try (conv=>whnf)
      · refine callV_data c1 rfl ?_
        (repeat' (first|refine stp ?_|(with_reducible refine brr ?_ ?_<;>intro h)|(with_reducible refine nilImm_map ?_ ?_<;>intro h)|with_reducible refine anyb_of ?_ ?_)); all_goals try (conv=>whnf)
        refine callV_data c2 rfl ?_
        (repeat' (first|refine stp ?_|(with_reducible refine brr ?_ ?_<;>intro h)|(with_reducible refine nilImm_map ?_ ?_<;>intro h)|with_reducible refine anyb_of ?_ ?_)); all_goals try (conv=>whnf)
        exact ⟨i + 1, ⟨by omega, by show r.lo.length - (i + 1) < r.lo.length - i; omega⟩, [0, _], [], [], [], ⟨trivial, trivial, trivial⟩, ⟨at_ptr (by decide) rfl, at_own (by decide) rfl rfl, at_imm rfl rfl, at_int rfl rfl, at_int rfl rfl, trivial⟩, ⟨blk_box (by decide) rfl rfl rfl rfl rfl, blk_row (by decide) rfl hs (nr_map fun _ => ⟨rfl, by simp [encIv]⟩) rfl, trivial⟩, by simp [ren]⟩
      all_goals (exfalso; omega)
    · (repeat' (first|refine stp ?_|(with_reducible refine brr ?_ ?_<;>intro h)|(with_reducible refine nilImm_map ?_ ?_<;>intro h)|with_reducible refine anyb_of ?_ ?_)); all_goals try (conv=>whnf)
      all_goals try (exfalso; omega)
      exact givesV_to (frz_own_map rfl rfl (by omega) fun q => by rfl) (by rw [List.take_of_length_le (by omega)])
  · rw [show ivR r = [] by unfold ivR; rw [if_neg (dB_false.1 h)]]
    exact givesV_to rfl rfl
theorem ok_rgce1 : FnOk Tryz.prog 87 Tryz.f87 (Tryz.f87.body.getD .skip) [.cell 4 40] 18 := ⟨Tryz.func87, rfl, by decide, Tryz.ntmps87, Tryz.results87, by kernel_rfl, by kernel_rfl⟩
theorem c_rgce1 (r : RegL) (i : Nat) (hr : okReg 100000 r) (hi : i < r.lo.length) (hi2 : i < r.hi.length) : Fn 87 [.int .i64 i, .cptr (encRat (cr halfQ)) 0, .cptr (encReg r) 0] (.data (encRat (cr (halfQ * (qv r.lo[i]! + qv r.hi[i]!))))) := by
  have q1 := okLs_get hr.1 hi
  have q2 := okLs_get hr.2.1 hi2
  have l1 := hr.1.1
  have c1 := c_qadd r.lo[i]! r.hi[i]! q1.1 q2.1 (by have := q1.2; omega) (by have := q1.2; omega) (by have := q2.2; omega) (by have := q2.2; omega)
  have s1 := sz_add (sz_qv q1.1 q1.2.1 q1.2.2 (by decide)) (sz_qv q2.1 q2.2.1 q2.2.2 (by decide))
  have l2 := cr_len s1
  have c2 := c_qmul (cr halfQ) (cr (qv r.lo[i]! + qv r.hi[i]!)) (okR_cr _) (okR_cr _) (by decide +kernel) (by decide +kernel) (by omega) (by omega)
  rw [qv_cr, qv_cr] at c2
  refine fnC_v hmix hT ok_rgce1 (by simp) ?_
  (repeat' (first|refine stp ?_|(with_reducible refine brr ?_ ?_<;>intro h)|(with_reducible refine nilImm_map ?_ ?_<;>intro h)|with_reducible refine anyb_of ?_ ?_)); all_goals try (conv=>whnf)
  refine callV_data c1 rfl ?_
  (repeat' (first|refine stp ?_|(with_reducible refine brr ?_ ?_<;>intro h)|(with_reducible refine nilImm_map ?_ ?_<;>intro h)|with_reducible refine anyb_of ?_ ?_)); all_goals try (conv=>whnf)
  refine callV_data c2 rfl ?_
  (repeat' (first|refine stp ?_|(with_reducible refine brr ?_ ?_<;>intro h)|(with_reducible refine nilImm_map ?_ ?_<;>intro h)|with_reducible refine anyb_of ?_ ?_)); all_goals try (conv=>whnf)
  exact givesV_to rfl rfl
theorem ok_rgcenter : FnOk Tryz.prog 35 Tryz.f35 (Tryz.f35.body.getD .skip) [.tmp 2] 17 := ⟨Tryz.func35, rfl, by decide, Tryz.ntmps35, Tryz.results35, by kernel_rfl, by kernel_rfl⟩
theorem c_rgcenter (r : RegL) (hr : okReg 100000 r) : Fn 35 [encReg r] (.data (.imm ((ceR r).map encX))) := by
  have co := c_rgown r (okReg_le (by decide) hr)
  have l1 := hr.1.1
  refine fnC_v hmix hT ok_rgcenter (by simp [encReg]) ?_
  (repeat' (first|refine stp ?_|(with_reducible refine brr ?_ ?_<;>intro h)|(with_reducible refine nilImm_map ?_ ?_<;>intro h)|with_reducible refine anyb_of ?_ ?_)); all_goals try (conv=>whnf)
  refine callV_data co rfl ?_
  (repeat' (first|refine stp ?_|(with_reducible refine brr ?_ ?_<;>intro h)|(with_reducible refine nilImm_map ?_ ?_<;>intro h)|with_reducible refine anyb_of ?_ ?_)); all_goals try (conv=>whnf)
  · have hva : VaO r := dB_true.1 (by assumption)
    have hlh : r.hi.length = r.lo.length := by have := hva.2.2.1; omega
    have hce : ceR r = (List.range r.lo.length).map fun i => halfQ * (qv r.lo[i]! + qv r.hi[i]!) := by
      unfold ceR; rw [if_pos hva]
      refine List.ext_getElem (by simp [hlh]) fun j h1 h2 => ?_
      have h3 : j < r.lo.length := by simpa using h2
      have h4 : j < r.hi.length := by omega
      simp [h3, h4]
    rw [hce]
    have e1 := c_each2 ((List.range r.lo.length).map fun i => halfQ * (qv r.lo[i]! + qv r.hi[i]!)) 87 (encRat (cr halfQ)) (encReg r) 400000 (by decide) (by simpa using l1) fun i hi => by
      have hi : i < r.lo.length := by simpa using hi
      refine ⟨_, ?_, ?_, c_rgce1 r i hr hi (by omega)⟩
      · have q1 := okLs_get hr.1 hi
        have q2 := okLs_get hr.2.1 (i := i) (by omega)
        exact okQ_cr (sz_le (j := 1 + (100000 + 100000 + 1)) (by decide) (sz_mul sz_half (sz_add (sz_qv q1.1 q1.2.1 q1.2.2 (by decide)) (sz_qv q2.1 q2.2.1 q2.2.2 (by decide)))))
      · rw [qv_cr, get_range hi]
    refine callV_data c_qhalf rfl ?_
    (repeat' (first|refine stp ?_|(with_reducible refine brr ?_ ?_<;>intro h)|(with_reducible refine nilImm_map ?_ ?_<;>intro h)|with_reducible refine anyb_of ?_ ?_)); all_goals try (conv=>whnf)
    refine callV_data e1 (by simp; rfl) ?_
    (repeat' (first|refine stp ?_|(with_reducible refine brr ?_ ?_<;>intro h)|(with_reducible refine nilImm_map ?_ ?_<;>intro h)|with_reducible refine anyb_of ?_ ?_)); all_goals try (conv=>whnf)
    exact givesV_to rfl rfl
  · rw [show ceR r = [] by unfold ceR; rw [if_neg (dB_false.1 h)]]
    exact givesV_to rfl rfl
theorem ok_rgco1 : FnOk Tryz.prog 89 Tryz.f89 (Tryz.f89.body.getD .skip) [.cell 4 40] 24 := ⟨Tryz.func89, rfl, by decide, Tryz.ntmps89, Tryz.results89, by kernel_rfl, by kernel_rfl⟩
theorem c_rgco1 (r : RegL) (b i : Nat) (hr : okReg 400000 r) (hb : b < 18446744073709551616) (hi : i < r.lo.length) (hi2 : i < r.hi.length) : Fn 89 [.int .i64 i, .cptr (.int .u64 b) 0, .cptr (encReg r) 0] (.data (encRat (if bitAt b i then r.hi[i]! else r.lo[i]!))) := by
  have l1 := hr.1.1
  have e1 : i < 64 → bitF .and .u64 ((b : Int).fdiv (shl2 .u64 i)) 1 = ((b / 2 ^ i % 2 : Nat) : Int) := fun h => by
    rw [fdiv_pow (j := i) (by show min (i : Int).toNat 64 = i; omega)]
    have : ((b : Int) / 2 ^ i) = ((b / 2 ^ i : Nat) : Int) := by simp
    rw [this]
    exact bitF_and64 (Nat.lt_of_le_of_lt (Nat.div_le_self _ _) hb)
  refine fnC_v hmix hT ok_rgco1 (by simp) ?_
  (repeat' (first|refine stp ?_|(with_reducible refine brr ?_ ?_<;>intro h)|(with_reducible refine nilImm_map ?_ ?_<;>intro h)|with_reducible refine anyb_of ?_ ?_)); all_goals try (conv=>whnf)
  · have h64 : i < 64 := by omega
    rw [e1 h64] at h
    rw [if_pos (show bitAt b i = true from decide_eq_true ⟨h64, by omega⟩)]
    exact givesV_to rfl rfl
  · have h64 : i < 64 := by omega
    rw [e1 h64] at h
    rw [if_neg (by simp only [bitAt, decide_eq_true_eq]; omega)]
    exact givesV_to rfl rfl
  · rw [if_neg (by simp only [bitAt, decide_eq_true_eq]; omega)]
    exact givesV_to rfl rfl
theorem ok_rgcorner : FnOk Tryz.prog 36 Tryz.f36 (Tryz.f36.body.getD .skip) [.tmp 4] 13 := ⟨Tryz.func36, rfl, by decide, Tryz.ntmps36, Tryz.results36, by kernel_rfl, by kernel_rfl⟩
theorem c_rgcorner (r : RegL) (b : Nat) (hr : okReg 400000 r) (hb : b < 18446744073709551616) : Fn 36 [encReg r, .int .u64 b] (.data (.imm ((coR r b).map encX))) := by
  have co := c_rgown r hr
  have l1 := hr.1.1
  refine fnC_v hmix hT ok_rgcorner (by simp [encReg]) ?_
  (repeat' (first|refine stp ?_|(with_reducible refine brr ?_ ?_<;>intro h)|(with_reducible refine nilImm_map ?_ ?_<;>intro h)|with_reducible refine anyb_of ?_ ?_)); all_goals try (conv=>whnf)
  refine callV_data co rfl ?_
  (repeat' (first|refine stp ?_|(with_reducible refine brr ?_ ?_<;>intro h)|(with_reducible refine nilImm_map ?_ ?_<;>intro h)|with_reducible refine anyb_of ?_ ?_)); all_goals try (conv=>whnf)
  · have hva : VaO r := dB_true.1 (by assumption)
    have hlh : r.hi.length = r.lo.length := by have := hva.2.2.1; omega
    have hce : coR r b = (List.range r.lo.length).map fun i => qv (if bitAt b i then r.hi[i]! else r.lo[i]!) := by
      unfold coR; rw [if_pos hva]
    rw [hce]
    have e1 := c_each2 ((List.range r.lo.length).map fun i => qv (if bitAt b i then r.hi[i]! else r.lo[i]!)) 89 (.int .u64 b) (encReg r) 400000 (by decide) (by simpa using l1) fun i hi => by
      have hi : i < r.lo.length := by simpa using hi
      refine ⟨_, ?_, ?_, c_rgco1 r b i hr hb hi (by omega)⟩
      · split
        · exact okLs_get hr.2.1 (i := i) (by omega)
        · exact okLs_get hr.1 hi
      · rw [get_range hi]
    refine callV_data e1 (by simp; rfl) ?_
    (repeat' (first|refine stp ?_|(with_reducible refine brr ?_ ?_<;>intro h)|(with_reducible refine nilImm_map ?_ ?_<;>intro h)|with_reducible refine anyb_of ?_ ?_)); all_goals try (conv=>whnf)
    exact givesV_to rfl rfl
  · rw [show coR r b = [] by unfold coR; rw [if_neg (dB_false.1 h)]]
    exact givesV_to rfl rfl
end Go.PI.Tryz
namespace Go.PI.Tryz
set_option linter.unnecessarySimpa false
open Go.Proofs Go.PI
set_option linter.unusedSimpArgs false
set_option linter.unusedVariables false
theorem ok_rgcopied : FnOk Tryz.prog 64 Tryz.f64 (Tryz.f64.body.getD .skip) [.tmp 2] 20 := ⟨Tryz.func64, rfl, by decide, Tryz.ntmps64, Tryz.results64, by kernel_rfl, by kernel_rfl⟩
theorem c_rgcopied (rows : List AffL) (n : Int) (k : Nat) (h : okFs k rows) (hk1 : 1 ≤ k) (hk : k ≤ 399980) (hv : ∀ i, i < rows.length → ValidF rows[i]! n) : Fn 64 [.imm (rows.map encAff)] (.data (.imm (rows.map encAff))) := by
  have l1 := h.1
  refine fnC_v hmix hT ok_rgcopied (by simp) ?_
  (repeat' (first|refine stp ?_|(with_reducible refine brr ?_ ?_<;>intro h)|(with_reducible refine nilImm_map ?_ ?_<;>intro h)|with_reducible refine anyb_of ?_ ?_)); all_goals try (conv=>whnf)
  refine loopV_grow hT [(.sl 3, 4, true)] (fun (i : Nat) => [(3, .own 0 0 i), (6, .imm (rows.map encAff)), (7, .int .i64 rows.length), (8, .int .i64 i)]) (fun i => [(0, ⟨(rows.take i).map encAff, 4, true⟩)]) [] 1
    (fun i => i ≤ rows.length) (fun i => rows.length - i) 0 (Nat.zero_le _) (by decide) (by simp) ⟨rfl, trivial⟩ ?_ ?_
  · exact ⟨[_], [], [], [], ⟨trivial, trivial, trivial⟩, ⟨at_own (by decide) rfl rfl, at_imm rfl rfl, at_int rfl (by simp), at_int rfl rfl, trivial⟩, ⟨blk_row (by decide) rfl rfl (nr_map fun _ => ⟨rfl, by simp [encAff]⟩) rfl, trivial⟩, by simp [ren]⟩
  intro i i1
  have hlen : (rows.take i).length = i := by rw [List.length_take]; omega
  by_cases hi : i < rows.length
  · have hva := hv i hi
    have ha := h.2 _ (get_mem hi)
    have c1 := c_qof 1 (by decide)
    have c2 := c_lscale rows[i]!.Q ((1 : Int) : Rat) k 1 (szF_okA ha hk1) (sz_int (by decide)) (by omega) (by rw [Q_len]; exact ha.2.2)
    rw [show ((1 : Int) : Rat) = 1 by rfl, merge_one (okF_of hva).1, ← encF_of hva] at c2
    rw [show ((1 : Int) : Rat) = 1 by rfl] at c1
    have hs : (rows.take i).map encAff ++ [encAff rows[i]!] = (rows.take (i + 1)).map encAff := by
      rw [List.take_succ_eq_append_getElem hi, List.map_append, getElem!_pos rows i hi]; rfl
    (repeat' (first|refine stp ?_|(with_reducible refine brr ?_ ?_<;>intro h)|(with_reducible refine nilImm_map ?_ ?_<;>intro h)|with_reducible refine anyb_of ?_ ?_)); all_goals try (conv=>whnf)
    · refine callV_data c1 rfl ?_
      (repeat' (first|refine stp ?_|(with_reducible refine brr ?_ ?_<;>intro h)|(with_reducible refine nilImm_map ?_ ?_<;>intro h)|with_reducible refine anyb_of ?_ ?_)); all_goals try (conv=>whnf)
      refine callV_data c2 rfl ?_
      (repeat' (first|refine stp ?_|(with_reducible refine brr ?_ ?_<;>intro h)|(with_reducible refine nilImm_map ?_ ?_<;>intro h)|with_reducible refine anyb_of ?_ ?_)); all_goals try (conv=>whnf)
      exact ⟨i + 1, ⟨by omega, by show rows.length - (i + 1) < rows.length - i; omega⟩, [_], [], [], [], ⟨trivial, trivial, trivial⟩, ⟨at_own (by decide) rfl rfl, at_imm rfl rfl, at_int rfl rfl, at_int rfl rfl, trivial⟩, ⟨blk_row (by decide) rfl hs (nr_map fun _ => ⟨rfl, by simp [encAff]⟩) rfl, trivial⟩, by simp [ren]⟩
    all_goals (exfalso; omega)
  · (repeat' (first|refine stp ?_|(with_reducible refine brr ?_ ?_<;>intro h)|(with_reducible refine nilImm_map ?_ ?_<;>intro h)|with_reducible refine anyb_of ?_ ?_)); all_goals try (conv=>whnf)
    all_goals try (exfalso; omega)
    exact givesV_to (frz_own_map rfl rfl (by omega) fun q => by rfl) (by rw [List.take_of_length_le (by omega)])
theorem ok_rgba1 : FnOk Tryz.prog 81 Tryz.f81 (Tryz.f81.body.getD .skip) [.cell 5 40] 18 := ⟨Tryz.func81, rfl, by decide, Tryz.ntmps81, Tryz.results81, by kernel_rfl, by kernel_rfl⟩
theorem c_rgba1 (r : RegL) (c : List RatL) (d : RatL) (i : Nat) (hr : okReg 100000 r) (hc : okLs 100000 c) (hd : okQ 100000 d) (hi : i < r.lo.length) (hi2 : i < c.length) : Fn 81 [.int .i64 i, .cptr (encReg r) 0, .cptr (.imm (c.map encRat)) 0, .cptr (encRat d) 0] (.data (encRat (cr (maxQ (qv r.lo[i]!) (qv c[i]! - qv d))))) := by
  have q1 := okLs_get hr.1 hi
  have q2 := okLs_get hc hi2
  have l1 := hr.1.1
  have l2 := hc.1
  have c1 := c_qsub c[i]! d q2.1 hd.1 (by have := q2.2; omega) (by have := q2.2; omega) (by have := hd.2; omega) (by have := hd.2; omega)
  have s1 := okQ_cr (sz_sub (sz_qv q2.1 q2.2.1 q2.2.2 (by decide)) (sz_qv hd.1 hd.2.1 hd.2.2 (by decide)))
  have c2 := c_qmax r.lo[i]! (cr (qv c[i]! - qv d)) 200001 (okQ_le (by decide) q1) s1 (by decide)
  rw [qv_cr] at c2
  refine fnC_v hmix hT ok_rgba1 (by simp) ?_
  (repeat' (first|refine stp ?_|(with_reducible refine brr ?_ ?_<;>intro h)|(with_reducible refine nilImm_map ?_ ?_<;>intro h)|with_reducible refine anyb_of ?_ ?_)); all_goals try (conv=>whnf)
  refine callV_data c1 rfl ?_
  (repeat' (first|refine stp ?_|(with_reducible refine brr ?_ ?_<;>intro h)|(with_reducible refine nilImm_map ?_ ?_<;>intro h)|with_reducible refine anyb_of ?_ ?_)); all_goals try (conv=>whnf)
  refine callV_data c2 rfl ?_
  (repeat' (first|refine stp ?_|(with_reducible refine brr ?_ ?_<;>intro h)|(with_reducible refine nilImm_map ?_ ?_<;>intro h)|with_reducible refine anyb_of ?_ ?_)); all_goals try (conv=>whnf)
  exact givesV_to rfl rfl
theorem ok_rgba2 : FnOk Tryz.prog 83 Tryz.f83 (Tryz.f83.body.getD .skip) [.cell 5 40] 18 := ⟨Tryz.func83, rfl, by decide, Tryz.ntmps83, Tryz.results83, by kernel_rfl, by kernel_rfl⟩
theorem c_rgba2 (r : RegL) (c : List RatL) (d : RatL) (i : Nat) (hr : okReg 100000 r) (hc : okLs 100000 c) (hd : okQ 100000 d) (hi : i < r.hi.length) (hi2 : i < c.length) : Fn 83 [.int .i64 i, .cptr (encReg r) 0, .cptr (.imm (c.map encRat)) 0, .cptr (encRat d) 0] (.data (encRat (cr (minQ (qv r.hi[i]!) (qv c[i]! + qv d))))) := by
  have q1 := okLs_get hr.2.1 hi
  have q2 := okLs_get hc hi2
  have l1 := hr.2.1.1
  have l2 := hc.1
  have c1 := c_qadd c[i]! d q2.1 hd.1 (by have := q2.2; omega) (by have := q2.2; omega) (by have := hd.2; omega) (by have := hd.2; omega)
  have s1 := okQ_cr (sz_add (sz_qv q2.1 q2.2.1 q2.2.2 (by decide)) (sz_qv hd.1 hd.2.1 hd.2.2 (by decide)))
  have c2 := c_qmin r.hi[i]! (cr (qv c[i]! + qv d)) 200001 (okQ_le (by decide) q1) s1 (by decide)
  rw [qv_cr] at c2
  refine fnC_v hmix hT ok_rgba2 (by simp) ?_
  (repeat' (first|refine stp ?_|(with_reducible refine brr ?_ ?_<;>intro h)|(with_reducible refine nilImm_map ?_ ?_<;>intro h)|with_reducible refine anyb_of ?_ ?_)); all_goals try (conv=>whnf)
  refine callV_data c1 rfl ?_
  (repeat' (first|refine stp ?_|(with_reducible refine brr ?_ ?_<;>intro h)|(with_reducible refine nilImm_map ?_ ?_<;>intro h)|with_reducible refine anyb_of ?_ ?_)); all_goals try (conv=>whnf)
  refine callV_data c2 rfl ?_
  (repeat' (first|refine stp ?_|(with_reducible refine brr ?_ ?_<;>intro h)|(with_reducible refine nilImm_map ?_ ?_<;>intro h)|with_reducible refine anyb_of ?_ ?_)); all_goals try (conv=>whnf)
  exact givesV_to rfl rfl
theorem bal_reg {r : RegL} {c : List RatL} {d : RatL} {k : Nat} (hr : okReg k r) (hc : okLs k c) (hd : okQ k d) (hk : 1 ≤ k) (h1 : r.hi.length = r.lo.length) (h2 : c.length = r.lo.length) : okReg (2 * k + 1) (balR r c d) := by
  refine ⟨⟨by simpa [balR, balLo] using hr.1.1, fun x hx => ?_⟩, ⟨by simpa [balR, balHi] using hr.1.1, fun x hx => ?_⟩, fun f hf => okA_le (by omega) (hr.2.2.1 f hf), hr.2.2.2⟩
  · simp only [balR, balLo, List.map_map, List.mem_map, List.mem_range, Function.comp] at hx
    obtain ⟨i, hi, rfl⟩ := hx
    have q1 := okLs_get hr.1 hi
    have q2 := okLs_get hc (i := i) (by omega)
    exact okQ_cr (sz_max (sz_le (by omega) (sz_qv q1.1 q1.2.1 q1.2.2 hk)) (sz_le (by omega) (sz_sub (sz_qv q2.1 q2.2.1 q2.2.2 hk) (sz_qv hd.1 hd.2.1 hd.2.2 hk))))
  · simp only [balR, balHi, List.map_map, List.mem_map, List.mem_range, Function.comp] at hx
    obtain ⟨i, hi, rfl⟩ := hx
    have q1 := okLs_get hr.2.1 (i := i) (by omega)
    have q2 := okLs_get hc (i := i) (by omega)
    exact okQ_cr (sz_min (sz_le (by omega) (sz_qv q1.1 q1.2.1 q1.2.2 hk)) (sz_le (by omega) (sz_add (sz_qv q2.1 q2.2.1 q2.2.2 hk) (sz_qv hd.1 hd.2.1 hd.2.2 hk))))
theorem ok_rgball : FnOk Tryz.prog 31 Tryz.f31 (Tryz.f31.body.getD .skip) [.cell 6 25, .tmp 7] 44 := ⟨Tryz.func31, rfl, by decide, Tryz.ntmps31, Tryz.results31, by kernel_rfl, by kernel_rfl⟩
theorem c_rgball (r : RegL) (c : List RatL) (d : RatL) (hr : okReg 100000 r) (hc : okLs 100000 c) (hd : okQ 100000 d) : Fn 31 [.imm (c.map encRat), encRat d, encReg r] (.data (.tup [encReg (balV r c d).1, .int .i64 (balV r c d).2])) := by
  have co := c_rgown r (okReg_le (by decide) hr)
  have cs := c_qsign d hd.1 (by have := hd.2; omega)
  have l1 := hr.1.1
  have l2 := hc.1
  have no : ¬ balOk r c d → balV r c d = (zeroR, 1) := fun h => by unfold balV; rw [if_neg h]
  refine fnC_v hmix hT ok_rgball (by simp [encReg]) ?_
  (repeat' (first|refine stp ?_|(with_reducible refine brr ?_ ?_<;>intro h)|(with_reducible refine nilImm_map ?_ ?_<;>intro h)|with_reducible refine anyb_of ?_ ?_)); all_goals try (conv=>whnf)
  refine callV_data co rfl ?_
  (repeat' (first|refine stp ?_|(with_reducible refine brr ?_ ?_<;>intro h)|(with_reducible refine nilImm_map ?_ ?_<;>intro h)|with_reducible refine anyb_of ?_ ?_)); all_goals try (conv=>whnf)
  · rw [no fun e => by have := e.2.1; omega]
    exact givesV_to rfl rfl
  · refine callV_data cs rfl ?_
    (repeat' (first|refine stp ?_|(with_reducible refine brr ?_ ?_<;>intro h)|(with_reducible refine nilImm_map ?_ ?_<;>intro h)|with_reducible refine anyb_of ?_ ?_)); all_goals try (conv=>whnf)
    · rw [no fun e => by have := sgnQ_neg.1 h; have := e.2.2; grind]
      exact givesV_to rfl rfl
    · have hva : VaO r := dB_true.1 (by assumption)
      have hlen : c.length = r.lo.length := by omega
      have hlh : r.hi.length = r.lo.length := by have := hva.2.2.1; omega
      have hok : balOk r c d := ⟨hva, hlen, Rat.not_lt.1 fun e => by have := sgnQ_neg.2 e; omega⟩
      have hyes : balV r c d = if dB (emR (balR r c d)) = true then (zeroR, 10) else (balR r c d, 0) := by
        unfold balV; rw [if_pos hok]
        by_cases he : emR (balR r c d)
        · rw [if_pos he, if_pos (dB_true.2 he)]
        · rw [if_neg he, if_neg (fun e => he (dB_true.1 e))]
      rw [hyes]
      have cc := c_rgcopied r.rows r.lo.length 100000 ⟨hr.2.2.2, hr.2.2.1⟩ (by decide) (by decide) hva.2.2.2.2.2
      have e1 := c_each3 (balLo r c d) 81 (encReg r) (.imm (c.map encRat)) (encRat d) 400000 (by decide) (by simpa [balLo] using l1) fun i hi => by
        have hi : i < r.lo.length := by simpa [balLo] using hi
        have hR := (bal_reg hr hc hd (by decide) hlh hlen).1
        have := okLs_get hR (i := i) (by simpa [balR, balLo] using hi)
        refine ⟨_, okQ_le (by decide) this, ?_, ?_⟩
        · show qv ((balLo r c d).map cr)[i]! = _
          rw [getD_map_cr (by simpa [balLo] using hi), qv_cr]
        · show Fn _ _ (.data (encRat ((balLo r c d).map cr)[i]!))
          rw [getD_map_cr (by simpa [balLo] using hi)]
          unfold balLo
          rw [get_range hi]
          exact c_rgba1 r c d i hr hc hd hi (by omega)
      have e2 := c_each3 (balHi r c d) 83 (encReg r) (.imm (c.map encRat)) (encRat d) 400000 (by decide) (by simpa [balHi] using l1) fun i hi => by
        have hi : i < r.lo.length := by simpa [balHi] using hi
        have hR := (bal_reg hr hc hd (by decide) hlh hlen).2.1
        have := okLs_get hR (i := i) (by simpa [balR, balHi] using hi)
        refine ⟨_, okQ_le (by decide) this, ?_, ?_⟩
        · show qv ((balHi r c d).map cr)[i]! = _
          rw [getD_map_cr (by simpa [balHi] using hi), qv_cr]
        · show Fn _ _ (.data (encRat ((balHi r c d).map cr)[i]!))
          rw [getD_map_cr (by simpa [balHi] using hi)]
          unfold balHi
          rw [get_range hi]
          exact c_rgba2 r c d i hr hc hd (by omega) (by omega)
      rw [show (balLo r c d).length = c.length by simp [balLo, hlen]] at e1
      rw [show (balHi r c d).length = c.length by simp [balHi, hlen]] at e2
      have ce := c_rgempty (balR r c d) (okReg_le (by decide) (bal_reg hr hc hd (by decide) hlh hlen)) (by simp [balR, balLo, balHi])
      have eb : encReg (balR r c d) = .agg [.imm ((balLo r c d).map encX), .imm ((balHi r c d).map encX), .imm (r.rows.map encAff)] := by
        unfold encReg balR; simp only [List.map_map]; rfl
      rw [eb] at ce
      refine callV_data cc rfl ?_
      (repeat' (first|refine stp ?_|(with_reducible refine brr ?_ ?_<;>intro h)|(with_reducible refine nilImm_map ?_ ?_<;>intro h)|with_reducible refine anyb_of ?_ ?_)); all_goals try (conv=>whnf)
      refine callV_data e1 (by simp; rfl) ?_
      (repeat' (first|refine stp ?_|(with_reducible refine brr ?_ ?_<;>intro h)|(with_reducible refine nilImm_map ?_ ?_<;>intro h)|with_reducible refine anyb_of ?_ ?_)); all_goals try (conv=>whnf)
      refine callV_data e2 (by simp; rfl) ?_
      (repeat' (first|refine stp ?_|(with_reducible refine brr ?_ ?_<;>intro h)|(with_reducible refine nilImm_map ?_ ?_<;>intro h)|with_reducible refine anyb_of ?_ ?_)); all_goals try (conv=>whnf)
      refine callV_data ce rfl ?_
      (repeat' (first|refine stp ?_|(with_reducible refine brr ?_ ?_<;>intro h)|(with_reducible refine nilImm_map ?_ ?_<;>intro h)|with_reducible refine anyb_of ?_ ?_)); all_goals try (conv=>whnf)
      · rw [if_pos h]
        exact givesV_to rfl rfl
      · rw [if_neg (by rw [h]; decide), eb]
        exact givesV_to rfl rfl
  · rw [no fun e => dB_false.1 h e.1]
    exact givesV_to rfl rfl
theorem c_eachB (ys : List Rat) (g : FuncId) (v : PV) (hv : nr 3 v = true) (hst : v.storable = true) (k sz : Nat) (agg : Bool) (hk : k ≤ 2097100) (hl : ys.length ≤ 1048576) (hp : ∀ i, i < ys.length → ∃ x, okQ k x ∧ qv x = ys[i]! ∧ Fn g [.int .i64 i, .ptr 0 0 0] (.wrt ⟨[v], sz, agg⟩ (encRat x) ⟨[v], sz, agg⟩)) :
    Fn 53 [.int .i64 ys.length, .func (.func g) [] [.ptr 0 0 0]] (.wrt ⟨[v], sz, agg⟩ (.imm (ys.map encX)) ⟨[v], sz, agg⟩) := by
  refine fnC_vmut hmix hT ok_each (by simp) ?_
  (repeat' (first|refine stp ?_|(with_reducible refine brr ?_ ?_<;>intro h)|(with_reducible refine nilImm_map ?_ ?_<;>intro h)|with_reducible refine anyb_of ?_ ?_)); all_goals try (conv=>whnf)
  refine loopV_grow hT [(.sl 5, 3, true)] (fun (i : Nat) => [(1, .func (.func g) [] [.ptr 0 0 0]), (5, .own 1 0 i), (7, .int .i64 ys.length), (8, .int .i64 i)]) (fun i => [(0, ⟨[v], sz, agg⟩), (1, ⟨(ys.take i).map encX, 3, true⟩)]) [] 2
    (fun i => i ≤ ys.length) (fun i => ys.length - i) 0 (Nat.zero_le _) (by decide) (by simp) ⟨rfl, trivial⟩ ?_ ?_
  · exact ⟨[_], [], [], [], ⟨trivial, trivial, trivial⟩, ⟨at_fun1 (by decide) rfl, at_own (by decide) rfl rfl, at_int rfl rfl, at_int rfl rfl, trivial⟩, ⟨blk_box (by decide) rfl rfl hv hst rfl, blk_row (by decide) rfl rfl (nr_map fun _ => ⟨rfl, by simp [encX, encRat]⟩) rfl, trivial⟩, by simp [ren]⟩
  intro i i1
  have hlen : (ys.take i).length = i := by rw [List.length_take]; omega
  by_cases hi : i < ys.length
  · obtain ⟨x, hx, hv2, hc⟩ := hp i hi
    have cc := c_qcanon x hx.1 (by have := hx.2; omega) (by have := hx.2; omega)
    rw [hv2] at cc
    (repeat' (first|refine stp ?_|(with_reducible refine brr ?_ ?_<;>intro h)|(with_reducible refine nilImm_map ?_ ?_<;>intro h)|with_reducible refine anyb_of ?_ ?_)); all_goals try (conv=>whnf)
    · refine callV_bor (r := 0) hc rfl rfl rfl rfl (fun e he => by simp at he; subst he; exact hv) ?_
      (repeat' (first|refine stp ?_|(with_reducible refine brr ?_ ?_<;>intro h)|(with_reducible refine nilImm_map ?_ ?_<;>intro h)|with_reducible refine anyb_of ?_ ?_)); all_goals try (conv=>whnf)
      refine callV_data cc rfl ?_
      (repeat' (first|refine stp ?_|(with_reducible refine brr ?_ ?_<;>intro h)|(with_reducible refine nilImm_map ?_ ?_<;>intro h)|with_reducible refine anyb_of ?_ ?_)); all_goals try (conv=>whnf)
      exact ⟨i + 1, ⟨by omega, by show ys.length - (i + 1) < ys.length - i; omega⟩, [_], [], [], [], ⟨trivial, trivial, trivial⟩, ⟨at_fun1 (by decide) rfl, at_own (by decide) rfl rfl, at_int rfl rfl, at_int rfl rfl, trivial⟩, ⟨blk_box (by decide) rfl rfl hv hst rfl, blk_row (by decide) rfl (take_snoc hi) (nr_map fun _ => ⟨rfl, by simp [encX, encRat]⟩) rfl, trivial⟩, by simp [ren]⟩
    all_goals (exfalso; omega)
  · obtain rfl : i = ys.length := by omega
    (repeat' (first|refine stu ?_|(with_reducible refine brr ?_ ?_<;>intro h)|(with_reducible refine nilImm_map ?_ ?_<;>intro h)|with_reducible refine anyb_of ?_ ?_)); all_goals try (conv=>whnf)
    refine r_thenL ?_
    (repeat' (first|refine stu ?_|(with_reducible refine brr ?_ ?_<;>intro h)|(with_reducible refine nilImm_map ?_ ?_<;>intro h)|with_reducible refine anyb_of ?_ ?_)); all_goals try (conv=>whnf)
    · exfalso; omega
    refine r_thenL ?_
    (repeat' (first|refine stu ?_|(with_reducible refine brr ?_ ?_<;>intro h)|(with_reducible refine nilImm_map ?_ ?_<;>intro h)|with_reducible refine anyb_of ?_ ?_)); all_goals try (conv=>whnf)
    refine tellV [] [(4, .imm (ys.map encX))] [(0, ⟨[v], sz, agg⟩)] [] 1 (by decide) (by simp) trivial ⟨[], [1], [(4, .imm (ys.map encX))], [], ⟨⟨⟨_, rfl⟩, trivial⟩, ⟨⟨4, [1], ?_, rfl⟩, trivial⟩, trivial⟩, ⟨at_imm rfl rfl, trivial⟩, ⟨blk_box (by decide) rfl rfl hv hst rfl, trivial⟩, by simp [ren]⟩ ?_
    · exact frz_own_map (f := encX) (l := ys) rfl (by rw [List.take_length]) rfl fun q => frz_rat (cr q)
    (repeat' (first|refine stp ?_|(with_reducible refine brr ?_ ?_<;>intro h)|(with_reducible refine nilImm_map ?_ ?_<;>intro h)|with_reducible refine anyb_of ?_ ?_)); all_goals try (conv=>whnf)
    exact mutV_to rfl rfl rfl rfl rfl (fun e he => by simp at he; subst he; exact hv)
theorem ok_rgcl1 : FnOk Tryz.prog 68 Tryz.f68 (Tryz.f68.body.getD .skip) [.cell 3 40] 9 := ⟨Tryz.func68, rfl, by decide, Tryz.ntmps68, Tryz.results68, by kernel_rfl, by kernel_rfl⟩
theorem c_rgcl1 (r : RegL) (i : Nat) (hi : i < r.lo.length) : Fn 68 [.int .i64 i, .ptr 0 0 0] (.wrt ⟨[encReg r], 3, true⟩ (encRat r.lo[i]!) ⟨[encReg r], 3, true⟩) := by
  refine fnC_vmut hmix hT ok_rgcl1 (by simp) ?_
  (repeat' (first|refine stp ?_|(with_reducible refine brr ?_ ?_<;>intro h)|(with_reducible refine nilImm_map ?_ ?_<;>intro h)|with_reducible refine anyb_of ?_ ?_)); all_goals try (conv=>whnf)
  exact mutV_to rfl rfl rfl rfl rfl (fun e he => by simp at he; subst he; rfl)
theorem ok_rgcl2 : FnOk Tryz.prog 69 Tryz.f69 (Tryz.f69.body.getD .skip) [.cell 3 40] 9 := ⟨Tryz.func69, rfl, by decide, Tryz.ntmps69, Tryz.results69, by kernel_rfl, by kernel_rfl⟩
theorem c_rgcl2 (r : RegL) (i : Nat) (hi : i < r.hi.length) : Fn 69 [.int .i64 i, .ptr 0 0 0] (.wrt ⟨[encReg r], 3, true⟩ (encRat r.hi[i]!) ⟨[encReg r], 3, true⟩) := by
  refine fnC_vmut hmix hT ok_rgcl2 (by simp) ?_
  (repeat' (first|refine stp ?_|(with_reducible refine brr ?_ ?_<;>intro h)|(with_reducible refine nilImm_map ?_ ?_<;>intro h)|with_reducible refine anyb_of ?_ ?_)); all_goals try (conv=>whnf)
  exact mutV_to rfl rfl rfl rfl rfl (fun e he => by simp at he; subst he; rfl)
theorem ok_clonerat : FnOk Tryz.prog 63 Tryz.f63 (Tryz.f63.body.getD .skip) [.tmp 2] 8 := ⟨Tryz.func63, rfl, by decide, Tryz.ntmps63, Tryz.results63, by kernel_rfl, by kernel_rfl⟩
theorem c_clonerat (l : List RatL) (hl : l.length ≤ 1048576) : Fn 63 [.imm (l.map encRat)] (.fresh (l.map encRat) 3 true) := by
  refine fnC_vown hmix hT ok_clonerat (by simp) ?_
  (repeat' (first|refine stp ?_|(with_reducible refine brr ?_ ?_<;>intro h)|(with_reducible refine nilImm_map ?_ ?_<;>intro h)|with_reducible refine anyb_of ?_ ?_)); all_goals try (conv=>whnf)
  · subst h
    exact givesOwnV_nil
  all_goals refine givesOwnV_to rfl rfl ?_ rfl (frz_map (fun x => frz_rat x) _)
  all_goals simp
theorem cli_reg {r : RegL} {d : DecL} {k : Nat} (hr : okReg k r) (hd : okQ k d.rat) (hk : 1 ≤ k) (h : d.index.toNat < r.lo.length) (h1 : r.hi.length = r.lo.length) : okReg k (cliR r d) ∧ (cliR r d).lo.length = r.lo.length ∧ (cliR r d).hi.length = r.lo.length := by
  have q1 := okLs_get hr.1 h
  have q2 := okLs_get hr.2.1 (i := d.index.toNat) (by omega)
  have s1 := sz_qv q1.1 q1.2.1 q1.2.2 hk
  have s2 := sz_qv q2.1 q2.2.1 q2.2.2 hk
  have s3 := sz_qv hd.1 hd.2.1 hd.2.2 hk
  have hset : ∀ {l : List RatL} {i : Nat} {q : Rat}, okLs k l → sz k q → okLs k (l.set i (cr q)) := fun {l i q} hl hq => ⟨by simpa using hl.1, fun x hx => by
    rcases List.mem_or_eq_of_mem_set hx with hx | rfl
    · exact hl.2 x hx
    · exact okQ_cr hq⟩
  unfold cliR
  by_cases e : d.kind = 3
  · simp only [e, if_true]
    refine ⟨⟨hset hr.1 (sz_max s1 s3), hr.2.1, hr.2.2⟩, by simp, h1⟩
  · simp only [e, if_false]
    refine ⟨⟨hr.1, hset hr.2.1 (sz_min s2 s3), hr.2.2⟩, by simp, by simp [h1]⟩
theorem ok_rgclip : FnOk Tryz.prog 22 Tryz.f22 (Tryz.f22.body.getD .skip) [.cell 4 25, .tmp 5] 91 := ⟨Tryz.func22, rfl, by decide, Tryz.ntmps22, Tryz.results22, by kernel_rfl, by kernel_rfl⟩
theorem c_rgclip (r : RegL) (d : DecL) (hr : okReg 100000 r) (hd : okQ 100000 d.rat) : Fn 22 [encReg r, encDec d] (.data (.tup [encReg (cliV r d).1, .int .i64 (cliV r d).2])) := by
  have co := c_rgown r (okReg_le (by decide) hr)
  have l1 := hr.1.1
  have l2 := hr.2.1.1
  have no : ¬ cliOk r d → cliV r d = (zeroR, 1) := fun h => by unfold cliV; rw [if_neg h]
  by_cases hok : cliOk r d
  rotate_left
  · rw [no hok]
    refine fnC_v hmix hT ok_rgclip (by simp [encReg, encDec]) ?_
    (repeat' (first|refine stp ?_|(with_reducible refine brr ?_ ?_<;>intro h)|(with_reducible refine nilImm_map ?_ ?_<;>intro h)|with_reducible refine anyb_of ?_ ?_)); all_goals try (conv=>whnf)
    refine callV_data co rfl ?_
    (repeat' (first|refine stp ?_|(with_reducible refine brr ?_ ?_<;>intro h)|(with_reducible refine nilImm_map ?_ ?_<;>intro h)|with_reducible refine anyb_of ?_ ?_)); all_goals try (conv=>whnf)
    all_goals first | exact givesV_to rfl rfl | (exfalso; exact hok ⟨dB_true.1 (by assumption), by omega, by omega, by omega⟩)
  have hva := hok.1
  rw [dB_true.2 hva] at co
  have hlh : r.hi.length = r.lo.length := by have := hva.2.2.1; omega
  have hi0 := hok.2.2
  have hj : d.index.toNat < r.lo.length := by omega
  have hj2 : d.index.toNat < r.hi.length := by omega
  have q1 := okLs_get hr.1 hj
  have q2 := okLs_get hr.2.1 hj2
  have c1 := c_clonerat r.lo l1
  have c2 := c_clonerat r.hi l2
  have cc := c_rgcopied r.rows r.lo.length 100000 ⟨hr.2.2.2, hr.2.2.1⟩ (by decide) (by decide) hva.2.2.2.2.2
  have m1 := c_qmax r.lo[d.index.toNat]! d.rat 100000 q1 hd (by decide)
  have m2 := c_qmin r.hi[d.index.toNat]! d.rat 100000 q2 hd (by decide)
  obtain ⟨g1, g2, g3⟩ := cli_reg hr hd (by decide) hj hlh
  have ce := c_rgempty (cliR r d) (okReg_le (by decide) g1) (by omega)
  have hyes : cliV r d = if dB (emR (cliR r d)) = true then (zeroR, 10) else (cliR r d, 0) := by
    unfold cliV; rw [if_pos hok]
    by_cases he : emR (cliR r d)
    · rw [if_pos he, if_pos (dB_true.2 he)]
    · rw [if_neg he, if_neg (fun e => he (dB_true.1 e))]
  rw [hyes]
  have e1 := c_eachB ((cliR r d).lo.map qv) 68 (encReg (cliR r d)) rfl rfl 100000 3 true (by decide) (by rw [List.length_map, g2]; exact l1) fun i hi => by
    have hi : i < (cliR r d).lo.length := by simpa using hi
    exact ⟨_, okLs_get g1.1 hi, (getD_map_qv hi).symm, c_rgcl1 _ i hi⟩
  have e2 := c_eachB ((cliR r d).hi.map qv) 69 (encReg (cliR r d)) rfl rfl 100000 3 true (by decide) (by rw [List.length_map, g3]; exact l1) fun i hi => by
    have hi : i < (cliR r d).hi.length := by simpa using hi
    exact ⟨_, okLs_get g1.2.1 hi, (getD_map_qv hi).symm, c_rgcl2 _ i hi⟩
  have hcl : canL (cliR r d).lo ∧ canL (cliR r d).hi := by
    obtain ⟨k1, k2⟩ := canL_lo hva
    have hset : ∀ {l : List RatL} {i : Nat} {q : Rat}, canL l → canL (l.set i (cr q)) := fun {l i q} hl x hx => by
      rcases List.mem_or_eq_of_mem_set hx with hx | rfl
      · exact hl x hx
      · rw [qv_cr]
    unfold cliR
    by_cases e : d.kind = 3
    · simp only [e, if_true]; exact ⟨hset k1, k2⟩
    · simp only [e, if_false]; exact ⟨k1, hset k2⟩
  rw [← encL_of hcl.1, show ((cliR r d).lo.map qv).length = ((cliR r d).lo.map encRat).length by simp] at e1
  rw [← encL_of hcl.2, show ((cliR r d).hi.map qv).length = ((cliR r d).hi.map encRat).length by simp] at e2
  rcases hok.2.1 with hk | hk
  · have hlo : (r.lo.map encRat).set (0 + d.index.toNat) (encRat (cr (maxQ (qv r.lo[d.index.toNat]!) (qv d.rat)))) = (cliR r d).lo.map encRat := by simp [cliR, hk, List.map_set]
    have hhi : r.hi.map encRat = (cliR r d).hi.map encRat := by simp [cliR, hk]
    refine fnC_v hmix hT ok_rgclip (by simp [encReg, encDec]) ?_
    (repeat' (first|refine stp ?_|(with_reducible refine brr ?_ ?_<;>intro h)|(with_reducible refine nilImm_map ?_ ?_<;>intro h)|with_reducible refine anyb_of ?_ ?_)); all_goals try (conv=>whnf)
    refine callV_data co rfl ?_
    (repeat' (first|refine stp ?_|(with_reducible refine brr ?_ ?_<;>intro h)|(with_reducible refine nilImm_map ?_ ?_<;>intro h)|with_reducible refine anyb_of ?_ ?_)); all_goals try (conv=>whnf)
    all_goals try (exfalso; omega)
    refine callV_fresh c1 rfl ?_
    (repeat' (first|refine stp ?_|(with_reducible refine brr ?_ ?_<;>intro h)|(with_reducible refine nilImm_map ?_ ?_<;>intro h)|with_reducible refine anyb_of ?_ ?_)); all_goals try (conv=>whnf)
    refine callV_fresh c2 rfl ?_
    (repeat' (first|refine stp ?_|(with_reducible refine brr ?_ ?_<;>intro h)|(with_reducible refine nilImm_map ?_ ?_<;>intro h)|with_reducible refine anyb_of ?_ ?_)); all_goals try (conv=>whnf)
    refine callV_data cc rfl ?_
    (repeat' (first|refine stp ?_|(with_reducible refine brr ?_ ?_<;>intro h)|(with_reducible refine nilImm_map ?_ ?_<;>intro h)|with_reducible refine anyb_of ?_ ?_)); all_goals try (conv=>whnf)
    all_goals try (exfalso; omega)
    refine oK_map' (j := d.index.toNat) (by omega) hj ?_
    (repeat' (first|refine stp ?_|(with_reducible refine brr ?_ ?_<;>intro h)|(with_reducible refine nilImm_map ?_ ?_<;>intro h)|with_reducible refine anyb_of ?_ ?_)); all_goals try (conv=>whnf)
    refine callV_data m1 rfl ?_
    (repeat' (first|refine stu ?_|(with_reducible refine brr ?_ ?_<;>intro h)|(with_reducible refine nilImm_map ?_ ?_<;>intro h)|with_reducible refine anyb_of ?_ ?_)); all_goals try (conv=>whnf)
    refine oK_atN d.index.toNat (by omega) hj ?_
    (repeat' (first|refine stu ?_|(with_reducible refine brr ?_ ?_<;>intro h)|(with_reducible refine nilImm_map ?_ ?_<;>intro h)|with_reducible refine anyb_of ?_ ?_)); all_goals try (conv=>whnf)
    refine tellV [] [(4, .ptr 0 0 0), (6, .ptr 1 0 0)] [(0, ⟨[.agg [.nilsl, .nilsl, .nilsl]], 3, true⟩), (1, ⟨[encReg (cliR r d)], 3, true⟩)] [] 2 (by decide) (by simp) trivial
      ⟨[_, _], [32, 35], [], [(40, [encReg (cliR r d)])], ⟨⟨⟨_, rfl⟩, ⟨_, rfl⟩, trivial⟩, trivial, ⟨⟨_, 6, _, rfl, mapF_cons (frz_aggL (mapF_cons (frz_own_map (f := encRat) (l := (cliR r d).lo) rfl hlo (by rw [g2]; simp) frz_rat) (mapF_cons (frz_own_map (f := encRat) (l := (cliR r d).hi) rfl hhi (by rw [g3]; simp [hlh]) frz_rat) rfl))) rfl, rfl⟩, trivial⟩⟩,
        ⟨at_ptr (by decide) rfl, at_ptr (by decide) rfl, trivial⟩, ⟨blk_box (by decide) rfl rfl rfl rfl rfl, blk_box (by decide) rfl rfl rfl rfl rfl, trivial⟩, by simp [ren]⟩ ?_
    (repeat' (first|refine stp ?_|(with_reducible refine brr ?_ ?_<;>intro h)|(with_reducible refine nilImm_map ?_ ?_<;>intro h)|with_reducible refine anyb_of ?_ ?_)); all_goals try (conv=>whnf)
    refine callV_data ce rfl ?_
    (repeat' (first|refine stp ?_|(with_reducible refine brr ?_ ?_<;>intro h)|(with_reducible refine nilImm_map ?_ ?_<;>intro h)|with_reducible refine anyb_of ?_ ?_)); all_goals try (conv=>whnf)
    · rw [if_pos h]
      exact givesV_to rfl rfl
    · rw [if_neg (by rw [h]; decide)]
      refine callV_bor (r := 1) e1 rfl rfl rfl rfl (fun e he => by simp at he; subst he; rfl) ?_
      (repeat' (first|refine stp ?_|(with_reducible refine brr ?_ ?_<;>intro h)|(with_reducible refine nilImm_map ?_ ?_<;>intro h)|with_reducible refine anyb_of ?_ ?_)); all_goals try (conv=>whnf)
      refine callV_bor (r := 1) e2 rfl rfl rfl rfl (fun e he => by simp at he; subst he; rfl) ?_
      (repeat' (first|refine stp ?_|(with_reducible refine brr ?_ ?_<;>intro h)|(with_reducible refine nilImm_map ?_ ?_<;>intro h)|with_reducible refine anyb_of ?_ ?_)); all_goals try (conv=>whnf)
      exact givesV_to rfl rfl
  · have hlo : r.lo.map encRat = (cliR r d).lo.map encRat := by simp [cliR, hk]
    have hhi : (r.hi.map encRat).set (0 + d.index.toNat) (encRat (cr (minQ (qv r.hi[d.index.toNat]!) (qv d.rat)))) = (cliR r d).hi.map encRat := by simp [cliR, hk, List.map_set]
    refine fnC_v hmix hT ok_rgclip (by simp [encReg, encDec]) ?_
    (repeat' (first|refine stp ?_|(with_reducible refine brr ?_ ?_<;>intro h)|(with_reducible refine nilImm_map ?_ ?_<;>intro h)|with_reducible refine anyb_of ?_ ?_)); all_goals try (conv=>whnf)
    refine callV_data co rfl ?_
    (repeat' (first|refine stp ?_|(with_reducible refine brr ?_ ?_<;>intro h)|(with_reducible refine nilImm_map ?_ ?_<;>intro h)|with_reducible refine anyb_of ?_ ?_)); all_goals try (conv=>whnf)
    all_goals try (exfalso; omega)
    refine callV_fresh c1 rfl ?_
    (repeat' (first|refine stp ?_|(with_reducible refine brr ?_ ?_<;>intro h)|(with_reducible refine nilImm_map ?_ ?_<;>intro h)|with_reducible refine anyb_of ?_ ?_)); all_goals try (conv=>whnf)
    refine callV_fresh c2 rfl ?_
    (repeat' (first|refine stp ?_|(with_reducible refine brr ?_ ?_<;>intro h)|(with_reducible refine nilImm_map ?_ ?_<;>intro h)|with_reducible refine anyb_of ?_ ?_)); all_goals try (conv=>whnf)
    refine callV_data cc rfl ?_
    (repeat' (first|refine stp ?_|(with_reducible refine brr ?_ ?_<;>intro h)|(with_reducible refine nilImm_map ?_ ?_<;>intro h)|with_reducible refine anyb_of ?_ ?_)); all_goals try (conv=>whnf)
    all_goals try (exfalso; omega)
    refine oK_map' (j := d.index.toNat) (by omega) hj2 ?_
    (repeat' (first|refine stp ?_|(with_reducible refine brr ?_ ?_<;>intro h)|(with_reducible refine nilImm_map ?_ ?_<;>intro h)|with_reducible refine anyb_of ?_ ?_)); all_goals try (conv=>whnf)
    refine callV_data m2 rfl ?_
    (repeat' (first|refine stu ?_|(with_reducible refine brr ?_ ?_<;>intro h)|(with_reducible refine nilImm_map ?_ ?_<;>intro h)|with_reducible refine anyb_of ?_ ?_)); all_goals try (conv=>whnf)
    refine oK_atN d.index.toNat (by omega) hj2 ?_
    (repeat' (first|refine stu ?_|(with_reducible refine brr ?_ ?_<;>intro h)|(with_reducible refine nilImm_map ?_ ?_<;>intro h)|with_reducible refine anyb_of ?_ ?_)); all_goals try (conv=>whnf)
    refine tellV [] [(4, .ptr 0 0 0), (6, .ptr 1 0 0)] [(0, ⟨[.agg [.nilsl, .nilsl, .nilsl]], 3, true⟩), (1, ⟨[encReg (cliR r d)], 3, true⟩)] [] 2 (by decide) (by simp) trivial
      ⟨[_, _], [32, 35], [], [(40, [encReg (cliR r d)])], ⟨⟨⟨_, rfl⟩, ⟨_, rfl⟩, trivial⟩, trivial, ⟨⟨_, 6, _, rfl, mapF_cons (frz_aggL (mapF_cons (frz_own_map (f := encRat) (l := (cliR r d).lo) rfl hlo (by rw [g2]; simp) frz_rat) (mapF_cons (frz_own_map (f := encRat) (l := (cliR r d).hi) rfl hhi (by rw [g3]; simp [hlh]) frz_rat) rfl))) rfl, rfl⟩, trivial⟩⟩,
        ⟨at_ptr (by decide) rfl, at_ptr (by decide) rfl, trivial⟩, ⟨blk_box (by decide) rfl rfl rfl rfl rfl, blk_box (by decide) rfl rfl rfl rfl rfl, trivial⟩, by simp [ren]⟩ ?_
    (repeat' (first|refine stp ?_|(with_reducible refine brr ?_ ?_<;>intro h)|(with_reducible refine nilImm_map ?_ ?_<;>intro h)|with_reducible refine anyb_of ?_ ?_)); all_goals try (conv=>whnf)
    refine callV_data ce rfl ?_
    (repeat' (first|refine stp ?_|(with_reducible refine brr ?_ ?_<;>intro h)|(with_reducible refine nilImm_map ?_ ?_<;>intro h)|with_reducible refine anyb_of ?_ ?_)); all_goals try (conv=>whnf)
    · rw [if_pos h]
      exact givesV_to rfl rfl
    · rw [if_neg (by rw [h]; decide)]
      refine callV_bor (r := 1) e1 rfl rfl rfl rfl (fun e he => by simp at he; subst he; rfl) ?_
      (repeat' (first|refine stp ?_|(with_reducible refine brr ?_ ?_<;>intro h)|(with_reducible refine nilImm_map ?_ ?_<;>intro h)|with_reducible refine anyb_of ?_ ?_)); all_goals try (conv=>whnf)
      refine callV_bor (r := 1) e2 rfl rfl rfl rfl (fun e he => by simp at he; subst he; rfl) ?_
      (repeat' (first|refine stp ?_|(with_reducible refine brr ?_ ?_<;>intro h)|(with_reducible refine nilImm_map ?_ ?_<;>intro h)|with_reducible refine anyb_of ?_ ?_)); all_goals try (conv=>whnf)
      exact givesV_to rfl rfl
end Go.PI.Tryz
