/-
  The reference: affine forms: Scale, Add, Sub, Make.
-/
import Derived.Test.YtiiibhgnmlmoaaaGreatCRB
import Derived.Test.YtiiibhgnmlmoaaaGreatCLB
namespace Go.PI.Tryz
set_option linter.unnecessarySimpa false
open Go.Proofs Go.PI
set_option linter.unusedSimpArgs false
set_option linter.unusedVariables false
theorem ok_rleval : FnOk Tryz.prog 19 Tryz.f19 (Tryz.f19.body.getD .skip) [.cell 4 44, .tmp 5] 45 := ⟨Tryz.func19, rfl, by decide, Tryz.ntmps19, Tryz.results19, by kernel_rfl, by kernel_rfl⟩
theorem c_rleval (f : QF) (x : List Rat) (k kx : Nat) (hf : szF k f) (hx : ∀ q ∈ x, sz kx q) (hv : ∀ p ∈ f.ts, 0 ≤ p.1 ∧ p.1 < x.length) (hk : k + f.ts.length * (k + kx + 1) + k + kx ≤ 949999990) (hl : f.ts.length ≤ 1048576) (hxl : x.length ≤ 1048576) : Fn 19 [encF f, .imm (x.map encX)] (.data (.tup [encRat (cr (evQ f x)), .int .i64 0])) := by
  refine fnC_v hmix hT ok_rleval (by simp [encF]) ?_
  (repeat' (first|refine stp ?_|with_reducible(refine brr ?_ ?_<;>intro h)));all_goals try(conv=>whnf)
  refine loopV_kept hT (fun ((i, y) : Nat × Rat) => [(1, .imm (x.map encX)), (2, .ptr 2 0 0), (4, .ptr 0 0 0), (6, .ptr 1 0 0), (7, .int .i64 i)])
    (fun (_, y) => [(0, ⟨[.agg [.bool false, .nilsl, .nilsl]], 3, true⟩), (1, ⟨[encRat (cr y)], 3, true⟩), (2, ⟨[encF f], 4, true⟩)]) [] 3
    (fun (i, y) => i ≤ f.ts.length ∧ y = ev1 x (f.ts.take i) f.c ∧ sz (k + i * (k + kx + 1)) y) (fun (i, _) => f.ts.length - i) (0, f.c) ⟨Nat.zero_le _, rfl, by simpa using hf.1⟩ (by decide) (by simp) ?_ ?_
  · exact ⟨[_, _, _], [], [], [], ⟨trivial, trivial, trivial⟩, ⟨at_imm rfl rfl, at_ptr (by decide) rfl, at_ptr (by decide) rfl, at_ptr (by decide) rfl, at_int rfl rfl, trivial⟩,
      ⟨blk_box (by decide) rfl rfl rfl rfl rfl, blk_box (by decide) rfl rfl rfl rfl rfl, blk_box (by decide) rfl rfl rfl rfl rfl, trivial⟩, by simp [ren]⟩
  intro ⟨i, y⟩ ⟨i1, i2, i3⟩
  by_cases hi : i < f.ts.length
  · have hmem : f.ts[i]! ∈ f.ts := by rw [getElem!_pos f.ts i hi]; exact List.getElem_mem hi
    have hvi := hv _ hmem
    have hp := hf.2 _ hmem
    have hj : f.ts[i]!.1.toNat < x.length := by omega
    have hxm : x[f.ts[i]!.1.toNat]! ∈ x := by rw [getElem!_pos x _ hj]; exact List.getElem_mem hj
    have hxi := hx _ hxm
    have hm := sz_mul hp hxi
    have hmul : (i + 1) * (k + kx + 1) ≤ f.ts.length * (k + kx + 1) := Nat.mul_le_mul_right _ (by omega)
    rw [Nat.add_mul] at hmul
    have l1 := cr_len hp
    have l2 := cr_len hxi
    have l3 := cr_len hm
    have l4 := cr_len i3
    have cm := c_rqmul (cr f.ts[i]!.2) (cr x[f.ts[i]!.1.toNat]!) (okR_cr _) (okR_cr _) (by omega) (by omega) (by omega) (by omega)
    rw [qv_cr, qv_cr] at cm
    have ca := c_rqadd (cr y) (cr (f.ts[i]!.2 * x[f.ts[i]!.1.toNat]!)) (okR_cr _) (okR_cr _) (by omega) (by omega) (by omega) (by omega)
    rw [qv_cr, qv_cr] at ca
    have hsz := sz_le (show k + i * (k + kx + 1) + (k + kx) + 1 ≤ k + (i + 1) * (k + kx + 1) by rw [Nat.add_mul]; omega) (sz_add i3 hm)
    have hy : ev1 x (f.ts.take (i + 1)) f.c = y + f.ts[i]!.2 * x[f.ts[i]!.1.toNat]! := by rw [ev1_take x f.ts f.c i hi, i2]
    (repeat' (first|refine stp ?_|with_reducible(refine brr ?_ ?_<;>intro h)));all_goals try(conv=>whnf)
    · exact absurd h (show ¬ f.ts[i]!.1 < 0 by omega)
    · exact absurd h (show ¬ f.ts[i]!.1 ≥ (x.length : Int) by omega)
    · refine oK_map' (j := f.ts[i]!.1.toNat) (show f.ts[i]!.1 = _ by omega) hj ?_
      (repeat' (first|refine stp ?_|with_reducible(refine brr ?_ ?_<;>intro h)));all_goals try(conv=>whnf)
      refine callV_data cm rfl ?_
      (repeat' (first|refine stp ?_|with_reducible(refine brr ?_ ?_<;>intro h)));all_goals try(conv=>whnf)
      refine callV_data ca rfl ?_
      (repeat' (first|refine stp ?_|with_reducible(refine brr ?_ ?_<;>intro h)));all_goals try(conv=>whnf)
      exact ⟨(i + 1, y + f.ts[i]!.2 * x[f.ts[i]!.1.toNat]!), ⟨⟨by omega, hy.symm, hsz⟩, by show f.ts.length - (i + 1) < f.ts.length - i; omega⟩, [0, 1, 2], [], [], [], ⟨trivial, trivial, trivial⟩, ⟨at_imm rfl rfl, at_ptr (by decide) rfl, at_ptr (by decide) rfl, at_ptr (by decide) rfl, at_int rfl (by omega), trivial⟩,
        ⟨blk_box (by decide) rfl rfl rfl rfl rfl, blk_box (by decide) rfl rfl rfl rfl rfl, blk_box (by decide) rfl rfl rfl rfl rfl, trivial⟩, by simp [ren]⟩
    · exact absurd (show (i : Int) < f.ts.length by omega) h
  · have hmul : i * (k + kx + 1) ≤ f.ts.length * (k + kx + 1) := Nat.mul_le_mul_right _ (by omega)
    have e : y = evQ f x := by rw [i2, List.take_of_length_le (by omega)]; rfl
    (repeat' (first|refine stp ?_|with_reducible(refine brr ?_ ?_<;>intro h)));all_goals try(conv=>whnf)
    all_goals try (exfalso; omega)
    subst e
    exact givesV_to rfl rfl
end Go.PI.Tryz
namespace Go.PI.Tryz
set_option linter.unnecessarySimpa false
open Go.Proofs Go.PI
set_option linter.unusedSimpArgs false
set_option linter.unusedVariables false
theorem own1_ok (O : List QT) : okRes (rowB O) (.own 0 0 O.length) := Or.inl ⟨fun x hx => by simp [resCells] at hx; left; simp [hx, rowB], by simp [resCells, rowB]⟩
theorem ok_rnonzero : FnOk Tryz.prog 70 Tryz.f70 (Tryz.f70.body.getD .skip) [.tmp 4] 14 := ⟨Tryz.func70, rfl, by decide, Tryz.ntmps70, Tryz.results70, by kernel_rfl, by kernel_rfl⟩
theorem c_rnonzero_take (O : List QT) (v : Int) (q : Rat) (k : Nat) (hq : sz k q) (hk : k ≤ 2147483596) (hO : O.length < 4194304) : Fn 70 [.own 0 0 O.length, encQ (v, q)] (.own (some (rowB O)) (.own 0 0 (O ++ nzq v q).length) (rowB (O ++ nzq v q))) := by
  have hl := cr_len hq
  have cs := c_rqsign (cr q) (okR_cr q) (by omega)
  rw [qv_cr] at cs
  refine fnC_vtake hmix hT ok_rnonzero (by simp) ?_
  (repeat' (first|refine stp ?_|with_reducible(refine brr ?_ ?_<;>intro h)));all_goals try(conv=>whnf)
  refine callV_data cs rfl ?_
  (repeat' (first|refine stp ?_|with_reducible(refine brr ?_ ?_<;>intro h)));all_goals try(conv=>whnf)
  · rw [show q = 0 from sgnQ_zero.1 h, nzq_zero, List.append_nil]
    exact ownV_to (r := 0) rfl rfl rfl rfl (fun e he => (rowB_nr _ e he).1) (own1_ok _)
  · rw [nzq_ne fun e => h (sgnQ_zero.2 e)]
    refine sideD_intro ⟨rfl, by simp [rowB], by simp; omega⟩ ?_
    (repeat' (first|refine stp ?_|with_reducible(refine brr ?_ ?_<;>intro h)));all_goals try(conv=>whnf)

    refine ownV_to (r := 10) ?_ rfl ?_ rfl (fun e he => (rowB_nr _ e he).1) (own1_ok _)
    · simp [rk, rk1]
    · simp [rowB, encQ, encTerm, tQ]
theorem c_rnonzero_give (v : Int) (q : Rat) (k : Nat) (hq : sz k q) (hk : k ≤ 2147483596) : Fn 70 [.nilsl, encQ (v, q)] (.own none (.own 0 0 (nzq v q).length) (rowB (nzq v q))) := by
  have hl := cr_len hq
  have cs := c_rqsign (cr q) (okR_cr q) (by omega)
  rw [qv_cr] at cs
  refine fnC_vgive hmix hT ok_rnonzero (by simp) ?_
  (repeat' (first|refine stp ?_|with_reducible(refine brr ?_ ?_<;>intro h)));all_goals try(conv=>whnf)
  refine callV_data cs rfl ?_
  (repeat' (first|refine stp ?_|with_reducible(refine brr ?_ ?_<;>intro h)));all_goals try(conv=>whnf)
  · rw [show q = 0 from sgnQ_zero.1 h, nzq_zero]
    exact ownV_nil rfl rfl (own1_ok [])
  · rw [nzq_ne fun e => h (sgnQ_zero.2 e)]

    refine ownV_to (r := 10) ?_ rfl ?_ rfl (fun e he => (rowB_nr _ e he).1) (own1_ok _)
    · simp [rk, rk1]
    · simp [encQ, encTerm, tQ]
/-- A row that grows from nil. -/
def grS : Bool → Nat → PV
  | true, n => .own 0 0 n
  | false, _ => .nilsl
theorem ok_rplus : FnOk Tryz.prog 111 Tryz.f111 (Tryz.f111.body.getD .skip) [.cell 6 49] 61 := ⟨Tryz.func111, rfl, by decide, Tryz.ntmps111, Tryz.results111, by kernel_rfl, by kernel_rfl⟩
set_option maxHeartbeats 1000000 in
theorem c_rplus (f : QF) (v : Int) (c : Rat) (kf kc : Nat) (hf : szF kf f) (hc : sz kc c) (hk : kf + kc ≤ 949999990) (hl : f.ts.length ≤ 2097150) : Fn 111 [encF f, .int .i64 v, encRat (cr c)] (.data (encF (plusQ f v c))) := by
  obtain ⟨M, hM⟩ : ∃ M, plusL v c f.ts false = M := ⟨_, rfl⟩
  unfold plusQ
  rw [hM]
  have lc := cr_len hc
  have cc := c_rqcanon (cr c) (okR_cr _) (by omega) (by omega)
  rw [qv_cr] at cc
  refine fnC_v hmix hT ok_rplus (by simp [encF]) ?_
  (repeat' (first|refine stp ?_|with_reducible(refine brr ?_ ?_<;>intro h)));all_goals try(conv=>whnf)
  refine loopV_kept hT (fun ((i, O, s, d) : Nat × List QT × Bool × Bool) => [(1, .int .i64 v), (3, .ptr 1 0 0), (5, .ptr 2 0 0), (6, .ptr 3 0 0), (7, grS s O.length), (8, .bool d), (9, .int .i64 i)])
    (fun (i, O, s, d) => (1, ⟨[encF f], 4, true⟩) :: (2, ⟨[encRat (cr c)], 3, true⟩) :: (3, ⟨[zeroF], 4, true⟩) :: grH s O) [] 4
    (fun (i, O, s, d) => (s = false → O = []) ∧ O ++ plusL v c (f.ts.drop i) d = M ∧ i ≤ f.ts.length ∧ O.length ≤ 2 * i)
    (fun (i, _) => f.ts.length - i) (0, [], false, false) ⟨fun _ => rfl, hM, Nat.zero_le _, by simp⟩ (by decide) (by simp) ?_ ?_
  · exact ⟨[0, _, _, _], [], [], [], ⟨trivial, trivial, trivial⟩, ⟨at_int rfl rfl, at_ptr (by decide) rfl, at_ptr (by decide) rfl, at_ptr (by decide) rfl, at_nilsl rfl, at_bool rfl rfl, at_int rfl rfl, trivial⟩,
      ⟨blk_box (by decide) rfl rfl rfl rfl rfl, blk_box (by decide) rfl rfl rfl rfl rfl, blk_box (by decide) rfl rfl rfl rfl rfl, trivial⟩, by simp [ren, grH]⟩
  intro ⟨i, O, s, d⟩ ⟨i1, i2, i3, i4⟩
  cases s <;> cases d
  · by_cases hi : i < f.ts.length
    · have hdrop : f.ts.drop i = f.ts[i]! :: f.ts.drop (i + 1) := by rw [List.drop_eq_getElem_cons hi, getElem!_pos f.ts i hi]
      have hp := hf.2 f.ts[i]! (by rw [getElem!_pos f.ts i hi]; exact List.getElem_mem hi)
      have hpc := sz_add hp hc
      have lp := cr_len hp
      have ca := c_rqadd (cr f.ts[i]!.2) (cr c) (okR_cr _) (okR_cr _) (by omega) (by omega) (by omega) (by omega)
      rw [qv_cr, qv_cr] at ca
      (repeat' (first|refine stp ?_|with_reducible(refine brr ?_ ?_<;>intro h)));all_goals try(conv=>whnf)
      · have hv : f.ts[i]!.1 = v := h
        refine callV_data ca rfl ?_
        (repeat' (first|refine stp ?_|with_reducible(refine brr ?_ ?_<;>intro h)));all_goals try(conv=>whnf)
        refine callV_give (c_rnonzero_give f.ts[i]!.1 (f.ts[i]!.2 + c) _ hpc (by omega)) rfl ?_
        (repeat' (first|refine stp ?_|with_reducible(refine brr ?_ ?_<;>intro h)));all_goals try(conv=>whnf)
        have nl := nzq_len f.ts[i]!.1 (f.ts[i]!.2 + c)
        exact ⟨(i + 1, nzq f.ts[i]!.1 (f.ts[i]!.2 + c), true, true), ⟨⟨by simp, by rw [hdrop] at i2; simp only [plusL, hv, decide_true, Bool.or_true, Bool.true_or, Bool.true_eq_false, false_and, if_false, if_true, List.nil_append] at i2; rw [hv]; rw [i1 rfl, List.nil_append] at i2; exact i2, by omega, by (try simp only [List.length_append]); omega⟩, by show f.ts.length - (i + 1) < f.ts.length - i; omega⟩, [_, _, _, _], [], [], [], ⟨trivial, trivial, trivial⟩, ⟨at_int rfl rfl, at_ptr (by decide) rfl, at_ptr (by decide) rfl, at_ptr (by decide) rfl, at_own (by decide) rfl rfl, at_bool rfl rfl, at_int rfl (by omega), trivial⟩, ⟨blk_box (by decide) rfl rfl rfl rfl rfl, blk_box (by decide) rfl rfl rfl rfl rfl, blk_box (by decide) rfl rfl rfl rfl rfl, blk_row (by decide) rfl rfl (rowB_nr _) rfl, trivial⟩, by simp [ren, grH]⟩
      · have hv : v < f.ts[i]!.1 := h
        have hne : ¬ f.ts[i]!.1 = v := by omega
        refine callV_data cc rfl ?_
        (repeat' (first|refine stp ?_|with_reducible(refine brr ?_ ?_<;>intro h)));all_goals try(conv=>whnf)
        refine callV_give (c_rnonzero_give v c _ hc (by omega)) rfl ?_
        (repeat' (first|refine stp ?_|with_reducible(refine brr ?_ ?_<;>intro h)));all_goals try(conv=>whnf)
        have nl1 := nzq_len v c
        have nl2 := nzq_len f.ts[i]!.1 f.ts[i]!.2
        refine callV_take (r := 33) (c_rnonzero_take (nzq v c) f.ts[i]!.1 f.ts[i]!.2 _ hp (by omega) (by (try simp only [List.length_append]); omega)) rfl rfl rfl rfl (nrs_of (rowB_nr _)) ?_
        (repeat' (first|refine stp ?_|with_reducible(refine brr ?_ ?_<;>intro h)));all_goals try(conv=>whnf)
        exact ⟨(i + 1, nzq v c ++ nzq f.ts[i]!.1 f.ts[i]!.2, true, true), ⟨⟨by simp, by rw [hdrop] at i2; simp only [plusL, hne, hv, decide_false, decide_true, Bool.or_false, Bool.or_true, and_self, if_false, if_true] at i2; rw [i1 rfl, List.nil_append] at i2; exact i2, by omega, by (try simp only [List.length_append]); omega⟩, by show f.ts.length - (i + 1) < f.ts.length - i; omega⟩, [_, _, _, _], [], [], [], ⟨trivial, trivial, trivial⟩, ⟨at_int rfl rfl, at_ptr (by decide) rfl, at_ptr (by decide) rfl, at_ptr (by decide) rfl, at_own (by decide) rfl rfl, at_bool rfl rfl, at_int rfl (by omega), trivial⟩, ⟨blk_box (by decide) rfl rfl rfl rfl rfl, blk_box (by decide) rfl rfl rfl rfl rfl, blk_box (by decide) rfl rfl rfl rfl rfl, blk_row (by decide) rfl rfl (rowB_nr _) rfl, trivial⟩, by simp [ren, grH]⟩
      · have hne : ¬ f.ts[i]!.1 = v := ‹¬ (tQ f.ts[i]!).var = v›
        have hle : ¬ v < f.ts[i]!.1 := h
        refine callV_give (c_rnonzero_give f.ts[i]!.1 f.ts[i]!.2 _ hp (by omega)) rfl ?_
        (repeat' (first|refine stp ?_|with_reducible(refine brr ?_ ?_<;>intro h)));all_goals try(conv=>whnf)
        have nl := nzq_len f.ts[i]!.1 f.ts[i]!.2
        exact ⟨(i + 1, nzq f.ts[i]!.1 f.ts[i]!.2, true, false), ⟨⟨by simp, by rw [hdrop] at i2; simp only [plusL, hne, hle, decide_false, Bool.or_false, Bool.or_self, and_false, if_false, List.nil_append] at i2; rw [i1 rfl, List.nil_append] at i2; exact i2, by omega, by (try simp only [List.length_append]); omega⟩, by show f.ts.length - (i + 1) < f.ts.length - i; omega⟩, [_, _, _, _], [], [], [], ⟨trivial, trivial, trivial⟩, ⟨at_int rfl rfl, at_ptr (by decide) rfl, at_ptr (by decide) rfl, at_ptr (by decide) rfl, at_own (by decide) rfl rfl, at_bool rfl rfl, at_int rfl (by omega), trivial⟩, ⟨blk_box (by decide) rfl rfl rfl rfl rfl, blk_box (by decide) rfl rfl rfl rfl rfl, blk_box (by decide) rfl rfl rfl rfl rfl, blk_row (by decide) rfl rfl (rowB_nr _) rfl, trivial⟩, by simp [ren, grH]⟩
      all_goals (exfalso; omega)
    · (repeat' (first|refine stp ?_|with_reducible(refine brr ?_ ?_<;>intro h)));all_goals try(conv=>whnf)
      all_goals try (exfalso; omega)
      have hN : plusL v c (f.ts.drop i) false = nzq v c := by rw [List.drop_of_length_le (by omega)]; rfl
      rw [hN] at i2
      refine callV_data cc rfl ?_
      (repeat' (first|refine stp ?_|with_reducible(refine brr ?_ ?_<;>intro h)));all_goals try(conv=>whnf)
      refine callV_give (c_rnonzero_give v c _ hc (by omega)) rfl ?_
      (repeat' (first|refine stp ?_|with_reducible(refine brr ?_ ?_<;>intro h)));all_goals try(conv=>whnf)
      rw [i1 rfl, List.nil_append] at i2
      subst i2
      exact givesV_to (frz_aggL (mapF_cons (frz_own_map rfl rfl rfl (fun x => frz_encQ x)) rfl)) rfl
  · by_cases hi : i < f.ts.length
    · have hdrop : f.ts.drop i = f.ts[i]! :: f.ts.drop (i + 1) := by rw [List.drop_eq_getElem_cons hi, getElem!_pos f.ts i hi]
      have hp := hf.2 f.ts[i]! (by rw [getElem!_pos f.ts i hi]; exact List.getElem_mem hi)
      have hpc := sz_add hp hc
      have lp := cr_len hp
      have ca := c_rqadd (cr f.ts[i]!.2) (cr c) (okR_cr _) (okR_cr _) (by omega) (by omega) (by omega) (by omega)
      rw [qv_cr, qv_cr] at ca
      (repeat' (first|refine stp ?_|with_reducible(refine brr ?_ ?_<;>intro h)));all_goals try(conv=>whnf)
      · have hv : f.ts[i]!.1 = v := h
        refine callV_data ca rfl ?_
        (repeat' (first|refine stp ?_|with_reducible(refine brr ?_ ?_<;>intro h)));all_goals try(conv=>whnf)
        refine callV_give (c_rnonzero_give f.ts[i]!.1 (f.ts[i]!.2 + c) _ hpc (by omega)) rfl ?_
        (repeat' (first|refine stp ?_|with_reducible(refine brr ?_ ?_<;>intro h)));all_goals try(conv=>whnf)
        have nl := nzq_len f.ts[i]!.1 (f.ts[i]!.2 + c)
        exact ⟨(i + 1, nzq f.ts[i]!.1 (f.ts[i]!.2 + c), true, true), ⟨⟨by simp, by rw [hdrop] at i2; simp only [plusL, hv, decide_true, Bool.or_true, Bool.true_or, Bool.true_eq_false, false_and, if_false, if_true, List.nil_append] at i2; rw [hv]; rw [i1 rfl, List.nil_append] at i2; exact i2, by omega, by (try simp only [List.length_append]); omega⟩, by show f.ts.length - (i + 1) < f.ts.length - i; omega⟩, [_, _, _, _], [], [], [], ⟨trivial, trivial, trivial⟩, ⟨at_int rfl rfl, at_ptr (by decide) rfl, at_ptr (by decide) rfl, at_ptr (by decide) rfl, at_own (by decide) rfl rfl, at_bool rfl rfl, at_int rfl (by omega), trivial⟩, ⟨blk_box (by decide) rfl rfl rfl rfl rfl, blk_box (by decide) rfl rfl rfl rfl rfl, blk_box (by decide) rfl rfl rfl rfl rfl, blk_row (by decide) rfl rfl (rowB_nr _) rfl, trivial⟩, by simp [ren, grH]⟩
      · have hne : ¬ f.ts[i]!.1 = v := ‹¬ (tQ f.ts[i]!).var = v›
        refine callV_give (c_rnonzero_give f.ts[i]!.1 f.ts[i]!.2 _ hp (by omega)) rfl ?_
        (repeat' (first|refine stp ?_|with_reducible(refine brr ?_ ?_<;>intro h)));all_goals try(conv=>whnf)
        have nl := nzq_len f.ts[i]!.1 f.ts[i]!.2
        exact ⟨(i + 1, nzq f.ts[i]!.1 f.ts[i]!.2, true, true), ⟨⟨by simp, by rw [hdrop] at i2; simp only [plusL, hne, decide_false, Bool.true_or, Bool.true_eq_false, false_and, if_false, List.nil_append] at i2; rw [i1 rfl, List.nil_append] at i2; exact i2, by omega, by (try simp only [List.length_append]); omega⟩, by show f.ts.length - (i + 1) < f.ts.length - i; omega⟩, [_, _, _, _], [], [], [], ⟨trivial, trivial, trivial⟩, ⟨at_int rfl rfl, at_ptr (by decide) rfl, at_ptr (by decide) rfl, at_ptr (by decide) rfl, at_own (by decide) rfl rfl, at_bool rfl rfl, at_int rfl (by omega), trivial⟩, ⟨blk_box (by decide) rfl rfl rfl rfl rfl, blk_box (by decide) rfl rfl rfl rfl rfl, blk_box (by decide) rfl rfl rfl rfl rfl, blk_row (by decide) rfl rfl (rowB_nr _) rfl, trivial⟩, by simp [ren, grH]⟩
      all_goals (exfalso; omega)
    · (repeat' (first|refine stp ?_|with_reducible(refine brr ?_ ?_<;>intro h)));all_goals try(conv=>whnf)
      all_goals try (exfalso; omega)
      have hN : plusL v c (f.ts.drop i) true = [] := by rw [List.drop_of_length_le (by omega)]; rfl
      rw [hN] at i2
      rw [List.append_nil] at i2
      subst i2
      rw [i1 rfl]
      exact givesV_to rfl rfl
  · by_cases hi : i < f.ts.length
    · have hdrop : f.ts.drop i = f.ts[i]! :: f.ts.drop (i + 1) := by rw [List.drop_eq_getElem_cons hi, getElem!_pos f.ts i hi]
      have hp := hf.2 f.ts[i]! (by rw [getElem!_pos f.ts i hi]; exact List.getElem_mem hi)
      have hpc := sz_add hp hc
      have lp := cr_len hp
      have ca := c_rqadd (cr f.ts[i]!.2) (cr c) (okR_cr _) (okR_cr _) (by omega) (by omega) (by omega) (by omega)
      rw [qv_cr, qv_cr] at ca
      (repeat' (first|refine stp ?_|with_reducible(refine brr ?_ ?_<;>intro h)));all_goals try(conv=>whnf)
      · have hv : f.ts[i]!.1 = v := h
        refine callV_data ca rfl ?_
        (repeat' (first|refine stp ?_|with_reducible(refine brr ?_ ?_<;>intro h)));all_goals try(conv=>whnf)
        refine callV_take (r := 0) (c_rnonzero_take O f.ts[i]!.1 (f.ts[i]!.2 + c) _ hpc (by omega) (by (try simp only [List.length_append]); omega)) rfl rfl rfl rfl (nrs_of (rowB_nr _)) ?_
        (repeat' (first|refine stp ?_|with_reducible(refine brr ?_ ?_<;>intro h)));all_goals try(conv=>whnf)
        have nl := nzq_len f.ts[i]!.1 (f.ts[i]!.2 + c)
        exact ⟨(i + 1, O ++ nzq f.ts[i]!.1 (f.ts[i]!.2 + c), true, true), ⟨⟨by simp, by rw [hdrop] at i2; simp only [plusL, hv, decide_true, Bool.or_true, Bool.true_or, Bool.true_eq_false, false_and, if_false, if_true, List.nil_append] at i2; rw [hv]; rw [List.append_assoc]; exact i2, by omega, by (try simp only [List.length_append]); omega⟩, by show f.ts.length - (i + 1) < f.ts.length - i; omega⟩, [_, _, _, _], [], [], [], ⟨trivial, trivial, trivial⟩, ⟨at_int rfl rfl, at_ptr (by decide) rfl, at_ptr (by decide) rfl, at_ptr (by decide) rfl, at_own (by decide) rfl rfl, at_bool rfl rfl, at_int rfl (by omega), trivial⟩, ⟨blk_box (by decide) rfl rfl rfl rfl rfl, blk_box (by decide) rfl rfl rfl rfl rfl, blk_box (by decide) rfl rfl rfl rfl rfl, blk_row (by decide) rfl rfl (rowB_nr _) rfl, trivial⟩, by simp [ren, grH]⟩
      · have hv : v < f.ts[i]!.1 := h
        have hne : ¬ f.ts[i]!.1 = v := by omega
        refine callV_data cc rfl ?_
        (repeat' (first|refine stp ?_|with_reducible(refine brr ?_ ?_<;>intro h)));all_goals try(conv=>whnf)
        refine callV_take (r := 0) (c_rnonzero_take O v c _ hc (by omega) (by (try simp only [List.length_append]); omega)) rfl rfl rfl rfl (nrs_of (rowB_nr _)) ?_
        (repeat' (first|refine stp ?_|with_reducible(refine brr ?_ ?_<;>intro h)));all_goals try(conv=>whnf)
        have nl1 := nzq_len v c
        have nl2 := nzq_len f.ts[i]!.1 f.ts[i]!.2
        refine callV_take (r := 33) (c_rnonzero_take (O ++ nzq v c) f.ts[i]!.1 f.ts[i]!.2 _ hp (by omega) (by (try simp only [List.length_append]); omega)) rfl rfl rfl rfl (nrs_of (rowB_nr _)) ?_
        (repeat' (first|refine stp ?_|with_reducible(refine brr ?_ ?_<;>intro h)));all_goals try(conv=>whnf)
        exact ⟨(i + 1, O ++ nzq v c ++ nzq f.ts[i]!.1 f.ts[i]!.2, true, true), ⟨⟨by simp, by rw [hdrop] at i2; simp only [plusL, hne, hv, decide_false, decide_true, Bool.or_false, Bool.or_true, and_self, if_false, if_true] at i2; simp only [List.append_assoc] at i2 ⊢; exact i2, by omega, by (try simp only [List.length_append]); omega⟩, by show f.ts.length - (i + 1) < f.ts.length - i; omega⟩, [_, _, _, _], [], [], [], ⟨trivial, trivial, trivial⟩, ⟨at_int rfl rfl, at_ptr (by decide) rfl, at_ptr (by decide) rfl, at_ptr (by decide) rfl, at_own (by decide) rfl rfl, at_bool rfl rfl, at_int rfl (by omega), trivial⟩, ⟨blk_box (by decide) rfl rfl rfl rfl rfl, blk_box (by decide) rfl rfl rfl rfl rfl, blk_box (by decide) rfl rfl rfl rfl rfl, blk_row (by decide) rfl rfl (rowB_nr _) rfl, trivial⟩, by simp [ren, grH]⟩
      · have hne : ¬ f.ts[i]!.1 = v := ‹¬ (tQ f.ts[i]!).var = v›
        have hle : ¬ v < f.ts[i]!.1 := h
        refine callV_take (r := 0) (c_rnonzero_take O f.ts[i]!.1 f.ts[i]!.2 _ hp (by omega) (by (try simp only [List.length_append]); omega)) rfl rfl rfl rfl (nrs_of (rowB_nr _)) ?_
        (repeat' (first|refine stp ?_|with_reducible(refine brr ?_ ?_<;>intro h)));all_goals try(conv=>whnf)
        have nl := nzq_len f.ts[i]!.1 f.ts[i]!.2
        exact ⟨(i + 1, O ++ nzq f.ts[i]!.1 f.ts[i]!.2, true, false), ⟨⟨by simp, by rw [hdrop] at i2; simp only [plusL, hne, hle, decide_false, Bool.or_false, Bool.or_self, and_false, if_false, List.nil_append] at i2; rw [List.append_assoc]; exact i2, by omega, by (try simp only [List.length_append]); omega⟩, by show f.ts.length - (i + 1) < f.ts.length - i; omega⟩, [_, _, _, _], [], [], [], ⟨trivial, trivial, trivial⟩, ⟨at_int rfl rfl, at_ptr (by decide) rfl, at_ptr (by decide) rfl, at_ptr (by decide) rfl, at_own (by decide) rfl rfl, at_bool rfl rfl, at_int rfl (by omega), trivial⟩, ⟨blk_box (by decide) rfl rfl rfl rfl rfl, blk_box (by decide) rfl rfl rfl rfl rfl, blk_box (by decide) rfl rfl rfl rfl rfl, blk_row (by decide) rfl rfl (rowB_nr _) rfl, trivial⟩, by simp [ren, grH]⟩
      all_goals (exfalso; omega)
    · (repeat' (first|refine stp ?_|with_reducible(refine brr ?_ ?_<;>intro h)));all_goals try(conv=>whnf)
      all_goals try (exfalso; omega)
      have hN : plusL v c (f.ts.drop i) false = nzq v c := by rw [List.drop_of_length_le (by omega)]; rfl
      rw [hN] at i2
      refine callV_data cc rfl ?_
      (repeat' (first|refine stp ?_|with_reducible(refine brr ?_ ?_<;>intro h)));all_goals try(conv=>whnf)
      refine callV_take (r := 0) (c_rnonzero_take O v c _ hc (by omega) (by (try simp only [List.length_append]); omega)) rfl rfl rfl rfl (nrs_of (rowB_nr _)) ?_
      (repeat' (first|refine stp ?_|with_reducible(refine brr ?_ ?_<;>intro h)));all_goals try(conv=>whnf)
      subst i2
      exact givesV_to (frz_aggL (mapF_cons (frz_own_map rfl rfl rfl (fun x => frz_encQ x)) rfl)) rfl
  · by_cases hi : i < f.ts.length
    · have hdrop : f.ts.drop i = f.ts[i]! :: f.ts.drop (i + 1) := by rw [List.drop_eq_getElem_cons hi, getElem!_pos f.ts i hi]
      have hp := hf.2 f.ts[i]! (by rw [getElem!_pos f.ts i hi]; exact List.getElem_mem hi)
      have hpc := sz_add hp hc
      have lp := cr_len hp
      have ca := c_rqadd (cr f.ts[i]!.2) (cr c) (okR_cr _) (okR_cr _) (by omega) (by omega) (by omega) (by omega)
      rw [qv_cr, qv_cr] at ca
      (repeat' (first|refine stp ?_|with_reducible(refine brr ?_ ?_<;>intro h)));all_goals try(conv=>whnf)
      · have hv : f.ts[i]!.1 = v := h
        refine callV_data ca rfl ?_
        (repeat' (first|refine stp ?_|with_reducible(refine brr ?_ ?_<;>intro h)));all_goals try(conv=>whnf)
        refine callV_take (r := 0) (c_rnonzero_take O f.ts[i]!.1 (f.ts[i]!.2 + c) _ hpc (by omega) (by (try simp only [List.length_append]); omega)) rfl rfl rfl rfl (nrs_of (rowB_nr _)) ?_
        (repeat' (first|refine stp ?_|with_reducible(refine brr ?_ ?_<;>intro h)));all_goals try(conv=>whnf)
        have nl := nzq_len f.ts[i]!.1 (f.ts[i]!.2 + c)
        exact ⟨(i + 1, O ++ nzq f.ts[i]!.1 (f.ts[i]!.2 + c), true, true), ⟨⟨by simp, by rw [hdrop] at i2; simp only [plusL, hv, decide_true, Bool.or_true, Bool.true_or, Bool.true_eq_false, false_and, if_false, if_true, List.nil_append] at i2; rw [hv]; rw [List.append_assoc]; exact i2, by omega, by (try simp only [List.length_append]); omega⟩, by show f.ts.length - (i + 1) < f.ts.length - i; omega⟩, [_, _, _, _], [], [], [], ⟨trivial, trivial, trivial⟩, ⟨at_int rfl rfl, at_ptr (by decide) rfl, at_ptr (by decide) rfl, at_ptr (by decide) rfl, at_own (by decide) rfl rfl, at_bool rfl rfl, at_int rfl (by omega), trivial⟩, ⟨blk_box (by decide) rfl rfl rfl rfl rfl, blk_box (by decide) rfl rfl rfl rfl rfl, blk_box (by decide) rfl rfl rfl rfl rfl, blk_row (by decide) rfl rfl (rowB_nr _) rfl, trivial⟩, by simp [ren, grH]⟩
      · have hne : ¬ f.ts[i]!.1 = v := ‹¬ (tQ f.ts[i]!).var = v›
        refine callV_take (r := 0) (c_rnonzero_take O f.ts[i]!.1 f.ts[i]!.2 _ hp (by omega) (by (try simp only [List.length_append]); omega)) rfl rfl rfl rfl (nrs_of (rowB_nr _)) ?_
        (repeat' (first|refine stp ?_|with_reducible(refine brr ?_ ?_<;>intro h)));all_goals try(conv=>whnf)
        have nl := nzq_len f.ts[i]!.1 f.ts[i]!.2
        exact ⟨(i + 1, O ++ nzq f.ts[i]!.1 f.ts[i]!.2, true, true), ⟨⟨by simp, by rw [hdrop] at i2; simp only [plusL, hne, decide_false, Bool.true_or, Bool.true_eq_false, false_and, if_false, List.nil_append] at i2; rw [List.append_assoc]; exact i2, by omega, by (try simp only [List.length_append]); omega⟩, by show f.ts.length - (i + 1) < f.ts.length - i; omega⟩, [_, _, _, _], [], [], [], ⟨trivial, trivial, trivial⟩, ⟨at_int rfl rfl, at_ptr (by decide) rfl, at_ptr (by decide) rfl, at_ptr (by decide) rfl, at_own (by decide) rfl rfl, at_bool rfl rfl, at_int rfl (by omega), trivial⟩, ⟨blk_box (by decide) rfl rfl rfl rfl rfl, blk_box (by decide) rfl rfl rfl rfl rfl, blk_box (by decide) rfl rfl rfl rfl rfl, blk_row (by decide) rfl rfl (rowB_nr _) rfl, trivial⟩, by simp [ren, grH]⟩
      all_goals (exfalso; omega)
    · (repeat' (first|refine stp ?_|with_reducible(refine brr ?_ ?_<;>intro h)));all_goals try(conv=>whnf)
      all_goals try (exfalso; omega)
      have hN : plusL v c (f.ts.drop i) true = [] := by rw [List.drop_of_length_le (by omega)]; rfl
      rw [hN] at i2
      rw [List.append_nil] at i2
      subst i2
      exact givesV_to (frz_aggL (mapF_cons (frz_own_map rfl rfl rfl (fun x => frz_encQ x)) rfl)) rfl
end Go.PI.Tryz
namespace Go.PI.Tryz
set_option linter.unnecessarySimpa false
open Go.Proofs Go.PI
set_option linter.unusedSimpArgs false
set_option linter.unusedVariables false
theorem sclL_drop {c : Rat} {ts : List QT} {i : Nat} (hi : i < ts.length) : sclL c (ts.drop i) = nzq ts[i]!.1 (ts[i]!.2 * c) ++ sclL c (ts.drop (i + 1)) := by
  unfold sclL; rw [List.drop_eq_getElem_cons hi, List.flatMap_cons, getElem!_pos ts i hi]
theorem ok_rscale : FnOk Tryz.prog 43 Tryz.f43 (Tryz.f43.body.getD .skip) [.cell 4 49] 39 := ⟨Tryz.func43, rfl, by decide, Tryz.ntmps43, Tryz.results43, by kernel_rfl, by kernel_rfl⟩
theorem c_rscale (f : QF) (c : Rat) (kf kc : Nat) (hf : szF kf f) (hc : sz kc c) (hk : kf + kc ≤ 949999990) (hl : f.ts.length ≤ 2097150) : Fn 43 [encF f, encRat (cr c)] (.data (encF (scaleR f c))) := by
  obtain ⟨M, hM⟩ : ∃ M, sclL c f.ts = M := ⟨_, rfl⟩
  have lf := cr_len hf.1
  have lc := cr_len hc
  have cm0 := c_rqmul (cr f.c) (cr c) (okR_cr _) (okR_cr _) (by omega) (by omega) (by omega) (by omega)
  rw [qv_cr, qv_cr] at cm0
  unfold scaleR
  obtain ⟨C, hC⟩ : ∃ C, f.c * c = C := ⟨_, rfl⟩
  rw [hC] at cm0
  rw [hM, hC]
  refine fnC_v hmix hT ok_rscale (by simp [encF]) ?_
  (repeat' (first|refine stp ?_|with_reducible(refine brr ?_ ?_<;>intro h)));all_goals try(conv=>whnf)
  refine callV_data cm0 rfl ?_
  (repeat' (first|refine stp ?_|with_reducible(refine brr ?_ ?_<;>intro h)));all_goals try(conv=>whnf)
  refine loopV_kept hT (fun ((i, O, s) : Nat × List QT × Bool) => [(2, .ptr 1 0 0), (3, .ptr 2 0 0), (4, .ptr 3 0 0), (5, .ptr 4 0 0), (6, .int .i64 i)])
    (fun (i, O, s) => (1, ⟨[encF f], 4, true⟩) :: (2, ⟨[encRat (cr c)], 3, true⟩) :: (3, ⟨[zeroF], 4, true⟩) :: (4, ⟨[grF s O.length C], 4, true⟩) :: grH s O) [] 5
    (fun (i, O, s) => (s = false → O = []) ∧ O ++ sclL c (f.ts.drop i) = M ∧ i ≤ f.ts.length ∧ O.length ≤ i)
    (fun (i, _) => f.ts.length - i) (0, [], false) ⟨fun _ => rfl, hM, Nat.zero_le _, by simp⟩ (by decide) (by simp) ?_ ?_
  · exact ⟨[0, _, _, _, _], [], [], [], ⟨trivial, trivial, trivial⟩, ⟨at_ptr (by decide) rfl, at_ptr (by decide) rfl, at_ptr (by decide) rfl, at_ptr (by decide) rfl, at_int rfl rfl, trivial⟩,
      ⟨blk_box (by decide) rfl rfl rfl rfl rfl, blk_box (by decide) rfl rfl rfl rfl rfl, blk_box (by decide) rfl rfl rfl rfl rfl, blk_box (by decide) rfl rfl rfl rfl rfl, trivial⟩, by simp [ren, grH]⟩
  intro ⟨i, O, s⟩ ⟨i1, i2, i3, i4⟩
  by_cases hi : i < f.ts.length
  · have hp := hf.2 f.ts[i]! (by rw [getElem!_pos f.ts i hi]; exact List.getElem_mem hi)
    have hpc := sz_mul hp hc
    have lp := cr_len hp
    have cm := c_rqmul (cr f.ts[i]!.2) (cr c) (okR_cr _) (okR_cr _) (by omega) (by omega) (by omega) (by omega)
    rw [qv_cr, qv_cr] at cm
    have nl := nzq_len f.ts[i]!.1 (f.ts[i]!.2 * c)
    rw [sclL_drop hi] at i2
    cases s
    · (repeat' (first|refine stp ?_|with_reducible(refine brr ?_ ?_<;>intro h)));all_goals try(conv=>whnf)
      · refine callV_data cm rfl ?_
        (repeat' (first|refine stp ?_|with_reducible(refine brr ?_ ?_<;>intro h)));all_goals try(conv=>whnf)
        refine callV_give (c_rnonzero_give f.ts[i]!.1 (f.ts[i]!.2 * c) _ hpc (by omega)) rfl ?_
        (repeat' (first|refine stp ?_|with_reducible(refine brr ?_ ?_<;>intro h)));all_goals try(conv=>whnf)
        exact ⟨(i + 1, nzq f.ts[i]!.1 (f.ts[i]!.2 * c), true), ⟨⟨by simp, by rw [i1 rfl, List.nil_append] at i2; exact i2, by omega, by omega⟩, by show f.ts.length - (i + 1) < f.ts.length - i; omega⟩, [_, _, _, _, _], [], [], [], ⟨trivial, trivial, trivial⟩,
          ⟨at_ptr (by decide) rfl, at_ptr (by decide) rfl, at_ptr (by decide) rfl, at_ptr (by decide) rfl, at_int rfl (by omega), trivial⟩,
          ⟨blk_box (by decide) rfl rfl rfl rfl rfl, blk_box (by decide) rfl rfl rfl rfl rfl, blk_box (by decide) rfl rfl rfl rfl rfl, blk_boxK (by decide) rfl ⟨⟨by decide, rfl⟩, rfl, rfl, rfl, trivial⟩ rfl rfl, blk_row (by decide) rfl rfl (rowB_nr _) rfl, trivial⟩, by simp [ren, grH]⟩
      all_goals (exfalso; omega)
    · (repeat' (first|refine stp ?_|with_reducible(refine brr ?_ ?_<;>intro h)));all_goals try(conv=>whnf)
      · refine callV_data cm rfl ?_
        (repeat' (first|refine stp ?_|with_reducible(refine brr ?_ ?_<;>intro h)));all_goals try(conv=>whnf)
        refine callV_take (r := 0) (c_rnonzero_take O f.ts[i]!.1 (f.ts[i]!.2 * c) _ hpc (by omega) (by omega)) rfl rfl rfl rfl (nrs_of (rowB_nr _)) ?_
        (repeat' (first|refine stp ?_|with_reducible(refine brr ?_ ?_<;>intro h)));all_goals try(conv=>whnf)
        exact ⟨(i + 1, O ++ nzq f.ts[i]!.1 (f.ts[i]!.2 * c), true), ⟨⟨by simp, by rw [List.append_assoc]; exact i2, by omega, by rw [List.length_append]; omega⟩, by show f.ts.length - (i + 1) < f.ts.length - i; omega⟩, [_, _, _, _, _], [], [], [], ⟨trivial, trivial, trivial⟩,
          ⟨at_ptr (by decide) rfl, at_ptr (by decide) rfl, at_ptr (by decide) rfl, at_ptr (by decide) rfl, at_int rfl (by omega), trivial⟩,
          ⟨blk_box (by decide) rfl rfl rfl rfl rfl, blk_box (by decide) rfl rfl rfl rfl rfl, blk_box (by decide) rfl rfl rfl rfl rfl, blk_boxK (by decide) rfl ⟨⟨by decide, rfl⟩, rfl, rfl, rfl, trivial⟩ rfl rfl, blk_row (by decide) rfl rfl (rowB_nr _) rfl, trivial⟩, by simp [ren, grH]⟩
      all_goals (exfalso; omega)
  · rw [List.drop_of_length_le (by omega), show sclL c [] = [] from rfl, List.append_nil] at i2
    subst i2
    cases s
    · rw [i1 rfl]
      (repeat' (first|refine stp ?_|with_reducible(refine brr ?_ ?_<;>intro h)));all_goals try(conv=>whnf)
      all_goals try (exfalso; omega)
      exact givesV_to rfl rfl
    · (repeat' (first|refine stp ?_|with_reducible(refine brr ?_ ?_<;>intro h)));all_goals try(conv=>whnf)
      all_goals try (exfalso; omega)
      exact givesV_to (frz_aggL (mapF_cons (frz_own_map rfl rfl rfl (fun x => frz_encQ x)) rfl)) rfl
/-- The sizes of a sum. -/
theorem plusL_sz {v : Int} {c : Rat} {k kc K : Nat} (hc : sz kc c) (hK : k + kc + 1 ≤ K) : ∀ {l : List QT} {d : Bool}, (∀ p ∈ l, sz k p.2) → ∀ r ∈ plusL v c l d, sz K r.2
  | [], d, _, r, h => by
    simp only [plusL] at h
    split at h
    · cases h
    · rw [mem_nzq h]; exact sz_le (by omega) hc
  | t :: l, d, hl, r, h => by
    simp only [plusL] at h
    rcases List.mem_append.1 h with h | h
    · rcases List.mem_append.1 h with h | h
      · split at h
        · rw [mem_nzq h]; exact sz_le (by omega) hc
        · cases h
      · rw [mem_nzq h]
        show sz K (if t.1 = v then t.2 + c else t.2)
        split
        · exact sz_le hK (sz_add (hl t (by simp)) hc)
        · exact sz_le (by omega) (hl t (by simp))
    · exact plusL_sz hc hK (fun p hp => hl p (by simp [hp])) r h
theorem plusL_len {v : Int} {c : Rat} : ∀ {l : List QT} {d : Bool}, (plusL v c l d).length ≤ l.length + (if d then 0 else 1)
  | [], d => by
    simp only [plusL]
    split
    · simp
    · have := nzq_len v c; omega
  | t :: l, d => by
    have nl1 := nzq_len v c
    have nl2 := nzq_len t.1 (if t.1 = v then t.2 + c else t.2)
    have ih := plusL_len (v := v) (c := c) (l := l) (d := ((d || decide (t.1 = v)) || decide (v < t.1)))
    simp only [plusL, List.length_append, List.length_cons]
    by_cases hA : (d || decide (t.1 = v)) = false ∧ v < t.1
    · rw [if_pos hA]
      have hd : d = false := by have := hA.1; cases d <;> simp_all
      have hx : ((d || decide (t.1 = v)) || decide (v < t.1)) = true := by simp [hA.2]
      rw [hx] at ih ⊢
      subst hd
      simp at ih ⊢
      omega
    · rw [if_neg hA]
      have : (if ((d || decide (t.1 = v)) || decide (v < t.1)) = true then 0 else 1) ≤ (if d = true then 0 else 1) := by cases d <;> simp <;> split <;> omega
      simp only [List.length_nil]
      omega
theorem ok_radd : FnOk Tryz.prog 88 Tryz.f88 (Tryz.f88.body.getD .skip) [.cell 4 49] 43 := ⟨Tryz.func88, rfl, by decide, Tryz.ntmps88, Tryz.results88, by kernel_rfl, by kernel_rfl⟩
theorem c_radd (f g : QF) (kf kg : Nat) (hf : szF kf f) (hg : szF kg g) (hk : kf + kg + (g.ts.length + 1) * (kg + 1) ≤ 949999980) (hl : f.ts.length + g.ts.length ≤ 2097140) : Fn 88 [encF f, encF g] (.data (encF (addR f g))) := by
  have lf := cr_len hf.1
  have lg := cr_len hg.1
  have hs0 := sz_add hf.1 hg.1
  have ca := c_rqadd (cr f.c) (cr g.c) (okR_cr _) (okR_cr _) (by omega) (by omega) (by omega) (by omega)
  rw [qv_cr, qv_cr] at ca
  unfold addR
  obtain ⟨C, hC⟩ : ∃ C, f.c + g.c = C := ⟨_, rfl⟩
  rw [hC] at ca hs0
  rw [hC]
  refine fnC_v hmix hT ok_radd (by simp [encF]) ?_
  (repeat' (first|refine stp ?_|with_reducible(refine brr ?_ ?_<;>intro h)));all_goals try(conv=>whnf)
  refine callV_data ca rfl ?_
  (repeat' (first|refine stp ?_|with_reducible(refine brr ?_ ?_<;>intro h)));all_goals try(conv=>whnf)
  refine loopV_kept hT (fun ((i, l) : Nat × List QT) => [(3, .ptr 0 0 0), (4, .ptr 1 0 0), (5, .ptr 2 0 0), (6, .int .i64 i)])
    (fun (i, l) => [(0, ⟨[encF g], 4, true⟩), (1, ⟨[zeroF], 4, true⟩), (2, ⟨[encF ⟨l, C⟩], 4, true⟩)]) [] 3
    (fun (i, l) => l = addL f.ts (g.ts.take i) ∧ i ≤ g.ts.length ∧ l.length ≤ f.ts.length + i ∧ ∀ p ∈ l, sz (kf + i * (kg + 1)) p.2)
    (fun (i, _) => g.ts.length - i) (0, f.ts) ⟨rfl, Nat.zero_le _, Nat.le_refl _, fun p hp => by simpa using hf.2 p hp⟩ (by decide) (by simp) ?_ ?_
  · exact ⟨[_, _, _], [], [], [], ⟨trivial, trivial, trivial⟩, ⟨at_ptr (by decide) rfl, at_ptr (by decide) rfl, at_ptr (by decide) rfl, at_int rfl rfl, trivial⟩,
      ⟨blk_box (by decide) rfl rfl rfl rfl rfl, blk_box (by decide) rfl rfl rfl rfl rfl, blk_box (by decide) rfl rfl rfl rfl rfl, trivial⟩, by simp [ren]⟩
  intro ⟨i, l⟩ ⟨i1, i2, i3, i4⟩
  by_cases hi : i < g.ts.length
  · have hp := hg.2 g.ts[i]! (by rw [getElem!_pos g.ts i hi]; exact List.getElem_mem hi)
    have hmul : (i + 1) * (kg + 1) ≤ g.ts.length * (kg + 1) := Nat.mul_le_mul_right _ (by omega)
    rw [Nat.add_mul] at hmul hk
    have hK : kf + i * (kg + 1) + kg + 1 ≤ kf + (i + 1) * (kg + 1) := by rw [Nat.add_mul]; omega
    have cp := c_rplus ⟨l, C⟩ g.ts[i]!.1 g.ts[i]!.2 (kf + kg + 1 + i * (kg + 1)) kg ⟨sz_le (by omega) hs0, fun p hp => sz_le (by omega) (i4 p hp)⟩ hp (by omega) (by show l.length ≤ _; omega)
    have hln := plusL_len (v := g.ts[i]!.1) (c := g.ts[i]!.2) (l := l) (d := false)
    have hsn := plusL_sz (v := g.ts[i]!.1) hp hK (l := l) (d := false) i4
    have hn : plusL g.ts[i]!.1 g.ts[i]!.2 l false = addL f.ts (g.ts.take (i + 1)) := by
      rw [i1]; unfold addL; rw [List.take_succ_eq_append_getElem hi, List.foldl_append, getElem!_pos g.ts i hi]; rfl
    simp only [Bool.false_eq_true, if_false] at hln
    (repeat' (first|refine stp ?_|with_reducible(refine brr ?_ ?_<;>intro h)));all_goals try(conv=>whnf)
    · refine callV_data cp rfl ?_
      (repeat' (first|refine stp ?_|with_reducible(refine brr ?_ ?_<;>intro h)));all_goals try(conv=>whnf)
      exact ⟨(i + 1, plusL g.ts[i]!.1 g.ts[i]!.2 l false), ⟨⟨hn, by omega, by omega, hsn⟩, by show g.ts.length - (i + 1) < g.ts.length - i; omega⟩, [0, 1, 2], [], [], [], ⟨trivial, trivial, trivial⟩,
        ⟨at_ptr (by decide) rfl, at_ptr (by decide) rfl, at_ptr (by decide) rfl, at_int rfl (by omega), trivial⟩,
        ⟨blk_box (by decide) rfl rfl rfl rfl rfl, blk_box (by decide) rfl rfl rfl rfl rfl, blk_box (by decide) rfl rfl rfl rfl rfl, trivial⟩, by simp [ren]⟩
    all_goals (exfalso; omega)
  · rw [List.take_of_length_le (by omega)] at i1
    subst i1
    (repeat' (first|refine stp ?_|with_reducible(refine brr ?_ ?_<;>intro h)));all_goals try(conv=>whnf)
    all_goals try (exfalso; omega)
    exact givesV_to (frz_aggL (mapF_cons (frz_own_map rfl (by simp) (by simp) (fun x => frz_encQ x)) rfl)) rfl
theorem sclL_sz {c : Rat} {k kc : Nat} (hc : sz kc c) {l : List QT} (h : ∀ p ∈ l, sz k p.2) : ∀ r ∈ sclL c l, sz (k + kc) r.2 := fun r hr => by
  unfold sclL at hr
  obtain ⟨t, ht, hr⟩ := List.mem_flatMap.1 hr
  rw [mem_nzq hr]; exact sz_mul (h t ht) hc
theorem sclL_len {c : Rat} : ∀ {l : List QT}, (sclL c l).length ≤ l.length
  | [] => Nat.le_refl _
  | t :: l => by
    have := nzq_len t.1 (t.2 * c)
    have := sclL_len (c := c) (l := l)
    unfold sclL at *
    rw [List.flatMap_cons, List.length_append, List.length_cons]; omega
theorem scaleR_sz {f : QF} {c : Rat} {k kc : Nat} (hf : szF k f) (hc : sz kc c) : szF (k + kc) (scaleR f c) := ⟨sz_mul hf.1 hc, sclL_sz hc hf.2⟩
end Go.PI.Tryz
