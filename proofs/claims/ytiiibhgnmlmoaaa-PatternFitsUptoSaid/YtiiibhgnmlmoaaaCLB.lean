/-
  Affine forms: Add, Sub, Scale, Eval.
-/
import Derived.Test.YtiiibhgnmlmoaaaCIB
import Derived.Test.YtiiibhgnmlmoaaaCPD
namespace Go.PI.Try
set_option linter.unnecessarySimpa false
open Go.Proofs Go.PI
set_option linter.unusedSimpArgs false
set_option linter.unusedVariables false
theorem ok_lvalid : FnOk Try.prog 33 Try.f33 (Try.f33.body.getD .skip) [.tmp 4] 56 := ⟨Try.func33, rfl, by decide, Try.ntmps33, Try.results33, by kernel_rfl, by kernel_rfl⟩
theorem c_lvalid (f : AffL) (n : Int) (hf : okA 2147483596 f) : Fn 33 [encAff f, .int .i64 n] (.data (.bool (validB f n))) := by
  obtain ⟨hc, ht, hl⟩ := hf
  refine fnC_v hmix hT ok_lvalid (by simp [encAff]) ?_
  (repeat' (first|refine stp ?_|with_reducible(refine brr ?_ ?_<;>intro h)));all_goals try(conv=>whnf)
  refine loopV_kept hT (fun (i : Nat) => [(1, .int .i64 n), (2, .ptr 0 0 0), (8, .imm (f.terms.map encTerm)), (9, .int .i64 f.terms.length), (10, .int .i64 i)]) (fun _ => [(0, ⟨[encAff f], 4, true⟩)]) [] 1
    (fun i => i ≤ f.terms.length ∧ ∀ j, j < i → okT f.terms n j) (fun i => f.terms.length - i) 0 ⟨Nat.zero_le _, fun j h => (by omega)⟩ (by decide) (by simp) ?_ ?_
  · exact ⟨[0], [], [], [], ⟨trivial, trivial, trivial⟩, ⟨at_int rfl rfl, at_ptr (by decide) rfl, at_imm rfl rfl, at_int rfl (by simp), at_int rfl rfl, trivial⟩, ⟨blk_box (by decide) rfl rfl rfl rfl rfl, trivial⟩, by simp [ren]⟩
  intro i ⟨i1, i2⟩
  have hcv := c_qvalid f.const hc.1 (by have := hc.2; omega) (by have := hc.2; omega)
  by_cases hi : i < f.terms.length
  · have hq := okA_get (f := f) ⟨hc, ht, hl⟩ hi
    have cs := c_qsign f.terms[i]!.coef hq.1 (by have := hq.2; omega)
    have cv := c_qvalid f.terms[i]!.coef hq.1 (by have := hq.2; omega) (by have := hq.2; omega)
    (repeat' (first|refine stp ?_|with_reducible(refine brr ?_ ?_<;>intro h)));all_goals try(conv=>whnf)
    · exact givesV_to rfl (congrArg PV.bool (validB_bad (i := i) (by omega) fun e => by have := e.1; omega))
    · exact givesV_to rfl (congrArg PV.bool (validB_bad (i := i) (by omega) fun e => by have := e.2.1; omega))
    · refine oK_map' (j := i - 1) (by omega) (by omega) ?_
      (repeat' (first|refine stp ?_|with_reducible(refine brr ?_ ?_<;>intro h)));all_goals try(conv=>whnf)
      · exact givesV_to rfl (congrArg PV.bool (validB_bad (i := i) (by omega) fun e => by have := e.2.2.1 (by omega); omega))
      refine callV_data cs rfl ?_
      (repeat' (first|refine stp ?_|with_reducible(refine brr ?_ ?_<;>intro h)));all_goals try(conv=>whnf)
      · exact givesV_to rfl (congrArg PV.bool (validB_bad (i := i) (by omega) fun e => e.2.2.2.1 (sgnQ_zero.1 h)))
      · refine callV_data cv rfl ?_
        (repeat' (first|refine stp ?_|with_reducible(refine brr ?_ ?_<;>intro h)));all_goals try(conv=>whnf)
        · refine ⟨i + 1, ⟨⟨by omega, fun j hj => ?_⟩, by show f.terms.length - (i + 1) < f.terms.length - i; omega⟩, [0], [], [], [], ⟨trivial, trivial, trivial⟩, ⟨at_int rfl rfl, at_ptr (by decide) rfl, at_imm rfl rfl, at_int rfl rfl, at_int rfl (by omega), trivial⟩, ⟨blk_box (by decide) rfl rfl rfl rfl rfl, trivial⟩, by simp [ren]⟩
          rcases Nat.lt_or_eq_of_le (Nat.le_of_lt_succ hj) with hj | rfl
          · exact i2 j hj
          · exact ⟨by omega, by omega, fun h0 => by omega, fun e => by have := sgnQ_zero.2 e; omega, h⟩
        · exact givesV_to rfl (congrArg PV.bool (validB_bad (i := i) (by omega) fun e => h e.2.2.2.2))
    · refine callV_data cs rfl ?_
      (repeat' (first|refine stp ?_|with_reducible(refine brr ?_ ?_<;>intro h)));all_goals try(conv=>whnf)
      · exact givesV_to rfl (congrArg PV.bool (validB_bad (i := i) (by omega) fun e => e.2.2.2.1 (sgnQ_zero.1 h)))
      · refine callV_data cv rfl ?_
        (repeat' (first|refine stp ?_|with_reducible(refine brr ?_ ?_<;>intro h)));all_goals try(conv=>whnf)
        · refine ⟨i + 1, ⟨⟨by omega, fun j hj => ?_⟩, by show f.terms.length - (i + 1) < f.terms.length - i; omega⟩, [0], [], [], [], ⟨trivial, trivial, trivial⟩, ⟨at_int rfl rfl, at_ptr (by decide) rfl, at_imm rfl rfl, at_int rfl rfl, at_int rfl (by omega), trivial⟩, ⟨blk_box (by decide) rfl rfl rfl rfl rfl, trivial⟩, by simp [ren]⟩
          rcases Nat.lt_or_eq_of_le (Nat.le_of_lt_succ hj) with hj | rfl
          · exact i2 j hj
          · exact ⟨by omega, by omega, fun h0 => by omega, fun e => by have := sgnQ_zero.2 e; omega, h⟩
        · exact givesV_to rfl (congrArg PV.bool (validB_bad (i := i) (by omega) fun e => h e.2.2.2.2))
    · omega
  · (repeat' (first|refine stp ?_|with_reducible(refine brr ?_ ?_<;>intro h)));all_goals try(conv=>whnf)
    all_goals try (exfalso; omega)
    refine callV_data hcv rfl ?_
    (repeat' (first|refine stp ?_|with_reducible(refine brr ?_ ?_<;>intro h)));all_goals try(conv=>whnf)
    exact givesV_to rfl (congrArg PV.bool (validB_end fun j hj => i2 j (by omega)))
end Go.PI.Try
namespace Go.PI.Try
set_option linter.unnecessarySimpa false
open Go.Proofs Go.PI
set_option linter.unusedSimpArgs false
set_option linter.unusedVariables false
/-- A form whose terms are a row of its own. -/
def ownF (n : Nat) (c : Rat) : PV := .agg [.own 0 0 n, .bool (cr c).neg, encN (cr c).num, encN (cr c).den]
def nilF (c : Rat) : PV := .agg [.nilsl, .bool (cr c).neg, encN (cr c).num, encN (cr c).den]
def rowB (O : List QT) : Blk := ⟨O.map encQ, 4, true⟩
theorem ownF_ok (O : List QT) (c : Rat) : okRes (rowB O) (ownF O.length c) := by
  refine Or.inl ⟨fun x hx => ?_, ?_⟩
  · simp only [ownF, resCells, List.mem_cons, List.not_mem_nil, or_false] at hx
    rcases hx with rfl | rfl | rfl | rfl
    · left; simp [rowB]
    all_goals right; rfl
  · simp [ownF, resCells, rowB]
theorem rowB_nr (O : List QT) : ∀ e ∈ O.map encQ, nr 3 e = true ∧ e ≠ .any := nr_map fun x => ⟨rfl, by simp [encQ, encTerm]⟩
theorem ok_lput : FnOk Try.prog 56 Try.f56 (Try.f56.body.getD .skip) [.cell 6 51] 20 := ⟨Try.func56, rfl, by decide, Try.ntmps56, Try.results56, by kernel_rfl, by kernel_rfl⟩
theorem c_lput_take (O : List QT) (c : Rat) (v : Int) (q : Rat) (k : Nat) (hq : sz k q) (hk : k ≤ 2147483596) (hO : O.length < 2147483648) : Fn 56 [ownF O.length c, .int .i64 v, encRat (cr q)] (.own (some (rowB O)) (ownF (O ++ nzq v q).length c) (rowB (O ++ nzq v q))) := by
  have hl := cr_len hq
  have cs := c_qsign (cr q) (okR_cr q) (by omega)
  have cc := c_qcanon (cr q) (okR_cr q) (by omega) (by omega)
  rw [qv_cr] at cs cc
  refine fnC_vtake hmix hT ok_lput (by simp) ?_
  (repeat' (first|refine stp ?_|with_reducible(refine brr ?_ ?_<;>intro h)));all_goals try(conv=>whnf)
  refine callV_data cs rfl ?_
  (repeat' (first|refine stp ?_|with_reducible(refine brr ?_ ?_<;>intro h)));all_goals try(conv=>whnf)
  · rw [nzq_ne fun e => h (sgnQ_zero.2 e)]
    refine callV_data cc rfl ?_
    (repeat' (first|refine stp ?_|with_reducible(refine brr ?_ ?_<;>intro h)));all_goals try(conv=>whnf)
    refine sideD_intro ⟨rfl, by simp [rowB], by simp; omega⟩ ?_
    (repeat' (first|refine stp ?_|with_reducible(refine brr ?_ ?_<;>intro h)));all_goals try(conv=>whnf)
    refine ownV_to (r := 14) ?_ rfl ?_ rfl (fun e he => (rowB_nr _ e he).1) (ownF_ok _ c)
    · simp [ownF, rk, rk1]
    · simp [rowB, encQ, encTerm, tQ]
  · rw [show q = 0 from sgnQ_zero.1 h, nzq_zero, List.append_nil]
    exact ownV_to (r := 0) rfl rfl rfl rfl (fun e he => (rowB_nr _ e he).1) (ownF_ok _ c)
theorem c_lput_give (c : Rat) (v : Int) (q : Rat) (k : Nat) (hq : sz k q) (hk : k ≤ 2147483596) : Fn 56 [nilF c, .int .i64 v, encRat (cr q)] (.own none (ownF (nzq v q).length c) (rowB (nzq v q))) := by
  have hl := cr_len hq
  have cs := c_qsign (cr q) (okR_cr q) (by omega)
  have cc := c_qcanon (cr q) (okR_cr q) (by omega) (by omega)
  rw [qv_cr] at cs cc
  refine fnC_vgive hmix hT ok_lput (by simp) ?_
  (repeat' (first|refine stp ?_|with_reducible(refine brr ?_ ?_<;>intro h)));all_goals try(conv=>whnf)
  refine callV_data cs rfl ?_
  (repeat' (first|refine stp ?_|with_reducible(refine brr ?_ ?_<;>intro h)));all_goals try(conv=>whnf)
  · rw [nzq_ne fun e => h (sgnQ_zero.2 e)]
    refine callV_data cc rfl ?_
    (repeat' (first|refine stp ?_|with_reducible(refine brr ?_ ?_<;>intro h)));all_goals try(conv=>whnf)
    refine ownV_to (r := 14) ?_ rfl ?_ rfl (fun e he => (rowB_nr _ e he).1) (ownF_ok _ c)
    · simp [ownF, rk, rk1]
    · simp [encQ, encTerm, tQ]
  · rw [show q = 0 from sgnQ_zero.1 h, nzq_zero]
    exact ownV_nil rfl rfl (ownF_ok [] c)
/-- The growing form, in a box. -/
def grF : Bool → Nat → Rat → PV
  | true, n, c => ownF n c
  | false, _, c => nilF c
def grH : Bool → List QT → List (Nat × Blk)
  | true, O => [(0, rowB O)]
  | false, _ => []
def zeroF : PV := .agg [.nilsl, .bool false, .nilsl, .nilsl]
theorem nzq_len (v : Int) (x : Rat) : (nzq v x).length ≤ 1 := by unfold nzq; split <;> simp
theorem frz_encQ {h : Hp} {n : Nat} (x : QT) : frz h (n + 1) (encQ x) = some (encQ x, []) := by cases n <;> rfl
theorem cons_pos (p : QT) (a : List QT) : (((p :: a).length : Nat) : Int) > 0 := by rw [List.length_cons]; omega
theorem ok_lmerge : FnOk Try.prog 41 Try.f41 (Try.f41.body.getD .skip) [.cell 6 51] 113 := ⟨Try.func41, rfl, by decide, Try.ntmps41, Try.results41, by kernel_rfl, by kernel_rfl⟩
set_option maxHeartbeats 1000000 in
theorem c_lmerge (f g : QF) (c : Rat) (kf kg kc : Nat) (hf : ∀ p ∈ f.ts, sz kf p.2) (hg : ∀ p ∈ g.ts, sz kg p.2) (hfc : sz kf f.c) (hgc : sz kg g.c) (hc : sz kc c) (hk : kf + kg + kc ≤ 950000000) (hl1 : f.ts.length ≤ 1048576) (hl2 : g.ts.length ≤ 1048576) :
    Fn 41 [encF f, encF g, encRat (cr c)] (.data (encF (mergeQ f g c))) := by
  have q1 := cr_len hfc
  have q2 := cr_len hgc
  have q3 := cr_len hc
  have m0 := sz_mul hgc hc
  have q4 := cr_len m0
  have cm := c_qmul (cr g.c) (cr c) (okR_cr _) (okR_cr _) (by omega) (by omega) (by omega) (by omega)
  rw [qv_cr, qv_cr] at cm
  have ca := c_qadd (cr f.c) (cr (g.c * c)) (okR_cr _) (okR_cr _) (by omega) (by omega) (by omega) (by omega)
  rw [qv_cr, qv_cr] at ca
  refine fnC_v hmix hT ok_lmerge (by simp [encF]) ?_
  (repeat' (first|refine stp ?_|with_reducible(refine brr ?_ ?_<;>intro h)));all_goals try(conv=>whnf)
  refine callV_data cm rfl ?_
  (repeat' (first|refine stp ?_|with_reducible(refine brr ?_ ?_<;>intro h)));all_goals try(conv=>whnf)
  refine callV_data ca rfl ?_
  (repeat' (first|refine stp ?_|with_reducible(refine brr ?_ ?_<;>intro h)));all_goals try(conv=>whnf)
  obtain ⟨C, hC⟩ : ∃ C, f.c + g.c * c = C := ⟨_, rfl⟩
  obtain ⟨M, hM⟩ : ∃ M, mrg c f.ts g.ts = M := ⟨_, rfl⟩
  unfold mergeQ
  rw [hM]
  simp only [hC]
  clear ca cm
  refine loopV_kept hT (fun ((a, b, O, s) : List QT × List QT × List QT × Bool) => [(5, .ptr 1 0 0), (6, .ptr 2 0 0), (7, .ptr 3 0 0), (8, .imm (a.map encQ)), (9, .imm (b.map encQ))])
    (fun (a, b, O, s) => (1, ⟨[encRat (cr c)], 3, true⟩) :: (2, ⟨[zeroF], 4, true⟩) :: (3, ⟨[grF s O.length C], 4, true⟩) :: grH s O) [] 4
    (fun (a, b, O, s) => (s = false → O = []) ∧ O ++ mrg c a b = M ∧ (∀ p ∈ a, sz kf p.2) ∧ (∀ p ∈ b, sz kg p.2) ∧ a.length + b.length + O.length ≤ 2147483648)
    (fun (a, b, _, _) => a.length + b.length) (f.ts, g.ts, [], false) ⟨fun _ => rfl, hM, hf, hg, by simp; omega⟩ (by decide) (by simp) ?_ ?_
  · exact ⟨[0, 2, 3, 12], [], [], [], ⟨trivial, trivial, trivial⟩, ⟨at_ptr (by decide) rfl, at_ptr (by decide) rfl, at_ptr (by decide) rfl, at_imm rfl rfl, at_imm rfl rfl, trivial⟩,
      ⟨blk_box (by decide) rfl rfl rfl rfl rfl, blk_box (by decide) rfl rfl rfl rfl rfl, blk_box (by decide) rfl rfl rfl rfl rfl, trivial⟩, by simp [ren, grH]⟩
  intro ⟨a, b, O, s⟩ ⟨i1, i2, i3, i4, i5⟩
  rcases a with _ | ⟨p, a⟩ <;> rcases b with _ | ⟨q, b⟩ <;> cases s
  · (repeat' (first|refine stp ?_|with_reducible(refine brr ?_ ?_<;>intro h)));all_goals try(conv=>whnf)
    rw [mrg, List.append_nil] at i2
    have hO := i1 rfl
    subst hO
    subst i2
    exact givesV_to rfl rfl
  · (repeat' (first|refine stp ?_|with_reducible(refine brr ?_ ?_<;>intro h)));all_goals try(conv=>whnf)
    rw [mrg, List.append_nil] at i2
    subst i2
    exact givesV_to (frz_aggL (mapF_cons (frz_own_map rfl rfl rfl (fun x => frz_encQ x)) rfl)) rfl
  · (repeat' (first|refine stp ?_|with_reducible(refine brr ?_ ?_<;>intro h)));all_goals try(conv=>whnf)
    · have hq := i4 q (by simp)
      have hqc := sz_mul hq hc
      have l1 := cr_len hq
      have cm := c_qmul (cr q.2) (cr c) (okR_cr _) (okR_cr _) (by omega) (by omega) (by omega) (by omega)
      rw [qv_cr, qv_cr] at cm
      refine callV_data cm rfl ?_
      (repeat' (first|refine stp ?_|with_reducible(refine brr ?_ ?_<;>intro h)));all_goals try(conv=>whnf)
      refine callV_give (c_lput_give C q.1 (q.2 * c) _ hqc (by omega)) rfl ?_
      (repeat' (first|refine stp ?_|with_reducible(refine brr ?_ ?_<;>intro h)));all_goals try(conv=>whnf)
      refine slK_map (l' := b) (by simp) ?_
      (repeat' (first|refine stp ?_|with_reducible(refine brr ?_ ?_<;>intro h)));all_goals try(conv=>whnf)
      have nl := nzq_len q.1 (q.2 * c)
      exact ⟨([], b, nzq q.1 (q.2 * c), true), ⟨⟨by simp, by rw [mrg] at i2; rw [i1 rfl, List.nil_append] at i2; exact i2, fun r hr => i3 r (by simp_all), fun r hr => i4 r (by simp_all), by simp at i5 ⊢; omega⟩, by simp; try omega⟩, [_, _, _, _], [], [], [], ⟨trivial, trivial, trivial⟩, ⟨at_ptr (by decide) rfl, at_ptr (by decide) rfl, at_ptr (by decide) rfl, at_imm rfl rfl, at_imm rfl rfl, trivial⟩,
        ⟨blk_box (by decide) rfl rfl rfl rfl rfl, blk_box (by decide) rfl rfl rfl rfl rfl, blk_boxK (by decide) rfl ⟨⟨by decide, rfl⟩, rfl, rfl, rfl, trivial⟩ rfl rfl, blk_row (by decide) rfl rfl (rowB_nr _) rfl, trivial⟩, by simp [ren, grH]⟩
    · exact absurd h (by simp)
  · (repeat' (first|refine stp ?_|with_reducible(refine brr ?_ ?_<;>intro h)));all_goals try(conv=>whnf)
    · have hq := i4 q (by simp)
      have hqc := sz_mul hq hc
      have l1 := cr_len hq
      have cm := c_qmul (cr q.2) (cr c) (okR_cr _) (okR_cr _) (by omega) (by omega) (by omega) (by omega)
      rw [qv_cr, qv_cr] at cm
      refine callV_data cm rfl ?_
      (repeat' (first|refine stp ?_|with_reducible(refine brr ?_ ?_<;>intro h)));all_goals try(conv=>whnf)
      refine callV_take (r := 0) (c_lput_take O C q.1 (q.2 * c) _ hqc (by omega) (by omega)) rfl rfl rfl rfl (nrs_of (rowB_nr O)) ?_
      (repeat' (first|refine stp ?_|with_reducible(refine brr ?_ ?_<;>intro h)));all_goals try(conv=>whnf)
      refine slK_map (l' := b) (by simp) ?_
      (repeat' (first|refine stp ?_|with_reducible(refine brr ?_ ?_<;>intro h)));all_goals try(conv=>whnf)
      have nl := nzq_len q.1 (q.2 * c)
      exact ⟨([], b, O ++ nzq q.1 (q.2 * c), true), ⟨⟨by simp, by rw [mrg] at i2; rw [List.append_assoc]; exact i2, fun r hr => i3 r (by simp_all), fun r hr => i4 r (by simp_all), by simp at i5 ⊢; omega⟩, by simp; try omega⟩, [_, _, _, _], [], [], [], ⟨trivial, trivial, trivial⟩, ⟨at_ptr (by decide) rfl, at_ptr (by decide) rfl, at_ptr (by decide) rfl, at_imm rfl rfl, at_imm rfl rfl, trivial⟩,
        ⟨blk_box (by decide) rfl rfl rfl rfl rfl, blk_box (by decide) rfl rfl rfl rfl rfl, blk_boxK (by decide) rfl ⟨⟨by decide, rfl⟩, rfl, rfl, rfl, trivial⟩ rfl rfl, blk_row (by decide) rfl rfl (rowB_nr _) rfl, trivial⟩, by simp [ren, grH]⟩
    · exact absurd h (by simp)
  · (repeat' (first|refine stp ?_|with_reducible(refine brr ?_ ?_<;>intro h)));all_goals try(conv=>whnf)
    · have hp := i3 p (by simp)
      refine callV_give (c_lput_give C p.1 p.2 _ hp (by omega)) rfl ?_
      (repeat' (first|refine stp ?_|with_reducible(refine brr ?_ ?_<;>intro h)));all_goals try(conv=>whnf)
      refine slK_map (l' := a) (by simp) ?_
      (repeat' (first|refine stp ?_|with_reducible(refine brr ?_ ?_<;>intro h)));all_goals try(conv=>whnf)
      have nl := nzq_len p.1 p.2
      exact ⟨(a, [], nzq p.1 p.2, true), ⟨⟨by simp, by rw [mrg] at i2; rw [i1 rfl, List.nil_append] at i2; exact i2, fun r hr => i3 r (by simp_all), fun r hr => i4 r (by simp_all), by simp at i5 ⊢; omega⟩, by simp; try omega⟩, [_, _, _, _], [], [], [], ⟨trivial, trivial, trivial⟩, ⟨at_ptr (by decide) rfl, at_ptr (by decide) rfl, at_ptr (by decide) rfl, at_imm rfl rfl, at_imm rfl rfl, trivial⟩,
        ⟨blk_box (by decide) rfl rfl rfl rfl rfl, blk_box (by decide) rfl rfl rfl rfl rfl, blk_boxK (by decide) rfl ⟨⟨by decide, rfl⟩, rfl, rfl, rfl, trivial⟩ rfl rfl, blk_row (by decide) rfl rfl (rowB_nr _) rfl, trivial⟩, by simp [ren, grH]⟩
    all_goals first | contradiction | exact absurd (cons_pos _ _) h | exact absurd (cons_pos p a) (by assumption) | exact absurd (cons_pos q b) (by assumption)
  · (repeat' (first|refine stp ?_|with_reducible(refine brr ?_ ?_<;>intro h)));all_goals try(conv=>whnf)
    · have hp := i3 p (by simp)
      refine callV_take (r := 0) (c_lput_take O C p.1 p.2 _ hp (by omega) (by omega)) rfl rfl rfl rfl (nrs_of (rowB_nr O)) ?_
      (repeat' (first|refine stp ?_|with_reducible(refine brr ?_ ?_<;>intro h)));all_goals try(conv=>whnf)
      refine slK_map (l' := a) (by simp) ?_
      (repeat' (first|refine stp ?_|with_reducible(refine brr ?_ ?_<;>intro h)));all_goals try(conv=>whnf)
      have nl := nzq_len p.1 p.2
      exact ⟨(a, [], O ++ nzq p.1 p.2, true), ⟨⟨by simp, by rw [mrg] at i2; rw [List.append_assoc]; exact i2, fun r hr => i3 r (by simp_all), fun r hr => i4 r (by simp_all), by simp at i5 ⊢; omega⟩, by simp; try omega⟩, [_, _, _, _], [], [], [], ⟨trivial, trivial, trivial⟩, ⟨at_ptr (by decide) rfl, at_ptr (by decide) rfl, at_ptr (by decide) rfl, at_imm rfl rfl, at_imm rfl rfl, trivial⟩,
        ⟨blk_box (by decide) rfl rfl rfl rfl rfl, blk_box (by decide) rfl rfl rfl rfl rfl, blk_boxK (by decide) rfl ⟨⟨by decide, rfl⟩, rfl, rfl, rfl, trivial⟩ rfl rfl, blk_row (by decide) rfl rfl (rowB_nr _) rfl, trivial⟩, by simp [ren, grH]⟩
    all_goals first | contradiction | exact absurd (cons_pos _ _) h | exact absurd (cons_pos p a) (by assumption) | exact absurd (cons_pos q b) (by assumption)
  · (repeat' (first|refine stp ?_|with_reducible(refine brr ?_ ?_<;>intro h)));all_goals try(conv=>whnf)
    · have hp := i3 p (by simp)
      refine callV_give (c_lput_give C p.1 p.2 _ hp (by omega)) rfl ?_
      (repeat' (first|refine stp ?_|with_reducible(refine brr ?_ ?_<;>intro h)));all_goals try(conv=>whnf)
      refine slK_map (l' := a) (by simp) ?_
      (repeat' (first|refine stp ?_|with_reducible(refine brr ?_ ?_<;>intro h)));all_goals try(conv=>whnf)
      have nl := nzq_len p.1 p.2
      exact ⟨(a, q :: b, nzq p.1 p.2, true), ⟨⟨by simp, by rw [mrg, if_pos (show p.1 < q.1 from h)] at i2; rw [i1 rfl, List.nil_append] at i2; exact i2, fun r hr => i3 r (by simp_all), fun r hr => i4 r (by simp_all), by simp at i5 ⊢; omega⟩, by simp; try omega⟩, [_, _, _, _], [], [], [], ⟨trivial, trivial, trivial⟩, ⟨at_ptr (by decide) rfl, at_ptr (by decide) rfl, at_ptr (by decide) rfl, at_imm rfl rfl, at_imm rfl rfl, trivial⟩,
        ⟨blk_box (by decide) rfl rfl rfl rfl rfl, blk_box (by decide) rfl rfl rfl rfl rfl, blk_boxK (by decide) rfl ⟨⟨by decide, rfl⟩, rfl, rfl, rfl, trivial⟩ rfl rfl, blk_row (by decide) rfl rfl (rowB_nr _) rfl, trivial⟩, by simp [ren, grH]⟩
    · have hq := i4 q (by simp)
      have hqc := sz_mul hq hc
      have l1 := cr_len hq
      have cm := c_qmul (cr q.2) (cr c) (okR_cr _) (okR_cr _) (by omega) (by omega) (by omega) (by omega)
      rw [qv_cr, qv_cr] at cm
      refine callV_data cm rfl ?_
      (repeat' (first|refine stp ?_|with_reducible(refine brr ?_ ?_<;>intro h)));all_goals try(conv=>whnf)
      refine callV_give (c_lput_give C q.1 (q.2 * c) _ hqc (by omega)) rfl ?_
      (repeat' (first|refine stp ?_|with_reducible(refine brr ?_ ?_<;>intro h)));all_goals try(conv=>whnf)
      refine slK_map (l' := b) (by simp) ?_
      (repeat' (first|refine stp ?_|with_reducible(refine brr ?_ ?_<;>intro h)));all_goals try(conv=>whnf)
      have nl := nzq_len q.1 (q.2 * c)
      exact ⟨(p :: a, b, nzq q.1 (q.2 * c), true), ⟨⟨by simp, by rw [mrg, if_neg (show ¬ p.1 < q.1 from ‹¬ (tQ p).var < (tQ q).var›), if_pos (show q.1 < p.1 from h)] at i2; rw [i1 rfl, List.nil_append] at i2; exact i2, fun r hr => i3 r (by simp_all), fun r hr => i4 r (by simp_all), by simp at i5 ⊢; omega⟩, by simp; try omega⟩, [_, _, _, _], [], [], [], ⟨trivial, trivial, trivial⟩, ⟨at_ptr (by decide) rfl, at_ptr (by decide) rfl, at_ptr (by decide) rfl, at_imm rfl rfl, at_imm rfl rfl, trivial⟩,
        ⟨blk_box (by decide) rfl rfl rfl rfl rfl, blk_box (by decide) rfl rfl rfl rfl rfl, blk_boxK (by decide) rfl ⟨⟨by decide, rfl⟩, rfl, rfl, rfl, trivial⟩ rfl rfl, blk_row (by decide) rfl rfl (rowB_nr _) rfl, trivial⟩, by simp [ren, grH]⟩
    · have hq := i4 q (by simp)
      have hqc := sz_mul hq hc
      have l1 := cr_len hq
      have cm := c_qmul (cr q.2) (cr c) (okR_cr _) (okR_cr _) (by omega) (by omega) (by omega) (by omega)
      rw [qv_cr, qv_cr] at cm
      have hp := i3 p (by simp)
      have hpq := sz_add hp hqc
      have l2 := cr_len hp
      have l3 := cr_len hqc
      have ca := c_qadd (cr p.2) (cr (q.2 * c)) (okR_cr _) (okR_cr _) (by omega) (by omega) (by omega) (by omega)
      rw [qv_cr, qv_cr] at ca
      refine callV_data cm rfl ?_
      (repeat' (first|refine stp ?_|with_reducible(refine brr ?_ ?_<;>intro h)));all_goals try(conv=>whnf)
      refine callV_data ca rfl ?_
      (repeat' (first|refine stp ?_|with_reducible(refine brr ?_ ?_<;>intro h)));all_goals try(conv=>whnf)
      refine callV_give (c_lput_give C p.1 (p.2 + q.2 * c) _ hpq (by omega)) rfl ?_
      (repeat' (first|refine stp ?_|with_reducible(refine brr ?_ ?_<;>intro h)));all_goals try(conv=>whnf)
      refine slK_map (l' := a) (by simp) ?_
      (repeat' (first|refine stp ?_|with_reducible(refine brr ?_ ?_<;>intro h)));all_goals try(conv=>whnf)
      refine slK_map (l' := b) (by simp) ?_
      (repeat' (first|refine stp ?_|with_reducible(refine brr ?_ ?_<;>intro h)));all_goals try(conv=>whnf)
      have nl := nzq_len p.1 (p.2 + q.2 * c)
      exact ⟨(a, b, nzq p.1 (p.2 + q.2 * c), true), ⟨⟨by simp, by rw [mrg, if_neg (show ¬ p.1 < q.1 from ‹¬ (tQ p).var < (tQ q).var›), if_neg (show ¬ q.1 < p.1 from h)] at i2; rw [i1 rfl, List.nil_append] at i2; exact i2, fun r hr => i3 r (by simp_all), fun r hr => i4 r (by simp_all), by simp at i5 ⊢; omega⟩, by simp; try omega⟩, [_, _, _, _], [], [], [], ⟨trivial, trivial, trivial⟩, ⟨at_ptr (by decide) rfl, at_ptr (by decide) rfl, at_ptr (by decide) rfl, at_imm rfl rfl, at_imm rfl rfl, trivial⟩,
        ⟨blk_box (by decide) rfl rfl rfl rfl rfl, blk_box (by decide) rfl rfl rfl rfl rfl, blk_boxK (by decide) rfl ⟨⟨by decide, rfl⟩, rfl, rfl, rfl, trivial⟩ rfl rfl, blk_row (by decide) rfl rfl (rowB_nr _) rfl, trivial⟩, by simp [ren, grH]⟩
    all_goals first | contradiction | exact absurd (cons_pos _ _) h | exact absurd (cons_pos p a) (by assumption) | exact absurd (cons_pos q b) (by assumption)
  · (repeat' (first|refine stp ?_|with_reducible(refine brr ?_ ?_<;>intro h)));all_goals try(conv=>whnf)
    · have hp := i3 p (by simp)
      refine callV_take (r := 0) (c_lput_take O C p.1 p.2 _ hp (by omega) (by omega)) rfl rfl rfl rfl (nrs_of (rowB_nr O)) ?_
      (repeat' (first|refine stp ?_|with_reducible(refine brr ?_ ?_<;>intro h)));all_goals try(conv=>whnf)
      refine slK_map (l' := a) (by simp) ?_
      (repeat' (first|refine stp ?_|with_reducible(refine brr ?_ ?_<;>intro h)));all_goals try(conv=>whnf)
      have nl := nzq_len p.1 p.2
      exact ⟨(a, q :: b, O ++ nzq p.1 p.2, true), ⟨⟨by simp, by rw [mrg, if_pos (show p.1 < q.1 from h)] at i2; rw [List.append_assoc]; exact i2, fun r hr => i3 r (by simp_all), fun r hr => i4 r (by simp_all), by simp at i5 ⊢; omega⟩, by simp; try omega⟩, [_, _, _, _], [], [], [], ⟨trivial, trivial, trivial⟩, ⟨at_ptr (by decide) rfl, at_ptr (by decide) rfl, at_ptr (by decide) rfl, at_imm rfl rfl, at_imm rfl rfl, trivial⟩,
        ⟨blk_box (by decide) rfl rfl rfl rfl rfl, blk_box (by decide) rfl rfl rfl rfl rfl, blk_boxK (by decide) rfl ⟨⟨by decide, rfl⟩, rfl, rfl, rfl, trivial⟩ rfl rfl, blk_row (by decide) rfl rfl (rowB_nr _) rfl, trivial⟩, by simp [ren, grH]⟩
    · have hq := i4 q (by simp)
      have hqc := sz_mul hq hc
      have l1 := cr_len hq
      have cm := c_qmul (cr q.2) (cr c) (okR_cr _) (okR_cr _) (by omega) (by omega) (by omega) (by omega)
      rw [qv_cr, qv_cr] at cm
      refine callV_data cm rfl ?_
      (repeat' (first|refine stp ?_|with_reducible(refine brr ?_ ?_<;>intro h)));all_goals try(conv=>whnf)
      refine callV_take (r := 0) (c_lput_take O C q.1 (q.2 * c) _ hqc (by omega) (by omega)) rfl rfl rfl rfl (nrs_of (rowB_nr O)) ?_
      (repeat' (first|refine stp ?_|with_reducible(refine brr ?_ ?_<;>intro h)));all_goals try(conv=>whnf)
      refine slK_map (l' := b) (by simp) ?_
      (repeat' (first|refine stp ?_|with_reducible(refine brr ?_ ?_<;>intro h)));all_goals try(conv=>whnf)
      have nl := nzq_len q.1 (q.2 * c)
      exact ⟨(p :: a, b, O ++ nzq q.1 (q.2 * c), true), ⟨⟨by simp, by rw [mrg, if_neg (show ¬ p.1 < q.1 from ‹¬ (tQ p).var < (tQ q).var›), if_pos (show q.1 < p.1 from h)] at i2; rw [List.append_assoc]; exact i2, fun r hr => i3 r (by simp_all), fun r hr => i4 r (by simp_all), by simp at i5 ⊢; omega⟩, by simp; try omega⟩, [_, _, _, _], [], [], [], ⟨trivial, trivial, trivial⟩, ⟨at_ptr (by decide) rfl, at_ptr (by decide) rfl, at_ptr (by decide) rfl, at_imm rfl rfl, at_imm rfl rfl, trivial⟩,
        ⟨blk_box (by decide) rfl rfl rfl rfl rfl, blk_box (by decide) rfl rfl rfl rfl rfl, blk_boxK (by decide) rfl ⟨⟨by decide, rfl⟩, rfl, rfl, rfl, trivial⟩ rfl rfl, blk_row (by decide) rfl rfl (rowB_nr _) rfl, trivial⟩, by simp [ren, grH]⟩
    · have hq := i4 q (by simp)
      have hqc := sz_mul hq hc
      have l1 := cr_len hq
      have cm := c_qmul (cr q.2) (cr c) (okR_cr _) (okR_cr _) (by omega) (by omega) (by omega) (by omega)
      rw [qv_cr, qv_cr] at cm
      have hp := i3 p (by simp)
      have hpq := sz_add hp hqc
      have l2 := cr_len hp
      have l3 := cr_len hqc
      have ca := c_qadd (cr p.2) (cr (q.2 * c)) (okR_cr _) (okR_cr _) (by omega) (by omega) (by omega) (by omega)
      rw [qv_cr, qv_cr] at ca
      refine callV_data cm rfl ?_
      (repeat' (first|refine stp ?_|with_reducible(refine brr ?_ ?_<;>intro h)));all_goals try(conv=>whnf)
      refine callV_data ca rfl ?_
      (repeat' (first|refine stp ?_|with_reducible(refine brr ?_ ?_<;>intro h)));all_goals try(conv=>whnf)
      refine callV_take (r := 0) (c_lput_take O C p.1 (p.2 + q.2 * c) _ hpq (by omega) (by omega)) rfl rfl rfl rfl (nrs_of (rowB_nr O)) ?_
      (repeat' (first|refine stp ?_|with_reducible(refine brr ?_ ?_<;>intro h)));all_goals try(conv=>whnf)
      refine slK_map (l' := a) (by simp) ?_
      (repeat' (first|refine stp ?_|with_reducible(refine brr ?_ ?_<;>intro h)));all_goals try(conv=>whnf)
      refine slK_map (l' := b) (by simp) ?_
      (repeat' (first|refine stp ?_|with_reducible(refine brr ?_ ?_<;>intro h)));all_goals try(conv=>whnf)
      have nl := nzq_len p.1 (p.2 + q.2 * c)
      exact ⟨(a, b, O ++ nzq p.1 (p.2 + q.2 * c), true), ⟨⟨by simp, by rw [mrg, if_neg (show ¬ p.1 < q.1 from ‹¬ (tQ p).var < (tQ q).var›), if_neg (show ¬ q.1 < p.1 from h)] at i2; rw [List.append_assoc]; exact i2, fun r hr => i3 r (by simp_all), fun r hr => i4 r (by simp_all), by simp at i5 ⊢; omega⟩, by simp; try omega⟩, [_, _, _, _], [], [], [], ⟨trivial, trivial, trivial⟩, ⟨at_ptr (by decide) rfl, at_ptr (by decide) rfl, at_ptr (by decide) rfl, at_imm rfl rfl, at_imm rfl rfl, trivial⟩,
        ⟨blk_box (by decide) rfl rfl rfl rfl rfl, blk_box (by decide) rfl rfl rfl rfl rfl, blk_boxK (by decide) rfl ⟨⟨by decide, rfl⟩, rfl, rfl, rfl, trivial⟩ rfl rfl, blk_row (by decide) rfl rfl (rowB_nr _) rfl, trivial⟩, by simp [ren, grH]⟩
    all_goals first | contradiction | exact absurd (cons_pos _ _) h | exact absurd (cons_pos p a) (by assumption) | exact absurd (cons_pos q b) (by assumption)
end Go.PI.Try
namespace Go.PI.Try
set_option linter.unnecessarySimpa false
open Go.Proofs Go.PI
set_option linter.unusedSimpArgs false
set_option linter.unusedVariables false
theorem ok_ladd : FnOk Try.prog 40 Try.f40 (Try.f40.body.getD .skip) [.cell 4 51] 9 := ⟨Try.func40, rfl, by decide, Try.ntmps40, Try.results40, by kernel_rfl, by kernel_rfl⟩
theorem c_ladd (f g : QF) (kf kg : Nat) (hf : szF kf f) (hg : szF kg g) (hk : kf + kg ≤ 949999990) (hl1 : f.ts.length ≤ 1048576) (hl2 : g.ts.length ≤ 1048576) : Fn 40 [encF f, encF g] (.data (encF (mergeQ f g 1))) := by
  have cm := c_lmerge f g ((1 : Int) : Rat) kf kg 1 hf.2 hg.2 hf.1 hg.1 (sz_int (by decide)) (by omega) hl1 hl2
  have co := c_qof 1 (by decide)
  rw [Rat.intCast_one] at cm co
  refine fnC_v hmix hT ok_ladd (by simp [encF]) ?_
  (repeat' (first|refine stp ?_|with_reducible(refine brr ?_ ?_<;>intro h)));all_goals try(conv=>whnf)
  refine callV_data co rfl ?_
  (repeat' (first|refine stp ?_|with_reducible(refine brr ?_ ?_<;>intro h)));all_goals try(conv=>whnf)
  refine callV_data cm rfl ?_
  (repeat' (first|refine stp ?_|with_reducible(refine brr ?_ ?_<;>intro h)));all_goals try(conv=>whnf)
  exact givesV_to rfl rfl
theorem ok_lscale : FnOk Try.prog 29 Try.f29 (Try.f29.body.getD .skip) [.cell 4 51] 9 := ⟨Try.func29, rfl, by decide, Try.ntmps29, Try.results29, by kernel_rfl, by kernel_rfl⟩
theorem c_lscale (f : QF) (c : Rat) (kf kc : Nat) (hf : szF kf f) (hc : sz kc c) (hk : kf + kc ≤ 949999990) (hl1 : f.ts.length ≤ 1048576) : Fn 29 [encF f, encRat (cr c)] (.data (encF (mergeQ zeroQ f c))) := by
  have cm := c_lmerge zeroQ f c 1 kf kc (szF_zero 1 (by decide)).2 hf.2 (szF_zero 1 (by decide)).1 hf.1 hc (by omega) (by simp [zeroQ]) hl1
  rw [encF_zero] at cm
  refine fnC_v hmix hT ok_lscale (by simp [encF]) ?_
  (repeat' (first|refine stp ?_|with_reducible(refine brr ?_ ?_<;>intro h)));all_goals try(conv=>whnf)
  refine callV_data cm rfl ?_
  (repeat' (first|refine stp ?_|with_reducible(refine brr ?_ ?_<;>intro h)));all_goals try(conv=>whnf)
  exact givesV_to rfl rfl
theorem ok_leval : FnOk Try.prog 49 Try.f49 (Try.f49.body.getD .skip) [.cell 4 42, .tmp 5] 42 := ⟨Try.func49, rfl, by decide, Try.ntmps49, Try.results49, by kernel_rfl, by kernel_rfl⟩
end Go.PI.Try
