/-
  Graphs of the reference: Pre, Outputs; Of of the reference of patterns.
-/
import Derived.Test.YtiiibhgnmlmoaaaGreatCGA
import Derived.Test.YtiiibhgnmlmoaaaGreatCRC
import Derived.Test.YtiiibhgnmlmoaaaGreatCPD
namespace Go.PI.Tryz
set_option linter.unnecessarySimpa false
open Go.Proofs Go.PI
set_option linter.unusedSimpArgs false
set_option linter.unusedVariables false
theorem rowX_nr (x : List Rat) : ∀ e ∈ x.map encX, nr 3 e = true ∧ e ≠ .any := nr_map fun x => ⟨rfl, by simp [encX, encRat]⟩
theorem rowX_n1 (x : List Rat) : ∀ e ∈ x.map encX, nr 3 e = true := fun e he => (rowX_nr x e he).1
abbrev rowX (x : List Rat) : Blk := ⟨x.map encX, 3, true⟩
theorem c_levalB (f : QF) (x : List Rat) (k kx : Nat) (hf : szF k f) (hx : ∀ q ∈ x, sz kx q) (hv : ∀ p ∈ f.ts, 0 ≤ p.1 ∧ p.1 < x.length) (hk : k + f.ts.length * (k + kx + 1) + k + kx ≤ 949999990) (hl : f.ts.length ≤ 1048576) (hxl : x.length ≤ 1048576) : Fn 84 [encF f, .own 0 0 x.length] (.wrt (rowX x) (.tup [encRat (cr (evQ f x)), .int .i64 0]) (rowX x)) := by
  refine fnC_vmut hmix hT ok_leval (by simp [encF]) ?_
  (repeat' (first|refine stp ?_|with_reducible(refine brr ?_ ?_<;>intro h)));all_goals try(conv=>whnf)
  refine loopV_kept hT (fun ((i, y) : Nat × Rat) => [(1, .own 0 0 x.length), (4, .ptr 1 0 0), (6, .ptr 2 0 0), (12, .imm (f.ts.map encQ)), (13, .int .i64 f.ts.length), (14, .int .i64 i)])
    (fun (_, y) => [(0, rowX x), (1, ⟨[.agg [.bool false, .nilsl, .nilsl]], 3, true⟩), (2, ⟨[encRat (cr y)], 3, true⟩)]) [] 3
    (fun (i, y) => i ≤ f.ts.length ∧ y = ev1 x (f.ts.take i) f.c ∧ sz (k + i * (k + kx + 1)) y) (fun (i, _) => f.ts.length - i) (0, f.c) ⟨Nat.zero_le _, rfl, by simpa using hf.1⟩ (by decide) (by simp) ?_ ?_
  · exact ⟨[_, _], [], [], [], ⟨trivial, trivial, trivial⟩, ⟨at_own (by decide) rfl rfl, at_ptr (by decide) rfl, at_ptr (by decide) rfl, at_imm rfl rfl, at_int rfl (by simp), at_int rfl rfl, trivial⟩,
      ⟨blk_row (by decide) rfl rfl (rowX_nr x) rfl, blk_box (by decide) rfl rfl rfl rfl rfl, blk_box (by decide) rfl rfl rfl rfl rfl, trivial⟩, by simp [ren]⟩
  intro ⟨i, y⟩ ⟨i1, i2, i3⟩
  by_cases hi : i < f.ts.length
  · have hmem : f.ts[i]! ∈ f.ts := by rw [getElem!_pos f.ts i hi]; exact List.getElem_mem hi
    have hvi := hv _ hmem
    have hp := hf.2 _ hmem
    have hj : f.ts[i]!.1.toNat < x.length := by omega
    have hxm : x[f.ts[i]!.1.toNat]! ∈ x := by rw [getElem!_pos x _ hj]; exact List.getElem_mem hj
    have hxi := hx _ hxm
    have hm := sz_mul hp hxi
    have hmul : (i + 1) * (k + kx + 1) ≤ f.ts.length * (k + kx + 1) := Nat.mul_le_mul_right _ (by omega)
    rw [Nat.add_mul] at hmul
    have l1 := cr_len hp
    have l2 := cr_len hxi
    have l3 := cr_len hm
    have l4 := cr_len i3
    have cm := c_qmul (cr f.ts[i]!.2) (cr x[f.ts[i]!.1.toNat]!) (okR_cr _) (okR_cr _) (by omega) (by omega) (by omega) (by omega)
    rw [qv_cr, qv_cr] at cm
    have ca := c_qadd (cr y) (cr (f.ts[i]!.2 * x[f.ts[i]!.1.toNat]!)) (okR_cr _) (okR_cr _) (by omega) (by omega) (by omega) (by omega)
    rw [qv_cr, qv_cr] at ca
    have hsz := sz_le (show k + i * (k + kx + 1) + (k + kx) + 1 ≤ k + (i + 1) * (k + kx + 1) by rw [Nat.add_mul]; omega) (sz_add i3 hm)
    have hy : ev1 x (f.ts.take (i + 1)) f.c = y + f.ts[i]!.2 * x[f.ts[i]!.1.toNat]! := by rw [ev1_take x f.ts f.c i hi, i2]
    (repeat' (first|refine stp ?_|with_reducible(refine brr ?_ ?_<;>intro h)));all_goals try(conv=>whnf)
    · exact absurd h (show ¬ f.ts[i]!.1 < 0 by omega)
    · exact absurd h (show ¬ f.ts[i]!.1 ≥ (x.length : Int) by omega)
    · refine oK_atN f.ts[i]!.1.toNat (Nat.zero_add _) hj ?_
      (repeat' (first|refine stp ?_|with_reducible(refine brr ?_ ?_<;>intro h)));all_goals try(conv=>whnf)
      refine callV_data cm rfl ?_
      (repeat' (first|refine stp ?_|with_reducible(refine brr ?_ ?_<;>intro h)));all_goals try(conv=>whnf)
      refine callV_data ca rfl ?_
      (repeat' (first|refine stp ?_|with_reducible(refine brr ?_ ?_<;>intro h)));all_goals try(conv=>whnf)
      exact ⟨(i + 1, y + f.ts[i]!.2 * x[f.ts[i]!.1.toNat]!), ⟨⟨by omega, hy.symm, hsz⟩, by show f.ts.length - (i + 1) < f.ts.length - i; omega⟩, [1, 2], [], [], [], ⟨trivial, trivial, trivial⟩, ⟨at_own (by decide) rfl rfl, at_ptr (by decide) rfl, at_ptr (by decide) rfl, at_imm rfl rfl, at_int rfl rfl, at_int rfl (by omega), trivial⟩,
        ⟨blk_row (by decide) rfl rfl (rowX_nr x) rfl, blk_box (by decide) rfl rfl rfl rfl rfl, blk_box (by decide) rfl rfl rfl rfl rfl, trivial⟩, by simp [ren]⟩
    · exact absurd (show (i : Int) < f.ts.length by omega) h
  · have hmul : i * (k + kx + 1) ≤ f.ts.length * (k + kx + 1) := Nat.mul_le_mul_right _ (by omega)
    have e : y = evQ f x := by rw [i2, List.take_of_length_le (by omega)]; rfl
    have l4 := cr_len i3
    have cc := c_qcanon (cr y) (okR_cr _) (by omega) (by omega)
    rw [qv_cr] at cc
    (repeat' (first|refine stp ?_|with_reducible(refine brr ?_ ?_<;>intro h)));all_goals try(conv=>whnf)
    all_goals try (exfalso; omega)
    refine callV_data cc rfl ?_
    (repeat' (first|refine stp ?_|with_reducible(refine brr ?_ ?_<;>intro h)));all_goals try(conv=>whnf)
    subst e
    exact mutV_to rfl rfl rfl rfl rfl (rowX_n1 x)
end Go.PI.Tryz
namespace Go.PI.Tryz
set_option linter.unnecessarySimpa false
open Go.Proofs Go.PI
set_option linter.unusedSimpArgs false
set_option linter.unusedVariables false
theorem any_valid {l : List AffL} {n : Int} : l.any (fun f => !validB f n) = false ↔ ∀ j, j < l.length → ValidF l[j]! n := by
  rw [List.any_eq_false]
  constructor
  · intro e j hj
    have := e _ (get_mem hj)
    exact validB_true.1 (by simpa using this)
  · intro e f hf
    obtain ⟨j, hj, rfl⟩ := List.getElem_of_mem hf
    have := validB_true.2 (e j hj)
    rw [getElem!_pos l j hj] at this
    simp [this]
theorem ok_gv1 : FnOk Tryz.prog 82 Tryz.f82 (Tryz.f82.body.getD .skip) [.tmp 3] 8 := ⟨Tryz.func82, rfl, by decide, Tryz.ntmps82, Tryz.results82, by kernel_rfl, by kernel_rfl⟩
theorem c_gv1 (f : AffL) (n : Int) (hf : okA 2147483596 f) : Fn 82 [encAff f, .cptr (.int .i64 n) 0] (.data (.bool (!validB f n))) := by
  have cc := c_lvalid f n hf
  refine fnC_v hmix hT ok_gv1 (by simp) ?_
  (repeat' (first|refine stp ?_|with_reducible(refine brr ?_ ?_<;>intro h)));all_goals try(conv=>whnf)
  refine callV_data cc rfl ?_
  (repeat' (first|refine stp ?_|with_reducible(refine brr ?_ ?_<;>intro h)));all_goals try(conv=>whnf)
  exact givesV_to rfl rfl
theorem ok_gvl : FnOk Tryz.prog 58 Tryz.f58 (Tryz.f58.body.getD .skip) [.tmp 4] 9 := ⟨Tryz.func58, rfl, by decide, Tryz.ntmps58, Tryz.results58, by kernel_rfl, by kernel_rfl⟩
theorem c_gvl (l : List AffL) (n : Int) (hl : okFs 950000000 l) : Fn 58 [.imm (l.map encAff), .int .i64 n] (.data (.bool (dB (valAll l n)))) := by
  have cc := c_containsf l (fun f => !validB f n) 82 (.int .i64 n) hl.1 (fun f hf => c_gv1 f n (okA_le (by decide) (hl.2 f hf)))
  refine fnC_v hmix hT ok_gvl (by simp) ?_
  (repeat' (first|refine stp ?_|with_reducible(refine brr ?_ ?_<;>intro h)));all_goals try(conv=>whnf)
  refine callV_data cc rfl ?_
  (repeat' (first|refine stp ?_|with_reducible(refine brr ?_ ?_<;>intro h)));all_goals try(conv=>whnf)
  refine givesV_to rfl (congrArg PV.bool ?_)
  rw [Bool.eq_iff_iff, dB_true, Bool.not_eq_true', any_valid]
  exact Iff.rfl
theorem ok_gvalid : FnOk Tryz.prog 31 Tryz.f31 (Tryz.f31.body.getD .skip) [.tmp 2] 56 := ⟨Tryz.func31, rfl, by decide, Tryz.ntmps31, Tryz.results31, by kernel_rfl, by kernel_rfl⟩
theorem c_gvalid (g : GraL) (hg : okGra 950000000 g) : Fn 31 [encGra g] (.data (.bool (dB (VaG g)))) := by
  obtain ⟨hu, ho⟩ := hg
  have no : ¬ VaG g → false = dB (VaG g) := dB_no
  have l1 := hu.1
  have l2 := ho.1
  have cc := c_gvl g.outs (g.ins + g.units.length) ho
  refine fnC_v hmix hT ok_gvalid (by simp [encGra]) ?_
  (repeat' (first|refine stp ?_|with_reducible(refine brr ?_ ?_<;>intro h)));all_goals try(conv=>whnf)
  · exact givesV_to rfl (congrArg PV.bool (no fun e => by have := e.1.1; omega))
  · exact givesV_to rfl (congrArg PV.bool (no fun e => by have := e.1.2; omega))
  · exact givesV_to rfl (congrArg PV.bool (no fun e => by have := e.2.1; omega))
  · exact givesV_to rfl (congrArg PV.bool (no fun e => by have := e.2.2.1.1; omega))
  · exact givesV_to rfl (congrArg PV.bool (no fun e => by have := e.2.2.1.2; omega))
  · have h0 : (1 ≤ g.ins ∧ g.ins ≤ 256) ∧ g.units.length ≤ 1024 ∧ (1 ≤ g.outs.length ∧ g.outs.length ≤ 256) := ⟨⟨by omega, by omega⟩, by omega, by omega, by omega⟩
    obtain ⟨h1, h2, h3⟩ := h0
    refine loopV_kept hT (fun (i : Nat) => [(1, .ptr 0 0 0), (32, .imm (g.units.map encAff)), (33, .int .i64 g.units.length), (34, .int .i64 i)]) (fun _ => [(0, ⟨[encGra g], 3, true⟩)]) [] 1
      (fun i => i ≤ g.units.length ∧ ∀ j, j < i → ValidF g.units[j]! (g.ins + j)) (fun i => g.units.length - i) 0 ⟨Nat.zero_le _, fun j h => (by omega)⟩ (by decide) (by simp) ?_ ?_
    · exact ⟨[0], [], [], [], ⟨trivial, trivial, trivial⟩, ⟨at_ptr (by decide) rfl, at_imm rfl rfl, at_int rfl (by simp), at_int rfl rfl, trivial⟩, ⟨blk_box (by decide) rfl rfl rfl rfl rfl, trivial⟩, by simp [ren]⟩
    intro i ⟨i1, i2⟩
    by_cases hi : i < g.units.length
    · have c1 := c_lvalid g.units[i]! (g.ins + i) (okA_le (by decide) (hu.2 _ (get_mem hi)))
      (repeat' (first|refine stp ?_|with_reducible(refine brr ?_ ?_<;>intro h)));all_goals try(conv=>whnf)
      · refine callV_data c1 rfl ?_
        (repeat' (first|refine stp ?_|with_reducible(refine brr ?_ ?_<;>intro h)));all_goals try(conv=>whnf)
        · exact ⟨i + 1, ⟨⟨by omega, fun j hj => lt_succ_cases (p := fun (j : Nat) => ValidF g.units[j]! (g.ins + j)) i2 (validB_true.1 (by assumption)) hj⟩, by show g.units.length - (i + 1) < g.units.length - i; omega⟩, [0], [], [], [], ⟨trivial, trivial, trivial⟩, ⟨at_ptr (by decide) rfl, at_imm rfl rfl, at_int rfl rfl, at_int rfl rfl, trivial⟩, ⟨blk_box (by decide) rfl rfl rfl rfl rfl, trivial⟩, by simp [ren]⟩
        · exact givesV_to rfl (congrArg PV.bool (no fun e => by have := validB_true.2 (e.2.2.2.1 i hi); simp_all))
      all_goals (exfalso; omega)
    · (repeat' (first|refine stp ?_|with_reducible(refine brr ?_ ?_<;>intro h)));all_goals try(conv=>whnf)
      all_goals try (exfalso; omega)
      rw [List.length_map]
      refine callV_data cc rfl ?_
      (repeat' (first|refine stp ?_|with_reducible(refine brr ?_ ?_<;>intro h)));all_goals try(conv=>whnf)
      refine givesV_to rfl (congrArg PV.bool ?_)
      rw [Bool.eq_iff_iff, dB_true, dB_true]
      exact ⟨fun e => ⟨h1, h2, h3, fun j hj => i2 j (by omega), e⟩, fun e => e.2.2.2.2⟩
end Go.PI.Tryz
namespace Go.PI
def GraL.us (g : GraL) : List QF := g.units.map AffL.Q
end Go.PI
namespace Go.PI.Tryz
set_option linter.unnecessarySimpa false
open Go.Proofs Go.PI
set_option linter.unusedSimpArgs false
set_option linter.unusedVariables false
theorem us_len (g : GraL) : g.us.length = g.units.length := by simp [GraL.us]
theorem us_get {g : GraL} {j : Nat} (h : j < g.units.length) : g.us[j]! = g.units[j]!.Q := by
  unfold GraL.us; rw [getElem!_pos _ j (by simpa using h), getElem!_pos g.units j h]; simp
theorem encF_Q {f : AffL} {n : Int} (h : ValidF f n) : encF f.Q = encAff f := by rw [encF_eq, canF h]
theorem X_snoc {l : List Rat} {j : Nat} {q : Rat} (h : j < l.length) (e : l[j]! = q) : (l.take j).map encX ++ [encRat (cr q)] = (l.take (j + 1)).map encX := by
  rw [List.take_succ_eq_append_getElem h, List.map_append, ← getElem!_pos l j h, e]; rfl
theorem take_snocQ {l : List RatL} {i : Nat} (h : i < l.length) : ((l.take i).map qv).map encX ++ [encRat (cr (qv l[i]!))] = ((l.take (i + 1)).map qv).map encX := by
  rw [List.take_succ_eq_append_getElem h, List.map_append, List.map_append, getElem!_pos l i h]; rfl
theorem okQ_zero {k : Nat} : okQ k ⟨false, [], []⟩ := ⟨⟨by simp [okN], by simp [okN]⟩, Nat.zero_le _, Nat.zero_le _⟩
theorem ok_grun : FnOk Tryz.prog 59 Tryz.f59 (Tryz.f59.body.getD .skip) [.tmp 4, .tmp 5, .tmp 6] 61 := ⟨Tryz.func59, rfl, by decide, Tryz.ntmps59, Tryz.results59, by kernel_rfl, by kernel_rfl⟩
theorem c_grun (g : GraL) (x : List RatL) (k K : Nat) (hg : okGra k g) (hk : k ≤ 950000000) (hk1 : 1 ≤ k) (hK1 : 1 ≤ K) (hv : VaG g) (hx : okLs 950000000 x) (hl : (x.length : Int) = g.ins) (hK : ∀ j, j < g.units.length → (∀ q ∈ valsN g.us (x.map qv) j, sz K q) ∧ sz K (preL g.us (x.map qv))[j]!) (hb : ∀ f ∈ g.units, k + f.terms.length * (k + K + 1) + k + K ≤ 949999990) : Fn 59 [encGra g, .imm (x.map encRat)] (.data (.tup [.imm ((valsN g.us (x.map qv) g.us.length).map encX), .imm ((preL g.us (x.map qv)).map encX), .int .i64 0])) := by
  have cv := c_gvalid g ⟨⟨hg.1.1, fun f hf => okA_le hk (hg.1.2 f hf)⟩, ⟨hg.2.1, fun f hf => okA_le hk (hg.2.2 f hf)⟩⟩
  rw [dB_true.2 hv] at cv
  have l1 := hx.1
  have l2 := hg.1.1
  have lu := us_len g
  have hn := hv.2.1
  have hx2 : x.length ≤ 256 := by have := hv.1.2; omega
  refine fnC_v hmix hT ok_grun (by simp [encGra]) ?_
  (repeat' (first|refine stp ?_|with_reducible(refine brr ?_ ?_<;>intro h)));all_goals try(conv=>whnf)
  refine callV_data cv rfl ?_
  (repeat' (first|refine stp ?_|with_reducible(refine brr ?_ ?_<;>intro h)));all_goals try(conv=>whnf)
  · exfalso; omega
  refine loopV_grow hT [(.sl 4, 3, true), (.sl 5, 3, true)] (fun (i : Nat) => [(2, .ptr 0 0 0), (4, .own 1 0 i), (5, .own 2 0 0), (23, .imm (x.map encRat)), (24, .int .i64 x.length), (25, .int .i64 i)]) (fun i => [(0, ⟨[encGra g], 3, true⟩), (1, ⟨((x.take i).map qv).map encX, 3, true⟩), (2, ⟨[], 3, true⟩)]) [] 3
    (fun i => i ≤ x.length) (fun i => x.length - i) 0 (Nat.zero_le _) (by decide) (by simp) ⟨rfl, rfl, trivial⟩ ?_ ?_
  · exact ⟨[0, _, _], [], [], [], ⟨trivial, trivial, trivial⟩, ⟨at_ptr (by decide) rfl, at_own (by decide) rfl rfl, at_own (by decide) rfl rfl, at_imm rfl rfl, at_int rfl (by simp), at_int rfl rfl, trivial⟩,
      ⟨blk_box (by decide) rfl rfl rfl rfl rfl, blk_row (by decide) rfl rfl (rowX_nr []) rfl, blk_row (by decide) rfl rfl (rowX_nr []) rfl, trivial⟩, by simp [ren]⟩
  intro i i1
  have hlen : ((x.take i).map qv).length = i := by rw [List.length_map, List.length_take]; omega
  by_cases hi : i < x.length
  · have q1 := okLs_get hx hi
    have cc := c_qcanon x[i]! q1.1 (by have := q1.2; omega) (by have := q1.2; omega)
    (repeat' (first|refine stp ?_|with_reducible(refine brr ?_ ?_<;>intro h)));all_goals try(conv=>whnf)
    · refine callV_data cc rfl ?_
      (repeat' (first|refine stp ?_|with_reducible(refine brr ?_ ?_<;>intro h)));all_goals try(conv=>whnf)
      exact ⟨i + 1, ⟨by omega, by show x.length - (i + 1) < x.length - i; omega⟩, [0, _, 2], [], [], [], ⟨trivial, trivial, trivial⟩, ⟨at_ptr (by decide) rfl, at_own (by decide) rfl rfl, at_own (by decide) rfl rfl, at_imm rfl rfl, at_int rfl rfl, at_int rfl rfl, trivial⟩,
        ⟨blk_box (by decide) rfl rfl rfl rfl rfl, blk_row (by decide) rfl (take_snocQ hi) (rowX_nr _) rfl, blk_row (by decide) rfl rfl (rowX_nr []) rfl, trivial⟩, by simp [ren]⟩
    all_goals (exfalso; omega)
  · have e0 : (x.take i).map qv = valsN g.us (x.map qv) 0 := by rw [valsN_zero, List.take_of_length_le (by omega)]
    (repeat' (first|refine stp ?_|with_reducible(refine brr ?_ ?_<;>intro h)));all_goals try(conv=>whnf)
    all_goals try (exfalso; omega)
    refine loopV_kept hT (fun (j : Nat) => [(2, .ptr 0 0 0), (4, .own 1 0 (x.length + j)), (5, .own 2 0 j), (36, .imm (g.units.map encAff)), (37, .int .i64 g.units.length), (38, .int .i64 j)]) (fun j => [(0, ⟨[encGra g], 3, true⟩), (1, ⟨(valsN g.us (x.map qv) j).map encX, 3, true⟩), (2, ⟨((preL g.us (x.map qv)).take j).map encX, 3, true⟩)]) [] 3
      (fun j => j ≤ g.units.length) (fun j => g.units.length - j) 0 (Nat.zero_le _) (by decide) (by simp) ?_ ?_
    · exact ⟨[0, 1, 2], [], [], [], ⟨trivial, trivial, trivial⟩, ⟨at_ptr (by decide) rfl, at_own (by decide) rfl (by omega), at_own (by decide) rfl rfl, at_imm rfl rfl, at_int rfl (by simp), at_int rfl rfl, trivial⟩,
        ⟨blk_box (by decide) rfl rfl rfl rfl rfl, blk_row (by decide) rfl (congrArg (List.map encX) e0) (rowX_nr _) rfl, blk_row (by decide) rfl rfl (rowX_nr []) rfl, trivial⟩, by simp [ren]⟩
    intro j j1
    have hvl : (valsN g.us (x.map qv) j).length = x.length + j := by rw [valsN_len j (by omega), List.length_map]
    have hp2 := preL_len g.us (x.map qv)
    have hpl : ((preL g.us (x.map qv)).take j).length = j := by rw [List.length_take, preL_len]; omega
    by_cases hj : j < g.units.length
    · have hvu := hv.2.2.2.1 j hj
      have hmem := get_mem hj
      have hou := hg.1.2 _ hmem
      have hb1 := hb _ hmem
      obtain ⟨hs1, hs2⟩ := hK j hj
      have hvr : ∀ p ∈ g.units[j]!.Q.ts, 0 ≤ p.1 ∧ p.1 < ((valsN g.us (x.map qv) j).length : Nat) := fun p hp => by have := (okF_of hvu).2 p hp; omega
      have ce := c_levalB g.units[j]!.Q (valsN g.us (x.map qv) j) k K (szF_okA hou hk1) hs1 hvr (by rw [Q_len]; exact hb1) (by rw [Q_len]; exact hou.2.2) (by omega)
      rw [encF_Q hvu, hvl] at ce
      have hp : (preL g.us (x.map qv))[j]! = evQ g.units[j]!.Q (valsN g.us (x.map qv) j) := by rw [preL_get (by omega), us_get hj]
      rw [hp] at hs2
      have l3 := cr_len hs2
      have cx := c_qmax ⟨false, [], []⟩ (cr (evQ g.units[j]!.Q (valsN g.us (x.map qv) j))) K okQ_zero (okQ_cr hs2) (by omega)
      rw [qv_cr, show qv ⟨false, [], []⟩ = 0 by rfl] at cx
      have hvs : (valsN g.us (x.map qv) j).map encX ++ [encRat (cr (maxQ 0 (evQ g.units[j]!.Q (valsN g.us (x.map qv) j))))] = (valsN g.us (x.map qv) (j + 1)).map encX := by
        rw [valsN_succ (by omega), List.map_append, us_get hj]; rfl
      have hps := X_snoc (l := preL g.us (x.map qv)) (j := j) (by rw [preL_len]; omega) hp
      (repeat' (first|refine stp ?_|with_reducible(refine brr ?_ ?_<;>intro h)));all_goals try(conv=>whnf)
      · refine callV_bor (r := 1) ce rfl rfl rfl rfl (nrs_of (rowX_nr _)) ?_
        (repeat' (first|refine stp ?_|with_reducible(refine brr ?_ ?_<;>intro h)));all_goals try(conv=>whnf)
        refine callV_data cx rfl ?_
        (repeat' (first|refine stp ?_|with_reducible(refine brr ?_ ?_<;>intro h)));all_goals try(conv=>whnf)
        exact ⟨j + 1, ⟨by omega, by show g.units.length - (j + 1) < g.units.length - j; omega⟩, [0, _, _], [], [], [], ⟨trivial, trivial, trivial⟩, ⟨at_ptr (by decide) rfl, at_own (by decide) rfl rfl, at_own (by decide) rfl rfl, at_imm rfl rfl, at_int rfl rfl, at_int rfl rfl, trivial⟩,
          ⟨blk_box (by decide) rfl rfl rfl rfl rfl, blk_row (by decide) rfl hvs (rowX_nr _) rfl, blk_row (by decide) rfl hps (rowX_nr _) rfl, trivial⟩, by simp [ren]⟩
      all_goals (exfalso; omega)
    · have ej : j = g.us.length := by omega
      have hp2 := preL_len g.us (x.map qv)
      have et : (preL g.us (x.map qv)).take j = preL g.us (x.map qv) := List.take_of_length_le (by rw [preL_len]; omega)
      (repeat' (first|refine stp ?_|with_reducible(refine brr ?_ ?_<;>intro h)));all_goals try(conv=>whnf)
      all_goals try (exfalso; omega)
      exact givesV_to (frz_tupL (mapF_cons (frz_own_map rfl rfl (by omega) fun q => frz_rat (cr q)) (mapF_cons (frz_own_map rfl rfl (by omega) fun q => frz_rat (cr q)) rfl))) (by rw [et, ej])
theorem ok_gpre : FnOk Tryz.prog 32 Tryz.f32 (Tryz.f32.body.getD .skip) [.tmp 4, .tmp 5] 18 := ⟨Tryz.func32, rfl, by decide, Tryz.ntmps32, Tryz.results32, by kernel_rfl, by kernel_rfl⟩
theorem c_gpre (g : GraL) (x : List RatL) (k K : Nat) (hg : okGra k g) (hk : k ≤ 950000000) (hk1 : 1 ≤ k) (hK1 : 1 ≤ K) (hv : VaG g) (hx : okLs 950000000 x) (hl : (x.length : Int) = g.ins) (hK : ∀ j, j < g.units.length → (∀ q ∈ valsN g.us (x.map qv) j, sz K q) ∧ sz K (preL g.us (x.map qv))[j]!) (hb : ∀ f ∈ g.units, k + f.terms.length * (k + K + 1) + k + K ≤ 949999990) : Fn 32 [encGra g, .imm (x.map encRat)] (.data (.tup [.imm ((preL g.us (x.map qv)).map encX), .int .i64 0])) := by
  have cc := c_grun g x k K hg hk hk1 hK1 hv hx hl hK hb
  refine fnC_v hmix hT ok_gpre (by simp [encGra]) ?_
  (repeat' (first|refine stp ?_|with_reducible(refine brr ?_ ?_<;>intro h)));all_goals try(conv=>whnf)
  refine callV_data cc rfl ?_
  (repeat' (first|refine stp ?_|with_reducible(refine brr ?_ ?_<;>intro h)));all_goals try(conv=>whnf)
  exact givesV_to rfl rfl
end Go.PI.Tryz
namespace Go.PI.Tryz
set_option linter.unnecessarySimpa false
open Go.Proofs Go.PI
set_option linter.unusedSimpArgs false
set_option linter.unusedVariables false
abbrev rowF (vars : List QF) : Blk := ⟨vars.map encF, 4, true⟩
theorem rowF_nr (x : List QF) : ∀ e ∈ x.map encF, nr 3 e = true ∧ e ≠ .any := nr_map fun x => ⟨rfl, by simp [encF]⟩
theorem rowF_n1 (x : List QF) : ∀ e ∈ x.map encF, nr 3 e = true := fun e he => (rowF_nr x e he).1
abbrev ints (p : List Int) : PV := .imm (p.map (.int .i64))
def Dec (a : Int) : Prop := a = 1 ∨ a = 2
def fitP (p o : List Int) : Prop := p.length = o.length ∧ ∀ i, i < p.length → Dec p[i]! ∧ Agree o[i]! p[i]!
def comP (g : GraL) (p : List Int) : Prop := VaG g ∧ p.length = g.units.length ∧ ∀ i, i < p.length → Dec p[i]!
theorem ok_decided : FnOk Tryz.prog 47 Tryz.f47 (Tryz.f47.body.getD .skip) [.tmp 2] 9 := ⟨Tryz.func47, rfl, by decide, Tryz.ntmps47, Tryz.results47, by kernel_rfl, by kernel_rfl⟩
theorem c_decided (a : Int) : Fn 47 [.int .i64 a] (.data (.bool (dB (Dec a)))) := by
  refine fnC_v hmix hT ok_decided (by simp) ?_
  (repeat' (first|refine stp ?_|with_reducible(refine brr ?_ ?_<;>intro h)));all_goals try(conv=>whnf)
  · exact givesV_to rfl (congrArg PV.bool (dB_yes (Or.inl (by assumption))))
  · refine givesV_to rfl (congrArg PV.bool ?_)
    rw [Bool.eq_iff_iff, dB_true, beq_iff_eq]
    exact ⟨fun e => Or.inr e, fun e => e.resolve_left (by assumption)⟩
theorem ok_fits : FnOk Tryz.prog 21 Tryz.f21 (Tryz.f21.body.getD .skip) [.tmp 4] 38 := ⟨Tryz.func21, rfl, by decide, Tryz.ntmps21, Tryz.results21, by kernel_rfl, by kernel_rfl⟩
theorem c_fits (p o : List Int) (hp : p.length ≤ 1048576) (ho : o.length ≤ 1048576) : Fn 21 [ints p, ints o] (.data (.bool (dB (fitP p o)))) := by
  have no : ¬ fitP p o → false = dB (fitP p o) := dB_no
  refine fnC_v hmix hT ok_fits (by simp) ?_
  (repeat' (first|refine stp ?_|with_reducible(refine brr ?_ ?_<;>intro h)));all_goals try(conv=>whnf)
  · exact givesV_to rfl (congrArg PV.bool (no fun e => by have := e.1; omega))
  have h0 : p.length = o.length := by omega
  refine loopV_slots hT (fun n : Nat => [(0, ints p), (1, ints o), (12, ints p), (13, .int .i64 p.length), (14, .int .i64 n)]) (fun n => n ≤ p.length ∧ ∀ j, j < n → Dec p[j]! ∧ Agree o[j]! p[j]!) (fun n => p.length - n) 0 ⟨by omega, fun j hj => by omega⟩ ?_ ?_
  · exact ⟨at_imm rfl rfl, at_imm rfl rfl, at_imm rfl rfl, at_int rfl (by simp), at_int rfl rfl, trivial⟩
  intro n ⟨hn, he⟩
  by_cases hi : n < p.length
  · have cc := c_decided p[n]!
    have hi2 : n < o.length := by omega
    have hno : ¬ (Dec p[n]! ∧ Agree o[n]! p[n]!) → ¬ fitP p o := fun h e => h (e.2 n hi)
    (repeat' (first|refine stp ?_|with_reducible(refine brr ?_ ?_<;>intro h)));all_goals try(conv=>whnf)
    · refine callV_data cc rfl ?_
      (repeat' (first|refine stp ?_|with_reducible(refine brr ?_ ?_<;>intro h)));all_goals try(conv=>whnf)
      all_goals first
        | (refine givesV_to rfl (congrArg PV.bool (no (hno fun e => ?_))); exact absurd e.1 (dB_false.1 (by assumption)))
        | (refine givesV_to rfl (congrArg PV.bool (no (hno fun e => ?_))); rcases e.2 with e | e <;> (first | (exfalso; omega) | exact absurd e (by assumption) | exact absurd e.symm (by assumption)))
        | exact ⟨n + 1, ⟨⟨by omega, fun j hj => lt_succ_cases (p := fun j => Dec p[j]! ∧ Agree o[j]! p[j]!) he ⟨dB_true.1 (by assumption), by first | exact Or.inl (by assumption) | exact Or.inr (by assumption) | (unfold Agree; omega)⟩ hj⟩, by show p.length - (n + 1) < p.length - n; omega⟩, at_imm rfl rfl, at_imm rfl rfl, at_imm rfl rfl, at_int rfl rfl, at_int rfl rfl, trivial⟩
        | skip
    all_goals (exfalso; omega)
  · (repeat' (first|refine stp ?_|with_reducible(refine brr ?_ ?_<;>intro h)));all_goals try(conv=>whnf)
    all_goals try (exfalso; omega)
    exact givesV_to rfl (congrArg PV.bool (dB_yes ⟨h0, fun j hj => he j (by omega)⟩))
theorem ok_pcomplete : FnOk Tryz.prog 36 Tryz.f36 (Tryz.f36.body.getD .skip) [.tmp 4] 28 := ⟨Tryz.func36, rfl, by decide, Tryz.ntmps36, Tryz.results36, by kernel_rfl, by kernel_rfl⟩
theorem c_pcomplete (g : GraL) (p : List Int) (hg : okGra 950000000 g) (hp : p.length ≤ 1048576) : Fn 36 [encGra g, ints p] (.data (.bool (dB (comP g p)))) := by
  have no : ¬ comP g p → false = dB (comP g p) := dB_no
  have cv := c_gvalid g hg
  have l1 := hg.1.1
  refine fnC_v hmix hT ok_pcomplete (by simp [encGra]) ?_
  (repeat' (first|refine stp ?_|with_reducible(refine brr ?_ ?_<;>intro h)));all_goals try(conv=>whnf)
  refine callV_data cv rfl ?_
  (repeat' (first|refine stp ?_|with_reducible(refine brr ?_ ?_<;>intro h)));all_goals try(conv=>whnf)
  all_goals try (refine givesV_to rfl (congrArg PV.bool (no fun e => ?_)); exact absurd e.1 (dB_false.1 (by assumption)))
  all_goals try (refine givesV_to rfl (congrArg PV.bool (no fun e => ?_)); have := e.2.1; omega)
  have h0 : VaG g := dB_true.1 (by assumption)
  have h1 : p.length = g.units.length := by omega
  refine loopV_slots hT (fun n : Nat => [(18, ints p), (19, .int .i64 p.length), (20, .int .i64 n)]) (fun n => n ≤ p.length ∧ ∀ j, j < n → Dec p[j]!) (fun n => p.length - n) 0 ⟨by omega, fun j hj => by omega⟩ ?_ ?_
  · exact ⟨at_imm rfl rfl, at_int rfl (by simp), at_int rfl rfl, trivial⟩
  intro n ⟨hn, he⟩
  by_cases hi : n < p.length
  · have cc := c_decided p[n]!
    (repeat' (first|refine stp ?_|with_reducible(refine brr ?_ ?_<;>intro h)));all_goals try(conv=>whnf)
    · refine callV_data cc rfl ?_
      (repeat' (first|refine stp ?_|with_reducible(refine brr ?_ ?_<;>intro h)));all_goals try(conv=>whnf)
      all_goals first
        | (refine givesV_to rfl (congrArg PV.bool (no fun e => ?_)); exact absurd (e.2.2 n hi) (dB_false.1 (by assumption)))
        | exact ⟨n + 1, ⟨⟨by omega, fun j hj => lt_succ_cases (p := fun j => Dec p[j]!) he (dB_true.1 (by assumption)) hj⟩, by show p.length - (n + 1) < p.length - n; omega⟩, at_imm rfl rfl, at_int rfl rfl, at_int rfl rfl, trivial⟩
        | skip
    all_goals (exfalso; omega)
  · (repeat' (first|refine stp ?_|with_reducible(refine brr ?_ ?_<;>intro h)));all_goals try(conv=>whnf)
    all_goals try (exfalso; omega)
    exact givesV_to rfl (congrArg PV.bool (dB_yes ⟨h0, h1, fun j hj => he j (by omega)⟩))
end Go.PI.Tryz
namespace Go.PI.Tryz
set_option linter.unnecessarySimpa false
open Go.Proofs Go.PI
set_option linter.unusedSimpArgs false
set_option linter.unusedVariables false
theorem one_sum (κ : Nat → Nat) {v n : Nat} (h : v < n) : κ v ≤ sumF κ 0 n := by
  have := sum_terms κ [((v : Int), (0 : Rat))] 0 n (List.pairwise_singleton _ _) (fun t ht => by simp at ht; subst ht; simp only; omega)
  simpa using this
theorem app_ok' {n : Nat} {κ : Nat → Nat} {vars : List QF} {f : QF} {k : Nat} (hv : okVr n κ vars) (hf : szF k f) (ho : okF vars.length f) (i : Nat) (hi : i ≤ f.ts.length) :
    okF n (appN f vars i) ∧ szF (k + sumF (fun v => κ v + k + 1) 0 vars.length) (appN f vars i) ∧ (appN f vars i).ts.length ≤ n := by
  obtain ⟨h1, h2, h3⟩ := app_ok hv hf ho i hi
  refine ⟨h1, szF_le ?_ h2, h3⟩
  have := sum_terms (fun v => κ v + k + 1) (f.ts.take i) 0 vars.length (ho.1.1.sublist (List.take_sublist _ _)) fun t ht => by have := ho.2 t (List.mem_of_mem_take ht); omega
  omega
theorem merge_scale {o v : QF} {c : Rat} (ho : Srt o.ts) (hv : Srt v.ts) : mergeQ o (mergeQ zeroQ v c) 1 = mergeQ o v c := by
  have h1 := mrg_spec c _ zeroQ.ts v.ts (Nat.le_refl _) srt_nil hv
  have h2 := mrg_spec (1 : Rat) _ o.ts (mrg c zeroQ.ts v.ts) (Nat.le_refl _) ho h1.1
  have h3 := mrg_spec c _ o.ts v.ts (Nat.le_refl _) ho hv
  have e : mrg 1 o.ts (mrg c zeroQ.ts v.ts) = mrg c o.ts v.ts := srt_ext h2.1 h3.1 fun v => by rw [h2.2, h3.2, h1.2]; simp only [zeroQ, cf]; grind
  unfold mergeQ
  simp only [e, QF.mk.injEq, true_and]
  simp only [zeroQ]; grind
theorem zero_ok {n : Nat} {v : QF} (hv : okF n v) (c : Rat) : okF n (mergeQ zeroQ v c) ∧ (mergeQ zeroQ v c).ts.length ≤ n := by
  have hok : okF n (mergeQ zeroQ v c) := by
    refine ⟨mergeQ_srt srt_nil hv.1, fun t ht => ?_⟩
    rcases mrg_mem _ _ _ _ (Nat.le_refl _) t ht with ⟨p, hp, e⟩ | ⟨p, hp, e⟩
    · cases hp
    · have := hv.2 p hp; omega
  exact ⟨hok, srt_len n hok.1.1 hok.2⟩
theorem ok_papply : FnOk Tryz.prog 38 Tryz.f38 (Tryz.f38.body.getD .skip) [.cell 4 49] 30 := ⟨Tryz.func38, rfl, by decide, Tryz.ntmps38, Tryz.results38, by kernel_rfl, by kernel_rfl⟩
theorem c_papplyB (F : QF) (vars : List QF) (n k : Nat) (κ : Nat → Nat) (hv : okVr n κ vars) (hn : n ≤ 1048576) (hf : szF k F) (ho : okF vars.length F) (hfl : F.ts.length ≤ 1048576) (hS : k + sumF (fun v => κ v + k + 1) 0 vars.length ≤ 400000000) (hl : vars.length ≤ 1048576) : Fn 38 [encF F, .own 0 0 vars.length] (.wrt (rowF vars) (encF (applyQ F vars)) (rowF vars)) := by
  refine fnC_vmut hmix hT ok_papply (by simp [encF]) ?_
  (repeat' (first|refine stp ?_|with_reducible(refine brr ?_ ?_<;>intro h)));all_goals try(conv=>whnf)
  refine loopV_kept hT (fun (i : Nat) => [(1, .own 0 0 vars.length), (4, .ptr 1 0 0), (5, .ptr 2 0 0), (12, .imm (F.ts.map encQ)), (13, .int .i64 F.ts.length), (14, .int .i64 i)])
    (fun i => [(0, rowF vars), (1, ⟨[.agg [.nilsl, .bool false, .nilsl, .nilsl]], 4, true⟩), (2, ⟨[encF (appN F vars i)], 4, true⟩)]) [] 3
    (fun i => i ≤ F.ts.length) (fun i => F.ts.length - i) 0 (Nat.zero_le _) (by decide) (by simp) ?_ ?_
  · exact ⟨[_, _], [], [], [(6, [encF ⟨[], F.c⟩])], ⟨trivial, trivial, ⟨⟨_, 6, _, rfl, rfl, rfl⟩, trivial⟩⟩, ⟨at_own (by decide) rfl rfl, at_ptr (by decide) rfl, at_ptr (by decide) rfl, at_imm rfl rfl, at_int rfl (by simp), at_int rfl rfl, trivial⟩,
      ⟨blk_row (by decide) rfl rfl (rowF_nr vars) rfl, blk_box (by decide) rfl rfl rfl rfl rfl, blk_box (by decide) rfl rfl rfl rfl rfl, trivial⟩, by simp [ren]⟩
  intro i i1
  obtain ⟨a1, a2, a3⟩ := app_ok' hv hf ho i (by omega)
  by_cases hi : i < F.ts.length
  · have hmem : F.ts[i]! ∈ F.ts := get_mem hi
    have hvi := ho.2 _ hmem
    have hvi2 : 0 ≤ (tQ F.ts[i]!).var ∧ (tQ F.ts[i]!).var < vars.length := hvi
    have hj : F.ts[i]!.1.toNat < vars.length := by omega
    obtain ⟨v1, v2, v3⟩ := hv _ hj
    have hk1 : κ F.ts[i]!.1.toNat + k + 1 ≤ sumF (fun v => κ v + k + 1) 0 vars.length := one_sum (fun v => κ v + k + 1) hj
    have cs := c_lscale vars[F.ts[i]!.1.toNat]! F.ts[i]!.2 (κ F.ts[i]!.1.toNat) k v2 (hf.2 _ hmem) (by omega) (by omega)
    have sm := mergeQ_sz (szF_zero 1 (by decide)) v2 (hf.2 _ hmem) (Nat.le_refl _)
    have sl : (mergeQ zeroQ vars[F.ts[i]!.1.toNat]! F.ts[i]!.2).ts.length ≤ n := (zero_ok v1 F.ts[i]!.2).2
    have ca := c_ladd (appN F vars i) (mergeQ zeroQ vars[F.ts[i]!.1.toNat]! F.ts[i]!.2) _ _ a2 sm (by omega) (by omega) (by omega)
    rw [merge_scale a1.1 v1.1, ← appN_succ hi] at ca
    (repeat' (first|refine stp ?_|with_reducible(refine brr ?_ ?_<;>intro h)));all_goals try(conv=>whnf)
    all_goals try (exfalso; omega)
    refine oK_atN F.ts[i]!.1.toNat (Nat.zero_add _) hj ?_
    (repeat' (first|refine stp ?_|with_reducible(refine brr ?_ ?_<;>intro h)));all_goals try(conv=>whnf)
    refine callV_data cs rfl ?_
    (repeat' (first|refine stp ?_|with_reducible(refine brr ?_ ?_<;>intro h)));all_goals try(conv=>whnf)
    refine callV_data ca rfl ?_
    (repeat' (first|refine stp ?_|with_reducible(refine brr ?_ ?_<;>intro h)));all_goals try(conv=>whnf)
    exact ⟨i + 1, ⟨by omega, by show F.ts.length - (i + 1) < F.ts.length - i; omega⟩, [1, 2], [], [], [], ⟨trivial, trivial, trivial⟩, ⟨at_own (by decide) rfl rfl, at_ptr (by decide) rfl, at_ptr (by decide) rfl, at_imm rfl rfl, at_int rfl rfl, at_int rfl rfl, trivial⟩,
        ⟨blk_row (by decide) rfl rfl (rowF_nr vars) rfl, blk_box (by decide) rfl rfl rfl rfl rfl, blk_box (by decide) rfl rfl rfl rfl rfl, trivial⟩, by simp [ren]⟩
  · have e : i = F.ts.length := by omega
    (repeat' (first|refine stp ?_|with_reducible(refine brr ?_ ?_<;>intro h)));all_goals try(conv=>whnf)
    all_goals try (exfalso; omega)
    subst e
    rw [appN_all]
    exact mutV_to rfl rfl rfl rfl rfl (rowF_n1 vars)
theorem c_papply (F : QF) (vars : List QF) (n k : Nat) (κ : Nat → Nat) (hv : okVr n κ vars) (hn : n ≤ 1048576) (hf : szF k F) (ho : okF vars.length F) (hfl : F.ts.length ≤ 1048576) (hS : k + sumF (fun v => κ v + k + 1) 0 vars.length ≤ 400000000) (hl : vars.length ≤ 1048576) : Fn 38 [encF F, .imm (vars.map encF)] (.data (encF (applyQ F vars))) := by
  refine fnC_v hmix hT ok_papply (by simp [encF]) ?_
  (repeat' (first|refine stp ?_|with_reducible(refine brr ?_ ?_<;>intro h)));all_goals try(conv=>whnf)
  refine loopV_kept hT (fun (i : Nat) => [(1, .imm (vars.map encF)), (4, .ptr 0 0 0), (5, .ptr 1 0 0), (12, .imm (F.ts.map encQ)), (13, .int .i64 F.ts.length), (14, .int .i64 i)])
    (fun i => [(0, ⟨[.agg [.nilsl, .bool false, .nilsl, .nilsl]], 4, true⟩), (1, ⟨[encF (appN F vars i)], 4, true⟩)]) [] 2
    (fun i => i ≤ F.ts.length) (fun i => F.ts.length - i) 0 (Nat.zero_le _) (by decide) (by simp) ?_ ?_
  · exact ⟨[_, _], [], [], [(5, [encF ⟨[], F.c⟩])], ⟨trivial, trivial, ⟨⟨_, 6, _, rfl, rfl, rfl⟩, trivial⟩⟩, ⟨at_imm rfl rfl, at_ptr (by decide) rfl, at_ptr (by decide) rfl, at_imm rfl rfl, at_int rfl (by simp), at_int rfl rfl, trivial⟩,
      ⟨blk_box (by decide) rfl rfl rfl rfl rfl, blk_box (by decide) rfl rfl rfl rfl rfl, trivial⟩, by simp [ren]⟩
  intro i i1
  obtain ⟨a1, a2, a3⟩ := app_ok' hv hf ho i (by omega)
  by_cases hi : i < F.ts.length
  · have hmem : F.ts[i]! ∈ F.ts := get_mem hi
    have hvi := ho.2 _ hmem
    have hvi2 : 0 ≤ (tQ F.ts[i]!).var ∧ (tQ F.ts[i]!).var < vars.length := hvi
    have hj : F.ts[i]!.1.toNat < vars.length := by omega
    obtain ⟨v1, v2, v3⟩ := hv _ hj
    have hk1 : κ F.ts[i]!.1.toNat + k + 1 ≤ sumF (fun v => κ v + k + 1) 0 vars.length := one_sum (fun v => κ v + k + 1) hj
    have cs := c_lscale vars[F.ts[i]!.1.toNat]! F.ts[i]!.2 (κ F.ts[i]!.1.toNat) k v2 (hf.2 _ hmem) (by omega) (by omega)
    have sm := mergeQ_sz (szF_zero 1 (by decide)) v2 (hf.2 _ hmem) (Nat.le_refl _)
    have sl : (mergeQ zeroQ vars[F.ts[i]!.1.toNat]! F.ts[i]!.2).ts.length ≤ n := (zero_ok v1 F.ts[i]!.2).2
    have ca := c_ladd (appN F vars i) (mergeQ zeroQ vars[F.ts[i]!.1.toNat]! F.ts[i]!.2) _ _ a2 sm (by omega) (by omega) (by omega)
    rw [merge_scale a1.1 v1.1, ← appN_succ hi] at ca
    (repeat' (first|refine stp ?_|with_reducible(refine brr ?_ ?_<;>intro h)));all_goals try(conv=>whnf)
    all_goals try (exfalso; omega)
    refine oK_map' (j := F.ts[i]!.1.toNat) (show F.ts[i]!.1 = _ by omega) hj ?_
    (repeat' (first|refine stp ?_|with_reducible(refine brr ?_ ?_<;>intro h)));all_goals try(conv=>whnf)
    refine callV_data cs rfl ?_
    (repeat' (first|refine stp ?_|with_reducible(refine brr ?_ ?_<;>intro h)));all_goals try(conv=>whnf)
    refine callV_data ca rfl ?_
    (repeat' (first|refine stp ?_|with_reducible(refine brr ?_ ?_<;>intro h)));all_goals try(conv=>whnf)
    exact ⟨i + 1, ⟨by omega, by show F.ts.length - (i + 1) < F.ts.length - i; omega⟩, [0, 1], [], [], [], ⟨trivial, trivial, trivial⟩, ⟨at_imm rfl rfl, at_ptr (by decide) rfl, at_ptr (by decide) rfl, at_imm rfl rfl, at_int rfl rfl, at_int rfl rfl, trivial⟩,
        ⟨blk_box (by decide) rfl rfl rfl rfl rfl, blk_box (by decide) rfl rfl rfl rfl rfl, trivial⟩, by simp [ren]⟩
  · have e : i = F.ts.length := by omega
    (repeat' (first|refine stp ?_|with_reducible(refine brr ?_ ?_<;>intro h)));all_goals try(conv=>whnf)
    all_goals try (exfalso; omega)
    subst e
    rw [appN_all]
    exact givesV_to rfl rfl
end Go.PI.Tryz
namespace Go.PI.Tryz
set_option linter.unnecessarySimpa false
open Go.Proofs Go.PI
set_option linter.unusedSimpArgs false
set_option linter.unusedVariables false
theorem mapF_id {g : PV → Option (PV × List Nat)} {α : Type} {f : α → PV} (hf : ∀ x, g (f x) = some (f x, [])) : ∀ l : List α, mapF g (l.map f) = some (l.map f, [])
  | [] => rfl
  | a :: l => by rw [List.map_cons]; exact mapF_cons (hf a) (mapF_id hf l)
theorem mapF_snoc {g : PV → Option (PV × List Nat)} {c d : PV} {ks : List Nat} (h1 : g c = some (d, ks)) : ∀ {l ds : List PV}, mapF g l = some (ds, []) → mapF g (l ++ [c]) = some (ds ++ [d], ks)
  | [], ds, h => by
    have : ds = [] := by simp [mapF] at h; exact h
    subst this
    have := mapF_cons (f := g) (cs := []) (ds := []) (ls := []) h1 rfl
    simpa using this
  | a :: l, ds, h => by
    simp only [mapF] at h
    split at h
    · rename_i d1 k1 ds1 k2 e1 e2
      simp only [Option.some.injEq, Prod.mk.injEq, List.append_eq_nil_iff] at h
      obtain ⟨rfl, rfl, rfl⟩ := h
      exact mapF_cons e1 (mapF_snoc h1 e2)
    · cases h
theorem frz_F {h : Hp} {n : Nat} (f : QF) : frz h (n + 1) (encF f) = some (encF f, []) := by cases n <;> rfl
theorem encF_var (i : Nat) : encF ⟨[((i : Int), 1)], 0⟩ = .agg [.imm [encQ ((i : Int), 1)], .bool false, .imm [], .imm []] := by unfold encF; rw [cr_zero]; rfl
theorem varQs_get {n i : Nat} (h : i < n) : (varQs n)[i]! = ⟨[((i : Int), 1)], 0⟩ := by unfold varQs; rw [get_range h]
theorem F_snoc {l : List QF} {j : Nat} {q : QF} (h : j < l.length) (e : l[j]! = q) : (l.take j).map encF ++ [encF q] = (l.take (j + 1)).map encF := by
  rw [List.take_succ_eq_append_getElem h, List.map_append, ← getElem!_pos l j h, e]; rfl
theorem prfL_len (us : List QF) (n : Nat) (ph : List Int) : (prfL us n ph).length = us.length := by simp [prfL]
theorem prfL_get {us : List QF} {n : Nat} {ph : List Int} {j : Nat} (h : j < us.length) : (prfL us n ph)[j]! = applyQ us[j]! (frmN us n ph j) := by unfold prfL; rw [get_range h]
theorem ok_pforms : FnOk Tryz.prog 37 Tryz.f37 (Tryz.f37.body.getD .skip) [.tmp 4, .tmp 5] 52 := ⟨Tryz.func37, rfl, by decide, Tryz.ntmps37, Tryz.results37, by kernel_rfl, by kernel_rfl⟩
theorem c_pforms (g : GraL) (p : List Int) (n k S : Nat) (κ : Nat → Nat) (hg : okGra k g) (hk1 : 1 ≤ k) (hv : VaG g) (hin : g.ins = (n : Int)) (hp : p.length = g.units.length)
    (hvr : ∀ j, j < g.units.length → okVr n κ (frmN g.us n p j)) (hS : ∀ j, j < g.units.length → k + sumF (fun v => κ v + k + 1) 0 (n + j) ≤ 400000000) : Fn 37 [encGra g, ints p] (.own none (.tup [.imm ((frmN g.us n p g.us.length).map encF), .own 0 0 (prfL g.us n p).length]) (rowF (prfL g.us n p))) := by
  have l2 := hg.1.1
  have lu := us_len g
  have hn := hv.2.1
  have hn2 : n ≤ 256 := by have := hv.1.2; omega
  have co := c_qof 1 (by decide)
  have hvl0 : (varQs n).length = n := by simp [varQs]
  refine fnC_vgive hmix hT ok_pforms (by simp [encGra]) ?_
  (repeat' (first|refine stp ?_|with_reducible(refine brr ?_ ?_<;>intro h)));all_goals try(conv=>whnf)
  refine loopV_grow hT [(.sl 4, 4, true), (.sl 5, 4, true)] (fun (i : Nat) => [(1, ints p), (2, .ptr 1 0 0), (4, .own 2 0 i), (5, .own 3 0 0), (11, .int .i64 (n : Int)), (12, .int .i64 i)]) (fun i => [(1, ⟨[encGra g], 3, true⟩), (2, rowF ((varQs n).take i)), (3, rowF [])]) [] 4
    (fun i => i ≤ n) (fun i => n - i) 0 (Nat.zero_le _) (by decide) (by simp) ⟨rfl, rfl, trivial⟩ ?_ ?_
  · exact ⟨[1, _, _], [], [], [], ⟨trivial, trivial, trivial⟩, ⟨at_imm rfl rfl, at_ptr (by decide) rfl, at_own (by decide) rfl rfl, at_own (by decide) rfl rfl, at_int rfl hin, at_int rfl rfl, trivial⟩,
      ⟨blk_box (by decide) rfl rfl rfl rfl rfl, blk_row (by decide) rfl rfl (rowF_nr []) rfl, blk_row (by decide) rfl rfl (rowF_nr []) rfl, trivial⟩, by simp [ren]⟩
  intro i i1
  have hlen : ((varQs n).take i).length = i := by rw [List.length_take]; omega
  by_cases hi : i < n
  · have hsn := F_snoc (l := varQs n) (j := i) (by omega) (varQs_get hi)
    rw [encF_var] at hsn
    (repeat' (first|refine stp ?_|with_reducible(refine brr ?_ ?_<;>intro h)));all_goals try(conv=>whnf)
    · refine callV_data co rfl ?_
      (repeat' (first|refine stp ?_|with_reducible(refine brr ?_ ?_<;>intro h)));all_goals try(conv=>whnf)
      exact ⟨i + 1, ⟨by omega, by show n - (i + 1) < n - i; omega⟩, [1, 14, 3], [11], [], [(14, ((varQs n).take i).map encF ++ [.agg [.imm [encQ ((i : Int), 1)], .bool false, .imm [], .imm []]])], ⟨⟨⟨_, rfl⟩, trivial⟩, trivial, ⟨⟨_, 6, _, rfl, mapF_snoc (by rfl) (mapF_id frz_F _), rfl⟩, trivial⟩⟩, ⟨at_imm rfl rfl, at_ptr (by decide) rfl, at_own (by decide) rfl rfl, at_own (by decide) rfl rfl, at_int rfl rfl, at_int rfl rfl, trivial⟩,
        ⟨blk_box (by decide) rfl rfl rfl rfl rfl, blk_row (by decide) rfl hsn (rowF_nr _) rfl, blk_row (by decide) rfl rfl (rowF_nr []) rfl, trivial⟩, by simp [ren]⟩
    all_goals (exfalso; omega)
  · have e0 : (varQs n).take i = frmN g.us n p 0 := List.take_of_length_le (by omega)
    (repeat' (first|refine stp ?_|with_reducible(refine brr ?_ ?_<;>intro h)));all_goals try(conv=>whnf)
    all_goals try (exfalso; omega)
    refine loopV_kept hT (fun (j : Nat) => [(1, ints p), (2, .ptr 1 0 0), (4, .own 2 0 (n + j)), (5, .own 3 0 j), (25, .imm (g.units.map encAff)), (26, .int .i64 g.units.length), (27, .int .i64 j)]) (fun j => [(1, ⟨[encGra g], 3, true⟩), (2, rowF (frmN g.us n p j)), (3, rowF ((prfL g.us n p).take j))]) [] 4
      (fun j => j ≤ g.units.length) (fun j => g.units.length - j) 0 (Nat.zero_le _) (by decide) (by simp) ?_ ?_
    · exact ⟨[1, 2, 3], [], [], [], ⟨trivial, trivial, trivial⟩, ⟨at_imm rfl rfl, at_ptr (by decide) rfl, at_own (by decide) rfl (by omega), at_own (by decide) rfl rfl, at_imm rfl rfl, at_int rfl (by simp), at_int rfl rfl, trivial⟩,
        ⟨blk_box (by decide) rfl rfl rfl rfl rfl, blk_row (by decide) rfl (congrArg (List.map encF) e0) (rowF_nr _) rfl, blk_row (by decide) rfl rfl (rowF_nr []) rfl, trivial⟩, by simp [ren]⟩
    intro j j1
    have hfl := frmN_len g.us n p j
    have hp2 := prfL_len g.us n p
    have hpl : ((prfL g.us n p).take j).length = j := by rw [List.length_take]; omega
    by_cases hj : j < g.units.length
    · have hvu := hv.2.2.2.1 j hj
      have hmem := get_mem hj
      have hou := hg.1.2 _ hmem
      have hoq := okF_of hvu
      rw [hin, show ((n : Int) + (j : Int)) = ((frmN g.us n p j).length : Nat) by omega] at hoq
      have hSj := hS j hj
      rw [← hfl] at hSj
      have ca := c_papplyB g.units[j]!.Q (frmN g.us n p j) n k κ (hvr j hj) (by omega) (szF_okA hou hk1) hoq (by rw [Q_len]; exact hou.2.2) hSj (by omega)
      rw [encF_Q hvu, hfl] at ca
      have hpg : (prfL g.us n p)[j]! = applyQ g.units[j]!.Q (frmN g.us n p j) := by rw [prfL_get (by omega), us_get hj]
      have hps := F_snoc (l := prfL g.us n p) (j := j) (by omega) hpg
      have hfs : frmN g.us n p (j + 1) = frmN g.us n p j ++ [if p[j]! = 2 then zeroQ else applyQ g.units[j]!.Q (frmN g.us n p j)] := by rw [← us_get hj]; rfl
      (repeat' (first|refine stp ?_|with_reducible(refine brr ?_ ?_<;>intro h)));all_goals try(conv=>whnf)
      all_goals try (exfalso; omega)
      refine callV_bor (r := 2) ca rfl rfl rfl rfl (nrs_of (rowF_nr _)) ?_
      (repeat' (first|refine stp ?_|with_reducible(refine brr ?_ ?_<;>intro h)));all_goals try(conv=>whnf)
      · rw [if_pos (by assumption)] at hfs
        have hz : (frmN g.us n p j).map encF ++ [.agg [.imm [], .bool false, .imm [], .imm []]] = (frmN g.us n p (j + 1)).map encF := by rw [hfs, List.map_append, ← encF_zero]; rfl
        exact ⟨j + 1, ⟨by omega, by show g.units.length - (j + 1) < g.units.length - j; omega⟩, [1, 31, 19], [], [], [(31, (frmN g.us n p j).map encF ++ [.agg [.imm [], .bool false, .imm [], .imm []]])], ⟨trivial, trivial, ⟨⟨_, 6, _, rfl, mapF_snoc (by rfl) (mapF_id frz_F _), rfl⟩, trivial⟩⟩, ⟨at_imm rfl rfl, at_ptr (by decide) rfl, at_own (by decide) rfl rfl, at_own (by decide) rfl rfl, at_imm rfl rfl, at_int rfl rfl, at_int rfl rfl, trivial⟩,
          ⟨blk_box (by decide) rfl rfl rfl rfl rfl, blk_row (by decide) rfl hz (rowF_nr _) rfl, blk_row (by decide) rfl hps (rowF_nr _) rfl, trivial⟩, by simp [ren]⟩
      · rw [if_neg (by assumption)] at hfs
        have hz : (frmN g.us n p j).map encF ++ [encF (applyQ g.units[j]!.Q (frmN g.us n p j))] = (frmN g.us n p (j + 1)).map encF := by rw [hfs, List.map_append]; rfl
        exact ⟨j + 1, ⟨by omega, by show g.units.length - (j + 1) < g.units.length - j; omega⟩, [1, _, _], [], [], [], ⟨trivial, trivial, trivial⟩, ⟨at_imm rfl rfl, at_ptr (by decide) rfl, at_own (by decide) rfl rfl, at_own (by decide) rfl rfl, at_imm rfl rfl, at_int rfl rfl, at_int rfl rfl, trivial⟩,
          ⟨blk_box (by decide) rfl rfl rfl rfl rfl, blk_row (by decide) rfl hz (rowF_nr _) rfl, blk_row (by decide) rfl hps (rowF_nr _) rfl, trivial⟩, by simp [ren]⟩
      all_goals (exfalso; omega)
    · have ej : j = g.us.length := by omega
      have et : (prfL g.us n p).take j = prfL g.us n p := List.take_of_length_le (by omega)
      (repeat' (first|refine stu ?_|with_reducible(refine brr ?_ ?_<;>intro h)));all_goals try(conv=>whnf)
      refine r_thenL ?_
      (repeat' (first|refine stu ?_|with_reducible(refine brr ?_ ?_<;>intro h)));all_goals try(conv=>whnf)
      all_goals try (exfalso; omega)
      refine tellV [] [(4, .imm ((frmN g.us n p j).map encF)), (5, .own 1 0 j)] [(1, rowF ((prfL g.us n p).take j))] [] 2 (by decide) (by simp) trivial
        ⟨[3], [2], [(4, .imm ((frmN g.us n p j).map encF))], [], ⟨⟨⟨_, rfl⟩, trivial⟩, ⟨⟨6, _, frz_own_map rfl rfl (by omega) frz_F, rfl⟩, trivial⟩, trivial⟩, ⟨at_imm rfl rfl, at_own (by decide) rfl rfl, trivial⟩, ⟨blk_row (by decide) rfl rfl (rowF_nr _) rfl, trivial⟩, by simp [ren]⟩ ?_
      (repeat' (first|refine stp ?_|with_reducible(refine brr ?_ ?_<;>intro h)));all_goals try(conv=>whnf)
      have ep : j = (prfL g.us n p).length := by omega
      have ho : okRes (rowF (prfL g.us n p)) (.tup [.imm ((frmN g.us n p g.us.length).map encF), .own 0 0 (prfL g.us n p).length]) := by
        refine Or.inl ⟨fun c hc => ?_, ?_⟩
        · simp only [resCells, List.mem_cons, List.not_mem_nil, or_false] at hc
          rcases hc with rfl | rfl
          · exact Or.inr rfl
          · exact Or.inl (by simp)
        · simp [resCells]
      rw [et]
      exact ownV_to (r := 1) (by rw [ej, ← ep, ← ej]; rfl) rfl rfl rfl (rowF_n1 _) ho
end Go.PI.Tryz
namespace Go.PI.Tryz
set_option linter.unnecessarySimpa false
open Go.Proofs Go.PI
set_option linter.unusedSimpArgs false
set_option linter.unusedVariables false
theorem okGra_le {j k : Nat} (h : j ≤ k) {g : GraL} (hg : okGra j g) : okGra k g := ⟨⟨hg.1.1, fun f hf => okA_le h (hg.1.2 f hf)⟩, ⟨hg.2.1, fun f hf => okA_le h (hg.2.2 f hf)⟩⟩
def outQ (g : GraL) (n : Nat) (p : List Int) : List QF := g.outs.map fun f => applyQ f.Q (frmN g.us n p g.us.length)
theorem outQ_get {g : GraL} {n : Nat} {p : List Int} {j : Nat} (h : j < g.outs.length) : (outQ g n p)[j]! = applyQ g.outs[j]!.Q (frmN g.us n p g.us.length) := by
  unfold outQ; rw [getElem!_pos _ j (by simpa using h), getElem!_pos g.outs j h]; simp
/-- What the sizes must be. -/
def szG (g : GraL) (p : List Int) (n k : Nat) (κ : Nat → Nat) : Prop := ∀ j, j ≤ g.units.length → okVr n κ (frmN g.us n p j) ∧ k + sumF (fun v => κ v + k + 1) 0 (n + j) ≤ 400000000
theorem ok_pFormsX : FnOk Tryz.prog 14 Tryz.f14 (Tryz.f14.body.getD .skip) [.tmp 4, .tmp 5, .tmp 6] 38 := ⟨Tryz.func14, rfl, by decide, Tryz.ntmps14, Tryz.results14, by kernel_rfl, by kernel_rfl⟩
theorem c_pFormsX (g : GraL) (p : List Int) (n k : Nat) (κ : Nat → Nat) (hg : okGra k g) (hk : k ≤ 950000000) (hk1 : 1 ≤ k) (hc : comP g p) (hpl : p.length ≤ 1048576) (hin : g.ins = (n : Int)) (hs : szG g p n k κ) : Fn 14 [encGra g, ints p] (.data (.tup [.imm ((frmN g.us n p g.us.length).map encF), .imm ((outQ g n p).map encF), .int .i64 0])) := by
  have cc := c_pcomplete g p (okGra_le hk hg) hpl
  rw [dB_true.2 hc] at cc
  obtain ⟨hv, hp, hd⟩ := hc
  have cf := c_pforms g p n k 0 κ hg hk1 hv hin hp (fun j hj => (hs j (by omega)).1) (fun j hj => (hs j (by omega)).2)
  have lu := us_len g
  have l2 := hg.2.1
  have hn2 : n ≤ 256 := by have := hv.1.2; omega
  have hnu := hv.2.1
  have hol : (outQ g n p).length = g.outs.length := by simp [outQ]
  have hfl := frmN_len g.us n p g.us.length
  refine fnC_v hmix hT ok_pFormsX (by simp [encGra]) ?_
  (repeat' (first|refine stp ?_|with_reducible(refine brr ?_ ?_<;>intro h)));all_goals try(conv=>whnf)
  refine callV_data cc rfl ?_
  (repeat' (first|refine stp ?_|with_reducible(refine brr ?_ ?_<;>intro h)));all_goals try(conv=>whnf)
  refine callV_give cf rfl ?_
  (repeat' (first|refine stp ?_|with_reducible(refine brr ?_ ?_<;>intro h)));all_goals try(conv=>whnf)
  refine loopV_grow hT [(.sl 9, 4, true)] (fun (i : Nat) => [(7, .imm ((frmN g.us n p g.us.length).map encF)), (9, .own 0 0 i), (23, .imm (g.outs.map encAff)), (24, .int .i64 g.outs.length), (25, .int .i64 i)]) (fun i => [(0, rowF ((outQ g n p).take i))]) [] 1
    (fun i => i ≤ g.outs.length) (fun i => g.outs.length - i) 0 (Nat.zero_le _) (by decide) (by simp) ⟨rfl, trivial⟩ ?_ ?_
  · exact ⟨[_], [], [], [], ⟨trivial, trivial, trivial⟩, ⟨at_imm rfl rfl, at_own (by decide) rfl rfl, at_imm rfl rfl, at_int rfl (by simp), at_int rfl rfl, trivial⟩, ⟨blk_row (by decide) rfl rfl (rowF_nr []) rfl, trivial⟩, by simp [ren]⟩
  intro i i1
  have hlen : ((outQ g n p).take i).length = i := by rw [List.length_take]; omega
  by_cases hi : i < g.outs.length
  · have hvu := hv.2.2.2.2 i hi
    have hou := hg.2.2 _ (get_mem hi)
    have hoq := okF_of hvu
    rw [hin, show ((n : Int) + (g.units.length : Int)) = ((frmN g.us n p g.us.length).length : Nat) by omega] at hoq
    obtain ⟨s1, s2⟩ := hs g.us.length (by omega)
    rw [← hfl] at s2
    have ca := c_papply g.outs[i]!.Q (frmN g.us n p g.us.length) n k κ s1 (by omega) (szF_okA hou hk1) hoq (by rw [Q_len]; exact hou.2.2) s2 (by omega)
    rw [encF_Q hvu] at ca
    have hsn := F_snoc (l := outQ g n p) (j := i) (by omega) (outQ_get hi)
    (repeat' (first|refine stp ?_|with_reducible(refine brr ?_ ?_<;>intro h)));all_goals try(conv=>whnf)
    · refine callV_data ca rfl ?_
      (repeat' (first|refine stp ?_|with_reducible(refine brr ?_ ?_<;>intro h)));all_goals try(conv=>whnf)
      exact ⟨i + 1, ⟨by omega, by show g.outs.length - (i + 1) < g.outs.length - i; omega⟩, [_], [], [], [], ⟨trivial, trivial, trivial⟩, ⟨at_imm rfl rfl, at_own (by decide) rfl rfl, at_imm rfl rfl, at_int rfl rfl, at_int rfl rfl, trivial⟩, ⟨blk_row (by decide) rfl hsn (rowF_nr _) rfl, trivial⟩, by simp [ren]⟩
    all_goals (exfalso; omega)
  · have et : (outQ g n p).take i = outQ g n p := List.take_of_length_le (by omega)
    (repeat' (first|refine stp ?_|with_reducible(refine brr ?_ ?_<;>intro h)));all_goals try(conv=>whnf)
    all_goals try (exfalso; omega)
    exact givesV_to (frz_tupL (mapF_cons rfl (mapF_cons (frz_own_map rfl rfl (by omega) frz_F) rfl))) (by rw [et])
def pieI (us : List QF) (n : Nat) (p : List Int) (i : Nat) : List QF := (List.range us.length).map fun j => if j < i then rowG us n p j else applyQ us[j]! (frmN us n p j)
theorem pieI_len (us : List QF) (n : Nat) (p : List Int) (i : Nat) : (pieI us n p i).length = us.length := by simp [pieI]
theorem pieI_zero (us : List QF) (n : Nat) (p : List Int) : prfL us n p = pieI us n p 0 := by unfold pieI prfL; simp
theorem pieI_get {us : List QF} {n : Nat} {p : List Int} {i : Nat} (h : i < us.length) : (pieI us n p i)[i]! = applyQ us[i]! (frmN us n p i) := by unfold pieI; rw [get_range h, if_neg (Nat.lt_irrefl _)]
theorem pieI_set {us : List QF} {n : Nat} {p : List Int} {i : Nat} (h : i < us.length) : (pieI us n p i).set i (rowG us n p i) = pieI us n p (i + 1) := by
  refine List.ext_getElem (by simp [pieI]) fun j h1 h2 => ?_
  have h3 : j < us.length := by simpa [pieI] using h2
  by_cases e : j = i
  · subst e; simp [pieI]
  · simp only [pieI, List.getElem_set_ne (show i ≠ j by omega), List.getElem_map, List.getElem_range]
    by_cases e2 : j < i
    · rw [if_pos e2, if_pos (by omega)]
    · rw [if_neg e2, if_neg (by omega)]
theorem pieI_keep {us : List QF} {n : Nat} {p : List Int} {i : Nat} (h : i < us.length) (hr : p[i]! ≠ 2) : pieI us n p i = pieI us n p (i + 1) := by
  refine List.ext_getElem (by simp [pieI]) fun j h1 h2 => ?_
  simp only [pieI, List.getElem_map, List.getElem_range]
  by_cases e : j = i
  · subst e
    rw [if_neg (Nat.lt_irrefl _), if_pos (by omega)]; unfold rowG; rw [if_neg hr]
  · by_cases e2 : j < i
    · rw [if_pos e2, if_pos (by omega)]
    · rw [if_neg e2, if_neg (by omega)]
def pieL (us : List QF) (n : Nat) (p : List Int) : List QF := pieI us n p us.length
theorem ok_ppiece : FnOk Tryz.prog 17 Tryz.f17 (Tryz.f17.body.getD .skip) [.tmp 4, .tmp 5] 40 := ⟨Tryz.func17, rfl, by decide, Tryz.ntmps17, Tryz.results17, by kernel_rfl, by kernel_rfl⟩
theorem c_ppiece (g : GraL) (p : List Int) (n k : Nat) (κ : Nat → Nat) (hg : okGra k g) (hk : k ≤ 950000000) (hk1 : 1 ≤ k) (hc : comP g p) (hpl : p.length ≤ 1048576) (hin : g.ins = (n : Int)) (hs : szG g p n k κ) : Fn 17 [encGra g, ints p] (.data (.tup [.imm ((pieL g.us n p).map encF), .int .i64 0])) := by
  have cc := c_pcomplete g p (okGra_le hk hg) hpl
  rw [dB_true.2 hc] at cc
  obtain ⟨hv, hp, hd⟩ := hc
  have cf := c_pforms g p n k 0 κ hg hk1 hv hin hp (fun j hj => (hs j (by omega)).1) (fun j hj => (hs j (by omega)).2)
  rw [pieI_zero, pieI_len] at cf
  have co := c_qof (-1) (by decide)
  rw [show (((-1 : Int)) : Rat) = -1 by rfl] at co
  have lu := us_len g
  have l2 := hg.1.1
  have hn2 : n ≤ 256 := by have := hv.1.2; omega
  have hnu := hv.2.1
  refine fnC_v hmix hT ok_ppiece (by simp [encGra]) ?_
  (repeat' (first|refine stp ?_|with_reducible(refine brr ?_ ?_<;>intro h)));all_goals try(conv=>whnf)
  refine callV_data cc rfl ?_
  (repeat' (first|refine stp ?_|with_reducible(refine brr ?_ ?_<;>intro h)));all_goals try(conv=>whnf)
  refine callV_give cf rfl ?_
  (repeat' (first|refine stp ?_|with_reducible(refine brr ?_ ?_<;>intro h)));all_goals try(conv=>whnf)
  refine loopV_kept hT (fun (i : Nat) => [(1, ints p), (7, .own 0 0 g.us.length), (20, .int .i64 g.us.length), (21, .int .i64 i)]) (fun i => [(0, rowF (pieI g.us n p i))]) [] 1
    (fun i => i ≤ g.us.length) (fun i => g.us.length - i) 0 (Nat.zero_le _) (by decide) (by simp) ?_ ?_
  · exact ⟨[_], [], [], [], ⟨trivial, trivial, trivial⟩, ⟨at_imm rfl rfl, at_own (by decide) rfl rfl, at_int rfl (by simp), at_int rfl rfl, trivial⟩, ⟨blk_row (by decide) rfl rfl (rowF_nr _) rfl, trivial⟩, by simp [ren]⟩
  intro i i1
  have hil := pieI_len g.us n p i
  by_cases hi : i < g.us.length
  · have hvu := hv.2.2.2.1 i (by omega)
    have hou := hg.1.2 _ (get_mem (show i < g.units.length by omega))
    have hoq := okF_of hvu
    have hfl := frmN_len g.us n p i
    rw [hin, show ((n : Int) + (i : Int)) = ((frmN g.us n p i).length : Nat) by omega] at hoq
    obtain ⟨s1, s2⟩ := hs i (by omega)
    rw [← hfl] at s2
    obtain ⟨b1, b2, b3⟩ := apply_ok s1 (szF_okA hou hk1) hoq
    have cs := c_lscale (applyQ g.units[i]!.Q (frmN g.us n p i)) (-1) _ 1 b2 (sz_int (z := -1) (by decide)) (by omega) (by omega)
    have hgt := pieI_get (us := g.us) (n := n) (p := p) hi
    rw [us_get (by omega)] at hgt
    (repeat' (first|refine stp ?_|with_reducible(refine brr ?_ ?_<;>intro h)));all_goals try(conv=>whnf)
    · have hr : rowG g.us n p i = mergeQ zeroQ (applyQ g.units[i]!.Q (frmN g.us n p i)) (-1) := by unfold rowG; rw [if_pos (by assumption), us_get (by omega)]
      refine oK_atN i (Nat.zero_add _) (by omega) ?_
      rw [hgt]
      (repeat' (first|refine stp ?_|with_reducible(refine brr ?_ ?_<;>intro h)));all_goals try(conv=>whnf)
      refine callV_data co rfl ?_
      (repeat' (first|refine stp ?_|with_reducible(refine brr ?_ ?_<;>intro h)));all_goals try(conv=>whnf)
      refine callV_data cs rfl ?_
      (repeat' (first|refine stp ?_|with_reducible(refine brr ?_ ?_<;>intro h)));all_goals try(conv=>whnf)
      refine oK_atN i (Nat.zero_add _) (by omega) ?_
      rw [hgt]
      (repeat' (first|refine stp ?_|with_reducible(refine brr ?_ ?_<;>intro h)));all_goals try(conv=>whnf)
      exact ⟨i + 1, ⟨by omega, by show g.us.length - (i + 1) < g.us.length - i; omega⟩, [_], [], [], [], ⟨trivial, trivial, trivial⟩, ⟨at_imm rfl rfl, at_own (by decide) rfl rfl, at_int rfl rfl, at_int rfl rfl, trivial⟩, ⟨blk_row (by decide) rfl (by rw [← pieI_set hi, hr]; exact set_to (by omega) rfl) (rowF_nr _) rfl, trivial⟩, by simp [ren]⟩
    · exact ⟨i + 1, ⟨by omega, by show g.us.length - (i + 1) < g.us.length - i; omega⟩, [_], [], [], [], ⟨trivial, trivial, trivial⟩, ⟨at_imm rfl rfl, at_own (by decide) rfl rfl, at_int rfl rfl, at_int rfl rfl, trivial⟩, ⟨blk_row (by decide) rfl (congrArg (List.map encF) (pieI_keep hi (by assumption))) (rowF_nr _) rfl, trivial⟩, by simp [ren]⟩
    all_goals (exfalso; omega)
  · have ei : i = g.us.length := by omega
    (repeat' (first|refine stp ?_|with_reducible(refine brr ?_ ?_<;>intro h)));all_goals try(conv=>whnf)
    all_goals try (exfalso; omega)
    exact givesV_to (frz_tupL (mapF_cons (frz_own_map rfl rfl (by omega) frz_F) rfl)) (by rw [ei]; rfl)
end Go.PI.Tryz
namespace Go.PI.Tryz
set_option linter.unnecessarySimpa false
open Go.Proofs Go.PI
set_option linter.unusedSimpArgs false
set_option linter.unusedVariables false
theorem phase_1 {q : Rat} (h : sgnQ q = 1) : phase q = 1 := phase_one.2 (sgnQ_pos.1 (by omega))
theorem phase_2 {q : Rat} (h : sgnQ q = -1) : phase q = 2 := phase_two.2 (sgnQ_neg.1 (by omega))
theorem phase_0 {q : Rat} (h : ¬ sgnQ q = 1) (h2 : ¬ sgnQ q = -1) : phase q = 0 := by
  refine phase_zero.2 (sgnQ_zero.1 ?_)
  rcases Int.lt_trichotomy q.num 0 with e | e | e
  · exact absurd (Int.sign_eq_neg_one_of_neg e) h2
  · unfold sgnQ; rw [e]; rfl
  · exact absurd (Int.sign_eq_one_of_pos e) h
def offI (pre : List Rat) (i : Nat) : List Int := (List.range pre.length).map fun j => if j < i then phase pre[j]! else 0
theorem offI_len (pre : List Rat) (i : Nat) : (offI pre i).length = pre.length := by simp [offI]
theorem offI_zero (pre : List Rat) : List.replicate pre.length (0 : Int) = offI pre 0 := by
  refine List.ext_getElem (by simp [offI]) fun j h1 h2 => ?_
  simp [offI]
theorem offI_set {pre : List Rat} {i : Nat} (h : i < pre.length) : (offI pre i).set i (phase pre[i]!) = offI pre (i + 1) := by
  refine List.ext_getElem (by simp [offI]) fun j h1 h2 => ?_
  by_cases e : j = i
  · subst e; simp [offI]
  · simp only [offI, List.getElem_set_ne (show i ≠ j by omega), List.getElem_map, List.getElem_range]
    by_cases e2 : j < i
    · rw [if_pos e2, if_pos (by omega)]
    · rw [if_neg e2, if_neg (by omega)]
theorem offI_keep {pre : List Rat} {i : Nat} (h : i < pre.length) (hr : phase pre[i]! = 0) : offI pre i = offI pre (i + 1) := by
  refine List.ext_getElem (by simp [offI]) fun j h1 h2 => ?_
  simp only [offI, List.getElem_map, List.getElem_range]
  by_cases e : j = i
  · subst e
    rw [if_neg (Nat.lt_irrefl _), if_pos (by omega), hr]
  · by_cases e2 : j < i
    · rw [if_pos e2, if_pos (by omega)]
    · rw [if_neg e2, if_neg (by omega)]
def ofL (pre : List Rat) : List Int := offI pre pre.length
theorem rowI_nr (l : List Int) : ∀ e ∈ l.map (PV.int .i64), nr 3 e = true ∧ e ≠ .any := nr_map fun _ => ⟨rfl, by simp⟩
theorem ok_pof : FnOk Tryz.prog 11 Tryz.f11 (Tryz.f11.body.getD .skip) [.tmp 4, .tmp 5] 53 := ⟨Tryz.func11, rfl, by decide, Tryz.ntmps11, Tryz.results11, by kernel_rfl, by kernel_rfl⟩
theorem c_pof (g : GraL) (x : List RatL) (k K : Nat) (hg : okGra k g) (hk : k ≤ 950000000) (hk1 : 1 ≤ k) (hK1 : 1 ≤ K) (hv : VaG g) (hx : okLs 950000000 x) (hl : (x.length : Int) = g.ins) (hK : ∀ j, j < g.units.length → (∀ q ∈ valsN g.us (x.map qv) j, sz K q) ∧ sz K (preL g.us (x.map qv))[j]!) (hb : ∀ f ∈ g.units, k + f.terms.length * (k + K + 1) + k + K ≤ 949999990) (hKb : K ≤ 949999990) : Fn 11 [encGra g, .imm (x.map encRat)] (.data (.tup [ints (ofL (preL g.us (x.map qv))), .int .i64 0])) := by
  have cv := c_gvalid g (okGra_le hk hg)
  rw [dB_true.2 hv] at cv
  have cp := c_gpre g x k K hg hk hk1 hK1 hv hx hl hK hb
  have hnu := hv.2.1
  have lu := us_len g
  have hpl := preL_len g.us (x.map qv)
  have hsz : ∀ j, j < (preL g.us (x.map qv)).length → sz K (preL g.us (x.map qv))[j]! := fun j hj => (hK j (by omega)).2
  generalize preL g.us (x.map qv) = pre at *
  refine fnC_v hmix hT ok_pof (by simp [encGra]) ?_
  (repeat' (first|refine stp ?_|with_reducible(refine brr ?_ ?_<;>intro h)));all_goals try(conv=>whnf)
  refine callV_data cv rfl ?_
  (repeat' (first|refine stp ?_|with_reducible(refine brr ?_ ?_<;>intro h)));all_goals try(conv=>whnf)
  · exfalso; omega
  refine callV_data cp rfl ?_
  (repeat' (first|refine stp ?_|with_reducible(refine brr ?_ ?_<;>intro h)));all_goals try(conv=>whnf)
  all_goals try (exfalso; omega)
  refine loopV_kept hT (fun (i : Nat) => [(8, .own 0 0 pre.length), (32, .imm (pre.map encX)), (33, .int .i64 pre.length), (34, .int .i64 i)]) (fun i => [(0, ⟨(offI pre i).map (.int .i64), 1, false⟩)]) [] 1
    (fun i => i ≤ pre.length) (fun i => pre.length - i) 0 (Nat.zero_le _) (by decide) (by simp) ?_ ?_
  · exact ⟨[_], [], [], [], ⟨trivial, trivial, trivial⟩, ⟨at_own (by decide) rfl (by simp only [List.length_map]; omega), at_imm rfl rfl, at_int rfl (by simp only [List.length_map]), at_int rfl rfl, trivial⟩, ⟨blk_row (by decide) rfl (by rw [← offI_zero]; exact rep_to (f := PV.int .i64) (x := (0 : Int)) (by first | rfl | omega | simp)) (rowI_nr _) rfl, trivial⟩, by simp [ren]⟩
  intro i i1
  have hil := offI_len pre i
  by_cases hi : i < pre.length
  · have hs := hsz i hi
    have l3 := cr_len hs
    have cs := c_qsign (cr pre[i]!) (okR_cr _) (by omega)
    rw [qv_cr] at cs
    (repeat' (first|refine stp ?_|with_reducible(refine brr ?_ ?_<;>intro h)));all_goals try(conv=>whnf)
    all_goals try (exfalso; omega)
    refine callV_data cs rfl ?_
    (repeat' (first|refine stp ?_|with_reducible(refine brr ?_ ?_<;>intro h)));all_goals try(conv=>whnf)
    · refine oK_atN i (Nat.zero_add _) (by omega) ?_
      (repeat' (first|refine stp ?_|with_reducible(refine brr ?_ ?_<;>intro h)));all_goals try(conv=>whnf)
      exact ⟨i + 1, ⟨by omega, by show pre.length - (i + 1) < pre.length - i; omega⟩, [_], [], [], [], ⟨trivial, trivial, trivial⟩, ⟨at_own (by decide) rfl rfl, at_imm rfl rfl, at_int rfl rfl, at_int rfl rfl, trivial⟩, ⟨blk_row (by decide) rfl (by rw [← offI_set hi, phase_1 (by assumption)]; exact set_to (by omega) rfl) (rowI_nr _) rfl, trivial⟩, by simp [ren]⟩
    · refine oK_atN i (Nat.zero_add _) (by omega) ?_
      (repeat' (first|refine stp ?_|with_reducible(refine brr ?_ ?_<;>intro h)));all_goals try(conv=>whnf)
      exact ⟨i + 1, ⟨by omega, by show pre.length - (i + 1) < pre.length - i; omega⟩, [_], [], [], [], ⟨trivial, trivial, trivial⟩, ⟨at_own (by decide) rfl rfl, at_imm rfl rfl, at_int rfl rfl, at_int rfl rfl, trivial⟩, ⟨blk_row (by decide) rfl (by rw [← offI_set hi, phase_2 (by assumption)]; exact set_to (by omega) rfl) (rowI_nr _) rfl, trivial⟩, by simp [ren]⟩
    · exact ⟨i + 1, ⟨by omega, by show pre.length - (i + 1) < pre.length - i; omega⟩, [_], [], [], [], ⟨trivial, trivial, trivial⟩, ⟨at_own (by decide) rfl rfl, at_imm rfl rfl, at_int rfl rfl, at_int rfl rfl, trivial⟩, ⟨blk_row (by decide) rfl (congrArg (List.map (PV.int .i64)) (offI_keep hi (phase_0 (by assumption) (by assumption)))) (rowI_nr _) rfl, trivial⟩, by simp [ren]⟩
  · have ei : i = pre.length := by omega
    (repeat' (first|refine stp ?_|with_reducible(refine brr ?_ ?_<;>intro h)));all_goals try(conv=>whnf)
    all_goals try (exfalso; omega)
    exact givesV_to (frz_tupL (mapF_cons (frz_own_map rfl rfl (by omega) fun _ => rfl) rfl)) (by rw [ei]; rfl)
theorem c_pofN (g : GraL) (x : List RatL) (hg : okGra 950000000 g) (hx : x.length ≤ 1048576) (hno : ¬ (VaG g ∧ (x.length : Int) = g.ins)) : Fn 11 [encGra g, .imm (x.map encRat)] (.data (.tup [.imm [], .int .i64 1])) := by
  have cv := c_gvalid g hg
  refine fnC_v hmix hT ok_pof (by simp [encGra]) ?_
  (repeat' (first|refine stp ?_|with_reducible(refine brr ?_ ?_<;>intro h)));all_goals try(conv=>whnf)
  by_cases hv : VaG g
  · rw [dB_true.2 hv] at cv
    refine callV_data cv rfl ?_
    (repeat' (first|refine stp ?_|with_reducible(refine brr ?_ ?_<;>intro h)));all_goals try(conv=>whnf)
    · exact givesV_to rfl rfl
    · exact absurd ⟨hv, by omega⟩ hno
  · rw [dB_false.2 hv] at cv
    refine callV_data cv rfl ?_
    (repeat' (first|refine stp ?_|with_reducible(refine brr ?_ ?_<;>intro h)));all_goals try(conv=>whnf)
    exact givesV_to rfl rfl
end Go.PI.Tryz
namespace Go.PI.Tryz
set_option linter.unnecessarySimpa false
open Go.Proofs Go.PI
set_option linter.unusedSimpArgs false
set_option linter.unusedVariables false
theorem ok_smrat : FnOk Tryz.prog 30 Tryz.f30 (Tryz.f30.body.getD .skip) [.tmp 2] 17 := ⟨Tryz.func30, rfl, by decide, Tryz.ntmps30, Tryz.results30, by kernel_rfl, by kernel_rfl⟩
theorem c_smrat (x : RatL) (hx : okQ 2147483596 x) : Fn 30 [encRat x] (.data (.bool (decide (smR x)))) := by
  have cv := c_rqvalid x hx.1 (by have := hx.2; omega) (by have := hx.2; omega)
  have no : ¬ smR x → false = decide (smR x) := fun h => (decide_eq_false h).symm
  refine fnC_v hmix hT ok_smrat (by simp) ?_
  (repeat' (first|refine stp ?_|with_reducible(refine brr ?_ ?_<;>intro h)));all_goals try(conv=>whnf)
  · refine callV_data cv rfl ?_
    (repeat' (first|refine stp ?_|with_reducible(refine brr ?_ ?_<;>intro h)));all_goals try(conv=>whnf)
    refine givesV_to rfl (congrArg PV.bool ?_)
    exact decide_eq_decide.2 ⟨fun e => ⟨by omega, by omega, e⟩, fun e => e.2.2⟩
  · exact givesV_to rfl (congrArg PV.bool (no fun e => by have := e.2.1; omega))
  · exact givesV_to rfl (congrArg PV.bool (no fun e => by have := e.1; omega))
theorem ok_smform : FnOk Tryz.prog 55 Tryz.f55 (Tryz.f55.body.getD .skip) [.tmp 2] 34 := ⟨Tryz.func55, rfl, by decide, Tryz.ntmps55, Tryz.results55, by kernel_rfl, by kernel_rfl⟩
theorem c_smform (f : AffL) (hf : okA 2147483596 f) : Fn 55 [encAff f] (.data (.bool (dB (smF f)))) := by
  have c1 := c_smrat f.const hf.1
  have c2 := c_rlvalid f 1048576 hf
  have no : ¬ smF f → false = dB (smF f) := dB_no
  refine fnC_v hmix hT ok_smform (by simp [encAff]) ?_
  (repeat' (first|refine stp ?_|with_reducible(refine brr ?_ ?_<;>intro h)));all_goals try(conv=>whnf)
  · exact givesV_to rfl (congrArg PV.bool (no fun e => by have := e.1; omega))
  · refine callV_data c1 rfl ?_
    (repeat' (first|refine stp ?_|with_reducible(refine brr ?_ ?_<;>intro h)));all_goals try(conv=>whnf)
    · refine callV_data c2 rfl ?_
      (repeat' (first|refine stp ?_|with_reducible(refine brr ?_ ?_<;>intro h)));all_goals try(conv=>whnf)
      · have hv : ValidF f 1048576 := validB_true.1 (by assumption)
        have hs : smR f.const := by assumption
        have hl : f.terms.length ≤ 8 := by omega
        refine loopV_kept hT (fun (i : Nat) => [(1, .ptr 0 0 0), (3, .int .i64 i)]) (fun _ => [(0, ⟨[encAff f], 4, true⟩)]) [] 1
          (fun i => i ≤ f.terms.length ∧ ∀ j, j < i → smR f.terms[j]!.coef) (fun i => f.terms.length - i) 0 ⟨Nat.zero_le _, fun j h => (by omega)⟩ (by decide) (by simp) ?_ ?_
        · exact ⟨[0], [], [], [], ⟨trivial, trivial, trivial⟩, ⟨at_ptr (by decide) rfl, at_int rfl rfl, trivial⟩, ⟨blk_box (by decide) rfl rfl rfl rfl rfl, trivial⟩, by simp [ren]⟩
        intro i ⟨i1, i2⟩
        by_cases hi : i < f.terms.length
        · have cr' := c_smrat f.terms[i]!.coef (okA_get hf hi)
          (repeat' (first|refine stp ?_|with_reducible(refine brr ?_ ?_<;>intro h)));all_goals try(conv=>whnf)
          · refine callV_data cr' rfl ?_
            (repeat' (first|refine stp ?_|with_reducible(refine brr ?_ ?_<;>intro h)));all_goals try(conv=>whnf)
            · refine ⟨i + 1, ⟨⟨by omega, fun j hj => ?_⟩, by show f.terms.length - (i + 1) < f.terms.length - i; omega⟩, [0], [], [], [], ⟨trivial, trivial, trivial⟩, ⟨at_ptr (by decide) rfl, at_int rfl (by omega), trivial⟩, ⟨blk_box (by decide) rfl rfl rfl rfl rfl, trivial⟩, by simp [ren]⟩
              rcases Nat.lt_or_eq_of_le (Nat.le_of_lt_succ hj) with hj | rfl
              · exact i2 j hj
              · assumption
            · exact givesV_to rfl (congrArg PV.bool (no fun e => h (e.2.2.2 i hi)))
          all_goals (exfalso; omega)
        · (repeat' (first|refine stp ?_|with_reducible(refine brr ?_ ?_<;>intro h)));all_goals try(conv=>whnf)
          all_goals try (exfalso; omega)
          exact givesV_to rfl (congrArg PV.bool (dB_yes ⟨hl, hs, hv, fun j hj => i2 j (by omega)⟩))
      · exact givesV_to rfl (congrArg PV.bool (no fun e => by have := validB_true.2 e.2.2.1; rw [h] at this; cases this))
    · exact givesV_to rfl (congrArg PV.bool (no fun e => h e.2.1))
theorem ok_smforms : FnOk Tryz.prog 29 Tryz.f29 (Tryz.f29.body.getD .skip) [.tmp 4] 22 := ⟨Tryz.func29, rfl, by decide, Tryz.ntmps29, Tryz.results29, by kernel_rfl, by kernel_rfl⟩
theorem c_smforms (l : List AffL) (m : Int) (hl : ∀ i, i < l.length → okA 2147483596 l[i]!) (hll : l.length ≤ 1048576) : Fn 29 [.imm (l.map encAff), .int .i64 m] (.data (.bool (dB (smFs l m)))) := by
  have no : ¬ smFs l m → false = dB (smFs l m) := dB_no
  refine fnC_v hmix hT ok_smforms (by simp) ?_
  (repeat' (first|refine stp ?_|with_reducible(refine brr ?_ ?_<;>intro h)));all_goals try(conv=>whnf)
  · exact givesV_to rfl (congrArg PV.bool (no fun e => by have := e.1; omega))
  have hm : (l.length : Int) ≤ m := by omega
  refine loopV_kept hT (fun (i : Nat) => [(0, .imm (l.map encAff)), (5, .int .i64 i)]) (fun _ => []) [] 1
    (fun i => i ≤ l.length ∧ ∀ j, j < i → smF l[j]!) (fun i => l.length - i) 0 ⟨Nat.zero_le _, fun j h => (by omega)⟩ (by decide) (by simp) ?_ ?_
  · exact ⟨[0], [], [], [], ⟨trivial, trivial, trivial⟩, ⟨at_imm rfl rfl, at_int rfl rfl, trivial⟩, trivial, by simp [ren]⟩
  intro i ⟨i1, i2⟩
  by_cases hi : i < l.length
  · have cr' := c_smform l[i]! (hl i hi)
    (repeat' (first|refine stp ?_|with_reducible(refine brr ?_ ?_<;>intro h)));all_goals try(conv=>whnf)
    · refine callV_data cr' rfl ?_
      (repeat' (first|refine stp ?_|with_reducible(refine brr ?_ ?_<;>intro h)));all_goals try(conv=>whnf)
      · refine ⟨i + 1, ⟨⟨by omega, fun j hj => ?_⟩, by show l.length - (i + 1) < l.length - i; omega⟩, [0], [], [], [], ⟨trivial, trivial, trivial⟩, ⟨at_imm rfl rfl, at_int rfl (by omega), trivial⟩, trivial, by simp [ren]⟩
        rcases Nat.lt_or_eq_of_le (Nat.le_of_lt_succ hj) with hj | rfl
        · exact i2 j hj
        · exact dB_true.1 (by assumption)
      · exact givesV_to rfl (congrArg PV.bool (no fun e => by have := dB_true.2 (e.2 i hi); rw [h] at this; cases this))
    all_goals (exfalso; omega)
  · (repeat' (first|refine stp ?_|with_reducible(refine brr ?_ ?_<;>intro h)));all_goals try(conv=>whnf)
    all_goals try (exfalso; omega)
    exact givesV_to rfl (congrArg PV.bool (dB_yes ⟨hm, fun j hj => i2 j (by omega)⟩))
theorem ok_smpoint : FnOk Tryz.prog 10 Tryz.f10 (Tryz.f10.body.getD .skip) [.tmp 2] 19 := ⟨Tryz.func10, rfl, by decide, Tryz.ntmps10, Tryz.results10, by kernel_rfl, by kernel_rfl⟩
theorem c_smpoint (l : List RatL) (hl : okLs 2147483596 l) : Fn 10 [.imm (l.map encRat)] (.data (.bool (dB (smPt l)))) := by
  have no : ¬ smPt l → false = dB (smPt l) := dB_no
  have l1 := hl.1
  refine fnC_v hmix hT ok_smpoint (by simp) ?_
  (repeat' (first|refine stp ?_|with_reducible(refine brr ?_ ?_<;>intro h)));all_goals try(conv=>whnf)
  · exact givesV_to rfl (congrArg PV.bool (no fun e => by have := e.1; omega))
  have hm : l.length ≤ 8 := by omega
  refine loopV_slots hT (fun n : Nat => [(0, .imm (l.map encRat)), (3, .int .i64 n)]) (fun n => n ≤ l.length ∧ ∀ j, j < n → smR l[j]!) (fun n => l.length - n) 0 ⟨by omega, fun j hj => by omega⟩ ?_ ?_
  · exact ⟨at_imm rfl rfl, at_int rfl rfl, trivial⟩
  intro i ⟨i1, i2⟩
  by_cases hi : i < l.length
  · have cr' := c_smrat l[i]! (okLs_get hl hi)
    (repeat' (first|refine stp ?_|with_reducible(refine brr ?_ ?_<;>intro h)));all_goals try(conv=>whnf)
    · refine callV_data cr' rfl ?_
      (repeat' (first|refine stp ?_|with_reducible(refine brr ?_ ?_<;>intro h)));all_goals try(conv=>whnf)
      · exact ⟨i + 1, ⟨⟨by omega, fun j hj => lt_succ_cases (p := fun j => smR l[j]!) i2 (by assumption) hj⟩, by show l.length - (i + 1) < l.length - i; omega⟩, at_imm rfl rfl, at_int rfl rfl, trivial⟩
      · exact givesV_to rfl (congrArg PV.bool (no fun e => h (e.2 i hi)))
    all_goals (exfalso; omega)
  · (repeat' (first|refine stp ?_|with_reducible(refine brr ?_ ?_<;>intro h)));all_goals try(conv=>whnf)
    all_goals try (exfalso; omega)
    exact givesV_to rfl (congrArg PV.bool (dB_yes ⟨hm, fun j hj => i2 j (by omega)⟩))
theorem ok_smgraph : FnOk Tryz.prog 9 Tryz.f9 (Tryz.f9.body.getD .skip) [.tmp 2] 16 := ⟨Tryz.func9, rfl, by decide, Tryz.ntmps9, Tryz.results9, by kernel_rfl, by kernel_rfl⟩
theorem c_smgraph (g : GraL) (hg : okGra 2147483596 g) : Fn 9 [encGra g] (.data (.bool (dB (smG g)))) := by
  have no : ¬ smG g → false = dB (smG g) := dB_no
  have c1 := c_smforms g.units 5 (fun i hi => hg.1.2 _ (get_mem hi)) hg.1.1
  have c2 := c_smforms g.outs 3 (fun i hi => hg.2.2 _ (get_mem hi)) hg.2.1
  refine fnC_v hmix hT ok_smgraph (by simp [encGra]) ?_
  (repeat' (first|refine stp ?_|with_reducible(refine brr ?_ ?_<;>intro h)));all_goals try(conv=>whnf)
  · refine callV_data c1 rfl ?_
    (repeat' (first|refine stp ?_|with_reducible(refine brr ?_ ?_<;>intro h)));all_goals try(conv=>whnf)
    · refine callV_data c2 rfl ?_
      (repeat' (first|refine stp ?_|with_reducible(refine brr ?_ ?_<;>intro h)));all_goals try(conv=>whnf)
      refine givesV_to rfl (congrArg PV.bool ?_)
      have h1 : smFs g.units 5 := dB_true.1 (by assumption)
      have h0 : g.ins ≤ 4 := by omega
      rw [Bool.eq_iff_iff, dB_true, dB_true]
      exact ⟨fun e => ⟨h0, h1, e⟩, fun e => e.2.2⟩
    · exact givesV_to rfl (congrArg PV.bool (no fun e => by have := dB_true.2 e.2.1; rw [h] at this; cases this))
  · exact givesV_to rfl (congrArg PV.bool (no fun e => by have := e.1; omega))
theorem ok_sameints : FnOk Tryz.prog 13 Tryz.f13 (Tryz.f13.body.getD .skip) [.tmp 4] 26 := ⟨Tryz.func13, rfl, by decide, Tryz.ntmps13, Tryz.results13, by kernel_rfl, by kernel_rfl⟩
theorem c_sameints (a : List Int) (hl : a.length ≤ 1048576) : Fn 13 [ints a, ints a] (.data (.bool true)) := by
  refine fnC_v hmix hT ok_sameints (by simp) ?_
  (repeat' (first|refine stp ?_|with_reducible(refine brr ?_ ?_<;>intro h)));all_goals try(conv=>whnf)
  · exact absurd rfl h
  refine loopV_slots hT (fun n : Nat => [(0, ints a), (1, ints a), (5, .int .i64 n)]) (fun n => n ≤ a.length) (fun n => a.length - n) 0 (Nat.zero_le _) ?_ ?_
  · exact ⟨at_imm rfl rfl, at_imm rfl rfl, at_int rfl rfl, trivial⟩
  intro i i1
  by_cases hi : i < a.length
  · (repeat' (first|refine stp ?_|with_reducible(refine brr ?_ ?_<;>intro h)));all_goals try(conv=>whnf)
    all_goals try (exfalso; omega)
    all_goals try (exact absurd rfl (by assumption))
    exact ⟨i + 1, ⟨by omega, by show a.length - (i + 1) < a.length - i; omega⟩, at_imm rfl rfl, at_imm rfl rfl, at_int rfl rfl, trivial⟩
  · (repeat' (first|refine stp ?_|with_reducible(refine brr ?_ ?_<;>intro h)));all_goals try(conv=>whnf)
    all_goals try (exfalso; omega)
    exact givesV_to rfl rfl
theorem ok_sameform : FnOk Tryz.prog 40 Tryz.f40 (Tryz.f40.body.getD .skip) [.tmp 4] 57 := ⟨Tryz.func40, rfl, by decide, Tryz.ntmps40, Tryz.results40, by kernel_rfl, by kernel_rfl⟩
theorem c_sameform (f : QF) (k : Nat) (hf : szF k f) (hk : k ≤ 950000000) (hl : f.ts.length ≤ 1048576) : Fn 40 [encF f, encF f] (.data (.bool true)) := by
  have l0 := cr_len hf.1
  have c0 := c_rqcmp (cr f.c) (cr f.c) (okR_cr _) (okR_cr _) (by omega) (by omega) (by omega) (by omega)
  have self : ∀ q : Rat, sgnQ (qv (cr q) - qv (cr q)) = 0 := fun q => by rw [sgnQ_zero]; grind
  rw [self] at c0
  refine fnC_v hmix hT ok_sameform (by simp) ?_
  (repeat' (first|refine stp ?_|with_reducible(refine brr ?_ ?_<;>intro h)));all_goals try(conv=>whnf)
  · exact absurd rfl h
  refine callV_data c0 rfl ?_
  (repeat' (first|refine stp ?_|with_reducible(refine brr ?_ ?_<;>intro h)));all_goals try(conv=>whnf)
  refine loopV_kept hT (fun (i : Nat) => [(2, .ptr 0 0 0), (3, .ptr 1 0 0), (5, .int .i64 i)]) (fun _ => [(0, ⟨[encF f], 4, true⟩), (1, ⟨[encF f], 4, true⟩)]) [] 2
    (fun i => i ≤ f.ts.length) (fun i => f.ts.length - i) 0 (Nat.zero_le _) (by decide) (by simp) ?_ ?_
  · exact ⟨[_, _], [], [], [], ⟨trivial, trivial, trivial⟩, ⟨at_ptr (by decide) rfl, at_ptr (by decide) rfl, at_int rfl rfl, trivial⟩, ⟨blk_box (by decide) rfl rfl rfl rfl rfl, blk_box (by decide) rfl rfl rfl rfl rfl, trivial⟩, by simp [ren]⟩
  intro i i1
  by_cases hi : i < f.ts.length
  · have hp := hf.2 f.ts[i]! (by rw [getElem!_pos f.ts i hi]; exact List.getElem_mem hi)
    have l1 := cr_len hp
    have c1 := c_rqcmp (cr f.ts[i]!.2) (cr f.ts[i]!.2) (okR_cr _) (okR_cr _) (by omega) (by omega) (by omega) (by omega)
    rw [self] at c1
    (repeat' (first|refine stp ?_|with_reducible(refine brr ?_ ?_<;>intro h)));all_goals try(conv=>whnf)
    · exact absurd rfl h
    · refine callV_data c1 rfl ?_
      (repeat' (first|refine stp ?_|with_reducible(refine brr ?_ ?_<;>intro h)));all_goals try(conv=>whnf)
      exact ⟨i + 1, ⟨by omega, by show f.ts.length - (i + 1) < f.ts.length - i; omega⟩, [0, 1], [], [], [], ⟨trivial, trivial, trivial⟩, ⟨at_ptr (by decide) rfl, at_ptr (by decide) rfl, at_int rfl (by omega), trivial⟩, ⟨blk_box (by decide) rfl rfl rfl rfl rfl, blk_box (by decide) rfl rfl rfl rfl rfl, trivial⟩, by simp [ren]⟩
    all_goals (exfalso; omega)
  · (repeat' (first|refine stp ?_|with_reducible(refine brr ?_ ?_<;>intro h)));all_goals try(conv=>whnf)
    all_goals try (exfalso; omega)
    exact givesV_to rfl rfl
theorem ok_sameforms : FnOk Tryz.prog 16 Tryz.f16 (Tryz.f16.body.getD .skip) [.tmp 4] 27 := ⟨Tryz.func16, rfl, by decide, Tryz.ntmps16, Tryz.results16, by kernel_rfl, by kernel_rfl⟩
theorem c_sameforms (l : List QF) (k : Nat) (hf : ∀ f ∈ l, szF k f ∧ f.ts.length ≤ 1048576) (hk : k ≤ 950000000) (hl : l.length ≤ 1048576) : Fn 16 [.imm (l.map encF), .imm (l.map encF)] (.data (.bool true)) := by
  refine fnC_v hmix hT ok_sameforms (by simp) ?_
  (repeat' (first|refine stp ?_|with_reducible(refine brr ?_ ?_<;>intro h)));all_goals try(conv=>whnf)
  · exact absurd rfl h
  refine loopV_slots hT (fun n : Nat => [(0, .imm (l.map encF)), (1, .imm (l.map encF)), (5, .int .i64 n)]) (fun n => n ≤ l.length) (fun n => l.length - n) 0 (Nat.zero_le _) ?_ ?_
  · exact ⟨at_imm rfl rfl, at_imm rfl rfl, at_int rfl rfl, trivial⟩
  intro i i1
  by_cases hi : i < l.length
  · have hm := hf _ (get_mem hi)
    have cs := c_sameform l[i]! k hm.1 hk hm.2
    (repeat' (first|refine stp ?_|with_reducible(refine brr ?_ ?_<;>intro h)));all_goals try(conv=>whnf)
    all_goals try (exfalso; omega)
    refine callV_data cs rfl ?_
    (repeat' (first|refine stp ?_|with_reducible(refine brr ?_ ?_<;>intro h)));all_goals try(conv=>whnf)
    exact ⟨i + 1, ⟨by omega, by show l.length - (i + 1) < l.length - i; omega⟩, at_imm rfl rfl, at_imm rfl rfl, at_int rfl rfl, trivial⟩
  · (repeat' (first|refine stp ?_|with_reducible(refine brr ?_ ?_<;>intro h)));all_goals try(conv=>whnf)
    all_goals try (exfalso; omega)
    exact givesV_to rfl rfl
end Go.PI.Tryz
namespace Go.PI.Tryz
set_option linter.unnecessarySimpa false
open Go.Proofs Go.PI
set_option linter.unusedSimpArgs false
set_option linter.unusedVariables false
end Go.PI.Tryz
namespace Go.PI.Tryz
set_option linter.unnecessarySimpa false
open Go.Proofs Go.PI
set_option linter.unusedSimpArgs false
set_option linter.unusedVariables false
end Go.PI.Tryz
namespace Go.PI.Tryz
set_option linter.unnecessarySimpa false
open Go.Proofs Go.PI
set_option linter.unusedSimpArgs false
set_option linter.unusedVariables false
end Go.PI.Tryz
namespace Go.PI.Tryz
set_option linter.unnecessarySimpa false
open Go.Proofs Go.PI
set_option linter.unusedSimpArgs false
set_option linter.unusedVariables false
end Go.PI.Tryz
namespace Go.PI.Tryz
set_option linter.unnecessarySimpa false
open Go.Proofs Go.PI
set_option linter.unusedSimpArgs false
set_option linter.unusedVariables false
/-- Sizes of the values. -/
def szV (g : GraL) (x : List Rat) (k K : Nat) : Prop := (∀ j, j < g.units.length → (∀ q ∈ valsN g.us x j, sz K q) ∧ sz K (preL g.us x)[j]!) ∧ (∀ q ∈ valsN g.us x g.us.length, sz K q) ∧ (∀ f ∈ g.units, k + f.terms.length * (k + K + 1) + k + K ≤ 949999990) ∧ ∀ f ∈ g.outs, k + f.terms.length * (k + K + 1) + k + K ≤ 949999990
end Go.PI.Tryz
