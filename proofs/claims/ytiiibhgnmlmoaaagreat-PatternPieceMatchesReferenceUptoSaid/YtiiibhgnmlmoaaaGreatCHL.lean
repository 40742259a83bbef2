/-
  All that the laws of chapter 18 share.
-/
import Derived.Test.YtiiibhgnmlmoaaaGreatCHA
import Derived.Test.YtiiibhgnmlmoaaaGreatCPD
import Derived.Test.YtiiibhgnmlmoaaaGreatCGL
namespace Go.PI.Tryz
set_option linter.unnecessarySimpa false
open Go.Proofs Go.PI
set_option linter.unusedSimpArgs false
set_option linter.unusedVariables false
def fmT (fr : Int) (l : List Int) (i : Nat) : List QT := ((List.range i).filter fun j => decide (l[j]! ≠ 0)).map fun (j : Nat) => (fr + (j : Int), (l[j]! : Rat))
theorem fmT_nz {fr : Int} {l : List Int} {i : Nat} (h : l[i]! ≠ 0) : fmT fr l (i + 1) = fmT fr l i ++ [(fr + (i : Int), (l[i]! : Rat))] := by
  have e : ([i].filter fun j => decide (l[j]! ≠ 0)) = [i] := List.filter_cons_of_pos (decide_eq_true h)
  unfold fmT; rw [List.range_succ, List.filter_append, List.map_append, e]; rfl
theorem fmT_z {fr : Int} {l : List Int} {i : Nat} (h : l[i]! = 0) : fmT fr l (i + 1) = fmT fr l i := by
  have e : ([i].filter fun j => decide (l[j]! ≠ 0)) = [] := List.filter_cons_of_neg (fun e => of_decide_eq_true e h)
  unfold fmT; rw [List.range_succ, List.filter_append, List.map_append, e]; simp
theorem fmT_len (fr : Int) (l : List Int) (i : Nat) : (fmT fr l i).length ≤ i := by
  unfold fmT; rw [List.length_map]; exact Nat.le_trans (List.length_filter_le _ _) (by simp)
theorem ok_wform : FnOk Tryz.prog 28 Tryz.f28 (Tryz.f28.body.getD .skip) [.cell 6 49] 38 := ⟨Tryz.func28, rfl, by decide, Tryz.ntmps28, Tryz.results28, by kernel_rfl, by kernel_rfl⟩
theorem c_wform (c fr : Int) (l : List Int) (hc : c.natAbs < 1000) (hf : fr.natAbs < 1000) (hl : l.length < 1000) (hlv : ∀ i, i < l.length → (l[i]!).natAbs < 1000) : Fn 28 [.int .i64 c, .int .i64 fr, ints l] (.data (encF ⟨fmT fr l l.length, c⟩)) := by
  have cc := c_rqof c (by omega)
  refine fnC_v hmix hT ok_wform (by simp) ?_
  (repeat' (first|refine stp ?_|with_reducible(refine brr ?_ ?_<;>intro h)));all_goals try(conv=>whnf)
  refine callV_data cc rfl ?_
  (repeat' (first|refine stp ?_|with_reducible(refine brr ?_ ?_<;>intro h)));all_goals try(conv=>whnf)
  refine loopV_grow hT [(.cl 4 0 0, 4, true)] (fun (i : Nat) => [(1, .int .i64 fr), (2, ints l), (6, .ptr 0 0 0), (7, .ptr 1 0 0), (8, .int .i64 i)])
    (fun i => [(0, ⟨[.agg [.nilsl, .bool false, .nilsl, .nilsl]], 4, true⟩), (1, ⟨[.agg [.own 2 0 (fmT fr l i).length, .bool (cr c).neg, encN (cr c).num, encN (cr c).den]], 4, true⟩), (2, ⟨(fmT fr l i).map encQ, 4, true⟩)]) [] 3
    (fun i => i ≤ l.length) (fun i => l.length - i) 0 (Nat.zero_le _) (by decide) (by simp) ⟨_, _, rfl, rfl, rfl, trivial⟩ ?_ ?_
  · exact ⟨[_, _, _], [], [], [], ⟨trivial, trivial, trivial⟩, ⟨at_int rfl rfl, at_imm rfl rfl, at_ptr (by decide) rfl, at_ptr (by decide) rfl, at_int rfl rfl, trivial⟩,
      ⟨blk_box (by decide) rfl rfl rfl rfl rfl, blk_boxK (by decide) rfl ⟨⟨by decide, rfl⟩, rfl, rfl, rfl, trivial⟩ rfl rfl, blk_row (by decide) rfl rfl (rowB_nr _) rfl, trivial⟩, by simp [ren]⟩
  intro i i1
  have hfl := fmT_len fr l i
  by_cases hi : i < l.length
  · have hv := hlv i hi
    have ci := c_rqof l[i]! (by omega)
    (repeat' (first|refine stp ?_|with_reducible(refine brr ?_ ?_<;>intro h)));all_goals try(conv=>whnf)
    all_goals try (exfalso; omega)
    · have hnz := fmT_nz (fr := fr) (by assumption)
      refine callV_data ci rfl ?_
      (repeat' (first|refine stp ?_|with_reducible(refine brr ?_ ?_<;>intro h)));all_goals try(conv=>whnf)
      have hrow : (fmT fr l i).map encQ ++ [encQ (fr + (i : Int), (l[i]! : Rat))] = (fmT fr l (i + 1)).map encQ := by rw [hnz, List.map_append]; rfl
      have hlen : (fmT fr l i).length + 1 = (fmT fr l (i + 1)).length := by rw [hnz, List.length_append]; rfl
      exact ⟨i + 1, ⟨by omega, by show l.length - (i + 1) < l.length - i; omega⟩, [0, 1, _], [], [], [], ⟨trivial, trivial, trivial⟩, ⟨at_int rfl rfl, at_imm rfl rfl, at_ptr (by decide) rfl, at_ptr (by decide) rfl, at_int rfl rfl, trivial⟩,
        ⟨blk_box (by decide) rfl rfl rfl rfl rfl, blk_boxK (by decide) rfl (by rw [← hlen]; exact ⟨⟨by decide, rfl⟩, rfl, rfl, rfl, trivial⟩) rfl rfl, blk_row (by decide) rfl hrow (rowB_nr _) rfl, trivial⟩, by simp [ren]⟩
    · have hz := fmT_z (fr := fr) (show l[i]! = 0 by first | assumption | exact Decidable.not_not.1 (by assumption))
      exact ⟨i + 1, ⟨by omega, by show l.length - (i + 1) < l.length - i; omega⟩, [0, 1, _], [], [], [], ⟨trivial, trivial, trivial⟩, ⟨at_int rfl rfl, at_imm rfl rfl, at_ptr (by decide) rfl, at_ptr (by decide) rfl, at_int rfl rfl, trivial⟩,
        ⟨blk_box (by decide) rfl rfl rfl rfl rfl, blk_boxK (by decide) rfl (by rw [hz]; exact ⟨⟨by decide, rfl⟩, rfl, rfl, rfl, trivial⟩) rfl rfl, blk_row (by decide) rfl (by rw [hz]) (rowB_nr _) rfl, trivial⟩, by simp [ren]⟩
  · have e : i = l.length := by omega
    (repeat' (first|refine stp ?_|with_reducible(refine brr ?_ ?_<;>intro h)));all_goals try(conv=>whnf)
    all_goals try (exfalso; omega)
    subst e
    exact givesV_to (frz_aggL (mapF_cons (frz_own_map rfl rfl rfl frz_encQ) (mapF_cons rfl (mapF_cons rfl (mapF_cons rfl rfl))))) rfl
theorem ok_evald : FnOk Tryz.prog 24 Tryz.f24 (Tryz.f24.body.getD .skip) [.tmp 6] 41 := ⟨Tryz.func24, rfl, by decide, Tryz.ntmps24, Tryz.results24, by kernel_rfl, by kernel_rfl⟩
theorem c_evald (l : List QF) (x vs : List Rat) (k kx K : Nat) (hf : ∀ f ∈ l, szF k f) (hx : ∀ q ∈ x, sz kx q) (ho : ∀ f ∈ l, okF x.length f ∧ f.ts.length ≤ 1000) (hk : k + 1000 * (k + kx + 1) + k + kx ≤ 949999990) (hK : ∀ q ∈ vs, sz K q) (hKb : K ≤ 949999990) (hxl : x.length ≤ 1048576) (hl : l.length ≤ 1048576) (hlen : l.length = vs.length) (hev : ∀ i, i < l.length → evQ l[i]! x = vs[i]!) : Fn 24 [.imm (l.map encF), .imm (x.map encX), .imm (vs.map encX)] (.data (.bool true)) := by
  refine fnC_v hmix hT ok_evald (by simp) ?_
  (repeat' (first|refine stp ?_|with_reducible(refine brr ?_ ?_<;>intro h)));all_goals try(conv=>whnf)
  · exfalso; omega
  refine loopV_slots hT (fun n : Nat => [(0, .imm (l.map encF)), (1, .imm (x.map encX)), (2, .imm (vs.map encX)), (7, .int .i64 n)]) (fun n => n ≤ l.length) (fun n => l.length - n) 0 (Nat.zero_le _) ?_ ?_
  · exact ⟨at_imm rfl rfl, at_imm rfl rfl, at_imm rfl rfl, at_int rfl rfl, trivial⟩
  intro i i1
  by_cases hi : i < l.length
  · have hm := get_mem hi
    have h2 := (ho _ hm).2
    have hmul : l[i]!.ts.length * (k + kx + 1) ≤ 1000 * (k + kx + 1) := Nat.mul_le_mul_right _ h2
    have ce := c_rleval l[i]! x k kx (hf _ hm) hx (ho _ hm).1.2 (by omega) (by omega) hxl
    rw [hev i hi] at ce
    have hq := cr_len (hK vs[i]! (get_mem (by omega)))
    have cm := c_rqcmp (cr vs[i]!) (cr vs[i]!) (okR_cr _) (okR_cr _) (by omega) (by omega) (by omega) (by omega)
    rw [show sgnQ (qv (cr vs[i]!) - qv (cr vs[i]!)) = 0 by rw [sgnQ_zero]; grind] at cm
    (repeat' (first|refine stp ?_|with_reducible(refine brr ?_ ?_<;>intro h)));all_goals try(conv=>whnf)
    all_goals try (exfalso; omega)
    refine callV_data ce rfl ?_
    (repeat' (first|refine stp ?_|with_reducible(refine brr ?_ ?_<;>intro h)));all_goals try(conv=>whnf)
    all_goals try (exfalso; omega)
    refine callV_data cm rfl ?_
    (repeat' (first|refine stp ?_|with_reducible(refine brr ?_ ?_<;>intro h)));all_goals try(conv=>whnf)
    exact ⟨i + 1, ⟨by omega, by show l.length - (i + 1) < l.length - i; omega⟩, at_imm rfl rfl, at_imm rfl rfl, at_imm rfl rfl, at_int rfl rfl, trivial⟩
  · (repeat' (first|refine stp ?_|with_reducible(refine brr ?_ ?_<;>intro h)));all_goals try(conv=>whnf)
    all_goals try (exfalso; omega)
    exact givesV_to rfl rfl
end Go.PI.Tryz
namespace Go.PI.Tryz
set_option linter.unnecessarySimpa false
open Go.Proofs Go.PI
set_option linter.unusedSimpArgs false
set_option linter.unusedVariables false
theorem szG_of {g : GraL} {p : List Int} {n K : Nat} (hg : okGra K g) (hs : smG g) (hv : VaG g) (hin : g.ins = (n : Int)) : szG g p n 2 (kap n) := fun j hj => by
  have hu := smU_of hg hs hv hin
  have lu : j ≤ (g.units.map AffL.Q).length := by rw [List.length_map]; exact hj
  exact ⟨frm_ok hu j lu, by have := frm_sum hu lu; omega⟩
theorem szV_of {g : GraL} {x : List Rat} {n K : Nat} (hg : okGra K g) (hs : smG g) (hv : VaG g) (hin : g.ins = (n : Int)) (hx : x.length = n) (hq : ∀ q ∈ x, sz 2 q) : szV g x 2 1280 := by
  have hu := smU_of hg hs hv hin
  have lu : (g.units.map AffL.Q).length = g.units.length := by rw [List.length_map]
  refine ⟨fun j hj => ⟨vals_K hu hx hq (by omega), pre_K hu hx hq (by omega)⟩, vals_K hu hx hq (Nat.le_refl _), fun f hf => ?_, fun f hf => ?_⟩
  · have := Nat.mul_le_mul_right (2 + 1280 + 1) (smFs_len hs.2.1 f hf); omega
  · have := Nat.mul_le_mul_right (2 + 1280 + 1) (smFs_len hs.2.2 f hf); omega
theorem c_wformE (c fr : Int) (l : List Int) (q : QF) (hq : eqQF ⟨fmT fr l l.length, c⟩ q = true) (hc : c.natAbs < 1000) (hf : fr.natAbs < 1000) (hl : l.length < 1000) (hlv : ∀ i, i < l.length → (l[i]!).natAbs < 1000) : Fn 28 [.int .i64 c, .int .i64 fr, ints l] (.data (encF q)) := by
  have := c_wform c fr l hc hf hl hlv
  rwa [eqQF_of hq] at this
theorem ok_example18 : FnOk Tryz.prog 26 Tryz.f26 (Tryz.f26.body.getD .skip) [.cell 0 24] 10 := ⟨Tryz.func26, rfl, by decide, Tryz.ntmps26, Tryz.results26, by kernel_rfl, by kernel_rfl⟩
theorem c_example18 : Fn 26 [] (.data (encGra G18)) := by
  have c1 := c_wformE 0 0 [1] E1 (by decide +kernel) (by decide) (by decide) (by decide) (by decide)
  have c2 := c_wformE 1 0 [-1] E2 (by decide +kernel) (by decide) (by decide) (by decide) (by decide)
  have c3 := c_wformE 0 1 [2, 1] E3 (by decide +kernel) (by decide) (by decide) (by decide) (by decide)
  rw [encF_eq] at c1
  rw [encF_eq] at c2
  rw [encF_eq] at c3
  refine fnC_v hmix hT ok_example18 (by simp) ?_
  (repeat' (first|refine stp ?_|with_reducible(refine brr ?_ ?_<;>intro h)));all_goals try(conv=>whnf)
  refine callV_data c1 rfl ?_
  (repeat' (first|refine stp ?_|with_reducible(refine brr ?_ ?_<;>intro h)));all_goals try(conv=>whnf)
  refine callV_data c2 rfl ?_
  (repeat' (first|refine stp ?_|with_reducible(refine brr ?_ ?_<;>intro h)));all_goals try(conv=>whnf)
  refine callV_data c3 rfl ?_
  (repeat' (first|refine stp ?_|with_reducible(refine brr ?_ ?_<;>intro h)));all_goals try(conv=>whnf)
  exact givesV_to rfl rfl
theorem ofL_get {pre : List Rat} {i : Nat} (h : i < pre.length) : (ofL pre)[i]! = phase pre[i]! := by
  unfold ofL offI; rw [get_range h, if_pos h]
theorem ofL_len (pre : List Rat) : (ofL pre).length = pre.length := offI_len _ _
theorem of18 : ofL [1, 0] = [1, 0] := by decide +kernel
theorem ok_awake18 : FnOk Tryz.prog 8 Tryz.f8 (Tryz.f8.body.getD .skip) [.tmp 0] 69 := ⟨Tryz.func8, rfl, by decide, Tryz.ntmps8, Tryz.results8, by kernel_rfl, by kernel_rfl⟩
theorem c_awake18 : Fn 8 [] (.data (.bool true)) := by
  have co := c_rqof 1 (by decide)
  have l1 : ([cr ((1 : Int) : Rat)] : List RatL).map qv = [1] := by simp only [List.map_cons, List.map_nil, qv_cr]; rfl
  have hu18 : G18.us = [E1, E2] := us18
  have hsv : szV G18 ([cr ((1 : Int) : Rat)].map qv) 2 1280 := szV_of ok18 sm18 va18 (n := 1) rfl (by rw [l1]; rfl) (by rw [l1]; intro q hq; rw [List.mem_singleton.1 hq]; exact sz1 1 (by decide))
  have cp := c_pof G18 [cr ((1 : Int) : Rat)] 2 1280 ok18 (by decide) (by decide) (by decide) va18 ⟨by decide, fun y hy => by rw [List.mem_singleton.1 hy]; exact okQ_le (show 2 ≤ 950000000 by decide) (okQ_cr (sz1 1 (by decide)))⟩ rfl hsv.1 hsv.2.2.1 (by decide)
  rw [hu18, l1, pre18, of18] at cp
  have hcom : comP G18 [1, 2] := ⟨va18, rfl, fun i hi => by
    have : i = 0 ∨ i = 1 := by simp only [List.length_cons, List.length_nil] at hi; omega
    rcases this with rfl | rfl
    · exact Or.inl rfl
    · exact Or.inr rfl⟩
  have hsg : szG G18 [1, 2] 1 2 (kap 1) := szG_of ok18 sm18 va18 rfl
  have cf := c_pFormsX G18 [1, 2] 1 2 (kap 1) ok18 (by decide) (by decide) hcom (by decide) rfl hsg
  have hout : outQ G18 1 [1, 2] = [E4] := by
    unfold outQ
    rw [hu18, show ([E1, E2] : List QF).length = 2 from rfl, frm18]
    unfold G18
    simp only [List.map_cons, List.map_nil, Q_L, out18]
  rw [hout, hu18, show ([E1, E2] : List QF).length = 2 from rfl, frm18] at cf
  have ch := c_ppiece G18 [1, 2] 1 2 (kap 1) ok18 (by decide) (by decide) hcom (by decide) rfl hsg
  have hpie : pieL G18.us 1 [1, 2] = [E1, E5] := by
    rw [hu18]
    show [rowG [E1, E2] 1 [1, 2] 0, rowG [E1, E2] 1 [1, 2] 1] = _
    rw [row18a, row18b]
  rw [hpie] at ch
  have c1 := c_wformE 0 0 [1] E1 (by decide +kernel) (by decide) (by decide) (by decide) (by decide)
  have c4 := c_wformE 0 0 [2] E4 (by decide +kernel) (by decide) (by decide) (by decide) (by decide)
  have c5 := c_wformE (-1) 0 [1] E5 (by decide +kernel) (by decide) (by decide) (by decide) (by decide)
  have s0 := c_sameints [1, 0] (by decide)
  have z : szF 2 zeroQ ∧ zeroQ.ts.length ≤ 1048576 := ⟨szF_zero 2 (by decide), by decide⟩
  have e1 : szF 2 E1 ∧ E1.ts.length ≤ 1048576 := ⟨sE1, by decide⟩
  have s1 := c_sameforms [E1, E1, zeroQ] 2 (by simp only [List.mem_cons, List.not_mem_nil, or_false]; rintro f (rfl | rfl | rfl) <;> assumption) (by decide) (by decide)
  have s2 := c_sameforms [E4] 2 (by simp only [List.mem_cons, List.not_mem_nil, or_false]; rintro f rfl; exact ⟨sE4, by decide⟩) (by decide) (by decide)
  have s3 := c_sameforms [E1, E5] 2 (by simp only [List.mem_cons, List.not_mem_nil, or_false]; rintro f (rfl | rfl); exact e1; exact ⟨sE5, by decide⟩) (by decide) (by decide)
  refine fnC_v hmix hT ok_awake18 (by simp) ?_
  (repeat' (first|refine stp ?_|with_reducible(refine brr ?_ ?_<;>intro h)));all_goals try(conv=>whnf)
  refine callV_data c_example18 rfl ?_
  (repeat' (first|refine stp ?_|with_reducible(refine brr ?_ ?_<;>intro h)));all_goals try(conv=>whnf)
  refine callV_data co rfl ?_
  (repeat' (first|refine stp ?_|with_reducible(refine brr ?_ ?_<;>intro h)));all_goals try(conv=>whnf)
  refine callV_data cp rfl ?_
  (repeat' (first|refine stp ?_|with_reducible(refine brr ?_ ?_<;>intro h)));all_goals try(conv=>whnf)
  refine callV_data c_example18 rfl ?_
  (repeat' (first|refine stp ?_|with_reducible(refine brr ?_ ?_<;>intro h)));all_goals try(conv=>whnf)
  refine callV_data cf rfl ?_
  (repeat' (first|refine stp ?_|with_reducible(refine brr ?_ ?_<;>intro h)));all_goals try(conv=>whnf)
  refine callV_data c_example18 rfl ?_
  (repeat' (first|refine stp ?_|with_reducible(refine brr ?_ ?_<;>intro h)));all_goals try(conv=>whnf)
  refine callV_data ch rfl ?_
  (repeat' (first|refine stp ?_|with_reducible(refine brr ?_ ?_<;>intro h)));all_goals try(conv=>whnf)
  refine callV_data c1 rfl ?_
  (repeat' (first|refine stp ?_|with_reducible(refine brr ?_ ?_<;>intro h)));all_goals try(conv=>whnf)
  refine callV_data s0 rfl ?_
  (repeat' (first|refine stp ?_|with_reducible(refine brr ?_ ?_<;>intro h)));all_goals try(conv=>whnf)
  refine callV_data s1 rfl ?_
  (repeat' (first|refine stp ?_|with_reducible(refine brr ?_ ?_<;>intro h)));all_goals try(conv=>whnf)
  refine callV_data c4 rfl ?_
  (repeat' (first|refine stp ?_|with_reducible(refine brr ?_ ?_<;>intro h)));all_goals try(conv=>whnf)
  refine callV_data s2 rfl ?_
  (repeat' (first|refine stp ?_|with_reducible(refine brr ?_ ?_<;>intro h)));all_goals try(conv=>whnf)
  refine callV_data c5 rfl ?_
  (repeat' (first|refine stp ?_|with_reducible(refine brr ?_ ?_<;>intro h)));all_goals try(conv=>whnf)
  refine callV_data s3 rfl ?_
  (repeat' (first|refine stp ?_|with_reducible(refine brr ?_ ?_<;>intro h)));all_goals try(conv=>whnf)
  exact givesV_to rfl rfl
end Go.PI.Tryz
namespace Go.PI.Tryz
set_option linter.unnecessarySimpa false
open Go.Proofs Go.PI
set_option linter.unusedSimpArgs false
set_option linter.unusedVariables false
theorem szR_of {g : GraL} {p : List Int} {n K : Nat} (hg : okGra K g) (hs : smG g) (hv : VaG g) (hin : g.ins = (n : Int)) : szR g p n 2 (kap n) := fun j hj => by
  have hu := smU_of hg hs hv hin
  have lu : j ≤ (g.units.map AffL.Q).length := by rw [List.length_map]; exact hj
  exact ⟨frm_ok hu j lu, by have := frm_sum hu lu; omega⟩
theorem ok_lawOf : FnOk Tryz.prog 3 Tryz.f3 (Tryz.f3.body.getD .skip) [.tmp 4] 39 := ⟨Tryz.func3, rfl, by decide, Tryz.ntmps3, Tryz.results3, by kernel_rfl, by kernel_rfl⟩
theorem c_patternOfMatchesReference (g : GraL) (x : List RatL) (hg : okGra 1048576 g) (hx : okLs 1048576 x) : Fn 3 [encGra g, .imm (x.map encRat)] (.data (.bool true)) := by
  have cg := c_smgraph g (okGra_le (by decide) hg)
  have cx := c_smpoint x (okLs_le (by decide) hx)
  by_cases hs : smG g
  · rw [dB_true.2 hs] at cg
    by_cases hp : smPt x
    · rw [dB_true.2 hp] at cx
      by_cases ha : VaG g ∧ (x.length : Int) = g.ins
      · obtain ⟨hv, hl⟩ := ha
        have h2 := smG_ok hg hs
        have hsv : szV g (x.map qv) 2 1280 := szV_of hg hs hv hl.symm (by rw [List.length_map]) (smPt_sz hx hp)
        have c1 := c_pof g x 2 1280 h2 (by decide) (by decide) (by decide) hv (okLs_le (by decide) hx) hl hsv.1 hsv.2.2.1 (by decide)
        have c2 := c_rof18 g x 2 1280 h2 (by decide) (by decide) (by decide) (by decide) hv (okLs_le (by decide) hx) hl hsv
        have hpl : (ofL (preL g.us (x.map qv))).length ≤ 1048576 := by rw [ofL_len, preL_len, us_len]; exact hg.1.1
        have c3 := c_sameints _ hpl
        refine fnC_v hmix hT ok_lawOf (by simp [encGra]) ?_
        (repeat' (first|refine stp ?_|with_reducible(refine brr ?_ ?_<;>intro h)));all_goals try(conv=>whnf)
        refine callV_data c_awake18 rfl ?_
        (repeat' (first|refine stp ?_|with_reducible(refine brr ?_ ?_<;>intro h)));all_goals try(conv=>whnf)
        refine callV_data cg rfl ?_
        (repeat' (first|refine stp ?_|with_reducible(refine brr ?_ ?_<;>intro h)));all_goals try(conv=>whnf)
        refine callV_data cx rfl ?_
        (repeat' (first|refine stp ?_|with_reducible(refine brr ?_ ?_<;>intro h)));all_goals try(conv=>whnf)
        refine callV_data c1 rfl ?_
        (repeat' (first|refine stp ?_|with_reducible(refine brr ?_ ?_<;>intro h)));all_goals try(conv=>whnf)
        refine callV_data c2 rfl ?_
        (repeat' (first|refine stp ?_|with_reducible(refine brr ?_ ?_<;>intro h)));all_goals try(conv=>whnf)
        refine callV_data c3 rfl ?_
        (repeat' (first|refine stp ?_|with_reducible(refine brr ?_ ?_<;>intro h)));all_goals try(conv=>whnf)
        exact givesV_to rfl rfl
      · have c1 := c_pofN g x (okGra_le (by decide) hg) hx.1 ha
        have c2 := c_rof18N g x (okGra_le (by decide) hg) hx.1 ha
        have c3 := c_sameints [] (by decide)
        refine fnC_v hmix hT ok_lawOf (by simp [encGra]) ?_
        (repeat' (first|refine stp ?_|with_reducible(refine brr ?_ ?_<;>intro h)));all_goals try(conv=>whnf)
        refine callV_data c_awake18 rfl ?_
        (repeat' (first|refine stp ?_|with_reducible(refine brr ?_ ?_<;>intro h)));all_goals try(conv=>whnf)
        refine callV_data cg rfl ?_
        (repeat' (first|refine stp ?_|with_reducible(refine brr ?_ ?_<;>intro h)));all_goals try(conv=>whnf)
        refine callV_data cx rfl ?_
        (repeat' (first|refine stp ?_|with_reducible(refine brr ?_ ?_<;>intro h)));all_goals try(conv=>whnf)
        refine callV_data c1 rfl ?_
        (repeat' (first|refine stp ?_|with_reducible(refine brr ?_ ?_<;>intro h)));all_goals try(conv=>whnf)
        refine callV_data c2 rfl ?_
        (repeat' (first|refine stp ?_|with_reducible(refine brr ?_ ?_<;>intro h)));all_goals try(conv=>whnf)
        refine callV_data c3 rfl ?_
        (repeat' (first|refine stp ?_|with_reducible(refine brr ?_ ?_<;>intro h)));all_goals try(conv=>whnf)
        exact givesV_to rfl rfl
    · rw [dB_false.2 hp] at cx
      refine fnC_v hmix hT ok_lawOf (by simp [encGra]) ?_
      (repeat' (first|refine stp ?_|with_reducible(refine brr ?_ ?_<;>intro h)));all_goals try(conv=>whnf)
      refine callV_data c_awake18 rfl ?_
      (repeat' (first|refine stp ?_|with_reducible(refine brr ?_ ?_<;>intro h)));all_goals try(conv=>whnf)
      refine callV_data cg rfl ?_
      (repeat' (first|refine stp ?_|with_reducible(refine brr ?_ ?_<;>intro h)));all_goals try(conv=>whnf)
      refine callV_data cx rfl ?_
      (repeat' (first|refine stp ?_|with_reducible(refine brr ?_ ?_<;>intro h)));all_goals try(conv=>whnf)
      exact givesV_to rfl rfl
  · rw [dB_false.2 hs] at cg
    refine fnC_v hmix hT ok_lawOf (by simp [encGra]) ?_
    (repeat' (first|refine stp ?_|with_reducible(refine brr ?_ ?_<;>intro h)));all_goals try(conv=>whnf)
    refine callV_data c_awake18 rfl ?_
    (repeat' (first|refine stp ?_|with_reducible(refine brr ?_ ?_<;>intro h)));all_goals try(conv=>whnf)
    refine callV_data cg rfl ?_
    (repeat' (first|refine stp ?_|with_reducible(refine brr ?_ ?_<;>intro h)));all_goals try(conv=>whnf)
    exact givesV_to rfl rfl
theorem frm_all {g : GraL} {p : List Int} {n K : Nat} (hg : okGra K g) (hs : smG g) (hv : VaG g) (hin : g.ins = (n : Int)) : ∀ f ∈ frmN g.us n p g.us.length, okF n f ∧ szF 1280 f ∧ f.ts.length ≤ 8 := fun f hf => by
  have hu := smU_of hg hs hv hin
  obtain ⟨i, hi, rfl⟩ := List.getElem_of_mem hf
  have h1 := frm_ok (p := p) hu g.us.length (Nat.le_refl _) i hi
  have hl := frmN_len g.us n p g.us.length
  have h5 := hu.2.1
  have h6 := hu.1
  have e : (g.units.map AffL.Q) = g.us := rfl
  rw [e, getElem!_pos _ i hi] at h1
  rw [e] at h5
  exact ⟨h1.1, szF_le (kap_le (by omega)) h1.2.1, by have := h1.2.2; omega⟩
theorem apl_all {g : GraL} {p : List Int} {n K : Nat} (hg : okGra K g) (hs : smG g) (hv : VaG g) (hin : g.ins = (n : Int)) {j : Nat} (hj : j ≤ g.us.length) {F : QF} (hF : szF 2 F) (ho : okF (n + j : Nat) F) : okF n (applyQ F (frmN g.us n p j)) ∧ szF 1280 (applyQ F (frmN g.us n p j)) ∧ (applyQ F (frmN g.us n p j)).ts.length ≤ 8 := by
  have hu := smU_of hg hs hv hin
  have h1 := frm_ok (p := p) hu j hj
  have hl := frmN_len g.us n p j
  have h6 := hu.1
  have e : (g.units.map AffL.Q) = g.us := rfl
  rw [e] at h1
  obtain ⟨a, b, c⟩ := apply_ok h1 hF (by rw [hl]; exact ho)
  rw [hl] at b
  have h7 := frm_sum (us := g.us) hu hj
  exact ⟨a, szF_le h7 b, by omega⟩
theorem out_all {g : GraL} {p : List Int} {n K : Nat} (hg : okGra K g) (hs : smG g) (hv : VaG g) (hin : g.ins = (n : Int)) : ∀ f ∈ outQ g n p, okF n f ∧ szF 1280 f ∧ f.ts.length ≤ 8 := fun f hf => by
  obtain ⟨F, hF, rfl⟩ := List.mem_map.1 hf
  obtain ⟨i, hi, rfl⟩ := List.getElem_of_mem hF
  have h1 := hv.2.2.2.2 i hi
  rw [getElem!_pos _ i hi] at h1
  have h2 := okF_of h1
  have h3 := hs.2.2.2 i hi
  rw [getElem!_pos _ i hi] at h3
  have lu := us_len g
  rw [hin, show ((n : Int) + (g.units.length : Int)) = ((n + g.us.length : Nat) : Int) by omega] at h2
  exact apl_all hg hs hv hin (Nat.le_refl _) (szF_of (hg.2.2 _ hF) h3).1 h2
theorem pie_get {us : List QF} {n : Nat} {p : List Int} {j : Nat} (h : j < us.length) : (pieL us n p)[j]! = rowG us n p j := by
  unfold pieL pieI; rw [get_range h, if_pos h]
theorem pie_all {g : GraL} {p : List Int} {n K : Nat} (hg : okGra K g) (hs : smG g) (hv : VaG g) (hin : g.ins = (n : Int)) : ∀ f ∈ pieL g.us n p, okF n f ∧ szF 1290 f ∧ f.ts.length ≤ 8 := fun f hf => by
  obtain ⟨i, hi, rfl⟩ := List.getElem_of_mem hf
  have hl : (pieL g.us n p).length = g.us.length := pieI_len _ _ _ _
  have lu := us_len g
  have hu := smU_of hg hs hv hin
  have h6 := hu.1
  have hi2 : i < g.us.length := by omega
  have h3 := hu.2.2 i hi2
  have ha := apl_all (p := p) hg hs hv hin (Nat.le_of_lt hi2) h3.1 h3.2
  have e : (g.units.map AffL.Q) = g.us := rfl
  rw [e] at ha
  have hr := pie_get (us := g.us) (n := n) (p := p) hi2
  rw [getElem!_pos _ i hi] at hr
  rw [hr]
  unfold rowG
  split
  · have z := zero_ok ha.1 (-1)
    refine ⟨z.1, szF_le ?_ (mergeQ_sz (szF_zero 1 (by decide)) ha.2.1 (sz_int (z := -1) (by decide)) (Nat.le_refl _)), by omega⟩
    omega
  · exact ⟨ha.1, szF_le (by omega) ha.2.1, ha.2.2⟩
end Go.PI.Tryz
namespace Go.PI.Tryz
set_option linter.unnecessarySimpa false
open Go.Proofs Go.PI
set_option linter.unusedSimpArgs false
set_option linter.unusedVariables false
theorem ok_lawForms : FnOk Tryz.prog 4 Tryz.f4 (Tryz.f4.body.getD .skip) [.tmp 4] 48 := ⟨Tryz.func4, rfl, by decide, Tryz.ntmps4, Tryz.results4, by kernel_rfl, by kernel_rfl⟩
theorem c_patternFormsMatchReference (g : GraL) (p : List Int) (hg : okGra 1048576 g) (hp : p.length ≤ 1048576) : Fn 4 [encGra g, ints p] (.data (.bool true)) := by
  have cg := c_smgraph g (okGra_le (by decide) hg)
  by_cases hs : smG g
  · rw [dB_true.2 hs] at cg
    by_cases hc : comP g p
    · have hv := hc.1
      obtain ⟨n, hin⟩ : ∃ n : Nat, g.ins = n := ⟨g.ins.toNat, by have := hv.1; omega⟩
      have h2 := smG_ok hg hs
      have c1 := c_pFormsX g p n 2 (kap n) h2 (by decide) (by decide) hc hp hin (szG_of hg hs hv hin)
      have c2 := c_rforms18 g p n 2 (kap n) h2 (by decide) (by decide) hc hp hin (szR_of hg hs hv hin)
      have lf := frmN_len g.us n p g.us.length
      have lu := us_len g
      have hu := smU_of hg hs hv hin
      have l5 := hu.1
      have l6 := hs.2.1.1
      have l7 := hs.2.2.1
      have c3 := c_sameforms _ 1280 (fun f hf => by have := frm_all (p := p) hg hs hv hin f hf; exact ⟨this.2.1, by omega⟩) (by decide) (by omega : (frmN g.us n p g.us.length).length ≤ 1048576)
      have c4 := c_sameforms _ 1280 (fun f hf => by have := out_all (p := p) hg hs hv hin f hf; exact ⟨this.2.1, by omega⟩) (by decide) (by unfold outQ; rw [List.length_map]; omega : (outQ g n p).length ≤ 1048576)
      refine fnC_v hmix hT ok_lawForms (by simp [encGra]) ?_
      (repeat' (first|refine stp ?_|with_reducible(refine brr ?_ ?_<;>intro h)));all_goals try(conv=>whnf)
      refine callV_data c_awake18 rfl ?_
      (repeat' (first|refine stp ?_|with_reducible(refine brr ?_ ?_<;>intro h)));all_goals try(conv=>whnf)
      refine callV_data cg rfl ?_
      (repeat' (first|refine stp ?_|with_reducible(refine brr ?_ ?_<;>intro h)));all_goals try(conv=>whnf)
      · exact givesV_to rfl rfl
      refine callV_data c1 rfl ?_
      (repeat' (first|refine stp ?_|with_reducible(refine brr ?_ ?_<;>intro h)));all_goals try(conv=>whnf)
      refine callV_data c2 rfl ?_
      (repeat' (first|refine stp ?_|with_reducible(refine brr ?_ ?_<;>intro h)));all_goals try(conv=>whnf)
      refine callV_data c3 rfl ?_
      (repeat' (first|refine stp ?_|with_reducible(refine brr ?_ ?_<;>intro h)));all_goals try(conv=>whnf)
      refine callV_data c4 rfl ?_
      (repeat' (first|refine stp ?_|with_reducible(refine brr ?_ ?_<;>intro h)));all_goals try(conv=>whnf)
      exact givesV_to rfl rfl
    · have c1 := c_pFormsN g p (okGra_le (by decide) hg) hp hc
      have c2 := c_rforms18N g p (okGra_le (by decide) hg) hp hc
      have c3 := c_sameforms [] 1 (fun f hf => by cases hf) (by decide) (by decide)
      refine fnC_v hmix hT ok_lawForms (by simp [encGra]) ?_
      (repeat' (first|refine stp ?_|with_reducible(refine brr ?_ ?_<;>intro h)));all_goals try(conv=>whnf)
      refine callV_data c_awake18 rfl ?_
      (repeat' (first|refine stp ?_|with_reducible(refine brr ?_ ?_<;>intro h)));all_goals try(conv=>whnf)
      refine callV_data cg rfl ?_
      (repeat' (first|refine stp ?_|with_reducible(refine brr ?_ ?_<;>intro h)));all_goals try(conv=>whnf)
      · exact givesV_to rfl rfl
      refine callV_data c1 rfl ?_
      (repeat' (first|refine stp ?_|with_reducible(refine brr ?_ ?_<;>intro h)));all_goals try(conv=>whnf)
      refine callV_data c2 rfl ?_
      (repeat' (first|refine stp ?_|with_reducible(refine brr ?_ ?_<;>intro h)));all_goals try(conv=>whnf)
      refine callV_data c3 rfl ?_
      (repeat' (first|refine stp ?_|with_reducible(refine brr ?_ ?_<;>intro h)));all_goals try(conv=>whnf)
      refine callV_data c3 rfl ?_
      (repeat' (first|refine stp ?_|with_reducible(refine brr ?_ ?_<;>intro h)));all_goals try(conv=>whnf)
      exact givesV_to rfl rfl
  · rw [dB_false.2 hs] at cg
    refine fnC_v hmix hT ok_lawForms (by simp [encGra]) ?_
    (repeat' (first|refine stp ?_|with_reducible(refine brr ?_ ?_<;>intro h)));all_goals try(conv=>whnf)
    refine callV_data c_awake18 rfl ?_
    (repeat' (first|refine stp ?_|with_reducible(refine brr ?_ ?_<;>intro h)));all_goals try(conv=>whnf)
    refine callV_data cg rfl ?_
    (repeat' (first|refine stp ?_|with_reducible(refine brr ?_ ?_<;>intro h)));all_goals try(conv=>whnf)
    exact givesV_to rfl rfl
theorem ok_lawPiece : FnOk Tryz.prog 5 Tryz.f5 (Tryz.f5.body.getD .skip) [.tmp 4] 39 := ⟨Tryz.func5, rfl, by decide, Tryz.ntmps5, Tryz.results5, by kernel_rfl, by kernel_rfl⟩
theorem c_patternPieceMatchesReference (g : GraL) (p : List Int) (hg : okGra 1048576 g) (hp : p.length ≤ 1048576) : Fn 5 [encGra g, ints p] (.data (.bool true)) := by
  have cg := c_smgraph g (okGra_le (by decide) hg)
  by_cases hs : smG g
  · rw [dB_true.2 hs] at cg
    by_cases hc : comP g p
    · have hv := hc.1
      obtain ⟨n, hin⟩ : ∃ n : Nat, g.ins = n := ⟨g.ins.toNat, by have := hv.1; omega⟩
      have h2 := smG_ok hg hs
      have c1 := c_ppiece g p n 2 (kap n) h2 (by decide) (by decide) hc hp hin (szG_of hg hs hv hin)
      have c2 := c_rpiece18 g p n 2 (kap n) h2 (by decide) (by decide) hc hp hin (szR_of hg hs hv hin)
      have lu := us_len g
      have l6 := hs.2.1.1
      have hpl : (pieL g.us n p).length = g.us.length := pieI_len _ _ _ _
      have c3 := c_sameforms _ 1290 (fun f hf => by have := pie_all (p := p) hg hs hv hin f hf; exact ⟨this.2.1, by omega⟩) (by decide) (by omega : (pieL g.us n p).length ≤ 1048576)
      refine fnC_v hmix hT ok_lawPiece (by simp [encGra]) ?_
      (repeat' (first|refine stp ?_|with_reducible(refine brr ?_ ?_<;>intro h)));all_goals try(conv=>whnf)
      refine callV_data c_awake18 rfl ?_
      (repeat' (first|refine stp ?_|with_reducible(refine brr ?_ ?_<;>intro h)));all_goals try(conv=>whnf)
      refine callV_data cg rfl ?_
      (repeat' (first|refine stp ?_|with_reducible(refine brr ?_ ?_<;>intro h)));all_goals try(conv=>whnf)
      · exact givesV_to rfl rfl
      refine callV_data c1 rfl ?_
      (repeat' (first|refine stp ?_|with_reducible(refine brr ?_ ?_<;>intro h)));all_goals try(conv=>whnf)
      refine callV_data c2 rfl ?_
      (repeat' (first|refine stp ?_|with_reducible(refine brr ?_ ?_<;>intro h)));all_goals try(conv=>whnf)
      refine callV_data c3 rfl ?_
      (repeat' (first|refine stp ?_|with_reducible(refine brr ?_ ?_<;>intro h)));all_goals try(conv=>whnf)
      exact givesV_to rfl rfl
    · have c1 := c_ppieceN g p (okGra_le (by decide) hg) hp hc
      have c2 := c_rpiece18N g p (okGra_le (by decide) hg) hp hc
      have c3 := c_sameforms [] 1 (fun f hf => by cases hf) (by decide) (by decide)
      refine fnC_v hmix hT ok_lawPiece (by simp [encGra]) ?_
      (repeat' (first|refine stp ?_|with_reducible(refine brr ?_ ?_<;>intro h)));all_goals try(conv=>whnf)
      refine callV_data c_awake18 rfl ?_
      (repeat' (first|refine stp ?_|with_reducible(refine brr ?_ ?_<;>intro h)));all_goals try(conv=>whnf)
      refine callV_data cg rfl ?_
      (repeat' (first|refine stp ?_|with_reducible(refine brr ?_ ?_<;>intro h)));all_goals try(conv=>whnf)
      · exact givesV_to rfl rfl
      refine callV_data c1 rfl ?_
      (repeat' (first|refine stp ?_|with_reducible(refine brr ?_ ?_<;>intro h)));all_goals try(conv=>whnf)
      refine callV_data c2 rfl ?_
      (repeat' (first|refine stp ?_|with_reducible(refine brr ?_ ?_<;>intro h)));all_goals try(conv=>whnf)
      refine callV_data c3 rfl ?_
      (repeat' (first|refine stp ?_|with_reducible(refine brr ?_ ?_<;>intro h)));all_goals try(conv=>whnf)
      exact givesV_to rfl rfl
  · rw [dB_false.2 hs] at cg
    refine fnC_v hmix hT ok_lawPiece (by simp [encGra]) ?_
    (repeat' (first|refine stp ?_|with_reducible(refine brr ?_ ?_<;>intro h)));all_goals try(conv=>whnf)
    refine callV_data c_awake18 rfl ?_
    (repeat' (first|refine stp ?_|with_reducible(refine brr ?_ ?_<;>intro h)));all_goals try(conv=>whnf)
    refine callV_data cg rfl ?_
    (repeat' (first|refine stp ?_|with_reducible(refine brr ?_ ?_<;>intro h)));all_goals try(conv=>whnf)
    exact givesV_to rfl rfl
theorem sgnQ_nn {q : Rat} : 0 ≤ sgnQ q ↔ 0 ≤ q := by
  rw [← Int.not_lt, sgnQ_neg, Rat.not_lt]
theorem fits_iff {us : List QF} {x : List Rat} {p : List Int} (hp : p.length = us.length) (hd : ∀ i, i < p.length → Dec p[i]!) : fitP p (ofL (preL us x)) ↔ AgN us x p us.length := by
  have hl := ofL_len (preL us x)
  rw [preL_len] at hl
  constructor
  · intro h i hi
    have := (h.2 i (by omega)).2
    rwa [ofL_get (by rw [preL_len]; exact hi)] at this
  · intro h
    refine ⟨by omega, fun i hi => ⟨hd i hi, ?_⟩⟩
    rw [ofL_get (by rw [preL_len]; omega)]
    exact h i (by omega)
theorem outL_ev {g : GraL} {X : List Rat} {p : List Int} {n : Nat} (hv : VaG g) (hin : g.ins = (n : Int)) (he : (frmN g.us n p g.us.length).map (fun f => evQ f X) = valsN g.us X g.us.length) : (outQ g n p).map (fun f => evQ f X) = outL g X := by
  unfold outQ outL
  rw [List.map_map]
  refine List.map_congr_left fun F hF => ?_
  obtain ⟨i, hi, rfl⟩ := List.getElem_of_mem hF
  have h1 := hv.2.2.2.2 i hi
  rw [getElem!_pos _ i hi] at h1
  have h2 := okF_of h1
  have hl := frmN_len g.us n p g.us.length
  have lu := us_len g
  rw [hin, show ((n : Int) + (g.units.length : Int)) = (((frmN g.us n p g.us.length).length : Nat) : Int) by omega] at h2
  simp only [Function.comp]
  rw [evQ_apply h2, he]
theorem outL_sz {g : GraL} {X : List Rat} {n K : Nat} (hg : okGra K g) (hs : smG g) (hv : VaG g) (hin : g.ins = (n : Int)) (hx : X.length = n) (hq : ∀ q ∈ X, sz 2 q) : ∀ q ∈ outL g X, sz 1280 q := fun q hq' => by
  obtain ⟨F, hF, rfl⟩ := List.mem_map.1 hq'
  obtain ⟨i, hi, rfl⟩ := List.getElem_of_mem hF
  have h1 := hv.2.2.2.2 i hi
  rw [getElem!_pos _ i hi] at h1
  have h2 := okF_of h1
  have h3 := hs.2.2.2 i hi
  rw [getElem!_pos _ i hi] at h3
  have hu := smU_of hg hs hv hin
  have e : (g.units.map AffL.Q) = g.us := rfl
  rw [e] at hu
  have lu := us_len g
  have hl : (valsN g.us X g.us.length).length = n + g.us.length := by rw [valsN_len _ (Nat.le_refl _), hx]
  rw [hin, show ((n : Int) + (g.units.length : Int)) = (((valsN g.us X g.us.length).length : Nat) : Int) by omega] at h2
  have h4 := evQ_szS (kap n) (szF_of (hg.2.2 _ hF) h3).1 (fun v hv => vals_ok hu hx hq _ (Nat.le_refl _) v (by omega)) h2
  rw [hl] at h4
  have h5 := kap_sum2 n hu.1 g.us.length hu.2.1
  have h6 : 2 ^ g.us.length ≤ 2 ^ 5 := Nat.pow_le_pow_right (by decide) (by have := hu.2.1; omega)
  exact sz_le (by omega) h4
theorem map_get {l : List QF} {X vs : List Rat} (h : l.map (fun f => evQ f X) = vs) : l.length = vs.length ∧ ∀ i, i < l.length → evQ l[i]! X = vs[i]! := by
  subst h
  refine ⟨by simp, fun i hi => ?_⟩
  rw [getElem!_pos l i hi, getElem!_pos _ i (by simpa using hi)]; simp
theorem ok_lawAgrees : FnOk Tryz.prog 6 Tryz.f6 (Tryz.f6.body.getD .skip) [.tmp 6] 121 := ⟨Tryz.func6, rfl, by decide, Tryz.ntmps6, Tryz.results6, by kernel_rfl, by kernel_rfl⟩
theorem c_agreesY (g : GraL) (x : List RatL) (p : List Int) (n : Nat) (hg : okGra 1048576 g) (hx : okLs 1048576 x) (hp : p.length ≤ 1048576) (hs : smG g) (hpt : smPt x) (hc : comP g p) (hin : g.ins = (n : Int)) (hl : (x.length : Int) = g.ins) : Fn 6 [encGra g, .imm (x.map encRat), ints p] (.data (.bool true)) := by
  have cg := c_smgraph g (okGra_le (by decide) hg)
  have cx := c_smpoint x (okLs_le (by decide) hx)
  rw [dB_true.2 hs] at cg
  rw [dB_true.2 hpt] at cx
  have hv := hc.1
  have h2 := smG_ok hg hs
  have c2 := c_pFormsX g p n 2 (kap n) h2 (by decide) (by decide) hc hp hin (szG_of hg hs hv hin)
  have c3 := c_ppiece g p n 2 (kap n) h2 (by decide) (by decide) hc hp hin (szG_of hg hs hv hin)
  have hxl : (x.map qv).length = n := by rw [List.length_map]; omega
  have hsv : szV g (x.map qv) 2 1280 := szV_of hg hs hv hin hxl (smPt_sz hx hpt)
  have hx9 := okLs_le (show 1048576 ≤ 950000000 by decide) hx
  have c1 := c_pof g x 2 1280 h2 (by decide) (by decide) (by decide) hv hx9 hl hsv.1 hsv.2.2.1 (by decide)
  have cw := c_rgvalues g x 2 1280 h2 (by decide) (by decide) (by decide) (by decide) hv hx9 hl hsv.1 hsv.2.2.1
  have co := c_rgouts g x 2 1280 h2 (by decide) (by decide) (by decide) (by decide) hv hx9 hl hsv
  have lu := us_len g
  have l5 := hs.2.1.1
  have l6 := hs.2.2.1
  have l7 := hs.1
  have hpieL : (pieL g.us n p).length = g.us.length := pieI_len _ _ _ _
  have hofl : (ofL (preL g.us (x.map qv))).length = g.us.length := by rw [ofL_len, preL_len]
  have cft := c_fits p (ofL (preL g.us (x.map qv))) hp (by omega)
  have hux : ∀ j, j < g.us.length → okF (n + j : Nat) g.us[j]! := fun j hj => ((smU_of hg hs hv hin).2.2 j hj).2
  have hd2 : ∀ j, j < g.us.length → p[j]! = 1 ∨ p[j]! = 2 := fun j hj => hc.2.2 j (by have := hc.2.1; omega)
  have hins := inside_iff hxl hux hd2
  have hfi := fits_iff (us := g.us) (x := x.map qv) (by have := hc.2.1; omega) hc.2.2
  have hcan := smPt_can hpt
  have hq := smPt_sz hx hpt
  refine fnC_v hmix hT ok_lawAgrees (by simp [encGra]) ?_
  (repeat' (first|refine stp ?_|with_reducible(refine brr ?_ ?_<;>intro h)));all_goals try(conv=>whnf)
  refine callV_data c_awake18 rfl ?_
  (repeat' (first|refine stp ?_|with_reducible(refine brr ?_ ?_<;>intro h)));all_goals try(conv=>whnf)
  refine callV_data cg rfl ?_
  (repeat' (first|refine stp ?_|with_reducible(refine brr ?_ ?_<;>intro h)));all_goals try(conv=>whnf)
  refine callV_data cx rfl ?_
  (repeat' (first|refine stp ?_|with_reducible(refine brr ?_ ?_<;>intro h)));all_goals try(conv=>whnf)
  · exact givesV_to rfl rfl
  refine callV_data c1 rfl ?_
  (repeat' (first|refine stp ?_|with_reducible(refine brr ?_ ?_<;>intro h)));all_goals try(conv=>whnf)
  refine callV_data c2 rfl ?_
  (repeat' (first|refine stp ?_|with_reducible(refine brr ?_ ?_<;>intro h)));all_goals try(conv=>whnf)
  refine callV_data c3 rfl ?_
  (repeat' (first|refine stp ?_|with_reducible(refine brr ?_ ?_<;>intro h)));all_goals try(conv=>whnf)
  obtain ⟨X, hX⟩ : ∃ X, x.map qv = X := ⟨_, rfl⟩
  rw [hX] at hxl hsv hofl cw co cft hins hfi hcan hq
  have ho1 := fun f hf => frm_all (p := p) hg hs hv hin f hf
  have ho2 := fun f hf => out_all (p := p) hg hs hv hin f hf
  have ho3 := fun f hf => pie_all (p := p) hg hs hv hin f hf
  have hrow : ∀ j, j < g.us.length → (pieL g.us n p)[j]! = rowG g.us n p j := fun j hj => pie_get hj
  have hp10 : p.length ≤ 10 := by omega
  refine loopV_kept hT (fun ((i, b) : Nat × Bool) => [(1, .imm (x.map encRat)), (2, ints p), (3, .ptr 0 0 0), (7, ints (ofL (preL g.us X))), (9, .imm ((frmN g.us n p g.us.length).map encF)), (10, .imm ((outQ g n p).map encF)), (12, .imm ((pieL g.us n p).map encF)), (14, .bool b), (15, .int .i64 i)])
    (fun _ => [(0, ⟨[encGra g], 3, true⟩)]) [] 1
    (fun ((i, b) : Nat × Bool) => i ≤ g.us.length ∧ (b = true ↔ ∀ j, j < i → 0 ≤ evQ (rowG g.us n p j) X)) (fun ((i, _) : Nat × Bool) => g.us.length - i) (0, true) ⟨Nat.zero_le _, ⟨fun _ j hj => (by omega), fun _ => rfl⟩⟩ (by decide) (by simp) ?_ ?_
  · exact ⟨[0], [], [], [], ⟨trivial, trivial, trivial⟩, ⟨at_imm rfl rfl, at_imm rfl rfl, at_ptr (by decide) rfl, at_imm rfl (by rw [hX]), at_imm rfl rfl, at_imm rfl rfl, at_imm rfl rfl, at_bool rfl rfl, at_int rfl rfl, trivial⟩, ⟨blk_box (by decide) rfl rfl rfl rfl rfl, trivial⟩, by simp [ren]⟩
  rintro ⟨i, b⟩ ⟨i1, hb⟩
  by_cases hi : i < g.us.length
  · have hpm := ho3 _ (get_mem (l := pieL g.us n p) (show i < _ by omega))
    have ce := c_rleval (pieL g.us n p)[i]! X 1290 2 hpm.2.1 hq (by rw [hxl]; exact hpm.1.2) (by have := Nat.mul_le_mul_right (1290 + 2 + 1) hpm.2.2; omega) (by omega) (by omega)
    rw [← hcan] at ce
    have hsz : sz 20000 (evQ (pieL g.us n p)[i]! X) := sz_le (by have := Nat.mul_le_mul_right (1290 + 2 + 1) hpm.2.2; omega) (evQ_sz hpm.2.1 hq (by rw [hxl]; exact hpm.1.2))
    have lq := cr_len hsz
    have cs := c_rqsign (cr (evQ (pieL g.us n p)[i]! X)) (okR_cr _) (by omega)
    rw [qv_cr] at cs
    have hri := hrow i hi
    cases b with
    | true =>
      (repeat' (first|refine stp ?_|with_reducible(refine brr ?_ ?_<;>intro h)));all_goals try(conv=>whnf)
      all_goals try (exfalso; omega)
      refine callV_data ce rfl ?_
      (repeat' (first|refine stp ?_|with_reducible(refine brr ?_ ?_<;>intro h)));all_goals try(conv=>whnf)
      refine callV_data cs rfl ?_
      (repeat' (first|refine stp ?_|with_reducible(refine brr ?_ ?_<;>intro h)));all_goals try(conv=>whnf)
      refine ⟨(i + 1, decide (0 ≤ sgnQ (evQ (pieL g.us n p)[i]! X))), ⟨⟨by omega, ?_⟩, by show g.us.length - (i + 1) < g.us.length - i; omega⟩, [0], [], [], [], ⟨trivial, trivial, trivial⟩, ⟨at_imm rfl rfl, at_imm rfl rfl, at_ptr (by decide) rfl, at_imm rfl rfl, at_imm rfl rfl, at_imm rfl rfl, at_imm rfl rfl, at_bool rfl rfl, at_int rfl rfl, trivial⟩, ⟨blk_box (by decide) rfl rfl rfl rfl rfl, trivial⟩, by simp [ren]⟩
      rw [decide_eq_true_eq, sgnQ_nn, hri]
      exact ⟨fun e j hj => lt_succ_cases (p := fun j => 0 ≤ evQ (rowG g.us n p j) X) (hb.1 rfl) e hj, fun e => e i (by omega)⟩
    | false =>
      (repeat' (first|refine stp ?_|with_reducible(refine brr ?_ ?_<;>intro h)));all_goals try(conv=>whnf)
      all_goals try (exfalso; omega)
      refine callV_data ce rfl ?_
      (repeat' (first|refine stp ?_|with_reducible(refine brr ?_ ?_<;>intro h)));all_goals try(conv=>whnf)
      exact ⟨(i + 1, false), ⟨⟨by omega, ⟨fun e => (by cases e), fun e => by have := hb.2 (fun j hj => e j (by omega)); cases this⟩⟩, by show g.us.length - (i + 1) < g.us.length - i; omega⟩, [0], [], [], [], ⟨trivial, trivial, trivial⟩, ⟨at_imm rfl rfl, at_imm rfl rfl, at_ptr (by decide) rfl, at_imm rfl rfl, at_imm rfl rfl, at_imm rfl rfl, at_imm rfl rfl, at_bool rfl rfl, at_int rfl rfl, trivial⟩, ⟨blk_box (by decide) rfl rfl rfl rfl rfl, trivial⟩, by simp [ren]⟩
  · have ei : i = g.us.length := by omega
    subst ei
    cases b with
    | true =>
      have hag := hins.1 (hb.1 rfl)
      rw [dB_true.2 (hfi.2 hag)] at cft
      have hev := frmN_ev hxl hux hd2 g.us.length (Nat.le_refl _) hag
      obtain ⟨m1, m2⟩ := map_get hev
      obtain ⟨m3, m4⟩ := map_get (outL_ev hv hin hev)
      have e1 := c_evald (frmN g.us n p g.us.length) X (valsN g.us X g.us.length) 1280 2 1280 (fun f hf => (ho1 f hf).2.1) hq (fun f hf => by rw [hxl]; exact ⟨(ho1 f hf).1, by have := (ho1 f hf).2.2; omega⟩) (by decide) hsv.2.1 (by decide) (by omega) (by rw [frmN_len]; omega) m1 m2
      have e2 := c_evald (outQ g n p) X (outL g X) 1280 2 1280 (fun f hf => (ho2 f hf).2.1) hq (fun f hf => by rw [hxl]; exact ⟨(ho2 f hf).1, by have := (ho2 f hf).2.2; omega⟩) (by decide) (outL_sz hg hs hv hin hxl hq) (by decide) (by omega) (by unfold outQ; rw [List.length_map]; omega) m3 m4
      rw [← hcan] at e1 e2
      (repeat' (first|refine stp ?_|with_reducible(refine brr ?_ ?_<;>intro h)));all_goals try(conv=>whnf)
      all_goals try (exfalso; omega)
      refine callV_data cft rfl ?_
      (repeat' (first|refine stp ?_|with_reducible(refine brr ?_ ?_<;>intro h)));all_goals try(conv=>whnf)
      refine callV_data cw rfl ?_
      (repeat' (first|refine stp ?_|with_reducible(refine brr ?_ ?_<;>intro h)));all_goals try(conv=>whnf)
      refine callV_data co rfl ?_
      (repeat' (first|refine stp ?_|with_reducible(refine brr ?_ ?_<;>intro h)));all_goals try(conv=>whnf)
      refine callV_data e1 rfl ?_
      (repeat' (first|refine stp ?_|with_reducible(refine brr ?_ ?_<;>intro h)));all_goals try(conv=>whnf)
      refine callV_data e2 rfl ?_
      (repeat' (first|refine stp ?_|with_reducible(refine brr ?_ ?_<;>intro h)));all_goals try(conv=>whnf)
      exact givesV_to rfl rfl
    | false =>
      have hnf : ¬ fitP p (ofL (preL g.us X)) := fun e => by have := hb.2 (hins.2 (hfi.1 e)); cases this
      rw [dB_false.2 hnf] at cft
      (repeat' (first|refine stp ?_|with_reducible(refine brr ?_ ?_<;>intro h)));all_goals try(conv=>whnf)
      all_goals try (exfalso; omega)
      refine callV_data cft rfl ?_
      (repeat' (first|refine stp ?_|with_reducible(refine brr ?_ ?_<;>intro h)));all_goals try(conv=>whnf)
      exact givesV_to rfl rfl
theorem c_patternAgrees (g : GraL) (x : List RatL) (p : List Int) (hg : okGra 1048576 g) (hx : okLs 1048576 x) (hp : p.length ≤ 1048576) : Fn 6 [encGra g, .imm (x.map encRat), ints p] (.data (.bool true)) := by
  have cg := c_smgraph g (okGra_le (by decide) hg)
  have cx := c_smpoint x (okLs_le (by decide) hx)
  by_cases hs : smG g
  · rw [dB_true.2 hs] at cg
    by_cases hpt : smPt x
    · rw [dB_true.2 hpt] at cx
      by_cases hc : comP g p
      · have hv := hc.1
        obtain ⟨n, hin⟩ : ∃ n : Nat, g.ins = n := ⟨g.ins.toNat, by have := hv.1; omega⟩
        have h2 := smG_ok hg hs
        have c2 := c_pFormsX g p n 2 (kap n) h2 (by decide) (by decide) hc hp hin (szG_of hg hs hv hin)
        have c3 := c_ppiece g p n 2 (kap n) h2 (by decide) (by decide) hc hp hin (szG_of hg hs hv hin)
        by_cases hl : (x.length : Int) = g.ins
        · exact c_agreesY g x p n hg hx hp hs hpt hc hin hl
        · have c1 := c_pofN g x (okGra_le (by decide) hg) hx.1 (fun e => hl e.2)
          refine fnC_v hmix hT ok_lawAgrees (by simp [encGra]) ?_
          (repeat' (first|refine stp ?_|with_reducible(refine brr ?_ ?_<;>intro h)));all_goals try(conv=>whnf)
          refine callV_data c_awake18 rfl ?_
          (repeat' (first|refine stp ?_|with_reducible(refine brr ?_ ?_<;>intro h)));all_goals try(conv=>whnf)
          refine callV_data cg rfl ?_
          (repeat' (first|refine stp ?_|with_reducible(refine brr ?_ ?_<;>intro h)));all_goals try(conv=>whnf)
          refine callV_data cx rfl ?_
          (repeat' (first|refine stp ?_|with_reducible(refine brr ?_ ?_<;>intro h)));all_goals try(conv=>whnf)
          · exact givesV_to rfl rfl
          refine callV_data c1 rfl ?_
          (repeat' (first|refine stp ?_|with_reducible(refine brr ?_ ?_<;>intro h)));all_goals try(conv=>whnf)
          refine callV_data c2 rfl ?_
          (repeat' (first|refine stp ?_|with_reducible(refine brr ?_ ?_<;>intro h)));all_goals try(conv=>whnf)
          refine callV_data c3 rfl ?_
          (repeat' (first|refine stp ?_|with_reducible(refine brr ?_ ?_<;>intro h)));all_goals try(conv=>whnf)
          exact givesV_to rfl rfl
      · have c2 := c_pFormsN g p (okGra_le (by decide) hg) hp hc
        have c3 := c_ppieceN g p (okGra_le (by decide) hg) hp hc
        have c1 : ∃ v z, Fn 11 [encGra g, .imm (x.map encRat)] (.data (.tup [.imm v, .int .i64 z])) := by
          by_cases ha : VaG g ∧ (x.length : Int) = g.ins
          · obtain ⟨hv, hl⟩ := ha
            have hsv : szV g (x.map qv) 2 1280 := szV_of hg hs hv hl.symm (by rw [List.length_map]) (smPt_sz hx hpt)
            exact ⟨_, _, c_pof g x 2 1280 (smG_ok hg hs) (by decide) (by decide) (by decide) hv (okLs_le (by decide) hx) hl hsv.1 hsv.2.2.1 (by decide)⟩
          · exact ⟨_, _, c_pofN g x (okGra_le (by decide) hg) hx.1 ha⟩
        obtain ⟨v, z, c1⟩ := c1
        refine fnC_v hmix hT ok_lawAgrees (by simp [encGra]) ?_
        (repeat' (first|refine stp ?_|with_reducible(refine brr ?_ ?_<;>intro h)));all_goals try(conv=>whnf)
        refine callV_data c_awake18 rfl ?_
        (repeat' (first|refine stp ?_|with_reducible(refine brr ?_ ?_<;>intro h)));all_goals try(conv=>whnf)
        refine callV_data cg rfl ?_
        (repeat' (first|refine stp ?_|with_reducible(refine brr ?_ ?_<;>intro h)));all_goals try(conv=>whnf)
        refine callV_data cx rfl ?_
        (repeat' (first|refine stp ?_|with_reducible(refine brr ?_ ?_<;>intro h)));all_goals try(conv=>whnf)
        · exact givesV_to rfl rfl
        refine callV_data c1 rfl ?_
        (repeat' (first|refine stp ?_|with_reducible(refine brr ?_ ?_<;>intro h)));all_goals try(conv=>whnf)
        refine callV_data c2 rfl ?_
        (repeat' (first|refine stp ?_|with_reducible(refine brr ?_ ?_<;>intro h)));all_goals try(conv=>whnf)
        refine callV_data c3 rfl ?_
        (repeat' (first|refine stp ?_|with_reducible(refine brr ?_ ?_<;>intro h)));all_goals try(conv=>whnf)
        all_goals exact givesV_to rfl rfl
    · rw [dB_false.2 hpt] at cx
      refine fnC_v hmix hT ok_lawAgrees (by simp [encGra]) ?_
      (repeat' (first|refine stp ?_|with_reducible(refine brr ?_ ?_<;>intro h)));all_goals try(conv=>whnf)
      refine callV_data c_awake18 rfl ?_
      (repeat' (first|refine stp ?_|with_reducible(refine brr ?_ ?_<;>intro h)));all_goals try(conv=>whnf)
      refine callV_data cg rfl ?_
      (repeat' (first|refine stp ?_|with_reducible(refine brr ?_ ?_<;>intro h)));all_goals try(conv=>whnf)
      refine callV_data cx rfl ?_
      (repeat' (first|refine stp ?_|with_reducible(refine brr ?_ ?_<;>intro h)));all_goals try(conv=>whnf)
      exact givesV_to rfl rfl
  · rw [dB_false.2 hs] at cg
    refine fnC_v hmix hT ok_lawAgrees (by simp [encGra]) ?_
    (repeat' (first|refine stp ?_|with_reducible(refine brr ?_ ?_<;>intro h)));all_goals try(conv=>whnf)
    refine callV_data c_awake18 rfl ?_
    (repeat' (first|refine stp ?_|with_reducible(refine brr ?_ ?_<;>intro h)));all_goals try(conv=>whnf)
    refine callV_data cg rfl ?_
    (repeat' (first|refine stp ?_|with_reducible(refine brr ?_ ?_<;>intro h)));all_goals try(conv=>whnf)
    exact givesV_to rfl rfl
end Go.PI.Tryz
namespace Go.PI.Tryz
set_option linter.unusedSimpArgs false
set_option linter.unnecessarySimpa false
open Go Go.Proofs Go.PI Go.Proofs.YtiiibhgnmlmoaaaGreat
open Go.ChangeShapes Go.WideShapes Go.ChangeAt Go.RowKit
set_option linter.unusedVariables false
section
variable {H : Type} {enc : TypeId × Value → H} {w : World}
def cGra (x : GraL) : List PV := [.int .i64 x.ins, .imm (x.units.map encAff), .imm (x.outs.map encAff)]
def QGra (x : GraL) (B : Nat) : Prop := ∃ b c, QL QAff x.units b ∧ QL QAff x.outs c ∧ b + c ≤ B
theorem r_gra (m : Nat) : Reads enc Tryz.prog w m 24 cGra QGra := by
  refine ((reads_struct (n := m) (tot := 3) Tryz.underlying24 (by kernel_rfl) (readsF_cons rfl (k := 1) (by kernel_rfl) (by decide) (reads_int Tryz.underlying3)
    (readsF_cons rfl (k := 1) (by kernel_rfl) (by decide) (r_rows m) (readsF_cons rfl (k := 1) (by kernel_rfl) (by decide) (r_rows m) (readsF_nil (by decide)))))).le (by omega)).to (fun x => (⟨x.1, x.2.1, x.2.2.1⟩ : GraL)) (fun _ => rfl) ?_
  rintro ⟨a, b, c, u⟩ B ⟨b0, ⟨b1, b2, h1, ⟨b3, b4, h3, ⟨b5, b6, h5, _, h6⟩, h4⟩, h2⟩, h0⟩
  exact ⟨b3, b5, h3, h5, by omega⟩
theorem okFs_of {xs : List AffL} {B : Nat} (h : QL QAff xs B) (hB : B ≤ 1048576) : okFs 1048576 xs := by
  refine ⟨by have := QL.len QAff.pos h; omega, fun f hf => ?_⟩
  obtain ⟨d, h5, h6⟩ := h.mem f hf
  exact h5.ok (by omega)
theorem QGra.ok {x : GraL} {B : Nat} (h : QGra x B) (hB : B ≤ 1048576) : okGra 1048576 x := by
  obtain ⟨b, c, h1, h2, h3⟩ := h
  exact ⟨okFs_of h1 (by omega), okFs_of h2 (by omega)⟩
theorem r_ints (m : Nat) : Reads enc Tryz.prog w m 29 (fun xs : List Int => [.imm (xs.map (.int .i64))]) (QL (fun x b => (Lit.int .i64 x).wf = true ∧ 1 ≤ b)) :=
  (reads_slice (n := m) (sz := 1) Tryz.underlying29 (by kernel_rfl) (by decide) (fun _ => ⟨rfl, rfl⟩) (reads_int Tryz.underlying3)).le (by omega)
theorem ints_len {xs : List Int} {B : Nat} (h : QL (fun x b => (Lit.int .i64 x).wf = true ∧ 1 ≤ b) xs B) (hB : B ≤ 1048576) : xs.length ≤ 1048576 := by
  have := QL.len QInt.pos h; omega
end
end Go.PI.Tryz
namespace Go.PI.Tryz
set_option linter.unusedVariables false
set_option linter.unusedSimpArgs false
set_option linter.unnecessarySimpa false
end Go.PI.Tryz
