/-
  All that the laws of chapter 18's small seat share.
-/
import Derived.Test.YtiiibhgnmlmoaaaCHA
import Derived.Test.YtiiibhgnmlmoaaaCPD
import Derived.Test.YtiiibhgnmlmoaaaCGL
namespace Go.PI.Try
set_option linter.unnecessarySimpa false
open Go.Proofs Go.PI
set_option linter.unusedSimpArgs false
set_option linter.unusedVariables false
def fmT (fr : Int) (l : List Int) (i : Nat) : List QT := ((List.range i).filter fun j => decide (l[j]! ≠ 0)).map fun (j : Nat) => (fr + (j : Int), (l[j]! : Rat))
theorem fmT_nz {fr : Int} {l : List Int} {i : Nat} (h : l[i]! ≠ 0) : fmT fr l (i + 1) = fmT fr l i ++ [(fr + (i : Int), (l[i]! : Rat))] := by
  have e : ([i].filter fun j => decide (l[j]! ≠ 0)) = [i] := List.filter_cons_of_pos (decide_eq_true h)
  unfold fmT; rw [List.range_succ, List.filter_append, List.map_append, e]; rfl
theorem fmT_z {fr : Int} {l : List Int} {i : Nat} (h : l[i]! = 0) : fmT fr l (i + 1) = fmT fr l i := by
  have e : ([i].filter fun j => decide (l[j]! ≠ 0)) = [] := List.filter_cons_of_neg (fun e => of_decide_eq_true e h)
  unfold fmT; rw [List.range_succ, List.filter_append, List.map_append, e]; simp
theorem fmT_len (fr : Int) (l : List Int) (i : Nat) : (fmT fr l i).length ≤ i := by
  unfold fmT; rw [List.length_map]; exact Nat.le_trans (List.length_filter_le _ _) (by simp)
theorem ok_wform : FnOk Try.prog 17 Try.f17 (Try.f17.body.getD .skip) [.cell 6 51] 38 := ⟨Try.func17, rfl, by decide, Try.ntmps17, Try.results17, by kernel_rfl, by kernel_rfl⟩
theorem c_wform (c fr : Int) (l : List Int) (hc : c.natAbs < 1000) (hf : fr.natAbs < 1000) (hl : l.length < 1000) (hlv : ∀ i, i < l.length → (l[i]!).natAbs < 1000) : Fn 17 [.int .i64 c, .int .i64 fr, ints l] (.data (encF ⟨fmT fr l l.length, c⟩)) := by
  have cc := c_rqof c (by omega)
  refine fnC_v hmix hT ok_wform (by simp) ?_
  (repeat' (first|refine stp ?_|with_reducible(refine brr ?_ ?_<;>intro h)));all_goals try(conv=>whnf)
  refine callV_data cc rfl ?_
  (repeat' (first|refine stp ?_|with_reducible(refine brr ?_ ?_<;>intro h)));all_goals try(conv=>whnf)
  refine loopV_grow hT [(.cl 4 0 0, 4, true)] (fun (i : Nat) => [(1, .int .i64 fr), (2, ints l), (6, .ptr 0 0 0), (7, .ptr 1 0 0), (8, .int .i64 i)])
    (fun i => [(0, ⟨[.agg [.nilsl, .bool false, .nilsl, .nilsl]], 4, true⟩), (1, ⟨[.agg [.own 2 0 (fmT fr l i).length, .bool (cr c).neg, encN (cr c).num, encN (cr c).den]], 4, true⟩), (2, ⟨(fmT fr l i).map encQ, 4, true⟩)]) [] 3
    (fun i => i ≤ l.length) (fun i => l.length - i) 0 (Nat.zero_le _) (by decide) (by simp) ⟨_, _, rfl, rfl, rfl, trivial⟩ ?_ ?_
  · exact ⟨[_, _, _], [], [], [], ⟨trivial, trivial, trivial⟩, ⟨at_int rfl rfl, at_imm rfl rfl, at_ptr (by decide) rfl, at_ptr (by decide) rfl, at_int rfl rfl, trivial⟩,
      ⟨blk_box (by decide) rfl rfl rfl rfl rfl, blk_boxK (by decide) rfl ⟨⟨by decide, rfl⟩, rfl, rfl, rfl, trivial⟩ rfl rfl, blk_row (by decide) rfl rfl (rowB_nr _) rfl, trivial⟩, by simp [ren]⟩
  intro i i1
  have hfl := fmT_len fr l i
  by_cases hi : i < l.length
  · have hv := hlv i hi
    have ci := c_rqof l[i]! (by omega)
    (repeat' (first|refine stp ?_|with_reducible(refine brr ?_ ?_<;>intro h)));all_goals try(conv=>whnf)
    all_goals try (exfalso; omega)
    · have hnz := fmT_nz (fr := fr) (by assumption)
      refine callV_data ci rfl ?_
      (repeat' (first|refine stp ?_|with_reducible(refine brr ?_ ?_<;>intro h)));all_goals try(conv=>whnf)
      have hrow : (fmT fr l i).map encQ ++ [encQ (fr + (i : Int), (l[i]! : Rat))] = (fmT fr l (i + 1)).map encQ := by rw [hnz, List.map_append]; rfl
      have hlen : (fmT fr l i).length + 1 = (fmT fr l (i + 1)).length := by rw [hnz, List.length_append]; rfl
      exact ⟨i + 1, ⟨by omega, by show l.length - (i + 1) < l.length - i; omega⟩, [0, 1, _], [], [], [], ⟨trivial, trivial, trivial⟩, ⟨at_int rfl rfl, at_imm rfl rfl, at_ptr (by decide) rfl, at_ptr (by decide) rfl, at_int rfl rfl, trivial⟩,
        ⟨blk_box (by decide) rfl rfl rfl rfl rfl, blk_boxK (by decide) rfl (by rw [← hlen]; exact ⟨⟨by decide, rfl⟩, rfl, rfl, rfl, trivial⟩) rfl rfl, blk_row (by decide) rfl hrow (rowB_nr _) rfl, trivial⟩, by simp [ren]⟩
    · have hz := fmT_z (fr := fr) (show l[i]! = 0 by first | assumption | exact Decidable.not_not.1 (by assumption))
      exact ⟨i + 1, ⟨by omega, by show l.length - (i + 1) < l.length - i; omega⟩, [0, 1, _], [], [], [], ⟨trivial, trivial, trivial⟩, ⟨at_int rfl rfl, at_imm rfl rfl, at_ptr (by decide) rfl, at_ptr (by decide) rfl, at_int rfl rfl, trivial⟩,
        ⟨blk_box (by decide) rfl rfl rfl rfl rfl, blk_boxK (by decide) rfl (by rw [hz]; exact ⟨⟨by decide, rfl⟩, rfl, rfl, rfl, trivial⟩) rfl rfl, blk_row (by decide) rfl (by rw [hz]) (rowB_nr _) rfl, trivial⟩, by simp [ren]⟩
  · have e : i = l.length := by omega
    (repeat' (first|refine stp ?_|with_reducible(refine brr ?_ ?_<;>intro h)));all_goals try(conv=>whnf)
    all_goals try (exfalso; omega)
    subst e
    exact givesV_to (frz_aggL (mapF_cons (frz_own_map rfl rfl rfl frz_encQ) (mapF_cons rfl (mapF_cons rfl (mapF_cons rfl rfl))))) rfl
end Go.PI.Try
namespace Go.PI.Try
set_option linter.unnecessarySimpa false
open Go.Proofs Go.PI
set_option linter.unusedSimpArgs false
set_option linter.unusedVariables false
theorem szG_of {g : GraL} {p : List Int} {n K : Nat} (hg : okGra K g) (hs : smG g) (hv : VaG g) (hin : g.ins = (n : Int)) : szG g p n 2 (kap n) := fun j hj => by
  have hu := smU_of hg hs hv hin
  have lu : j ≤ (g.units.map AffL.Q).length := by rw [List.length_map]; exact hj
  exact ⟨frm_ok hu j lu, by have := frm_sum hu lu; omega⟩
theorem szV_of {g : GraL} {x : List Rat} {n K : Nat} (hg : okGra K g) (hs : smG g) (hv : VaG g) (hin : g.ins = (n : Int)) (hx : x.length = n) (hq : ∀ q ∈ x, sz 2 q) : szV g x 2 1280 := by
  have hu := smU_of hg hs hv hin
  have lu : (g.units.map AffL.Q).length = g.units.length := by rw [List.length_map]
  refine ⟨fun j hj => ⟨vals_K hu hx hq (by omega), pre_K hu hx hq (by omega)⟩, vals_K hu hx hq (Nat.le_refl _), fun f hf => ?_, fun f hf => ?_⟩
  · have := Nat.mul_le_mul_right (2 + 1280 + 1) (smFs_len hs.2.1 f hf); omega
  · have := Nat.mul_le_mul_right (2 + 1280 + 1) (smFs_len hs.2.2 f hf); omega
theorem c_wformE (c fr : Int) (l : List Int) (q : QF) (hq : eqQF ⟨fmT fr l l.length, c⟩ q = true) (hc : c.natAbs < 1000) (hf : fr.natAbs < 1000) (hl : l.length < 1000) (hlv : ∀ i, i < l.length → (l[i]!).natAbs < 1000) : Fn 17 [.int .i64 c, .int .i64 fr, ints l] (.data (encF q)) := by
  have := c_wform c fr l hc hf hl hlv
  rwa [eqQF_of hq] at this
theorem ok_example18 : FnOk Try.prog 13 Try.f13 (Try.f13.body.getD .skip) [.cell 0 37] 10 := ⟨Try.func13, rfl, by decide, Try.ntmps13, Try.results13, by kernel_rfl, by kernel_rfl⟩
theorem c_example18 : Fn 13 [] (.data (encGra G18)) := by
  have c1 := c_wformE 0 0 [1] E1 (by decide +kernel) (by decide) (by decide) (by decide) (by decide)
  have c2 := c_wformE 1 0 [-1] E2 (by decide +kernel) (by decide) (by decide) (by decide) (by decide)
  have c3 := c_wformE 0 1 [2, 1] E3 (by decide +kernel) (by decide) (by decide) (by decide) (by decide)
  rw [encF_eq] at c1
  rw [encF_eq] at c2
  rw [encF_eq] at c3
  refine fnC_v hmix hT ok_example18 (by simp) ?_
  (repeat' (first|refine stp ?_|with_reducible(refine brr ?_ ?_<;>intro h)));all_goals try(conv=>whnf)
  refine callV_data c1 rfl ?_
  (repeat' (first|refine stp ?_|with_reducible(refine brr ?_ ?_<;>intro h)));all_goals try(conv=>whnf)
  refine callV_data c2 rfl ?_
  (repeat' (first|refine stp ?_|with_reducible(refine brr ?_ ?_<;>intro h)));all_goals try(conv=>whnf)
  refine callV_data c3 rfl ?_
  (repeat' (first|refine stp ?_|with_reducible(refine brr ?_ ?_<;>intro h)));all_goals try(conv=>whnf)
  exact givesV_to rfl rfl
theorem of18 : ofL [1, 0] = [1, 0] := by decide +kernel
theorem ok_awake18 : FnOk Try.prog 5 Try.f5 (Try.f5.body.getD .skip) [.tmp 0] 69 := ⟨Try.func5, rfl, by decide, Try.ntmps5, Try.results5, by kernel_rfl, by kernel_rfl⟩
theorem c_awake18 : Fn 5 [] (.data (.bool true)) := by
  have co := c_rqof 1 (by decide)
  have l1 : ([cr ((1 : Int) : Rat)] : List RatL).map qv = [1] := by simp only [List.map_cons, List.map_nil, qv_cr]; rfl
  have hu18 : G18.us = [E1, E2] := us18
  have hsv : szV G18 ([cr ((1 : Int) : Rat)].map qv) 2 1280 := szV_of ok18 sm18 va18 (n := 1) rfl (by rw [l1]; rfl) (by rw [l1]; intro q hq; rw [List.mem_singleton.1 hq]; exact sz1 1 (by decide))
  have cp := c_pof G18 [cr ((1 : Int) : Rat)] 2 1280 ok18 (by decide) (by decide) (by decide) va18 ⟨by decide, fun y hy => by rw [List.mem_singleton.1 hy]; exact okQ_le (show 2 ≤ 950000000 by decide) (okQ_cr (sz1 1 (by decide)))⟩ rfl hsv.1 hsv.2.2.1 (by decide)
  rw [hu18, l1, pre18, of18] at cp
  have hcom : comP G18 [1, 2] := ⟨va18, rfl, fun i hi => by
    have : i = 0 ∨ i = 1 := by simp only [List.length_cons, List.length_nil] at hi; omega
    rcases this with rfl | rfl
    · exact Or.inl rfl
    · exact Or.inr rfl⟩
  have hsg : szG G18 [1, 2] 1 2 (kap 1) := szG_of ok18 sm18 va18 rfl
  have cf := c_pFormsX G18 [1, 2] 1 2 (kap 1) ok18 (by decide) (by decide) hcom (by decide) rfl hsg
  have hout : outQ G18 1 [1, 2] = [E4] := by
    unfold outQ
    rw [hu18, show ([E1, E2] : List QF).length = 2 from rfl, frm18]
    unfold G18
    simp only [List.map_cons, List.map_nil, Q_L, out18]
  rw [hout, hu18, show ([E1, E2] : List QF).length = 2 from rfl, frm18] at cf
  have ch := c_ppiece G18 [1, 2] 1 2 (kap 1) ok18 (by decide) (by decide) hcom (by decide) rfl hsg
  have hpie : pieL G18.us 1 [1, 2] = [E1, E5] := by
    rw [hu18]
    show [rowG [E1, E2] 1 [1, 2] 0, rowG [E1, E2] 1 [1, 2] 1] = _
    rw [row18a, row18b]
  rw [hpie] at ch
  have c1 := c_wformE 0 0 [1] E1 (by decide +kernel) (by decide) (by decide) (by decide) (by decide)
  have c4 := c_wformE 0 0 [2] E4 (by decide +kernel) (by decide) (by decide) (by decide) (by decide)
  have c5 := c_wformE (-1) 0 [1] E5 (by decide +kernel) (by decide) (by decide) (by decide) (by decide)
  have s0 := c_sameints [1, 0] (by decide)
  have z : szF 2 zeroQ ∧ zeroQ.ts.length ≤ 1048576 := ⟨szF_zero 2 (by decide), by decide⟩
  have e1 : szF 2 E1 ∧ E1.ts.length ≤ 1048576 := ⟨sE1, by decide⟩
  have s1 := c_sameforms [E1, E1, zeroQ] 2 (by simp only [List.mem_cons, List.not_mem_nil, or_false]; rintro f (rfl | rfl | rfl) <;> assumption) (by decide) (by decide)
  have s2 := c_sameforms [E4] 2 (by simp only [List.mem_cons, List.not_mem_nil, or_false]; rintro f rfl; exact ⟨sE4, by decide⟩) (by decide) (by decide)
  have s3 := c_sameforms [E1, E5] 2 (by simp only [List.mem_cons, List.not_mem_nil, or_false]; rintro f (rfl | rfl); exact e1; exact ⟨sE5, by decide⟩) (by decide) (by decide)
  refine fnC_v hmix hT ok_awake18 (by simp) ?_
  (repeat' (first|refine stp ?_|with_reducible(refine brr ?_ ?_<;>intro h)));all_goals try(conv=>whnf)
  refine callV_data c_example18 rfl ?_
  (repeat' (first|refine stp ?_|with_reducible(refine brr ?_ ?_<;>intro h)));all_goals try(conv=>whnf)
  refine callV_data co rfl ?_
  (repeat' (first|refine stp ?_|with_reducible(refine brr ?_ ?_<;>intro h)));all_goals try(conv=>whnf)
  refine callV_data cp rfl ?_
  (repeat' (first|refine stp ?_|with_reducible(refine brr ?_ ?_<;>intro h)));all_goals try(conv=>whnf)
  refine callV_data c_example18 rfl ?_
  (repeat' (first|refine stp ?_|with_reducible(refine brr ?_ ?_<;>intro h)));all_goals try(conv=>whnf)
  refine callV_data cf rfl ?_
  (repeat' (first|refine stp ?_|with_reducible(refine brr ?_ ?_<;>intro h)));all_goals try(conv=>whnf)
  refine callV_data c_example18 rfl ?_
  (repeat' (first|refine stp ?_|with_reducible(refine brr ?_ ?_<;>intro h)));all_goals try(conv=>whnf)
  refine callV_data ch rfl ?_
  (repeat' (first|refine stp ?_|with_reducible(refine brr ?_ ?_<;>intro h)));all_goals try(conv=>whnf)
  refine callV_data c1 rfl ?_
  (repeat' (first|refine stp ?_|with_reducible(refine brr ?_ ?_<;>intro h)));all_goals try(conv=>whnf)
  refine callV_data s0 rfl ?_
  (repeat' (first|refine stp ?_|with_reducible(refine brr ?_ ?_<;>intro h)));all_goals try(conv=>whnf)
  refine callV_data s1 rfl ?_
  (repeat' (first|refine stp ?_|with_reducible(refine brr ?_ ?_<;>intro h)));all_goals try(conv=>whnf)
  refine callV_data c4 rfl ?_
  (repeat' (first|refine stp ?_|with_reducible(refine brr ?_ ?_<;>intro h)));all_goals try(conv=>whnf)
  refine callV_data s2 rfl ?_
  (repeat' (first|refine stp ?_|with_reducible(refine brr ?_ ?_<;>intro h)));all_goals try(conv=>whnf)
  refine callV_data c5 rfl ?_
  (repeat' (first|refine stp ?_|with_reducible(refine brr ?_ ?_<;>intro h)));all_goals try(conv=>whnf)
  refine callV_data s3 rfl ?_
  (repeat' (first|refine stp ?_|with_reducible(refine brr ?_ ?_<;>intro h)));all_goals try(conv=>whnf)
  exact givesV_to rfl rfl
end Go.PI.Try
namespace Go.PI.Try
set_option linter.unusedSimpArgs false
set_option linter.unnecessarySimpa false
open Go Go.Proofs Go.PI Go.Proofs.Ytiiibhgnmlmoaaa
open Go.ChangeShapes Go.WideShapes Go.ChangeAt Go.RowKit
set_option linter.unusedVariables false
section
variable {H : Type} {enc : TypeId × Value → H} {w : World}
def QGra (x : GraL) (B : Nat) : Prop := ∃ b c, QL QAff x.units b ∧ QL QAff x.outs c ∧ b + c ≤ B
theorem okFs_of {xs : List AffL} {B : Nat} (h : QL QAff xs B) (hB : B ≤ 1048576) : okFs 1048576 xs := by
  refine ⟨by have := QL.len QAff.pos h; omega, fun f hf => ?_⟩
  obtain ⟨d, h5, h6⟩ := h.mem f hf
  exact h5.ok (by omega)
theorem QGra.ok {x : GraL} {B : Nat} (h : QGra x B) (hB : B ≤ 1048576) : okGra 1048576 x := by
  obtain ⟨b, c, h1, h2, h3⟩ := h
  exact ⟨okFs_of h1 (by omega), okFs_of h2 (by omega)⟩
theorem r_ints (m : Nat) : Reads enc Try.prog w m 22 (fun xs : List Int => [.imm (xs.map (.int .i64))]) (QL (fun x b => (Lit.int .i64 x).wf = true ∧ 1 ≤ b)) :=
  (reads_slice (n := m) (sz := 1) Try.underlying22 (by kernel_rfl) (by decide) (fun _ => ⟨rfl, rfl⟩) (reads_int Try.underlying3)).le (by omega)
theorem u8_of {x : Int} (h : (Lit.int .u8 x).wf = true) : 0 ≤ x ∧ x < 256 := by
  have : 0 ≤ x ∧ x ≤ 255 := by simpa [Lit.wf, IntKind.min, IntKind.max, IntKind.signed, IntKind.bits] using h
  omega
theorem ints_len {xs : List Int} {B : Nat} (h : QL (fun x b => (Lit.int .i64 x).wf = true ∧ 1 ≤ b) xs B) (hB : B ≤ 1048576) : xs.length ≤ 1048576 := by
  have := QL.len QInt.pos h; omega
end
end Go.PI.Try
namespace Go.PI.Try
set_option linter.unusedVariables false
set_option linter.unusedSimpArgs false
set_option linter.unnecessarySimpa false
end Go.PI.Try
