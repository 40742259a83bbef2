/-
  The law's own functions: how large a tree and a query are.
-/
import Derived.Test.YtbelmkceegmdjaaGreatDoorCTS
import Derived.Test.YtbelmkceegmdjaaGreatDoorCPE
import Derived.Test.YtbelmkceegmdjaaGreatDoorCKA
import Derived.Test.YtbelmkceegmdjaaGreatDoorCTR
set_option linter.unusedVariables false
set_option linter.unusedSimpArgs false
set_option linter.unnecessarySimpa false
namespace Go.PI.Tryz
open Go.Proofs Go.PI
theorem uGT {q : QryL} {n : NodeL} {Bq Bn : Nat} (h : inB q n Bq Bn) (hw : n.wt ≤ 400) (hr : NodeRg n) : inS q (Bq + n.tot spF) (n.tot vlF) (n.tot uF) n :=
 have hz := h.z hw
 ⟨hz.q, hz.hv, hz.B, hz.z, uFC _ _ (Nat.lt_succ_self _) h.sm hr, by omega⟩
theorem vZV (k i l h : Int) (hk : 0 ≤ k ∧ k ≤ 100) (hi : 0 ≤ i ∧ i ≤ 100) (hl : 0 ≤ l ∧ l ≤ 100) (hh : 0 ≤ h ∧ h ≤ 100) : vKS ⟨k, i, l, h⟩ ∧ vPZ ⟨k, i, l, h⟩ := by
 refine ⟨⟨⟨?_, ?_⟩, ⟨?_, ?_⟩⟩, ⟨?_, ?_⟩⟩ <;> dsimp only <;> omega
theorem vNP : NodeRg leafT := .mk _ (by decide) (fun m hm => by cases hm) ⟨by decide, fun m hm => by rw [List.mem_singleton.1 hm]; exact vZV 1 0 0 0 (by decide) (by decide) (by decide) (by decide)⟩ (by decide) (fun k hk => by cases hk)
theorem uI5 : NodeRg nT := .mk _ (by decide) (fun m hm => by cases hm) ⟨by decide, fun m hm => by cases hm⟩ (by decide) (fun k hk => by
 rw [zJS] at hk;rcases List.mem_cons.1 hk with rfl | hk
 ·exact vNP
 ·rw [List.mem_singleton.1 hk]; exact vNP)
theorem uIL : NodeRg wT := .mk _ (by decide) (fun m hm => by
 rcases List.mem_cons.1 hm with rfl | hm
 ·exact ⟨by decide, fun p hp => by cases hp⟩
 ·rw [List.mem_singleton.1 hm]; exact ⟨by decide, fun p hp => by cases hp⟩) ⟨by decide, fun m hm => by rw [List.mem_singleton.1 hm]; exact vZV 11 0 2 0 (by decide) (by decide) (by decide) (by decide)⟩ (by decide) (fun k hk => by cases hk)
theorem uI0 : szQ qT 2 := by
 have h1 : szF 2 (vCN 0) := ⟨zKC (by decide) (zHJ (z := 0) (by decide)), fun p hp => by rw [List.mem_singleton.1 hp]; exact sz1 1 (by decide)⟩;have a1 := vI2 (sz1 1 (by decide));have a2 := vI2 (sz1 2 (by decide));refine ⟨by decide, ⟨⟨by decide, fun f hf => ?_⟩, ⟨by decide, fun f hf => ?_⟩⟩, ⟨⟨by decide, fun x hx => ?_⟩, ⟨by decide, fun x hx => ?_⟩, (fun f hf => by cases hf), by decide⟩, ?_⟩
 ·rw [List.mem_singleton.1 hf]; exact uC6 h1 (by decide)
 ·rw [List.mem_singleton.1 hf]; exact uC6 h1 (by decide)
 ·rw [List.mem_singleton.1 hx]; exact a1
 ·rw [List.mem_singleton.1 hx]; exact a2
 ·exact zEF (by decide) (uC6 h1 (by decide))
theorem vU0 : vCF (vCE (-1) 0) leafT = leafT := by
 rw [zDZ]; rfl
theorem vTY : vB6 nT 0 0 = leafT := by
 unfold vB6;rw [show nT.kids[0]! = leafT from rfl, vU0];rfl
theorem vXF : onN leafT 0 = false := by rw [vZ4]; rfl
theorem uFA : vCY ⟨qT, [], []⟩ nT = leafT := by
 have hg : vDQ ⟨qT, [], []⟩ nT 0 = true := by
  unfold vDQ;rw [show nT.kids[0]! = leafT from rfl];show (!onN leafT 0 && (vBF ⟨qT, [], []⟩ (vB6 nT 0 0)).isNone) = true
  rw [vXF, vTY, uDI]; rfl
 rw [zDL (vJK (by decide) hg (fun j hj => by omega))];show vCY ⟨qT, [], []⟩ (vB6 nT 0 0) = _
 rw [vTY, zH4 rfl]
theorem uA7 : vDN qT nT = ([], 0) := by unfold vDN; rw [if_pos ⟨vX7, uI1⟩, vZL]
theorem uBC : uFB qT nT = (leafT, 0) := by
 unfold uFB;rw [uA7, if_pos rfl, uFA]
theorem vT1 : vB9 wT = wT' := by
 unfold vB9;rw [if_pos vWE, uEX]
theorem uDJ : vBD leafT = .agg [.imm [], .int .i64 0, .int .i64 0, .bool false, .imm [], .imm [], .imm [], .bool false, .imm [vBA (mE 1)]] := by
 rw [zBJ]; rfl
theorem uKA : vA7 nT = .agg [.imm [], .int .i64 1, .int .i64 0, .bool false, .imm [], .imm [], .imm [.agg [.imm [], .int .i64 0, .int .i64 0, .bool false, .imm [], .imm [], .imm [], .bool false, .imm [vBA (mE 1)]], .agg [.imm [], .int .i64 0, .int .i64 0, .bool false, .imm [], .imm [], .imm [], .bool false, .imm [vBA (mE 1)]]], .bool false, .imm []] := by
 have e : vA7 nT = .agg [.imm [], .int .i64 1, .int .i64 0, .bool false, .imm [], .imm [], .imm [vBD leafT, vBD leafT], .bool false, .imm []] := rfl;rw [e, uDJ]
theorem uJ9 : vBP qT = .agg [.int .i64 1, .imm [vB4 (vCN 0)], .imm [vB4 (vCN 0)], .imm [vA8 (cr 1)], .imm [vA8 (cr 2)], .imm [], .imm ((vCN 0).ts.map vNZ), .bool (cr (vCN 0).c).neg, vBK (cr (vCN 0).c).num, vBK (cr (vCN 0).c).den] := by
 have e1 := vLV (vCN 0)
 have e3 : (vCN 0).L.terms.map vCW = (vCN 0).ts.map vNZ := by
  unfold QF.L; simp only [List.map_map]; rfl
 rw [e1, ← e3];rfl
theorem vTA : FO 30 Tryz.f30 [.cell 4 72] 10 := mkO Tryz.func30 Tryz.ntmps30 Tryz.results30
theorem vOH (k l : Int) : Fn 30 [.int .i64 k, .int .i64 l] (.data (vBA ⟨⟨k, 0, l, 0⟩, cr 1⟩)) := by
 have co := vOB 1 (by decide);refine zAO vBC hT vTA (by simp) ?_;refine sts ?_;refine zAA co rfl ?_;refine sts ?_;exact zAB rfl rfl
theorem vPP : FO 10 Tryz.f10 [.tmp 0] 73 := mkO Tryz.func10 Tryz.ntmps10 Tryz.results10
theorem vJ0 : Fn 10 [] (.data (.bool true)) := by
 have c1 := vOB 1 (by decide);have c2 := vOB 2 (by decide);have v0 := vZA 0;have hin : inB qT nT 2 9 := ⟨uI0, by decide, uI6, uI4, uI7, by rw [uGH]; decide⟩;have t1 := vU7 qT _ _ _ nT (uGT hin (by rw [uGH]; decide) uI5);have t2 := vJX wT uIK uIL (by rw [uIJ]; decide);rw [uBC, uKA, uJ9] at t1;rw [vT1] at t2;refine zAO vBC hT vPP (by simp) ?_;refine sts ?_;refine zAA v0 rfl ?_;refine sts ?_;refine zAA c1 rfl ?_;refine sts ?_;refine zAA c2 rfl ?_;refine sts ?_;refine zAA (vOH 1 0) rfl ?_;refine sts ?_;refine zAA t1 (zAG rfl (zAG rfl rfl)) ?_;refine sts ?_;refine zAA (vOH 11 2) rfl ?_;refine sts ?_;refine zAA t2 (zAG rfl rfl) ?_;refine sts ?_;exact zAB rfl rfl
theorem vPM : FO 11 Tryz.f11 [.tmp 4] 54 := mkO Tryz.func11 Tryz.ntmps11 Tryz.results11
theorem vVE : ∀ (n : Nat) (x : NodeL) (most : Int), SizeOf.sizeOf x < n → x.wt ≤ 2097152 → Fn 11 [vA7 x, .int .i64 most] (.data (.int .i64 (lsz most x))) := by
 intro n
 induction n with
 | zero => intro x y h; omega
 | succ n ih =>
   intro x most hx hs;have hw := x.wt_eq;have hlw := zLP x.lemmas;have hk := zHV most x.kids (fun k _ => zLN most _ k (Nat.lt_succ_self _)) (1 + x.lemmas.length + x.proof.length + ((x.lemmas.map fun x => x.proof.length).sum : Nat));have hlz := uAF most x;have hkl := vLN x;refine zAO vBC hT vPM (by simp) ?_;refine sns ?_
   refine zCD hT (fun i : Nat => [(1, .int .i64 most), (2, .ptr 0 0 0), (5, .int .i64 (1 + x.lemmas.length + x.proof.length + (((x.lemmas.take i).map fun x => x.proof.length).sum : Nat))), (6, .int .i64 i)]) (fun _ => [(0, ⟨[vA7 x], 9, true⟩)]) [] 1 (fun i => i ≤ x.lemmas.length) (fun i => x.lemmas.length - i) 0 (by simp) (by decide) (by simp)
    [0] ⟨zAC rfl rfl, apx, zAC rfl (by simp), zAC rfl rfl, trivial⟩ ⟨bbx, trivial⟩ (by simp) ?_
   intro i hi;have hsl := @sum_take_le _ (fun x : LemL => x.proof.length) x.lemmas i
   (repeat' (first|refine stn ?_|(with_reducible refine brr ?_ ?_<;>intro h)|(with_reducible refine zAD ?_ ?_<;>intro h)|with_reducible refine zAK ?_ ?_)); all_goals try (conv=>whnf)
   ·have hi' : i < x.lemmas.length := by omega
    have hs1 := zFJ (f := fun x : LemL => x.proof.length) hi';have hs2 := @sum_take_le _ (fun x : LemL => x.proof.length) x.lemmas (i + 1);refine zMI (by simp only [List.length_map]; omega) ?_;refine sns ?_;exact ⟨i + 1, [0], ⟨by omega, by omega⟩, ⟨zAC rfl rfl, apx, zAC rfl (by simp only [List.length_map]; omega), zAC rfl (by omega), trivial⟩, ⟨bbx, trivial⟩, by simp [ren]⟩
   ·have e : x.lemmas.take i = x.lemmas := List.take_of_length_le (by omega)
    rw [e];generalize hk0 : (1 + (x.lemmas.length : Int) + x.proof.length + ((x.lemmas.map fun x => x.proof.length).sum : Nat)) = k0 at *
    have kb : ∀ i, k0 ≤ ((x.kids.take i).map (lsz most)).foldl (fun k c => if k ≤ most then k + c else k) k0 ∧ ((x.kids.take i).map (lsz most)).foldl (fun k c => if k ≤ most then k + c else k) k0 ≤ k0 + (x.kids.map NodeL.wt).sum := fun i => by
     have h1 := zHV most (x.kids.take i) (fun k _ => zLN most _ k (Nat.lt_succ_self _)) k0;have h2 := @sum_take_le _ NodeL.wt x.kids i;omega
    refine zCD hT (fun i : Nat => [(1, .int .i64 most), (2, .ptr 0 0 0), (5, .int .i64 (((x.kids.take i).map (lsz most)).foldl (fun k c => if k ≤ most then k + c else k) k0)), (7, .int .i64 i)]) (fun _ => [(0, ⟨[vA7 x], 9, true⟩)]) [] 1 (fun i => i ≤ x.kids.length) (fun i => x.kids.length - i) 0 (by simp) (by decide) (by simp)
     [0] ⟨zAC rfl rfl, apx, zAC rfl rfl, zAC rfl rfl, trivial⟩ ⟨bbx, trivial⟩ (by simp [ren]) ?_
    intro i hi;have kb0 := kb i;have kb1 := kb (i + 1)
    (repeat' (first|refine stn ?_|(with_reducible refine brr ?_ ?_<;>intro h)|(with_reducible refine zAD ?_ ?_<;>intro h)|with_reducible refine zAK ?_ ?_)); all_goals try (conv=>whnf)
    ·have hi' : i < x.kids.length := by omega
     have hkm : x.kids[i]! ∈ x.kids := zA1 hi';have hwk := vZO hkm;have hlb := zLN most _ x.kids[i]! (Nat.lt_succ_self _)
     have hst : ((x.kids.take (i + 1)).map (lsz most)).foldl (fun k c => if k ≤ most then k + c else k) k0 = ((x.kids.take i).map (lsz most)).foldl (fun k c => if k ≤ most then k + c else k) k0 + lsz most x.kids[i]! := by
      rw [List.take_succ_eq_append_getElem hi', List.map_append, List.foldl_append, getElem!_pos x.kids i hi'];simp only [List.map_cons, List.map_nil, List.foldl_cons, List.foldl_nil];rw [if_pos h]
     refine zAA (ih x.kids[i]! most (by have := NodeL.sizeOf_kid hkm; omega) (by omega)) rfl ?_;refine sns ?_;exact ⟨i + 1, [0], ⟨by omega, by omega⟩, ⟨zAC rfl rfl, apx, zAC rfl (by omega), zAC rfl (by omega), trivial⟩, ⟨bbx, trivial⟩, by simp [ren]⟩
    ·refine zAB rfl ?_
     rw [hlz]
     conv => rhs; rw [← List.take_append_drop i x.kids, List.map_append, List.foldl_append, vP1 most _ _ h]
    ·refine zAB rfl ?_
     rw [hlz, List.take_of_length_le (by omega)]
end Go.PI.Tryz
