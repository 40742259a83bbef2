/-
  The node with a path; a node replaced; the scope of a node.
-/
import Derived.Test.YtbelmkceegmdjaaGreatDoorCPD
import Derived.Test.YtbelmkceegmdjaaGreatDoorCNA
import Derived.Test.YtbelmkceegmdjaaGreatDoorCPE
set_option linter.unusedVariables false
set_option linter.unusedSimpArgs false
set_option linter.unnecessarySimpa false
namespace Go.PI.Tryz
open Go.Proofs Go.PI
theorem vX0 : FO 141 Tryz.f141 [.tmp 4] 26 := mkO Tryz.func141 Tryz.ntmps141 Tryz.results141
theorem vVI (xs ys : List Int) (h1 : xs.length < 2097152) : Fn 141 [vBK xs, vBK ys] (.data (.bool (decide (xs = ys)))) := by
 refine zAO vBC hT vX0 (by simp) ?_
 (repeat' (first|refine stn ?_|(with_reducible refine brr ?_ ?_<;>intro h)|(with_reducible refine zAD ?_ ?_<;>intro h)|with_reducible refine zAK ?_ ?_)); all_goals try (conv=>whnf)
 ·refine zAB rfl ?_
  simp; intro e; subst e; exact h rfl
 ·
  refine zBB hT (fun i : Nat => [(0, vBK xs), (1, vBK ys), (12, .int .i64 xs.length), (13, .int .i64 i)]) (fun i => i ≤ xs.length ∧ ∀ j, j < i → xs[j]! = ys[j]!) (fun i => xs.length - i) 0 (by simp) ?_ ?_
  ·exact ⟨zAE rfl rfl, zAE rfl rfl, zAC rfl (by simp), zAC rfl rfl, trivial⟩
  ·intro i ⟨hi1, hi2⟩
   (repeat' (first|refine stn ?_|(with_reducible refine brr ?_ ?_<;>intro h)|(with_reducible refine zAD ?_ ?_<;>intro h)|with_reducible refine zAK ?_ ?_)); all_goals try (conv=>whnf)
   ·refine zAB rfl ?_
    simp; intro e; subst e; exact h rfl
   ·refine ⟨i + 1, ⟨⟨by omega, fun j hj => ?_⟩, by omega⟩, zAE rfl rfl, zAE rfl rfl, zAC rfl rfl, zAC rfl (by omega), trivial⟩
    rcases Nat.lt_succ_iff_lt_or_eq.1 hj with hj | rfl
    ·exact hi2 j hj
    ·assumption
   ·refine zAB rfl ?_
    have : xs = ys := (zDK (by omega)).2 fun j hj => hi2 j (by omega)
    simp [this]
theorem vPH : FO 91 Tryz.f91 [.tmp 4] 26 := mkO Tryz.func91 Tryz.ntmps91 Tryz.results91
theorem vJY (xs ys : List Int) (h1 : xs.length < 2097152) : Fn 91 [vBK xs, vBK ys] (.data (.bool (decide (xs = ys)))) := by
 refine zAO vBC hT vPH (by simp) ?_
 (repeat' (first|refine stn ?_|(with_reducible refine brr ?_ ?_<;>intro h)|(with_reducible refine zAD ?_ ?_<;>intro h)|with_reducible refine zAK ?_ ?_)); all_goals try (conv=>whnf)
 ·refine zAB rfl ?_
  simp; intro e; subst e; exact h rfl
 ·
  refine zBB hT (fun i : Nat => [(0, vBK xs), (1, vBK ys), (5, .int .i64 i)]) (fun i => i ≤ xs.length ∧ ∀ j, j < i → xs[j]! = ys[j]!) (fun i => xs.length - i) 0 (by simp) ?_ ?_
  ·exact ⟨zAE rfl rfl, zAE rfl rfl, zAC rfl rfl, trivial⟩
  ·intro i ⟨hi1, hi2⟩
   (repeat' (first|refine stn ?_|(with_reducible refine brr ?_ ?_<;>intro h)|(with_reducible refine zAD ?_ ?_<;>intro h)|with_reducible refine zAK ?_ ?_)); all_goals try (conv=>whnf)
   ·refine zAB rfl ?_
    simp; intro e; subst e; exact h rfl
   ·refine ⟨i + 1, ⟨⟨by omega, fun j hj => ?_⟩, by omega⟩, zAE rfl rfl, zAE rfl rfl, zAC rfl (by omega), trivial⟩
    rcases Nat.lt_succ_iff_lt_or_eq.1 hj with hj | rfl
    ·exact hi2 j hj
    ·assumption
   ·refine zAB rfl ?_
    have : xs = ys := (zDK (by omega)).2 fun j hj => hi2 j (by omega)
    simp [this]
theorem uF4 : FO 110 Tryz.f110 [.tmp 4] 24 := mkO Tryz.func110 Tryz.ntmps110 Tryz.results110
theorem uJL (x y : RatL) (h1 : x.sm) : Fn 110 [vA8 x, vA8 y] (.data (.bool (decide (x = y)))) := by
 refine zAO vBC hT uF4 (by simp) ?_
 (repeat' (first|refine stn ?_|(with_reducible refine brr ?_ ?_<;>intro h)|(with_reducible refine zAD ?_ ?_<;>intro h)|with_reducible refine zAK ?_ ?_)); all_goals try (conv=>whnf)
 ·refine zAA (vVI _ _ h1.1) rfl ?_
  (repeat' (first|refine stn ?_|(with_reducible refine brr ?_ ?_<;>intro h)|(with_reducible refine zAD ?_ ?_<;>intro h)|with_reducible refine zAK ?_ ?_)); all_goals try (conv=>whnf)
  ·refine zAA (vVI _ _ h1.2) rfl ?_
   refine sns ?_;refine zAB rfl ?_;cases x; cases y; simp_all
  ·refine zAB rfl ?_
   cases x; cases y; simp_all
 ·refine zAB rfl ?_
  cases x; cases y; simp_all
theorem uB7 : FO 51 Tryz.f51 [.tmp 4] 24 := mkO Tryz.func51 Tryz.ntmps51 Tryz.results51
theorem vU9 (x y : RatL) (h1 : x.sm) : Fn 51 [vA8 x, vA8 y] (.data (.bool (decide (x = y)))) := by
 refine zAO vBC hT uB7 (by simp) ?_
 (repeat' (first|refine stn ?_|(with_reducible refine brr ?_ ?_<;>intro h)|(with_reducible refine zAD ?_ ?_<;>intro h)|with_reducible refine zAK ?_ ?_)); all_goals try (conv=>whnf)
 ·refine zAA (vJY _ _ h1.1) rfl ?_
  (repeat' (first|refine stn ?_|(with_reducible refine brr ?_ ?_<;>intro h)|(with_reducible refine zAD ?_ ?_<;>intro h)|with_reducible refine zAK ?_ ?_)); all_goals try (conv=>whnf)
  ·refine zAA (vJY _ _ h1.2) rfl ?_
   refine sns ?_;refine zAB rfl ?_;cases x; cases y; simp_all
  ·refine zAB rfl ?_
   cases x; cases y; simp_all
 ·refine zAB rfl ?_
  cases x; cases y; simp_all
theorem uGB : FO 77 Tryz.f77 [.tmp 4] 24 := mkO Tryz.func77 Tryz.ntmps77 Tryz.results77
theorem uHT (x y : DecL) (h1 : x.sm) : Fn 77 [vA9 x, vA9 y] (.data (.bool (decide (x = y)))) := by
 refine zAO vBC hT uGB (by simp) ?_
 (repeat' (first|refine stn ?_|(with_reducible refine brr ?_ ?_<;>intro h)|(with_reducible refine zAD ?_ ?_<;>intro h)|with_reducible refine zAK ?_ ?_)); all_goals try (conv=>whnf)
 ·refine zAA (uJL x.rat y.rat h1) rfl ?_
  refine sns ?_;refine zAB rfl ?_;cases x; cases y; simp_all
 ·refine zAB rfl ?_
  cases x; cases y; simp_all
 ·refine zAB rfl ?_
  cases x; cases y; simp_all
theorem vPI : FO 31 Tryz.f31 [.tmp 4] 24 := mkO Tryz.func31 Tryz.ntmps31 Tryz.results31
theorem vJZ (x y : DecL) (h1 : x.sm) : Fn 31 [vA9 x, vA9 y] (.data (.bool (decide (x = y)))) := by
 refine zAO vBC hT vPI (by simp) ?_
 (repeat' (first|refine stn ?_|(with_reducible refine brr ?_ ?_<;>intro h)|(with_reducible refine zAD ?_ ?_<;>intro h)|with_reducible refine zAK ?_ ?_)); all_goals try (conv=>whnf)
 ·refine zAA (vU9 x.rat y.rat h1) rfl ?_
  refine sns ?_;refine zAB rfl ?_;cases x; cases y; simp_all
 ·refine zAB rfl ?_
  cases x; cases y; simp_all
 ·refine zAB rfl ?_
  cases x; cases y; simp_all
theorem vIX : FO 33 Tryz.f33 [.tmp 4] 42 := mkO Tryz.func33 Tryz.ntmps33 Tryz.results33
theorem zL6 (xs ys : List MultL) (h1 : vCH xs) : Fn 33 [.imm (xs.map vBA), .imm (ys.map vBA)] (.data (.bool (decide (xs = ys)))) := by
 have hl := h1.1;refine zAO vBC hT vIX (by simp) ?_
 (repeat' (first|refine stn ?_|(with_reducible refine brr ?_ ?_<;>intro h)|(with_reducible refine zAD ?_ ?_<;>intro h)|with_reducible refine zAK ?_ ?_)); all_goals try (conv=>whnf)
 ·refine zAB rfl ?_
  simp; intro e; subst e; exact h rfl
 ·refine zBB hT (fun i : Nat => [(0, .imm (xs.map vBA)), (1, .imm (ys.map vBA)), (5, .int .i64 i)]) (fun i => i ≤ xs.length ∧ ∀ j, j < i → xs[j]! = ys[j]!) (fun i => xs.length - i) 0 (by simp) ?_ ?_
  ·exact ⟨zAE rfl rfl, zAE rfl rfl, zAC rfl rfl, trivial⟩
  ·intro i ⟨hi1, hi2⟩
   (repeat' (first|refine stn ?_|(with_reducible refine brr ?_ ?_<;>intro h)|(with_reducible refine zAD ?_ ?_<;>intro h)|with_reducible refine zAK ?_ ?_)); all_goals try (conv=>whnf)
   ·have hi : i < xs.length := by omega
    have hr := h;refine zAA (vU9 _ ys[i]!.coef (h1.2 _ (zA1 hi))) rfl ?_
    (repeat' (first|refine stn ?_|(with_reducible refine brr ?_ ?_<;>intro h)|(with_reducible refine zAD ?_ ?_<;>intro h)|with_reducible refine zAK ?_ ?_)); all_goals try (conv=>whnf)
    ·refine ⟨i + 1, ⟨⟨by omega, fun j hj => ?_⟩, by omega⟩, zAE rfl rfl, zAE rfl rfl, zAC rfl (by omega), trivial⟩
     rcases Nat.lt_succ_iff_lt_or_eq.1 hj with hj | rfl
     ·exact hi2 j hj
     ·exact vX9 hr (by assumption)
    ·refine zAB rfl ?_; simp only [PV.bool.injEq]; refine (decide_eq_false fun e => ?_).symm; subst e; first | exact h rfl | simp at h | simp_all
   ·refine zAB rfl ?_; simp only [PV.bool.injEq]; refine (decide_eq_false fun e => ?_).symm; subst e; first | exact h rfl | simp at h | simp_all
   ·refine zAB rfl ?_
    have : xs = ys := (zDK (by omega)).2 fun j hj => hi2 j (by omega)
    simp [this]
theorem vK9 : FO 32 Tryz.f32 [.tmp 4] 69 := mkO Tryz.func32 Tryz.ntmps32 Tryz.results32
theorem vP7 (xs ys : List LemL) (h1 : vMM xs) : Fn 32 [.imm (xs.map vBB), .imm (ys.map vBB)] (.data (.bool (decide (xs = ys)))) := by
 have hl := h1.1;refine zAO vBC hT vK9 (by simp) ?_
 (repeat' (first|refine stn ?_|(with_reducible refine brr ?_ ?_<;>intro h)|(with_reducible refine zAD ?_ ?_<;>intro h)|with_reducible refine zAK ?_ ?_)); all_goals try (conv=>whnf)
 ·refine zAB rfl ?_
  simp; intro e; subst e; exact h rfl
 ·refine zBB hT (fun i : Nat => [(0, .imm (xs.map vBB)), (1, .imm (ys.map vBB)), (5, .int .i64 i)]) (fun i => i ≤ xs.length ∧ ∀ j, j < i → xs[j]! = ys[j]!) (fun i => xs.length - i) 0 (by simp) ?_ ?_
  ·exact ⟨zAE rfl rfl, zAE rfl rfl, zAC rfl rfl, trivial⟩
  ·intro i ⟨hi1, hi2⟩
   (repeat' (first|refine stn ?_|(with_reducible refine brr ?_ ?_<;>intro h)|(with_reducible refine zAD ?_ ?_<;>intro h)|with_reducible refine zAK ?_ ?_)); all_goals try (conv=>whnf)
   ·refine zAB rfl ?_; simp only [PV.bool.injEq]; refine (decide_eq_false fun e => ?_).symm; subst e; first | exact h rfl | simp at h | simp_all
   ·refine zAB rfl ?_; simp only [PV.bool.injEq]; refine (decide_eq_false fun e => ?_).symm; subst e; first | exact h rfl | simp at h | simp_all
   ·have hi : i < xs.length := by omega
    refine zAA (vU9 _ ys[i]!.value (h1.2 _ (zA1 hi)).1) rfl ?_
    (repeat' (first|refine stn ?_|(with_reducible refine brr ?_ ?_<;>intro h)|(with_reducible refine zAD ?_ ?_<;>intro h)|with_reducible refine zAK ?_ ?_)); all_goals try (conv=>whnf)
    ·refine zAA (zL6 _ ys[i]!.proof (h1.2 _ (zA1 hi)).2) rfl ?_
     (repeat' (first|refine stn ?_|(with_reducible refine brr ?_ ?_<;>intro h)|(with_reducible refine zAD ?_ ?_<;>intro h)|with_reducible refine zAK ?_ ?_)); all_goals try (conv=>whnf)
     ·refine ⟨i + 1, ⟨⟨by omega, fun j hj => ?_⟩, by omega⟩, zAE rfl rfl, zAE rfl rfl, zAC rfl (by omega), trivial⟩
      rcases Nat.lt_succ_iff_lt_or_eq.1 hj with hj | rfl
      ·exact hi2 j hj
      ·exact uDE (by assumption) (by assumption) (by assumption) (by assumption)
     ·refine zAB rfl ?_; simp only [PV.bool.injEq]; refine (decide_eq_false fun e => ?_).symm; subst e; first | exact h rfl | simp at h | simp_all
    ·refine zAB rfl ?_; simp only [PV.bool.injEq]; refine (decide_eq_false fun e => ?_).symm; subst e; first | exact h rfl | simp at h | simp_all
   ·refine zAB rfl ?_
    have : xs = ys := (zDK (by omega)).2 fun j hj => hi2 j (by omega)
    simp [this]
theorem vLB : FO 12 Tryz.f12 [.tmp 4] 63 := mkO Tryz.func12 Tryz.ntmps12 Tryz.results12
theorem vP9 : ∀ (n : Nat) (x y : NodeL), SizeOf.sizeOf x < n → x.Sm → Fn 12 [vA7 x, vA7 y] (.data (.bool (decide (x = y)))) := by
 intro n
 induction n with
 | zero => intro x y h; omega
 | succ n ih =>
   intro x y hx hs;have hl := hs.len;refine zAO vBC hT vLB (by simp) ?_
   (repeat' (first|refine stn ?_|(with_reducible refine brr ?_ ?_<;>intro h)|(with_reducible refine zAD ?_ ?_<;>intro h)|with_reducible refine zAK ?_ ?_)); all_goals try (conv=>whnf)
   ·refine zAB rfl ?_; simp only [PV.bool.injEq]; refine (decide_eq_false fun e => ?_).symm; subst e; first | exact h rfl | simp at h | simp_all
   ·have e1 := h
    refine zAA (vJZ x.split y.split hs.dec) rfl ?_
    (repeat' (first|refine stn ?_|(with_reducible refine brr ?_ ?_<;>intro h)|(with_reducible refine zAD ?_ ?_<;>intro h)|with_reducible refine zAK ?_ ?_)); all_goals try (conv=>whnf)
    ·have e2 := h
     refine zAA (vP7 x.lemmas y.lemmas hs.lems) rfl ?_
     (repeat' (first|refine stn ?_|(with_reducible refine brr ?_ ?_<;>intro h)|(with_reducible refine zAD ?_ ?_<;>intro h)|with_reducible refine zAK ?_ ?_)); all_goals try (conv=>whnf)
     ·have e3 := h
      refine zAA (zL6 x.proof y.proof hs.prf) rfl ?_
      (repeat' (first|refine stn ?_|(with_reducible refine brr ?_ ?_<;>intro h)|(with_reducible refine zAD ?_ ?_<;>intro h)|with_reducible refine zAK ?_ ?_)); all_goals try (conv=>whnf)
      ·refine zAB rfl ?_; simp only [PV.bool.injEq]; refine (decide_eq_false fun e => ?_).symm; subst e; first | exact h rfl | simp at h | simp_all
      ·have e4 := h
       refine zCD hT (fun i : Nat => [(2, .ptr 0 0 0), (3, .ptr 1 0 0), (5, .int .i64 i)]) (fun _ => [(0, ⟨[vA7 x], 9, true⟩), (1, ⟨[vA7 y], 9, true⟩)]) [] 2 (fun i => i ≤ x.kids.length ∧ ∀ j, j < i → x.kids[j]! = y.kids[j]!) (fun i => x.kids.length - i) 0 (by simp) (by decide) (by simp)
        [0, 1] ⟨apx, apx, zAC rfl rfl, trivial⟩ ⟨bbx, bbx, trivial⟩ (by simp [ren]) ?_
       intro i ⟨hi1, hi2⟩
       (repeat' (first|refine stn ?_|(with_reducible refine brr ?_ ?_<;>intro h)|(with_reducible refine zAD ?_ ?_<;>intro h)|with_reducible refine zAK ?_ ?_)); all_goals try (conv=>whnf)
       ·have hi : i < x.kids.length := by omega
        refine zAA (ih x.kids[i]! y.kids[i]! (by have := NodeL.sizeOf_kid (zA1 hi); omega) (hs.kid (zA1 hi))) rfl ?_
        (repeat' (first|refine stn ?_|(with_reducible refine brr ?_ ?_<;>intro h)|(with_reducible refine zAD ?_ ?_<;>intro h)|with_reducible refine zAK ?_ ?_)); all_goals try (conv=>whnf)
        ·refine ⟨i + 1, [0, 1], ⟨⟨by omega, fun j hj => ?_⟩, by omega⟩, ⟨apx, apx, zAC rfl (by omega), trivial⟩, ⟨bbx, bbx, trivial⟩, by simp [ren]⟩
         rcases Nat.lt_succ_iff_lt_or_eq.1 hj with hj | rfl
         ·exact hi2 j hj
         ·assumption
        ·refine zAB rfl ?_; simp only [PV.bool.injEq]; refine (decide_eq_false fun e => ?_).symm; subst e; first | exact h rfl | simp at h | simp_all
       ·refine zAB rfl ?_
        have : x.kids = y.kids := (zDK (by omega)).2 fun j hj => hi2 j (by omega)
        simp only [PV.bool.injEq];exact (decide_eq_true (vX5 e3 e2 this e1 (by assumption))).symm
      ·refine zAB rfl ?_; simp only [PV.bool.injEq]; refine (decide_eq_false fun e => ?_).symm; subst e; first | exact h rfl | simp at h | simp_all
     ·refine zAB rfl ?_; simp only [PV.bool.injEq]; refine (decide_eq_false fun e => ?_).symm; subst e; first | exact h rfl | simp at h | simp_all
    ·refine zAB rfl ?_; simp only [PV.bool.injEq]; refine (decide_eq_false fun e => ?_).symm; subst e; first | exact h rfl | simp at h | simp_all
def lsz (most : Int) (n : NodeL) : Int := (n.kids.attach.map fun ⟨k, _⟩ => lsz most k).foldl (fun k c => if k ≤ most then k + c else k) (1 + n.lemmas.length + n.proof.length + ((n.lemmas.map fun x => x.proof.length).sum : Nat))
termination_by SizeOf.sizeOf n
decreasing_by exact NodeL.sizeOf_kid ‹_›
theorem uAF (most : Int) (n : NodeL) : lsz most n = (n.kids.map (lsz most)).foldl (fun k c => if k ≤ most then k + c else k) (1 + n.lemmas.length + n.proof.length + ((n.lemmas.map fun x => x.proof.length).sum : Nat)) := by
 rw [lsz]
 congr 1
 simp
theorem zHV (most : Int) (l : List NodeL) (h : ∀ k ∈ l, 1 ≤ lsz most k ∧ lsz most k ≤ k.wt) : ∀ k0 : Int, k0 ≤ (l.map (lsz most)).foldl (fun k c => if k ≤ most then k + c else k) k0 ∧ (l.map (lsz most)).foldl (fun k c => if k ≤ most then k + c else k) k0 ≤ k0 + (l.map NodeL.wt).sum := by
 induction l with
 | nil => intro k0; simp
 | cons a l ih =>
   intro k0;have h1 := h a (by simp);have h2 := ih (fun k hk => h k (by simp [hk])) (if k0 ≤ most then k0 + lsz most a else k0);simp only [List.map_cons, List.foldl_cons, List.sum_cons]
   split at h2 <;> rename_i hc
   ·rw [if_pos hc]; omega
   ·rw [if_neg hc]; omega
theorem zLN (most : Int) : ∀ (n : Nat) (x : NodeL), SizeOf.sizeOf x < n → 1 ≤ lsz most x ∧ lsz most x ≤ x.wt := by
 intro n
 induction n with
 | zero => intro x h; omega
 | succ n ih =>
   intro x hx;have h := zHV most x.kids (fun k hk => ih k (by have := NodeL.sizeOf_kid hk; omega)) (1 + x.lemmas.length + x.proof.length + ((x.lemmas.map fun x => x.proof.length).sum : Nat));have hw := x.wt_eq;have hl := zLP x.lemmas;rw [uAF];omega
theorem vP1 (most : Int) (l : List Int) (k : Int) (h : ¬ k ≤ most) : l.foldl (fun k c => if k ≤ most then k + c else k) k = k := by
 induction l with
 | nil => rfl
 | cons a l ih => rw [List.foldl_cons, if_neg h]; exact ih
theorem vLN (n : NodeL) : n.kids.length < n.wt := by
 rw [n.wt_eq]
 have : ∀ l : List NodeL, l.length ≤ (l.map NodeL.wt).sum := by
  intro l
  induction l with
  | nil => simp
  | cons a l ih =>
    simp only [List.length_cons, List.map_cons, List.sum_cons];have := a.wt_eq;omega
 have := this n.kids;omega
theorem zIN : FO 52 Tryz.f52 [.tmp 6, .tmp 7] 84 := mkO Tryz.func52 Tryz.ntmps52 Tryz.results52
def vHT (d m : Int) (x : NodeL) (k : Int) (b : Bool) : Prop := (b = true ↔ vBE d.toNat x = true ∧ (x.cnt : Int) ≤ m) ∧ (b = true → k = x.cnt) ∧ 0 ≤ k ∧ k ≤ max m 0
theorem uD1 : ∀ (n : Nat) (x : NodeL) (d m : Int), SizeOf.sizeOf x < n → x.Sm → 0 ≤ d → d ≤ 2048 → m ≤ 65536 → -65536 ≤ m → ∃ k b, vHT d m x k b ∧ Fn 52 [vA7 x, .int .i64 d, .int .i64 m] (.data (.tup [.int .i64 k, .bool b])) := by
 intro n
 induction n with
 | zero => intro x d m h; omega
 | succ n ih =>
   intro x d m hx hs hd0 hd1 hm hm0;have hno : ∀ k, 0 ≤ k → k ≤ max m 0 → ¬ (vBE d.toNat x = true ∧ (x.cnt : Int) ≤ m) → vHT d m x k false := fun k h1 h2 h => ⟨by simpa using h, by simp, h1, h2⟩
   have hc := zE0 x;by_cases hm1 : m < 1
   ·refine ⟨0, false, hno 0 (by omega) (by omega) (by omega), ?_⟩
    refine zAO vBC hT zIN (by simp) ?_
    (repeat' (first|refine stn ?_|(with_reducible refine brr ?_ ?_<;>intro h)|(with_reducible refine zAD ?_ ?_<;>intro h)|with_reducible refine zAK ?_ ?_)); all_goals try (conv=>whnf)
    ·exact zAB rfl rfl
    all_goals omega
   ·by_cases hk0 : x.kids.length = 0
    ·refine ⟨1, vD3 x, ?_, ?_⟩
     ·have h1 := zBR (d := d.toNat) hk0
      have h2 := zHD hk0;unfold vHT;rw [h1, h2];refine ⟨⟨fun h => ⟨h, by omega⟩, fun h => h.1⟩, fun _ => rfl, by omega, by omega⟩
     ·refine zAO vBC hT zIN (by simp) ?_
      (repeat' (first|refine stn ?_|(with_reducible refine brr ?_ ?_<;>intro h)|(with_reducible refine zAD ?_ ?_<;>intro h)|with_reducible refine zAK ?_ ?_)); all_goals try (conv=>whnf)
      ·omega
      ·refine zAA (uHT x.split ⟨0, 0, ⟨false, [], []⟩⟩ hs.dec) rfl ?_
       refine sns ?_;exact zAB rfl rfl
      all_goals omega
    ·by_cases hin : vBU x = true ∧ d ≠ 0
     ·obtain ⟨hin, hd⟩ := hin
      have hin' := hin;simp only [vBU, decide_eq_true_eq] at hin';obtain ⟨i1, i2, i3, i4, i5⟩ := hin';have e2 := zCW (d := d.toNat) i1;have e3 := vHK i1;have k0 : x.kids[0]! ∈ x.kids := zA1 (by omega);have k1 : x.kids[1]! ∈ x.kids := zA1 (by omega);have ed : (d - 1).toNat = d.toNat - 1 := by omega
      obtain ⟨a, ok, ⟨a1, a2, a3, a4⟩, ha⟩ := ih x.kids[0]! (d - 1) (m - 1) (by have := NodeL.sizeOf_kid k0; omega) (hs.kid k0) (by omega) (by omega) (by omega) (by omega);rw [ed] at a1;rw [hin, decide_eq_true (show d.toNat ≠ 0 by omega), Bool.and_true, Bool.true_and] at e2;have hp := zE0 x.kids[1]!;cases ok with
      | false =>
        refine ⟨0, false, hno 0 (by omega) (by omega) (fun h => ?_), ?_⟩
        ·rw [e2, Bool.and_eq_true] at h
         exact absurd (a1.2 ⟨h.1.1, by omega⟩) (by simp)
        ·refine zAO vBC hT zIN (by simp) ?_
         (repeat' (first|refine stn ?_|(with_reducible refine brr ?_ ?_<;>intro h)|(with_reducible refine zAD ?_ ?_<;>intro h)|with_reducible refine zAK ?_ ?_)); all_goals try (conv=>whnf)
         all_goals try (exfalso; first | omega | simp_all; done)
         refine zAA ha rfl ?_;refine sns ?_;exact zAB rfl rfl
      | true =>
        obtain ⟨b, ok, ⟨b1, b2, b3, b4⟩, hb⟩ := ih x.kids[1]! (d - 1) (m - 1 - a) (by have := NodeL.sizeOf_kid k1; omega) (hs.kid k1) (by omega) (by omega) (by omega) (by omega);rw [ed] at b1;have a2 := a2 rfl;have a1 := a1.1 rfl;refine ⟨1 + a + b, ok, ⟨?_, ?_, by omega, by omega⟩, ?_⟩
        ·rw [e2, Bool.and_eq_true, b1]
         constructor
         ·intro h; exact ⟨⟨a1.1, h.1⟩, by omega⟩
         ·intro h; exact ⟨h.1.2, by omega⟩
        ·intro h; have := b2 h; omega
        ·refine zAO vBC hT zIN (by simp) ?_
         (repeat' (first|refine stn ?_|(with_reducible refine brr ?_ ?_<;>intro h)|(with_reducible refine zAD ?_ ?_<;>intro h)|with_reducible refine zAK ?_ ?_)); all_goals try (conv=>whnf)
         all_goals try (exfalso; first | omega | simp_all; done)
         refine zAA ha rfl ?_;refine sns ?_;refine zAA hb rfl ?_;refine sns ?_;exact zAB rfl rfl
     ·refine ⟨0, false, hno 0 (by omega) (by omega) (fun h => hin ?_), ?_⟩
      ·rw [zA3 hk0] at h
       simp only [Bool.and_eq_true, decide_eq_true_eq] at h;exact ⟨h.1.1.1, by omega⟩
      ·refine zAO vBC hT zIN (by simp) ?_
       (repeat' (first|refine stn ?_|(with_reducible refine brr ?_ ?_<;>intro h)|(with_reducible refine zAD ?_ ?_<;>intro h)|with_reducible refine zAK ?_ ?_)); all_goals try (conv=>whnf)
       all_goals try (exact zAB rfl rfl)
       all_goals try (exfalso; omega)
       exfalso;apply hin;simp only [vBU, decide_eq_true_eq];refine ⟨⟨?_, ?_, ?_, ?_, ?_⟩, ?_⟩ <;> first | assumption | omega
theorem vXH : FO 34 Tryz.f34 [.tmp 2] 11 := mkO Tryz.func34 Tryz.ntmps34 Tryz.results34
theorem zJX (x : NodeL) (hs : x.Sm) : Fn 34 [vA7 x] (.data (.bool x.valid)) := by
 obtain ⟨k, b, ⟨h1, _, _, _⟩, hr⟩ := uD1 _ x 2048 65536 (Nat.lt_succ_self _) hs (by omega) (by omega) (by omega) (by omega);refine zAO vBC hT vXH (by simp) ?_;refine sns ?_;refine zAA hr rfl ?_;refine sns ?_;refine zAB rfl ?_;simp only [PV.bool.injEq];rw [Bool.eq_iff_iff, h1];simp only [NodeL.valid, Bool.and_eq_true, decide_eq_true_eq];exact and_congr Iff.rfl (by omega)
def NodeL.size (x : NodeL) : Nat := if x.valid then x.cnt else 0
theorem zLI : FO 44 Tryz.f44 [.tmp 4, .tmp 5] 77 := mkO Tryz.func44 Tryz.ntmps44 Tryz.results44
def vHV (d : Int) (x : NodeL) (k : Int) (b : Bool) : Prop := (b = true → d ≤ 2048 ∧ vBE (2048 - d).toNat x = true ∧ k = x.cnt) ∧ (d ≤ 2048 → vBE (2048 - d).toNat x = true → x.cnt ≤ 65536 → b = true) ∧ 0 ≤ k ∧ k ≤ (2050 - d) * 65537
theorem uHS : ∀ (n : Nat) (x : NodeL) (d : Int), SizeOf.sizeOf x < n → x.Sm → 0 ≤ d → d ≤ 2049 → ∃ k b, vHV d x k b ∧ Fn 44 [vA7 x, .int .i64 d] (.data (.tup [.bool b, .int .i64 k])) := by
 intro n
 induction n with
 | zero => intro x d h; omega
 | succ n ih =>
   intro x d hx hs hd0 hd1;have hc := zE0 x;have hno : ¬ (d ≤ 2048 ∧ vBE (2048 - d).toNat x = true ∧ x.cnt ≤ 65536) → vHV d x 0 false := fun h => ⟨by simp, fun h0 h1 h2 => absurd ⟨h0, h1, h2⟩ h, by omega, by omega⟩
   by_cases hdd : 2048 < d
   ·refine ⟨0, false, hno (by omega), ?_⟩
    refine zAO vBC hT zLI (by simp) ?_
    (repeat' (first|refine stn ?_|(with_reducible refine brr ?_ ?_<;>intro h)|(with_reducible refine zAD ?_ ?_<;>intro h)|with_reducible refine zAK ?_ ?_)); all_goals try (conv=>whnf)
    all_goals try (exact zAB rfl rfl)
    all_goals (exfalso; omega)
   ·by_cases hk0 : x.kids.length = 0
    ·refine ⟨1, vD3 x, ?_, ?_⟩
     ·have h1 := zBR (d := (2048 - d).toNat) hk0
      have h2 := zHD hk0;unfold vHV;rw [h1, h2];exact ⟨fun h => ⟨by omega, h, rfl⟩, fun _ h _ => h, by omega, by omega⟩
     ·refine zAO vBC hT zLI (by simp) ?_
      (repeat' (first|refine stn ?_|(with_reducible refine brr ?_ ?_<;>intro h)|(with_reducible refine zAD ?_ ?_<;>intro h)|with_reducible refine zAK ?_ ?_)); all_goals try (conv=>whnf)
      ·exfalso; omega
      ·refine zAA (vJZ x.split ⟨0, 0, ⟨false, [], []⟩⟩ hs.dec) rfl ?_
       refine sns ?_;exact zAB rfl rfl
      all_goals (exfalso; omega)
    ·by_cases hin : vBU x = true
     ·have hin' := hin
      simp only [vBU, decide_eq_true_eq] at hin';obtain ⟨i1, i2, i3, i4, i5⟩ := hin';have e2 := zCW (d := (2048 - d).toNat) i1;have e3 := vHK i1;have k0 : x.kids[0]! ∈ x.kids := zA1 (by omega);have k1 : x.kids[1]! ∈ x.kids := zA1 (by omega);have ed : (2048 - (d + 1)).toNat = (2048 - d).toNat - 1 := by omega
      obtain ⟨a, ok, ⟨a1, a2, a3, a4⟩, ha⟩ := ih x.kids[0]! (d + 1) (by have := NodeL.sizeOf_kid k0; omega) (hs.kid k0) (by omega) (by omega);rw [ed] at a1 a2;rw [hin, Bool.true_and] at e2;have hp := zE0 x.kids[1]!;by_cases hbad : ok = false ∨ a > 65536
      ·refine ⟨0, false, hno (fun h => ?_), ?_⟩
       ·rw [e2] at h
        simp only [Bool.and_eq_true, decide_eq_true_eq] at h;rcases hbad with hb | hb
        ·have := a2 (by omega) h.2.1.2.1 (by omega); rw [hb] at this; cases this
        ·cases ok with
         | false => have := a2 (by omega) h.2.1.2.1 (by omega); cases this
         | true => have := (a1 rfl).2.2; omega
       ·refine zAO vBC hT zLI (by simp) ?_
        (repeat' (first|refine stn ?_|(with_reducible refine brr ?_ ?_<;>intro h)|(with_reducible refine zAD ?_ ?_<;>intro h)|with_reducible refine zAK ?_ ?_)); all_goals try (conv=>whnf)
        all_goals try (exfalso; first | omega | simp_all; done)
        refine zAA ha rfl ?_
        (repeat' (first|refine stn ?_|(with_reducible refine brr ?_ ?_<;>intro h)|(with_reducible refine zAD ?_ ?_<;>intro h)|with_reducible refine zAK ?_ ?_)); all_goals try (conv=>whnf)
        all_goals try (exact zAB rfl rfl)
        all_goals (exfalso; rcases hbad with hb | hb <;> first | omega | simp_all)
      ·have hok : ok = true := by cases ok <;> simp_all
       subst hok;have ha6 : a ≤ 65536 := by omega
       obtain ⟨a1, a5, a6⟩ := a1 rfl;obtain ⟨b, ok, ⟨b1, b2, b3, b4⟩, hb⟩ := ih x.kids[1]! (d + 1) (by have := NodeL.sizeOf_kid k1; omega) (hs.kid k1) (by omega) (by omega);rw [ed] at b1 b2;refine ⟨1 + a + b, ok, ⟨?_, ?_, by omega, by omega⟩, ?_⟩
       ·intro h
        obtain ⟨b1, b5, b6⟩ := b1 h;rw [e2, a5, b5];exact ⟨by omega, by simp; omega, by omega⟩
       ·intro h0 h h2
        rw [e2] at h;simp only [Bool.and_eq_true, decide_eq_true_eq] at h;exact b2 (by omega) h.2.2 (by omega)
       ·refine zAO vBC hT zLI (by simp) ?_
        (repeat' (first|refine stn ?_|(with_reducible refine brr ?_ ?_<;>intro h)|(with_reducible refine zAD ?_ ?_<;>intro h)|with_reducible refine zAK ?_ ?_)); all_goals try (conv=>whnf)
        all_goals try (exfalso; first | omega | simp_all; done)
        refine zAA ha rfl ?_
        (repeat' (first|refine stn ?_|(with_reducible refine brr ?_ ?_<;>intro h)|(with_reducible refine zAD ?_ ?_<;>intro h)|with_reducible refine zAK ?_ ?_)); all_goals try (conv=>whnf)
        all_goals try (exfalso; first | omega | simp_all; done)
        refine zAA hb rfl ?_;refine sns ?_;exact zAB rfl rfl
     ·refine ⟨0, false, hno (fun h => hin ?_), ?_⟩
      ·rw [zA3 hk0] at h
       simp only [Bool.and_eq_true, decide_eq_true_eq] at h;exact h.2.1.1.1
      ·refine zAO vBC hT zLI (by simp) ?_
       (repeat' (first|refine stn ?_|(with_reducible refine brr ?_ ?_<;>intro h)|(with_reducible refine zAD ?_ ?_<;>intro h)|with_reducible refine zAK ?_ ?_)); all_goals try (conv=>whnf)
       all_goals try (exact zAB rfl rfl)
       all_goals try (exfalso; omega)
       exfalso;apply hin;simp only [vBU, decide_eq_true_eq];refine ⟨?_, ?_, ?_, ?_, ?_⟩ <;> first | assumption | omega
theorem vLA : FO 21 Tryz.f21 [.tmp 2] 15 := mkO Tryz.func21 Tryz.ntmps21 Tryz.results21
theorem vP8 (x : NodeL) (hs : x.Sm) : Fn 21 [vA7 x] (.data (.bool x.valid)) := by
 obtain ⟨k, b, ⟨h1, h2, _, _⟩, hr⟩ := uHS _ x 0 (Nat.lt_succ_self _) hs (by omega) (by omega);have e0 : (2048 - (0 : Int)).toNat = 2048 := rfl;rw [e0] at h1 h2;refine zAO vBC hT vLA (by simp) ?_;refine sns ?_;refine zAA hr rfl ?_
 (repeat' (first|refine stn ?_|(with_reducible refine brr ?_ ?_<;>intro h)|(with_reducible refine zAD ?_ ?_<;>intro h)|with_reducible refine zAK ?_ ?_)); all_goals try (conv=>whnf)
 all_goals refine zAB rfl ?_
 all_goals simp only [PV.bool.injEq]
 all_goals rw [Bool.eq_iff_iff]
 all_goals simp only [NodeL.valid, Bool.and_eq_true, decide_eq_true_eq]
 ·have ⟨_, h3, h4⟩ := h1 (by assumption)
  constructor
  ·intro h; exact ⟨h3, by omega⟩
  ·intro h; omega
 ·constructor
  ·intro h; cases h
  ·intro ⟨h3, h4⟩
   have := h2 (by omega) h3 h4
   simp_all
theorem vLG : FO 74 Tryz.f74 [.tmp 2] 8 := mkO Tryz.func74 Tryz.ntmps74 Tryz.results74
theorem zHG {α : Type} (enc : α → PV) (hf : ∀ h n x, frz h (n + 1) (enc x) = some (enc x, [])) (hs : ∀ x, (enc x).cells.length = 5 ∧ (enc x).isAgg = true) (xs : List α) (hl : xs.length < 2097152) : Fn 74 [.imm (xs.map enc)] (.fresh (xs.map enc) 5 true) := by
 refine zD6 vBC hT vLG (by simp) ?_
 (repeat' (first|refine stn ?_|(with_reducible refine brr ?_ ?_<;>intro h)|(with_reducible refine zAD ?_ ?_<;>intro h)|with_reducible refine zAK ?_ ?_)); all_goals try (conv=>whnf)
 ·subst h; exact zC4
 all_goals refine zCR hs rfl ?_
 all_goals ((refine sns ?_))
 all_goals refine zBI rfl rfl ?_ rfl (zDY (fun x => hf _ _ x) _)
 all_goals simp
theorem vLF : FO 105 Tryz.f105 [.tmp 2] 8 := mkO Tryz.func105 Tryz.ntmps105 Tryz.results105
theorem vQB {α : Type} (enc : α → PV) (hf : ∀ h n x, frz h (n + 1) (enc x) = some (enc x, [])) (hs : ∀ x, (enc x).cells.length = 6 ∧ (enc x).isAgg = true) (xs : List α) (hl : xs.length < 2097152) : Fn 105 [.imm (xs.map enc)] (.fresh (xs.map enc) 6 true) := by
 refine zD6 vBC hT vLF (by simp) ?_
 (repeat' (first|refine stn ?_|(with_reducible refine brr ?_ ?_<;>intro h)|(with_reducible refine zAD ?_ ?_<;>intro h)|with_reducible refine zAK ?_ ?_)); all_goals try (conv=>whnf)
 ·subst h; exact zC4
 all_goals refine zCR hs rfl ?_
 all_goals ((refine sns ?_))
 all_goals refine zBI rfl rfl ?_ rfl (zDY (fun x => hf _ _ x) _)
 all_goals simp
theorem vI1 : FO 140 Tryz.f140 [.tmp 2] 8 := mkO Tryz.func140 Tryz.ntmps140 Tryz.results140
theorem vL6 {α : Type} (enc : α → PV) (hf : ∀ h n x, frz h (n + 1) (enc x) = some (enc x, [])) (hs : ∀ x, (enc x).cells.length = 9 ∧ (enc x).isAgg = true) (xs : List α) (hl : xs.length < 2097152) : Fn 140 [.imm (xs.map enc)] (.fresh (xs.map enc) 9 true) := by
 refine zD6 vBC hT vI1 (by simp) ?_
 (repeat' (first|refine stn ?_|(with_reducible refine brr ?_ ?_<;>intro h)|(with_reducible refine zAD ?_ ?_<;>intro h)|with_reducible refine zAK ?_ ?_)); all_goals try (conv=>whnf)
 ·subst h; exact zC4
 all_goals refine zCR hs rfl ?_
 all_goals ((refine sns ?_))
 all_goals refine zBI rfl rfl ?_ rfl (zDY (fun x => hf _ _ x) _)
 all_goals simp
theorem vSX : FO 168 Tryz.f168 [.cell 2 28] 17 := mkO Tryz.func168 Tryz.ntmps168 Tryz.results168
theorem uHB (d : DecL) : Fn 168 [vA9 d] (.data (vA9 (opp d))) := by
 obtain ⟨k, i, r⟩ := d;by_cases h0 : 0 < k ∧ k < 5
 ·obtain rfl | rfl | rfl | rfl : k = 1 ∨ k = 2 ∨ k = 3 ∨ k = 4 := by omega
  all_goals refine zAO vBC hT vSX (by simp) ?_
  all_goals ((refine sns ?_))
  all_goals exact zAB rfl rfl
 ·refine zAO vBC hT vSX (by simp) ?_
  (repeat' (first|refine stn ?_|(with_reducible refine brr ?_ ?_<;>intro h)|(with_reducible refine zAD ?_ ?_<;>intro h)|with_reducible refine zAK ?_ ?_)); all_goals try (conv=>whnf)
  all_goals try (exfalso; omega)
  all_goals refine zAB rfl ?_
  all_goals simp only [opp, uF3, vA9]
  all_goals rw [if_neg (by omega), if_neg (by omega), if_neg (by omega), if_neg (by omega)]
theorem ok_kid : FO 138 Tryz.f138 [.tmp 6] 19 := mkO Tryz.func138 Tryz.ntmps138 Tryz.results138
theorem uHP (path : List DecL) (n : NodeL) (i : Nat) (hp : path.length < 2097151) : Fn 138 [.imm (path.map vA9), vA7 n, .int .i64 i] (.fresh ((path ++ [vC6 n i]).map vA9) 5 true) := by
 refine zD6 vBC hT ok_kid (by simp) ?_
 (repeat' (first|refine stn ?_|(with_reducible refine brr ?_ ?_<;>intro h)|(with_reducible refine zAD ?_ ?_<;>intro h)|with_reducible refine zAK ?_ ?_)); all_goals try (conv=>whnf)
 ·obtain rfl : i = 1 := by omega
  refine zAA (uHB n.split) rfl ?_;refine sns ?_;refine zA5 (zHG vA9 (fun _ _ x => zEY x) (fun _ => ⟨rfl, rfl⟩) path (by omega)) rfl ?_;refine sns ?_;refine zBI rfl ?_ ?_ rfl (zDY (fun x => zEY x) _)
  ·simp [vC6]; rfl
  ·simp
 ·refine zA5 (zHG vA9 (fun _ _ x => zEY x) (fun _ => ⟨rfl, rfl⟩) path (by omega)) rfl ?_
  refine sns ?_;refine zBI rfl ?_ ?_ rfl (zDY (fun x => zEY x) _)
  ·simp [vC6, show i ≠ 1 by omega]; rfl
  ·simp
def vBX (n : NodeL) (d : DecL) : Option Nat := (List.range n.kids.length).find? fun i => vC6 n i = d
theorem uCL : FO 103 Tryz.f103 [.tmp 4] 23 := mkO Tryz.func103 Tryz.ntmps103 Tryz.results103
theorem uAS (n : NodeL) (d : DecL) (hs : n.Sm) : Fn 103 [vA7 n, vA9 d] (.data (.int .i64 (match vBX n d with | some i => (i : Int) | none => -1))) := by
 have hl := hs.len;refine zAO vBC hT uCL (by simp) ?_;refine sns ?_
 refine zCD hT (fun i : Nat => [(2, .ptr 0 0 0), (3, .ptr 1 0 0), (9, .int .i64 n.kids.length), (10, .int .i64 i)]) (fun _ => [(0, ⟨[vA7 n], 9, true⟩), (1, ⟨[vA9 d], 5, true⟩)]) [] 2 (fun i => i ≤ n.kids.length ∧ ∀ j, j < i → vC6 n j ≠ d) (fun i => n.kids.length - i) 0 (by simp) (by decide) (by simp)
  [0, 1] ⟨apx, apx, zAC rfl (by simp), zAC rfl rfl, trivial⟩ ⟨bbx, bbx, trivial⟩ (by simp [ren]) ?_
 intro i ⟨hi, hn⟩
 (repeat' (first|refine stn ?_|(with_reducible refine brr ?_ ?_<;>intro h)|(with_reducible refine zAD ?_ ?_<;>intro h)|with_reducible refine zAK ?_ ?_)); all_goals try (conv=>whnf)
 ·refine zA5 (uHP [] n i (by simp)) rfl ?_
  refine sns ?_;refine zAA (uHT (vC6 n i) d (by unfold vC6; split <;> exact hs.dec)) rfl ?_
  (repeat' (first|refine stn ?_|(with_reducible refine brr ?_ ?_<;>intro h)|(with_reducible refine zAD ?_ ?_<;>intro h)|with_reducible refine zAK ?_ ?_)); all_goals try (conv=>whnf)
  ·refine zAB rfl ?_
   have : vBX n d = some i := by
    unfold vBX;rw [List.find?_eq_some_iff_append];refine ⟨by simpa using h, List.range i, (List.range (n.kids.length - i - 1)).map (· + i + 1), ?_, fun j hj => ?_⟩
    ·have e : n.kids.length = i + 1 + (n.kids.length - i - 1) := by omega
     rw [e, List.range_add, List.range_succ, List.append_assoc]
     congr 2
     rw [show i + 1 + (n.kids.length - i - 1) - i - 1 = n.kids.length - i - 1 by omega];simp only [List.singleton_append, List.cons.injEq, List.map_inj_left];exact ⟨trivial, fun a _ => by omega⟩
    ·simpa using hn j (by simpa using hj)
   rw [this]
  ·refine ⟨i + 1, [0, 1], ⟨⟨by omega, fun j hj => ?_⟩, by omega⟩, ⟨apx, apx, zAC rfl rfl, zAC rfl (by omega), trivial⟩, ⟨bbx, bbx, trivial⟩, by simp [ren]⟩
   rcases Nat.lt_succ_iff_lt_or_eq.1 hj with hj | rfl
   ·exact hn j hj
   ·assumption
 ·refine zAB rfl ?_
  have : vBX n d = none := by
   unfold vBX;rw [List.find?_eq_none];intro j hj
   simpa using hn j (by simp at hj; omega)
  rw [this]
def pre (path : List DecL) (l : List (List DecL × NodeL)) : List (List DecL × NodeL) := l.map fun q => (path ++ q.1, q.2)
theorem vSH (path : List DecL) (l : List (List DecL × NodeL)) : (pre path l).length = l.length := by simp [pre]
theorem vVW : ∀ (n : Nat) (x : NodeL), SizeOf.sizeOf x < n → x.all.length ≤ x.wt ∧ ∀ i, (x.upto i).length ≤ x.wt := by
 intro n
 induction n with
 | zero => intro x h; omega
 | succ n ih =>
   intro x hx
   have hu : ∀ i, i ≤ x.kids.length → (x.upto i).length ≤ 1 + ((x.kids.take i).map NodeL.wt).sum := by
    intro i
    induction i with
    | zero => intro _; simp [NodeL.upto_zero]
    | succ i ihi =>
      intro hi;have h1 := ihi (by omega);have h2 := (ih x.kids[i]! (by have := NodeL.sizeOf_kid (zA1 (show i < x.kids.length by omega)); omega)).1;rw [x.upto_succ (by omega), List.length_append, List.length_map, zFJ (by omega)];omega
   have hw := x.wt_eq
   have hall : ∀ i, i ≤ x.kids.length → (x.upto i).length ≤ x.wt := fun i hi => by
    have h1 := hu i hi;have h2 := @sum_take_le _ NodeL.wt x.kids i;omega
   refine ⟨by rw [x.all_eq]; exact hall _ (Nat.le_refl _), fun i => ?_⟩;by_cases hi : i ≤ x.kids.length
   ·exact hall i hi
   ·have : x.upto i = x.upto x.kids.length := by
     unfold NodeL.upto;rw [List.take_of_length_le (by simp; omega), List.take_of_length_le (by simp)]
    rw [this]; exact hall _ (Nat.le_refl _)
def vFK (x : NodeL) : List (List DecL × NodeL) := if x.valid then x.all else []
theorem pre_nil (l : List (List DecL × NodeL)) : pre [] l = l := by simp [pre]
instance : Inhabited (List DecL × NodeL) := ⟨([], default)⟩
def zeroN : NodeL := .mk [] ⟨0, 0, ⟨false, [], []⟩⟩ [] false []
def atF : NodeL → List DecL → Option NodeL
 | n, [] => some n
 | n, d :: p => match vBX n d with
   | some i => atF n.kids[i]! p
   | none => none
theorem zCG {n : NodeL} {d : DecL} {i : Nat} (h : vBX n d = some i) : i < n.kids.length ∧ vC6 n i = d := by
 unfold vBX at h;have h1 := List.mem_of_find?_eq_some h;have h2 := List.find?_some h;simp at h1 h2;exact ⟨h1, h2⟩
theorem vPT {n : NodeL} {d : DecL} (hl : 0 < n.kids.length) (h : vC6 n 0 = d) : vBX n d = some 0 := by
 unfold vBX;obtain ⟨k, hk⟩ : ∃ k, n.kids.length = k + 1 := ⟨n.kids.length - 1, by omega⟩;rw [hk, List.range_succ_eq_map, List.find?_cons];simp [h]
def atV (x : NodeL) (path : List DecL) : Option NodeL := if x.valid then atF x path else none
theorem uI2 : FO 70 Tryz.f70 [.cell 4 32, .tmp 5] 32 := mkO Tryz.func70 Tryz.ntmps70 Tryz.results70
theorem uKH (x : NodeL) (path : List DecL) (hs : x.Sm) (hp : path.length < 2097152) : Fn 70 [vA7 x, .imm (path.map vA9)] (.data (.tup [vA7 ((atV x path).getD zeroN), .bool (atV x path).isSome])) := by
 refine zAO vBC hT uI2 (by simp) ?_;refine sns ?_;refine zAA (zJX x hs) rfl ?_
 (repeat' (first|refine stn ?_|(with_reducible refine brr ?_ ?_<;>intro h)|(with_reducible refine zAD ?_ ?_<;>intro h)|with_reducible refine zAK ?_ ?_)); all_goals try (conv=>whnf)
 ·have hv := h
  refine zA0 hT (fun s : Nat × NodeL => [(2, .ptr 0 0 0), (4, .ptr 1 0 0), (13, .imm (path.map vA9)), (14, .int .i64 path.length), (15, .int .i64 s.1)]) (fun s => [(0, ⟨[vA7 s.2], 9, true⟩), (1, ⟨[vA7 zeroN], 9, true⟩)]) [] 2 (fun s => s.1 ≤ path.length ∧ s.2.Sm ∧ atF x path = atF s.2 (path.drop s.1)) (fun s => path.length - s.1) (0, x) ⟨by simp, hs, by simp⟩ (by decide) (by simp) ?_ ?_
  ·refine ⟨[0, 1], [], [], [(1, [vA7 zeroN])], ⟨trivial, trivial, ⟨⟨_, 4, _, rfl, rfl, rfl⟩, trivial⟩⟩, ⟨apx, apx, zAE rfl rfl, zAC rfl (by simp), zAC rfl rfl, trivial⟩, ⟨bbx, bbx, trivial⟩, by simp [ren]⟩
  ·intro ⟨i, m⟩ ⟨hi, hm, he⟩
   dsimp only at hi hm he
   (repeat' (first|refine stn ?_|(with_reducible refine brr ?_ ?_<;>intro h)|(with_reducible refine zAD ?_ ?_<;>intro h)|with_reducible refine zAK ?_ ?_)); all_goals try (conv=>whnf)
   ·have hi' : i < path.length := by omega
    have hd : path.drop i = path[i]! :: path.drop (i + 1) := by rw [getElem!_pos path i hi', ← List.drop_eq_getElem_cons hi']
    have hc := uAS m path[i]! hm;rw [hd, atF] at he;cases hk : vBX m path[i]! with
    | none =>
      rw [hk] at hc he;refine zAA hc rfl ?_;refine sns ?_;refine zAB rfl ?_;have : atV x path = none := by simp [atV, hv, he]
      rw [this]; rfl
    | some j =>
      rw [hk] at hc he;have hj := (zCG hk).1;refine zAA hc rfl ?_;refine sns ?_;refine ⟨(i + 1, m.kids[j]!), ⟨⟨by simp only; omega, hm.kid (zA1 hj), he⟩, by simp only; omega⟩, [0, 1], [], [], [], ttt, ⟨apx, apx, zAE rfl rfl, zAC rfl rfl, zAC rfl rfl, trivial⟩, ⟨bbx, bbx, trivial⟩, by simp [ren]⟩
   ·refine zAB rfl ?_
    have : atV x path = some m := by
     rw [atV, hv, if_pos rfl, he, List.drop_eq_nil_of_le (by omega)]; rfl
    rw [this]; rfl
 ·have : atV x path = none := by simp [atV, h]
  rw [this];exact zAB rfl rfl
def vBT (n : NodeL) (i : Nat) (k : NodeL) : NodeL := .mk n.lemmas n.split (n.kids.set i k) n.empty n.proof
def vB7 (w : NodeL) : NodeL → List DecL → Option NodeL
 | _, [] => some w
 | n, d :: p => match vBX n d with
   | some i => (vB7 w n.kids[i]! p).map fun k => vBT n i k
   | none => none
def vMX (w : NodeL) : NodeL → List DecL → NodeL
 | _, [] => w
 | n, d :: p => match vBX n d with
   | some i => vBT n i (vMX w n.kids[i]! p)
   | none => zeroN
theorem zM0 : FO 106 Tryz.f106 [.cell 6 32, .tmp 7] 46 := mkO Tryz.func106 Tryz.ntmps106 Tryz.results106
theorem vVB (w : NodeL) : ∀ (path : List DecL) (x : NodeL), x.Sm → path.length < 2097152 → Fn 106 [vA7 x, .imm (path.map vA9), vA7 w] (.data (.tup [vA7 (vMX w x path), .bool (vB7 w x path).isSome])) := by
 intro path
 induction path with
 | nil =>
   intro x hs hp;refine zAO vBC hT zM0 (by simp) ?_;refine sns ?_;exact zAB rfl rfl
 | cons d p ih =>
   intro x hs hp;refine zAO vBC hT zM0 (by simp) ?_;refine sns ?_;have hc := uAS x d hs;cases hk : vBX x d with
   | none =>
     rw [hk] at hc;refine zAA hc rfl ?_;refine sns ?_;refine zAB rfl ?_;have h1 : vMX w x (d :: p) = zeroN := by simp only [vMX, hk]
     have h2 : vB7 w x (d :: p) = none := by simp only [vB7, hk]
     rw [h1, h2]; rfl
   | some i =>
     rw [hk] at hc;have hi := (zCG hk).1;have hl := hs.len;simp only [List.length_cons] at hp;refine zAA hc rfl ?_;refine sns ?_;refine zBP (l' := p) (by simp) ?_;refine sns ?_;refine zAA (ih x.kids[i]! (hs.kid (zA1 hi)) (by omega)) rfl ?_;refine sns ?_;refine zA5 (vL6 vBD (fun _ _ x => zG8 x) zB7 x.kids hl) rfl ?_;refine sns ?_;refine vX3 i (by simp) hi ?_;refine sns ?_
     have e1 : (x.kids.map vBD).set (0 + ((match some i with | some i => (i : Int) | none => -1) : Int).toNat) (vA7 (vMX w x.kids[i]! p)) = (x.kids.set i (vMX w x.kids[i]! p)).map vBD := by
      rw [List.map_set, zBJ]; simp
     refine zAB (vHD (zAG (zD5 (zAG rfl (zAG rfl (zAG rfl (zAG rfl (zAG rfl (zAG rfl (zAG (zAM rfl e1 (by simp) (fun x => zG8 x)) rfl)))))))) rfl)) ?_;have h1 : vMX w x (d :: p) = vBT x i (vMX w x.kids[i]! p) := by simp only [vMX, hk]
     have h2 : (vB7 w x (d :: p)).isSome = (vB7 w x.kids[i]! p).isSome := by simp only [vB7, hk]; cases vB7 w x.kids[i]! p <;> rfl
     rw [h1, h2]; rfl
theorem vR7 {w : NodeL} : ∀ {path : List DecL} {x k : NodeL}, vB7 w x path = some k → vMX w x path = k
 | [], x, k, h => by simp only [vB7, Option.some.injEq] at h; simp only [vMX]; exact h
 | d :: p, x, k, h => by
   simp only [vB7] at h;simp only [vMX];cases hk : vBX x d with
   | none => rw [hk] at h; cases h
   | some i =>
     rw [hk] at h;simp only [Option.map_eq_some_iff] at h;obtain ⟨k', h1, h2⟩ := h;dsimp only;rw [vR7 h1]; exact h2
theorem vRT {x k : NodeL} {i : Nat} (hx : x.Sm) (hk : k.Sm) : (vBT x i k).Sm := by
 refine .mk _ hx.lems hx.dec (by simp only [vBT, NodeL.kids, List.length_set]; exact hx.len) (fun z hz => ?_) hx.prf;simp only [vBT, NodeL.kids] at hz;rcases List.mem_or_eq_of_mem_set hz with h | h
 ·exact hx.kid h
 ·subst h; exact hk
theorem vR6 {w : NodeL} (hw : w.Sm) : ∀ {path : List DecL} {x : NodeL}, x.Sm → (vB7 w x path).isSome → (vMX w x path).Sm
 | [], x, _, _ => hw
 | d :: p, x, hx, h => by
   simp only [vB7] at h;simp only [vMX];cases hk : vBX x d with
   | none => rw [hk] at h; cases h
   | some i =>
     rw [hk] at h;refine vRT hx (vR6 hw (hx.kid (zA1 (zCG hk).1)) ?_);dsimp only at h;cases hr : vB7 w x.kids[i]! p with
     | none => rw [hr] at h; cases h
     | some _ => rfl
def vMW (w x : NodeL) (path : List DecL) : NodeL × Int :=
 if x.valid && w.valid then (match vB7 w x path with
  | some k => if k.valid then (k, 0) else (zeroN, 8)
  | none => (zeroN, 10)) else (zeroN, 1)
theorem vK8 : FO 72 Tryz.f72 [.cell 6 32, .tmp 7] 34 := mkO Tryz.func72 Tryz.ntmps72 Tryz.results72
theorem vP6 (w x : NodeL) (path : List DecL) (hs : x.Sm) (hw : w.Sm) (hp : path.length < 2097152) : Fn 72 [vA7 x, .imm (path.map vA9), vA7 w] (.data (.tup [vA7 (vMW w x path).1, .int .i64 (vMW w x path).2])) := by
 refine zAO vBC hT vK8 (by simp) ?_;refine sns ?_;refine zAA (zJX x hs) rfl ?_
 (repeat' (first|refine stn ?_|(with_reducible refine brr ?_ ?_<;>intro h)|(with_reducible refine zAD ?_ ?_<;>intro h)|with_reducible refine zAK ?_ ?_)); all_goals try (conv=>whnf)
 ·refine zAA (zJX w hw) rfl ?_
  (repeat' (first|refine stn ?_|(with_reducible refine brr ?_ ?_<;>intro h)|(with_reducible refine zAD ?_ ?_<;>intro h)|with_reducible refine zAK ?_ ?_)); all_goals try (conv=>whnf)
  ·have hx := h
   have hxv : x.valid = true := by assumption
   refine zAA (vVB w path x hs hp) rfl ?_;cases hr : vB7 w x path with
   | none =>
     refine sns ?_;have : vMW w x path = (zeroN, 10) := by simp [vMW, hxv, hx, hr]
     rw [this]; exact zAB rfl rfl
   | some k =>
     have hk := vR7 hr;have hsm : k.Sm := by rw [← hk]; exact vR6 hw hs (by rw [hr]; rfl)
     rw [hk];refine sns ?_;refine zAA (zJX k hsm) rfl ?_
     (repeat' (first|refine stn ?_|(with_reducible refine brr ?_ ?_<;>intro h)|(with_reducible refine zAD ?_ ?_<;>intro h)|with_reducible refine zAK ?_ ?_)); all_goals try (conv=>whnf)
     ·have : vMW w x path = (k, 0) := by simp [vMW, hxv, hx, hr, h]
      rw [this]; exact zAB rfl rfl
     ·have : vMW w x path = (zeroN, 8) := by simp [vMW, hxv, hx, hr, h]
      rw [this]; exact zAB rfl rfl
  ·have hxv : x.valid = true := by assumption
   have : vMW w x path = (zeroN, 1) := by simp [vMW, hxv, h]
   rw [this]; exact zAB rfl rfl
 ·have : vMW w x path = (zeroN, 1) := by simp [vMW, h]
  rw [this]; exact zAB rfl rfl
theorem uF2 {d : DecL} (h1 : 1 ≤ d.kind) (h2 : d.kind ≤ 4) : opp d ≠ d := by
 intro h;have := congrArg DecL.kind h;simp only [opp, uF3] at this
 split at this
 ·omega
 ·split at this
  ·omega
  ·split at this
   ·omega
   ·split at this <;> omega
theorem vVR (w : NodeL) : ∀ (path : List DecL) (x : NodeL), (atF x path).isSome = (vB7 w x path).isSome
 | [], x => rfl
 | d :: p, x => by
   simp only [atF, vB7];cases vBX x d with
   | none => rfl
   | some i => simp only [Option.isSome_map]; exact vVR w p _
end Go.PI.Tryz
