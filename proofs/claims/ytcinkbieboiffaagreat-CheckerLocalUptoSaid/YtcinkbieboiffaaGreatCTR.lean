/-
  The node with a path; a node replaced; the scope of a node.
-/
import Derived.Test.YtcinkbieboiffaaGreatCPD
import Derived.Test.YtcinkbieboiffaaGreatCNA
import Derived.Test.YtcinkbieboiffaaGreatCPE
set_option linter.unusedVariables false
set_option linter.unusedSimpArgs false
set_option linter.unnecessarySimpa false
namespace Go.PI.Tryz
open Go.Proofs Go.PI
theorem ok_sameNat : FO 102 Tryz.f102 [.tmp 4] 26 := mkO Tryz.func102 Tryz.ntmps102 Tryz.results102
theorem c_sameNat (xs ys : List Int) (h1 : xs.length < 2097152) : Fn 102 [encN xs, encN ys] (.data (.bool (decide (xs = ys)))) := by
 refine zAJ hmix hT ok_sameNat (by simp) ?_
 (repeat' (first|refine stn ?_|(with_reducible refine brr ?_ ?_<;>intro h)|(with_reducible refine zAF ?_ ?_<;>intro h)|with_reducible refine zAL ?_ ?_)); all_goals try (conv=>whnf)
 ·refine zAB rfl ?_
  simp; intro e; subst e; exact h rfl
 ·
  refine zBE hT (fun i : Nat => [(0, encN xs), (1, encN ys), (5, .int .i64 i)]) (fun i => i ≤ xs.length ∧ ∀ j, j < i → xs[j]! = ys[j]!) (fun i => xs.length - i) 0 (by simp) ?_ ?_
  ·exact ⟨zAE rfl rfl, zAE rfl rfl, zAC rfl rfl, trivial⟩
  ·intro i ⟨hi1, hi2⟩
   (repeat' (first|refine stn ?_|(with_reducible refine brr ?_ ?_<;>intro h)|(with_reducible refine zAF ?_ ?_<;>intro h)|with_reducible refine zAL ?_ ?_)); all_goals try (conv=>whnf)
   ·refine zAB rfl ?_
    simp; intro e; subst e; exact h rfl
   ·refine ⟨i + 1, ⟨⟨by omega, fun j hj => ?_⟩, by omega⟩, zAE rfl rfl, zAE rfl rfl, zAC rfl (by omega), trivial⟩
    rcases Nat.lt_succ_iff_lt_or_eq.1 hj with hj | rfl
    ·exact hi2 j hj
    ·assumption
   ·refine zAB rfl ?_
    have : xs = ys := (zEA (by omega)).2 fun j hj => hi2 j (by omega)
    simp [this]
theorem ok_same : FO 64 Tryz.f64 [.tmp 4] 24 := mkO Tryz.func64 Tryz.ntmps64 Tryz.results64
theorem c_same (x y : RatL) (h1 : x.sm) : Fn 64 [encRat x, encRat y] (.data (.bool (decide (x = y)))) := by
 refine zAJ hmix hT ok_same (by simp) ?_
 (repeat' (first|refine stn ?_|(with_reducible refine brr ?_ ?_<;>intro h)|(with_reducible refine zAF ?_ ?_<;>intro h)|with_reducible refine zAL ?_ ?_)); all_goals try (conv=>whnf)
 ·refine zAA (c_sameNat _ _ h1.1) rfl ?_
  (repeat' (first|refine stn ?_|(with_reducible refine brr ?_ ?_<;>intro h)|(with_reducible refine zAF ?_ ?_<;>intro h)|with_reducible refine zAL ?_ ?_)); all_goals try (conv=>whnf)
  ·refine zAA (c_sameNat _ _ h1.2) rfl ?_
   refine sns ?_;refine zAB rfl ?_;cases x; cases y; simp_all
  ·refine zAB rfl ?_
   cases x; cases y; simp_all
 ·refine zAB rfl ?_
  cases x; cases y; simp_all
theorem ok_sameDec : FO 53 Tryz.f53 [.tmp 4] 24 := mkO Tryz.func53 Tryz.ntmps53 Tryz.results53
theorem zJI (x y : DecL) (h1 : x.sm) : Fn 53 [encDec x, encDec y] (.data (.bool (decide (x = y)))) := by
 refine zAJ hmix hT ok_sameDec (by simp) ?_
 (repeat' (first|refine stn ?_|(with_reducible refine brr ?_ ?_<;>intro h)|(with_reducible refine zAF ?_ ?_<;>intro h)|with_reducible refine zAL ?_ ?_)); all_goals try (conv=>whnf)
 ·refine zAA (c_same x.rat y.rat h1) rfl ?_
  refine sns ?_;refine zAB rfl ?_;cases x; cases y; simp_all
 ·refine zAB rfl ?_
  cases x; cases y; simp_all
 ·refine zAB rfl ?_
  cases x; cases y; simp_all
theorem ok_sameMults : FO 69 Tryz.f69 [.tmp 4] 42 := mkO Tryz.func69 Tryz.ntmps69 Tryz.results69
theorem zMV (xs ys : List MultL) (h1 : smMults xs) : Fn 69 [.imm (xs.map encMult), .imm (ys.map encMult)] (.data (.bool (decide (xs = ys)))) := by
 have hl := h1.1;refine zAJ hmix hT ok_sameMults (by simp) ?_
 (repeat' (first|refine stn ?_|(with_reducible refine brr ?_ ?_<;>intro h)|(with_reducible refine zAF ?_ ?_<;>intro h)|with_reducible refine zAL ?_ ?_)); all_goals try (conv=>whnf)
 ·refine zAB rfl ?_
  simp; intro e; subst e; exact h rfl
 ·refine zBE hT (fun i : Nat => [(0, .imm (xs.map encMult)), (1, .imm (ys.map encMult)), (5, .int .i64 i)]) (fun i => i ≤ xs.length ∧ ∀ j, j < i → xs[j]! = ys[j]!) (fun i => xs.length - i) 0 (by simp) ?_ ?_
  ·exact ⟨zAE rfl rfl, zAE rfl rfl, zAC rfl rfl, trivial⟩
  ·intro i ⟨hi1, hi2⟩
   (repeat' (first|refine stn ?_|(with_reducible refine brr ?_ ?_<;>intro h)|(with_reducible refine zAF ?_ ?_<;>intro h)|with_reducible refine zAL ?_ ?_)); all_goals try (conv=>whnf)
   ·have hi : i < xs.length := by omega
    have hr := h;refine zAA (c_same _ ys[i]!.coef (h1.2 _ (zCA hi))) rfl ?_
    (repeat' (first|refine stn ?_|(with_reducible refine brr ?_ ?_<;>intro h)|(with_reducible refine zAF ?_ ?_<;>intro h)|with_reducible refine zAL ?_ ?_)); all_goals try (conv=>whnf)
    ·refine ⟨i + 1, ⟨⟨by omega, fun j hj => ?_⟩, by omega⟩, zAE rfl rfl, zAE rfl rfl, zAC rfl (by omega), trivial⟩
     rcases Nat.lt_succ_iff_lt_or_eq.1 hj with hj | rfl
     ·exact hi2 j hj
     ·exact mult_ext hr (by assumption)
    ·refine zAB rfl ?_; simp only [PV.bool.injEq]; refine (decide_eq_false fun e => ?_).symm; subst e; first | exact h rfl | simp at h | simp_all
   ·refine zAB rfl ?_; simp only [PV.bool.injEq]; refine (decide_eq_false fun e => ?_).symm; subst e; first | exact h rfl | simp at h | simp_all
   ·refine zAB rfl ?_
    have : xs = ys := (zEA (by omega)).2 fun j hj => hi2 j (by omega)
    simp [this]
theorem ok_sameLems : FO 68 Tryz.f68 [.tmp 4] 69 := mkO Tryz.func68 Tryz.ntmps68 Tryz.results68
theorem c_sameLems (xs ys : List LemL) (h1 : smLems xs) : Fn 68 [.imm (xs.map encLem), .imm (ys.map encLem)] (.data (.bool (decide (xs = ys)))) := by
 have hl := h1.1;refine zAJ hmix hT ok_sameLems (by simp) ?_
 (repeat' (first|refine stn ?_|(with_reducible refine brr ?_ ?_<;>intro h)|(with_reducible refine zAF ?_ ?_<;>intro h)|with_reducible refine zAL ?_ ?_)); all_goals try (conv=>whnf)
 ·refine zAB rfl ?_
  simp; intro e; subst e; exact h rfl
 ·refine zBE hT (fun i : Nat => [(0, .imm (xs.map encLem)), (1, .imm (ys.map encLem)), (5, .int .i64 i)]) (fun i => i ≤ xs.length ∧ ∀ j, j < i → xs[j]! = ys[j]!) (fun i => xs.length - i) 0 (by simp) ?_ ?_
  ·exact ⟨zAE rfl rfl, zAE rfl rfl, zAC rfl rfl, trivial⟩
  ·intro i ⟨hi1, hi2⟩
   (repeat' (first|refine stn ?_|(with_reducible refine brr ?_ ?_<;>intro h)|(with_reducible refine zAF ?_ ?_<;>intro h)|with_reducible refine zAL ?_ ?_)); all_goals try (conv=>whnf)
   ·refine zAB rfl ?_; simp only [PV.bool.injEq]; refine (decide_eq_false fun e => ?_).symm; subst e; first | exact h rfl | simp at h | simp_all
   ·refine zAB rfl ?_; simp only [PV.bool.injEq]; refine (decide_eq_false fun e => ?_).symm; subst e; first | exact h rfl | simp at h | simp_all
   ·have hi : i < xs.length := by omega
    refine zAA (c_same _ ys[i]!.value (h1.2 _ (zCA hi)).1) rfl ?_
    (repeat' (first|refine stn ?_|(with_reducible refine brr ?_ ?_<;>intro h)|(with_reducible refine zAF ?_ ?_<;>intro h)|with_reducible refine zAL ?_ ?_)); all_goals try (conv=>whnf)
    ·refine zAA (zMV _ ys[i]!.proof (h1.2 _ (zCA hi)).2) rfl ?_
     (repeat' (first|refine stn ?_|(with_reducible refine brr ?_ ?_<;>intro h)|(with_reducible refine zAF ?_ ?_<;>intro h)|with_reducible refine zAL ?_ ?_)); all_goals try (conv=>whnf)
     ·refine ⟨i + 1, ⟨⟨by omega, fun j hj => ?_⟩, by omega⟩, zAE rfl rfl, zAE rfl rfl, zAC rfl (by omega), trivial⟩
      rcases Nat.lt_succ_iff_lt_or_eq.1 hj with hj | rfl
      ·exact hi2 j hj
      ·exact lem_ext (by assumption) (by assumption) (by assumption) (by assumption)
     ·refine zAB rfl ?_; simp only [PV.bool.injEq]; refine (decide_eq_false fun e => ?_).symm; subst e; first | exact h rfl | simp at h | simp_all
    ·refine zAB rfl ?_; simp only [PV.bool.injEq]; refine (decide_eq_false fun e => ?_).symm; subst e; first | exact h rfl | simp at h | simp_all
   ·refine zAB rfl ?_
    have : xs = ys := (zEA (by omega)).2 fun j hj => hi2 j (by omega)
    simp [this]
theorem ok_samePath : FO 15 Tryz.f15 [.tmp 4] 27 := mkO Tryz.func15 Tryz.ntmps15 Tryz.results15
theorem zHQ (xs ys : List DecL) (h1 : smPath xs) : Fn 15 [.imm (xs.map encDec), .imm (ys.map encDec)] (.data (.bool (decide (xs = ys)))) := by
 have hl := h1.1;refine zAJ hmix hT ok_samePath (by simp) ?_
 (repeat' (first|refine stn ?_|(with_reducible refine brr ?_ ?_<;>intro h)|(with_reducible refine zAF ?_ ?_<;>intro h)|with_reducible refine zAL ?_ ?_)); all_goals try (conv=>whnf)
 ·refine zAB rfl ?_
  simp; intro e; subst e; exact h rfl
 ·refine zBE hT (fun i : Nat => [(0, .imm (xs.map encDec)), (1, .imm (ys.map encDec)), (5, .int .i64 i)]) (fun i => i ≤ xs.length ∧ ∀ j, j < i → xs[j]! = ys[j]!) (fun i => xs.length - i) 0 (by simp) ?_ ?_
  ·exact ⟨zAE rfl rfl, zAE rfl rfl, zAC rfl rfl, trivial⟩
  ·intro i ⟨hi1, hi2⟩
   (repeat' (first|refine stn ?_|(with_reducible refine brr ?_ ?_<;>intro h)|(with_reducible refine zAF ?_ ?_<;>intro h)|with_reducible refine zAL ?_ ?_)); all_goals try (conv=>whnf)
   ·have hi : i < xs.length := by omega
    refine zAA (zJI _ ys[i]! (h1.2 _ (zCA hi))) rfl ?_
    (repeat' (first|refine stn ?_|(with_reducible refine brr ?_ ?_<;>intro h)|(with_reducible refine zAF ?_ ?_<;>intro h)|with_reducible refine zAL ?_ ?_)); all_goals try (conv=>whnf)
    ·refine ⟨i + 1, ⟨⟨by omega, fun j hj => ?_⟩, by omega⟩, zAE rfl rfl, zAE rfl rfl, zAC rfl (by omega), trivial⟩
     rcases Nat.lt_succ_iff_lt_or_eq.1 hj with hj | rfl
     ·exact hi2 j hj
     ·assumption
    ·refine zAB rfl ?_; simp only [PV.bool.injEq]; refine (decide_eq_false fun e => ?_).symm; subst e; first | exact h rfl | simp at h | simp_all
   ·refine zAB rfl ?_
    have : xs = ys := (zEA (by omega)).2 fun j hj => hi2 j (by omega)
    simp [this]
end Go.PI.Tryz
namespace Go.PI.Tryz
open Go.Proofs Go.PI
theorem ok_refEqual : FO 29 Tryz.f29 [.tmp 4] 63 := mkO Tryz.func29 Tryz.ntmps29 Tryz.results29
theorem zOD : ∀ (n : Nat) (x y : NodeL), SizeOf.sizeOf x < n → x.Sm → Fn 29 [nodeV x, nodeV y] (.data (.bool (decide (x = y)))) := by
 intro n
 induction n with
 | zero => intro x y h; omega
 | succ n ih =>
   intro x y hx hs;have hl := hs.len;refine zAJ hmix hT ok_refEqual (by simp) ?_
   (repeat' (first|refine stn ?_|(with_reducible refine brr ?_ ?_<;>intro h)|(with_reducible refine zAF ?_ ?_<;>intro h)|with_reducible refine zAL ?_ ?_)); all_goals try (conv=>whnf)
   ·refine zAB rfl ?_; simp only [PV.bool.injEq]; refine (decide_eq_false fun e => ?_).symm; subst e; first | exact h rfl | simp at h | simp_all
   ·have e1 := h
    refine zAA (zJI x.split y.split hs.dec) rfl ?_
    (repeat' (first|refine stn ?_|(with_reducible refine brr ?_ ?_<;>intro h)|(with_reducible refine zAF ?_ ?_<;>intro h)|with_reducible refine zAL ?_ ?_)); all_goals try (conv=>whnf)
    ·have e2 := h
     refine zAA (c_sameLems x.lemmas y.lemmas hs.lems) rfl ?_
     (repeat' (first|refine stn ?_|(with_reducible refine brr ?_ ?_<;>intro h)|(with_reducible refine zAF ?_ ?_<;>intro h)|with_reducible refine zAL ?_ ?_)); all_goals try (conv=>whnf)
     ·have e3 := h
      refine zAA (zMV x.proof y.proof hs.prf) rfl ?_
      (repeat' (first|refine stn ?_|(with_reducible refine brr ?_ ?_<;>intro h)|(with_reducible refine zAF ?_ ?_<;>intro h)|with_reducible refine zAL ?_ ?_)); all_goals try (conv=>whnf)
      ·refine zAB rfl ?_; simp only [PV.bool.injEq]; refine (decide_eq_false fun e => ?_).symm; subst e; first | exact h rfl | simp at h | simp_all
      ·have e4 := h
       refine zDJ hT (fun i : Nat => [(2, .ptr 0 0 0), (3, .ptr 1 0 0), (5, .int .i64 i)]) (fun _ => [(0, ⟨[nodeV x], 9, true⟩), (1, ⟨[nodeV y], 9, true⟩)]) [] 2 (fun i => i ≤ x.kids.length ∧ ∀ j, j < i → x.kids[j]! = y.kids[j]!) (fun i => x.kids.length - i) 0 (by simp) (by decide) (by simp)
        [0, 1] ⟨apx, apx, zAC rfl rfl, trivial⟩ ⟨bbx, bbx, trivial⟩ (by simp [ren]) ?_
       intro i ⟨hi1, hi2⟩
       (repeat' (first|refine stn ?_|(with_reducible refine brr ?_ ?_<;>intro h)|(with_reducible refine zAF ?_ ?_<;>intro h)|with_reducible refine zAL ?_ ?_)); all_goals try (conv=>whnf)
       ·have hi : i < x.kids.length := by omega
        refine zAA (ih x.kids[i]! y.kids[i]! (by have := NodeL.sizeOf_kid (zCA hi); omega) (hs.kid (zCA hi))) rfl ?_
        (repeat' (first|refine stn ?_|(with_reducible refine brr ?_ ?_<;>intro h)|(with_reducible refine zAF ?_ ?_<;>intro h)|with_reducible refine zAL ?_ ?_)); all_goals try (conv=>whnf)
        ·refine ⟨i + 1, [0, 1], ⟨⟨by omega, fun j hj => ?_⟩, by omega⟩, ⟨apx, apx, zAC rfl (by omega), trivial⟩, ⟨bbx, bbx, trivial⟩, by simp [ren]⟩
         rcases Nat.lt_succ_iff_lt_or_eq.1 hj with hj | rfl
         ·exact hi2 j hj
         ·assumption
        ·refine zAB rfl ?_; simp only [PV.bool.injEq]; refine (decide_eq_false fun e => ?_).symm; subst e; first | exact h rfl | simp at h | simp_all
       ·refine zAB rfl ?_
        have : x.kids = y.kids := (zEA (by omega)).2 fun j hj => hi2 j (by omega)
        simp only [PV.bool.injEq];exact (decide_eq_true (node_ext e3 e2 this e1 (by assumption))).symm
      ·refine zAB rfl ?_; simp only [PV.bool.injEq]; refine (decide_eq_false fun e => ?_).symm; subst e; first | exact h rfl | simp at h | simp_all
     ·refine zAB rfl ?_; simp only [PV.bool.injEq]; refine (decide_eq_false fun e => ?_).symm; subst e; first | exact h rfl | simp at h | simp_all
    ·refine zAB rfl ?_; simp only [PV.bool.injEq]; refine (decide_eq_false fun e => ?_).symm; subst e; first | exact h rfl | simp at h | simp_all
end Go.PI.Tryz
namespace Go.PI.Tryz
open Go.Proofs Go.PI
def lsz (most : Int) (n : NodeL) : Int := (n.kids.attach.map fun ⟨k, _⟩ => lsz most k).foldl (fun k c => if k ≤ most then k + c else k) (1 + n.lemmas.length + n.proof.length + ((n.lemmas.map fun x => x.proof.length).sum : Nat))
termination_by SizeOf.sizeOf n
decreasing_by exact NodeL.sizeOf_kid ‹_›
theorem lsz_eq (most : Int) (n : NodeL) : lsz most n = (n.kids.map (lsz most)).foldl (fun k c => if k ≤ most then k + c else k) (1 + n.lemmas.length + n.proof.length + ((n.lemmas.map fun x => x.proof.length).sum : Nat)) := by
 rw [lsz]
 congr 1
 simp
theorem zH6 (most : Int) (l : List NodeL) (h : ∀ k ∈ l, 1 ≤ lsz most k ∧ lsz most k ≤ k.wt) : ∀ k0 : Int, k0 ≤ (l.map (lsz most)).foldl (fun k c => if k ≤ most then k + c else k) k0 ∧ (l.map (lsz most)).foldl (fun k c => if k ≤ most then k + c else k) k0 ≤ k0 + (l.map NodeL.wt).sum := by
 induction l with
 | nil => intro k0; simp
 | cons a l ih =>
   intro k0;have h1 := h a (by simp);have h2 := ih (fun k hk => h k (by simp [hk])) (if k0 ≤ most then k0 + lsz most a else k0);simp only [List.map_cons, List.foldl_cons, List.sum_cons]
   split at h2 <;> rename_i hc
   ·rw [if_pos hc]; omega
   ·rw [if_neg hc]; omega
theorem zI2 (most : Int) : ∀ (n : Nat) (x : NodeL), SizeOf.sizeOf x < n → 1 ≤ lsz most x ∧ lsz most x ≤ x.wt := by
 intro n
 induction n with
 | zero => intro x h; omega
 | succ n ih =>
   intro x hx;have h := zH6 most x.kids (fun k hk => ih k (by have := NodeL.sizeOf_kid hk; omega)) (1 + x.lemmas.length + x.proof.length + ((x.lemmas.map fun x => x.proof.length).sum : Nat));have hw := x.wt_eq;have hl := zE8 x.lemmas;rw [lsz_eq];omega
theorem zKA (most : Int) (l : List Int) (k : Int) (h : ¬ k ≤ most) : l.foldl (fun k c => if k ≤ most then k + c else k) k = k := by
 induction l with
 | nil => rfl
 | cons a l ih => rw [List.foldl_cons, if_neg h]; exact ih
theorem kids_len_wt (n : NodeL) : n.kids.length < n.wt := by
 rw [n.wt_eq]
 have : ∀ l : List NodeL, l.length ≤ (l.map NodeL.wt).sum := by
  intro l
  induction l with
  | nil => simp
  | cons a l ih =>
    simp only [List.length_cons, List.map_cons, List.sum_cons];have := a.wt_eq;omega
 have := this n.kids;omega
theorem foldl_all (most : Int) (l : List NodeL) (h : ∀ k ∈ l, 1 ≤ lsz most k) : ∀ k0 : Int, (l.map (lsz most)).foldl (fun k c => if k ≤ most then k + c else k) k0 ≤ most → (l.map (lsz most)).foldl (fun k c => if k ≤ most then k + c else k) k0 = k0 + (l.map (lsz most)).sum ∧ ∀ k ∈ l, lsz most k ≤ most - k0 := by
 induction l with
 | nil => intro k0 _; simp
 | cons a l ih =>
   intro k0 hk;simp only [List.map_cons, List.foldl_cons, List.sum_cons] at hk ⊢;have ha := h a (by simp)
   have h0 : k0 ≤ most := by
    by_cases h0 : k0 ≤ most
    ·exact h0
    ·rw [if_neg h0, zKA most _ _ h0] at hk; exact absurd hk h0
   rw [if_pos h0] at hk ⊢;obtain ⟨h1, h2⟩ := ih (fun k hk => h k (by simp [hk])) (k0 + lsz most a) hk
   have hb : k0 + lsz most a ≤ most := by
    by_cases hb : k0 + lsz most a ≤ most
    ·exact hb
    ·rw [zKA most _ _ hb] at hk; exact absurd hk hb
   refine ⟨by rw [h1]; omega, fun k hk => ?_⟩;rcases List.mem_cons.1 hk with rfl | hk
   ·omega
   ·have := h2 k hk; omega
def NodeL.size (x : NodeL) : Nat := if x.valid then x.cnt else 0
theorem zMD : FO 58 Tryz.f58 [.tmp 4, .tmp 5] 77 := mkO Tryz.func58 Tryz.ntmps58 Tryz.results58
def FormSays (d : Int) (x : NodeL) (k : Int) (b : Bool) : Prop := (b = true → d ≤ 2048 ∧ formOk (2048 - d).toNat x = true ∧ k = x.cnt) ∧ (d ≤ 2048 → formOk (2048 - d).toNat x = true → x.cnt ≤ 65536 → b = true) ∧ 0 ≤ k ∧ k ≤ (2050 - d) * 65537
theorem c_form : ∀ (n : Nat) (x : NodeL) (d : Int), SizeOf.sizeOf x < n → x.Sm → 0 ≤ d → d ≤ 2049 → ∃ k b, FormSays d x k b ∧ Fn 58 [nodeV x, .int .i64 d] (.data (.tup [.bool b, .int .i64 k])) := by
 intro n
 induction n with
 | zero => intro x d h; omega
 | succ n ih =>
   intro x d hx hs hd0 hd1;have hc := zMQ x;have hno : ¬ (d ≤ 2048 ∧ formOk (2048 - d).toNat x = true ∧ x.cnt ≤ 65536) → FormSays d x 0 false := fun h => ⟨by simp, fun h0 h1 h2 => absurd ⟨h0, h1, h2⟩ h, by omega, by omega⟩
   by_cases hdd : 2048 < d
   ·refine ⟨0, false, hno (by omega), ?_⟩
    refine zAJ hmix hT zMD (by simp) ?_
    (repeat' (first|refine stn ?_|(with_reducible refine brr ?_ ?_<;>intro h)|(with_reducible refine zAF ?_ ?_<;>intro h)|with_reducible refine zAL ?_ ?_)); all_goals try (conv=>whnf)
    all_goals try (exact zAB rfl rfl)
    all_goals (exfalso; omega)
   ·by_cases hk0 : x.kids.length = 0
    ·refine ⟨1, leafOk x, ?_, ?_⟩
     ·have h1 := zCH (d := (2048 - d).toNat) hk0
      have h2 := zGK hk0;unfold FormSays;rw [h1, h2];exact ⟨fun h => ⟨by omega, h, rfl⟩, fun _ h _ => h, by omega, by omega⟩
     ·refine zAJ hmix hT zMD (by simp) ?_
      (repeat' (first|refine stn ?_|(with_reducible refine brr ?_ ?_<;>intro h)|(with_reducible refine zAF ?_ ?_<;>intro h)|with_reducible refine zAL ?_ ?_)); all_goals try (conv=>whnf)
      ·exfalso; omega
      ·refine zAA (zJI x.split ⟨0, 0, ⟨false, [], []⟩⟩ hs.dec) rfl ?_
       refine sns ?_;exact zAB rfl rfl
      all_goals (exfalso; omega)
    ·by_cases hin : innerOk x = true
     ·have hin' := hin
      simp only [innerOk, decide_eq_true_eq] at hin';obtain ⟨i1, i2, i3, i4, i5⟩ := hin';have e2 := zB4 (d := (2048 - d).toNat) i1;have e3 := cnt_two i1;have k0 : x.kids[0]! ∈ x.kids := zCA (by omega);have k1 : x.kids[1]! ∈ x.kids := zCA (by omega);have ed : (2048 - (d + 1)).toNat = (2048 - d).toNat - 1 := by omega
      obtain ⟨a, ok, ⟨a1, a2, a3, a4⟩, ha⟩ := ih x.kids[0]! (d + 1) (by have := NodeL.sizeOf_kid k0; omega) (hs.kid k0) (by omega) (by omega);rw [ed] at a1 a2;rw [hin, Bool.true_and] at e2;have hp := zMQ x.kids[1]!;by_cases hbad : ok = false ∨ a > 65536
      ·refine ⟨0, false, hno (fun h => ?_), ?_⟩
       ·rw [e2] at h
        simp only [Bool.and_eq_true, decide_eq_true_eq] at h;rcases hbad with hb | hb
        ·have := a2 (by omega) h.2.1.2.1 (by omega); rw [hb] at this; cases this
        ·cases ok with
         | false => have := a2 (by omega) h.2.1.2.1 (by omega); cases this
         | true => have := (a1 rfl).2.2; omega
       ·refine zAJ hmix hT zMD (by simp) ?_
        (repeat' (first|refine stn ?_|(with_reducible refine brr ?_ ?_<;>intro h)|(with_reducible refine zAF ?_ ?_<;>intro h)|with_reducible refine zAL ?_ ?_)); all_goals try (conv=>whnf)
        all_goals try (exfalso; first | omega | simp_all; done)
        refine zAA ha rfl ?_
        (repeat' (first|refine stn ?_|(with_reducible refine brr ?_ ?_<;>intro h)|(with_reducible refine zAF ?_ ?_<;>intro h)|with_reducible refine zAL ?_ ?_)); all_goals try (conv=>whnf)
        all_goals try (exact zAB rfl rfl)
        all_goals (exfalso; rcases hbad with hb | hb <;> first | omega | simp_all)
      ·have hok : ok = true := by cases ok <;> simp_all
       subst hok;have ha6 : a ≤ 65536 := by omega
       obtain ⟨a1, a5, a6⟩ := a1 rfl;obtain ⟨b, ok, ⟨b1, b2, b3, b4⟩, hb⟩ := ih x.kids[1]! (d + 1) (by have := NodeL.sizeOf_kid k1; omega) (hs.kid k1) (by omega) (by omega);rw [ed] at b1 b2;refine ⟨1 + a + b, ok, ⟨?_, ?_, by omega, by omega⟩, ?_⟩
       ·intro h
        obtain ⟨b1, b5, b6⟩ := b1 h;rw [e2, a5, b5];exact ⟨by omega, by simp; omega, by omega⟩
       ·intro h0 h h2
        rw [e2] at h;simp only [Bool.and_eq_true, decide_eq_true_eq] at h;exact b2 (by omega) h.2.2 (by omega)
       ·refine zAJ hmix hT zMD (by simp) ?_
        (repeat' (first|refine stn ?_|(with_reducible refine brr ?_ ?_<;>intro h)|(with_reducible refine zAF ?_ ?_<;>intro h)|with_reducible refine zAL ?_ ?_)); all_goals try (conv=>whnf)
        all_goals try (exfalso; first | omega | simp_all; done)
        refine zAA ha rfl ?_
        (repeat' (first|refine stn ?_|(with_reducible refine brr ?_ ?_<;>intro h)|(with_reducible refine zAF ?_ ?_<;>intro h)|with_reducible refine zAL ?_ ?_)); all_goals try (conv=>whnf)
        all_goals try (exfalso; first | omega | simp_all; done)
        refine zAA hb rfl ?_;refine sns ?_;exact zAB rfl rfl
     ·refine ⟨0, false, hno (fun h => hin ?_), ?_⟩
      ·rw [zBW hk0] at h
       simp only [Bool.and_eq_true, decide_eq_true_eq] at h;exact h.2.1.1.1
      ·refine zAJ hmix hT zMD (by simp) ?_
       (repeat' (first|refine stn ?_|(with_reducible refine brr ?_ ?_<;>intro h)|(with_reducible refine zAF ?_ ?_<;>intro h)|with_reducible refine zAL ?_ ?_)); all_goals try (conv=>whnf)
       all_goals try (exact zAB rfl rfl)
       all_goals try (exfalso; omega)
       exfalso;apply hin;simp only [innerOk, decide_eq_true_eq];refine ⟨?_, ?_, ?_, ?_, ?_⟩ <;> first | assumption | omega
theorem ok_refValid : FO 20 Tryz.f20 [.tmp 2] 15 := mkO Tryz.func20 Tryz.ntmps20 Tryz.results20
theorem zD2 (x : NodeL) (hs : x.Sm) : Fn 20 [nodeV x] (.data (.bool x.valid)) := by
 obtain ⟨k, b, ⟨h1, h2, _, _⟩, hr⟩ := c_form _ x 0 (Nat.lt_succ_self _) hs (by omega) (by omega);have e0 : (2048 - (0 : Int)).toNat = 2048 := rfl;rw [e0] at h1 h2;refine zAJ hmix hT ok_refValid (by simp) ?_;refine sns ?_;refine zAA hr rfl ?_
 (repeat' (first|refine stn ?_|(with_reducible refine brr ?_ ?_<;>intro h)|(with_reducible refine zAF ?_ ?_<;>intro h)|with_reducible refine zAL ?_ ?_)); all_goals try (conv=>whnf)
 all_goals refine zAB rfl ?_
 all_goals simp only [PV.bool.injEq]
 all_goals rw [Bool.eq_iff_iff]
 all_goals simp only [NodeL.valid, Bool.and_eq_true, decide_eq_true_eq]
 ·have ⟨_, h3, h4⟩ := h1 (by assumption)
  constructor
  ·intro h; exact ⟨h3, by omega⟩
  ·intro h; omega
 ·constructor
  ·intro h; cases h
  ·intro ⟨h3, h4⟩
   have := h2 (by omega) h3 h4
   simp_all
end Go.PI.Tryz
namespace Go.PI.Tryz
open Go.Proofs Go.PI
theorem ok_refOpp : FO 101 Tryz.f101 [.cell 2 39] 18 := mkO Tryz.func101 Tryz.ntmps101 Tryz.results101
theorem c_refOpp (d : DecL) : Fn 101 [encDec d] (.data (encDec (opp d))) := by
 refine zAJ hmix hT ok_refOpp (by simp) ?_
 (repeat' (first|refine stn ?_|(with_reducible refine brr ?_ ?_<;>intro h)|(with_reducible refine zAF ?_ ?_<;>intro h)|with_reducible refine zAL ?_ ?_)); all_goals try (conv=>whnf)
 all_goals refine zAB rfl ?_
 all_goals simp_all [opp, oppK, encDec]
theorem ok_refKid : FO 63 Tryz.f63 [.tmp 6] 20 := mkO Tryz.func63 Tryz.ntmps63 Tryz.results63
theorem c_refKid (path : List DecL) (n : NodeL) (i : Nat) (hp : path.length < 2097151) : Fn 63 [.imm (path.map encDec), nodeV n, .int .i64 i] (.fresh ((path ++ [kidD n i]).map encDec) 5 true) := by
 refine zI9 hmix hT ok_refKid (by simp) ?_
 (repeat' (first|refine stn ?_|(with_reducible refine brr ?_ ?_<;>intro h)|(with_reducible refine zAF ?_ ?_<;>intro h)|with_reducible refine zAL ?_ ?_)); all_goals try (conv=>whnf)
 ·obtain rfl : i = 1 := by omega
  refine zAA (c_refOpp n.split) rfl ?_;refine sns ?_;refine zDK rfl ?_ ?_ rfl (zHD (fun x => zMI x) _)
  ·simp [kidD]; rfl
  ·simp
 ·refine zDK rfl ?_ ?_ rfl (zHD (fun x => zMI x) _)
  ·simp [kidD, show i ≠ 1 by omega]; rfl
  ·simp
def nextK (n : NodeL) (d : DecL) : Option Nat := (List.range n.kids.length).find? fun i => kidD n i = d
end Go.PI.Tryz
namespace Go.PI.Tryz
open Go.Proofs Go.PI
def encVis (v : List DecL × NodeL) : PV := .agg [.imm (v.1.map encDec), .imm (v.2.lemmas.map encLem), .int .i64 v.2.split.kind, .int .i64 v.2.split.index, .bool v.2.split.rat.neg, encN v.2.split.rat.num, encN v.2.split.rat.den, .imm (v.2.kids.map encNode), .bool v.2.empty, .imm (v.2.proof.map encMult)]
theorem frz_vis (h : Hp) (n : Nat) (v : List DecL × NodeL) : frz h (n + 1) (encVis v) = some (encVis v, []) := by cases n <;> rfl
def pre (path : List DecL) (l : List (List DecL × NodeL)) : List (List DecL × NodeL) := l.map fun q => (path ++ q.1, q.2)
theorem zL6 (path : List DecL) (l : List (List DecL × NodeL)) : (pre path l).length = l.length := by simp [pre]
theorem all_len : ∀ (n : Nat) (x : NodeL), SizeOf.sizeOf x < n → x.all.length ≤ x.wt ∧ ∀ i, (x.upto i).length ≤ x.wt := by
 intro n
 induction n with
 | zero => intro x h; omega
 | succ n ih =>
   intro x hx
   have hu : ∀ i, i ≤ x.kids.length → (x.upto i).length ≤ 1 + ((x.kids.take i).map NodeL.wt).sum := by
    intro i
    induction i with
    | zero => intro _; simp [NodeL.upto_zero]
    | succ i ihi =>
      intro hi;have h1 := ihi (by omega);have h2 := (ih x.kids[i]! (by have := NodeL.sizeOf_kid (zCA (show i < x.kids.length by omega)); omega)).1;rw [x.upto_succ (by omega), List.length_append, List.length_map, zIF (by omega)];omega
   have hw := x.wt_eq
   have hall : ∀ i, i ≤ x.kids.length → (x.upto i).length ≤ x.wt := fun i hi => by
    have h1 := hu i hi;have h2 := @sum_take_le _ NodeL.wt x.kids i;omega
   refine ⟨by rw [x.all_eq]; exact hall _ (Nat.le_refl _), fun i => ?_⟩;by_cases hi : i ≤ x.kids.length
   ·exact hall i hi
   ·have : x.upto i = x.upto x.kids.length := by
     unfold NodeL.upto;rw [List.take_of_length_le (by simp; omega), List.take_of_length_le (by simp)]
    rw [this]; exact hall _ (Nat.le_refl _)
theorem ok_below : FO 59 Tryz.f59 [.tmp 4] 33 := mkO Tryz.func59 Tryz.ntmps59 Tryz.results59
theorem c_below : ∀ (n : Nat) (path : List DecL) (x : NodeL), SizeOf.sizeOf x < n → x.Sm → path.length + x.wt < 2097151 → Fn 59 [.imm (path.map encDec), nodeV x] (.fresh ((pre path x.all).map encVis) 10 true) := by
 intro n
 induction n with
 | zero => intro p x h; omega
 | succ n ih =>
   intro path x hx hs hw;refine zI9 hmix hT ok_below (by simp) ?_;refine sns ?_;have hl := hs.len;have hal := all_len _ x (Nat.lt_succ_self _);refine zAN hT (fun i : Nat => [(0, .imm (path.map encDec)), (3, .ptr 0 0 0), (5, .own 1 0 (x.upto i).length), (6, .int .i64 i)]) (fun i => [(0, ⟨[nodeV x], 9, true⟩), (1, ⟨(pre path (x.upto i)).map encVis, 10, true⟩)]) [] 2 (fun i => i ≤ x.kids.length) (fun i => x.kids.length - i) 0 (by simp) (by decide) (by simp) ?_ ?_
   ·refine ⟨[0, 7], [4], [], [(7, [encVis (path, x)])], ⟨⟨⟨_, rfl⟩, trivial⟩, trivial, ⟨⟨_, 4, _, rfl, zAD (frz_agg_cons (zAK rfl rfl ?_ (fun x => zMI x)) rfl) rfl, rfl⟩, trivial⟩⟩, ⟨zAE rfl rfl, apx, zAY (by decide) rfl (by simp [NodeL.upto_zero]), zAC rfl rfl, trivial⟩,
     ⟨bbx, zAG (by decide) rfl (by simp [NodeL.upto_zero, pre]) (zAM fun _ => ⟨rfl, by simp [encVis]⟩) rfl, trivial⟩, by simp [ren]⟩
    simp
   ·intro i hi
    have hul := hal.2 i;have hul1 := hal.2 (i + 1);have hpl := zL6 path (x.upto i)
    (repeat' (first|refine stn ?_|(with_reducible refine brr ?_ ?_<;>intro h)|(with_reducible refine zAF ?_ ?_<;>intro h)|with_reducible refine zAL ?_ ?_)); all_goals try (conv=>whnf)
    ·have hi' : i < x.kids.length := by omega
     have hkm : x.kids[i]! ∈ x.kids := zCA hi';have hwk := wt_kid hkm;refine zBZ (c_refKid path x i (by omega)) rfl ?_;refine sns ?_;refine zBZ (ih (path ++ [kidD x i]) x.kids[i]! (by have := NodeL.sizeOf_kid hkm; omega) (hs.kid hkm) (by simp only [List.length_append, List.length_singleton]; omega)) (zAD (zAK rfl rfl (by simp) (fun x => zMI x)) rfl) ?_;refine sns ?_;refine zBC ⟨rfl, by simp [zL6], ?_⟩ ?_
     ·have := (all_len _ x.kids[i]! (Nat.lt_succ_self _)).1
      simp only [List.length_take, List.length_drop, List.length_map, zL6]; omega
     refine sns ?_;have e1 : (List.map encVis (pre (path ++ [kidD x i]) x.kids[i]!.all)).take (List.map encVis (pre (path ++ [kidD x i]) x.kids[i]!.all)).length = List.map encVis (pre (path ++ [kidD x i]) x.kids[i]!.all) := List.take_of_length_le (Nat.le_refl _)
     have e2 : pre path (x.upto (i + 1)) = pre path (x.upto i) ++ pre (path ++ [kidD x i]) x.kids[i]!.all := by
      rw [x.upto_succ hi'];simp only [pre, List.map_append, List.map_map]
      congr 1
      refine List.map_congr_left fun q _ => ?_
      simp
     refine ⟨i + 1, ⟨by omega, by omega⟩, [0, 18], [], [], [], ttt, ⟨zAE rfl rfl, apx, zAY (by decide) rfl ?_, zAC rfl (by omega), trivial⟩, ⟨bbx, zAG (by decide) rfl ?_ (zAM fun _ => ⟨rfl, by simp [encVis]⟩) rfl, trivial⟩, by simp [ren]⟩
     ·rw [List.drop_zero, e1, List.length_map, zL6, x.upto_succ hi', List.length_append, List.length_map]
     ·rw [List.drop_zero, e1, e2, List.map_append]
    ·refine zDK rfl ?_ ?_ rfl (zHD (fun x => frz_vis _ _ x) _)
     ·rw [NodeL.all_eq, show i = x.kids.length by omega]
     ·rw [NodeL.all_eq, show i = x.kids.length by omega]; simp [zL6]
def allV (x : NodeL) : List (List DecL × NodeL) := if x.valid then x.all else []
theorem pre_nil (l : List (List DecL × NodeL)) : pre [] l = l := by simp [pre]
theorem ok_all : FO 21 Tryz.f21 [.tmp 2] 8 := mkO Tryz.func21 Tryz.ntmps21 Tryz.results21
theorem c_all (x : NodeL) (hs : x.Sm) (hw : x.wt < 2097151) : Fn 21 [nodeV x] (.fresh ((allV x).map encVis) 10 true) := by
 refine zI9 hmix hT ok_all (by simp) ?_;refine sns ?_;refine zAA (zD2 x hs) rfl ?_
 (repeat' (first|refine stn ?_|(with_reducible refine brr ?_ ?_<;>intro h)|(with_reducible refine zAF ?_ ?_<;>intro h)|with_reducible refine zAL ?_ ?_)); all_goals try (conv=>whnf)
 ·refine zBZ (c_below _ [] x (Nat.lt_succ_self _) hs (by simpa using hw)) rfl ?_
  refine sns ?_;refine zDK rfl ?_ ?_ rfl (zHD (fun x => frz_vis _ _ x) _)
  ·simp [allV, h, pre_nil]
  ·simp [allV, h, pre_nil]
 ·have : allV x = [] := by simp [allV, h]
  rw [this]; exact zI6
theorem allV_len (x : NodeL) : (allV x).length ≤ x.wt := by
 unfold allV
 split
 ·exact (all_len _ x (Nat.lt_succ_self _)).1
 ·simp
theorem all_sm : ∀ (n : Nat) (x : NodeL), SizeOf.sizeOf x < n → x.Sm → ∀ q ∈ x.all, q.2.Sm ∧ (∀ d ∈ q.1, d.sm) ∧ q.1.length + q.2.wt ≤ x.wt := by
 intro n
 induction n with
 | zero => intro x h; omega
 | succ n ih =>
   intro x hx hs q hq
   have hu : ∀ i, i ≤ x.kids.length → ∀ q ∈ x.upto i, q.2.Sm ∧ (∀ d ∈ q.1, d.sm) ∧ q.1.length + q.2.wt ≤ x.wt := by
    intro i
    induction i with
    | zero =>
      intro _ q hq;rw [NodeL.upto_zero, List.mem_singleton] at hq;subst hq;exact ⟨hs, fun d hd => (by cases hd), by simp⟩
    | succ i ihi =>
      intro hi q hq;have hi' : i < x.kids.length := by omega
      rw [x.upto_succ hi', List.mem_append] at hq;rcases hq with hq | hq
      ·exact ihi (by omega) q hq
      ·obtain ⟨p, hp, rfl⟩ := List.mem_map.1 hq
       have hk := zCA hi';have h1 := wt_kid hk;obtain ⟨h2, h3, h4⟩ := ih x.kids[i]! (by have := NodeL.sizeOf_kid hk; omega) (hs.kid hk) p hp;refine ⟨h2, fun d hd => ?_, by simp only [List.length_cons]; omega⟩;rcases List.mem_cons.1 hd with rfl | hd
       ·have := hs.dec
        unfold kidD
        split <;> exact this
       ·exact h3 d hd
   rw [x.all_eq] at hq;exact hu _ (Nat.le_refl _) q hq
theorem allV_sm {x : NodeL} (hs : x.Sm) (hw : x.wt < 2097151) {q : List DecL × NodeL} (hq : q ∈ allV x) : q.2.Sm ∧ smPath q.1 ∧ q.1.length + q.2.wt ≤ x.wt := by
 unfold allV at hq
 split at hq
 ·obtain ⟨h1, h2, h3⟩ := all_sm _ x (Nat.lt_succ_self _) hs q hq
  exact ⟨h1, ⟨by omega, h2⟩, h3⟩
 ·cases hq
instance : Inhabited (List DecL × NodeL) := ⟨([], default)⟩
def zeroN : NodeL := .mk [] ⟨0, 0, ⟨false, [], []⟩⟩ [] false []
def atL (x : NodeL) (path : List DecL) : Option NodeL := ((allV x).find? fun q => q.1 = path).map (·.2)
theorem ok_refAt : FO 60 Tryz.f60 [.cell 4 43, .tmp 5] 29 := mkO Tryz.func60 Tryz.ntmps60 Tryz.results60
theorem c_refAt (x : NodeL) (path : List DecL) (hs : x.Sm) (hw : x.wt < 2097151) (hp : smPath path) : Fn 60 [nodeV x, .imm (path.map encDec)] (.data (.tup [nodeV ((atL x path).getD zeroN), .bool (atL x path).isSome])) := by
 have hl := allV_len x;refine zAJ hmix hT ok_refAt (by simp) ?_;refine sns ?_;refine zBZ (c_all x hs hw) rfl ?_;refine sns ?_;refine zAN hT (fun i : Nat => [(1, .imm (path.map encDec)), (4, .ptr 0 0 0), (6, .imm ((allV x).map encVis)), (7, .int .i64 i)]) (fun _ => [(0, ⟨[nodeV zeroN], 9, true⟩)]) [] 1 (fun i => i ≤ (allV x).length ∧ ∀ j, j < i → (allV x)[j]!.1 ≠ path) (fun i => (allV x).length - i) 0 (by simp) (by decide) (by simp) ?_ ?_
 ·refine ⟨[1], [4], [(6, .imm ((allV x).map encVis))], [(1, [nodeV zeroN])], ⟨⟨⟨_, rfl⟩, trivial⟩, ⟨⟨4, [4], zAK rfl rfl ?_ (fun x => frz_vis _ _ x), rfl⟩, trivial⟩, ⟨⟨_, 4, _, rfl, rfl, rfl⟩, trivial⟩⟩, ⟨zAE rfl rfl, apx, zAE rfl rfl, zAC rfl rfl, trivial⟩, ⟨bbx, trivial⟩, by simp [ren]⟩
  simp
 ·intro i ⟨hi, hn⟩
  (repeat' (first|refine stn ?_|(with_reducible refine brr ?_ ?_<;>intro h)|(with_reducible refine zAF ?_ ?_<;>intro h)|with_reducible refine zAL ?_ ?_)); all_goals try (conv=>whnf)
  ·have hi' : i < (allV x).length := by omega
   refine zAA (zHQ (allV x)[i]!.1 path (allV_sm hs hw (zCA hi')).2.1) rfl ?_
   (repeat' (first|refine stn ?_|(with_reducible refine brr ?_ ?_<;>intro h)|(with_reducible refine zAF ?_ ?_<;>intro h)|with_reducible refine zAL ?_ ?_)); all_goals try (conv=>whnf)
   ·refine zAB rfl ?_
    have : atL x path = some (allV x)[i]!.2 := by
     unfold atL
     have : (allV x).find? (fun q => q.1 = path) = some (allV x)[i]! := by
      rw [List.find?_eq_some_iff_append];refine ⟨by simpa using h, (allV x).take i, (allV x).drop (i + 1), ?_, fun q hq => ?_⟩
      ·rw [getElem!_pos (allV x) i hi', ← List.drop_eq_getElem_cons hi', List.take_append_drop]
      ·obtain ⟨j, hj, rfl⟩ := List.getElem_of_mem hq
       rw [List.length_take] at hj;have := hn j (by omega);rw [getElem!_pos (allV x) j (by omega)] at this
       simpa using this
     rw [this]; rfl
    rw [this];rfl
   ·refine ⟨i + 1, ⟨⟨by omega, fun j hj => ?_⟩, by omega⟩, [0], [], [], [], ttt, ⟨zAE rfl rfl, apx, zAE rfl rfl, zAC rfl (by omega), trivial⟩, ⟨bbx, trivial⟩, by simp [ren]⟩
    rcases Nat.lt_succ_iff_lt_or_eq.1 hj with hj | rfl
    ·exact hn j hj
    ·assumption
  ·refine zAB rfl ?_
   have : atL x path = none := by
    unfold atL
    have : (allV x).find? (fun q => q.1 = path) = none := by
     rw [List.find?_eq_none];intro q hq;obtain ⟨j, hj, rfl⟩ := List.getElem_of_mem hq;have := hn j (by omega);rw [getElem!_pos (allV x) j hj] at this
     simpa using this
    rw [this]; rfl
   rw [this];rfl
end Go.PI.Tryz
namespace Go.PI.Tryz
open Go.Proofs Go.PI
def atF : NodeL → List DecL → Option NodeL
 | n, [] => some n
 | n, d :: p => match nextK n d with
   | some i => atF n.kids[i]! p
   | none => none
theorem zHL {n : NodeL} {d : DecL} {i : Nat} (h : nextK n d = some i) : i < n.kids.length ∧ kidD n i = d := by
 unfold nextK at h;have h1 := List.mem_of_find?_eq_some h;have h2 := List.find?_some h;simp at h1 h2;exact ⟨h1, h2⟩
theorem zJ4 {n : NodeL} {d : DecL} (hl : 0 < n.kids.length) (h : kidD n 0 = d) : nextK n d = some 0 := by
 unfold nextK;obtain ⟨k, hk⟩ : ∃ k, n.kids.length = k + 1 := ⟨n.kids.length - 1, by omega⟩;rw [hk, List.range_succ_eq_map, List.find?_cons];simp [h]
def atV (x : NodeL) (path : List DecL) : Option NodeL := if x.valid then atF x path else none
def setKid (n : NodeL) (i : Nat) (k : NodeL) : NodeL := .mk n.lemmas n.split (n.kids.set i k) n.empty n.proof
def repF (w : NodeL) : NodeL → List DecL → Option NodeL
 | _, [] => some w
 | n, d :: p => match nextK n d with
   | some i => (repF w n.kids[i]! p).map fun k => setKid n i k
   | none => none
def repK (w : NodeL) : NodeL → List DecL → NodeL
 | _, [] => w
 | n, d :: p => match nextK n d with
   | some i => setKid n i (repK w n.kids[i]! p)
   | none => zeroN
theorem ok_put : FO 61 Tryz.f61 [.cell 6 43] 38 := mkO Tryz.func61 Tryz.ntmps61 Tryz.results61
theorem c_put (w : NodeL) : ∀ (path : List DecL) (x : NodeL), x.Sm → path.length < 2097152 → (repF w x path).isSome → (∀ d ∈ path, d.sm) → Fn 61 [nodeV x, .imm (path.map encDec), nodeV w] (.data (nodeV (repK w x path))) := by
 intro path
 induction path with
 | nil =>
   intro x hs hp hr hd;refine zAJ hmix hT ok_put (by simp) ?_;refine sns ?_;exact zAB rfl rfl
 | cons d p ih =>
   intro x hs hp hr hd;cases hk : nextK x d with
   | none => simp only [repF, hk] at hr; cases hr
   | some i =>
     have hr' : (repF w x.kids[i]! p).isSome := by
      simp only [repF, hk] at hr;cases h : repF w x.kids[i]! p with
      | none => rw [h] at hr; cases hr
      | some _ => rfl
     obtain ⟨hi, hkd⟩ := zHL hk;have hl := hs.len;simp only [List.length_cons] at hp;refine zAJ hmix hT ok_put (by simp) ?_;refine sns ?_;refine zAA (zJI x.split d hs.dec) rfl ?_
     (repeat' (first|refine stn ?_|(with_reducible refine brr ?_ ?_<;>intro h)|(with_reducible refine zAF ?_ ?_<;>intro h)|with_reducible refine zAL ?_ ?_)); all_goals try (conv=>whnf)
     ·have i0 : i = 0 := by
       have h0 : kidD x 0 = d := by simp [kidD, h]
       rw [zJ4 (by omega) h0] at hk;exact (Option.some.inj hk).symm
      subst i0;refine zLC 0 rfl (by omega) ?_;refine sns ?_;refine zB8 (l' := p) (by simp) ?_;refine sns ?_;refine zAA (ih x.kids[0]! (hs.kid (zCA hi)) (by omega) hr' (fun d h => hd d (by simp [h]))) rfl ?_;refine sns ?_;refine zLC 0 rfl (by omega) ?_;refine sns ?_
      have e1 : (x.kids.map encNode).set 0 (nodeV (repK w x.kids[0]! p)) = (x.kids.set 0 (repK w x.kids[0]! p)).map encNode := by
       rw [List.map_set, zDB]
      refine zAB (zCT (zAD rfl (zAD rfl (zAD rfl (zAD rfl (zAD rfl (zAD rfl (zAD (zAK rfl e1 (by simp) (fun x => frz_node x)) rfl)))))))) ?_;have h1 : repK w x (d :: p) = setKid x 0 (repK w x.kids[0]! p) := by simp only [repK, hk]
      rw [h1]; rfl
     ·have i1 : i = 1 := by
       unfold kidD at hkd
       split at hkd
       ·assumption
       ·exact absurd hkd h
      subst i1;refine zBC ⟨by omega, by simp only [List.length_map]; omega⟩ ?_;refine sns ?_;refine zLC 1 rfl (by omega) ?_;refine sns ?_;refine zB8 (l' := p) (by simp) ?_;refine sns ?_;refine zAA (ih x.kids[1]! (hs.kid (zCA hi)) (by omega) hr' (fun d h => hd d (by simp [h]))) rfl ?_;refine sns ?_;refine zLC 1 rfl (by omega) ?_;refine sns ?_
      have e1 : (x.kids.map encNode).set 1 (nodeV (repK w x.kids[1]! p)) = (x.kids.set 1 (repK w x.kids[1]! p)).map encNode := by
       rw [List.map_set, zDB]
      refine zAB (zCT (zAD rfl (zAD rfl (zAD rfl (zAD rfl (zAD rfl (zAD rfl (zAD (zAK rfl e1 (by simp) (fun x => frz_node x)) rfl)))))))) ?_;have h1 : repK w x (d :: p) = setKid x 1 (repK w x.kids[1]! p) := by simp only [repK, hk]
      rw [h1]; rfl
theorem repK_of {w : NodeL} : ∀ {path : List DecL} {x k : NodeL}, repF w x path = some k → repK w x path = k
 | [], x, k, h => by simp only [repF, Option.some.injEq] at h; simp only [repK]; exact h
 | d :: p, x, k, h => by
   simp only [repF] at h;simp only [repK];cases hk : nextK x d with
   | none => rw [hk] at h; cases h
   | some i =>
     rw [hk] at h;simp only [Option.map_eq_some_iff] at h;obtain ⟨k', h1, h2⟩ := h;dsimp only;rw [repK_of h1]; exact h2
theorem setKid_sm {x k : NodeL} {i : Nat} (hx : x.Sm) (hk : k.Sm) : (setKid x i k).Sm := by
 refine .mk _ hx.lems hx.dec (by simp only [setKid, NodeL.kids, List.length_set]; exact hx.len) (fun z hz => ?_) hx.prf;simp only [setKid, NodeL.kids] at hz;rcases List.mem_or_eq_of_mem_set hz with h | h
 ·exact hx.kid h
 ·subst h; exact hk
theorem repK_sm {w : NodeL} (hw : w.Sm) : ∀ {path : List DecL} {x : NodeL}, x.Sm → (repF w x path).isSome → (repK w x path).Sm
 | [], x, _, _ => hw
 | d :: p, x, hx, h => by
   simp only [repF] at h;simp only [repK];cases hk : nextK x d with
   | none => rw [hk] at h; cases h
   | some i =>
     rw [hk] at h;refine setKid_sm hx (repK_sm hw (hx.kid (zCA (zHL hk).1)) ?_);dsimp only at h;cases hr : repF w x.kids[i]! p with
     | none => rw [hr] at h; cases h
     | some _ => rfl
def repV (w x : NodeL) (path : List DecL) : NodeL × Int :=
 if x.valid && w.valid then (match repF w x path with
  | some k => if k.valid then (k, 0) else (zeroN, 8)
  | none => (zeroN, 10)) else (zeroN, 1)
theorem opp_ne {d : DecL} (h1 : 1 ≤ d.kind) (h2 : d.kind ≤ 4) : opp d ≠ d := by
 intro h;have := congrArg DecL.kind h;simp only [opp, oppK] at this
 split at this
 ·omega
 ·split at this
  ·omega
  ·split at this
   ·omega
   ·split at this <;> omega
theorem zJA (l : List (List DecL × NodeL)) (e d : DecL) (p : List DecL) : ((l.map fun q => (e :: q.1, q.2)).find? fun q => q.1 = d :: p).map (·.2) = if e = d then (l.find? fun q => q.1 = p).map (·.2) else none := by
 induction l with
 | nil => simp
 | cons a l ih =>
   rw [List.map_cons, List.find?_cons, List.find?_cons];by_cases he : e = d
   ·subst he
    rw [if_pos rfl] at ih ⊢;by_cases ha : a.1 = p
    ·simp [ha]
    ·simp only [List.cons.injEq, true_and, ha, decide_false]
     simpa using ih
   ·rw [if_neg he] at ih ⊢
    simp only [List.cons.injEq, he, false_and, decide_false]
    simpa [he] using ih
theorem atF_all : ∀ (path : List DecL) (d : Nat) (x : NodeL), formOk d x = true → (x.all.find? fun q => q.1 = path).map (·.2) = atF x path := by
 intro path
 induction path with
 | nil =>
   intro d x _;rw [x.all_eq, NodeL.upto, List.find?_cons];simp [atF]
 | cons e p ih =>
   intro d x hx;by_cases hk : x.kids.length = 0
   ·rw [x.all_eq, hk, x.upto_zero]
    have : nextK x e = none := by unfold nextK; rw [hk]; rfl
    simp [atF, this]
   ·have hin := zBW (d := d) hk
    rw [hx] at hin;have hin := hin.symm;simp only [Bool.and_eq_true, decide_eq_true_eq] at hin
    have h2 : x.kids.length = 2 ∧ 1 ≤ x.split.kind ∧ x.split.kind ≤ 4 := by
     have := hin.1.1;simp only [innerOk, decide_eq_true_eq] at this;exact ⟨this.1, this.2.1, this.2.2.1⟩
    obtain ⟨h2, h3, h4⟩ := h2;have hf := zB4 (d := d) h2;rw [hx] at hf;have hf := hf.symm;simp only [Bool.and_eq_true] at hf;have hne := opp_ne h3 h4;rw [x.all_eq, h2, x.upto_succ (by omega), x.upto_succ (by omega), x.upto_zero, List.find?_append, List.find?_append];have i0 := ih (d - 1) x.kids[0]! hf.2.1;have i1 := ih (d - 1) x.kids[1]! hf.2.2;have f0 := zJA x.kids[0]!.all (kidD x 0) e p;have f1 := zJA x.kids[1]!.all (kidD x 1) e p;have hs : ([([], x)] : List (List DecL × NodeL)).find? (fun q => q.1 = e :: p) = none := by simp
    rw [hs, Option.none_or, Option.map_or, f0, f1];have k0 : kidD x 0 = x.split := by simp [kidD]
    have k1 : kidD x 1 = opp x.split := by simp [kidD]
    by_cases e0 : kidD x 0 = e
    ·rw [if_pos e0, i0]
     have e1 : ¬ kidD x 1 = e := by rw [← e0, k0, k1]; exact hne
     rw [if_neg e1, Option.or_none];simp only [atF, zJ4 (by omega) e0]
    ·rw [if_neg e0, Option.none_or]
     by_cases e1 : kidD x 1 = e
     ·rw [if_pos e1, i1]
      have : nextK x e = some 1 := by unfold nextK; rw [h2]; simp [List.range_succ, e0, e1]
      simp only [atF, this]
     ·rw [if_neg e1]
      have : nextK x e = none := by unfold nextK; rw [h2]; simp [List.range_succ, e0, e1]
      simp only [atF, this]
theorem atL_V (x : NodeL) (path : List DecL) : atL x path = atV x path := by
 unfold atL atV allV
 split
 ·rename_i h
  simp only [NodeL.valid, Bool.and_eq_true] at h;exact atF_all path 2048 x h.1
 ·rfl
theorem atF_rep (w : NodeL) : ∀ (path : List DecL) (x : NodeL), (atF x path).isSome = (repF w x path).isSome
 | [], x => rfl
 | d :: p, x => by
   simp only [atF, repF];cases nextK x d with
   | none => rfl
   | some i => simp only [Option.isSome_map]; exact atF_rep w p _
theorem ok_refReplace : FO 22 Tryz.f22 [.cell 6 43, .tmp 7] 38 := mkO Tryz.func22 Tryz.ntmps22 Tryz.results22
theorem zHH (w x : NodeL) (path : List DecL) (hs : x.Sm) (hw : w.Sm) (hwt : x.wt < 2097151) (hp : smPath path) : Fn 22 [nodeV x, .imm (path.map encDec), nodeV w] (.data (.tup [nodeV (repV w x path).1, .int .i64 (repV w x path).2])) := by
 refine zAJ hmix hT ok_refReplace (by simp) ?_;refine sns ?_;refine zAA (zD2 x hs) rfl ?_
 (repeat' (first|refine stn ?_|(with_reducible refine brr ?_ ?_<;>intro h)|(with_reducible refine zAF ?_ ?_<;>intro h)|with_reducible refine zAL ?_ ?_)); all_goals try (conv=>whnf)
 ·refine zAA (zD2 w hw) rfl ?_
  (repeat' (first|refine stn ?_|(with_reducible refine brr ?_ ?_<;>intro h)|(with_reducible refine zAF ?_ ?_<;>intro h)|with_reducible refine zAL ?_ ?_)); all_goals try (conv=>whnf)
  ·have hx := h
   have hxv : x.valid = true := by assumption
   refine zAA (c_refAt x path hs hwt hp) rfl ?_;have hat : (atL x path).isSome = (repF w x path).isSome := by rw [atL_V, atV, hxv, if_pos rfl]; exact atF_rep w path x
   cases hr : repF w x path with
   | none =>
     rw [hr] at hat;rw [hat];refine sns ?_;have : repV w x path = (zeroN, 10) := by simp [repV, hxv, hx, hr]
     rw [this]; exact zAB rfl rfl
   | some k =>
     rw [hr] at hat;rw [hat];have hk := repK_of hr;have hsm : k.Sm := by rw [← hk]; exact repK_sm hw hs (by rw [hr]; rfl)
     have hput := c_put w path x hs hp.1 (by rw [hr]; rfl) hp.2;rw [hk] at hput;refine sns ?_;refine zAA hput rfl ?_;refine sns ?_;refine zAA (zD2 k hsm) rfl ?_
     (repeat' (first|refine stn ?_|(with_reducible refine brr ?_ ?_<;>intro h)|(with_reducible refine zAF ?_ ?_<;>intro h)|with_reducible refine zAL ?_ ?_)); all_goals try (conv=>whnf)
     ·have : repV w x path = (k, 0) := by simp [repV, hxv, hx, hr, h]
      rw [this]; exact zAB rfl rfl
     ·have : repV w x path = (zeroN, 8) := by simp [repV, hxv, hx, hr, h]
      rw [this]; exact zAB rfl rfl
  ·have hxv : x.valid = true := by assumption
   have : repV w x path = (zeroN, 1) := by simp [repV, hxv, h]
   rw [this]; exact zAB rfl rfl
 ·have : repV w x path = (zeroN, 1) := by simp [repV, h]
  rw [this]; exact zAB rfl rfl
end Go.PI.Tryz
