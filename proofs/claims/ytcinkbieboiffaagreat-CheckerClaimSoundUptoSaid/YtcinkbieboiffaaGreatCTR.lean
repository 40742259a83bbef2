/-
  The node with a path; a node replaced; the scope of a node.
-/
import Derived.Test.YtcinkbieboiffaaGreatCPD
import Derived.Test.YtcinkbieboiffaaGreatCNA
import Derived.Test.YtcinkbieboiffaaGreatCPE
set_option linter.unusedVariables false
set_option linter.unusedSimpArgs false
set_option linter.unnecessarySimpa false
namespace Go.PI.Tryz
open Go.Proofs Go.PI
theorem ok_sameNat : FO 102 Tryz.f102 [.tmp 4] 26 := mkO Tryz.func102 Tryz.ntmps102 Tryz.results102
theorem c_sameNat (xs ys : List Int) (h1 : xs.length < 2097152) : Fn 102 [encN xs, encN ys] (.data (.bool (decide (xs = ys)))) := by
 refine zAJ hmix hT ok_sameNat (by simp) ?_
 (repeat' (first|refine stn ?_|(with_reducible refine brr ?_ ?_<;>intro h)|(with_reducible refine zAI ?_ ?_<;>intro h)|with_reducible refine zAW ?_ ?_)); all_goals try (conv=>whnf)
 ·refine zAB rfl ?_
  simp; intro e; subst e; exact h rfl
 ·
  refine zBH hT (fun i : Nat => [(0, encN xs), (1, encN ys), (5, .int .i64 i)]) (fun i => i ≤ xs.length ∧ ∀ j, j < i → xs[j]! = ys[j]!) (fun i => xs.length - i) 0 (by simp) ?_ ?_
  ·exact ⟨zAD rfl rfl, zAD rfl rfl, zAC rfl rfl, trivial⟩
  ·intro i ⟨hi1, hi2⟩
   (repeat' (first|refine stn ?_|(with_reducible refine brr ?_ ?_<;>intro h)|(with_reducible refine zAI ?_ ?_<;>intro h)|with_reducible refine zAW ?_ ?_)); all_goals try (conv=>whnf)
   ·refine zAB rfl ?_
    simp; intro e; subst e; exact h rfl
   ·refine ⟨i + 1, ⟨⟨by omega, fun j hj => ?_⟩, by omega⟩, zAD rfl rfl, zAD rfl rfl, zAC rfl (by omega), trivial⟩
    rcases Nat.lt_succ_iff_lt_or_eq.1 hj with hj | rfl
    ·exact hi2 j hj
    ·assumption
   ·refine zAB rfl ?_
    have : xs = ys := (take_all_iff (by omega)).2 fun j hj => hi2 j (by omega)
    simp [this]
theorem ok_same : FO 64 Tryz.f64 [.tmp 4] 24 := mkO Tryz.func64 Tryz.ntmps64 Tryz.results64
theorem c_same (x y : RatL) (h1 : x.sm) : Fn 64 [encRat x, encRat y] (.data (.bool (decide (x = y)))) := by
 refine zAJ hmix hT ok_same (by simp) ?_
 (repeat' (first|refine stn ?_|(with_reducible refine brr ?_ ?_<;>intro h)|(with_reducible refine zAI ?_ ?_<;>intro h)|with_reducible refine zAW ?_ ?_)); all_goals try (conv=>whnf)
 ·refine zAA (c_sameNat _ _ h1.1) rfl ?_
  (repeat' (first|refine stn ?_|(with_reducible refine brr ?_ ?_<;>intro h)|(with_reducible refine zAI ?_ ?_<;>intro h)|with_reducible refine zAW ?_ ?_)); all_goals try (conv=>whnf)
  ·refine zAA (c_sameNat _ _ h1.2) rfl ?_
   refine sns ?_;refine zAB rfl ?_;cases x; cases y; simp_all
  ·refine zAB rfl ?_
   cases x; cases y; simp_all
 ·refine zAB rfl ?_
  cases x; cases y; simp_all
theorem ok_sameDec : FO 53 Tryz.f53 [.tmp 4] 24 := mkO Tryz.func53 Tryz.ntmps53 Tryz.results53
theorem c_sameDec (x y : DecL) (h1 : x.sm) : Fn 53 [encDec x, encDec y] (.data (.bool (decide (x = y)))) := by
 refine zAJ hmix hT ok_sameDec (by simp) ?_
 (repeat' (first|refine stn ?_|(with_reducible refine brr ?_ ?_<;>intro h)|(with_reducible refine zAI ?_ ?_<;>intro h)|with_reducible refine zAW ?_ ?_)); all_goals try (conv=>whnf)
 ·refine zAA (c_same x.rat y.rat h1) rfl ?_
  refine sns ?_;refine zAB rfl ?_;cases x; cases y; simp_all
 ·refine zAB rfl ?_
  cases x; cases y; simp_all
 ·refine zAB rfl ?_
  cases x; cases y; simp_all
end Go.PI.Tryz
namespace Go.PI.Tryz
open Go.Proofs Go.PI
end Go.PI.Tryz
namespace Go.PI.Tryz
open Go.Proofs Go.PI
def lsz (most : Int) (n : NodeL) : Int := (n.kids.attach.map fun ⟨k, _⟩ => lsz most k).foldl (fun k c => if k ≤ most then k + c else k) (1 + n.lemmas.length + n.proof.length + ((n.lemmas.map fun x => x.proof.length).sum : Nat))
termination_by SizeOf.sizeOf n
decreasing_by exact NodeL.sizeOf_kid ‹_›
theorem lsz_eq (most : Int) (n : NodeL) : lsz most n = (n.kids.map (lsz most)).foldl (fun k c => if k ≤ most then k + c else k) (1 + n.lemmas.length + n.proof.length + ((n.lemmas.map fun x => x.proof.length).sum : Nat)) := by
 rw [lsz]
 congr 1
 simp
theorem zHZ (most : Int) (l : List NodeL) (h : ∀ k ∈ l, 1 ≤ lsz most k ∧ lsz most k ≤ k.wt) : ∀ k0 : Int, k0 ≤ (l.map (lsz most)).foldl (fun k c => if k ≤ most then k + c else k) k0 ∧ (l.map (lsz most)).foldl (fun k c => if k ≤ most then k + c else k) k0 ≤ k0 + (l.map NodeL.wt).sum := by
 induction l with
 | nil => intro k0; simp
 | cons a l ih =>
   intro k0;have h1 := h a (by simp);have h2 := ih (fun k hk => h k (by simp [hk])) (if k0 ≤ most then k0 + lsz most a else k0);simp only [List.map_cons, List.foldl_cons, List.sum_cons]
   split at h2 <;> rename_i hc
   ·rw [if_pos hc]; omega
   ·rw [if_neg hc]; omega
theorem zD5 (most : Int) : ∀ (n : Nat) (x : NodeL), SizeOf.sizeOf x < n → 1 ≤ lsz most x ∧ lsz most x ≤ x.wt := by
 intro n
 induction n with
 | zero => intro x h; omega
 | succ n ih =>
   intro x hx;have h := zHZ most x.kids (fun k hk => ih k (by have := NodeL.sizeOf_kid hk; omega)) (1 + x.lemmas.length + x.proof.length + ((x.lemmas.map fun x => x.proof.length).sum : Nat));have hw := x.wt_eq;have hl := zIV x.lemmas;rw [lsz_eq];omega
theorem zJV (most : Int) (l : List Int) (k : Int) (h : ¬ k ≤ most) : l.foldl (fun k c => if k ≤ most then k + c else k) k = k := by
 induction l with
 | nil => rfl
 | cons a l ih => rw [List.foldl_cons, if_neg h]; exact ih
theorem kids_len_wt (n : NodeL) : n.kids.length < n.wt := by
 rw [n.wt_eq]
 have : ∀ l : List NodeL, l.length ≤ (l.map NodeL.wt).sum := by
  intro l
  induction l with
  | nil => simp
  | cons a l ih =>
    simp only [List.length_cons, List.map_cons, List.sum_cons];have := a.wt_eq;omega
 have := this n.kids;omega
theorem foldl_all (most : Int) (l : List NodeL) (h : ∀ k ∈ l, 1 ≤ lsz most k) : ∀ k0 : Int, (l.map (lsz most)).foldl (fun k c => if k ≤ most then k + c else k) k0 ≤ most → (l.map (lsz most)).foldl (fun k c => if k ≤ most then k + c else k) k0 = k0 + (l.map (lsz most)).sum ∧ ∀ k ∈ l, lsz most k ≤ most - k0 := by
 induction l with
 | nil => intro k0 _; simp
 | cons a l ih =>
   intro k0 hk;simp only [List.map_cons, List.foldl_cons, List.sum_cons] at hk ⊢;have ha := h a (by simp)
   have h0 : k0 ≤ most := by
    by_cases h0 : k0 ≤ most
    ·exact h0
    ·rw [if_neg h0, zJV most _ _ h0] at hk; exact absurd hk h0
   rw [if_pos h0] at hk ⊢;obtain ⟨h1, h2⟩ := ih (fun k hk => h k (by simp [hk])) (k0 + lsz most a) hk
   have hb : k0 + lsz most a ≤ most := by
    by_cases hb : k0 + lsz most a ≤ most
    ·exact hb
    ·rw [zJV most _ _ hb] at hk; exact absurd hk hb
   refine ⟨by rw [h1]; omega, fun k hk => ?_⟩;rcases List.mem_cons.1 hk with rfl | hk
   ·omega
   ·have := h2 k hk; omega
def NodeL.size (x : NodeL) : Nat := if x.valid then x.cnt else 0
theorem zLU : FO 58 Tryz.f58 [.tmp 4, .tmp 5] 77 := mkO Tryz.func58 Tryz.ntmps58 Tryz.results58
def FormSays (d : Int) (x : NodeL) (k : Int) (b : Bool) : Prop := (b = true → d ≤ 2048 ∧ formOk (2048 - d).toNat x = true ∧ k = x.cnt) ∧ (d ≤ 2048 → formOk (2048 - d).toNat x = true → x.cnt ≤ 65536 → b = true) ∧ 0 ≤ k ∧ k ≤ (2050 - d) * 65537
theorem c_form : ∀ (n : Nat) (x : NodeL) (d : Int), SizeOf.sizeOf x < n → x.Sm → 0 ≤ d → d ≤ 2049 → ∃ k b, FormSays d x k b ∧ Fn 58 [nodeV x, .int .i64 d] (.data (.tup [.bool b, .int .i64 k])) := by
 intro n
 induction n with
 | zero => intro x d h; omega
 | succ n ih =>
   intro x d hx hs hd0 hd1;have hc := zL6 x;have hno : ¬ (d ≤ 2048 ∧ formOk (2048 - d).toNat x = true ∧ x.cnt ≤ 65536) → FormSays d x 0 false := fun h => ⟨by simp, fun h0 h1 h2 => absurd ⟨h0, h1, h2⟩ h, by omega, by omega⟩
   by_cases hdd : 2048 < d
   ·refine ⟨0, false, hno (by omega), ?_⟩
    refine zAJ hmix hT zLU (by simp) ?_
    (repeat' (first|refine stn ?_|(with_reducible refine brr ?_ ?_<;>intro h)|(with_reducible refine zAI ?_ ?_<;>intro h)|with_reducible refine zAW ?_ ?_)); all_goals try (conv=>whnf)
    all_goals try (exact zAB rfl rfl)
    all_goals (exfalso; omega)
   ·by_cases hk0 : x.kids.length = 0
    ·refine ⟨1, leafOk x, ?_, ?_⟩
     ·have h1 := zE8 (d := (2048 - d).toNat) hk0
      have h2 := zHK hk0;unfold FormSays;rw [h1, h2];exact ⟨fun h => ⟨by omega, h, rfl⟩, fun _ h _ => h, by omega, by omega⟩
     ·refine zAJ hmix hT zLU (by simp) ?_
      (repeat' (first|refine stn ?_|(with_reducible refine brr ?_ ?_<;>intro h)|(with_reducible refine zAI ?_ ?_<;>intro h)|with_reducible refine zAW ?_ ?_)); all_goals try (conv=>whnf)
      ·exfalso; omega
      ·refine zAA (c_sameDec x.split ⟨0, 0, ⟨false, [], []⟩⟩ hs.dec) rfl ?_
       refine sns ?_;exact zAB rfl rfl
      all_goals (exfalso; omega)
    ·by_cases hin : innerOk x = true
     ·have hin' := hin
      simp only [innerOk, decide_eq_true_eq] at hin';obtain ⟨i1, i2, i3, i4, i5⟩ := hin';have e2 := zEU (d := (2048 - d).toNat) i1;have e3 := cnt_two i1;have k0 : x.kids[0]! ∈ x.kids := bang_mem (by omega);have k1 : x.kids[1]! ∈ x.kids := bang_mem (by omega);have ed : (2048 - (d + 1)).toNat = (2048 - d).toNat - 1 := by omega
      obtain ⟨a, ok, ⟨a1, a2, a3, a4⟩, ha⟩ := ih x.kids[0]! (d + 1) (by have := NodeL.sizeOf_kid k0; omega) (hs.kid k0) (by omega) (by omega);rw [ed] at a1 a2;rw [hin, Bool.true_and] at e2;have hp := zL6 x.kids[1]!;by_cases hbad : ok = false ∨ a > 65536
      ·refine ⟨0, false, hno (fun h => ?_), ?_⟩
       ·rw [e2] at h
        simp only [Bool.and_eq_true, decide_eq_true_eq] at h;rcases hbad with hb | hb
        ·have := a2 (by omega) h.2.1.2.1 (by omega); rw [hb] at this; cases this
        ·cases ok with
         | false => have := a2 (by omega) h.2.1.2.1 (by omega); cases this
         | true => have := (a1 rfl).2.2; omega
       ·refine zAJ hmix hT zLU (by simp) ?_
        (repeat' (first|refine stn ?_|(with_reducible refine brr ?_ ?_<;>intro h)|(with_reducible refine zAI ?_ ?_<;>intro h)|with_reducible refine zAW ?_ ?_)); all_goals try (conv=>whnf)
        all_goals try (exfalso; first | omega | simp_all; done)
        refine zAA ha rfl ?_
        (repeat' (first|refine stn ?_|(with_reducible refine brr ?_ ?_<;>intro h)|(with_reducible refine zAI ?_ ?_<;>intro h)|with_reducible refine zAW ?_ ?_)); all_goals try (conv=>whnf)
        all_goals try (exact zAB rfl rfl)
        all_goals (exfalso; rcases hbad with hb | hb <;> first | omega | simp_all)
      ·have hok : ok = true := by cases ok <;> simp_all
       subst hok;have ha6 : a ≤ 65536 := by omega
       obtain ⟨a1, a5, a6⟩ := a1 rfl;obtain ⟨b, ok, ⟨b1, b2, b3, b4⟩, hb⟩ := ih x.kids[1]! (d + 1) (by have := NodeL.sizeOf_kid k1; omega) (hs.kid k1) (by omega) (by omega);rw [ed] at b1 b2;refine ⟨1 + a + b, ok, ⟨?_, ?_, by omega, by omega⟩, ?_⟩
       ·intro h
        obtain ⟨b1, b5, b6⟩ := b1 h;rw [e2, a5, b5];exact ⟨by omega, by simp; omega, by omega⟩
       ·intro h0 h h2
        rw [e2] at h;simp only [Bool.and_eq_true, decide_eq_true_eq] at h;exact b2 (by omega) h.2.2 (by omega)
       ·refine zAJ hmix hT zLU (by simp) ?_
        (repeat' (first|refine stn ?_|(with_reducible refine brr ?_ ?_<;>intro h)|(with_reducible refine zAI ?_ ?_<;>intro h)|with_reducible refine zAW ?_ ?_)); all_goals try (conv=>whnf)
        all_goals try (exfalso; first | omega | simp_all; done)
        refine zAA ha rfl ?_
        (repeat' (first|refine stn ?_|(with_reducible refine brr ?_ ?_<;>intro h)|(with_reducible refine zAI ?_ ?_<;>intro h)|with_reducible refine zAW ?_ ?_)); all_goals try (conv=>whnf)
        all_goals try (exfalso; first | omega | simp_all; done)
        refine zAA hb rfl ?_;refine sns ?_;exact zAB rfl rfl
     ·refine ⟨0, false, hno (fun h => hin ?_), ?_⟩
      ·rw [zB8 hk0] at h
       simp only [Bool.and_eq_true, decide_eq_true_eq] at h;exact h.2.1.1.1
      ·refine zAJ hmix hT zLU (by simp) ?_
       (repeat' (first|refine stn ?_|(with_reducible refine brr ?_ ?_<;>intro h)|(with_reducible refine zAI ?_ ?_<;>intro h)|with_reducible refine zAW ?_ ?_)); all_goals try (conv=>whnf)
       all_goals try (exact zAB rfl rfl)
       all_goals try (exfalso; omega)
       exfalso;apply hin;simp only [innerOk, decide_eq_true_eq];refine ⟨?_, ?_, ?_, ?_, ?_⟩ <;> first | assumption | omega
theorem ok_refValid : FO 20 Tryz.f20 [.tmp 2] 15 := mkO Tryz.func20 Tryz.ntmps20 Tryz.results20
theorem c_refValid (x : NodeL) (hs : x.Sm) : Fn 20 [nodeV x] (.data (.bool x.valid)) := by
 obtain ⟨k, b, ⟨h1, h2, _, _⟩, hr⟩ := c_form _ x 0 (Nat.lt_succ_self _) hs (by omega) (by omega);have e0 : (2048 - (0 : Int)).toNat = 2048 := rfl;rw [e0] at h1 h2;refine zAJ hmix hT ok_refValid (by simp) ?_;refine sns ?_;refine zAA hr rfl ?_
 (repeat' (first|refine stn ?_|(with_reducible refine brr ?_ ?_<;>intro h)|(with_reducible refine zAI ?_ ?_<;>intro h)|with_reducible refine zAW ?_ ?_)); all_goals try (conv=>whnf)
 all_goals refine zAB rfl ?_
 all_goals simp only [PV.bool.injEq]
 all_goals rw [Bool.eq_iff_iff]
 all_goals simp only [NodeL.valid, Bool.and_eq_true, decide_eq_true_eq]
 ·have ⟨_, h3, h4⟩ := h1 (by assumption)
  constructor
  ·intro h; exact ⟨h3, by omega⟩
  ·intro h; omega
 ·constructor
  ·intro h; cases h
  ·intro ⟨h3, h4⟩
   have := h2 (by omega) h3 h4
   simp_all
end Go.PI.Tryz
namespace Go.PI.Tryz
open Go.Proofs Go.PI
theorem ok_refOpp : FO 101 Tryz.f101 [.cell 2 39] 18 := mkO Tryz.func101 Tryz.ntmps101 Tryz.results101
theorem c_refOpp (d : DecL) : Fn 101 [encDec d] (.data (encDec (opp d))) := by
 refine zAJ hmix hT ok_refOpp (by simp) ?_
 (repeat' (first|refine stn ?_|(with_reducible refine brr ?_ ?_<;>intro h)|(with_reducible refine zAI ?_ ?_<;>intro h)|with_reducible refine zAW ?_ ?_)); all_goals try (conv=>whnf)
 all_goals refine zAB rfl ?_
 all_goals simp_all [opp, oppK, encDec]
theorem ok_refKid : FO 63 Tryz.f63 [.tmp 6] 20 := mkO Tryz.func63 Tryz.ntmps63 Tryz.results63
theorem c_refKid (path : List DecL) (n : NodeL) (i : Nat) (hp : path.length < 2097151) : Fn 63 [.imm (path.map encDec), nodeV n, .int .i64 i] (.fresh ((path ++ [kidD n i]).map encDec) 5 true) := by
 refine fnC_vown hmix hT ok_refKid (by simp) ?_
 (repeat' (first|refine stn ?_|(with_reducible refine brr ?_ ?_<;>intro h)|(with_reducible refine zAI ?_ ?_<;>intro h)|with_reducible refine zAW ?_ ?_)); all_goals try (conv=>whnf)
 ·obtain rfl : i = 1 := by omega
  refine zAA (c_refOpp n.split) rfl ?_;refine sns ?_;refine zFM rfl ?_ ?_ rfl (zJU (fun x => frz_dec x) _)
  ·simp [kidD]; rfl
  ·simp
 ·refine zFM rfl ?_ ?_ rfl (zJU (fun x => frz_dec x) _)
  ·simp [kidD, show i ≠ 1 by omega]; rfl
  ·simp
end Go.PI.Tryz
namespace Go.PI.Tryz
open Go.Proofs Go.PI
def pre (path : List DecL) (l : List (List DecL × NodeL)) : List (List DecL × NodeL) := l.map fun q => (path ++ q.1, q.2)
instance : Inhabited (List DecL × NodeL) := ⟨([], default)⟩
end Go.PI.Tryz
namespace Go.PI.Tryz
open Go.Proofs Go.PI
end Go.PI.Tryz
