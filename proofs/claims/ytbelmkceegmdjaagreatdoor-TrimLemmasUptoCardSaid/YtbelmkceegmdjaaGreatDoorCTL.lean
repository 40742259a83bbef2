/-
  The laws TrimLemmas, TrimSplits.
-/
import Derived.Test.YtbelmkceegmdjaaGreatDoorCTW
set_option linter.unusedVariables false
set_option linter.unusedSimpArgs false
set_option linter.unnecessarySimpa false
namespace Go.PI.Tryz
open Go.Proofs Go.PI
theorem zLS : ∀ (l : List LemL) (O : List Bool), ∀ m ∈ vB3 l O, m ∈ l
 | [], O, m, h => by simp [vB3] at h
 | a :: l, [], m, h => by simp [vB3] at h
 | a :: l, o :: O, m, h => by
   unfold vB3 at h
   split at h
   ·rcases List.mem_cons.1 h with rfl | h
    ·simp
    ·exact List.mem_cons_of_mem _ (zLS l O m h)
   ·exact List.mem_cons_of_mem _ (zLS l O m h)
theorem vN1 : ∀ (ks : List NodeL) (b : Int) (R : List Int), ∀ x ∈ vDT ks b R, ∃ k ∈ ks, x = vHI k b R
 | [], b, R, x, h => by simp [vDT] at h
 | k :: ks, b, R, x, h => by
   simp only [vDT, List.mem_cons] at h;rcases h with rfl | h
   ·exact ⟨k, by simp, rfl⟩
   ·obtain ⟨k', h1, h2⟩ := vN1 ks b R x h
    exact ⟨k', List.mem_cons_of_mem _ h1, h2⟩
theorem vML {f : RowL → RowL} {l : List MultL} (h : vCH l) : vCH (vBM f l) := by
 refine ⟨by simpa [vBM] using h.1, fun m hm => ?_⟩;obtain ⟨x, hx, rfl⟩ := List.mem_map.1 hm;exact h.2 x hx
theorem uG5 : ∀ (k : Nat) (n : NodeL) (b : Int) (R : List Int), SizeOf.sizeOf n < k → n.Sm → (vHI n b R).Sm := by
 intro k
 induction k with
 | zero => intro n b R h; omega
 | succ k ih =>
   intro n b R hk h;rw [vUS];refine .mk _ ⟨?_, fun m hm => ?_⟩ h.dec ?_ (fun x hx => ?_) (vML h.prf)
   ·show ((vB3 _ _).map _).length < _
    rw [List.length_map];have := zLT n.lemmas (ownB n.lemmas n.kids n.proof b);have := h.lems.1;omega
   ·obtain ⟨y, hy, rfl⟩ := List.mem_map.1 (show m ∈ (vB3 _ _).map _ from hm)
    have := h.lems.2 y (zLS _ _ y hy);exact ⟨this.1, vML this.2⟩
   ·show (vDT _ _ _).length < _
    rw [zKV]; exact h.len
   ·obtain ⟨y, hy, rfl⟩ := vN1 _ _ _ x hx
    exact ih y _ _ (by have := NodeL.sizeOf_kid hy; omega) (h.kid hy)
theorem uA3 : zeroN.Sm := .mk _ ⟨by decide, fun m hm => by cases hm⟩ ⟨by decide, by decide⟩ (by decide) (fun k hk => by cases hk) ⟨by decide, fun p hp => by cases hp⟩
theorem vT2 {n : NodeL} (h : n.Sm) : (vB9 n).Sm := by
 unfold vB9
 split
 ·exact uG5 _ n 0 [] (Nat.lt_succ_self _) h
 ·exact uA3
theorem vIY : FO 3 Tryz.f3 [.tmp 2] 16 := mkO Tryz.func3 Tryz.ntmps3 Tryz.results3
theorem vJW (n : NodeL) (hs : n.Sm) (hr : NodeRg n) (hw : n.wt ≤ 2097152) : Fn 3 [vA7 n] (.data (.bool true)) := by
 have cz := vVE _ n 250 (Nat.lt_succ_self _) hw;have ca := vJX n hs hr (by omega);have cb := vL3 n hs hr (by omega);have ce := vP9 _ (vB9 n) (vB9 n) (Nat.lt_succ_self _) (vT2 hs);rw [decide_eq_true rfl] at ce;generalize vB9 n = m at *
 refine zAO vBC hT vIY (by simp) ?_;refine sns ?_;refine zAA vJ0 rfl ?_;refine sns ?_;refine zAA cz rfl ?_
 (repeat' (first|refine stn ?_|(with_reducible refine brr ?_ ?_<;>intro h)|(with_reducible refine zAD ?_ ?_<;>intro h)|with_reducible refine zAK ?_ ?_)); all_goals try (conv=>whnf)
 ·refine zAA vJ0 rfl ?_
  refine sns ?_;exact zAB rfl rfl
 ·refine zAA ca rfl ?_
  refine sns ?_;refine zAA cb rfl ?_;refine sns ?_;refine zAA ce rfl ?_;refine sns ?_;exact zAB rfl rfl
end Go.PI.Tryz
