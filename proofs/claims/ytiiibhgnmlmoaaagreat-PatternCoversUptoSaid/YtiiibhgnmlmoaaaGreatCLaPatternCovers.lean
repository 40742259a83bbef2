/-
  For every input of bulk at most 1048576: PatternCovers returns true and leaves all that came in as it was.
-/
import Derived.Test.YtiiibhgnmlmoaaaGreatCHA
import Derived.Test.YtiiibhgnmlmoaaaGreatCPD
import Derived.Test.YtiiibhgnmlmoaaaGreatCHL
namespace Go.PI.Tryz
set_option linter.unnecessarySimpa false
open Go.Proofs Go.PI
set_option linter.unusedSimpArgs false
set_option linter.unusedVariables false
/-- The complete patterns that begin with some phases. -/
def extP : Nat → List Int → List (List Int)
  | 0, p => [p]
  | m + 1, p => extP m (p ++ [1]) ++ extP m (p ++ [2])
theorem extP_len : ∀ (m : Nat) (p : List Int), (extP m p).length = 2 ^ m
  | 0, _ => rfl
  | m + 1, p => by simp only [extP, List.length_append, extP_len m]; omega
theorem at_func2 {ρ : Nat → Nat} {k : Nat} {t : Tm} {j : Nat} {fn : Go.Fn} {e e' : PV} {o o' : Nat} (h : t j = .func fn [] [.cptr e o, .cptr e' o']) : at' ρ k t j (.func fn [] [.cptr e o, .cptr e' o']) := by
  unfold at'
  rw [h, rn_func]
  refine ⟨rfl, trivial, ?_⟩
  rw [rnL_cons, rn_cptr, rnL_cons, rn_cptr, rnL_nil]
  exact ⟨rfl, rfl, trivial⟩
theorem ok_from1 : FnOk Tryz.prog 77 Tryz.f77 (Tryz.f77.body.getD .skip) [] 34 := ⟨Tryz.func77, rfl, by decide, Tryz.ntmps77, Tryz.results77, by kernel_rfl, by kernel_rfl⟩
theorem ok_from : FnOk Tryz.prog 53 Tryz.f53 (Tryz.f53.body.getD .skip) [.tmp 4] 6 := ⟨Tryz.func53, rfl, by decide, Tryz.ntmps53, Tryz.results53, by kernel_rfl, by kernel_rfl⟩
theorem c_from (p : List Int) (u : Int) : Fn 53 [ints p, .int .i64 u] (.data (.func (.func 77) [] [.cptr (ints p) 0, .cptr (.int .i64 u) 0])) := by
  refine fnC_v hmix hT ok_from (by simp) ?_
  (repeat' (first|refine stp ?_|with_reducible(refine brr ?_ ?_<;>intro h)));all_goals try(conv=>whnf)
  exact givesV_to rfl rfl
theorem extP_at {m : Nat} {p : List Int} {i : Nat} {q : List Int} : (extP m (p ++ [1]))[i]? = some q → (extP (m + 1) p)[0 * 2 ^ m + i]? = some q := fun h => by
  rw [Nat.zero_mul, Nat.zero_add]
  unfold extP
  rw [List.getElem?_append_left (List.getElem?_eq_some_iff.1 h).1, h]
theorem extP_at2 {m : Nat} {p : List Int} {i : Nat} {q : List Int} : (extP m (p ++ [2]))[i]? = some q → (extP (m + 1) p)[1 * 2 ^ m + i]? = some q := fun h => by
  unfold extP
  rw [List.getElem?_append_right (by rw [extP_len]; omega), extP_len, show 1 * 2 ^ m + i - 2 ^ m = i by omega, h]
def encP1 (p : List Int) : List PV := [ints p]
theorem c_from1 : ∀ (m : Nat) (p : List Int) (u : Int), (u : Int) = p.length + m → u ≤ 1024 → Fn 77 [.cptr (ints p) 0, .cptr (.int .i64 u) 0] (.seq ((extP m p).map encP1)) := by
  intro m
  induction m with
  | zero =>
    intro p u hu hu2
    refine seqV_of hmix hT ok_from1 (by simp) fun k Y => ?_
    (repeat' (first|refine stp ?_|with_reducible(refine brr ?_ ?_<;>intro h)));all_goals try(conv=>whnf)
    · have hy : ((extP 0 p).map encP1)[0]? = some (encP1 p) := rfl
      refine yieldV_of (fnY_yield Y hy (Nat.zero_le _)) (mapF_cons (frz_own_map rfl rfl (by simp) fun _ => rfl) rfl) rfl ?_
      (repeat' (first|refine stp ?_|with_reducible(refine brr ?_ ?_<;>intro h)));all_goals try(conv=>whnf)
      have : min ((extP 0 p).map encP1).length (k + 1) = 0 + 1 := by rw [List.length_map, extP_len]; omega
      rw [this]; rfl
    · exfalso; omega
  | succ m ih =>
    intro p u hu hu2
    refine seqV_of hmix hT ok_from1 (by simp) fun k Y => ?_
    (repeat' (first|refine stp ?_|with_reducible(refine brr ?_ ?_<;>intro h)));all_goals try(conv=>whnf)
    · exfalso; omega
    refine loopX_kept hT (fun c : Nat => [(1, .cptr (ints p) 0), (2, .cptr (.int .i64 u) 0), (3, .ptr 1 0 0), (16, .agg [.int .i64 1, .int .i64 2]), (17, .int .i64 c)]) (fun c => [(0, gblk (c * 2 ^ m)), (1, ⟨[.func (.yield Y.l) [] []], 1, false⟩)]) [] 2 (fun c => c ≤ 2 ∧ c * 2 ^ m ≤ k) (fun c => 2 - c) 0 ⟨by omega, by omega⟩ (by decide) (by simp) ?_ ?_
    · exact ⟨[1], [], [], [], ⟨trivial, trivial, trivial⟩, ⟨at_cptr rfl, at_cptr rfl, at_ptr (by decide) rfl, at_agg rfl ⟨rfl, rfl, trivial⟩, at_int rfl rfl, trivial⟩, ⟨blk_box (by decide) rfl (by simp) rfl rfl rfl, blk_boxK (by decide) rfl ⟨rfl, trivial, trivial⟩ rfl rfl, trivial⟩, by simp [ren]⟩
    rintro c ⟨c1, c2⟩
    obtain rfl | rfl | rfl : c = 0 ∨ c = 1 ∨ c = 2 := by omega
    · (repeat' (first|refine stp ?_|with_reducible(refine brr ?_ ?_<;>intro h)));all_goals try(conv=>whnf)
      refine callV_data (c_from (p ++ [1]) u) (mapF_cons (frz_own_map (l := p ++ [1]) rfl (by rw [List.map_append]; rfl) (by simp) fun _ => rfl) rfl) ?_
      (repeat' (first|refine stp ?_|with_reducible(refine brr ?_ ?_<;>intro h)));all_goals try(conv=>whnf)
      have hle : ((extP m (p ++ [1])).map encP1).length = 2 ^ m := by rw [List.length_map, extP_len]
      refine rangeV_kept hT [(1, .cptr (ints p) 0), (2, .cptr (.int .i64 u) 0), (3, .ptr 1 0 0), (16, .agg [.int .i64 1, .int .i64 2]), (17, .int .i64 (0 : Nat)), (27, .func (.func 77) [] [.cptr (ints (p ++ [1])) 0, .cptr (.int .i64 u) 0])] (fun i => [(0, gblk (0 * 2 ^ m + i)), (1, ⟨[.func (.yield Y.l) [] []], 1, false⟩)]) [] 2 (xs := (extP m (p ++ [1])).map encP1) (k - 0 * 2 ^ m) (fun _ => 2) rfl (fun _ => Nat.le_refl _) (by decide) (by simp) (by simp) ?_ rfl rfl (ih (p ++ [1]) u (by rw [List.length_append]; simp only [List.length_singleton]; omega) hu2) (by simp only [List.mem_map]; rintro _ ⟨v, _, rfl⟩; rfl) ?_ ?_ ?_
      · exact ⟨[1], [], [], [], ⟨trivial, trivial, trivial⟩, ⟨at_cptr rfl, at_cptr rfl, at_ptr (by decide) rfl, at_agg rfl ⟨rfl, rfl, trivial⟩, at_int rfl rfl, at_func2 rfl, trivial⟩, ⟨blk_box (by decide) rfl rfl rfl rfl rfl, blk_boxK (by decide) rfl ⟨rfl, trivial, trivial⟩ rfl rfl, trivial⟩, by simp [ren]⟩
      · intro i y hy hi
        obtain ⟨q, hq, rfl⟩ : ∃ q, (extP m (p ++ [1]))[i]? = some q ∧ y = encP1 q := by
          rw [List.getElem?_map] at hy
          obtain ⟨v, h1, h2⟩ := Option.map_eq_some_iff.1 hy
          exact ⟨v, h1, h2.symm⟩
        have hyy : ((extP (m + 1) p).map encP1)[0 * 2 ^ m + i]? = some (encP1 q) := by rw [List.getElem?_map, extP_at hq]; rfl
        have hyl := fnY_yield (G := G0) Y hyy (by omega)
        rw [decide_eq_true (show 0 * 2 ^ m + i ≠ k by omega)] at hyl
        (repeat' (first|refine stp ?_|with_reducible(refine brr ?_ ?_<;>intro h)));all_goals try(conv=>whnf)
        refine yieldV_of hyl rfl rfl ?_
        (repeat' (first|refine stp ?_|with_reducible(refine brr ?_ ?_<;>intro h)));all_goals try(conv=>whnf)
        exact ⟨[], [], [], [], ⟨trivial, trivial, trivial⟩, trivial, ⟨blk_box (by decide) rfl rfl rfl rfl rfl, blk_boxK (by decide) rfl ⟨rfl, trivial, trivial⟩ rfl rfl, trivial⟩, by simp [ren]⟩
      · intro y hy
        obtain ⟨q, hq, rfl⟩ : ∃ q, (extP m (p ++ [1]))[k - 0 * 2 ^ m]? = some q ∧ y = encP1 q := by
          rw [List.getElem?_map] at hy
          obtain ⟨v, h1, h2⟩ := Option.map_eq_some_iff.1 hy
          exact ⟨v, h1, h2.symm⟩
        have hyy : ((extP (m + 1) p).map encP1)[0 * 2 ^ m + (k - 0 * 2 ^ m)]? = some (encP1 q) := by rw [List.getElem?_map, extP_at hq]; rfl
        have hlt := (List.getElem?_eq_some_iff.1 hyy).1
        have hyl := fnY_yield (G := G0) Y hyy (by omega)
        rw [decide_eq_false (show ¬ 0 * 2 ^ m + (k - 0 * 2 ^ m) ≠ k by omega)] at hyl
        have hmin : min ((extP (m + 1) p).map encP1).length (k + 1) = 0 * 2 ^ m + (k - 0 * 2 ^ m) + 1 := by omega
        rw [hmin]
        (repeat' (first|refine stp ?_|with_reducible(refine brr ?_ ?_<;>intro h)));all_goals try(conv=>whnf)
        refine yieldV_of hyl rfl rfl ?_
        (repeat' (first|refine stp ?_|with_reducible(refine brr ?_ ?_<;>intro h)));all_goals try(conv=>whnf)
        rfl
      · intro hst
        rw [hle] at hst ⊢
        (repeat' (first|refine stp ?_|with_reducible(refine brr ?_ ?_<;>intro h)));all_goals try(conv=>whnf)
        exact ⟨0 + 1, ⟨⟨by omega, by omega⟩, by omega⟩, [1], [], [], [], ⟨trivial, trivial, trivial⟩, ⟨at_cptr rfl, at_cptr rfl, at_ptr (by decide) rfl, at_agg rfl ⟨rfl, rfl, trivial⟩, at_int rfl rfl, trivial⟩, ⟨blk_box (by decide) rfl (congrArg (fun n : Nat => PV.int .i64 n) (show 0 * 2 ^ m + 2 ^ m = (0 + 1) * 2 ^ m by omega)) rfl rfl rfl, blk_boxK (by decide) rfl ⟨rfl, trivial, trivial⟩ rfl rfl, trivial⟩, by simp [ren]⟩
    · (repeat' (first|refine stp ?_|with_reducible(refine brr ?_ ?_<;>intro h)));all_goals try(conv=>whnf)
      refine callV_data (c_from (p ++ [2]) u) (mapF_cons (frz_own_map (l := p ++ [2]) rfl (by rw [List.map_append]; rfl) (by simp) fun _ => rfl) rfl) ?_
      (repeat' (first|refine stp ?_|with_reducible(refine brr ?_ ?_<;>intro h)));all_goals try(conv=>whnf)
      have hle : ((extP m (p ++ [2])).map encP1).length = 2 ^ m := by rw [List.length_map, extP_len]
      refine rangeV_kept hT [(1, .cptr (ints p) 0), (2, .cptr (.int .i64 u) 0), (3, .ptr 1 0 0), (16, .agg [.int .i64 1, .int .i64 2]), (17, .int .i64 (1 : Nat)), (27, .func (.func 77) [] [.cptr (ints (p ++ [2])) 0, .cptr (.int .i64 u) 0])] (fun i => [(0, gblk (1 * 2 ^ m + i)), (1, ⟨[.func (.yield Y.l) [] []], 1, false⟩)]) [] 2 (xs := (extP m (p ++ [2])).map encP1) (k - 1 * 2 ^ m) (fun _ => 2) rfl (fun _ => Nat.le_refl _) (by decide) (by simp) (by simp) ?_ rfl rfl (ih (p ++ [2]) u (by rw [List.length_append]; simp only [List.length_singleton]; omega) hu2) (by simp only [List.mem_map]; rintro _ ⟨v, _, rfl⟩; rfl) ?_ ?_ ?_
      · exact ⟨[1], [], [], [], ⟨trivial, trivial, trivial⟩, ⟨at_cptr rfl, at_cptr rfl, at_ptr (by decide) rfl, at_agg rfl ⟨rfl, rfl, trivial⟩, at_int rfl rfl, at_func2 rfl, trivial⟩, ⟨blk_box (by decide) rfl rfl rfl rfl rfl, blk_boxK (by decide) rfl ⟨rfl, trivial, trivial⟩ rfl rfl, trivial⟩, by simp [ren]⟩
      · intro i y hy hi
        obtain ⟨q, hq, rfl⟩ : ∃ q, (extP m (p ++ [2]))[i]? = some q ∧ y = encP1 q := by
          rw [List.getElem?_map] at hy
          obtain ⟨v, h1, h2⟩ := Option.map_eq_some_iff.1 hy
          exact ⟨v, h1, h2.symm⟩
        have hyy : ((extP (m + 1) p).map encP1)[1 * 2 ^ m + i]? = some (encP1 q) := by rw [List.getElem?_map, extP_at2 hq]; rfl
        have hyl := fnY_yield (G := G0) Y hyy (by omega)
        rw [decide_eq_true (show 1 * 2 ^ m + i ≠ k by omega)] at hyl
        (repeat' (first|refine stp ?_|with_reducible(refine brr ?_ ?_<;>intro h)));all_goals try(conv=>whnf)
        refine yieldV_of hyl rfl rfl ?_
        (repeat' (first|refine stp ?_|with_reducible(refine brr ?_ ?_<;>intro h)));all_goals try(conv=>whnf)
        exact ⟨[], [], [], [], ⟨trivial, trivial, trivial⟩, trivial, ⟨blk_box (by decide) rfl rfl rfl rfl rfl, blk_boxK (by decide) rfl ⟨rfl, trivial, trivial⟩ rfl rfl, trivial⟩, by simp [ren]⟩
      · intro y hy
        obtain ⟨q, hq, rfl⟩ : ∃ q, (extP m (p ++ [2]))[k - 1 * 2 ^ m]? = some q ∧ y = encP1 q := by
          rw [List.getElem?_map] at hy
          obtain ⟨v, h1, h2⟩ := Option.map_eq_some_iff.1 hy
          exact ⟨v, h1, h2.symm⟩
        have hyy : ((extP (m + 1) p).map encP1)[1 * 2 ^ m + (k - 1 * 2 ^ m)]? = some (encP1 q) := by rw [List.getElem?_map, extP_at2 hq]; rfl
        have hlt := (List.getElem?_eq_some_iff.1 hyy).1
        have hyl := fnY_yield (G := G0) Y hyy (by omega)
        rw [decide_eq_false (show ¬ 1 * 2 ^ m + (k - 1 * 2 ^ m) ≠ k by omega)] at hyl
        have hmin : min ((extP (m + 1) p).map encP1).length (k + 1) = 1 * 2 ^ m + (k - 1 * 2 ^ m) + 1 := by omega
        rw [hmin]
        (repeat' (first|refine stp ?_|with_reducible(refine brr ?_ ?_<;>intro h)));all_goals try(conv=>whnf)
        refine yieldV_of hyl rfl rfl ?_
        (repeat' (first|refine stp ?_|with_reducible(refine brr ?_ ?_<;>intro h)));all_goals try(conv=>whnf)
        rfl
      · intro hst
        rw [hle] at hst ⊢
        (repeat' (first|refine stp ?_|with_reducible(refine brr ?_ ?_<;>intro h)));all_goals try(conv=>whnf)
        exact ⟨1 + 1, ⟨⟨by omega, by omega⟩, by omega⟩, [1], [], [], [], ⟨trivial, trivial, trivial⟩, ⟨at_cptr rfl, at_cptr rfl, at_ptr (by decide) rfl, at_agg rfl ⟨rfl, rfl, trivial⟩, at_int rfl rfl, trivial⟩, ⟨blk_box (by decide) rfl (congrArg (fun n : Nat => PV.int .i64 n) (show 1 * 2 ^ m + 2 ^ m = (1 + 1) * 2 ^ m by omega)) rfl rfl rfl, blk_boxK (by decide) rfl ⟨rfl, trivial, trivial⟩ rfl rfl, trivial⟩, by simp [ren]⟩
    · (repeat' (first|refine stp ?_|with_reducible(refine brr ?_ ?_<;>intro h)));all_goals try(conv=>whnf)
      have hmin : min ((extP (m + 1) p).map encP1).length (k + 1) = 2 * 2 ^ m := by rw [List.length_map, extP_len]; omega
      rw [hmin]; rfl
end Go.PI.Tryz
namespace Go.PI.Tryz
set_option linter.unnecessarySimpa false
open Go.Proofs Go.PI
set_option linter.unusedSimpArgs false
set_option linter.unusedVariables false
def preP (p o : List Int) : Prop := ∀ i, i < p.length → Dec p[i]! ∧ Agree o[i]! p[i]!
def zer (o : List Int) : Nat → Nat → Nat
  | 0, _ => 1
  | m + 1, a => (if o[a]! = 0 then 2 else 1) * zer o m (a + 1)
theorem zer_succ (o : List Int) (m a : Nat) : zer o (m + 1) a = (if o[a]! = 0 then 2 else 1) * zer o m (a + 1) := rfl
theorem get_snoc {p : List Int} {x : Int} {i : Nat} : (p ++ [x])[i]! = if i < p.length then p[i]! else if i = p.length then x else default := by
  split
  · rename_i h; rw [getElem!_pos _ i (by simp; omega), getElem!_pos p i h, List.getElem_append_left h]
  · split
    · rename_i h; subst h; rw [getElem!_pos _ _ (by simp)]; simp
    · rw [getElem!_neg _ i (by simp; omega)]
theorem preP_snoc {p o : List Int} {x : Int} : preP (p ++ [x]) o ↔ preP p o ∧ Dec x ∧ Agree o[p.length]! x := by
  unfold preP
  constructor
  · intro h
    refine ⟨fun i hi => ?_, ?_⟩
    · have := h i (by simp; omega)
      rwa [get_snoc, if_pos hi] at this
    · have := h p.length (by simp)
      rwa [get_snoc, if_neg (Nat.lt_irrefl _), if_pos rfl] at this
  · rintro ⟨h1, h2⟩ i hi
    rw [get_snoc]
    by_cases e : i < p.length
    · rw [if_pos e]; exact h1 i e
    · have : i = p.length := by simp at hi; omega
      subst this
      rw [if_neg e, if_pos rfl]; exact h2
noncomputable def fitC (o : List Int) (l : List (List Int)) : Nat := l.countP fun q => dB (fitP q o)
open Classical in
theorem fitC_ext {o : List Int} (ho : ∀ i, i < o.length → o[i]! = 0 ∨ o[i]! = 1 ∨ o[i]! = 2) : ∀ (m : Nat) (p : List Int), p.length + m = o.length → fitC o (extP m p) = if preP p o then zer o m p.length else 0
  | 0, p, h => by
    have e : fitP p o ↔ preP p o := ⟨fun e => e.2, fun e => ⟨by omega, e⟩⟩
    unfold fitC extP zer
    by_cases hp : preP p o
    · rw [if_pos hp, List.countP_singleton, dB_true.2 (e.2 hp)]; rfl
    · rw [if_neg hp, List.countP_singleton, dB_false.2 (fun q => hp (e.1 q))]; rfl
  | m + 1, p, h => by
    have h1 := fitC_ext ho m (p ++ [1]) (by simp; omega)
    have h2 := fitC_ext ho m (p ++ [2]) (by simp; omega)
    have e : fitC o (extP (m + 1) p) = fitC o (extP m (p ++ [1])) + fitC o (extP m (p ++ [2])) := by unfold fitC; rw [extP, List.countP_append]
    rw [e, h1, h2]
    simp only [List.length_append, List.length_singleton]
    have hz := ho p.length (by omega)
    rw [zer_succ]
    by_cases hp : preP p o
    · have s1 : preP (p ++ [1]) o ↔ o[p.length]! = 0 ∨ o[p.length]! = 1 := by
        rw [preP_snoc]; exact ⟨fun e => e.2.2, fun e => ⟨hp, Or.inl rfl, e⟩⟩
      have s2 : preP (p ++ [2]) o ↔ o[p.length]! = 0 ∨ o[p.length]! = 2 := by
        rw [preP_snoc]; exact ⟨fun e => e.2.2, fun e => ⟨hp, Or.inr rfl, e⟩⟩
      rw [if_pos hp]
      rcases hz with z | z | z
      · rw [if_pos (s1.2 (Or.inl z)), if_pos (s2.2 (Or.inl z)), if_pos z]; omega
      · rw [if_pos (s1.2 (Or.inr z)), if_neg (fun q => by have := s2.1 q; omega), if_neg (by omega)]; omega
      · rw [if_neg (fun q => by have := s1.1 q; omega), if_pos (s2.2 (Or.inr z)), if_neg (by omega)]; omega
    · rw [if_neg hp, if_neg (fun q => hp (preP_snoc.1 q).1), if_neg (fun q => hp (preP_snoc.1 q).1)]
theorem fit_all {o : List Int} (ho : ∀ i, i < o.length → o[i]! = 0 ∨ o[i]! = 1 ∨ o[i]! = 2) : fitC o (extP o.length []) = zer o o.length 0 := by
  have hn : preP [] o := fun i hi => by simp at hi
  rw [fitC_ext ho _ _ (by simp), if_pos hn]; rfl
theorem fitC_succ {o : List Int} {l : List (List Int)} {i : Nat} {q : List Int} (h : l[i]? = some q) : fitC o (l.take (i + 1)) = fitC o (l.take i) + if dB (fitP q o) = true then 1 else 0 := by
  obtain ⟨h1, h2⟩ := List.getElem?_eq_some_iff.1 h
  unfold fitC
  rw [List.take_succ_eq_append_getElem h1, List.countP_append, h2, List.countP_singleton]
theorem fitC_le (o : List Int) (l : List (List Int)) (i : Nat) : fitC o (l.take i) ≤ l.length := by
  unfold fitC
  exact Nat.le_trans List.countP_le_length (by rw [List.length_take]; omega)
theorem ok_pAll : FnOk Tryz.prog 25 Tryz.f25 (Tryz.f25.body.getD .skip) [.tmp 2] 11 := ⟨Tryz.func25, rfl, by decide, Tryz.ntmps25, Tryz.results25, by kernel_rfl, by kernel_rfl⟩
theorem c_pAll (u : Int) (hu : 0 ≤ u ∧ u ≤ 1024) : Fn 25 [.int .i64 u] (.data (.func (.func 77) [] [.cptr (ints []) 0, .cptr (.int .i64 u) 0])) := by
  have cf := c_from [] u
  refine fnC_v hmix hT ok_pAll (by simp) ?_
  (repeat' (first|refine stp ?_|with_reducible(refine brr ?_ ?_<;>intro h)));all_goals try(conv=>whnf)
  all_goals try (exfalso; omega)
  refine callV_data cf rfl ?_
  (repeat' (first|refine stp ?_|with_reducible(refine brr ?_ ?_<;>intro h)));all_goals try(conv=>whnf)
  exact givesV_to rfl rfl
theorem c_all1 (m : Nat) (hm : m ≤ 1024) : Fn 77 [.cptr (ints []) 0, .cptr (.int .i64 m) 0] (.seq ((extP m []).map encP1)) := c_from1 m [] m (by simp) (by omega)
end Go.PI.Tryz
namespace Go.PI.Tryz
set_option linter.unnecessarySimpa false
open Go.Proofs Go.PI
set_option linter.unusedSimpArgs false
set_option linter.unusedVariables false
theorem phase_cases (q : Rat) : phase q = 0 ∨ phase q = 1 ∨ phase q = 2 := by unfold phase; split <;> (try split) <;> simp
theorem of_cases {pre : List Rat} : ∀ i, i < (ofL pre).length → (ofL pre)[i]! = 0 ∨ (ofL pre)[i]! = 1 ∨ (ofL pre)[i]! = 2 := fun i hi => by
  rw [ofL_get (by rw [ofL_len] at hi; exact hi)]; exact phase_cases _
theorem ext_len : ∀ (m : Nat) (p : List Int), ∀ q ∈ extP m p, q.length = p.length + m
  | 0, p, q, h => by rw [List.mem_singleton.1 h]; rfl
  | m + 1, p, q, h => by
    rcases List.mem_append.1 h with h | h
    · rw [ext_len m _ q h]; simp; omega
    · rw [ext_len m _ q h]; simp; omega
theorem ok_lawCovers : FnOk Tryz.prog 7 Tryz.f7 (Tryz.f7.body.getD .skip) [.tmp 4] 54 := ⟨Tryz.func7, rfl, by decide, Tryz.ntmps7, Tryz.results7, by kernel_rfl, by kernel_rfl⟩
theorem c_coversY (g : GraL) (x : List RatL) (o : List Int) (hg : okGra 1048576 g) (hx : okLs 1048576 x) (hs : smG g) (hpt : smPt x) (hol : o.length ≤ 5) (ho : ∀ i, i < o.length → o[i]! = 0 ∨ o[i]! = 1 ∨ o[i]! = 2)
    (c1 : Fn 11 [encGra g, .imm (x.map encRat)] (.data (.tup [ints o, .int .i64 0]))) : Fn 7 [encGra g, .imm (x.map encRat)] (.data (.bool true)) := by
  have cg := c_smgraph g (okGra_le (by decide) hg)
  have cx := c_smpoint x (okLs_le (by decide) hx)
  rw [dB_true.2 hs] at cg
  rw [dB_true.2 hpt] at cx
  have hpw : 2 ^ o.length ≤ 2 ^ 5 := Nat.pow_le_pow_right (by decide) hol
  refine fnC_v hmix hT ok_lawCovers (by simp [encGra]) ?_
  (repeat' (first|refine stp ?_|with_reducible(refine brr ?_ ?_<;>intro h)));all_goals try(conv=>whnf)
  refine callV_data c_awake18 rfl ?_
  (repeat' (first|refine stp ?_|with_reducible(refine brr ?_ ?_<;>intro h)));all_goals try(conv=>whnf)
  refine callV_data cg rfl ?_
  (repeat' (first|refine stp ?_|with_reducible(refine brr ?_ ?_<;>intro h)));all_goals try(conv=>whnf)
  refine callV_data cx rfl ?_
  (repeat' (first|refine stp ?_|with_reducible(refine brr ?_ ?_<;>intro h)));all_goals try(conv=>whnf)
  refine callV_data c1 rfl ?_
  (repeat' (first|refine stp ?_|with_reducible(refine brr ?_ ?_<;>intro h)));all_goals try(conv=>whnf)
  refine loopV_kept hT (fun ((i, w) : Nat × Nat) => [(5, .ptr 0 0 0), (7, .int .i64 w), (8, .int .i64 i)])
    (fun _ => [(0, ⟨[ints o], 1, false⟩)]) [] 1
    (fun ((i, w) : Nat × Nat) => i ≤ o.length ∧ w * zer o (o.length - i) i = zer o o.length 0 ∧ w ≤ 2 ^ i) (fun ((i, _) : Nat × Nat) => o.length - i) (0, 1) ⟨Nat.zero_le _, by simp, by simp⟩ (by decide) (by simp) ?_ ?_
  · exact ⟨[_], [], [], [], ⟨trivial, trivial, trivial⟩, ⟨at_ptr (by decide) rfl, at_int rfl rfl, at_int rfl rfl, trivial⟩, ⟨blk_box (by decide) rfl rfl rfl rfl rfl, trivial⟩, by simp [ren]⟩
  rintro ⟨i, w⟩ ⟨i1, i2, i3⟩
  by_cases hi : i < o.length
  · obtain ⟨d, hd⟩ : ∃ d, o.length - i = d + 1 := ⟨o.length - i - 1, by omega⟩
    have hd2 : o.length - (i + 1) = d := by omega
    have hp2 : 2 ^ i ≤ 2 ^ 5 := Nat.pow_le_pow_right (by decide) (by omega)
    rw [hd, zer_succ] at i2
    (repeat' (first|refine stp ?_|with_reducible(refine brr ?_ ?_<;>intro h)));all_goals try(conv=>whnf)
    all_goals try (exfalso; omega)
    · rw [if_pos (by assumption)] at i2
      exact ⟨(i + 1, 2 * w), ⟨⟨by omega, by rw [hd2, ← i2, Nat.mul_comm 2 w, Nat.mul_assoc], by rw [Nat.pow_succ]; omega⟩, by show o.length - (i + 1) < o.length - i; omega⟩, [0], [], [], [], ⟨trivial, trivial, trivial⟩, ⟨at_ptr (by decide) rfl, at_int rfl (by omega), at_int rfl rfl, trivial⟩, ⟨blk_box (by decide) rfl rfl rfl rfl rfl, trivial⟩, by simp [ren]⟩
    · rw [if_neg (by assumption), Nat.one_mul] at i2
      exact ⟨(i + 1, w), ⟨⟨by omega, by rw [hd2, ← i2], by rw [Nat.pow_succ]; omega⟩, by show o.length - (i + 1) < o.length - i; omega⟩, [0], [], [], [], ⟨trivial, trivial, trivial⟩, ⟨at_ptr (by decide) rfl, at_int rfl rfl, at_int rfl rfl, trivial⟩, ⟨blk_box (by decide) rfl rfl rfl rfl rfl, trivial⟩, by simp [ren]⟩
  · have ei : i = o.length := by omega
    subst ei
    rw [Nat.sub_self] at i2
    have hw : w = fitC o (extP o.length []) := by rw [fit_all ho, ← i2]; simp [zer]
    have ca := c_pAll o.length (by omega)
    have hxl := extP_len o.length []
    (repeat' (first|refine stp ?_|with_reducible(refine brr ?_ ?_<;>intro h)));all_goals try(conv=>whnf)
    all_goals try (exfalso; omega)
    refine callV_data ca (by simp; rfl) ?_
    (repeat' (first|refine stp ?_|with_reducible(refine brr ?_ ?_<;>intro h)));all_goals try(conv=>whnf)
    refine rangeV_kept hT [(5, .ptr 0 0 0), (7, .int .i64 w), (9, .ptr 1 0 0), (44, .func (.func 77) [] [.cptr (ints []) 0, .cptr (.int .i64 o.length) 0])] (fun i => [(0, ⟨[ints o], 1, false⟩), (1, ⟨[.int .i64 (fitC o ((extP o.length []).take i) : Nat)], 1, false⟩)]) [] 2 (xs := (extP o.length []).map encP1) ((extP o.length []).map encP1).length (fun _ => 2) rfl (fun _ => Nat.le_refl _) (by decide) (by simp) (by simp) ?_ rfl rfl (c_all1 o.length (by omega)) (by simp only [List.mem_map]; rintro _ ⟨v, _, rfl⟩; rfl) ?_ ?_ ?_
    · exact ⟨[0, _], [], [], [], ⟨trivial, trivial, trivial⟩, ⟨at_ptr (by decide) rfl, at_int rfl rfl, at_ptr (by decide) rfl, at_func2 rfl, trivial⟩, ⟨blk_box (by decide) rfl rfl rfl rfl rfl, blk_box (by decide) rfl rfl rfl rfl rfl, trivial⟩, by simp [ren]⟩
    · intro i y hy hi
      obtain ⟨q, hq, rfl⟩ : ∃ q, (extP o.length [])[i]? = some q ∧ y = encP1 q := by
        rw [List.getElem?_map] at hy
        obtain ⟨v, h1, h2⟩ := Option.map_eq_some_iff.1 hy
        exact ⟨v, h1, h2.symm⟩
      have hql := ext_len _ _ q (List.mem_of_getElem? hq)
      simp only [List.length_nil] at hql
      have cf := c_fits q o (by omega) (by omega)
      have hfs := fitC_succ (o := o) hq
      have hfl := fitC_le o (extP o.length []) i
      generalize dB (fitP q o) = B at cf hfs
      (repeat' (first|refine stp ?_|with_reducible(refine brr ?_ ?_<;>intro h)));all_goals try(conv=>whnf)
      refine callV_data cf rfl ?_
      cases B
      · have hfs := hfs.trans (Nat.add_zero _)
        (repeat' (first|refine stp ?_|with_reducible(refine brr ?_ ?_<;>intro h)));all_goals try(conv=>whnf)
        exact ⟨[], [], [], [], ⟨trivial, trivial, trivial⟩, trivial, ⟨blk_box (by decide) rfl rfl rfl rfl rfl, blk_box (by decide) rfl (by rw [hfs]) rfl rfl rfl, trivial⟩, by simp [ren]⟩
      · rw [if_pos rfl] at hfs
        (repeat' (first|refine stp ?_|with_reducible(refine brr ?_ ?_<;>intro h)));all_goals try(conv=>whnf)
        exact ⟨[], [], [], [], ⟨trivial, trivial, trivial⟩, trivial, ⟨blk_box (by decide) rfl rfl rfl rfl rfl, blk_box (by decide) rfl (by rw [hfs]; rfl) rfl rfl rfl, trivial⟩, by simp [ren]⟩
    · intro y hy
      simp at hy
    · intro _
      have hn : fitC o ((extP o.length []).take ((extP o.length []).map encP1).length) = w := by rw [List.length_map, List.take_length, hw]
      rw [hn]
      (repeat' (first|refine stp ?_|with_reducible(refine brr ?_ ?_<;>intro h)));all_goals try(conv=>whnf)
      exact givesV_to rfl (by simp)
theorem c_patternCovers (g : GraL) (x : List RatL) (hg : okGra 1048576 g) (hx : okLs 1048576 x) : Fn 7 [encGra g, .imm (x.map encRat)] (.data (.bool true)) := by
  have cg := c_smgraph g (okGra_le (by decide) hg)
  have cx := c_smpoint x (okLs_le (by decide) hx)
  by_cases hs : smG g
  · by_cases hp : smPt x
    · by_cases ha : VaG g ∧ (x.length : Int) = g.ins
      · obtain ⟨hv, hl⟩ := ha
        have hsv : szV g (x.map qv) 2 1280 := szV_of hg hs hv hl.symm (by rw [List.length_map]) (smPt_sz hx hp)
        have c1 := c_pof g x 2 1280 (smG_ok hg hs) (by decide) (by decide) (by decide) hv (okLs_le (by decide) hx) hl hsv.1 hsv.2.2.1 (by decide)
        exact c_coversY g x _ hg hx hs hp (by rw [ofL_len, preL_len, us_len]; have := hs.2.1.1; omega) of_cases c1
      · rw [dB_true.2 hs] at cg
        rw [dB_true.2 hp] at cx
        have c1 := c_pofN g x (okGra_le (by decide) hg) hx.1 ha
        refine fnC_v hmix hT ok_lawCovers (by simp [encGra]) ?_
        (repeat' (first|refine stp ?_|with_reducible(refine brr ?_ ?_<;>intro h)));all_goals try(conv=>whnf)
        refine callV_data c_awake18 rfl ?_
        (repeat' (first|refine stp ?_|with_reducible(refine brr ?_ ?_<;>intro h)));all_goals try(conv=>whnf)
        refine callV_data cg rfl ?_
        (repeat' (first|refine stp ?_|with_reducible(refine brr ?_ ?_<;>intro h)));all_goals try(conv=>whnf)
        refine callV_data cx rfl ?_
        (repeat' (first|refine stp ?_|with_reducible(refine brr ?_ ?_<;>intro h)));all_goals try(conv=>whnf)
        refine callV_data c1 rfl ?_
        (repeat' (first|refine stp ?_|with_reducible(refine brr ?_ ?_<;>intro h)));all_goals try(conv=>whnf)
        exact givesV_to rfl rfl
    · rw [dB_true.2 hs] at cg
      rw [dB_false.2 hp] at cx
      refine fnC_v hmix hT ok_lawCovers (by simp [encGra]) ?_
      (repeat' (first|refine stp ?_|with_reducible(refine brr ?_ ?_<;>intro h)));all_goals try(conv=>whnf)
      refine callV_data c_awake18 rfl ?_
      (repeat' (first|refine stp ?_|with_reducible(refine brr ?_ ?_<;>intro h)));all_goals try(conv=>whnf)
      refine callV_data cg rfl ?_
      (repeat' (first|refine stp ?_|with_reducible(refine brr ?_ ?_<;>intro h)));all_goals try(conv=>whnf)
      refine callV_data cx rfl ?_
      (repeat' (first|refine stp ?_|with_reducible(refine brr ?_ ?_<;>intro h)));all_goals try(conv=>whnf)
      exact givesV_to rfl rfl
  · rw [dB_false.2 hs] at cg
    refine fnC_v hmix hT ok_lawCovers (by simp [encGra]) ?_
    (repeat' (first|refine stp ?_|with_reducible(refine brr ?_ ?_<;>intro h)));all_goals try(conv=>whnf)
    refine callV_data c_awake18 rfl ?_
    (repeat' (first|refine stp ?_|with_reducible(refine brr ?_ ?_<;>intro h)));all_goals try(conv=>whnf)
    refine callV_data cg rfl ?_
    (repeat' (first|refine stp ?_|with_reducible(refine brr ?_ ?_<;>intro h)));all_goals try(conv=>whnf)
    exact givesV_to rfl rfl
end Go.PI.Tryz
namespace Go.Proofs.YtiiibhgnmlmoaaaGreat
set_option linter.unusedSimpArgs false
set_option linter.unnecessarySimpa false
open Go Go.PI Go.PI.Tryz
open Go.ChangeShapes Go.WideShapes Go.ChangeAt Go.RowKit
set_option linter.unusedVariables false
theorem ok_law_patternCovers : FnOk Tryz.prog 7 Tryz.f7 (Tryz.f7.body.getD .skip) [.tmp 4] 54 := ⟨Tryz.func7, rfl, by decide, Tryz.ntmps7, Tryz.results7, by kernel_rfl, by kernel_rfl⟩
set_option maxRecDepth 100000 in
theorem patternCovers_contract (H : Type) (enc : TypeId × Value → H) (W : World) (args : Array Value) (ds gs : List (DataW H)) (before : List MemPlace) (base : Nat) (hb : Rows.uptoBulkAll ds ≤ 1048576)
    (hvl : ∀ (j : Nat) t v, Tryz.f7.params[j]? = some t → args[j]? = some v → Value.okWide Tryz.prog W .any base t v)
    (hW : DataW.Whole enc Tryz.prog Tryz.f7.params.toList Rows.patternCoversSpec.vars false W args.toList ds gs before) :
    Calls Tryz.prog 7 args W fun e W' => ∃ v, e = .returned v ∧ Rows.patternCoversSpec.post enc Tryz.prog Tryz.f7 false true false false W args v W' := by
  have hW' := hW
  obtain ⟨p, q, hA0, hV, hpq, hfz, hnd⟩ := hW
  have hA : DataW.TrodAll enc Tryz.prog W 0 (fun _ => true) true Tryz.f7.params.toList args.toList ds p := hA0
  rw [Tryz.params7] at hA hvl
  obtain ⟨v0, vs0, d0, ds0, p0, q0', hargs, rfl, hp0, ⟨fuel0, h0⟩, r0⟩ := trodAll_cons hA
  obtain ⟨v1, vs1, d1, ds1, p1, q1', rfl, rfl, hp1, ⟨fuel1, h1⟩, r1⟩ := trodAll_cons r0
  obtain ⟨rfl, rfl, rfl⟩ := trodAll_nil r1
  have hargs2 : args = #[v0, v1] := by cases args; simp_all
  rw [hargs2] at hvl
  simp only [bulkAll_eq, bulkAll] at hb
  obtain ⟨x0, g0, q0⟩ := (r_gra _) fuel0 (Nat.le_refl _) _ _ _ h0
  obtain ⟨x1, g1, q1⟩ := (r_rats _) fuel1 (Nat.le_refl _) _ _ _ h1
  have hval : ∀ (j : Nat) (d : PV), [encGra x0, .imm (x1.map encRat)][j]? = some d → RD W (AllB W) d (args.toList.getD j undef) := by
    intro j d hj
    rw [hargs]
    match j, hj with
    | 0, hj => cases hj; exact rc_agg (arg_struct hvl 0 (t := 24) (v := v0) rfl rfl Tryz.underlying24) g0
    | 1, hj => cases hj; exact rc_one (arg_slice hvl 1 (t := 25) (v := v1) rfl rfl Tryz.underlying25) g1
    | n + 2, hj => simp at hj
  refine law_post (G := G0) laidOut (by kernel_rfl) rfl Tryz.underlying4 rfl (fun gs hgs => by subst hgs; rfl) hW' gok (pvs := [encGra x0, .imm (x1.map encRat)]) ⟨by rw [hargs]; rfl, hval⟩ ?_
  exact c_patternCovers x0 x1 (q0.ok (by omega)) (okLs_of q1 (by omega))
set_option maxRecDepth 100000 in
theorem patternCovers_lifted (os : Os) (started : os.Started) (H : Type) (enc : TypeId × Value → H) (F : Stop.Interp) :
    ReturnsInHanded {} Tryz.checked os 7 .any ((Rows.OpenSpec.upto Rows.patternCoversSpec).pre6 enc Tryz.prog Tryz.f7 Rows.patternCoversUptoRow.domain false) (((Rows.OpenSpec.upto Rows.patternCoversSpec).at F).post enc Tryz.prog Tryz.f7 false true false false) := by
  refine returnsInHanded_of_cond (C := Tryz.checked) (s := Rows.OpenSpec.upto Rows.patternCoversSpec) (k := Rows.uptoSmall) rfl own started (by kernel_rfl) Tryz.func7
    (OpenSpec.witness (enc := enc) (C := Tryz.checked) (s := Rows.OpenSpec.upto Rows.patternCoversSpec) (k := Rows.uptoSmall) rfl false ⟨#[], #[.agg #[.int .i64 0, .slice none 0 0, .slice none 0 0], .slice none 0 0], []⟩ 8 (by kernel_rfl) (by kernel_rfl) (by kernel_rfl)
      (x := ([.agg [.lit (.int .i64 0), .nil, .nil], .nil], [], [])) (by kernel_rfl) rfl (by kernel_rfl)) ?_
  intro W base args ds gs before hval hW _ hk _
  have hb : Rows.uptoBulkAll (ds ++ gs) ≤ 1048576 := of_decide_eq_true hk
  have hgs : gs = [] := by obtain ⟨p, q, _, hV, _⟩ := hW; exact (trodVars_none hV).1
  rw [hgs, List.append_nil] at hb
  exact patternCovers_contract H enc W args ds gs before base hb hval hW
/-- THE ROW. -/
theorem patternCovers_holds : Rows.PatternCoversUptoSaid :=
  OpenClaim.holds_of_cond 7 Tryz.f7 rfl rfl rfl rfl rfl rfl rfl ⟨rfl, rfl, rfl, rfl, rfl⟩ rfl rfl rfl rfl rfl (by kernel_rfl) Tryz.func7 (by kernel_rfl)
    (of_decide_eq_true (by kernel_rfl)) (by unfold Func.isWrapper; first | (rw [if_pos (by decide +kernel)]; kernel_rfl) | (rw [if_neg (by decide +kernel)]; exact ⟨rfl, rfl⟩))
    (fun os started H enc _ F => patternCovers_lifted os started H enc F)
end Go.Proofs.YtiiibhgnmlmoaaaGreat
