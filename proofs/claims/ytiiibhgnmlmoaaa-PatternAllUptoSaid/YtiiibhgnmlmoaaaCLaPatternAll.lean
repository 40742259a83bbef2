/-
  For every input of bulk at most 1048576: PatternAll returns true and leaves all that came in as it was.
-/
import Derived.Test.YtiiibhgnmlmoaaaCHA
import Derived.Test.YtiiibhgnmlmoaaaCPD
import Derived.Test.YtiiibhgnmlmoaaaCHL
namespace Go.PI.Try
set_option linter.unnecessarySimpa false
open Go.Proofs Go.PI
set_option linter.unusedSimpArgs false
set_option linter.unusedVariables false
/-- The complete patterns that begin with some phases. -/
def extP : Nat → List Int → List (List Int)
  | 0, p => [p]
  | m + 1, p => extP m (p ++ [1]) ++ extP m (p ++ [2])
theorem extP_len : ∀ (m : Nat) (p : List Int), (extP m p).length = 2 ^ m
  | 0, _ => rfl
  | m + 1, p => by simp only [extP, List.length_append, extP_len m]; omega
theorem at_func2 {ρ : Nat → Nat} {k : Nat} {t : Tm} {j : Nat} {fn : Go.Fn} {e e' : PV} {o o' : Nat} (h : t j = .func fn [] [.cptr e o, .cptr e' o']) : at' ρ k t j (.func fn [] [.cptr e o, .cptr e' o']) := by
  unfold at'
  rw [h, rn_func]
  refine ⟨rfl, trivial, ?_⟩
  rw [rnL_cons, rn_cptr, rnL_cons, rn_cptr, rnL_nil]
  exact ⟨rfl, rfl, trivial⟩
theorem ok_from1 : FnOk Try.prog 32 Try.f32 (Try.f32.body.getD .skip) [] 34 := ⟨Try.func32, rfl, by decide, Try.ntmps32, Try.results32, by kernel_rfl, by kernel_rfl⟩
theorem ok_from : FnOk Try.prog 21 Try.f21 (Try.f21.body.getD .skip) [.tmp 4] 6 := ⟨Try.func21, rfl, by decide, Try.ntmps21, Try.results21, by kernel_rfl, by kernel_rfl⟩
theorem c_from (p : List Int) (u : Int) : Fn 21 [ints p, .int .i64 u] (.data (.func (.func 32) [] [.cptr (ints p) 0, .cptr (.int .i64 u) 0])) := by
  refine fnC_v hmix hT ok_from (by simp) ?_
  (repeat' (first|refine stp ?_|with_reducible(refine brr ?_ ?_<;>intro h)));all_goals try(conv=>whnf)
  exact givesV_to rfl rfl
theorem extP_at {m : Nat} {p : List Int} {i : Nat} {q : List Int} : (extP m (p ++ [1]))[i]? = some q → (extP (m + 1) p)[0 * 2 ^ m + i]? = some q := fun h => by
  rw [Nat.zero_mul, Nat.zero_add]
  unfold extP
  rw [List.getElem?_append_left (List.getElem?_eq_some_iff.1 h).1, h]
theorem extP_at2 {m : Nat} {p : List Int} {i : Nat} {q : List Int} : (extP m (p ++ [2]))[i]? = some q → (extP (m + 1) p)[1 * 2 ^ m + i]? = some q := fun h => by
  unfold extP
  rw [List.getElem?_append_right (by rw [extP_len]; omega), extP_len, show 1 * 2 ^ m + i - 2 ^ m = i by omega, h]
def encP1 (p : List Int) : List PV := [ints p]
theorem c_from1 : ∀ (m : Nat) (p : List Int) (u : Int), (u : Int) = p.length + m → u ≤ 1024 → Fn 32 [.cptr (ints p) 0, .cptr (.int .i64 u) 0] (.seq ((extP m p).map encP1)) := by
  intro m
  induction m with
  | zero =>
    intro p u hu hu2
    refine seqV_of hmix hT ok_from1 (by simp) fun k Y => ?_
    (repeat' (first|refine stp ?_|with_reducible(refine brr ?_ ?_<;>intro h)));all_goals try(conv=>whnf)
    · have hy : ((extP 0 p).map encP1)[0]? = some (encP1 p) := rfl
      refine yieldV_of (fnY_yield Y hy (Nat.zero_le _)) (mapF_cons (frz_own_map rfl rfl (by simp) fun _ => rfl) rfl) rfl ?_
      (repeat' (first|refine stp ?_|with_reducible(refine brr ?_ ?_<;>intro h)));all_goals try(conv=>whnf)
      have : min ((extP 0 p).map encP1).length (k + 1) = 0 + 1 := by rw [List.length_map, extP_len]; omega
      rw [this]; rfl
    · exfalso; omega
  | succ m ih =>
    intro p u hu hu2
    refine seqV_of hmix hT ok_from1 (by simp) fun k Y => ?_
    (repeat' (first|refine stp ?_|with_reducible(refine brr ?_ ?_<;>intro h)));all_goals try(conv=>whnf)
    · exfalso; omega
    refine loopX_kept hT (fun c : Nat => [(1, .cptr (ints p) 0), (2, .cptr (.int .i64 u) 0), (3, .ptr 1 0 0), (16, .agg [.int .i64 1, .int .i64 2]), (17, .int .i64 c)]) (fun c => [(0, gblk (c * 2 ^ m)), (1, ⟨[.func (.yield Y.l) [] []], 1, false⟩)]) [] 2 (fun c => c ≤ 2 ∧ c * 2 ^ m ≤ k) (fun c => 2 - c) 0 ⟨by omega, by omega⟩ (by decide) (by simp) ?_ ?_
    · exact ⟨[1], [], [], [], ⟨trivial, trivial, trivial⟩, ⟨at_cptr rfl, at_cptr rfl, at_ptr (by decide) rfl, at_agg rfl ⟨rfl, rfl, trivial⟩, at_int rfl rfl, trivial⟩, ⟨blk_box (by decide) rfl (by simp) rfl rfl rfl, blk_boxK (by decide) rfl ⟨rfl, trivial, trivial⟩ rfl rfl, trivial⟩, by simp [ren]⟩
    rintro c ⟨c1, c2⟩
    obtain rfl | rfl | rfl : c = 0 ∨ c = 1 ∨ c = 2 := by omega
    · (repeat' (first|refine stp ?_|with_reducible(refine brr ?_ ?_<;>intro h)));all_goals try(conv=>whnf)
      refine callV_data (c_from (p ++ [1]) u) (mapF_cons (frz_own_map (l := p ++ [1]) rfl (by rw [List.map_append]; rfl) (by simp) fun _ => rfl) rfl) ?_
      (repeat' (first|refine stp ?_|with_reducible(refine brr ?_ ?_<;>intro h)));all_goals try(conv=>whnf)
      have hle : ((extP m (p ++ [1])).map encP1).length = 2 ^ m := by rw [List.length_map, extP_len]
      refine rangeV_kept hT [(1, .cptr (ints p) 0), (2, .cptr (.int .i64 u) 0), (3, .ptr 1 0 0), (16, .agg [.int .i64 1, .int .i64 2]), (17, .int .i64 (0 : Nat)), (27, .func (.func 32) [] [.cptr (ints (p ++ [1])) 0, .cptr (.int .i64 u) 0])] (fun i => [(0, gblk (0 * 2 ^ m + i)), (1, ⟨[.func (.yield Y.l) [] []], 1, false⟩)]) [] 2 (xs := (extP m (p ++ [1])).map encP1) (k - 0 * 2 ^ m) (fun _ => 2) rfl (fun _ => Nat.le_refl _) (by decide) (by simp) (by simp) ?_ rfl rfl (ih (p ++ [1]) u (by rw [List.length_append]; simp only [List.length_singleton]; omega) hu2) (by simp only [List.mem_map]; rintro _ ⟨v, _, rfl⟩; rfl) ?_ ?_ ?_
      · exact ⟨[1], [], [], [], ⟨trivial, trivial, trivial⟩, ⟨at_cptr rfl, at_cptr rfl, at_ptr (by decide) rfl, at_agg rfl ⟨rfl, rfl, trivial⟩, at_int rfl rfl, at_func2 rfl, trivial⟩, ⟨blk_box (by decide) rfl rfl rfl rfl rfl, blk_boxK (by decide) rfl ⟨rfl, trivial, trivial⟩ rfl rfl, trivial⟩, by simp [ren]⟩
      · intro i y hy hi
        obtain ⟨q, hq, rfl⟩ : ∃ q, (extP m (p ++ [1]))[i]? = some q ∧ y = encP1 q := by
          rw [List.getElem?_map] at hy
          obtain ⟨v, h1, h2⟩ := Option.map_eq_some_iff.1 hy
          exact ⟨v, h1, h2.symm⟩
        have hyy : ((extP (m + 1) p).map encP1)[0 * 2 ^ m + i]? = some (encP1 q) := by rw [List.getElem?_map, extP_at hq]; rfl
        have hyl := fnY_yield (G := G0) Y hyy (by omega)
        rw [decide_eq_true (show 0 * 2 ^ m + i ≠ k by omega)] at hyl
        (repeat' (first|refine stp ?_|with_reducible(refine brr ?_ ?_<;>intro h)));all_goals try(conv=>whnf)
        refine yieldV_of hyl rfl rfl ?_
        (repeat' (first|refine stp ?_|with_reducible(refine brr ?_ ?_<;>intro h)));all_goals try(conv=>whnf)
        exact ⟨[], [], [], [], ⟨trivial, trivial, trivial⟩, trivial, ⟨blk_box (by decide) rfl rfl rfl rfl rfl, blk_boxK (by decide) rfl ⟨rfl, trivial, trivial⟩ rfl rfl, trivial⟩, by simp [ren]⟩
      · intro y hy
        obtain ⟨q, hq, rfl⟩ : ∃ q, (extP m (p ++ [1]))[k - 0 * 2 ^ m]? = some q ∧ y = encP1 q := by
          rw [List.getElem?_map] at hy
          obtain ⟨v, h1, h2⟩ := Option.map_eq_some_iff.1 hy
          exact ⟨v, h1, h2.symm⟩
        have hyy : ((extP (m + 1) p).map encP1)[0 * 2 ^ m + (k - 0 * 2 ^ m)]? = some (encP1 q) := by rw [List.getElem?_map, extP_at hq]; rfl
        have hlt := (List.getElem?_eq_some_iff.1 hyy).1
        have hyl := fnY_yield (G := G0) Y hyy (by omega)
        rw [decide_eq_false (show ¬ 0 * 2 ^ m + (k - 0 * 2 ^ m) ≠ k by omega)] at hyl
        have hmin : min ((extP (m + 1) p).map encP1).length (k + 1) = 0 * 2 ^ m + (k - 0 * 2 ^ m) + 1 := by omega
        rw [hmin]
        (repeat' (first|refine stp ?_|with_reducible(refine brr ?_ ?_<;>intro h)));all_goals try(conv=>whnf)
        refine yieldV_of hyl rfl rfl ?_
        (repeat' (first|refine stp ?_|with_reducible(refine brr ?_ ?_<;>intro h)));all_goals try(conv=>whnf)
        rfl
      · intro hst
        rw [hle] at hst ⊢
        (repeat' (first|refine stp ?_|with_reducible(refine brr ?_ ?_<;>intro h)));all_goals try(conv=>whnf)
        exact ⟨0 + 1, ⟨⟨by omega, by omega⟩, by omega⟩, [1], [], [], [], ⟨trivial, trivial, trivial⟩, ⟨at_cptr rfl, at_cptr rfl, at_ptr (by decide) rfl, at_agg rfl ⟨rfl, rfl, trivial⟩, at_int rfl rfl, trivial⟩, ⟨blk_box (by decide) rfl (congrArg (fun n : Nat => PV.int .i64 n) (show 0 * 2 ^ m + 2 ^ m = (0 + 1) * 2 ^ m by omega)) rfl rfl rfl, blk_boxK (by decide) rfl ⟨rfl, trivial, trivial⟩ rfl rfl, trivial⟩, by simp [ren]⟩
    · (repeat' (first|refine stp ?_|with_reducible(refine brr ?_ ?_<;>intro h)));all_goals try(conv=>whnf)
      refine callV_data (c_from (p ++ [2]) u) (mapF_cons (frz_own_map (l := p ++ [2]) rfl (by rw [List.map_append]; rfl) (by simp) fun _ => rfl) rfl) ?_
      (repeat' (first|refine stp ?_|with_reducible(refine brr ?_ ?_<;>intro h)));all_goals try(conv=>whnf)
      have hle : ((extP m (p ++ [2])).map encP1).length = 2 ^ m := by rw [List.length_map, extP_len]
      refine rangeV_kept hT [(1, .cptr (ints p) 0), (2, .cptr (.int .i64 u) 0), (3, .ptr 1 0 0), (16, .agg [.int .i64 1, .int .i64 2]), (17, .int .i64 (1 : Nat)), (27, .func (.func 32) [] [.cptr (ints (p ++ [2])) 0, .cptr (.int .i64 u) 0])] (fun i => [(0, gblk (1 * 2 ^ m + i)), (1, ⟨[.func (.yield Y.l) [] []], 1, false⟩)]) [] 2 (xs := (extP m (p ++ [2])).map encP1) (k - 1 * 2 ^ m) (fun _ => 2) rfl (fun _ => Nat.le_refl _) (by decide) (by simp) (by simp) ?_ rfl rfl (ih (p ++ [2]) u (by rw [List.length_append]; simp only [List.length_singleton]; omega) hu2) (by simp only [List.mem_map]; rintro _ ⟨v, _, rfl⟩; rfl) ?_ ?_ ?_
      · exact ⟨[1], [], [], [], ⟨trivial, trivial, trivial⟩, ⟨at_cptr rfl, at_cptr rfl, at_ptr (by decide) rfl, at_agg rfl ⟨rfl, rfl, trivial⟩, at_int rfl rfl, at_func2 rfl, trivial⟩, ⟨blk_box (by decide) rfl rfl rfl rfl rfl, blk_boxK (by decide) rfl ⟨rfl, trivial, trivial⟩ rfl rfl, trivial⟩, by simp [ren]⟩
      · intro i y hy hi
        obtain ⟨q, hq, rfl⟩ : ∃ q, (extP m (p ++ [2]))[i]? = some q ∧ y = encP1 q := by
          rw [List.getElem?_map] at hy
          obtain ⟨v, h1, h2⟩ := Option.map_eq_some_iff.1 hy
          exact ⟨v, h1, h2.symm⟩
        have hyy : ((extP (m + 1) p).map encP1)[1 * 2 ^ m + i]? = some (encP1 q) := by rw [List.getElem?_map, extP_at2 hq]; rfl
        have hyl := fnY_yield (G := G0) Y hyy (by omega)
        rw [decide_eq_true (show 1 * 2 ^ m + i ≠ k by omega)] at hyl
        (repeat' (first|refine stp ?_|with_reducible(refine brr ?_ ?_<;>intro h)));all_goals try(conv=>whnf)
        refine yieldV_of hyl rfl rfl ?_
        (repeat' (first|refine stp ?_|with_reducible(refine brr ?_ ?_<;>intro h)));all_goals try(conv=>whnf)
        exact ⟨[], [], [], [], ⟨trivial, trivial, trivial⟩, trivial, ⟨blk_box (by decide) rfl rfl rfl rfl rfl, blk_boxK (by decide) rfl ⟨rfl, trivial, trivial⟩ rfl rfl, trivial⟩, by simp [ren]⟩
      · intro y hy
        obtain ⟨q, hq, rfl⟩ : ∃ q, (extP m (p ++ [2]))[k - 1 * 2 ^ m]? = some q ∧ y = encP1 q := by
          rw [List.getElem?_map] at hy
          obtain ⟨v, h1, h2⟩ := Option.map_eq_some_iff.1 hy
          exact ⟨v, h1, h2.symm⟩
        have hyy : ((extP (m + 1) p).map encP1)[1 * 2 ^ m + (k - 1 * 2 ^ m)]? = some (encP1 q) := by rw [List.getElem?_map, extP_at2 hq]; rfl
        have hlt := (List.getElem?_eq_some_iff.1 hyy).1
        have hyl := fnY_yield (G := G0) Y hyy (by omega)
        rw [decide_eq_false (show ¬ 1 * 2 ^ m + (k - 1 * 2 ^ m) ≠ k by omega)] at hyl
        have hmin : min ((extP (m + 1) p).map encP1).length (k + 1) = 1 * 2 ^ m + (k - 1 * 2 ^ m) + 1 := by omega
        rw [hmin]
        (repeat' (first|refine stp ?_|with_reducible(refine brr ?_ ?_<;>intro h)));all_goals try(conv=>whnf)
        refine yieldV_of hyl rfl rfl ?_
        (repeat' (first|refine stp ?_|with_reducible(refine brr ?_ ?_<;>intro h)));all_goals try(conv=>whnf)
        rfl
      · intro hst
        rw [hle] at hst ⊢
        (repeat' (first|refine stp ?_|with_reducible(refine brr ?_ ?_<;>intro h)));all_goals try(conv=>whnf)
        exact ⟨1 + 1, ⟨⟨by omega, by omega⟩, by omega⟩, [1], [], [], [], ⟨trivial, trivial, trivial⟩, ⟨at_cptr rfl, at_cptr rfl, at_ptr (by decide) rfl, at_agg rfl ⟨rfl, rfl, trivial⟩, at_int rfl rfl, trivial⟩, ⟨blk_box (by decide) rfl (congrArg (fun n : Nat => PV.int .i64 n) (show 1 * 2 ^ m + 2 ^ m = (1 + 1) * 2 ^ m by omega)) rfl rfl rfl, blk_boxK (by decide) rfl ⟨rfl, trivial, trivial⟩ rfl rfl, trivial⟩, by simp [ren]⟩
    · (repeat' (first|refine stp ?_|with_reducible(refine brr ?_ ?_<;>intro h)));all_goals try(conv=>whnf)
      have hmin : min ((extP (m + 1) p).map encP1).length (k + 1) = 2 * 2 ^ m := by rw [List.length_map, extP_len]; omega
      rw [hmin]; rfl
end Go.PI.Try
namespace Go.PI.Try
set_option linter.unnecessarySimpa false
open Go.Proofs Go.PI
set_option linter.unusedSimpArgs false
set_option linter.unusedVariables false
theorem ext_len : ∀ (m : Nat) (p : List Int), ∀ q ∈ extP m p, q.length = p.length + m
  | 0, p, q, h => by rw [List.mem_singleton.1 h]; rfl
  | m + 1, p, q, h => by
    rcases List.mem_append.1 h with h | h
    · rw [ext_len m _ q h]; simp; omega
    · rw [ext_len m _ q h]; simp; omega
theorem ok_pAll : FnOk Try.prog 10 Try.f10 (Try.f10.body.getD .skip) [.tmp 2] 11 := ⟨Try.func10, rfl, by decide, Try.ntmps10, Try.results10, by kernel_rfl, by kernel_rfl⟩
theorem c_pAll (u : Int) (hu : 0 ≤ u ∧ u ≤ 1024) : Fn 10 [.int .i64 u] (.data (.func (.func 32) [] [.cptr (ints []) 0, .cptr (.int .i64 u) 0])) := by
  have cf := c_from [] u
  refine fnC_v hmix hT ok_pAll (by simp) ?_
  (repeat' (first|refine stp ?_|with_reducible(refine brr ?_ ?_<;>intro h)));all_goals try(conv=>whnf)
  all_goals try (exfalso; omega)
  refine callV_data cf rfl ?_
  (repeat' (first|refine stp ?_|with_reducible(refine brr ?_ ?_<;>intro h)));all_goals try(conv=>whnf)
  exact givesV_to rfl rfl
theorem c_all1 (m : Nat) (hm : m ≤ 1024) : Fn 32 [.cptr (ints []) 0, .cptr (.int .i64 m) 0] (.seq ((extP m []).map encP1)) := c_from1 m [] m (by simp) (by omega)
end Go.PI.Try
namespace Go.PI.Try
set_option linter.unnecessarySimpa false
open Go.Proofs Go.PI
set_option linter.unusedSimpArgs false
set_option linter.unusedVariables false
theorem ext_map : ∀ (m : Nat) (p : List Int), extP m p = (extP m []).map (p ++ ·)
  | 0, p => by simp [extP]
  | m + 1, p => by
    rw [extP, extP, List.map_append, ext_map m (p ++ [1]), ext_map m (p ++ [2]), List.nil_append, List.nil_append, ext_map m [1], ext_map m [2], List.map_map, List.map_map]
    congr 1 <;> exact List.map_congr_left fun q _ => by simp
theorem ext_at {m i : Nat} {ph : Nat} (h1 : ph = 1 ∨ ph = 2) (hi : i < 2 ^ m) : (extP (m + 1) [])[(ph - 1) * 2 ^ m + i]! = (ph : Int) :: (extP m [])[i]! := by
  have l := extP_len m []
  have e := extP_len (m + 1) []
  have l1 := extP_len m [1]
  have l2 := extP_len m [2]
  rw [getElem!_pos _ i (by omega)]
  rcases h1 with rfl | rfl
  · rw [getElem!_pos _ _ (by omega)]
    simp only [extP, List.nil_append, show (1 - 1) * 2 ^ m + i = i by omega]
    rw [List.getElem_append_left (by omega)]
    simp only [ext_map m [1], List.getElem_map]; rfl
  · rw [getElem!_pos _ _ (by omega)]
    simp only [extP, List.nil_append]
    rw [List.getElem_append_right (by omega)]
    simp only [ext_map m [2], List.getElem_map, l1, ext_map m [1], List.length_map, l, show (2 - 1) * 2 ^ m + i - 2 ^ m = i by omega]; rfl
theorem snoc_ints {l : List (List Int)} {j : Nat} {q : List Int} (h : j < l.length) (e : l[j]! = q) : (l.take j).map ints ++ [ints q] = (l.take (j + 1)).map ints := by
  rw [List.take_succ_eq_append_getElem h, List.map_append, ← getElem!_pos l j h, e]; rfl
theorem frz_ints {h : Hp} {n : Nat} (p : List Int) : frz h (n + 1) (ints p) = some (ints p, []) := by cases n <;> rfl
theorem ints_nr (l : List (List Int)) : ∀ e ∈ l.map (fun p => ints p), nr 3 e = true ∧ e ≠ .any := nr_map fun _ => ⟨rfl, by simp⟩
theorem ok_rAll : FnOk Try.prog 9 Try.f9 (Try.f9.body.getD .skip) [.tmp 2] 37 := ⟨Try.func9, rfl, by decide, Try.ntmps9, Try.results9, by kernel_rfl, by kernel_rfl⟩
theorem c_rAll : ∀ (m : Nat), m ≤ 6 → Fn 9 [.int .i64 m] (.data (.imm ((extP m []).map (fun p => ints p)))) := by
  intro m
  induction m with
  | zero =>
    intro _
    refine fnC_v hmix hT ok_rAll (by simp) ?_
    (repeat' (first|refine stp ?_|with_reducible(refine brr ?_ ?_<;>intro h)));all_goals try(conv=>whnf)
    all_goals try (exfalso; omega)
    exact givesV_to rfl rfl
  | succ m ih =>
    intro hm
    have ih := ih (by omega)
    have hl := extP_len m []
    have hL := extP_len (m + 1) []
    have hp : 2 ^ m ≤ 2 ^ 6 := Nat.pow_le_pow_right (by decide) (by omega)
    have ea : ((m + 1 : Nat) : Int) - 1 = (m : Nat) := by omega
    refine fnC_v hmix hT ok_rAll (by simp) ?_
    (repeat' (first|refine stp ?_|with_reducible(refine brr ?_ ?_<;>intro h)));all_goals try(conv=>whnf)
    all_goals try (exfalso; omega)
    rw [ea]
    refine callV_data ih rfl ?_
    (repeat' (first|refine stp ?_|with_reducible(refine brr ?_ ?_<;>intro h)));all_goals try(conv=>whnf)
    refine loopV_grow hT [(.sl 4, 1, false)] (fun (ph : Nat) => [(3, .imm ((extP m []).map (fun p => ints p))), (4, .own 0 0 ((ph - 1) * 2 ^ m)), (5, .int .i64 ph)]) (fun ph => [(0, ⟨((extP (m + 1) []).take ((ph - 1) * 2 ^ m)).map (fun p => ints p), 1, false⟩)]) [] 1
      (fun ph => 1 ≤ ph ∧ ph ≤ 3) (fun ph => 3 - ph) 1 ⟨Nat.le_refl _, by decide⟩ (by decide) (by simp) ⟨rfl, trivial⟩ ?_ ?_
    · exact ⟨[_], [], [], [], ⟨trivial, trivial, trivial⟩, ⟨at_imm rfl rfl, at_own (by decide) rfl (by simp), at_int rfl rfl, trivial⟩, ⟨blk_row (by decide) rfl (by simp) (ints_nr _) rfl, trivial⟩, by simp [ren]⟩
    rintro ph ⟨h1, h3⟩
    by_cases hph : ph ≤ 2
    · have hpc : ph = 1 ∨ ph = 2 := by omega
      (repeat' (first|refine stp ?_|with_reducible(refine brr ?_ ?_<;>intro h)));all_goals try(conv=>whnf)
      all_goals try (exfalso; omega)
      refine loopV_kept hT (fun (i : Nat) => [(3, .imm ((extP m []).map (fun p => ints p))), (4, .own 0 0 ((ph - 1) * 2 ^ m + i)), (5, .int .i64 ph), (6, .int .i64 i)]) (fun i => [(0, ⟨((extP (m + 1) []).take ((ph - 1) * 2 ^ m + i)).map (fun p => ints p), 1, false⟩)]) [] 1
        (fun i => i ≤ 2 ^ m) (fun i => 2 ^ m - i) 0 (Nat.zero_le _) (by decide) (by simp) ?_ ?_
      · exact ⟨[_], [], [], [], ⟨trivial, trivial, trivial⟩, ⟨at_imm rfl rfl, at_own (by decide) rfl rfl, at_int rfl rfl, at_int rfl rfl, trivial⟩, ⟨blk_row (by decide) rfl rfl (ints_nr _) rfl, trivial⟩, by simp [ren]⟩
      intro i i1
      have hmul : (ph - 1) * 2 ^ m ≤ 2 ^ m := by rcases hpc with rfl | rfl <;> omega
      have hlen : ((extP (m + 1) []).take ((ph - 1) * 2 ^ m + i)).length = (ph - 1) * 2 ^ m + i := by rw [List.length_take]; omega
      by_cases hi : i < 2 ^ m
      · have hat := ext_at (m := m) (i := i) hpc hi
        have hsn := snoc_ints (l := extP (m + 1) []) (j := (ph - 1) * 2 ^ m + i) (by omega) hat
        have hq := ext_len m [] _ (get_mem (l := extP m []) (i := i) (by omega))
        simp only [List.length_nil] at hq
        (repeat' (first|refine stp ?_|with_reducible(refine brr ?_ ?_<;>intro h)));all_goals try(conv=>whnf)
        all_goals try (exfalso; omega)
        have eo : (ph - 1) * 2 ^ m + i + 1 = (ph - 1) * 2 ^ m + (i + 1) := by omega
        rw [eo] at hsn
        exact ⟨i + 1, ⟨by omega, by show 2 ^ m - (i + 1) < 2 ^ m - i; omega⟩, [14], [12], [], [(14, ((extP (m + 1) []).take ((ph - 1) * 2 ^ m + i)).map (fun p => ints p) ++ [ints ((ph : Int) :: (extP m [])[i]!)])],
          ⟨⟨⟨_, rfl⟩, trivial⟩, trivial, ⟨⟨_, 6, _, rfl, mapF_snoc (frz_own_map (f := PV.int .i64) (l := (ph : Int) :: (extP m [])[i]!) rfl rfl (by simp [Nat.add_comm]) fun _ => rfl) (mapF_id frz_ints _), rfl⟩, trivial⟩⟩,
          ⟨at_imm rfl rfl, at_own (by decide) rfl eo, at_int rfl rfl, at_int rfl (by omega), trivial⟩, ⟨blk_row (by decide) rfl hsn (ints_nr _) rfl, trivial⟩, by simp [ren]⟩
      · (repeat' (first|refine stp ?_|with_reducible(refine brr ?_ ?_<;>intro h)));all_goals try(conv=>whnf)
        all_goals try (exfalso; omega)
        have e1 : (ph - 1) * 2 ^ m + i = (ph + 1 - 1) * 2 ^ m := by rcases hpc with rfl | rfl <;> omega
        exact ⟨ph + 1, ⟨⟨by omega, by omega⟩, by omega⟩, [0], [], [], [], ⟨trivial, trivial, trivial⟩, ⟨at_imm rfl rfl, at_own (by decide) rfl e1, at_int rfl (by omega), trivial⟩, ⟨blk_row (by decide) rfl (by rw [e1]) (ints_nr _) rfl, trivial⟩, by simp [ren]⟩
    · have e3 : ph = 3 := by omega
      subst e3
      (repeat' (first|refine stp ?_|with_reducible(refine brr ?_ ?_<;>intro h)));all_goals try(conv=>whnf)
      all_goals try (exfalso; omega)
      have et : (extP (m + 1) []).take ((3 - 1) * 2 ^ m) = extP (m + 1) [] := List.take_of_length_le (by omega)
      exact givesV_to (frz_own_map (f := fun p => ints p) rfl (by rw [et]) (by omega) fun p => frz_ints p) rfl
theorem c_rAllN (u : Int) (hu : u < 0) : Fn 9 [.int .i64 u] (.data (.imm [])) := by
  refine fnC_v hmix hT ok_rAll (by simp) ?_
  (repeat' (first|refine stp ?_|with_reducible(refine brr ?_ ?_<;>intro h)));all_goals try(conv=>whnf)
  all_goals try (exfalso; omega)
  exact givesV_to rfl rfl
theorem ok_All1 : FnOk Try.prog 20 Try.f20 (Try.f20.body.getD .skip) [] 2 := ⟨Try.func20, rfl, by decide, Try.ntmps20, Try.results20, by kernel_rfl, by kernel_rfl⟩
theorem c_All1 : Fn 20 [] (.seq ([] : List (List PV))) := by
  refine seqV_of hmix hT ok_All1 (by simp) fun k Y => ?_
  (repeat' (first|refine stp ?_|with_reducible(refine brr ?_ ?_<;>intro h)));all_goals try(conv=>whnf)
  have e : min ([] : List (List PV)).length (k + 1) = 0 := by simp
  rw [e]; rfl
theorem c_pAllN (u : Int) (hu : u < 0) : Fn 10 [.int .i64 u] (.data (.func (.func 20) [] [])) := by
  refine fnC_v hmix hT ok_pAll (by simp) ?_
  (repeat' (first|refine stp ?_|with_reducible(refine brr ?_ ?_<;>intro h)));all_goals try(conv=>whnf)
  all_goals try (exfalso; omega)
  exact givesV_to rfl rfl
theorem ok_lawAll : FnOk Try.prog 4 Try.f4 (Try.f4.body.getD .skip) [.cell 4 4] 44 := ⟨Try.func4, rfl, by decide, Try.ntmps4, Try.results4, by kernel_rfl, by kernel_rfl⟩
theorem c_allX (u st : Int) (xs : List (List Int)) (f : FuncId) (cs : List PV) (hst : 0 ≤ st ∧ st < 256) (hu : u ≤ 6) (hlen : xs.length ≤ 64) (hq : ∀ q ∈ xs, q.length ≤ 6)
    (c1 : Fn 9 [.int .i64 u] (.data (.imm (xs.map (fun p => ints p))))) (c2 : Fn 10 [.int .i64 u] (.data (.func (.func f) [] cs))) (hcs : ∀ h : Hp, mapF (frz h 6) cs = some (cs, [])) (hat : ∀ (ρ : Nat → Nat) (k j : Nat) (t : Tm), t j = .func (.func f) [] cs → at' ρ k t j (.func (.func f) [] cs))
    (c3 : Fn f cs (.seq (xs.map encP1))) : Fn 4 [.int .i64 u, .int .u8 st] (.data (.bool true)) := by
  obtain ⟨S, rfl⟩ : ∃ S : Nat, st = S := ⟨st.toNat, by omega⟩
  refine fnC_v hmix hT ok_lawAll (by simp) ?_
  (repeat' (first|refine stp ?_|with_reducible(refine brr ?_ ?_<;>intro h)));all_goals try(conv=>whnf)
  refine callV_data c_awake18 rfl ?_
  (repeat' (first|refine stp ?_|with_reducible(refine brr ?_ ?_<;>intro h)));all_goals try(conv=>whnf)
  all_goals try (exfalso; omega)
  refine callV_data c1 rfl ?_
  (repeat' (first|refine stp ?_|with_reducible(refine brr ?_ ?_<;>intro h)));all_goals try(conv=>whnf)
  refine callV_data c2 rfl ?_
  (repeat' (first|refine stp ?_|with_reducible(refine brr ?_ ?_<;>intro h)));all_goals try(conv=>whnf)
  refine rangeV_kept hT [(3, .ptr 0 0 0), (4, .ptr 1 0 0), (5, .ptr 2 0 0), (6, .ptr 3 0 0), (15, .func (.func f) [] cs)] (fun i => [(0, ⟨[.int .u8 S], 1, false⟩), (1, ⟨[.bool false], 1, false⟩), (2, ⟨[.imm (xs.map (fun p => ints p))], 1, false⟩), (3, ⟨[.int .i64 i], 1, false⟩)]) [] 4 (xs := xs.map encP1) S (fun _ => 4) rfl (fun _ => Nat.le_refl _) (by decide) (by simp) (by simp) ?_ rfl (hcs _) c3 (by simp only [List.mem_map]; rintro _ ⟨v, _, rfl⟩; rfl) ?_ ?_ ?_
  · exact ⟨[0, 1, _, _], [], [], [], ⟨trivial, trivial, trivial⟩, ⟨at_ptr (by decide) rfl, at_ptr (by decide) rfl, at_ptr (by decide) rfl, at_ptr (by decide) rfl, hat _ _ _ _ rfl, trivial⟩, ⟨blk_box (by decide) rfl rfl rfl rfl rfl, blk_box (by decide) rfl rfl rfl rfl rfl, blk_box (by decide) rfl rfl rfl rfl rfl, blk_box (by decide) rfl rfl rfl rfl rfl, trivial⟩, by simp [ren]⟩
  · intro i y hy hi
    obtain ⟨q, hqq, rfl⟩ : ∃ q, xs[i]? = some q ∧ y = encP1 q := by
      rw [List.getElem?_map] at hy
      obtain ⟨v, h1, h2⟩ := Option.map_eq_some_iff.1 hy
      exact ⟨v, h1, h2.symm⟩
    obtain ⟨hlt, hve⟩ := List.getElem?_eq_some_iff.1 hqq
    have hvb : xs[i]! = q := by rw [getElem!_pos xs i hlt, hve]
    have hql := hq q (List.mem_of_getElem? hqq)
    have cs' := c_sameints q (by omega)
    (repeat' (first|refine stp ?_|with_reducible(refine brr ?_ ?_<;>intro h)));all_goals try(conv=>whnf)
    all_goals try (exfalso; omega)
    rw [hvb]
    refine callV_data cs' rfl ?_
    (repeat' (first|refine stp ?_|with_reducible(refine brr ?_ ?_<;>intro h)));all_goals try(conv=>whnf)
    all_goals try (exfalso; omega)
    exact ⟨[], [], [], [], ⟨trivial, trivial, trivial⟩, trivial, ⟨blk_box (by decide) rfl rfl rfl rfl rfl, blk_box (by decide) rfl rfl rfl rfl rfl, blk_box (by decide) rfl rfl rfl rfl rfl, blk_box (by decide) rfl rfl rfl rfl rfl, trivial⟩, by simp [ren]⟩
  · intro y hy
    obtain ⟨q, hqq, rfl⟩ : ∃ q, xs[S]? = some q ∧ y = encP1 q := by
      rw [List.getElem?_map] at hy
      obtain ⟨v, h1, h2⟩ := Option.map_eq_some_iff.1 hy
      exact ⟨v, h1, h2.symm⟩
    obtain ⟨hlt, hve⟩ := List.getElem?_eq_some_iff.1 hqq
    have hvb : xs[S]! = q := by rw [getElem!_pos xs S hlt, hve]
    have hql := hq q (List.mem_of_getElem? hqq)
    have cs' := c_sameints q (by omega)
    (repeat' (first|refine stp ?_|with_reducible(refine brr ?_ ?_<;>intro h)));all_goals try(conv=>whnf)
    all_goals try (exfalso; omega)
    rw [hvb]
    refine callV_data cs' rfl ?_
    (repeat' (first|refine stp ?_|with_reducible(refine brr ?_ ?_<;>intro h)));all_goals try(conv=>whnf)
    all_goals try (exfalso; omega)
    refine givesV_to rfl (congrArg PV.bool ?_)
    simp only [beq_iff_eq, List.length_map]
    split <;> omega
  · intro hle
    rw [List.length_map] at hle ⊢
    (repeat' (first|refine stp ?_|with_reducible(refine brr ?_ ?_<;>intro h)));all_goals try(conv=>whnf)
    refine givesV_to rfl (congrArg PV.bool ?_)
    simp only [beq_iff_eq, List.length_map]
    split <;> omega
theorem c_patternAll (u st : Int) (hst : 0 ≤ st ∧ st < 256) : Fn 4 [.int .i64 u, .int .u8 st] (.data (.bool true)) := by
  by_cases hu : u ≤ 6
  · by_cases h0 : 0 ≤ u
    · obtain ⟨m, rfl⟩ : ∃ m : Nat, u = m := ⟨u.toNat, by omega⟩
      have hm : m ≤ 6 := by omega
      have hp : 2 ^ m ≤ 2 ^ 6 := Nat.pow_le_pow_right (by decide) hm
      refine c_allX _ st (extP m []) 32 _ hst hu (by rw [extP_len]; exact hp) (fun q h => by rw [ext_len m [] q h]; simpa using hm) (c_rAll m hm) (c_pAll m (by omega)) (fun h => rfl) (fun ρ k j t h => at_func2 h) (c_all1 m (by omega))
    · exact c_allX u st [] 20 [] hst hu (by simp) (fun q h => by cases h) (c_rAllN u (by omega)) (c_pAllN u (by omega)) (fun h => rfl) (fun ρ k j t h => at_func h) c_All1
  · refine fnC_v hmix hT ok_lawAll (by simp) ?_
    (repeat' (first|refine stp ?_|with_reducible(refine brr ?_ ?_<;>intro h)));all_goals try(conv=>whnf)
    refine callV_data c_awake18 rfl ?_
    (repeat' (first|refine stp ?_|with_reducible(refine brr ?_ ?_<;>intro h)));all_goals try(conv=>whnf)
    all_goals try (exfalso; omega)
    exact givesV_to rfl rfl
end Go.PI.Try
namespace Go.Proofs.Ytiiibhgnmlmoaaa
set_option linter.unusedSimpArgs false
set_option linter.unnecessarySimpa false
open Go Go.PI Go.PI.Try
open Go.ChangeShapes Go.WideShapes Go.ChangeAt Go.RowKit
set_option linter.unusedVariables false
theorem ok_law_patternAll : FnOk Try.prog 4 Try.f4 (Try.f4.body.getD .skip) [.cell 4 4] 44 := ⟨Try.func4, rfl, by decide, Try.ntmps4, Try.results4, by kernel_rfl, by kernel_rfl⟩
set_option maxRecDepth 100000 in
theorem patternAll_contract (H : Type) (enc : TypeId × Value → H) (W : World) (args : Array Value) (ds gs : List (DataW H)) (before : List MemPlace) (base : Nat) (hb : Rows.uptoBulkAll ds ≤ 1048576)
    (hvl : ∀ (j : Nat) t v, Try.f4.params[j]? = some t → args[j]? = some v → Value.okWide Try.prog W .any base t v)
    (hW : DataW.Whole enc Try.prog Try.f4.params.toList Rows.patternAllSpec.vars false W args.toList ds gs before) :
    Calls Try.prog 4 args W fun e W' => ∃ v, e = .returned v ∧ Rows.patternAllSpec.post enc Try.prog Try.f4 false true false false W args v W' := by
  have hW' := hW
  obtain ⟨p, q, hA0, hV, hpq, hfz, hnd⟩ := hW
  have hA : DataW.TrodAll enc Try.prog W 0 (fun _ => true) true Try.f4.params.toList args.toList ds p := hA0
  rw [Try.params4] at hA hvl
  obtain ⟨v0, vs0, d0, ds0, p0, q0', hargs, rfl, hp0, ⟨fuel0, h0⟩, r0⟩ := trodAll_cons hA
  obtain ⟨v1, vs1, d1, ds1, p1, q1', rfl, rfl, hp1, ⟨fuel1, h1⟩, r1⟩ := trodAll_cons r0
  obtain ⟨rfl, rfl, rfl⟩ := trodAll_nil r1
  have hargs2 : args = #[v0, v1] := by cases args; simp_all
  rw [hargs2] at hvl
  simp only [bulkAll_eq, bulkAll] at hb
  obtain ⟨x0, g0, q0⟩ := (reads_int Try.underlying3) fuel0 (Nat.le_refl _) _ _ _ h0
  obtain ⟨x1, g1, q1⟩ := (reads_int Try.underlying5) fuel1 (Nat.le_refl _) _ _ _ h1
  have hval : ∀ (j : Nat) (d : PV), [.int .i64 x0, .int .u8 x1][j]? = some d → RD W (AllB W) d (args.toList.getD j undef) := by
    intro j d hj
    rw [hargs]
    match j, hj with
    | 0, hj => cases hj; exact rc_one (arg_int hvl 0 (t := 3) (v := v0) rfl rfl Try.underlying3) g0
    | 1, hj => cases hj; exact rc_one (arg_int hvl 1 (t := 5) (v := v1) rfl rfl Try.underlying5) g1
    | n + 2, hj => simp at hj
  refine law_post (G := G0) laidOut (by kernel_rfl) rfl Try.underlying4 rfl (fun gs hgs => by subst hgs; rfl) hW' gok (pvs := [.int .i64 x0, .int .u8 x1]) ⟨by rw [hargs]; rfl, hval⟩ ?_
  exact c_patternAll x0 x1  (u8_of q1.1)
set_option maxRecDepth 100000 in
theorem patternAll_lifted (os : Os) (started : os.Started) (H : Type) (enc : TypeId × Value → H) (F : Stop.Interp) :
    ReturnsInHanded {} Try.checked os 4 .any ((Rows.OpenSpec.upto Rows.patternAllSpec).pre6 enc Try.prog Try.f4 Rows.patternAllUptoRow.domain false) (((Rows.OpenSpec.upto Rows.patternAllSpec).at F).post enc Try.prog Try.f4 false true false false) := by
  refine returnsInHanded_of_cond (C := Try.checked) (s := Rows.OpenSpec.upto Rows.patternAllSpec) (k := Rows.uptoSmall) rfl own started (by kernel_rfl) Try.func4
    (OpenSpec.witness (enc := enc) (C := Try.checked) (s := Rows.OpenSpec.upto Rows.patternAllSpec) (k := Rows.uptoSmall) rfl false ⟨#[], #[.int .i64 0, .int .u8 0], []⟩ 8 (by kernel_rfl) (by kernel_rfl) (by kernel_rfl)
      (x := ([.lit (.int .i64 0), .lit (.int .u8 0)], [], [])) (by kernel_rfl) rfl (by kernel_rfl)) ?_
  intro W base args ds gs before hval hW _ hk _
  have hb : Rows.uptoBulkAll (ds ++ gs) ≤ 1048576 := of_decide_eq_true hk
  have hgs : gs = [] := by obtain ⟨p, q, _, hV, _⟩ := hW; exact (trodVars_none hV).1
  rw [hgs, List.append_nil] at hb
  exact patternAll_contract H enc W args ds gs before base hb hval hW
/-- THE ROW. -/
theorem patternAll_holds : Rows.PatternAllUptoSaid :=
  OpenClaim.holds_of_cond 4 Try.f4 rfl rfl rfl rfl rfl rfl rfl ⟨rfl, rfl, rfl, rfl, rfl⟩ rfl rfl rfl rfl rfl (by kernel_rfl) Try.func4 (by kernel_rfl)
    (of_decide_eq_true (by kernel_rfl)) (by unfold Func.isWrapper; first | (rw [if_pos (by decide +kernel)]; kernel_rfl) | (rw [if_neg (by decide +kernel)]; exact ⟨rfl, rfl⟩))
    (fun os started H enc _ F => patternAll_lifted os started H enc F)
end Go.Proofs.Ytiiibhgnmlmoaaa
