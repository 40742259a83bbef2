/-
  The reference's natural numbers: Gcd.
-/
import Derived.Test.YtiiibhgnmlmoaaaCNA
import Derived.Test.YtiiibhgnmlmoaaaCPD
namespace Go.PI.Try
set_option linter.unnecessarySimpa false
open Go.Proofs Go.PI
set_option linter.unusedSimpArgs false
set_option linter.unusedVariables false
theorem ok_rnmake : FnOk Try.prog 53 Try.f53 (Try.f53.body.getD .skip) [.tmp 2] 23 := ⟨Try.func53, rfl, by decide, Try.ntmps53, Try.results53, by kernel_rfl, by kernel_rfl⟩
theorem c_rnmake (xs : List Int) (ho : okN xs) (hl : xs.length < 2147483648) : Fn 53 [encN xs] (.data (encN (lims (nv xs)))) := by
  refine fnC_v hmix hT ok_rnmake (by simp) ?_
  (repeat' (first|refine stp ?_|with_reducible(refine brr ?_ ?_<;>intro h)));all_goals try(conv=>whnf)
  refine loopV_slots hT (fun n : Nat => [(0, encN xs), (3, .int .i64 n)]) (fun n => n ≤ xs.length ∧ ∀ j, n ≤ j → j < xs.length → xs[j]! = 0) (fun n => n) xs.length ⟨Nat.le_refl _, fun j h1 h2 => by omega⟩ ?_ ?_
  · exact ⟨at_imm rfl rfl, at_int rfl (by simp), trivial⟩
  · intro n ⟨hn, hz⟩
    (repeat' (first|refine stp ?_|with_reducible(refine brr ?_ ?_<;>intro h)));all_goals try(conv=>whnf)
    · refine oK_map' (j := n - 1) (by omega) (by omega) ?_
      (repeat' (first|refine stp ?_|with_reducible(refine brr ?_ ?_<;>intro h)));all_goals try(conv=>whnf)
      · refine ⟨n - 1, ⟨⟨by omega, fun j h1 h2 => ?_⟩, by omega⟩, at_imm rfl rfl, at_int rfl (by omega), trivial⟩
        by_cases e : j = n - 1
        · subst e; assumption
        · exact hz j (by omega) h2
      · refine slK_map (l' := xs.take n) (by simp) ?_
        (repeat' (first|refine stp ?_|with_reducible(refine brr ?_ ?_<;>intro h)));all_goals try(conv=>whnf)
        refine givesV_to (frz_own_map (f := PV.int .u32) (l := xs.take n) rfl rfl (by simp) (fun x => frz_u32 x)) ?_
        rw [trim_take ho hn hz (Or.inr h)]
    · have h0 : n = 0 := by omega
      subst h0
      refine slK_map (l' := []) (by simp) ?_
      (repeat' (first|refine stp ?_|with_reducible(refine brr ?_ ?_<;>intro h)));all_goals try(conv=>whnf)
      refine givesV_to (frz_own_map (f := PV.int .u32) (l := []) rfl rfl (by simp) (fun x => frz_u32 x)) ?_
      rw [← trim_take ho hn hz (Or.inl rfl)]; rfl
theorem ok_rnlimb : FnOk Try.prog 96 Try.f96 (Try.f96.body.getD .skip) [.tmp 4] 13 := ⟨Try.func96, rfl, by decide, Try.ntmps96, Try.results96, by kernel_rfl, by kernel_rfl⟩
theorem c_rnlimb (xs : List Int) (i : Int) (ho : okN xs) (hi : 0 ≤ i) (hl : xs.length < 2147483648) : Fn 96 [encN xs, .int .i64 i] (.data (.int .u32 (lb xs i.toNat))) := by
  obtain ⟨j, rfl⟩ := Int.eq_ofNat_of_zero_le hi
  refine fnC_v hmix hT ok_rnlimb (by simp) ?_
  (repeat' (first|refine stp ?_|with_reducible(refine brr ?_ ?_<;>intro h)));all_goals try(conv=>whnf)
  · refine givesV_to rfl ?_
    rw [← lb_get (by omega) ho]; rfl
  · refine givesV_to rfl ?_
    rw [show ((j : Int)).toNat = j from rfl, lb_none (by omega)]; rfl
theorem ok_rnof : FnOk Try.prog 39 Try.f39 (Try.f39.body.getD .skip) [.tmp 2] 10 := ⟨Try.func39, rfl, by decide, Try.ntmps39, Try.results39, by kernel_rfl, by kernel_rfl⟩
theorem c_rnof (n : Nat) (hn : n < 18446744073709551616) : Fn 39 [.int .u64 n] (.data (encN (lims n))) := by
  refine fnC_v hmix hT ok_rnof (by simp) ?_
  (repeat' (first|refine stp ?_|with_reducible(refine brr ?_ ?_<;>intro h)));all_goals try(conv=>whnf)
  refine ov_m32 ?_
  (repeat' (first|refine stp ?_|with_reducible(refine brr ?_ ?_<;>intro h)));all_goals try(conv=>whnf)
  rw [fdiv_32]
  (repeat' (first|refine stp ?_|with_reducible(refine brr ?_ ?_<;>intro h)));all_goals try(conv=>whnf)
  have hv : nv [(n : Int) % 4294967296, (n : Int) / 4294967296] = n := by simp only [nv]; omega
  have cm := c_rnmake [(n : Int) % 4294967296, (n : Int) / 4294967296] (by intro x hx; simp only [List.mem_cons, List.not_mem_nil, or_false] at hx; omega) (by simp)
  rw [hv] at cm
  refine callV_data cm rfl ?_
  (repeat' (first|refine stp ?_|with_reducible(refine brr ?_ ?_<;>intro h)));all_goals try(conv=>whnf)
  exact givesV_to rfl rfl
theorem ok_rncmp : FnOk Try.prog 101 Try.f101 (Try.f101.body.getD .skip) [.tmp 4] 30 := ⟨Try.func101, rfl, by decide, Try.ntmps101, Try.results101, by kernel_rfl, by kernel_rfl⟩
theorem c_rncmp (xs ys : List Int) (hx : okN xs) (hy : okN ys) (hl : xs.length < 2147483648) (hl2 : ys.length < 2147483648) : Fn 101 [encN xs, encN ys] (.data (.int .i64 (cmpI (nv xs) (nv ys)))) := by
  refine fnC_v hmix hT ok_rncmp (by simp) ?_
  (repeat' (first|refine stp ?_|with_reducible(refine brr ?_ ?_<;>intro h)));all_goals try(conv=>whnf)
  obtain ⟨M, hM⟩ : ∃ M, max xs.length ys.length = M := ⟨_, rfl⟩
  refine loopV_slots hT (fun n : Nat => [(0, encN xs), (1, encN ys), (5, .int .i64 ((n : Int) - 1))]) (fun n => n ≤ 2147483648 ∧ nt xs n = nt ys n) (fun n => n) M ⟨by omega, by rw [nt_none (by omega), nt_none (by omega)]⟩ ?_ ?_
  · exact ⟨at_imm rfl rfl, at_imm rfl rfl, at_int rfl (by simp only [List.length_map]; split <;> omega), trivial⟩
  intro n ⟨hn, hnt⟩
  have hsa := nt_step hx (n - 1)
  have hsb := nt_step hy (n - 1)
  (repeat' (first|refine stp ?_|with_reducible(refine brr ?_ ?_<;>intro h)));all_goals try(conv=>whnf)
  · have cl1 := c_rnlimb xs ((n : Int) - 1) hx (by omega) hl
    have cl2 := c_rnlimb ys ((n : Int) - 1) hy (by omega) hl2
    have hn1 : ((n : Int) - 1).toNat = n - 1 := by omega
    have h0 : n - 1 + 1 = n := by omega
    rw [hn1] at cl1 cl2
    rw [h0] at hsa hsb
    refine callV_data cl1 rfl ?_
    (repeat' (first|refine stp ?_|with_reducible(refine brr ?_ ?_<;>intro h)));all_goals try(conv=>whnf)
    refine callV_data cl2 rfl ?_
    (repeat' (first|refine stp ?_|with_reducible(refine brr ?_ ?_<;>intro h)));all_goals try(conv=>whnf)
    · have := nv_differ hx hy (i := n - 1) (by rw [h0]; exact hnt) (Or.inr (by rw [h0]; exact hsa)) (Or.inr (by rw [h0]; exact hsb)) (by omega)
      refine givesV_to rfl ?_
      unfold cmpI
      rw [if_pos (by omega)]
    refine callV_data cl1 rfl ?_
    (repeat' (first|refine stp ?_|with_reducible(refine brr ?_ ?_<;>intro h)));all_goals try(conv=>whnf)
    refine callV_data cl2 rfl ?_
    (repeat' (first|refine stp ?_|with_reducible(refine brr ?_ ?_<;>intro h)));all_goals try(conv=>whnf)
    · have := nv_differ hy hx (i := n - 1) (by rw [h0]; exact hnt.symm) (Or.inr (by rw [h0]; exact hsb)) (Or.inr (by rw [h0]; exact hsa)) (by omega)
      refine givesV_to rfl ?_
      unfold cmpI
      rw [if_neg (by omega), if_pos (by omega)]
    · exact ⟨n - 1, ⟨⟨by omega, by omega⟩, by omega⟩, at_imm rfl rfl, at_imm rfl rfl, at_int rfl (by omega), trivial⟩
  · have h0 : n = 0 := by omega
    subst h0
    rw [nt_zero, nt_zero] at hnt
    refine givesV_to rfl ?_
    unfold cmpI
    rw [if_neg (by omega), if_neg (by omega)]
end Go.PI.Try
namespace Go.PI.Try
set_option linter.unnecessarySimpa false
open Go.Proofs Go.PI
set_option linter.unusedSimpArgs false
set_option linter.unusedVariables false
/-- A row that grows from nil, in slot j. -/
def growS (j : Nat) (O : List Int) : Nat × PV := match O with
  | [] => (j, .nilsl)
  | _ :: _ => (j, .own 0 0 O.length)
def growH (O : List Int) : List (Nat × Blk) := match O with
  | [] => []
  | x :: l => [(0, ⟨(x :: l).map (.int .u32), 1, false⟩)]
theorem nv_one (y : Nat) : nv [(y : Int)] = y := by simp [nv]
theorem nv_snoc {O : List Int} {i y : Nat} (h : O.length = i) : nv (O ++ [(y : Int)]) = nv O + pw i * y := by rw [nv_append, h, nv_one]
theorem add_step {O xs ys : List Int} {i c c' y : Nat} (h : O.length = i) (i5 : nv O + pw i * c = nk xs i + nk ys i) (e : c + (lb xs i + lb ys i) = c' * 4294967296 + y) :
    nv (O ++ [(y : Int)]) + pw (i + 1) * c' = nk xs (i + 1) + nk ys (i + 1) := by
  rw [nv_snoc h, nk_succ, nk_succ, pw_succ]
  have : pw i * c + pw i * lb xs i + pw i * lb ys i = 4294967296 * pw i * c' + pw i * y := by
    rw [← Nat.mul_add, ← Nat.mul_add, Nat.mul_comm 4294967296, Nat.mul_assoc, ← Nat.mul_add]
    congr 1
    omega
  omega
theorem okN_snoc {O : List Int} {y : Nat} (h : okN O) (hy : y < 4294967296) : okN (O ++ [(y : Int)]) := okN_append.2 ⟨h, fun x hx => by rw [List.mem_singleton.1 hx]; omega⟩
theorem ok_rnadd : FnOk Try.prog 97 Try.f97 (Try.f97.body.getD .skip) [.tmp 4] 44 := ⟨Try.func97, rfl, by decide, Try.ntmps97, Try.results97, by kernel_rfl, by kernel_rfl⟩
theorem c_rnadd (xs ys : List Int) (hx : okN xs) (hy : okN ys) (hl : xs.length < 2147483647) (hl2 : ys.length < 2147483647) : Fn 97 [encN xs, encN ys] (.data (encN (lims (nv xs + nv ys)))) := by
  refine fnC_v hmix hT ok_rnadd (by simp) ?_
  (repeat' (first|refine stp ?_|with_reducible(refine brr ?_ ?_<;>intro h)));all_goals try(conv=>whnf)
  refine loopV_kept hT (fun ((i, O, c) : Nat × List Int × Nat) => [(0, encN xs), (1, encN ys), growS 5 O, (6, .int .u64 c), (7, .int .i64 i)]) (fun (_, O, _) => growH O) [] 1
    (fun (i, O, c) => O.length = i ∧ i ≤ 2147483646 ∧ okN O ∧ c < 2 ∧ nv O + pw i * c = nk xs i + nk ys i) (fun (i, _, _) => 2147483648 - i) (0, [], 0) ⟨rfl, by omega, okN_nil, by omega, by rw [nk_zero, nk_zero]; rfl⟩ (by decide) (by simp) ?_ ?_
  · exact ⟨[], [], [], [], ⟨trivial, trivial, trivial⟩, ⟨at_imm rfl rfl, at_imm rfl rfl, at_nilsl rfl, at_int rfl rfl, at_int rfl rfl, trivial⟩, trivial, by simp [growH]⟩
  intro ⟨i, O, c⟩ ⟨i1, i2, i3, i4, i5⟩
  have cl1 := c_rnlimb xs (i : Int) hx (by omega) (by omega)
  have cl2 := c_rnlimb ys (i : Int) hy (by omega) (by omega)
  rw [show ((i : Int)).toNat = i from rfl] at cl1 cl2
  have b1 := lb_lt hx i
  have b2 := lb_lt hy i
  rcases O with _ | ⟨o, O⟩
  · (repeat' (first|refine stp ?_|with_reducible(refine brr ?_ ?_<;>intro h)));all_goals try(conv=>whnf)
    · refine callV_data cl1 rfl ?_
      (repeat' (first|refine stp ?_|with_reducible(refine brr ?_ ?_<;>intro h)));all_goals try(conv=>whnf)
      refine callV_data cl2 rfl ?_
      (repeat' (first|refine stp ?_|with_reducible(refine brr ?_ ?_<;>intro h)));all_goals try(conv=>whnf)
      obtain ⟨c', y, e1, e2⟩ : ∃ c' y, c + (lb xs i + lb ys i) = c' * 4294967296 + y ∧ y < 4294967296 := ⟨(c + (lb xs i + lb ys i)) / 4294967296, (c + (lb xs i + lb ys i)) % 4294967296, by omega, by omega⟩
      have hst := add_step i1 i5 e1
      refine ov_m32 ?_
      rw [show ((c : Int) + ((lb xs i : Int) + (lb ys i : Int))) % 4294967296 = (y : Int) by omega]
      (repeat' (first|refine stp ?_|with_reducible(refine brr ?_ ?_<;>intro h)));all_goals try(conv=>whnf)
      exact ⟨(i + 1, [] ++ [(y : Int)], c'), ⟨⟨by simp at i1 ⊢ <;> omega, by omega, okN_snoc i3 e2, by omega, hst⟩, by show 2147483648 - (i + 1) < 2147483648 - i; omega⟩, [_], [], [], [], ⟨trivial, trivial, trivial⟩,
        ⟨at_imm rfl rfl, at_imm rfl rfl, at_own (by decide) rfl rfl, at_int rfl (by rw [fdiv_32]; omega), at_int rfl (by omega), trivial⟩, ⟨blk_row (by decide) rfl rfl (nr_map fun _ => ⟨rfl, by simp⟩) rfl, trivial⟩, by simp [growH]⟩
    · refine callV_data cl1 rfl ?_
      (repeat' (first|refine stp ?_|with_reducible(refine brr ?_ ?_<;>intro h)));all_goals try(conv=>whnf)
      refine callV_data cl2 rfl ?_
      (repeat' (first|refine stp ?_|with_reducible(refine brr ?_ ?_<;>intro h)));all_goals try(conv=>whnf)
      obtain ⟨c', y, e1, e2⟩ : ∃ c' y, c + (lb xs i + lb ys i) = c' * 4294967296 + y ∧ y < 4294967296 := ⟨(c + (lb xs i + lb ys i)) / 4294967296, (c + (lb xs i + lb ys i)) % 4294967296, by omega, by omega⟩
      have hst := add_step i1 i5 e1
      refine ov_m32 ?_
      rw [show ((c : Int) + ((lb xs i : Int) + (lb ys i : Int))) % 4294967296 = (y : Int) by omega]
      (repeat' (first|refine stp ?_|with_reducible(refine brr ?_ ?_<;>intro h)));all_goals try(conv=>whnf)
      exact ⟨(i + 1, [] ++ [(y : Int)], c'), ⟨⟨by simp at i1 ⊢ <;> omega, by omega, okN_snoc i3 e2, by omega, hst⟩, by show 2147483648 - (i + 1) < 2147483648 - i; omega⟩, [_], [], [], [], ⟨trivial, trivial, trivial⟩,
        ⟨at_imm rfl rfl, at_imm rfl rfl, at_own (by decide) rfl rfl, at_int rfl (by rw [fdiv_32]; omega), at_int rfl (by omega), trivial⟩, ⟨blk_row (by decide) rfl rfl (nr_map fun _ => ⟨rfl, by simp⟩) rfl, trivial⟩, by simp [growH]⟩
    · have hv : nv ([] ++ [(c : Int)]) = nv xs + nv ys := by rw [nv_snoc i1, i5, nk_all (by omega), nk_all (by omega)]
      have cm := c_rnmake ([] ++ [(c : Int)]) (okN_snoc i3 (by omega)) (by simp at i1 ⊢ <;> omega)
      rw [hv] at cm
      refine callV_data cm (mapF_cons (frz_own_map rfl rfl (by simp) (fun x => frz_u32 x)) rfl) ?_
      (repeat' (first|refine stp ?_|with_reducible(refine brr ?_ ?_<;>intro h)));all_goals try(conv=>whnf)
      exact givesV_to rfl rfl
  · (repeat' (first|refine stp ?_|with_reducible(refine brr ?_ ?_<;>intro h)));all_goals try(conv=>whnf)
    · refine callV_data cl1 rfl ?_
      (repeat' (first|refine stp ?_|with_reducible(refine brr ?_ ?_<;>intro h)));all_goals try(conv=>whnf)
      refine callV_data cl2 rfl ?_
      (repeat' (first|refine stp ?_|with_reducible(refine brr ?_ ?_<;>intro h)));all_goals try(conv=>whnf)
      obtain ⟨c', y, e1, e2⟩ : ∃ c' y, c + (lb xs i + lb ys i) = c' * 4294967296 + y ∧ y < 4294967296 := ⟨(c + (lb xs i + lb ys i)) / 4294967296, (c + (lb xs i + lb ys i)) % 4294967296, by omega, by omega⟩
      have hst := add_step i1 i5 e1
      refine ov_m32 ?_
      rw [show ((c : Int) + ((lb xs i : Int) + (lb ys i : Int))) % 4294967296 = (y : Int) by omega]
      (repeat' (first|refine stp ?_|with_reducible(refine brr ?_ ?_<;>intro h)));all_goals try(conv=>whnf)
      refine sideD_intro ⟨rfl, by simp, by simp at i1 ⊢ <;> omega⟩ ?_
      (repeat' (first|refine stp ?_|with_reducible(refine brr ?_ ?_<;>intro h)));all_goals try(conv=>whnf)
      exact ⟨(i + 1, (o :: O) ++ [(y : Int)], c'), ⟨⟨by simp at i1 ⊢ <;> omega, by omega, okN_snoc i3 e2, by omega, hst⟩, by show 2147483648 - (i + 1) < 2147483648 - i; omega⟩, [_], [], [], [], ⟨trivial, trivial, trivial⟩,
        ⟨at_imm rfl rfl, at_imm rfl rfl, at_own (by decide) rfl (by simp), at_int rfl (by rw [fdiv_32]; omega), at_int rfl (by omega), trivial⟩, ⟨blk_row (by decide) rfl (by simp) (nr_map fun _ => ⟨rfl, by simp⟩) rfl, trivial⟩, by simp [growH]⟩
    · refine callV_data cl1 rfl ?_
      (repeat' (first|refine stp ?_|with_reducible(refine brr ?_ ?_<;>intro h)));all_goals try(conv=>whnf)
      refine callV_data cl2 rfl ?_
      (repeat' (first|refine stp ?_|with_reducible(refine brr ?_ ?_<;>intro h)));all_goals try(conv=>whnf)
      obtain ⟨c', y, e1, e2⟩ : ∃ c' y, c + (lb xs i + lb ys i) = c' * 4294967296 + y ∧ y < 4294967296 := ⟨(c + (lb xs i + lb ys i)) / 4294967296, (c + (lb xs i + lb ys i)) % 4294967296, by omega, by omega⟩
      have hst := add_step i1 i5 e1
      refine ov_m32 ?_
      rw [show ((c : Int) + ((lb xs i : Int) + (lb ys i : Int))) % 4294967296 = (y : Int) by omega]
      (repeat' (first|refine stp ?_|with_reducible(refine brr ?_ ?_<;>intro h)));all_goals try(conv=>whnf)
      refine sideD_intro ⟨rfl, by simp, by simp at i1 ⊢ <;> omega⟩ ?_
      (repeat' (first|refine stp ?_|with_reducible(refine brr ?_ ?_<;>intro h)));all_goals try(conv=>whnf)
      exact ⟨(i + 1, (o :: O) ++ [(y : Int)], c'), ⟨⟨by simp at i1 ⊢ <;> omega, by omega, okN_snoc i3 e2, by omega, hst⟩, by show 2147483648 - (i + 1) < 2147483648 - i; omega⟩, [_], [], [], [], ⟨trivial, trivial, trivial⟩,
        ⟨at_imm rfl rfl, at_imm rfl rfl, at_own (by decide) rfl (by simp), at_int rfl (by rw [fdiv_32]; omega), at_int rfl (by omega), trivial⟩, ⟨blk_row (by decide) rfl (by simp) (nr_map fun _ => ⟨rfl, by simp⟩) rfl, trivial⟩, by simp [growH]⟩
    · have hv : nv ((o :: O) ++ [(c : Int)]) = nv xs + nv ys := by rw [nv_snoc i1, i5, nk_all (by omega), nk_all (by omega)]
      have cm := c_rnmake ((o :: O) ++ [(c : Int)]) (okN_snoc i3 (by omega)) (by simp at i1 ⊢ <;> omega)
      rw [hv] at cm
      refine sideD_intro ⟨rfl, by simp, by simp at i1 ⊢ <;> omega⟩ ?_
      (repeat' (first|refine stp ?_|with_reducible(refine brr ?_ ?_<;>intro h)));all_goals try(conv=>whnf)
      refine callV_data cm (mapF_cons (frz_own_map rfl (by simp) (by simp) (fun x => frz_u32 x)) rfl) ?_
      (repeat' (first|refine stp ?_|with_reducible(refine brr ?_ ?_<;>intro h)));all_goals try(conv=>whnf)
      exact givesV_to rfl rfl
theorem sub_step {O xs ys : List Int} {i c c' y : Nat} (h : O.length = i) (i5 : nv O + nk ys i = nk xs i + pw i * c) (e : lb xs i + c' * 4294967296 = lb ys i + c + y) :
    nv (O ++ [(y : Int)]) + nk ys (i + 1) = nk xs (i + 1) + pw (i + 1) * c' := by
  rw [nv_snoc h, nk_succ, nk_succ, pw_succ]
  have : pw i * c + pw i * y + pw i * lb ys i = 4294967296 * pw i * c' + pw i * lb xs i := by
    rw [← Nat.mul_add, ← Nat.mul_add, Nat.mul_comm 4294967296, Nat.mul_assoc, ← Nat.mul_add]
    congr 1
    omega
  omega
theorem sub_done {O xs ys : List Int} {i c : Nat} (h : O.length = i) (ho : okN O) (hc : c < 2) (e : nv O + nk ys i = nk xs i + pw i * c) (hi : xs.length ≤ i) (hx : okN xs) (hle : nv ys ≤ nv xs) : nv O = nv xs - nv ys := by
  have h1 := nv_lt hx
  have h2 := pw_le hi
  have h3 := nv_split ys i
  have h4 := nv_lt ho
  rw [h] at h4
  rw [nk_all hi] at e
  have h5 : nt ys i = 0 := by
    rcases Nat.eq_zero_or_pos (nt ys i) with z | z
    · exact z
    · have := Nat.mul_le_mul_left (pw i) z
      omega
  rw [h5] at h3
  rcases (show c = 0 ∨ c = 1 by omega) with rfl | rfl <;> omega
theorem ok_rnsub : FnOk Try.prog 98 Try.f98 (Try.f98.body.getD .skip) [.tmp 4, .tmp 5] 45 := ⟨Try.func98, rfl, by decide, Try.ntmps98, Try.results98, by kernel_rfl, by kernel_rfl⟩
theorem c_rnsub (xs ys : List Int) (hx : okN xs) (hy : okN ys) (hl : xs.length < 2147483647) (hl2 : ys.length < 2147483647) : Fn 98 [encN xs, encN ys] (.data (subR (nv xs) (nv ys))) := by
  have cc := c_rncmp xs ys hx hy (by omega) (by omega)
  have hcmp := cmpI_lt (nv xs) (nv ys)
  refine fnC_v hmix hT ok_rnsub (by simp) ?_
  (repeat' (first|refine stp ?_|with_reducible(refine brr ?_ ?_<;>intro h)));all_goals try(conv=>whnf)
  refine callV_data cc rfl ?_
  (repeat' (first|refine stp ?_|with_reducible(refine brr ?_ ?_<;>intro h)));all_goals try(conv=>whnf)
  · refine givesV_to rfl ?_
    unfold subR
    rw [if_pos (by omega)]
  refine loopV_kept hT (fun ((i, O, c) : Nat × List Int × Nat) => [(0, encN xs), (1, encN ys), growS 6 O, (7, .int .u64 c), (8, .int .i64 i)]) (fun (_, O, _) => growH O) [] 1
    (fun (i, O, c) => O.length = i ∧ i ≤ xs.length ∧ okN O ∧ c < 2 ∧ nv O + nk ys i = nk xs i + pw i * c) (fun (i, _, _) => xs.length - i) (0, [], 0) ⟨rfl, by omega, okN_nil, by omega, by rw [nk_zero, nk_zero]; rfl⟩ (by decide) (by simp) ?_ ?_
  · exact ⟨[], [], [], [], ⟨trivial, trivial, trivial⟩, ⟨at_imm rfl rfl, at_imm rfl rfl, at_nilsl rfl, at_int rfl rfl, at_int rfl rfl, trivial⟩, trivial, by simp [growH]⟩
  intro ⟨i, O, c⟩ ⟨i1, i2, i3, i4, i5⟩
  have cl1 := c_rnlimb xs (i : Int) hx (by omega) (by omega)
  have cl2 := c_rnlimb ys (i : Int) hy (by omega) (by omega)
  rw [show ((i : Int)).toNat = i from rfl] at cl1 cl2
  have b1 := lb_lt hx i
  have b2 := lb_lt hy i
  rcases O with _ | ⟨o, O⟩
  · (repeat' (first|refine stp ?_|with_reducible(refine brr ?_ ?_<;>intro h)));all_goals try(conv=>whnf)
    · refine callV_data cl1 rfl ?_
      (repeat' (first|refine stp ?_|with_reducible(refine brr ?_ ?_<;>intro h)));all_goals try(conv=>whnf)
      refine callV_data cl2 rfl ?_
      (repeat' (first|refine stp ?_|with_reducible(refine brr ?_ ?_<;>intro h)));all_goals try(conv=>whnf)
      · obtain ⟨b', y, eb, e1, e2⟩ : ∃ b' y, b' = 1 ∧ lb xs i + b' * 4294967296 = lb ys i + c + y ∧ y < 4294967296 := ⟨1, lb xs i + 1 * 4294967296 - (lb ys i + c), rfl, by omega, by omega⟩
        have hst := sub_step i1 i5 e1
        exact ⟨(i + 1, [] ++ [(y : Int)], b'), ⟨⟨by simp at i1 ⊢ <;> omega, by omega, okN_snoc i3 e2, by omega, hst⟩, by show xs.length - (i + 1) < xs.length - i; omega⟩, [_], [], [], [], ⟨trivial, trivial, trivial⟩,
          ⟨at_imm rfl rfl, at_imm rfl rfl, at_own (by decide) rfl rfl, at_int rfl (by omega), at_int rfl (by omega), trivial⟩, ⟨blk_row (by decide) rfl (by simp; omega) (nr_map fun _ => ⟨rfl, by simp⟩) rfl, trivial⟩, by simp [growH]⟩
      · obtain ⟨b', y, eb, e1, e2⟩ : ∃ b' y, b' = 0 ∧ lb xs i + b' * 4294967296 = lb ys i + c + y ∧ y < 4294967296 := ⟨0, lb xs i + 0 * 4294967296 - (lb ys i + c), rfl, by omega, by omega⟩
        have hst := sub_step i1 i5 e1
        exact ⟨(i + 1, [] ++ [(y : Int)], b'), ⟨⟨by simp at i1 ⊢ <;> omega, by omega, okN_snoc i3 e2, by omega, hst⟩, by show xs.length - (i + 1) < xs.length - i; omega⟩, [_], [], [], [], ⟨trivial, trivial, trivial⟩,
          ⟨at_imm rfl rfl, at_imm rfl rfl, at_own (by decide) rfl rfl, at_int rfl (by omega), at_int rfl (by omega), trivial⟩, ⟨blk_row (by decide) rfl (by simp; omega) (nr_map fun _ => ⟨rfl, by simp⟩) rfl, trivial⟩, by simp [growH]⟩
    · have hO := sub_done (O := []) i1 i3 i4 i5 (by omega) hx (by omega)
      have cm := c_rnmake [] i3 (by simp at i1 ⊢ <;> omega)
      rw [hO] at cm
      refine callV_data cm rfl ?_
      (repeat' (first|refine stp ?_|with_reducible(refine brr ?_ ?_<;>intro h)));all_goals try(conv=>whnf)
      refine givesV_to rfl ?_
      unfold subR
      rw [if_neg (by omega)]
  · (repeat' (first|refine stp ?_|with_reducible(refine brr ?_ ?_<;>intro h)));all_goals try(conv=>whnf)
    · refine callV_data cl1 rfl ?_
      (repeat' (first|refine stp ?_|with_reducible(refine brr ?_ ?_<;>intro h)));all_goals try(conv=>whnf)
      refine callV_data cl2 rfl ?_
      (repeat' (first|refine stp ?_|with_reducible(refine brr ?_ ?_<;>intro h)));all_goals try(conv=>whnf)
      · obtain ⟨b', y, eb, e1, e2⟩ : ∃ b' y, b' = 1 ∧ lb xs i + b' * 4294967296 = lb ys i + c + y ∧ y < 4294967296 := ⟨1, lb xs i + 1 * 4294967296 - (lb ys i + c), rfl, by omega, by omega⟩
        have hst := sub_step i1 i5 e1
        refine sideD_intro ⟨rfl, by simp, by simp at i1 ⊢ <;> omega⟩ ?_
        (repeat' (first|refine stp ?_|with_reducible(refine brr ?_ ?_<;>intro h)));all_goals try(conv=>whnf)
        exact ⟨(i + 1, (o :: O) ++ [(y : Int)], b'), ⟨⟨by simp at i1 ⊢ <;> omega, by omega, okN_snoc i3 e2, by omega, hst⟩, by show xs.length - (i + 1) < xs.length - i; omega⟩, [_], [], [], [], ⟨trivial, trivial, trivial⟩,
          ⟨at_imm rfl rfl, at_imm rfl rfl, at_own (by decide) rfl (by simp), at_int rfl (by omega), at_int rfl (by omega), trivial⟩, ⟨blk_row (by decide) rfl (by simp; omega) (nr_map fun _ => ⟨rfl, by simp⟩) rfl, trivial⟩, by simp [growH]⟩
      · obtain ⟨b', y, eb, e1, e2⟩ : ∃ b' y, b' = 0 ∧ lb xs i + b' * 4294967296 = lb ys i + c + y ∧ y < 4294967296 := ⟨0, lb xs i + 0 * 4294967296 - (lb ys i + c), rfl, by omega, by omega⟩
        have hst := sub_step i1 i5 e1
        refine sideD_intro ⟨rfl, by simp, by simp at i1 ⊢ <;> omega⟩ ?_
        (repeat' (first|refine stp ?_|with_reducible(refine brr ?_ ?_<;>intro h)));all_goals try(conv=>whnf)
        exact ⟨(i + 1, (o :: O) ++ [(y : Int)], b'), ⟨⟨by simp at i1 ⊢ <;> omega, by omega, okN_snoc i3 e2, by omega, hst⟩, by show xs.length - (i + 1) < xs.length - i; omega⟩, [_], [], [], [], ⟨trivial, trivial, trivial⟩,
          ⟨at_imm rfl rfl, at_imm rfl rfl, at_own (by decide) rfl (by simp), at_int rfl (by omega), at_int rfl (by omega), trivial⟩, ⟨blk_row (by decide) rfl (by simp; omega) (nr_map fun _ => ⟨rfl, by simp⟩) rfl, trivial⟩, by simp [growH]⟩
    · have hO := sub_done (O := (o :: O)) i1 i3 i4 i5 (by omega) hx (by omega)
      have cm := c_rnmake (o :: O) i3 (by simp at i1 ⊢ <;> omega)
      rw [hO] at cm
      refine callV_data cm (mapF_cons (frz_own_map rfl rfl (by simp) (fun x => frz_u32 x)) rfl) ?_
      (repeat' (first|refine stp ?_|with_reducible(refine brr ?_ ?_<;>intro h)));all_goals try(conv=>whnf)
      refine givesV_to rfl ?_
      unfold subR
      rw [if_neg (by omega)]
end Go.PI.Try
namespace Go.PI.Try
set_option linter.unnecessarySimpa false
open Go.Proofs Go.PI
set_option linter.unusedSimpArgs false
set_option linter.unusedVariables false
theorem ok_rnmul : FnOk Try.prog 91 Try.f91 (Try.f91.body.getD .skip) [.tmp 4] 59 := ⟨Try.func91, rfl, by decide, Try.ntmps91, Try.results91, by kernel_rfl, by kernel_rfl⟩
theorem c_rnmul (A B : List Int) (ha : okN A) (hb : okN B) (hl : A.length < 1073741823) (hl2 : B.length < 1073741823) : Fn 91 [encN A, encN B] (.data (encN (lims (nv A * nv B)))) := by
  refine fnC_v hmix hT ok_rnmul (by simp) ?_
  (repeat' (first|refine stp ?_|with_reducible(refine brr ?_ ?_<;>intro h)));all_goals try(conv=>whnf)
  refine loopV_kept hT (fun ((i, O) : Nat × List Int) => [(0, encN A), (1, encN B), (5, .own 0 0 (A.length + B.length + 1)), (6, .int .i64 i)]) (fun (_, O) => [(0, ⟨O.map (.int .u32), 1, false⟩)]) [] 1
    (fun (i, O) => i ≤ A.length ∧ O.length = A.length + B.length + 1 ∧ okN O ∧ nv O = nk A i * nv B ∧ ∀ j, i + B.length ≤ j → lb O j = 0) (fun (i, _) => A.length - i) (0, List.replicate (A.length + B.length + 1) 0) ⟨by simp, by simp, okN_zeros _, by simp [nv_zeros, nk_zero], fun j _ => lb_zeros _ j⟩ (by decide) (by simp) ?_ ?_
  · exact ⟨[_], [], [], [], ⟨trivial, trivial, trivial⟩, ⟨at_imm rfl rfl, at_imm rfl rfl, at_own (by decide) rfl (by simp only [List.length_map]; omega), at_int rfl rfl, trivial⟩, ⟨blk_row (by decide) rfl (rep_to (f := PV.int .u32) (x := 0) (by simp only [List.length_map]; omega)) (nr_map fun _ => ⟨rfl, by simp⟩) rfl, trivial⟩, by simp [ren]⟩
  intro ⟨i, O⟩ ⟨hi, hO, hok, hv, hz⟩
  (repeat' (first|refine stp ?_|with_reducible(refine brr ?_ ?_<;>intro h)));all_goals try(conv=>whnf)
  · refine loopV_kept hT (fun ((k, P, c) : Nat × List Int × Nat) => [(0, encN A), (1, encN B), (5, .own 0 0 (A.length + B.length + 1)), (6, .int .i64 i), (7, .int .u64 c), (8, .int .i64 k)]) (fun (_, P, _) => [(0, ⟨P.map (.int .u32), 1, false⟩)]) [] 1
      (fun (k, P, c) => k ≤ B.length + 1 ∧ P.length = A.length + B.length + 1 ∧ okN P ∧ c < 4294967296 ∧ nv P + c * pw (i + k) = nv O + pw i * (lb A i * nk B k) ∧ (∀ j, i + B.length + 1 ≤ j → lb P j = 0) ∧ (k ≤ B.length → lb P (i + B.length) = 0) ∧ (k = B.length + 1 → c = 0)) (fun (k, _, _) => B.length + 1 - k) (0, O, 0)
      ⟨by simp, hO, hok, by simp, by simp [nk_zero], fun j hj => hz j (by omega), fun _ => hz _ (by omega), fun _ => rfl⟩ (by decide) (by simp) ?_ ?_
    · exact ⟨[0], [], [], [], ⟨trivial, trivial, trivial⟩, ⟨at_imm rfl rfl, at_imm rfl rfl, at_own (by decide) rfl rfl, at_int rfl rfl, at_int rfl rfl, at_int rfl rfl, trivial⟩, ⟨blk_row (by decide) rfl rfl (nr_map fun _ => ⟨rfl, by simp⟩) rfl, trivial⟩, by simp [ren]⟩
    intro ⟨k, P, c⟩ ⟨hk, hP, hokP, hc, hvP, hzP, hzk, hck⟩
    have cl := c_rnlimb B (k : Int) hb (by omega) (by omega)
    rw [show ((k : Int)).toNat = k from rfl] at cl
    have ha1 : 0 ≤ A[i]! ∧ A[i]! < 4294967296 := okN_get ha (by omega)
    have h1 := lb_get (show i < A.length by omega) ha
    have hBk := lb_lt hb k
    have hpr : 0 ≤ A[i]! * (lb B k : Int) ∧ A[i]! * (lb B k : Int) ≤ 18446744065119617025 := prod_le ha1 (by omega)
    have hPk : k ≤ B.length → 0 ≤ P[i + k]! ∧ P[i + k]! < 4294967296 := fun h => okN_get hokP (by omega)
    (repeat' (first|refine stp ?_|with_reducible(refine brr ?_ ?_<;>intro h)));all_goals try(conv=>whnf)
    · refine callV_data cl rfl ?_
      (repeat' (first|refine stp ?_|with_reducible(refine brr ?_ ?_<;>intro h)));all_goals try(conv=>whnf)
      refine oK_atN (i + k) (by omega) (by omega) ?_
      have hP1 := hPk (by omega)
      have h3 := lb_get (show i + k < P.length by omega) hokP
      obtain ⟨s, hs⟩ : ∃ s, c + (lb A i * lb B k + lb P (i + k)) = s := ⟨_, rfl⟩
      have hsI : (s : Int) = ↑c + (A[i]! * (lb B k : Int) + P[i + k]!) := by
        rw [← hs]; simp only [Int.natCast_add, Int.natCast_mul, h1, h3]
      (repeat' (first|refine stp ?_|with_reducible(refine brr ?_ ?_<;>intro h)));all_goals try(conv=>whnf)
      refine ov_m32 ?_
      (repeat' (first|refine stp ?_|with_reducible(refine brr ?_ ?_<;>intro h)));all_goals try(conv=>whnf)
      refine oK_atN (i + k) (by omega) (by omega) ?_
      (repeat' (first|refine stp ?_|with_reducible(refine brr ?_ ?_<;>intro h)));all_goals try(conv=>whnf)
      refine ⟨(k + 1, P.set (i + k) ((s % 4294967296 : Nat) : Int), s / 4294967296), ⟨⟨by omega, by simp [hP], okN_set hokP _ (by omega), by omega, ?_, fun j hj => by rw [lb_set_ne (by omega)]; exact hzP j hj, fun hk2 => by rw [lb_set_ne (by omega)]; exact hzk (by omega), fun hk2 => ?_⟩, by show B.length + 1 - (k + 1) < B.length + 1 - k; omega⟩, [0], [], [], [], ⟨trivial, trivial, trivial⟩,
        ⟨at_imm rfl rfl, at_imm rfl rfl, at_own (by decide) rfl rfl, at_int rfl rfl, at_int rfl (by rw [fdiv_32, ← hsI]; omega), at_int rfl (by omega), trivial⟩, ⟨blk_row (by decide) rfl (set_to (by omega) (by rw [← hsI]; omega)) (nr_map fun _ => ⟨rfl, by simp⟩) rfl, trivial⟩, by simp [ren]⟩
      · have e1 := nv_set (a := P) (j := i + k) ((s % 4294967296 : Nat) : Int) (by omega)
        have e2 := carry_step (pw (i + k)) s
        rw [Int.toNat_natCast] at e1
        rw [nk_succ, show i + (k + 1) = i + k + 1 by omega, pw_succ]
        rw [← hs] at e1 e2 ⊢
        simp only [Nat.mul_add, pw_add] at e1 e2 hvP ⊢
        simp only [Nat.mul_comm, Nat.mul_left_comm, Nat.mul_assoc] at e1 e2 hvP ⊢
        omega
      · have hkB : k = B.length := by omega
        subst hkB
        rw [lb_none (Nat.le_refl _), hzk (Nat.le_refl _), Nat.mul_zero] at hs
        omega
    · have hk1 : k = B.length + 1 := by omega
      have hc0 := hck hk1
      subst hc0
      exact ⟨(i + 1, P), ⟨⟨by omega, hP, hokP, by rw [hk1, nk_succ, lb_none (Nat.le_refl _), nk_all (a := B) (Nat.le_refl _)] at hvP; simp only [Nat.mul_zero, Nat.add_zero, Nat.zero_mul] at hvP; rw [nk_succ, Nat.add_mul, ← hv, Nat.mul_assoc]; omega, fun j hj => hzP j (by omega)⟩, by show A.length - (i + 1) < A.length - i; omega⟩, [0], [], [], [], ⟨trivial, trivial, trivial⟩,
        ⟨at_imm rfl rfl, at_imm rfl rfl, at_own (by decide) rfl rfl, at_int rfl (by omega), trivial⟩, ⟨blk_row (by decide) rfl rfl (nr_map fun _ => ⟨rfl, by simp⟩) rfl, trivial⟩, by simp [ren]⟩
  · have hi' : i = A.length := by omega
    rw [hi', nk_all (a := A) (Nat.le_refl _)] at hv
    have ct := c_rnmake O hok (by omega)
    rw [hv] at ct
    refine callV_data ct (mapF_cons (frz_own_map rfl rfl (by omega) (fun x => frz_u32 x)) rfl) ?_
    (repeat' (first|refine stp ?_|with_reducible(refine brr ?_ ?_<;>intro h)));all_goals try(conv=>whnf)
    exact givesV_to rfl rfl
end Go.PI.Try
namespace Go.PI.Try
set_option linter.unnecessarySimpa false
open Go.Proofs Go.PI
set_option linter.unusedSimpArgs false
set_option linter.unusedVariables false
theorem ok_rnuint : FnOk Try.prog 102 Try.f102 (Try.f102.body.getD .skip) [.tmp 2, .tmp 3] 28 := ⟨Try.func102, rfl, by decide, Try.ntmps102, Try.results102, by kernel_rfl, by kernel_rfl⟩
theorem c_rnuint (xs : List Int) (hx : okN xs) (hl : xs.length < 2147483647) : Fn 102 [encN xs] (.data (if nv xs < 18446744073709551616 then .tup [.int .u64 (nv xs), .bool true] else .tup [.int .u64 0, .bool false])) := by
  have ct := c_rnmake xs hx (by omega)
  have h2 := lims_len_nv hx
  have ha := can_lims (nv xs)
  have hv := nv_lims (nv xs)
  generalize nv xs = N at *
  have hnil : lims N = [] → N = 0 := lims_nil
  generalize lims N = A at *
  have p2 : pw 2 = 18446744073709551616 := by rw [pw_succ, pw_succ, pw_zero]
  have p1 : pw 1 = 4294967296 := by rw [pw_succ, pw_zero]
  have hlt := nv_lt ha.1
  refine fnC_v hmix hT ok_rnuint (by simp) ?_
  (repeat' (first|refine stp ?_|with_reducible(refine brr ?_ ?_<;>intro h)));all_goals try(conv=>whnf)
  refine callV_data ct rfl ?_
  (repeat' (first|refine stp ?_|with_reducible(refine brr ?_ ?_<;>intro h)));all_goals try(conv=>whnf)
  · have := hnil (List.length_eq_zero_iff.1 (by omega))
    subst this
    rw [if_pos (by omega)]
    exact givesV_to rfl rfl
  · have hl1 : A.length = 1 := by omega
    have g := lb_get (a := A) (k := 0) (by omega) ha.1
    have b := lb_lt ha.1 0
    have e : nv A = lb A 0 := by rw [← nk_all (a := A) (k := 1) (by omega), nk_succ, nk_zero, pw_zero]; omega
    have hA0 : 0 ≤ A[0]! ∧ A[0]! < 4294967296 := by omega
    rw [if_pos (by omega)]
    (repeat' (first|refine stp ?_|with_reducible(refine brr ?_ ?_<;>intro h)));all_goals try(conv=>whnf)
    refine givesV_to rfl ?_
    rw [← g, ← e, hv]
  · have hl1 : A.length = 2 := by omega
    have g0 := lb_get (a := A) (k := 0) (by omega) ha.1
    have b0 := lb_lt ha.1 0
    have g1 := lb_get (a := A) (k := 1) (by omega) ha.1
    have b1 := lb_lt ha.1 1
    have e : nv A = lb A 0 + 4294967296 * lb A 1 := by rw [← nk_all (a := A) (k := 2) (by omega), nk_succ, nk_succ, nk_zero, pw_zero, p1]; omega
    have hA0 : 0 ≤ A[0]! ∧ A[0]! < 4294967296 := by omega
    have hA1 : 0 ≤ A[1]! ∧ A[1]! < 4294967296 := by omega
    have ee : bitF .or .u64 A[0]! (A[1]! * shl2 .u64 32) = (N : Int) := by rw [or_limb' hA1 hA0]; omega
    rw [if_pos (by omega)]
    (repeat' (first|refine stp ?_|with_reducible(refine brr ?_ ?_<;>intro h)));all_goals try(conv=>whnf)
    refine oK_map' (j := 1) rfl (by omega) ?_
    (repeat' (first|refine stp ?_|with_reducible(refine brr ?_ ?_<;>intro h)));all_goals try(conv=>whnf)
    refine ov_u64 ?_ ?_
    · rw [shl2_32]; omega
    (repeat' (first|refine stp ?_|with_reducible(refine brr ?_ ?_<;>intro h)));all_goals try(conv=>whnf)
    refine givesV_to rfl ?_
    rw [ee]
  · have hge := can_ge ha (fun e => by subst e; simp at *)
    have := pw_le (show 2 ≤ A.length - 1 by omega)
    rw [if_neg (by omega)]
    (repeat' (first|refine stp ?_|with_reducible(refine brr ?_ ?_<;>intro h)));all_goals try(conv=>whnf)
    exact givesV_to rfl rfl
end Go.PI.Try
namespace Go.PI.Try
set_option linter.unnecessarySimpa false
open Go.Proofs Go.PI
set_option linter.unusedSimpArgs false
set_option linter.unusedVariables false
theorem ok_rnbits : FnOk Try.prog 103 Try.f103 (Try.f103.body.getD .skip) [.tmp 2] 27 := ⟨Try.func103, rfl, by decide, Try.ntmps103, Try.results103, by kernel_rfl, by kernel_rfl⟩
theorem c_rnbits (xs : List Int) (hx : okN xs) (hl : xs.length < 2147483647) : Fn 103 [encN xs] (.data (.int .i64 (bitsV (nv xs)))) := by
  have h2 := lims_len_nv hx
  have hok := lims_ok (nv xs)
  refine fnC_v hmix hT ok_rnbits (by simp) ?_
  (repeat' (first|refine stp ?_|with_reducible(refine brr ?_ ?_<;>intro h)));all_goals try(conv=>whnf)
  refine callV_data (c_rnmake xs hx (by omega)) rfl ?_
  (repeat' (first|refine stp ?_|with_reducible(refine brr ?_ ?_<;>intro h)));all_goals try(conv=>whnf)
  · refine givesV_to rfl ?_
    have : lims (nv xs) = [] := List.length_eq_zero_iff.1 (by omega)
    have := lims_nil this
    unfold bitsV
    rw [if_pos this]
  · refine oK_map' (j := (lims (nv xs)).length - 1) (by simp only [List.length_map]; omega) (by omega) ?_
    (repeat' (first|refine stp ?_|with_reducible(refine brr ?_ ?_<;>intro h)));all_goals try(conv=>whnf)
    have hg := lb_get (show (lims (nv xs)).length - 1 < (lims (nv xs)).length by omega) hok
    have hlt := lb_lt hok ((lims (nv xs)).length - 1)
    have hne : nv xs ≠ 0 := fun e => by
      have : (lims (nv xs)).length = 0 := by rw [e]; rfl
      omega
    have hbv : bitsV (nv xs) = 32 * ((lims (nv xs)).length - 1 : Nat) + bl (lb (lims (nv xs)) ((lims (nv xs)).length - 1)) := by unfold bitsV; rw [if_neg hne]
    rw [hbv]
    generalize lb (lims (nv xs)) ((lims (nv xs)).length - 1) = T at *
    refine loopV_slots hT (fun ((n, t) : Nat × Nat) => [(3, .int .i64 n), (4, .int .u32 t)]) (fun (n, t) => t < 4294967296 ∧ n + bl t = 32 * ((lims (nv xs)).length - 1) + bl T) (fun (_, t) => t) (32 * ((lims (nv xs)).length - 1), T) ⟨hlt, rfl⟩ ?_ ?_
    · exact ⟨at_int rfl (by simp only [List.length_map]; omega), at_int rfl hg.symm, trivial⟩
    intro ⟨n, t⟩ ⟨i1, i2⟩
    have hT32 := (bl_bounds 32 T hlt (by decide)).2.2
    have ht32 := (bl_bounds 32 t i1 (by decide)).2.2
    (repeat' (first|refine stp ?_|with_reducible(refine brr ?_ ?_<;>intro h)));all_goals try(conv=>whnf)
    · have hh := bl_half (n := t) (by omega) (by omega)
      have hf : (t : Int).fdiv (shl2 .u32 1) = ((t / 2 : Nat) : Int) := by rw [fdiv_pow (j := 1) rfl]; omega
      exact ⟨(n + 1, t / 2), ⟨⟨by omega, by omega⟩, by show t / 2 < t; omega⟩, at_int rfl (by omega), at_int rfl hf, trivial⟩
    · have h0 : t = 0 := by omega
      subst h0
      rw [bl_zero] at i2
      refine givesV_to rfl ?_
      congr 1
      omega
end Go.PI.Try
namespace Go.PI.Try
set_option linter.unnecessarySimpa false
open Go.Proofs Go.PI
set_option linter.unusedSimpArgs false
set_option linter.unusedVariables false
theorem ok_rnshl : FnOk Try.prog 104 Try.f104 (Try.f104.body.getD .skip) [.tmp 4] 40 := ⟨Try.func104, rfl, by decide, Try.ntmps104, Try.results104, by kernel_rfl, by kernel_rfl⟩
theorem c_rnshl (xs : List Int) (hx : okN xs) (hl : xs.length < 2147483646) : Fn 104 [encN xs, .int .i64 1] (.data (encN (lims (2 * nv xs)))) := by
  refine fnC_v hmix hT ok_rnshl (by simp) ?_
  have eq : (1 : Int).tdiv 32 = 0 := rfl
  have em : (1 : Int).tmod 32 = 1 := rfl
  (repeat' (first|refine stp ?_|with_reducible(refine brr ?_ ?_<;>intro h)));all_goals try(conv=>whnf)
  refine loopV_kept hT (fun ((i, O, c) : Nat × List Int × Nat) => [(0, encN xs), (1, .int .i64 1), (5, .own 0 0 i), (6, .int .u64 c), (7, .int .i64 i)]) (fun (_, O, _) => [(0, ⟨O.map (.int .u32), 1, false⟩)]) [] 1
    (fun (i, O, c) => O.length = i ∧ i ≤ xs.length ∧ okN O ∧ c < 2 ∧ nv O + pw i * c = 2 * nk xs i) (fun (i, _, _) => xs.length - i) (0, [], 0) ⟨rfl, by omega, okN_nil, by omega, by rw [nk_zero]; rfl⟩ (by decide) (by simp) ?_ ?_
  · exact ⟨[_], [], [], [], ⟨trivial, trivial, trivial⟩, ⟨at_imm rfl rfl, at_int rfl rfl, at_own (by decide) rfl rfl, at_int rfl rfl, at_int rfl rfl, trivial⟩, ⟨blk_row (by decide) rfl rfl (by simp) rfl, trivial⟩, by simp [ren]⟩
  intro ⟨i, O, c⟩ ⟨i1, i2, i3, i4, i5⟩
  have b1 := lb_lt hx i
  have hXi : i < xs.length → xs[i]! = (lb xs i : Int) := fun h => (lb_get h hx).symm
  (repeat' (first|refine stp ?_|with_reducible(refine brr ?_ ?_<;>intro h)));all_goals try(conv=>whnf)
  · have hx1 := hXi (by omega)
    have e2 : shl2 .u64 1 = 2 := by rw [shl2_64 (by decide)]; rfl
    have eo : bitF .or .u64 (c : Int) ((lb xs i : Int) * 2) = ((2 * lb xs i + c : Nat) : Int) := by
      have := bitF_or64' (a := lb xs i) (b := c) (i := 1) (by omega) (by omega)
      rw [show ((2 ^ 1 * lb xs i : Nat) : Int) = (lb xs i : Int) * 2 by omega] at this
      rw [this]
    rw [hx1, em, e2]
    obtain ⟨c', y, e1, e3⟩ : ∃ c' y, 2 * lb xs i + c = c' * 4294967296 + y ∧ y < 4294967296 := ⟨(2 * lb xs i + c) / 4294967296, (2 * lb xs i + c) % 4294967296, by omega, by omega⟩
    refine ov_u64 (by omega) ?_
    (repeat' (first|refine stp ?_|with_reducible(refine brr ?_ ?_<;>intro h)));all_goals try(conv=>whnf)
    rw [eo]
    refine ov_m32 ?_
    (repeat' (first|refine stp ?_|with_reducible(refine brr ?_ ?_<;>intro h)));all_goals try(conv=>whnf)
    refine ⟨(i + 1, O ++ [(y : Int)], c'), ⟨⟨by simp [i1], by omega, okN_snoc i3 e3, by omega, ?_⟩, by show xs.length - (i + 1) < xs.length - i; omega⟩, [_], [], [], [], ⟨trivial, trivial, trivial⟩,
      ⟨at_imm rfl rfl, at_int rfl rfl, at_own (by decide) rfl (by simp), at_int rfl (by rw [fdiv_32]; omega), at_int rfl (by omega), trivial⟩, ⟨blk_row (by decide) rfl (by simp; omega) (nr_map fun _ => ⟨rfl, by simp⟩) rfl, trivial⟩, by simp [ren]⟩
    rw [nv_snoc i1, nk_succ, pw_succ]
    have : pw i * c + pw i * (2 * lb xs i) = 4294967296 * pw i * c' + pw i * y := by
      rw [← Nat.mul_add, Nat.mul_comm 4294967296, Nat.mul_assoc, ← Nat.mul_add]
      congr 1
      omega
    rw [Nat.mul_left_comm] at this
    omega
  · have hi : i = xs.length := by omega
    have hv : nv (O ++ [(c : Int)]) = 2 * nv xs := by rw [nv_snoc i1, i5, nk_all (by omega)]
    have cm := c_rnmake (O ++ [(c : Int)]) (okN_snoc i3 (by omega)) (by simp; omega)
    rw [hv] at cm
    refine callV_data cm (mapF_cons (frz_own_map rfl (by simp) (by simp [i1]) (fun x => frz_u32 x)) rfl) ?_
    (repeat' (first|refine stp ?_|with_reducible(refine brr ?_ ?_<;>intro h)));all_goals try(conv=>whnf)
    exact givesV_to rfl rfl
end Go.PI.Try
namespace Go.PI.Try
set_option linter.unnecessarySimpa false
open Go.Proofs Go.PI
set_option linter.unusedSimpArgs false
set_option linter.unusedVariables false
theorem bits_lt (N : Nat) : ∃ m : Nat, bitsV N = m ∧ N < 2 ^ m ∧ m ≤ 32 * (lims N).length := by
  unfold bitsV
  by_cases h : N = 0
  · subst h; exact ⟨0, rfl, by decide, by simp⟩
  · rw [if_neg h]
    have hn : lims N ≠ [] := fun e => h (lims_nil e)
    have hl : 0 < (lims N).length := List.length_pos_iff.2 hn
    have ho := lims_ok N
    obtain ⟨L, hL⟩ : ∃ L, (lims N).length = L + 1 := ⟨(lims N).length - 1, by omega⟩
    rw [hL]
    have hlt := lb_lt ho L
    have hb := bl_bounds 32 _ hlt (by decide)
    refine ⟨32 * L + bl (lb (lims N) L), by simp, ?_, by omega⟩
    have e : N = nk (lims N) L + pw L * lb (lims N) L := by rw [← nk_succ, nk_all (by omega), nv_lims]
    have h1 := nk_lt ho L
    rw [Nat.pow_add, ← pw_two]
    have h2 := Nat.mul_le_mul_left (pw L) (show lb (lims N) L + 1 ≤ 2 ^ bl (lb (lims N) L) by omega)
    rw [Nat.mul_add] at h2
    omega
theorem ok_rndivmod : FnOk Try.prog 100 Try.f100 (Try.f100.body.getD .skip) [.tmp 4, .tmp 5, .tmp 6] 89 := ⟨Try.func100, rfl, by decide, Try.ntmps100, Try.results100, by kernel_rfl, by kernel_rfl⟩
theorem c_rndivmod (xs ys : List Int) (hx : okN xs) (hy : okN ys) (hl : xs.length < 2147483636) (hl2 : ys.length < 2147483636) : Fn 100 [encN xs, encN ys] (.data (.tup [encN (lims (nv xs / nv ys)), encN (if nv ys = 0 then [] else lims (nv xs % nv ys)), .int .i64 (if nv ys = 0 then 3 else 0)])) := by
  have cu1 := c_rnuint xs hx (by omega)
  have cu2 := c_rnuint ys hy (by omega)
  have cb := c_rnbits xs hx (by omega)
  obtain ⟨m0, em, hm1, hm2⟩ := bits_lt (nv xs)
  rw [em] at cb
  have hm3 : m0 ≤ 32 * xs.length := by have := lims_len_nv hx; omega
  refine fnC_v hmix hT ok_rndivmod (by simp) ?_
  (repeat' (first|refine stp ?_|with_reducible(refine brr ?_ ?_<;>intro h)));all_goals try(conv=>whnf)
  by_cases k1 : nv xs < 18446744073709551616 <;> by_cases k2 : nv ys < 18446744073709551616
  all_goals first | rw [if_pos k1] at cu1 | rw [if_neg k1] at cu1
  all_goals first | rw [if_pos k2] at cu2 | rw [if_neg k2] at cu2
  all_goals (refine callV_data cu1 rfl ?_; (repeat' (first|refine stp ?_|with_reducible(refine brr ?_ ?_<;>intro h)));all_goals try(conv=>whnf))
  all_goals (refine callV_data cu2 rfl ?_; (repeat' (first|refine stp ?_|with_reducible(refine brr ?_ ?_<;>intro h)));all_goals try(conv=>whnf))
  · have h0 : nv ys = 0 := by omega
    refine givesV_to rfl ?_
    rw [h0, Nat.div_zero, if_pos rfl, if_pos rfl]; rfl
  · have h0 : nv ys ≠ 0 := by omega
    obtain ⟨q, hq⟩ : ∃ q, q = nv xs / nv ys := ⟨_, rfl⟩
    obtain ⟨r, hr⟩ : ∃ r, r = nv xs % nv ys := ⟨_, rfl⟩
    have e1 : (nv xs : Int).tdiv (nv ys) = (q : Int) := by rw [hq]; exact (Int.ofNat_tdiv ..).symm
    have e2 : (nv xs : Int).tmod (nv ys) = (r : Int) := by rw [hr]; exact (Int.ofNat_tmod ..).symm
    have b1 : q ≤ nv xs := hq ▸ Nat.div_le_self ..
    have b2 : r ≤ nv xs := hr ▸ Nat.mod_le ..
    rw [e1]
    refine ov_u64 (by omega) ?_
    (repeat' (first|refine stp ?_|with_reducible(refine brr ?_ ?_<;>intro h)));all_goals try(conv=>whnf)
    refine callV_data (c_rnof _ (by omega)) rfl ?_
    (repeat' (first|refine stp ?_|with_reducible(refine brr ?_ ?_<;>intro h)));all_goals try(conv=>whnf)
    rw [e2]
    refine callV_data (c_rnof _ (by omega)) rfl ?_
    (repeat' (first|refine stp ?_|with_reducible(refine brr ?_ ?_<;>intro h)));all_goals try(conv=>whnf)
    refine givesV_to rfl ?_
    rw [if_neg h0, if_neg h0, ← hq, ← hr]
  rotate_left
  · have h0 : nv ys = 0 := by omega
    refine givesV_to rfl ?_
    rw [h0, Nat.div_zero, if_pos rfl, if_pos rfl]; rfl
  all_goals
    have hM : nv ys ≠ 0 := by omega
    refine callV_data cb rfl ?_
    (repeat' (first|refine stp ?_|with_reducible(refine brr ?_ ?_<;>intro h)));all_goals try(conv=>whnf)
    refine loopV_kept hT (fun ((m, Q, q, R) : Nat × List Int × Nat × Nat) => [(0, encN xs), (1, encN ys), (11, .own 0 0 xs.length), (12, encN (lims R)), (13, .int .i64 ((m : Int) - 1))]) (fun (_, Q, _) => [(0, ⟨Q.map (.int .u32), 1, false⟩)]) [] 1
      (fun (m, Q, q, R) => m ≤ 32 * xs.length ∧ Q.length = xs.length ∧ okN Q ∧ nv Q = 2 ^ m * q ∧ nv xs / 2 ^ m = q * nv ys + R ∧ R < nv ys) (fun (m, _) => m) (m0, List.replicate xs.length 0, 0, 0) ⟨hm3, by simp, okN_zeros _, by rw [nv_zeros]; rfl, by rw [Nat.div_eq_of_lt hm1]; simp, by omega⟩ (by decide) (by simp) ?_ ?_
    · exact ⟨[28], [29], [(12, encN (lims 0))], [], ⟨⟨⟨_, rfl⟩, trivial⟩, ⟨⟨4, [29], frz_own_map (f := PV.int .u32) (l := []) rfl rfl rfl (fun x => frz_u32 x), rfl⟩, trivial⟩, trivial⟩,
        ⟨at_imm rfl rfl, at_imm rfl rfl, at_own (by decide) rfl (by simp only [List.length_map]; omega), at_imm rfl rfl, at_int rfl rfl, trivial⟩, ⟨blk_row (by decide) rfl (rep_to (f := PV.int .u32) (x := 0) (by simp only [List.length_map]; omega)) (nr_map fun _ => ⟨rfl, by simp⟩) rfl, trivial⟩, by simp [ren]⟩
    intro ⟨m, Q, q, R⟩ ⟨i1, i2, i3, i4, i5, i6⟩
    have hR : R < pw ys.length := Nat.lt_trans i6 (nv_lt hy)
    have hRl := lims_len hR
    (repeat' (first|refine stp ?_|with_reducible(refine brr ?_ ?_<;>intro h)));all_goals try(conv=>whnf)
    · have hm : 1 ≤ m := by omega
      obtain ⟨j, hj⟩ : ∃ j, j = (m - 1) / 32 := ⟨_, rfl⟩
      obtain ⟨s, hs⟩ : ∃ s, s = (m - 1) % 32 := ⟨_, rfl⟩
      have e3 : ((m : Int) - 1).tdiv 32 = (j : Int) := by rw [Int.tdiv_eq_ediv_of_nonneg (by omega)]; omega
      have e4 : ((m : Int) - 1).tmod 32 = (s : Int) := by rw [Int.tmod_eq_emod_of_nonneg (by omega)]; omega
      have c1 := c_rnshl (lims R) (lims_ok R) (by omega)
      rw [nv_lims] at c1
      refine callV_data c1 rfl ?_
      (repeat' (first|refine stp ?_|with_reducible(refine brr ?_ ?_<;>intro h)));all_goals try(conv=>whnf)
      have b := lb_lt hx j
      have hj2 : j < xs.length := by omega
      have hg := lb_get hj2 hx
      refine oK_map' (j := j) (by rw [e3]) (by omega) ?_
      obtain ⟨bit, hbit⟩ : ∃ bit, bit = nv xs / 2 ^ (m - 1) % 2 := ⟨_, rfl⟩
      have hb2 : bit < 2 := by omega
      have hs2 : s < 32 := by omega
      have eb : bitF .and .u32 ((xs[j]!).fdiv (shl2 .u32 (((m : Int) - 1).tmod 32))) 1 = (bit : Int) := by
        rw [e4, ← hg, shl2_32u (by omega), show ((2 : Int) ^ ((s : Int).toNat)) = ((2 ^ s : Nat) : Int) by simp, Int.fdiv_eq_ediv_of_nonneg _ (Int.natCast_nonneg _), ← Int.natCast_ediv, bitF_and1 (Nat.lt_of_le_of_lt (Nat.div_le_self ..) b), hbit, bit_of hx, ← hj, ← hs]
      have hp1 : pw (ys.length + 1) = 4294967296 * pw ys.length := pw_succ _
      have hl1 : (lims (2 * R)).length ≤ ys.length + 1 := lims_len (by omega)
      have ca := c_rnadd (lims (2 * R)) [(bit : Int)] (lims_ok _) (okN_cons.2 ⟨by omega, okN_nil⟩) (by omega) (by simp)
      rw [nv_lims, show nv [(bit : Int)] = bit by simp [nv]] at ca
      obtain ⟨X, hX⟩ : ∃ X, X = 2 * R + bit := ⟨_, rfl⟩
      rw [← hX] at ca
      have hl3 : (lims X).length ≤ ys.length + 1 := lims_len (by omega)
      have cc := c_rncmp (lims X) ys (lims_ok _) hy (by omega) (by omega)
      have cs := c_rnsub (lims X) ys (lims_ok _) hy (by omega) (by omega)
      rw [nv_lims] at cc cs
      have h5 : nv xs / 2 ^ (m - 1) = 2 * (nv xs / 2 ^ m) + bit := by
        have : 2 ^ m = 2 ^ (m - 1) * 2 := by rw [← Nat.pow_succ]; congr 1; omega
        rw [this, ← Nat.div_div_eq_div_mul]; omega
      rw [i5, Nat.mul_add, ← Nat.mul_assoc] at h5
      have h4 : nv Q = 2 ^ (m - 1) * (2 * q) := by
        have : 2 ^ m = 2 ^ (m - 1) * 2 := by rw [← Nat.pow_succ]; congr 1; omega
        rw [i4, this, Nat.mul_assoc]
      (repeat' (first|refine stp ?_|with_reducible(refine brr ?_ ?_<;>intro h)));all_goals try(conv=>whnf)
      refine callV_data ca (mapF_cons rfl (mapF_cons (frz_own_map rfl (by rw [eb]; rfl) rfl (fun x => frz_u32 x)) rfl)) ?_
      (repeat' (first|refine stp ?_|with_reducible(refine brr ?_ ?_<;>intro h)));all_goals try(conv=>whnf)
      refine callV_data cc rfl ?_
      (repeat' (first|refine stp ?_|with_reducible(refine brr ?_ ?_<;>intro h)));all_goals try(conv=>whnf)
      · have hge : nv ys ≤ X := by have := (cmpI_lt X (nv ys)); omega
        unfold subR at cs
        rw [if_neg (by omega)] at cs
        refine callV_data cs rfl ?_
        (repeat' (first|refine stp ?_|with_reducible(refine brr ?_ ?_<;>intro h)));all_goals try(conv=>whnf)
        obtain ⟨c, hc⟩ := limb_dvd (i := m - 1) (q := q) i3 (by rw [Nat.sub_add_cancel hm]; exact i4)
        rw [← hj, ← hs] at hc
        have bQ := lb_lt i3 j
        have hgQ := lb_get (show j < Q.length by omega) i3
        have ho := limb_or (s := s) (c := c) hs2 (by omega)
        refine oK_atN j (by rw [e3]; simp) (by omega) ?_
        (repeat' (first|refine stp ?_|with_reducible(refine brr ?_ ?_<;>intro h)));all_goals try(conv=>whnf)
        obtain ⟨p, hp⟩ : ∃ p, p = 2 ^ s := ⟨_, rfl⟩
        rw [← hp] at ho
        have es : (1 : Int) * shl2 .u32 (((m : Int) - 1).tmod 32) = (p : Int) := by rw [e4, shl2_32u (by omega), hp]; simp
        have eo : bitF .or .u32 (Q[j]!) (p : Int) = ((lb Q j + p : Nat) : Int) := by rw [← hgQ, hc]; exact ho.1
        rw [← hc] at ho
        have hQ' : nv (Q.set j ((lb Q j + p : Nat) : Int)) = 2 ^ (m - 1) * (2 * q + 1) := by
          have h6 := nv_set (a := Q) (j := j) ((lb Q j + p : Nat) : Int) (by omega)
          rw [Int.toNat_natCast, Nat.mul_add] at h6
          have h7 : pw j * p = 2 ^ (m - 1) := by rw [pw_two, hp, ← Nat.pow_add]; congr 1; omega
          rw [h7] at h6
          rw [Nat.mul_add, Nat.mul_one, ← h4]
          omega
        have hok' : okN (Q.set j ((lb Q j + p : Nat) : Int)) := okN_set i3 j ⟨by omega, by omega⟩
        rw [es]
        refine ov_u32 (by omega) ?_
        (repeat' (first|refine stp ?_|with_reducible(refine brr ?_ ?_<;>intro h)));all_goals try(conv=>whnf)
        refine oK_atN j (by rw [e3]; simp) (by omega) ?_
        (repeat' (first|refine stp ?_|with_reducible(refine brr ?_ ?_<;>intro h)));all_goals try(conv=>whnf)
        exact ⟨(m - 1, Q.set j ((lb Q j + p : Nat) : Int), 2 * q + 1, X - nv ys), ⟨⟨by omega, by simp [i2], hok', hQ', by rw [Nat.add_mul]; omega, by omega⟩, by show m - 1 < m; omega⟩, [_], [], [], [], ⟨trivial, trivial, trivial⟩,
          ⟨at_imm rfl rfl, at_imm rfl rfl, at_own (by decide) rfl rfl, at_imm rfl rfl, at_int rfl (by omega), trivial⟩, ⟨blk_row (by decide) rfl (set_to (by rw [e3]; simp) eo) (nr_map fun _ => ⟨rfl, by simp⟩) rfl, trivial⟩, by simp [ren]⟩
      · have hge : X < nv ys := by have := (cmpI_lt X (nv ys)); omega
        exact ⟨(m - 1, Q, 2 * q, X), ⟨⟨by omega, i2, i3, h4, by omega, hge⟩, by show m - 1 < m; omega⟩, [_], [], [], [], ⟨trivial, trivial, trivial⟩,
          ⟨at_imm rfl rfl, at_imm rfl rfl, at_own (by decide) rfl rfl, at_imm rfl rfl, at_int rfl (by omega), trivial⟩, ⟨blk_row (by decide) rfl rfl (nr_map fun _ => ⟨rfl, by simp⟩) rfl, trivial⟩, by simp [ren]⟩
    · have h0 : m = 0 := by omega
      subst h0
      have cm := c_rnmake Q i3 (by omega)
      rw [Nat.pow_zero, Nat.div_one] at i5
      rw [Nat.pow_zero, Nat.one_mul] at i4
      refine callV_data cm (mapF_cons (frz_own_map rfl rfl (by omega) (fun x => frz_u32 x)) rfl) ?_
      (repeat' (first|refine stp ?_|with_reducible(refine brr ?_ ?_<;>intro h)));all_goals try(conv=>whnf)
      refine givesV_to rfl ?_
      have e1 : nv xs / nv ys = nv Q := by rw [i5, i4, Nat.mul_comm, Nat.mul_add_div (by omega), Nat.div_eq_of_lt i6]; rfl
      have e2 : nv xs % nv ys = R := by rw [i5, Nat.mul_comm, Nat.mul_add_mod, Nat.mod_eq_of_lt i6]
      rw [if_neg hM, if_neg hM, e1, e2]
end Go.PI.Try
namespace Go.PI.Try
set_option linter.unnecessarySimpa false
open Go.Proofs Go.PI
set_option linter.unusedSimpArgs false
set_option linter.unusedVariables false
theorem ok_rngcd : FnOk Try.prog 99 Try.f99 (Try.f99.body.getD .skip) [.tmp 4] 25 := ⟨Try.func99, rfl, by decide, Try.ntmps99, Try.results99, by kernel_rfl, by kernel_rfl⟩
theorem c_rngcd (xs ys : List Int) (hx : okN xs) (hy : okN ys) (hl : xs.length < 2147483636) (hl2 : ys.length < 2147483636) : Fn 99 [encN xs, encN ys] (.data (encN (lims (Nat.gcd (nv xs) (nv ys))))) := by
  have ct1 := c_rnmake xs hx (by omega)
  have ct2 := c_rnmake ys hy (by omega)
  have h1 := lims_len_nv hx
  have h2 := lims_len_nv hy
  generalize nv xs = P0 at *
  generalize nv ys = Q0 at *
  obtain ⟨g, eg⟩ : ∃ g, Nat.gcd P0 Q0 = g := ⟨_, rfl⟩
  rw [eg]
  refine fnC_v hmix hT ok_rngcd (by simp) ?_
  (repeat' (first|refine stp ?_|with_reducible(refine brr ?_ ?_<;>intro h)));all_goals try(conv=>whnf)
  refine callV_data ct1 rfl ?_
  (repeat' (first|refine stp ?_|with_reducible(refine brr ?_ ?_<;>intro h)));all_goals try(conv=>whnf)
  refine callV_data ct2 rfl ?_
  (repeat' (first|refine stp ?_|with_reducible(refine brr ?_ ?_<;>intro h)));all_goals try(conv=>whnf)
  refine loopV_slots hT (fun ((P, Q) : Nat × Nat) => [(0, encN (lims P)), (1, encN (lims Q))]) (fun (P, Q) => Nat.gcd P Q = g ∧ (lims P).length < 2147483636 ∧ (lims Q).length < 2147483636) (fun (_, Q) => Q) (P0, Q0) ⟨eg, by omega, by omega⟩ ?_ ?_
  · exact ⟨at_imm rfl rfl, at_imm rfl rfl, trivial⟩
  intro ⟨P, Q⟩ ⟨i1, i2, i3⟩
  have cd := c_rndivmod (lims P) (lims Q) (lims_ok P) (lims_ok Q) i2 i3
  rw [nv_lims, nv_lims] at cd
  (repeat' (first|refine stp ?_|with_reducible(refine brr ?_ ?_<;>intro h)));all_goals try(conv=>whnf)
  · have hQ : Q ≠ 0 := fun e => by subst e; rw [lims_zero] at h; simp at h
    rw [if_neg hQ, if_neg hQ] at cd
    refine callV_data cd rfl ?_
    (repeat' (first|refine stp ?_|with_reducible(refine brr ?_ ?_<;>intro h)));all_goals try(conv=>whnf)
    have hm := Nat.mod_lt P (show Q > 0 by omega)
    have hml := lims_len_le (Nat.le_of_lt hm)
    exact ⟨(Q, P % Q), ⟨⟨by rw [gcd_step]; exact i1, i3, by omega⟩, hm⟩, at_imm rfl rfl, at_imm rfl rfl, trivial⟩
  · have hQ : Q = 0 := lims_nil (List.length_eq_zero_iff.1 (by omega))
    subst hQ
    rw [Nat.gcd_zero_right] at i1
    subst i1
    exact givesV_to rfl rfl
end Go.PI.Try
