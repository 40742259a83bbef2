/-
  Searching and comparing lists: slices.IndexFunc, ContainsFunc, Equal, EqualFunc; equality of forms on both sides.
-/
import Derived.Test.YtiiibhgnmlmoaaaCLB
import Derived.Test.YtiiibhgnmlmoaaaCRC
import Derived.Test.YtiiibhgnmlmoaaaCPD
namespace Go.PI.Try
set_option linter.unnecessarySimpa false
open Go.Proofs Go.PI
set_option linter.unusedSimpArgs false
set_option linter.unusedVariables false
theorem ok_qmax : FnOk Try.prog 50 Try.f50 (Try.f50.body.getD .skip) [.cell 4 42] 13 := ⟨Try.func50, rfl, by decide, Try.ntmps50, Try.results50, by kernel_rfl, by kernel_rfl⟩
theorem c_qmax (x y : RatL) (k : Nat) (hx : okQ k x) (hy : okQ k y) (hk : k ≤ 949999990) : Fn 50 [encRat x, encRat y] (.data (encRat (cr (maxQ (qv x) (qv y))))) := by
  have hx2 := hx.2
  have hy2 := hy.2
  have cc := c_qcmp x y hx.1 hy.1 (by omega) (by omega) (by omega) (by omega)
  have c1 := c_qcanon x hx.1 (by omega) (by omega)
  have c2 := c_qcanon y hy.1 (by omega) (by omega)
  have hs := sgn_ge (a := qv x) (b := qv y)
  refine fnC_v hmix hT ok_qmax (by simp [encRat]) ?_
  (repeat' (first|refine stp ?_|with_reducible(refine brr ?_ ?_<;>intro h)));all_goals try(conv=>whnf)
  refine callV_data cc rfl ?_
  (repeat' (first|refine stp ?_|with_reducible(refine brr ?_ ?_<;>intro h)));all_goals try(conv=>whnf)
  · refine callV_data c1 rfl ?_
    (repeat' (first|refine stp ?_|with_reducible(refine brr ?_ ?_<;>intro h)));all_goals try(conv=>whnf)
    rw [show maxQ (qv x) (qv y) = qv x from if_pos (hs.1 (by omega))]
    exact givesV_to rfl rfl
  · refine callV_data c2 rfl ?_
    (repeat' (first|refine stp ?_|with_reducible(refine brr ?_ ?_<;>intro h)));all_goals try(conv=>whnf)
    rw [show maxQ (qv x) (qv y) = qv y from if_neg (fun e => by have := hs.2 e; omega)]
    exact givesV_to rfl rfl
end Go.PI.Try
namespace Go.PI.Try
set_option linter.unnecessarySimpa false
open Go.Proofs Go.PI
set_option linter.unusedSimpArgs false
set_option linter.unusedVariables false
theorem lt_succ_cases {j n : Nat} {p : Nat → Prop} (h : ∀ j, j < n → p j) (hn : p n) (hj : j < n + 1) : p j := by
  rcases Nat.lt_or_eq_of_le (Nat.le_of_lt_succ hj) with hj | rfl
  · exact h j hj
  · exact hn
theorem get_mem {α : Type} [Inhabited α] {l : List α} {i : Nat} (h : i < l.length) : l[i]! ∈ l := by rw [getElem!_pos l i h]; exact List.getElem_mem h
instance : LawfulBEq AffL := inferInstance
def valAll (l : List AffL) (n : Int) : Prop := ∀ i, i < l.length → ValidF l[i]! n
/-- Where the first form is that a test accepts. -/
def ixP (p : AffL → Bool) (l : List AffL) : Int := if l.any p then (l.findIdx p : Nat) else -1
theorem ix_hit {p : AffL → Bool} {l : List AffL} {i : Nat} (hi : i < l.length) (h : p l[i]! = true) (hb : ∀ j, j < i → p l[j]! = false) : (i : Int) = ixP p l := by
  have h1 : l.any p = true := List.any_eq_true.2 ⟨_, get_mem hi, h⟩
  have h2 : l.findIdx p = i := (List.findIdx_eq hi).2 ⟨by rw [getElem!_pos l i hi] at h; exact h, fun j hj => by have := hb j hj; rw [getElem!_pos l j (by omega)] at this; exact this⟩
  unfold ixP; rw [if_pos h1, h2]
theorem ix_end {p : AffL → Bool} {l : List AffL} (hb : ∀ j, j < l.length → p l[j]! = false) : -1 = ixP p l := by
  have h1 : ¬ l.any p = true := fun e => by
    obtain ⟨x, hx, e⟩ := List.any_eq_true.1 e
    obtain ⟨j, hj, rfl⟩ := List.getElem_of_mem hx
    have := hb j hj
    rw [getElem!_pos l j hj, e] at this; cases this
  unfold ixP; rw [if_neg h1]
theorem ix_ge {p : AffL → Bool} {l : List AffL} : decide (ixP p l ≥ 0) = l.any p := by
  unfold ixP; split
  · rename_i h; rw [h]; simp
  · rename_i h; simp at h; simp; exact h
theorem ixP_ge {p : AffL → Bool} {l : List AffL} : -1 ≤ ixP p l ∧ ixP p l ≤ l.length := by
  unfold ixP; split
  · have := List.findIdx_le_length (p := p) (xs := l); omega
  · omega
theorem ok_indexf : FnOk Try.prog 64 Try.f64 (Try.f64.body.getD .skip) [.tmp 4] 19 := ⟨Try.func64, rfl, by decide, Try.ntmps64, Try.results64, by kernel_rfl, by kernel_rfl⟩
theorem c_indexf (l : List AffL) (p : AffL → Bool) (g : FuncId) (c : PV) (hl : l.length ≤ 1048576) (hp : ∀ f ∈ l, Fn g [encAff f, .cptr c 0] (.data (.bool (p f)))) : Fn 64 [.imm (l.map encAff), .func (.func g) [] [.cptr c 0]] (.data (.int .i64 (ixP p l))) := by
  refine fnC_v hmix hT ok_indexf (by simp) ?_
  (repeat' (first|refine stp ?_|with_reducible(refine brr ?_ ?_<;>intro h)));all_goals try(conv=>whnf)
  refine loopV_slots hT (fun n : Nat => [(0, .imm (l.map encAff)), (1, .func (.func g) [] [.cptr c 0]), (7, .int .i64 l.length), (8, .int .i64 n)]) (fun n => n ≤ l.length ∧ ∀ j, j < n → p l[j]! = false) (fun n => l.length - n) 0 ⟨by omega, fun j hj => by omega⟩ ?_ ?_
  · exact ⟨at_imm rfl rfl, at_fun1c rfl, at_int rfl (by simp), at_int rfl rfl, trivial⟩
  intro n ⟨hn, he⟩
  by_cases hi : n < l.length
  · have cc := hp l[n]! (get_mem hi)
    (repeat' (first|refine stp ?_|with_reducible(refine brr ?_ ?_<;>intro h)));all_goals try(conv=>whnf)
    · refine callV_data cc rfl ?_
      (repeat' (first|refine stp ?_|with_reducible(refine brr ?_ ?_<;>intro h)));all_goals try(conv=>whnf)
      · exact givesV_to rfl (congrArg (PV.int .i64) (ix_hit hi h he))
      · exact ⟨n + 1, ⟨⟨by omega, fun j hj => lt_succ_cases (p := fun j => p l[j]! = false) he (by simpa using h) hj⟩, by omega⟩, at_imm rfl rfl, at_fun1c rfl, at_int rfl rfl, at_int rfl (by omega), trivial⟩
    all_goals (exfalso; omega)
  · (repeat' (first|refine stp ?_|with_reducible(refine brr ?_ ?_<;>intro h)));all_goals try(conv=>whnf)
    all_goals try (exfalso; omega)
    exact givesV_to rfl (congrArg (PV.int .i64) (ix_end fun j hj => he j (by omega)))
theorem ok_containsf : FnOk Try.prog 46 Try.f46 (Try.f46.body.getD .skip) [.tmp 4] 9 := ⟨Try.func46, rfl, by decide, Try.ntmps46, Try.results46, by kernel_rfl, by kernel_rfl⟩
theorem c_containsf (l : List AffL) (p : AffL → Bool) (g : FuncId) (c : PV) (hl : l.length ≤ 1048576) (hp : ∀ f ∈ l, Fn g [encAff f, .cptr c 0] (.data (.bool (p f)))) : Fn 46 [.imm (l.map encAff), .func (.func g) [] [.cptr c 0]] (.data (.bool (l.any p))) := by
  have cc := c_indexf l p g c hl hp
  have hg := ixP_ge (p := p) (l := l)
  refine fnC_v hmix hT ok_containsf (by simp) ?_
  (repeat' (first|refine stp ?_|with_reducible(refine brr ?_ ?_<;>intro h)));all_goals try(conv=>whnf)
  refine callV_data cc rfl ?_
  (repeat' (first|refine stp ?_|with_reducible(refine brr ?_ ?_<;>intro h)));all_goals try(conv=>whnf)
  exact givesV_to rfl (congrArg PV.bool ix_ge)
end Go.PI.Try
