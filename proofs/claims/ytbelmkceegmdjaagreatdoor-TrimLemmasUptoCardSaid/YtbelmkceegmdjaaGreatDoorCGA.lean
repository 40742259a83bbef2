/-
  Regions: Valid, Box, empty, Contains, Within of the program.
-/
import Derived.Test.YtbelmkceegmdjaaGreatDoorCLB
import Derived.Test.YtbelmkceegmdjaaGreatDoorCRC
import Derived.Test.YtbelmkceegmdjaaGreatDoorCPD
import Derived.Test.YtbelmkceegmdjaaGreatDoorCPE
set_option linter.unusedVariables false
set_option linter.unusedSimpArgs false
set_option linter.unnecessarySimpa false
namespace Go.PI.Tryz
open Go.Proofs Go.PI
theorem zBO {j n : Nat} {p : Nat → Prop} (h : ∀ j, j < n → p j) (hn : p n) (hj : j < n + 1) : p j := by
 rcases Nat.lt_or_eq_of_le (Nat.le_of_lt_succ hj) with hj | rfl
 ·exact h j hj
 ·exact hn
theorem get_mem {α : Type} [Inhabited α] {l : List α} {i : Nat} (h : i < l.length) : l[i]! ∈ l := by rw [getElem!_pos l i h]; exact List.getElem_mem h
instance : LawfulBEq AffL := inferInstance
def uE1 (l : List AffL) (n : Int) : Prop := ∀ i, i < l.length → vCC l[i]! n
def ixP (p : AffL → Bool) (l : List AffL) : Int := if l.any p then (l.findIdx p : Nat) else -1
theorem uGP {p : AffL → Bool} {l : List AffL} {i : Nat} (hi : i < l.length) (h : p l[i]! = true) (hb : ∀ j, j < i → p l[j]! = false) : (i : Int) = ixP p l := by
 have h1 : l.any p = true := List.any_eq_true.2 ⟨_, get_mem hi, h⟩;have h2 : l.findIdx p = i := (List.findIdx_eq hi).2 ⟨by rw [getElem!_pos l i hi] at h; exact h, fun j hj => by have := hb j hj; rw [getElem!_pos l j (by omega)] at this; exact this⟩;unfold ixP; rw [if_pos h1, h2]
theorem uGQ {p : AffL → Bool} {l : List AffL} (hb : ∀ j, j < l.length → p l[j]! = false) : -1 = ixP p l := by
 have h1 : ¬ l.any p = true := fun e => by
  obtain ⟨x, hx, e⟩ := List.any_eq_true.1 e;obtain ⟨j, hj, rfl⟩ := List.getElem_of_mem hx;have := hb j hj;rw [getElem!_pos l j hj, e] at this; cases this
 unfold ixP; rw [if_neg h1]
theorem uJD {p : AffL → Bool} {l : List AffL} : decide (ixP p l ≥ 0) = l.any p := by
 unfold ixP; split
 ·rename_i h; rw [h]; simp
 ·rename_i h; simp at h; simp; exact h
theorem uGR {p : AffL → Bool} {l : List AffL} : -1 ≤ ixP p l ∧ ixP p l ≤ l.length := by
 unfold ixP; split
 ·have := List.findIdx_le_length (p := p) (xs := l); omega
 ·omega
theorem vTI : FO 130 Tryz.f130 [.tmp 4] 19 := mkO Tryz.func130 Tryz.ntmps130 Tryz.results130
theorem vZG (l : List AffL) (p : AffL → Bool) (g : FuncId) (c : PV) (hl : l.length ≤ 1048576) (hp : ∀ f ∈ l, Fn g [vBR f, .cptr c 0] (.data (.bool (p f)))) : Fn 130 [.imm (l.map vBR), .func (.func g) [] [.cptr c 0]] (.data (.int .i64 (ixP p l))) := by
 refine zAO vBC hT vTI (by simp) ?_;refine sts ?_;refine zBB hT (fun n : Nat => [(0, .imm (l.map vBR)), (1, .func (.func g) [] [.cptr c 0]), (7, .int .i64 l.length), (8, .int .i64 n)]) (fun n => n ≤ l.length ∧ ∀ j, j < n → p l[j]! = false) (fun n => l.length - n) 0 ⟨by omega, fun j hj => by omega⟩ ?_ ?_
 ·exact ⟨zAE rfl rfl, vOO rfl, zAC rfl (by simp), zAC rfl rfl, trivial⟩
 intro n ⟨hn, he⟩;by_cases hi : n < l.length
 ·have cc := hp l[n]! (get_mem hi)
  (repeat' (first|refine stp ?_|with_reducible(refine brr ?_ ?_<;>intro h)));all_goals try(conv=>whnf)
  ·refine zAA cc rfl ?_
   (repeat' (first|refine stp ?_|with_reducible(refine brr ?_ ?_<;>intro h)));all_goals try(conv=>whnf)
   ·exact zAB rfl (congrArg (PV.int .i64) (uGP hi h he))
   ·exact ⟨n + 1, ⟨⟨by omega, fun j hj => zBO (p := fun j => p l[j]! = false) he (by simpa using h) hj⟩, by omega⟩, zAE rfl rfl, vOO rfl, zAC rfl rfl, zAC rfl (by omega), trivial⟩
  all_goals (exfalso; omega)
 ·(repeat' (first|refine stp ?_|with_reducible(refine brr ?_ ?_<;>intro h)));all_goals try(conv=>whnf)
  all_goals try (exfalso; omega)
  exact zAB rfl (congrArg (PV.int .i64) (uGQ fun j hj => he j (by omega)))
theorem vI0 : FO 96 Tryz.f96 [.tmp 4] 9 := mkO Tryz.func96 Tryz.ntmps96 Tryz.results96
theorem zMD (l : List AffL) (p : AffL → Bool) (g : FuncId) (c : PV) (hl : l.length ≤ 1048576) (hp : ∀ f ∈ l, Fn g [vBR f, .cptr c 0] (.data (.bool (p f)))) : Fn 96 [.imm (l.map vBR), .func (.func g) [] [.cptr c 0]] (.data (.bool (l.any p))) := by
 have cc := vZG l p g c hl hp;have hg := uGR (p := p) (l := l);refine zAO vBC hT vI0 (by simp) ?_;refine sts ?_;refine zAA cc rfl ?_;refine sts ?_;exact zAB rfl (congrArg PV.bool uJD)
theorem uCB : FO 97 Tryz.f97 [.tmp 3] 8 := mkO Tryz.func97 Tryz.ntmps97 Tryz.results97
theorem uHD (f : AffL) (n : Int) (hf : okA 2147483596 f) : Fn 97 [vBR f, .cptr (.int .i64 n) 0] (.data (.bool (!vCO f n))) := by
 have cc := zKX f n hf;refine zAO vBC hT uCB (by simp) ?_;refine sts ?_;refine zAA cc rfl ?_;refine sts ?_;exact zAB rfl rfl
theorem vPJ : FO 62 Tryz.f62 [.tmp 4] 69 := mkO Tryz.func62 Tryz.ntmps62 Tryz.results62
theorem vVA (r : RegL) (n : Int) (hr : vTL 950000000 r) : Fn 62 [vUM r, .int .i64 n] (.data (.bool (dB (VaR r n)))) := by
 obtain ⟨hlo, hhi, hrw, hrl⟩ := hr;have no : ¬ VaR r n → false = dB (VaR r n) := vUR;have l1 := hlo.1;have l2 := hhi.1;have cc := zMD r.rows (fun f => !vCO f n) 97 (.int .i64 n) hrl (fun f hf => uHD f n (zEF (by decide) (hrw f hf)));refine zAO vBC hT vPJ (by simp [vUM]) ?_
 (repeat' (first|refine stp ?_|with_reducible(refine brr ?_ ?_<;>intro h)));all_goals try(conv=>whnf)
 ·exact zAB rfl (congrArg PV.bool (no fun e => by have := e.1.1; omega))
 ·exact zAB rfl (congrArg PV.bool (no fun e => by have := e.1.2; omega))
 ·exact zAB rfl (congrArg PV.bool (no fun e => by have := e.2.1; omega))
 ·exact zAB rfl (congrArg PV.bool (no fun e => by have := e.2.2.1; omega))
 ·exact zAB rfl (congrArg PV.bool (no fun e => by have := e.2.2.2.1; omega))
 ·have h0 : (1 ≤ n ∧ n ≤ 256) ∧ (r.lo.length : Int) = n ∧ (r.hi.length : Int) = n ∧ r.rows.length ≤ 256 := ⟨⟨by omega, by omega⟩, by omega, by omega, by omega⟩
  obtain ⟨h1, h2, h3, h4⟩ := h0
  refine zA0 hT (fun (i : Nat) => [(2, .ptr 0 0 0), (3, .ptr 1 0 0), (34, .imm (r.lo.map vA8)), (35, .int .i64 r.lo.length), (36, .int .i64 i)]) (fun _ => [(0, ⟨[vUM r], 3, true⟩), (1, ⟨[.int .i64 n], 1, false⟩)]) [] 2
   (fun i => i ≤ r.lo.length ∧ ∀ j, j < i → uEP r j) (fun i => r.lo.length - i) 0 ⟨Nat.zero_le _, fun j h => (by omega)⟩ (by decide) (by simp) ?_ ?_
  ·exact ⟨[0, 1], [], [], [], ttt, ⟨apx, apx, zAE rfl rfl, zAC rfl (by simp), zAC rfl rfl, trivial⟩, ⟨bbx, bbx, trivial⟩, by simp [ren]⟩
  intro i ⟨i1, i2⟩;by_cases hi : i < r.lo.length
  ·have hi2 : i < r.hi.length := by omega
   have q1 := zG2 hlo hi;have q2 := zG2 hhi hi2;have c1 := zFZ r.lo[i]! q1.1 (by have := q1.2; omega) (by have := q1.2; omega);have c2 := zFZ r.hi[i]! q2.1 (by have := q2.2; omega) (by have := q2.2; omega);have c3 := uHF r.lo[i]! r.hi[i]! q1.1 q2.1 (by have := q1.2; omega) (by have := q1.2; omega) (by have := q2.2; omega) (by have := q2.2; omega);have hb : ¬ uEP r i → ¬ VaR r n := fun h e => h (e.2.2.2.2.1 i hi)
   (repeat' (first|refine stp ?_|with_reducible(refine brr ?_ ?_<;>intro h)));all_goals try(conv=>whnf)
   ·refine zAA c1 rfl ?_
    (repeat' (first|refine stp ?_|with_reducible(refine brr ?_ ?_<;>intro h)));all_goals try(conv=>whnf)
    rotate_left
    ·exact zAB rfl (congrArg PV.bool (no (hb fun e => h e.1)))
    ·refine zAA c2 rfl ?_
     (repeat' (first|refine stp ?_|with_reducible(refine brr ?_ ?_<;>intro h)));all_goals try(conv=>whnf)
     rotate_left
     ·exact zAB rfl (congrArg PV.bool (no (hb fun e => h e.2.1)))
     ·refine zAA c3 rfl ?_
      (repeat' (first|refine stp ?_|with_reducible(refine brr ?_ ?_<;>intro h)));all_goals try(conv=>whnf)
      ·exact zAB rfl (congrArg PV.bool (no (hb fun e => by have := sgn_le.2 e.2.2; omega)))
      ·exact ⟨i + 1, ⟨⟨by omega, fun j hj => zBO (p := fun j => uEP r j) i2 ⟨by assumption, by assumption, sgn_le.1 (by omega)⟩ hj⟩, by show r.lo.length - (i + 1) < r.lo.length - i; omega⟩, [0, 1], [], [], [], ttt, ⟨apx, apx, zAE rfl rfl, zAC rfl rfl, zAC rfl rfl, trivial⟩, ⟨bbx, bbx, trivial⟩, by simp [ren]⟩
   all_goals (exfalso; omega)
  ·(repeat' (first|refine stp ?_|with_reducible(refine brr ?_ ?_<;>intro h)));all_goals try(conv=>whnf)
   all_goals try (exfalso; omega)
   refine zAA cc rfl ?_;refine sts ?_;refine zAB rfl (congrArg PV.bool ?_)
   have hv : r.rows.any (fun f => !vCO f n) = false ↔ ∀ j, j < r.rows.length → vCC r.rows[j]! n := by
    rw [List.any_eq_false];constructor
    ·intro e j hj
     have := e _ (get_mem hj);exact validB_true.1 (by simpa using this)
    ·intro e f hf
     obtain ⟨j, hj, rfl⟩ := List.getElem_of_mem hf;have := validB_true.2 (e j hj);rw [getElem!_pos r.rows j hj] at this;simp [this]
   rw [Bool.eq_iff_iff, dB_true, Bool.not_eq_true', hv];exact ⟨fun e => ⟨h1, h2, h3, h4, fun j hj => i2 j (by omega), e⟩, fun e => e.2.2.2.2.2⟩
end Go.PI.Tryz
