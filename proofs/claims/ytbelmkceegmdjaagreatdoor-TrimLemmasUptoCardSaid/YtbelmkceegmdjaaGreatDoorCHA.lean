/-
  Graphs of the program: Valid, run, Pre.
-/
import Derived.Test.YtbelmkceegmdjaaGreatDoorCGA
import Derived.Test.YtbelmkceegmdjaaGreatDoorCRC
import Derived.Test.YtbelmkceegmdjaaGreatDoorCPE
set_option linter.unusedVariables false
set_option linter.unusedSimpArgs false
set_option linter.unnecessarySimpa false
namespace Go.PI.Tryz
open Go.Proofs Go.PI
theorem vVV {l : List AffL} {n : Int} : l.any (fun f => !vCO f n) = false ↔ ∀ j, j < l.length → vCC l[j]! n := by
 rw [List.any_eq_false];constructor
 ·intro e j hj
  have := e _ (get_mem hj);exact validB_true.1 (by simpa using this)
 ·intro e f hf
  obtain ⟨j, hj, rfl⟩ := List.getElem_of_mem hf;have := validB_true.2 (e j hj);rw [getElem!_pos l j hj] at this;simp [this]
theorem uGA : FO 151 Tryz.f151 [.tmp 3] 8 := mkO Tryz.func151 Tryz.ntmps151 Tryz.results151
theorem uJP (f : AffL) (n : Int) (hf : okA 2147483596 f) : Fn 151 [vBR f, .cptr (.int .i64 n) 0] (.data (.bool (!vCO f n))) := by
 have cc := zKX f n hf;refine zAO vBC hT uGA (by simp) ?_;refine sts ?_;refine zAA cc rfl ?_;refine sts ?_;exact zAB rfl rfl
theorem uF9 : FO 124 Tryz.f124 [.tmp 4] 9 := mkO Tryz.func124 Tryz.ntmps124 Tryz.results124
theorem uJO (l : List AffL) (n : Int) (hl : uEO 950000000 l) : Fn 124 [.imm (l.map vBR), .int .i64 n] (.data (.bool (dB (uE1 l n)))) := by
 have cc := zMD l (fun f => !vCO f n) 151 (.int .i64 n) hl.1 (fun f hf => uJP f n (zEF (by decide) (hl.2 f hf)));refine zAO vBC hT uF9 (by simp) ?_;refine sts ?_;refine zAA cc rfl ?_;refine sts ?_;refine zAB rfl (congrArg PV.bool ?_);rw [Bool.eq_iff_iff, dB_true, Bool.not_eq_true', vVV];exact Iff.rfl
theorem vTJ : FO 93 Tryz.f93 [.tmp 2] 56 := mkO Tryz.func93 Tryz.ntmps93 Tryz.results93
theorem vZH (g : GraL) (hg : vTN 950000000 g) : Fn 93 [vJS g] (.data (.bool (dB (VaG g)))) := by
 obtain ⟨hu, ho⟩ := hg;have no : ¬ VaG g → false = dB (VaG g) := vUR;have l1 := hu.1;have l2 := ho.1;have cc := uJO g.outs (g.ins + g.units.length) ho;refine zAO vBC hT vTJ (by simp [vJS]) ?_
 (repeat' (first|refine stp ?_|with_reducible(refine brr ?_ ?_<;>intro h)));all_goals try(conv=>whnf)
 ·exact zAB rfl (congrArg PV.bool (no fun e => by have := e.1.1; omega))
 ·exact zAB rfl (congrArg PV.bool (no fun e => by have := e.1.2; omega))
 ·exact zAB rfl (congrArg PV.bool (no fun e => by have := e.2.1; omega))
 ·exact zAB rfl (congrArg PV.bool (no fun e => by have := e.2.2.1.1; omega))
 ·exact zAB rfl (congrArg PV.bool (no fun e => by have := e.2.2.1.2; omega))
 ·have h0 : (1 ≤ g.ins ∧ g.ins ≤ 256) ∧ g.units.length ≤ 1024 ∧ (1 ≤ g.outs.length ∧ g.outs.length ≤ 256) := ⟨⟨by omega, by omega⟩, by omega, by omega, by omega⟩
  obtain ⟨h1, h2, h3⟩ := h0
  refine zA0 hT (fun (i : Nat) => [(1, .ptr 0 0 0), (32, .imm (g.units.map vBR)), (33, .int .i64 g.units.length), (34, .int .i64 i)]) (fun _ => [(0, ⟨[vJS g], 3, true⟩)]) [] 1
   (fun i => i ≤ g.units.length ∧ ∀ j, j < i → vCC g.units[j]! (g.ins + j)) (fun i => g.units.length - i) 0 ⟨Nat.zero_le _, fun j h => (by omega)⟩ (by decide) (by simp) ?_ ?_
  ·exact ⟨[0], [], [], [], ttt, ⟨apx, zAE rfl rfl, zAC rfl (by simp), zAC rfl rfl, trivial⟩, ⟨bbx, trivial⟩, by simp [ren]⟩
  intro i ⟨i1, i2⟩;by_cases hi : i < g.units.length
  ·have c1 := zKX g.units[i]! (g.ins + i) (zEF (by decide) (hu.2 _ (get_mem hi)))
   (repeat' (first|refine stp ?_|with_reducible(refine brr ?_ ?_<;>intro h)));all_goals try(conv=>whnf)
   ·refine zAA c1 rfl ?_
    (repeat' (first|refine stp ?_|with_reducible(refine brr ?_ ?_<;>intro h)));all_goals try(conv=>whnf)
    ·exact ⟨i + 1, ⟨⟨by omega, fun j hj => zBO (p := fun (j : Nat) => vCC g.units[j]! (g.ins + j)) i2 (validB_true.1 (by assumption)) hj⟩, by show g.units.length - (i + 1) < g.units.length - i; omega⟩, [0], [], [], [], ttt, ⟨apx, zAE rfl rfl, zAC rfl rfl, zAC rfl rfl, trivial⟩, ⟨bbx, trivial⟩, by simp [ren]⟩
    ·exact zAB rfl (congrArg PV.bool (no fun e => by have := validB_true.2 (e.2.2.2.1 i hi); simp_all))
   all_goals (exfalso; omega)
  ·(repeat' (first|refine stp ?_|with_reducible(refine brr ?_ ?_<;>intro h)));all_goals try(conv=>whnf)
   all_goals try (exfalso; omega)
   rw [List.length_map];refine zAA cc rfl ?_;refine sts ?_;refine zAB rfl (congrArg PV.bool ?_);rw [Bool.eq_iff_iff, dB_true, dB_true];exact ⟨fun e => ⟨h1, h2, h3, fun j hj => i2 j (by omega), e⟩, fun e => e.2.2.2.2⟩
def _root_.Go.PI.GraL.us (g : GraL) : List QF := g.units.map AffL.Q
end Go.PI.Tryz
