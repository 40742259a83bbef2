/-
  For every input of bulk at most 1048576: WitnessBreaks returns true and leaves all that came in as it was.
-/
import Derived.Test.YtdgckinmcnjheaaGreatCWD
import Derived.Test.YtdgckinmcnjheaaGreatCFB
set_option linter.unusedVariables false
set_option linter.unusedSimpArgs false
set_option linter.unnecessarySimpa false
namespace Go.Proofs.YtdgckinmcnjheaaGreat
open Go Go.PI Go.PI.Tryz
open Go.ChangeShapes Go.WideShapes Go.ChangeAt Go.RowKit
theorem vJQ : FO 7 Tryz.f7 [.tmp 4] 71 := mkO Tryz.func7 Tryz.ntmps7 Tryz.results7
set_option maxRecDepth 100000 in
theorem witnessBreaks_contract (H : Type) (enc : TypeId × Value → H) (W : World) (args : Array Value) (ds gs : List (DataW H)) (before : List MemPlace) (base : Nat) (hb : Rows.uptoBulkAll ds ≤ 1048576)
 (hvl : ∀ (j : Nat) t v, Tryz.f7.params[j]? = some t → args[j]? = some v → Value.okWide Tryz.prog W .any base t v)
 (hW : DataW.Whole enc Tryz.prog Tryz.f7.params.toList Rows.witnessBreaksSpec.vars false W args.toList ds gs before) :
 Calls Tryz.prog 7 args W fun e W' => ∃ v, e = .returned v ∧ Rows.witnessBreaksSpec.post enc Tryz.prog Tryz.f7 false true false false W args v W' := by
 have hW' := hW;obtain ⟨p, q, hA0, hV, hpq, hfz, hnd⟩ := hW;have hA : DataW.TrodAll enc Tryz.prog W 0 (fun _ => true) true Tryz.f7.params.toList args.toList ds p := hA0;rw [Tryz.params7] at hA hvl;obtain ⟨v0, vs0, d0, ds0, p0, q0', hargs, rfl, hp0, ⟨fuel0, h0⟩, r0⟩ := trodAll_cons hA;obtain ⟨v1, vs1, d1, ds1, p1, q1', rfl, rfl, hp1, ⟨fuel1, h1⟩, r1⟩ := trodAll_cons r0;obtain ⟨rfl, rfl, rfl⟩ := trodAll_nil r1;have hargs2 : args = #[v0, v1] := by cases args; simp_all
 rw [hargs2] at hvl;simp only [zFK, vB9] at hb;obtain ⟨x0, g0, q0⟩ := (vRK _) fuel0 (Nat.le_refl _) _ _ _ h0;obtain ⟨x1, g1, q1⟩ := (vRK _) fuel1 (Nat.le_refl _) _ _ _ h1
 have hval : ∀ (j : Nat) (d : PV), [.imm (x0.map (.int .u8)), .imm (x1.map (.int .u8))][j]? = some d → RD W (vP7 W) d (args.toList.getD j undef) := by
  intro j d hj;rw [hargs]
  match j, hj with
  | 0, hj => cases hj; exact uA0 (vJM hvl 0 (t := 22) (v := v0) rfl rfl Tryz.underlying22) g0
  | 1, hj => cases hj; exact uA0 (vJM hvl 1 (t := 22) (v := v1) rfl rfl Tryz.underlying22) g1
  | n + 2, hj => simp at hj
 refine vYY (G := G0) laidOut (by kernel_rfl) rfl Tryz.underlying4 rfl (fun gs hgs => by subst hgs; rfl) hW' gok (pvs := [.imm (x0.map (.int .u8)), .imm (x1.map (.int .u8))]) ⟨by rw [hargs]; rfl, hval⟩ ?_;exact zMK x0 x1 (vS6 q0 (by omega)) (vS6 q1 (by omega))
set_option maxRecDepth 100000 in
theorem witnessBreaks_lifted (os : Os) (started : os.Started) (H : Type) (enc : TypeId × Value → H) (F : Stop.Interp) :
 ReturnsInHanded {} Tryz.checked os 7 .any ((Rows.OpenSpec.upto Rows.witnessBreaksSpec).pre6 enc Tryz.prog Tryz.f7 Rows.witnessBreaksUptoRow.domain false) (((Rows.OpenSpec.upto Rows.witnessBreaksSpec).at F).post enc Tryz.prog Tryz.f7 false true false false) := by
 refine returnsInHanded_of_cond (C := Tryz.checked) (s := Rows.OpenSpec.upto Rows.witnessBreaksSpec) (k := Rows.uptoSmall) rfl own started (by kernel_rfl) Tryz.func7
  (OpenSpec.witness (enc := enc) (C := Tryz.checked) (s := Rows.OpenSpec.upto Rows.witnessBreaksSpec) (k := Rows.uptoSmall) rfl false ⟨#[], #[.slice none 0 0, .slice none 0 0], []⟩ 8 (by kernel_rfl) (by kernel_rfl) (by kernel_rfl)
    (x := ([.nil, .nil], [], [])) (by kernel_rfl) rfl (by kernel_rfl)) ?_
 intro W base args ds gs before hval hW _ hk _;have hb : Rows.uptoBulkAll (ds ++ gs) ≤ 1048576 := of_decide_eq_true hk;have hgs : gs = [] := by obtain ⟨p, q, _, hV, _⟩ := hW; exact (trodVars_none hV).1
 rw [hgs, List.append_nil] at hb;exact witnessBreaks_contract H enc W args ds gs before base hb hval hW
theorem witnessBreaks_holds : Rows.WitnessBreaksUptoSaid :=
 OpenClaim.holds_of_cond 7 Tryz.f7 rfl rfl rfl rfl rfl rfl rfl ⟨rfl, rfl, rfl, rfl, rfl⟩ rfl rfl rfl rfl rfl (by kernel_rfl) Tryz.func7 (by kernel_rfl)
  (of_decide_eq_true (by kernel_rfl)) (by unfold Func.isWrapper; first | (rw [if_pos (by decide +kernel)]; kernel_rfl) | (rw [if_neg (by decide +kernel)]; exact ⟨rfl, rfl⟩))
  (fun os started H enc _ F => witnessBreaks_lifted os started H enc F)
end Go.Proofs.YtdgckinmcnjheaaGreat
