/-
  For every input of bulk at most 1048576: DualsBoundsAreLeast returns true and leaves all that came in as it was.
-/
import Derived.Test.YtigeioodiljlaaaGreatCRE
import Derived.Test.YtigeioodiljlaaaGreatCRD
set_option linter.unusedVariables false
set_option linter.unusedSimpArgs false
set_option linter.unnecessarySimpa false
namespace Go.Proofs.YtigeioodiljlaaaGreat
open Go Go.PI Go.PI.Tryz
open Go.ChangeShapes Go.WideShapes Go.ChangeAt Go.RowKit
theorem zJ2 : FO 8 Tryz.f8 [.tmp 4] 56 := mkO Tryz.func8 Tryz.ntmps8 Tryz.results8
set_option maxRecDepth 100000 in
theorem dualsBoundsAreLeast_contract (H : Type) (enc : TypeId × Value → H) (W : World) (args : Array Value) (ds gs : List (DataW H)) (before : List MemPlace) (base : Nat) (hb : Rows.uptoBulkAll ds ≤ 1048576)
 (hvl : ∀ (j : Nat) t v, Tryz.f8.params[j]? = some t → args[j]? = some v → Value.okWide Tryz.prog W .any base t v)
 (hW : DataW.Whole enc Tryz.prog Tryz.f8.params.toList Rows.dualsBoundsAreLeastSpec.vars false W args.toList ds gs before) :
 Calls Tryz.prog 8 args W fun e W' => ∃ v, e = .returned v ∧ Rows.dualsBoundsAreLeastSpec.post enc Tryz.prog Tryz.f8 false true false false W args v W' := by
 have hW' := hW;obtain ⟨p, q, hA0, hV, hpq, hfz, hnd⟩ := hW;have hA : DataW.TrodAll enc Tryz.prog W 0 (fun _ => true) true Tryz.f8.params.toList args.toList ds p := hA0;rw [Tryz.params8] at hA hvl;obtain ⟨v0, vs0, d0, ds0, p0, q0', hargs, rfl, hp0, ⟨fuel0, h0⟩, r0⟩ := trodAll_cons hA;obtain ⟨v1, vs1, d1, ds1, p1, q1', rfl, rfl, hp1, ⟨fuel1, h1⟩, r1⟩ := trodAll_cons r0;obtain ⟨rfl, rfl, rfl⟩ := trodAll_nil r1;have hargs2 : args = #[v0, v1] := by cases args; simp_all
 rw [hargs2] at hvl;simp only [zED, bulkAll] at hb;obtain ⟨x0, g0, q0⟩ := (r_prog _) fuel0 (Nat.le_refl _) _ _ _ h0;obtain ⟨x1, g1, q1⟩ := (r_rats _) fuel1 (Nat.le_refl _) _ _ _ h1
 have hval : ∀ (j : Nat) (d : PV), [encProg x0, .imm (x1.map encRat)][j]? = some d → RD W (AllB W) d (args.toList.getD j undef) := by
  intro j d hj;rw [hargs]
  match j, hj with
  | 0, hj => cases hj; exact rc_agg (arg_struct hvl 0 (t := 31) (v := v0) rfl rfl Tryz.underlying31) g0
  | 1, hj => cases hj; exact rc_one (arg_slice hvl 1 (t := 32) (v := v1) rfl rfl Tryz.underlying32) g1
  | n + 2, hj => simp at hj
 refine law_post (G := G0) laidOut (by kernel_rfl) rfl Tryz.underlying4 rfl (fun gs hgs => by subst hgs; rfl) hW' gok (pvs := [encProg x0, .imm (x1.map encRat)]) ⟨by rw [hargs]; rfl, hval⟩ ?_;exact zE2 x0 x1 (q0.ok (by omega)) (okL_of q1 (by omega))
set_option maxRecDepth 100000 in
theorem dualsBoundsAreLeast_lifted (os : Os) (started : os.Started) (H : Type) (enc : TypeId × Value → H) (F : Stop.Interp) :
 ReturnsInHanded {} Tryz.checked os 8 .any ((Rows.OpenSpec.upto Rows.dualsBoundsAreLeastSpec).pre6 enc Tryz.prog Tryz.f8 Rows.dualsBoundsAreLeastUptoRow.domain false) (((Rows.OpenSpec.upto Rows.dualsBoundsAreLeastSpec).at F).post enc Tryz.prog Tryz.f8 false true false false) := by
 refine returnsInHanded_of_cond (C := Tryz.checked) (s := Rows.OpenSpec.upto Rows.dualsBoundsAreLeastSpec) (k := Rows.uptoSmall) rfl own started (by kernel_rfl) Tryz.func8
  (OpenSpec.witness (enc := enc) (C := Tryz.checked) (s := Rows.OpenSpec.upto Rows.dualsBoundsAreLeastSpec) (k := Rows.uptoSmall) rfl false ⟨#[], #[.agg #[.int .i64 0, .slice none 0 0, .slice none 0 0, .bool false, .slice none 0 0, .slice none 0 0], .slice none 0 0], []⟩ 8 (by kernel_rfl) (by kernel_rfl) (by kernel_rfl)
    (x := ([.agg [.lit (.int .i64 0), .nil, .agg [.nil, .agg [.lit (.bool false), .nil, .nil]]], .nil], [], [])) (by kernel_rfl) rfl (by kernel_rfl)) ?_
 intro W base args ds gs before hval hW _ hk _;have hb : Rows.uptoBulkAll (ds ++ gs) ≤ 1048576 := of_decide_eq_true hk;have hgs : gs = [] := by obtain ⟨p, q, _, hV, _⟩ := hW; exact (trodVars_none hV).1
 rw [hgs, List.append_nil] at hb;exact dualsBoundsAreLeast_contract H enc W args ds gs before base hb hval hW
theorem dualsBoundsAreLeast_holds : Rows.DualsBoundsAreLeastUptoSaid :=
 OpenClaim.holds_of_cond 8 Tryz.f8 rfl rfl rfl rfl rfl rfl rfl ⟨rfl, rfl, rfl, rfl, rfl⟩ rfl rfl rfl rfl rfl (by kernel_rfl) Tryz.func8 (by kernel_rfl)
  (of_decide_eq_true (by kernel_rfl)) (by unfold Func.isWrapper; first | (rw [if_pos (by decide +kernel)]; kernel_rfl) | (rw [if_neg (by decide +kernel)]; exact ⟨rfl, rfl⟩))
  (fun os started H enc _ F => dualsBoundsAreLeast_lifted os started H enc F)
end Go.Proofs.YtigeioodiljlaaaGreat
