/-
  For every input of bulk at most 1048576: CheckerLocal returns true and leaves all that came in as it was.
-/
import Derived.Test.YtcinkbieboiffaaGreatCKO
import Derived.Test.YtcinkbieboiffaaGreatCKM
set_option linter.unusedVariables false
set_option linter.unusedSimpArgs false
set_option linter.unnecessarySimpa false
namespace Go.Proofs.YtcinkbieboiffaaGreat
open Go Go.PI Go.PI.Tryz
open Go.ChangeShapes Go.WideShapes Go.ChangeAt Go.RowKit
theorem ok_law_checkerLocal : FO 5 Tryz.f5 [.tmp 6] 136 := mkO Tryz.func5 Tryz.ntmps5 Tryz.results5
set_option maxRecDepth 100000 in
theorem checkerLocal_contract (H : Type) (enc : TypeId × Value → H) (W : World) (args : Array Value) (ds gs : List (DataW H)) (before : List MemPlace) (base : Nat) (hb : Rows.uptoBulkAll ds ≤ 1048576)
 (hvl : ∀ (j : Nat) t v, Tryz.f5.params[j]? = some t → args[j]? = some v → Value.okWide Tryz.prog W .any base t v)
 (hW : DataW.Whole enc Tryz.prog Tryz.f5.params.toList Rows.checkerLocalSpec.vars false W args.toList ds gs before) :
 Calls Tryz.prog 5 args W fun e W' => ∃ v, e = .returned v ∧ Rows.checkerLocalSpec.post enc Tryz.prog Tryz.f5 false true false false W args v W' := by
 have hW' := hW;obtain ⟨p, q, hA0, hV, hpq, hfz, hnd⟩ := hW;have hA : DataW.TrodAll enc Tryz.prog W 0 (fun _ => true) true Tryz.f5.params.toList args.toList ds p := hA0;rw [Tryz.params5] at hA hvl;obtain ⟨v0, vs0, d0, ds0, p0, q0', hargs, rfl, hp0, ⟨fuel0, h0⟩, r0⟩ := trodAll_cons hA;obtain ⟨v1, vs1, d1, ds1, p1, q1', rfl, rfl, hp1, ⟨fuel1, h1⟩, r1⟩ := trodAll_cons r0;obtain ⟨v2, vs2, d2, ds2, p2, q2', rfl, rfl, hp2, ⟨fuel2, h2⟩, r2⟩ := trodAll_cons r1;obtain ⟨rfl, rfl, rfl⟩ := trodAll_nil r2;have hargs2 : args = #[v0, v1, v2] := by cases args; simp_all
 rw [hargs2] at hvl;simp only [zCN, bulkAll] at hb;obtain ⟨x0, g0, q0⟩ := (zNV _) fuel0 (Nat.le_refl _) _ _ _ h0;obtain ⟨x1, g1, q1⟩ := (zCJ Tryz.underlying3) fuel1 (Nat.le_refl _) _ _ _ h1;obtain ⟨x2, g2, q2⟩ := (r_node _) fuel2 (Nat.le_refl _) _ _ _ h2
 have hval : ∀ (j : Nat) (d : PV), [encCase x0.q x0.n x0.x, .int .i64 x1, nodeV x2][j]? = some d → RD W (AllB W) d (args.toList.getD j undef) := by
  intro j d hj;rw [hargs]
  match j, hj with
  | 0, hj => cases hj; exact zIL (zC4 hvl 0 (t := 46) (v := v0) rfl rfl Tryz.underlying46) g0
  | 1, hj => cases hj; exact rc_one (arg_int hvl 1 (t := 3) (v := v1) rfl rfl Tryz.underlying3) g1
  | 2, hj => cases hj; exact zIL (zC4 hvl 2 (t := 43) (v := v2) rfl rfl Tryz.underlying43) g2
  | n + 3, hj => simp at hj
 refine zHN (G := G0) laidOut (by kernel_rfl) rfl Tryz.underlying4 rfl (fun gs hgs => by subst hgs; rfl) hW' gok (pvs := [encCase x0.q x0.n x0.x, .int .i64 x1, nodeV x2]) ⟨by rw [hargs]; rfl, hval⟩ ?_;obtain ⟨Bq, Bn, hIn, hBB⟩ := q0.inB (by omega);exact zNJ x0.q x0.n x0.x x1 x2 Bq Bn (bulk d2) hIn ⟨q2.2.1, q2.2.2 (by omega), q2.1.2, q2.1.1⟩ (by omega)
set_option maxRecDepth 100000 in
theorem checkerLocal_lifted (os : Os) (started : os.Started) (H : Type) (enc : TypeId × Value → H) (F : Stop.Interp) :
 ReturnsInHanded {} Tryz.checked os 5 .any ((Rows.OpenSpec.upto Rows.checkerLocalSpec).pre6 enc Tryz.prog Tryz.f5 Rows.checkerLocalUptoRow.domain false) (((Rows.OpenSpec.upto Rows.checkerLocalSpec).at F).post enc Tryz.prog Tryz.f5 false true false false) := by
 refine returnsInHanded_of_cond (C := Tryz.checked) (s := Rows.OpenSpec.upto Rows.checkerLocalSpec) (k := Rows.uptoSmall) rfl own started (by kernel_rfl) Tryz.func5
  (OpenSpec.witness (enc := enc) (C := Tryz.checked) (s := Rows.OpenSpec.upto Rows.checkerLocalSpec) (k := Rows.uptoSmall) rfl false ⟨#[], #[.agg #[.int .i64 0, .slice none 0 0, .slice none 0 0, .slice none 0 0, .slice none 0 0, .slice none 0 0, .slice none 0 0, .bool false, .slice none 0 0, .slice none 0 0, .slice none 0 0, .int .i64 0, .int .i64 0, .bool false, .slice none 0 0, .slice none 0 0, .slice none 0 0, .bool false, .slice none 0 0, .slice none 0 0], .int .i64 0, .agg #[.slice none 0 0, .int .i64 0, .int .i64 0, .bool false, .slice none 0 0, .slice none 0 0, .slice none 0 0, .bool false, .slice none 0 0]], []⟩ 8 (by kernel_rfl) (by kernel_rfl) (by kernel_rfl)
    (x := ([.agg [.agg [.agg [.lit (.int .i64 0), .nil, .nil], .agg [.nil, .nil, .nil], .agg [.nil, .agg [.lit (.bool false), .nil, .nil]]], .agg [.nil, .agg [.lit (.int .i64 0), .lit (.int .i64 0), .agg [.lit (.bool false), .nil, .nil]], .nil, .lit (.bool false), .nil], .nil], .lit (.int .i64 0), .agg [.nil, .agg [.lit (.int .i64 0), .lit (.int .i64 0), .agg [.lit (.bool false), .nil, .nil]], .nil, .lit (.bool false), .nil]], [], [])) (by kernel_rfl) rfl (by kernel_rfl)) ?_
 intro W base args ds gs before hval hW _ hk _;have hb : Rows.uptoBulkAll (ds ++ gs) ≤ 1048576 := of_decide_eq_true hk;have hgs : gs = [] := by obtain ⟨p, q, _, hV, _⟩ := hW; exact (trodVars_none hV).1
 rw [hgs, List.append_nil] at hb;exact checkerLocal_contract H enc W args ds gs before base hb hval hW
theorem checkerLocal_holds : Rows.CheckerLocalUptoSaid :=
 OpenClaim.holds_of_cond 5 Tryz.f5 rfl rfl rfl rfl rfl rfl rfl ⟨rfl, rfl, rfl, rfl, rfl⟩ rfl rfl rfl rfl rfl (by kernel_rfl) Tryz.func5 (by kernel_rfl)
  (of_decide_eq_true (by kernel_rfl)) (by unfold Func.isWrapper; first | (rw [if_pos (by decide +kernel)]; kernel_rfl) | (rw [if_neg (by decide +kernel)]; exact ⟨rfl, rfl⟩))
  (fun os started H enc _ F => checkerLocal_lifted os started H enc F)
end Go.Proofs.YtcinkbieboiffaaGreat
