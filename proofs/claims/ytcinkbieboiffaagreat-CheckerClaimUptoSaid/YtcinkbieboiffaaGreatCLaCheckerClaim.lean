/-
  For every input of bulk at most 1048576: CheckerClaim returns true and leaves all that came in as it was.
-/
import Derived.Test.YtcinkbieboiffaaGreatCKU
import Derived.Test.YtcinkbieboiffaaGreatCKM
set_option linter.unusedVariables false
set_option linter.unusedSimpArgs false
set_option linter.unnecessarySimpa false
namespace Go.Proofs.YtcinkbieboiffaaGreat
open Go Go.PI Go.PI.Tryz
open Go.ChangeShapes Go.WideShapes Go.ChangeAt Go.RowKit
theorem ok_law_checkerClaim : FO 9 Tryz.f9 [.tmp 2] 47 := mkO Tryz.func9 Tryz.ntmps9 Tryz.results9
set_option maxRecDepth 100000 in
theorem checkerClaim_contract (H : Type) (enc : TypeId × Value → H) (W : World) (args : Array Value) (ds gs : List (DataW H)) (before : List MemPlace) (base : Nat) (hb : Rows.uptoBulkAll ds ≤ 1048576)
 (hvl : ∀ (j : Nat) t v, Tryz.f9.params[j]? = some t → args[j]? = some v → Value.okWide Tryz.prog W .any base t v)
 (hW : DataW.Whole enc Tryz.prog Tryz.f9.params.toList Rows.checkerClaimSpec.vars false W args.toList ds gs before) :
 Calls Tryz.prog 9 args W fun e W' => ∃ v, e = .returned v ∧ Rows.checkerClaimSpec.post enc Tryz.prog Tryz.f9 false true false false W args v W' := by
 have hW' := hW;obtain ⟨p, q, hA0, hV, hpq, hfz, hnd⟩ := hW;have hA : DataW.TrodAll enc Tryz.prog W 0 (fun _ => true) true Tryz.f9.params.toList args.toList ds p := hA0;rw [Tryz.params9] at hA hvl;obtain ⟨v0, vs0, d0, ds0, p0, q0', hargs, rfl, hp0, ⟨fuel0, h0⟩, r0⟩ := trodAll_cons hA;obtain ⟨rfl, rfl, rfl⟩ := trodAll_nil r0;have hargs2 : args = #[v0] := by cases args; simp_all
 rw [hargs2] at hvl;simp only [zEW, bulkAll] at hb;obtain ⟨x0, g0, q0⟩ := (r_prop _) fuel0 (Nat.le_refl _) _ _ _ h0
 have hval : ∀ (j : Nat) (d : PV), [encProp x0.g x0.r x0.c x0.d x0.n x0.x][j]? = some d → RD W (AllB W) d (args.toList.getD j undef) := by
  intro j d hj;rw [hargs]
  match j, hj with
  | 0, hj => cases hj; exact rc_agg (zNR hvl 0 (t := 88) (v := v0) rfl rfl Tryz.underlying88) g0
  | n + 1, hj => simp at hj
 refine law_post (G := G0) laidOut (by kernel_rfl) rfl Tryz.underlying4 rfl (fun gs hgs => by subst hgs; rfl) hW' gok (pvs := [encProp x0.g x0.r x0.c x0.d x0.n x0.x]) ⟨by rw [hargs]; rfl, hval⟩ ?_;obtain ⟨Bq, Bn, hIn⟩ := q0.inP (by omega);exact zMV x0.g x0.r x0.c x0.d x0.n x0.x Bq Bn hIn
set_option maxRecDepth 100000 in
theorem checkerClaim_lifted (os : Os) (started : os.Started) (H : Type) (enc : TypeId × Value → H) (F : Stop.Interp) :
 ReturnsInHanded {} Tryz.checked os 9 .any ((Rows.OpenSpec.upto Rows.checkerClaimSpec).pre6 enc Tryz.prog Tryz.f9 Rows.checkerClaimUptoRow.domain false) (((Rows.OpenSpec.upto Rows.checkerClaimSpec).at F).post enc Tryz.prog Tryz.f9 false true false false) := by
 refine returnsInHanded_of_cond (C := Tryz.checked) (s := Rows.OpenSpec.upto Rows.checkerClaimSpec) (k := Rows.uptoSmall) rfl own started (by kernel_rfl) Tryz.func9
  (OpenSpec.witness (enc := enc) (C := Tryz.checked) (s := Rows.OpenSpec.upto Rows.checkerClaimSpec) (k := Rows.uptoSmall) rfl false ⟨#[], #[.agg #[.int .i64 0, .slice none 0 0, .slice none 0 0, .slice none 0 0, .slice none 0 0, .slice none 0 0, .int .i64 0, .int .i64 0, .bool false, .slice none 0 0, .slice none 0 0, .slice none 0 0, .int .u8 0, .int .u8 0, .int .u8 0, .int .u8 0, .int .u8 0, .int .u8 0, .int .u8 0, .int .u8 0, .int .u8 0, .int .u8 0, .int .u8 0, .int .u8 0, .int .u8 0, .int .u8 0, .int .u8 0, .int .u8 0, .int .u8 0, .int .u8 0, .int .u8 0, .int .u8 0, .int .u8 0, .int .u8 0, .int .u8 0, .int .u8 0, .int .u8 0, .int .u8 0, .int .u8 0, .int .u8 0, .int .u8 0, .int .u8 0, .int .u8 0, .int .u8 0, .slice none 0 0, .slice none 0 0]], []⟩ 8 (by kernel_rfl) (by kernel_rfl) (by kernel_rfl)
    (x := ([.agg [.agg [.lit (.int .i64 0), .nil, .nil], .agg [.nil, .nil, .nil], .agg [.lit (.int .i64 0), .lit (.int .i64 0), .agg [.lit (.bool false), .nil, .nil], .nil], .agg [.agg [.lit (.int .u8 0), .lit (.int .u8 0), .lit (.int .u8 0), .lit (.int .u8 0), .lit (.int .u8 0), .lit (.int .u8 0), .lit (.int .u8 0), .lit (.int .u8 0), .lit (.int .u8 0), .lit (.int .u8 0), .lit (.int .u8 0), .lit (.int .u8 0), .lit (.int .u8 0), .lit (.int .u8 0), .lit (.int .u8 0), .lit (.int .u8 0), .lit (.int .u8 0), .lit (.int .u8 0), .lit (.int .u8 0), .lit (.int .u8 0), .lit (.int .u8 0), .lit (.int .u8 0), .lit (.int .u8 0), .lit (.int .u8 0), .lit (.int .u8 0), .lit (.int .u8 0), .lit (.int .u8 0), .lit (.int .u8 0), .lit (.int .u8 0), .lit (.int .u8 0), .lit (.int .u8 0), .lit (.int .u8 0)], .nil], .nil]], [], [])) (by kernel_rfl) rfl (by kernel_rfl)) ?_
 intro W base args ds gs before hval hW _ hk _;have hb : Rows.uptoBulkAll (ds ++ gs) ≤ 1048576 := of_decide_eq_true hk;have hgs : gs = [] := by obtain ⟨p, q, _, hV, _⟩ := hW; exact (trodVars_none hV).1
 rw [hgs, List.append_nil] at hb;exact checkerClaim_contract H enc W args ds gs before base hb hval hW
theorem checkerClaim_holds : Rows.CheckerClaimUptoSaid :=
 OpenClaim.holds_of_cond 9 Tryz.f9 rfl rfl rfl rfl rfl rfl rfl ⟨rfl, rfl, rfl, rfl, rfl⟩ rfl rfl rfl rfl rfl (by kernel_rfl) Tryz.func9 (by kernel_rfl)
  (of_decide_eq_true (by kernel_rfl)) (by unfold Func.isWrapper; first | (rw [if_pos (by decide +kernel)]; kernel_rfl) | (rw [if_neg (by decide +kernel)]; exact ⟨rfl, rfl⟩))
  (fun os started H enc _ F => checkerClaim_lifted os started H enc F)
end Go.Proofs.YtcinkbieboiffaaGreat
