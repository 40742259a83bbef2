/-
  For every input of bulk at most 1048576, with the listed variable as the text lays it: TreeWalk returns true and leaves all that came in as it was.
-/
import Derived.Test.YtholmbhdbmjobaaDoorCL4
import Derived.Test.YtholmbhdbmjobaaDoorCLw0
set_option linter.unusedSimpArgs false
namespace Go.Proofs.YtholmbhdbmjobaaDoor
open Go Go.PI Go.PI.Tryd
open Go.ChangeShapes Go.WideShapes Go.ChangeAt Go.RowKit
set_option linter.unusedVariables false
theorem ok_law_treeWalk : FnOk Tryd.prog 6 Tryd.f6 (Tryd.f6.body.getD .skip) [.cell 4 4] 84 := ⟨Tryd.func6, rfl, by decide, Tryd.ntmps6, Tryd.results6, by kernel_rfl, by kernel_rfl⟩
set_option maxRecDepth 100000 in
theorem treeWalk_contract (H : Type) (enc : TypeId × Value → H) (W : World) (args : Array Value) (ds gs : List (DataW H)) (before : List MemPlace) (base : Nat) (hb : Rows.uptoBulkAll ds ≤ 1048576)
    (hvl : ∀ (j : Nat) t v, Tryd.f6.params[j]? = some t → args[j]? = some v → Value.okWide Tryd.prog W .any base t v)
    (hW : DataW.Whole enc Tryd.prog Tryd.f6.params.toList Rows.treeWalkSpec.vars false W args.toList ds gs before) (hL : laidMetH Tryd.prog laidV W) :
    Calls Tryd.prog 6 args W fun e W' => ∃ v, e = .returned v ∧ Rows.treeWalkSpec.post enc Tryd.prog Tryd.f6 false true false false W args v W' := by
  have hW' := hW
  obtain ⟨p, q, hA0, hV, hpq, hfz, hnd⟩ := hW
  have hA : DataW.TrodAll enc Tryd.prog W 0 (fun _ => true) true Tryd.f6.params.toList args.toList ds p := hA0
  rw [Tryd.params6] at hA hvl
  obtain ⟨v0, vs0, d0, ds0, p0, q0', hargs, rfl, hp0, ⟨fuel0, h0⟩, r0⟩ := trodAll_cons hA
  obtain ⟨v1, vs1, d1, ds1, p1, q1', rfl, rfl, hp1, ⟨fuel1, h1⟩, r1⟩ := trodAll_cons r0
  obtain ⟨rfl, rfl, rfl⟩ := trodAll_nil r1
  have hargs2 : args = #[v0, v1] := by cases args; simp_all
  rw [hargs2] at hvl
  simp only [bulkAll_eq, bulkAll] at hb
  obtain ⟨x0, g0, q0⟩ := ((r_node _).1) fuel0 (Nat.le_refl _) _ _ _ h0
  obtain ⟨x1, g1, q1⟩ := (reads_int Tryd.underlying3) fuel1 (Nat.le_refl _) _ _ _ h1
  have hval : ∀ (j : Nat) (d : PV), [nodeV x0, .int .i64 x1][j]? = some d → RD W (AllB W) d (args.toList.getD j undef) := by
    intro j d hj
    rw [hargs]
    match j, hj with
    | 0, hj => cases hj; exact rc_agg (arg_struct hvl 0 (t := 32) (v := v0) rfl rfl Tryd.underlying32) g0
    | 1, hj => cases hj; exact rc_one (arg_int hvl 1 (t := 3) (v := v1) rfl rfl Tryd.underlying3) g1
    | n + 2, hj => simp at hj
  refine law_post (G := G0) laidOut (by kernel_rfl) rfl Tryd.underlying4 rfl (fun gs hgs => by subst hgs; rfl) hW' (gok hL) (pvs := [nodeV x0, .int .i64 x1]) ⟨by rw [hargs]; rfl, hval⟩ ?_
  exact c_treeWalk x0 x1 (q0.2 (by omega)) (by have := q0.1; omega) (by have h := q1.1; simp [Lit.wf, IntKind.min, IntKind.max, IntKind.bits, IntKind.signed] at h; omega)
theorem treeWalk_laid_met (os : Os) : laidMet Tryd.prog Rows.treeWalkUptoRow.laid ((laidWorld os).forCall (fun _ _ => 0) ⟨#[], #[zNode, .int .i64 0], []⟩).memory :=
  laidMet_of_run' 8 (by kernel_rfl) (by kernel_rfl)
theorem treeWalk_reads (os : Os) {H : Type} (enc : TypeId × Value → H) : ∃ places, DataW.whole enc Tryd.prog ((laidWorld os).forCall (fun _ _ => 0) ⟨#[], #[zNode, .int .i64 0], []⟩).memory Tryd.f6.params.toList Rows.treeWalkSpec.vars false (#[zNode, .int .i64 0] : Array Value).toList 8 = some ([dNode, .lit (.int .i64 0)], [], places) :=
  ⟨[], by kernel_rfl⟩
set_option maxRecDepth 100000 in
theorem treeWalk_lifted (os : Os) (started : os.Started) (H : Type) (enc : TypeId × Value → H) (F : Stop.Interp) :
    ReturnsInHanded {} Tryd.checked os 6 .any ((Rows.OpenSpec.upto Rows.treeWalkSpec).preRow enc Tryd.prog Tryd.f6 Rows.treeWalkUptoRow.domain false Rows.treeWalkUptoRow.laid) (((Rows.OpenSpec.upto Rows.treeWalkSpec).at F).post enc Tryd.prog Tryd.f6 false true false false) := by
  obtain ⟨places, hx⟩ := treeWalk_reads os enc
  refine returnsInHanded_of_row (C := Tryd.checked) (s := Rows.OpenSpec.upto Rows.treeWalkSpec) own started (by kernel_rfl) Tryd.func6
    (witness_row_at (enc := enc) (C := Tryd.checked) false (laidWorld os) #[zNode, .int .i64 0] rfl (by kernel_rfl) (by kernel_rfl) (by kernel_rfl)
      (OpenSpec.preRow_of_cond 8 hx (by kernel_rfl) (fun k hk => by cases hk; kernel_rfl) (by kernel_rfl) (treeWalk_laid_met os))) ?_
  intro W base args ds gs before hval hW _ hcond _ hL _ _
  have hb : Rows.uptoBulkAll (ds ++ gs) ≤ 1048576 := of_decide_eq_true (hcond _ rfl)
  have hgs : gs = [] := by obtain ⟨p, q, _, hV, _⟩ := hW; exact (trodVars_none hV).1
  rw [hgs, List.append_nil] at hb
  exact treeWalk_contract H enc W args ds gs before base hb hval hW hL
theorem treeWalk_said : Rows.TreeWalkUptoSaid :=
  OpenClaim.holds_of_cond 6 Tryd.f6 rfl rfl rfl rfl rfl rfl rfl ⟨rfl, rfl, rfl, rfl, rfl⟩ rfl rfl rfl rfl rfl (by kernel_rfl) Tryd.func6 (by kernel_rfl)
    (of_decide_eq_true (by kernel_rfl)) (by unfold Func.isWrapper; first | (rw [if_pos (by decide +kernel)]; kernel_rfl) | (rw [if_neg (by decide +kernel)]; exact ⟨rfl, rfl⟩))
    (fun os started H enc _ F => by rw [OpenClaim.pre_eq_preRow]; exact treeWalk_lifted os started H enc F)
theorem treeWalk_plain (f : FuncId) (fn : Func) (hf : Tryd.pinned.checked.prog.funcNamed "relucert/relucertlaw45.TreeWalk" = some f) (hfn : Tryd.pinned.checked.prog.funcs[f]? = some fn) :
    false = Tryd.pinned.checked.prog.looks [] ∧ ∀ (j : Nat) t, fn.params[j]? = some t → Tryd.pinned.checked.prog.wantsStandIn t = false := by
  obtain rfl : f = 6 := Option.some.inj ((show Tryd.prog.funcNamed "relucert/relucertlaw45.TreeWalk" = some 6 by kernel_rfl).symm.trans hf) |>.symm
  obtain rfl : fn = Tryd.f6 := (Option.some.inj (Tryd.func6.symm.trans hfn)).symm
  refine ⟨by kernel_rfl, fun j t ht => ?_⟩
  rw [Tryd.params6] at ht
  have hall : (#[32, 3] : Array TypeId).all (fun t => !Tryd.prog.wantsStandIn t) = true := by kernel_rfl
  have hm := Array.mem_of_getElem? ht
  rw [Array.all_eq_true_iff_forall_mem] at hall
  have hq := hall t hm
  exact (by simpa using hq : Tryd.prog.wantsStandIn t = false)
/-- THE CARD. -/
theorem treeWalk_holds : Rows.TreeWalkUptoCardSaid :=
  Claim7.holds_tied_plain_at .later [] _ _ _ _ treeWalk_said (fun _ h => by cases h) (by kernel_rfl) (fun _ h => by cases h) treeWalkUpto_row_tie rfl ⟨rfl, rfl⟩ (by kernel_rfl) rfl treeWalk_plain (by kernel_rfl)
end Go.Proofs.YtholmbhdbmjobaaDoor
