/-
  For every input of bulk at most 1048576: PatternFits returns true and leaves all that came in as it was.
-/
import Derived.Test.YtiiibhgnmlmoaaaCHL
namespace Go.PI.Try
set_option linter.unnecessarySimpa false
open Go.Proofs Go.PI
set_option linter.unusedSimpArgs false
set_option linter.unusedVariables false
theorem fit_self (p : List Int) : fitP p p ↔ ∀ i, i < p.length → Dec p[i]! := ⟨fun h i hi => (h.2 i hi).1, fun h => ⟨rfl, fun i hi => ⟨h i hi, Or.inr rfl⟩⟩⟩
theorem ok_lawFits : FnOk Try.prog 3 Try.f3 (Try.f3.body.getD .skip) [.tmp 4] 30 := ⟨Try.func3, rfl, by decide, Try.ntmps3, Try.results3, by kernel_rfl, by kernel_rfl⟩
theorem c_patternFits (a b : List Int) (ha : a.length ≤ 1048576) (hb : b.length ≤ 1048576) : Fn 3 [ints a, ints b] (.data (.bool true)) := by
  have c1 := c_fits a b ha hb
  have c2 := c_rfits a b ha hb
  have c3 := c_fits a a ha ha
  have c4 := c_rcomplete a ha
  rw [show dB (fitP a a) = dB (∀ i, i < a.length → Dec a[i]!) from by rw [Bool.eq_iff_iff, dB_true, dB_true]; exact fit_self a] at c3
  generalize dB (fitP a b) = B at *
  generalize dB (∀ i, i < a.length → Dec a[i]!) = D at *
  refine fnC_v hmix hT ok_lawFits (by simp) ?_
  (repeat' (first|refine stp ?_|with_reducible(refine brr ?_ ?_<;>intro h)));all_goals try(conv=>whnf)
  refine callV_data c_awake18 rfl ?_
  (repeat' (first|refine stp ?_|with_reducible(refine brr ?_ ?_<;>intro h)));all_goals try(conv=>whnf)
  · exact givesV_to rfl rfl
  · exact givesV_to rfl rfl
  refine callV_data c1 rfl ?_
  (repeat' (first|refine stp ?_|with_reducible(refine brr ?_ ?_<;>intro h)));all_goals try(conv=>whnf)
  refine callV_data c2 rfl ?_
  (repeat' (first|refine stp ?_|with_reducible(refine brr ?_ ?_<;>intro h)));all_goals try(conv=>whnf)
  · refine callV_data c3 rfl ?_
    (repeat' (first|refine stp ?_|with_reducible(refine brr ?_ ?_<;>intro h)));all_goals try(conv=>whnf)
    refine callV_data c4 rfl ?_
    (repeat' (first|refine stp ?_|with_reducible(refine brr ?_ ?_<;>intro h)));all_goals try(conv=>whnf)
    exact givesV_to rfl (by simp)
  · exact absurd (by simp) h
end Go.PI.Try
namespace Go.Proofs.Ytiiibhgnmlmoaaa
set_option linter.unusedSimpArgs false
set_option linter.unnecessarySimpa false
open Go Go.PI Go.PI.Try
open Go.ChangeShapes Go.WideShapes Go.ChangeAt Go.RowKit
set_option linter.unusedVariables false
theorem ok_law_patternFits : FnOk Try.prog 3 Try.f3 (Try.f3.body.getD .skip) [.tmp 4] 30 := ⟨Try.func3, rfl, by decide, Try.ntmps3, Try.results3, by kernel_rfl, by kernel_rfl⟩
set_option maxRecDepth 100000 in
theorem patternFits_contract (H : Type) (enc : TypeId × Value → H) (W : World) (args : Array Value) (ds gs : List (DataW H)) (before : List MemPlace) (base : Nat) (hb : Rows.uptoBulkAll ds ≤ 1048576)
    (hvl : ∀ (j : Nat) t v, Try.f3.params[j]? = some t → args[j]? = some v → Value.okWide Try.prog W .any base t v)
    (hW : DataW.Whole enc Try.prog Try.f3.params.toList Rows.patternFitsSpec.vars false W args.toList ds gs before) :
    Calls Try.prog 3 args W fun e W' => ∃ v, e = .returned v ∧ Rows.patternFitsSpec.post enc Try.prog Try.f3 false true false false W args v W' := by
  have hW' := hW
  obtain ⟨p, q, hA0, hV, hpq, hfz, hnd⟩ := hW
  have hA : DataW.TrodAll enc Try.prog W 0 (fun _ => true) true Try.f3.params.toList args.toList ds p := hA0
  rw [Try.params3] at hA hvl
  obtain ⟨v0, vs0, d0, ds0, p0, q0', hargs, rfl, hp0, ⟨fuel0, h0⟩, r0⟩ := trodAll_cons hA
  obtain ⟨v1, vs1, d1, ds1, p1, q1', rfl, rfl, hp1, ⟨fuel1, h1⟩, r1⟩ := trodAll_cons r0
  obtain ⟨rfl, rfl, rfl⟩ := trodAll_nil r1
  have hargs2 : args = #[v0, v1] := by cases args; simp_all
  rw [hargs2] at hvl
  simp only [bulkAll_eq, bulkAll] at hb
  obtain ⟨x0, g0, q0⟩ := (r_ints _) fuel0 (Nat.le_refl _) _ _ _ h0
  obtain ⟨x1, g1, q1⟩ := (r_ints _) fuel1 (Nat.le_refl _) _ _ _ h1
  have hval : ∀ (j : Nat) (d : PV), [ints x0, ints x1][j]? = some d → RD W (AllB W) d (args.toList.getD j undef) := by
    intro j d hj
    rw [hargs]
    match j, hj with
    | 0, hj => cases hj; exact rc_one (arg_slice hvl 0 (t := 22) (v := v0) rfl rfl Try.underlying22) g0
    | 1, hj => cases hj; exact rc_one (arg_slice hvl 1 (t := 22) (v := v1) rfl rfl Try.underlying22) g1
    | n + 2, hj => simp at hj
  refine law_post (G := G0) laidOut (by kernel_rfl) rfl Try.underlying4 rfl (fun gs hgs => by subst hgs; rfl) hW' gok (pvs := [ints x0, ints x1]) ⟨by rw [hargs]; rfl, hval⟩ ?_
  exact c_patternFits x0 x1 (ints_len q0 (by omega)) (ints_len q1 (by omega))
set_option maxRecDepth 100000 in
theorem patternFits_lifted (os : Os) (started : os.Started) (H : Type) (enc : TypeId × Value → H) (F : Stop.Interp) :
    ReturnsInHanded {} Try.checked os 3 .any ((Rows.OpenSpec.upto Rows.patternFitsSpec).pre6 enc Try.prog Try.f3 Rows.patternFitsUptoRow.domain false) (((Rows.OpenSpec.upto Rows.patternFitsSpec).at F).post enc Try.prog Try.f3 false true false false) := by
  refine returnsInHanded_of_cond (C := Try.checked) (s := Rows.OpenSpec.upto Rows.patternFitsSpec) (k := Rows.uptoSmall) rfl own started (by kernel_rfl) Try.func3
    (OpenSpec.witness (enc := enc) (C := Try.checked) (s := Rows.OpenSpec.upto Rows.patternFitsSpec) (k := Rows.uptoSmall) rfl false ⟨#[], #[.slice none 0 0, .slice none 0 0], []⟩ 8 (by kernel_rfl) (by kernel_rfl) (by kernel_rfl)
      (x := ([.nil, .nil], [], [])) (by kernel_rfl) rfl (by kernel_rfl)) ?_
  intro W base args ds gs before hval hW _ hk _
  have hb : Rows.uptoBulkAll (ds ++ gs) ≤ 1048576 := of_decide_eq_true hk
  have hgs : gs = [] := by obtain ⟨p, q, _, hV, _⟩ := hW; exact (trodVars_none hV).1
  rw [hgs, List.append_nil] at hb
  exact patternFits_contract H enc W args ds gs before base hb hval hW
/-- THE ROW. -/
theorem patternFits_holds : Rows.PatternFitsUptoSaid :=
  OpenClaim.holds_of_cond 3 Try.f3 rfl rfl rfl rfl rfl rfl rfl ⟨rfl, rfl, rfl, rfl, rfl⟩ rfl rfl rfl rfl rfl (by kernel_rfl) Try.func3 (by kernel_rfl)
    (of_decide_eq_true (by kernel_rfl)) (by unfold Func.isWrapper; first | (rw [if_pos (by decide +kernel)]; kernel_rfl) | (rw [if_neg (by decide +kernel)]; exact ⟨rfl, rfl⟩))
    (fun os started H enc _ F => patternFits_lifted os started H enc F)
end Go.Proofs.Ytiiibhgnmlmoaaa
