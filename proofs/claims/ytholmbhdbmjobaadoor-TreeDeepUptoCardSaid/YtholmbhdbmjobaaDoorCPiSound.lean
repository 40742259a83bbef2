/-
  PI: code: what 'wp' shows holds in the model.
-/
import Derived.Test.YtholmbhdbmjobaaDoorCPiRange3
set_option linter.unusedVariables false
set_option linter.unusedSimpArgs false
namespace Go.PI
open Go.RowKit

section
variable {P : Program} {G : Gl} {N : Nat}

/-- CODE: what 'wp' shows holds in the model. -/
theorem wp_sound {C : Contracts} (hm : P.follows .mixedOrders = true) : ∀ (c : Code) (X : Env → Prop) (_ : XOk P G C X) (ro : Option Nat) (n : Nat) (F : Env) (n0 : Nat) (_ : F.n0 = n0) (df : List Deferred) (_ : noR c = true ∨ (ro = none ∧ ∀ E M, X E → X { E with M := M }))
    (Q : Exit → St → Prop) (s : St) (a : Act) (w : World) (A : Nat → Prop) (κ : Ka), codeFits N c = true → RelX X F G N df s a w A κ → wp P G C (FnH P G) (LeS G, n0) c Q s →
    c.wpIn (Wd ro) n P (fun e a' w' => ∃ s' A' κ', RelX X F G N df s' a' w' A' κ' ∧ Q e s') a w
  | .skip, _, _, _, _, _, _, _, _, _, Q, s, a, w, A, κ, _, hR, h => wpIn_skip ⟨s, A, κ, hR, h⟩
  | .label _, _, _, _, _, _, _, _, _, _, Q, s, a, w, A, κ, _, hR, h => wpIn_label ⟨s, A, κ, hR, h⟩
  | .exit id, _, _, _, _, _, _, _, _, _, Q, s, a, w, A, κ, _, hR, h => wpIn_exit ⟨s, A, κ, hR, h⟩
  | .ret, _, _, _, _, _, _, _, _, _, Q, s, a, w, A, κ, _, hR, h => wpIn_ret ⟨s, A, κ, hR, h⟩
  | .seq x y, X, hC, ro, n, F, n0, hn, df, hmk, Q, s, a, w, A, κ, hf, hR, h => by
    simp only [codeFits, Bool.and_eq_true] at hf
    simp only [noR, Bool.and_eq_true] at hmk
    refine wpIn_seq (wpIn_mono (wp_sound hm x X hC ro n F n0 hn df (hmk.imp_left (·.1)) _ s a w A κ hf.1 hR h) fun e a' w' ⟨s', A', κ', hR', hq⟩ => ?_)
    cases e with
    | normal => exact wp_sound hm y X hC ro n F n0 hn df (hmk.imp_left (·.2)) Q s' a' w' A' κ' hf.2 hR' hq
    | _ => exact ⟨s', A', κ', hR', hq⟩
  | .cond c x y, X, hC, ro, n, F, n0, hn, df, hmk, Q, s, a, w, A, κ, hf, hR, h => by
    simp only [codeFits, Bool.and_eq_true] at hf
    simp only [noR, Bool.and_eq_true] at hmk
    unfold wp at h
    split at h
    · rename_i b hb
      have hc : RV w A κ (ev G s.t c) (a.eval c) := by obtain ⟨E, hX, hF, hR⟩ := hR; exact eval_rel hR.hr hR.tm hf.1
      rw [hb] at hc
      exact wpIn_cond_split hc.bool_inv (fun e => wp_sound hm x X hC ro n F n0 hn df (hmk.imp_left (·.1)) Q s a w A κ hf.2.1 hR (h.1 e)) (fun e => wp_sound hm y X hC ro n F n0 hn df (hmk.imp_left (·.2)) Q s a w A κ hf.2.2 hR (h.2 e))
    · rename_i hb
      have hc : RV w A κ (ev G s.t c) (a.eval c) := by obtain ⟨E, hX, hF, hR⟩ := hR; exact eval_rel hR.hr hR.tm hf.1
      rw [hb] at hc
      obtain ⟨b, hc⟩ := hc.anyb_inv
      exact wpIn_cond_split hc (fun _ => wp_sound hm x X hC ro n F n0 hn df (hmk.imp_left (·.1)) Q s a w A κ hf.2.1 hR h.1) (fun _ => wp_sound hm y X hC ro n F n0 hn df (hmk.imp_left (·.2)) Q s a w A κ hf.2.2 hR h.2)
    · exact h.elim
  | .block id c, X, hC, ro, n, F, n0, hn, df, hmk, Q, s, a, w, A, κ, hf, hR, h => by
    refine wpIn_block (wpIn_mono (wp_sound hm c X hC ro n F n0 hn df hmk _ s a w A κ hf hR h) fun e a' w' ⟨s', A', κ', hR', hq⟩ => ?_)
    cases e with
    | exit id' =>
      simp only [Exit.inBlock, inBlockQ] at hq ⊢
      split
      · rename_i e; rw [if_pos e] at hq; exact ⟨s', A', κ', hR', hq⟩
      · rename_i e; rw [if_neg e] at hq; exact ⟨s', A', κ', hR', hq⟩
    | _ => exact ⟨s', A', κ', hR', hq⟩
  | .loop c, X, hC, ro, n, F, n0, hn, df, hmk, Q, s, a, w, A, κ, hf, hR, h => by
    unfold wp at h
    obtain ⟨s0, h0, m, h⟩ := h
    obtain ⟨A0, κ0, hR0⟩ : ∃ A' κ', RelX X F G N df s0 a w A' κ' := by
      obtain ⟨E, hX, hF, hR⟩ := hR
      obtain ⟨A', κ', hR'⟩ := h0 E N df a w A κ ((re_n0 hF).trans hn) hR
      exact ⟨A', κ', E, hX, hF, hR'⟩
    have key : ∀ m s a w A κ, RelX X F G N df s a w A κ → Nat.rec (motive := fun _ => St → Prop) (fun _ => False) (fun _ ih s => wp P G C (FnH P G) (LeS G, n0) c (thenQ (fun s' => ∃ s'', LeS G n0 s' s'' ∧ ih s'') Q) s) m s →
        (Code.loop c).wpIn (Wd ro) n P (fun e a' w' => ∃ s' A' κ', RelX X F G N df s' a' w' A' κ' ∧ Q e s') a w := by
      intro m s a w A κ hR h
      refine wpIn_loop_fuel (fun m a w => ∃ s A κ, RelX X F G N df s a w A κ ∧ Nat.rec (motive := fun _ => St → Prop) (fun _ => False) (fun _ ih s => wp P G C (FnH P G) (LeS G, n0) c (thenQ (fun s' => ∃ s'', LeS G n0 s' s'' ∧ ih s'') Q) s) m s)
        (fun m a w ⟨s, A, κ, hR, h⟩ => ?_) (fun a w ⟨s, A, κ, hR, h⟩ => h) m a w ⟨s, A, κ, hR, h⟩
      refine wpIn_mono (wp_sound hm c X hC ro n F n0 hn df hmk _ s a w A κ hf hR h) fun e a' w' ⟨s', A', κ', hR', hq⟩ => ?_
      cases e with
      | normal =>
        obtain ⟨s'', hle, hrec⟩ := hq
        obtain ⟨E, hX, hF, hR'⟩ := hR'
        obtain ⟨A'', κ'', hR''⟩ := hle E N df a' w' A' κ' ((re_n0 hF).trans hn) hR'
        have hR'' : RelX X F G N df s'' a' w' A'' κ'' := ⟨E, hX, hF, hR''⟩
        exact ⟨s'', A'', κ'', hR'', hrec⟩
      | _ => exact ⟨s', A', κ', hR', hq⟩
    exact key m s0 a w A0 κ0 hR0 h
  | .region id ops D, X, hC, ro, n, F, n0, hn, df, hmk, Q, s, a, w, A, κ, hf, hR, h => by
    simp only [codeFits, Bool.and_eq_true, List.all_eq_true, Bool.or_eq_true, Bool.not_eq_true'] at hf
    cases D with
    | false => exact wpIn_region_list (by
        have := region_sound hC (D := false) (ro := ro) (n := n) (Q := fun e a' w' => ∃ s' A' κ', RelX X F G N df s' a' w' A' κ' ∧ Q e s') hf.1 (fun s a w A κ hR hK => ⟨s, A, κ, hR, hK⟩) ops.toList 0 [] s a w A κ (fun o ho => ho) hR h
        simpa using this)
    | true => exact region_draw_sound hC hm hf.1 (hf.2.resolve_left (by simp)) hR (fun s a w A κ hR hK => ⟨s, A, κ, hR, hK⟩) h
  | .rangeFunc g ps x y, X, hC, ro, n, F, n0, hn, df, hmk, Q, s, a, w, A, κ, hf, hR, h => by
    simp only [codeFits, Bool.and_eq_true] at hf
    obtain ⟨rfl, hmk'⟩ := hmk.resolve_left (by simp [noR])
    exact range_sound hC hmk' hn hf.1 (fun X hC ro n F n0 hn df Q s a w A κ => wp_sound hm x X hC ro n F n0 hn df (Or.inl hf.2.2.1.1) Q s a w A κ hf.2.2.2.1)
      (fun X hC ro n F n0 hn df Q s a w A κ => wp_sound hm y X hC ro n F n0 hn df (Or.inl hf.2.2.1.2) Q s a w A κ hf.2.2.2.2) Q s a w A κ hR h
  | .scope _, _, _, _, _, _, _, _, _, _, _, _, _, _, _, _, _, _, h => h.elim
  | .goto _, _, _, _, _, _, _, _, _, _, _, _, _, _, _, _, _, _, h => h.elim
  | .refuse _, _, _, _, _, _, _, _, _, _, _, _, _, _, _, _, _, _, h => h.elim

end
end Go.PI
