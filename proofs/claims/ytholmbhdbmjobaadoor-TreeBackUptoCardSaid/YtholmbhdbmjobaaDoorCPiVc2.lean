/-
  PI: 'vOp' is sound: what it says of an operation, the operation does.
-/
import Derived.Test.YtholmbhdbmjobaaDoorCPiVc
set_option linter.unusedVariables false
set_option linter.unusedSimpArgs false
namespace Go.PI

section
variable {P : Program} {T : Ti} {G : Gl}

theorem elim_need {c : Prop} [Decidable c] {x : Res} {r : PV × Hp × List Nat × List Nat} (hc : c) (hx : x = some r) : need c x = some r := by unfold need; rw [if_pos hc]; exact hx

theorem binNil_elim (hT : ∀ i x, T i = some x → tinfo P i = x) {xt : TypeId} {ng : Bool} {v : PV} {K : PV → Prop} (h : binNil T xt ng v K) :
    (tinfo P xt).isSlice = true ∧ ∃ r, isNil v = some r ∧ K (if ng then notB r else r) := by
  unfold binNil at h
  obtain ⟨i, h1, h⟩ := oK_elim h
  obtain ⟨h2, h⟩ := brT_elim h
  rw [hT _ _ h1]
  refine ⟨h2, ?_⟩
  cases v with
  | nilsl => exact ⟨_, rfl, by cases ng <;> exact h⟩
  | imm es =>
    cases es with
    | nil => exact ⟨_, rfl, by cases ng <;> exact h⟩
    | cons => exact ⟨_, rfl, by cases ng <;> exact h⟩
  | own r off len =>
    cases len with
    | zero => exact ⟨.anyb, by simp [isNil], by cases ng <;> exact h⟩
    | succ n => exact ⟨.bool false, by simp [isNil], by cases ng <;> exact h⟩
  | _ => exact h.elim

theorem binV_elim (hT : ∀ i x, T i = some x → tinfo P i = x) {op : BinOp} {xt yt : TypeId} {x y : Operand} {z : Fz} {key : Nat} {t : Tm} {h : Hp} {K : PV → Prop} (hv : binV T op xt (ev G t x) (ev G t y) K) :
    ∃ v, evalOp P G z key (.binOp op xt x y yt) t h = some (v, h, [], []) ∧ K v := by
  unfold binV at hv
  simp only [evalOp]
  split at hv
  · rename_i k a k' b e1 e2
    rw [e1, e2]
    dsimp only
    cases op with
    | add => obtain ⟨h1, hv⟩ := brT_elim hv; rw [kk_iff] at h1; rw [if_pos h1]; exact ⟨_, rfl, ov_elim hv⟩
    | sub => obtain ⟨h1, hv⟩ := brT_elim hv; rw [kk_iff] at h1; rw [if_pos h1]; exact ⟨_, rfl, ov_elim hv⟩
    | mul => obtain ⟨h1, hv⟩ := brT_elim hv; rw [kk_iff] at h1; rw [if_pos h1]; exact ⟨_, rfl, ov_elim hv⟩
    | quo => obtain ⟨h1, hv⟩ := brT_elim hv; rw [kk_iff] at h1; rw [if_pos h1]; obtain ⟨h2, hv⟩ := sideD_elim hv; exact ⟨_, elim_need h2 rfl, ov_elim hv⟩
    | rem => obtain ⟨h1, hv⟩ := brT_elim hv; rw [kk_iff] at h1; rw [if_pos h1]; obtain ⟨h2, hv⟩ := sideD_elim hv; exact ⟨_, elim_need h2 rfl, hv⟩
    | and => obtain ⟨h1, hv⟩ := brT_elim hv; rw [kk_iff] at h1; rw [if_pos h1]; unfold bitF at hv; exact ⟨_, rfl, hv⟩
    | or => obtain ⟨h1, hv⟩ := brT_elim hv; rw [kk_iff] at h1; rw [if_pos h1]; unfold bitF at hv; exact ⟨_, rfl, hv⟩
    | xor => obtain ⟨h1, hv⟩ := brT_elim hv; rw [kk_iff] at h1; rw [if_pos h1]; unfold bitF at hv; exact ⟨_, rfl, hv⟩
    | andNot => obtain ⟨h1, hv⟩ := brT_elim hv; rw [kk_iff] at h1; rw [if_pos h1]; unfold bitF at hv; exact ⟨_, rfl, hv⟩
    | shl =>
      obtain ⟨h2, hv⟩ := sideD_elim hv
      have hv := ov_elim hv
      unfold shl2 at hv
      by_cases e : k = k'
      · rw [if_pos e]; exact ⟨_, elim_need h2 rfl, hv⟩
      · rw [if_neg e]; exact ⟨_, elim_need h2 rfl, hv⟩
    | shr =>
      obtain ⟨h2, hv⟩ := sideD_elim hv
      unfold shl2 at hv
      by_cases e : k = k'
      · rw [if_pos e]; exact ⟨_, elim_need h2 rfl, hv⟩
      · rw [if_neg e]; exact ⟨_, elim_need h2 rfl, hv⟩
    | eql => obtain ⟨h1, hv⟩ := brT_elim hv; rw [kk_iff] at h1; rw [if_pos h1]; exact ⟨_, rfl, hv⟩
    | neq => obtain ⟨h1, hv⟩ := brT_elim hv; rw [kk_iff] at h1; rw [if_pos h1]; exact ⟨_, rfl, hv⟩
    | lss => obtain ⟨h1, hv⟩ := brT_elim hv; rw [kk_iff] at h1; rw [if_pos h1]; exact ⟨_, rfl, hv⟩
    | leq => obtain ⟨h1, hv⟩ := brT_elim hv; rw [kk_iff] at h1; rw [if_pos h1]; exact ⟨_, rfl, hv⟩
    | gtr => obtain ⟨h1, hv⟩ := brT_elim hv; rw [kk_iff] at h1; rw [if_pos h1]; exact ⟨_, rfl, hv⟩
    | geq => obtain ⟨h1, hv⟩ := brT_elim hv; rw [kk_iff] at h1; rw [if_pos h1]; exact ⟨_, rfl, hv⟩
  · rename_i a b e1 e2
    rw [e1, e2]
    cases op with
    | eql => obtain ⟨i, h1, hv⟩ := oK_elim hv; obtain ⟨h2, hv⟩ := brT_elim hv; exact ⟨_, elim_need (by rw [hT _ _ h1]; exact h2) rfl, hv⟩
    | neq => obtain ⟨i, h1, hv⟩ := oK_elim hv; obtain ⟨h2, hv⟩ := brT_elim hv; exact ⟨_, elim_need (by rw [hT _ _ h1]; exact h2) rfl, hv⟩
    | _ => exact hv.elim
  · rename_i as bs e1 e2
    rw [e1, e2]
    cases op with
    | eql =>
      obtain ⟨i, h1, hv⟩ := oK_elim hv; obtain ⟨h2, hv⟩ := brT_elim hv; obtain ⟨r, h3, hv⟩ := oK_elim hv
      simp only [an_iff, beq_iff] at h2
      exact ⟨_, elim_need (by rw [hT _ _ h1]; exact h2) (by rw [h3]; rfl), hv⟩
    | neq =>
      obtain ⟨i, h1, hv⟩ := oK_elim hv; obtain ⟨h2, hv⟩ := brT_elim hv; obtain ⟨r, h3, hv⟩ := oK_elim hv
      simp only [an_iff, beq_iff] at h2
      exact ⟨_, elim_need (by rw [hT _ _ h1]; exact h2) (by rw [h3]; rfl), hv⟩
    | _ => exact hv.elim
  · rename_i e1 e2
    rw [e1, e2]
    cases op with
    | eql => obtain ⟨h1, r, h2, h3⟩ := binNil_elim hT hv; exact ⟨_, elim_need h1 (by rw [h2]; rfl), h3⟩
    | neq => obtain ⟨h1, r, h2, h3⟩ := binNil_elim hT hv; exact ⟨_, elim_need h1 (by rw [h2]; rfl), h3⟩
    | _ => exact hv.elim
  · rename_i es e1 e2
    rw [e1, e2]
    cases op with
    | eql => obtain ⟨h1, r, h2, h3⟩ := binNil_elim hT hv; exact ⟨_, elim_need h1 (by rw [h2]; rfl), h3⟩
    | neq => obtain ⟨h1, r, h2, h3⟩ := binNil_elim hT hv; exact ⟨_, elim_need h1 (by rw [h2]; rfl), h3⟩
    | _ => exact hv.elim
  · rename_i r0 off len e1 e2
    rw [e1, e2]
    cases op with
    | eql => obtain ⟨h1, r, h2, h3⟩ := binNil_elim hT hv; exact ⟨_, elim_need h1 (by rw [h2]; rfl), h3⟩
    | neq => obtain ⟨h1, r, h2, h3⟩ := binNil_elim hT hv; exact ⟨_, elim_need h1 (by rw [h2]; rfl), h3⟩
    | _ => exact hv.elim
  · exact hv.elim

theorem optI_elim {t : Tm} {o : Option Operand} {d : Int} {K : Int → Prop} (h : optI G t o d K) : ∃ n, ((o = none ∧ n = d) ∨ ∃ x k, o = some x ∧ ev G t x = .int k n) ∧ K n := by
  unfold optI at h
  cases o with
  | none => exact ⟨d, Or.inl ⟨rfl, rfl⟩, h⟩
  | some o =>
    dsimp only at h
    split at h
    · rename_i k n e; exact ⟨n, Or.inr ⟨o, k, rfl, e⟩, h⟩
    · exact h.elim

theorem srcK_elim {h : Hp} {v : PV} {K : List PV → List Nat → Prop} (hv : srcK h v K) : ∃ es ks, srcOf h v = some (es, ks) ∧ K es ks := by
  unfold srcK at hv
  split at hv
  · exact ⟨_, _, rfl, hv⟩
  · exact ⟨_, _, rfl, hv⟩
  · obtain ⟨b, h1, hv⟩ := oK_elim hv
    obtain ⟨h2, hv⟩ := sideD_elim hv
    exact ⟨_, _, by simp [srcOf, h1, h2], hv⟩
  · exact hv.elim

theorem vOp_sound (hT : ∀ i x, T i = some x → tinfo P i = x) {z : Fz} {key : Nat} {op : Op} {t : Tm} {h : Hp} {K : KK} (hv : vOp T G z key op t h K) :
    ∃ v h' rd wr, evalOp P G z key op t h = some (v, h', rd, wr) ∧ K v h' rd wr := by
  unfold vOp at hv
  split at hv
  · rw [force_eq] at hv; exact ⟨_, _, _, _, rfl, hv⟩
  · rw [force_eq] at hv; exact ⟨_, _, _, _, rfl, hv⟩
  · split at hv
    · rename_i v e
      simp only [evalOp, e]
      rw [force_eq, force_eq] at hv
      cases v with
      | true => exact ⟨_, _, _, _, rfl, hv⟩
      | false => exact ⟨_, _, _, _, rfl, hv⟩
    · exact hv.elim
  · obtain ⟨i, h1, hv⟩ := oK_elim hv; obtain ⟨h2, hv⟩ := brT_elim hv
    rw [hs_eq] at hv
    have h1 := hT _ _ h1
    subst h1
    exact ⟨_, _, _, _, elim_need h2 rfl, hv⟩
  · rw [force_eq] at hv
    obtain ⟨h2, hv⟩ := brT_elim hv
    rw [hs_eq] at hv
    exact ⟨_, _, _, _, elim_need h2 rfl, hv⟩
  · obtain ⟨i, h1, hv⟩ := oK_elim hv
    have h1 := hT _ _ h1
    subst h1
    simp only [evalOp]
    split at hv
    · rename_i ha
      obtain ⟨h2, hv⟩ := brT_elim hv
      rw [evp_eq] at hv
      obtain ⟨cs, h3, hv⟩ := fillFK_elim hv
      rw [an_iff] at h2
      rw [ha]
      exact ⟨_, _, _, _, elim_need h2 (by rw [h3]), hv⟩
    · rename_i n ha
      obtain ⟨e, h1, hv⟩ := oK_elim hv
      have h1 := hT _ _ h1
      subst h1
      obtain ⟨h2, hv⟩ := brT_elim hv
      rw [evp_eq] at hv
      obtain ⟨cs, h3, hv⟩ := fillFK_elim hv
      rw [an_iff, nz_iff] at h2
      rw [ha]
      exact ⟨_, _, _, _, elim_need h2 (by rw [h3]), hv⟩
  · obtain ⟨i, h1, hv⟩ := oK_elim hv
    have h1 := hT _ _ h1
    subst h1
    obtain ⟨e, h1, hv⟩ := oK_elim hv
    have h1 := hT _ _ h1
    subst h1
    obtain ⟨h2, hv⟩ := brT_elim hv
    rw [evp_eq] at hv
    obtain ⟨cs, h3, hv⟩ := fillEK_elim hv
    simp only [an_iff, beq_iff, ble_iff, bq_iff, nz_iff] at h2
    rw [hs_eq] at hv
    exact ⟨_, _, _, _, elim_need h2 (by rw [h3]), hv⟩
  · obtain ⟨i, h1, hv⟩ := oK_elim hv
    have h1 := hT _ _ h1
    subst h1
    split at hv
    · rename_i r j off e
      obtain ⟨b, h1, hv⟩ := oK_elim hv
      obtain ⟨d, h2, hv⟩ := oK_elim hv
      obtain ⟨v, h3, hv⟩ := partK_elim hv
      rw [nth_eq] at h2
      exact ⟨_, _, _, _, by simp only [evalOp, e, h1, h2, h3, Option.map_some], hv⟩
    · rename_i d off e
      obtain ⟨v, h3, hv⟩ := partK_elim hv
      exact ⟨_, _, _, _, by simp only [evalOp, e, h3, Option.map_some], hv⟩
    · exact hv.elim
  · rw [force_eq] at hv
    obtain ⟨i, h1, hv⟩ := oK_elim hv
    have h1 := hT _ _ h1
    subst h1
    split at hv
    · rename_i r j off e
      obtain ⟨b, h1, hv⟩ := oK_elim hv
      obtain ⟨d, h2, hv⟩ := oK_elim hv
      obtain ⟨h3, hv⟩ := brT_elim hv
      obtain ⟨e', h4, hv⟩ := spliceK_elim hv
      rw [nth_eq] at h2
      simp only [an_iff, beq_iff, no_iff, nz_iff] at h3
      rw [hs_eq] at hv
      exact ⟨_, _, _, _, by simp only [evalOp, e, h1, h2]; exact elim_need h3 (by rw [h4]; rfl), hv⟩
    · exact hv.elim
  · split at hv
    · rename_i e; exact ⟨_, _, _, _, by simp only [evalOp, e], hv⟩
    · rename_i e; exact ⟨_, _, _, _, by simp only [evalOp, e], hv⟩
    · exact hv.elim
  · obtain ⟨v, h1, hv⟩ := binV_elim hT (z := z) (key := key) (h := h) hv
    exact ⟨_, _, _, _, h1, hv⟩
  · split at hv
    · rename_i e; exact ⟨_, _, _, _, by simp only [evalOp, e], hv⟩
    · rename_i e; exact ⟨_, _, _, _, by simp only [evalOp, e], ov_elim hv⟩
    · exact hv.elim
  · obtain ⟨i, h1, hv⟩ := oK_elim hv
    have h1 := hT _ _ h1
    subst h1
    obtain ⟨j, h1, hv⟩ := oK_elim hv
    have h1 := hT _ _ h1
    subst h1
    split at hv
    · rename_i e1 e2 e3; exact ⟨_, _, _, _, by simp only [evalOp, e1, e2, e3], ov_elim hv⟩
    · exact hv.elim
  · rw [evs_eq, evs_eq] at hv; exact ⟨_, _, _, _, rfl, hv⟩
  · obtain ⟨i, h1, hv⟩ := oK_elim hv
    have h1 := hT _ _ h1
    subst h1
    obtain ⟨j, h1, hv⟩ := oK_elim hv
    have h1 := hT _ _ h1
    subst h1
    split at hv
    · rename_i n m e1 e2
      obtain ⟨h2, hv⟩ := brT_elim hv
      obtain ⟨h3, hv⟩ := sideD_elim hv
      simp only [an_iff, beq_iff, ble_iff, bq_iff, nz_iff] at h2
      rw [hs_eq] at hv
      obtain ⟨g1, g2, g3, g4, g5, g6⟩ := h2
      obtain ⟨k1, k2, k3⟩ := h3
      exact ⟨_, _, _, _, by simp only [evalOp, e1, e2]; exact elim_need ⟨k1, k2, k3, g1, g2, g3, g4, g5, g6⟩ rfl, hv⟩
    · exact hv.elim
  · obtain ⟨i, h1, hv⟩ := oK_elim hv
    have h1 := hT _ _ h1
    subst h1
    obtain ⟨j, h1, hv⟩ := oK_elim hv
    have h1 := hT _ _ h1
    subst h1
    split at hv
    · rename_i es e
      obtain ⟨a, h1, hv⟩ := optI_elim hv
      obtain ⟨b, h2, hv⟩ := optI_elim hv
      obtain ⟨h3, hv⟩ := brT_elim hv
      obtain ⟨h4, hv⟩ := sideP_elim (by unfold sideP at hv ⊢; exact hv)
      obtain ⟨h5, hv⟩ := sideD_elim hv
      have hv := slK_elim hv
      simp only [an_iff, nz_iff] at h3
      refine ⟨_, _, _, _, ?_, hv⟩
      rcases h1 with ⟨rfl, rfl⟩ | ⟨x1, k1, rfl, e1⟩ <;> rcases h2 with ⟨rfl, rfl⟩ | ⟨x2, k2, rfl, e2⟩ <;> (first | simp only [evalOp, e, e1, e2] | simp only [evalOp, e, e1] | simp only [evalOp, e, e2] | simp only [evalOp, e]) <;> exact elim_need ⟨h3.1, h4, h5.1, h5.2.1, h5.2.2, h3.2⟩ rfl
    · rename_i r off len e
      obtain ⟨a, h1, hv⟩ := optI_elim hv
      obtain ⟨b, h2, hv⟩ := optI_elim hv
      obtain ⟨k, h6, hv⟩ := oK_elim hv
      obtain ⟨h3, hv⟩ := brT_elim hv
      obtain ⟨h5, hv⟩ := sideD_elim hv
      simp only [an_iff, nz_iff, beq_iff] at h3
      refine ⟨_, _, _, _, ?_, hv⟩
      rcases h1 with ⟨rfl, rfl⟩ | ⟨x1, k1, rfl, e1⟩ <;> rcases h2 with ⟨rfl, rfl⟩ | ⟨x2, k2, rfl, e2⟩ <;> (first | simp only [evalOp, e, e1, e2, h6] | simp only [evalOp, e, e1, h6] | simp only [evalOp, e, e2, h6] | simp only [evalOp, e, h6]) <;> exact elim_need ⟨h3.1, h3.2.1, h5.1, h5.2.1, h5.2.2, h3.2.2⟩ rfl
    · exact hv.elim
  · obtain ⟨i, h1, hv⟩ := oK_elim hv
    have h1 := hT _ _ h1
    subst h1
    obtain ⟨q, h1, hv⟩ := oK_elim hv
    rw [nth_eq] at h1
    split at hv
    · rename_i e; obtain ⟨h2, hv⟩ := brT_elim hv; rw [nz_iff] at h2; exact ⟨_, _, _, _, by simp only [evalOp, e, h1]; exact elim_need h2 rfl, hv⟩
    · rename_i e; obtain ⟨h2, hv⟩ := brT_elim hv; rw [nz_iff] at h2; exact ⟨_, _, _, _, by simp only [evalOp, e, h1]; exact elim_need h2 rfl, hv⟩
    · exact hv.elim
  · obtain ⟨i, h1, hv⟩ := oK_elim hv
    have h1 := hT _ _ h1
    subst h1
    obtain ⟨q, h1, hv⟩ := oK_elim hv
    rw [nth_eq] at h1
    obtain ⟨u, h2, hv⟩ := oK_elim hv
    have h2 := hT _ _ h2
    subst h2
    split at hv
    · rename_i e
      obtain ⟨v, h3, hv⟩ := partK_elim hv
      exact ⟨_, _, _, _, by simp only [evalOp, e, h1, h3, Option.map_some], hv⟩
    · exact hv.elim
  · obtain ⟨i, h1, hv⟩ := oK_elim hv
    have h1 := hT _ _ h1
    subst h1
    obtain ⟨j, h1, hv⟩ := oK_elim hv
    have h1 := hT _ _ h1
    subst h1
    split at hv
    · rename_i es k n e1 e2
      obtain ⟨h2, hv⟩ := brT_elim hv
      obtain ⟨h3, hv⟩ := sideD_elim hv
      obtain ⟨d, h4, hv⟩ := oK_elim hv
      obtain ⟨h5, hv⟩ := brT_elim hv
      rw [force_eq] at hv
      rw [nth_eq] at h4
      simp only [an_iff, beq_iff, nz_iff] at h2 h5
      exact ⟨_, _, _, _, by simp only [evalOp, e1, e2]; exact elim_need ⟨h2.1, h3⟩ (by rw [h4]; exact elim_need ⟨h5, h2.2⟩ rfl), hv⟩
    · rename_i r off len k n e1 e2
      obtain ⟨h2, hv⟩ := brT_elim hv
      obtain ⟨h3, hv⟩ := sideD_elim hv
      obtain ⟨d, h4, hv⟩ := oK_elim hv
      obtain ⟨h5, hv⟩ := brT_elim hv
      simp only [an_iff, beq_iff, nz_iff] at h2 h5
      exact ⟨_, _, _, _, by simp only [evalOp, e1, e2]; exact elim_need ⟨h2.1, h3⟩ (by rw [h4]; exact elim_need ⟨h5, h2.2⟩ rfl), hv⟩
    · rename_i d off k n e1 e2
      obtain ⟨h2, hv⟩ := brT_elim hv
      obtain ⟨h3, hv⟩ := sideD_elim hv
      simp only [an_iff, nz_iff] at h2
      exact ⟨_, _, _, _, by simp only [evalOp, e1, e2]; exact elim_need ⟨h2.1, h3.1, h3.2, h2.2⟩ rfl, hv⟩
    · rename_i r j off k n e1 e2
      obtain ⟨h2, hv⟩ := brT_elim hv
      obtain ⟨h3, hv⟩ := sideD_elim hv
      simp only [an_iff, nz_iff] at h2
      exact ⟨_, _, _, _, by simp only [evalOp, e1, e2]; exact elim_need ⟨h2.1, h3.1, h3.2, h2.2⟩ rfl, hv⟩
    · exact hv.elim
  · obtain ⟨i, h1, hv⟩ := oK_elim hv
    have h1 := hT _ _ h1
    subst h1
    split at hv
    · rename_i cs k n e1 e2
      obtain ⟨j, h1, hv⟩ := oK_elim hv
      have h1 := hT _ _ h1
      subst h1
      obtain ⟨h2, hv⟩ := brT_elim hv
      obtain ⟨h3, hv⟩ := sideD_elim hv
      obtain ⟨v, h4, hv⟩ := partK_elim hv
      simp only [an_iff, nz_iff] at h2
      exact ⟨_, _, _, _, by simp only [evalOp, e1, e2]; exact elim_need ⟨h2.1, h3.1, h3.2, h2.2⟩ (by rw [h4]; rfl), hv⟩
    · rename_i s k n e1 e2
      obtain ⟨h2, hv⟩ := brT_elim hv
      obtain ⟨h3, hv⟩ := sideD_elim hv
      obtain ⟨b, h4, hv⟩ := oK_elim hv
      exact ⟨_, _, _, _, by simp only [evalOp, e1, e2]; exact elim_need ⟨h2, h3⟩ (by rw [h4]; rfl), hv⟩
    · exact hv.elim
  · split at hv
    · rename_i vs e
      obtain ⟨v, h1, hv⟩ := oK_elim hv
      rw [force_eq] at hv
      rw [nth_eq] at h1
      exact ⟨_, _, _, _, by simp only [evalOp, e, h1, Option.map_some], hv⟩
    · exact hv.elim
  · obtain ⟨i, h1, hv⟩ := oK_elim hv
    have h1 := hT _ _ h1
    subst h1
    obtain ⟨h2, hv⟩ := brT_elim hv
    split at hv
    · rename_i e; exact ⟨_, _, _, _, by simp only [evalOp, e]; exact elim_need h2 rfl, hv⟩
    · rename_i e; exact ⟨_, _, _, _, by simp only [evalOp, e]; exact elim_need h2 rfl, hv⟩
    · rename_i e; exact ⟨_, _, _, _, by simp only [evalOp, e]; exact elim_need h2 rfl, hv⟩
    · exact hv.elim
  · split at hv
    · rename_i e1 e2; exact ⟨_, _, _, _, by simp only [evalOp, e1, e2], hv⟩
    · exact hv.elim
  · split at hv
    · rename_i e1 e2; exact ⟨_, _, _, _, by simp only [evalOp, e1, e2], hv⟩
    · exact hv.elim
  · obtain ⟨i, h1, hv⟩ := oK_elim hv
    have h1 := hT _ _ h1
    subst h1
    obtain ⟨i2, h1, hv⟩ := oK_elim hv
    have h1 := hT _ _ h1
    subst h1
    obtain ⟨e, h1, hv⟩ := oK_elim hv
    have h1 := hT _ _ h1
    subst h1
    obtain ⟨es, ks, h2, hv⟩ := srcK_elim hv
    obtain ⟨h3, hv⟩ := brT_elim hv
    simp only [an_iff, beq_iff, ble_iff, nz_iff, allE_iff] at h3
    split at hv
    · rename_i e1
      obtain ⟨h4, hv⟩ := sideD_elim hv
      rw [hs_eq] at hv
      exact ⟨_, _, _, _, by simp only [evalOp, h2, e1]; exact elim_need h3 (elim_need h4 rfl), hv⟩
    · rename_i r off len e1
      obtain ⟨b, h4, hv⟩ := oK_elim hv
      obtain ⟨h5, hv⟩ := brT_elim hv
      obtain ⟨h6, hv⟩ := sideD_elim hv
      simp only [an_iff, beq_iff, bq_iff, no_iff, memN_eq] at h5
      rw [hs_eq, hs_eq] at hv
      exact ⟨_, _, _, _, by simp only [evalOp, h2, e1, h4]; exact elim_need h3 (elim_need ⟨h6.1, h6.2.1, h5.1, h5.2.1, h5.2.2.1, h5.2.2.2, h6.2.2⟩ rfl), hv⟩
    · exact hv.elim
  · exact hv.elim
end
end Go.PI
