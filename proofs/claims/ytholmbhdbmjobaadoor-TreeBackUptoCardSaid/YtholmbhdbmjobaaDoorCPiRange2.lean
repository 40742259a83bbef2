/-
  PI: a range over a function, in the model.
-/
import Derived.Test.YtholmbhdbmjobaaDoorCPiRange
import Derived.RangeFuncIn
set_option linter.unusedVariables false
set_option linter.unusedSimpArgs false
namespace Go.PI
open Go.RowKit

/-- The rounds that are left. -/
def restW (P : Program) (G : Gl) (C : Contracts) (LeF : Nat → St → St → Prop) (n1 : Nat) (assign body : Code) (ps : List Tmp) (Q : Exit → St → Prop) (t : Tm) (xs : List (List PV)) : Nat → St → Prop :=
  List.rec (motive := fun _ => Nat → St → Prop) (fun _ s' => Q .normal { s' with t := t })
    (fun x _ ih k s' => wp P G C (FnH P G) (LeF, n1) assign (thenQ (wp P G C (FnH P G) (LeF, n1) body (roundQ Q t ih (LeF n1) k)) (fun _ _ => False)) { s' with t := setPs t ps x }) xs

section
variable {P : Program} {G : Gl} {C : Contracts} {X : Env → Prop} {N : Nat} {w : World} {A : Nat → Prop} {κ : Ka}

theorem setPs_tm : ∀ (ps : List Tmp) (xs : List PV) (vs : List Value) (t : Tm) (T : Array Value), RVs w A κ xs vs → T.size = N → (∀ i, i < N → RV w A κ (t i) (T.getD i undef)) → xs.length = ps.length →
    ((ps.zip vs).foldl (fun tmps (t, a) => tmps.setIfInBounds t a) T).size = N ∧ ∀ i, i < N → RV w A κ (setPs t ps xs i) (((ps.zip vs).foldl (fun tmps (t, a) => tmps.setIfInBounds t a) T).getD i undef)
  | [], [], _, t, T, _, hT, ht, _ => ⟨hT, ht⟩
  | p :: ps, x :: xs, [], _, _, h, _, _, _ => by have := h.1; simp at this
  | p :: ps, x :: xs, v :: vs, t, T, h, hT, ht, hl => by
    simp only [List.zip_cons_cons, List.foldl_cons, setPs]
    refine setPs_tm ps xs vs (tset t p x) (T.setIfInBounds p v) ⟨by have := h.1; simpa using this, fun i d hd => ?_⟩ (by simp [hT]) (fun i hi => ?_) (by simpa using hl)
    · have := h.2 (i + 1) d (by simpa using hd)
      simpa using this
    · by_cases e : i = p
      · subst e
        have hv := h.2 0 x rfl
        simp only [List.getD_cons_zero] at hv
        simp only [tset, if_true]
        rw [Array.getD_eq_getD_getElem?, Array.getElem?_setIfInBounds_self_of_lt (by omega)]
        exact hv
      · simp only [tset, if_neg e]
        rw [Array.getD_eq_getD_getElem?, Array.getElem?_setIfInBounds_ne (fun h => e h.symm), ← Array.getD_eq_getD_getElem?]
        exact ht i hi

/-- A record turns that nothing stands on. -/
theorem HR.turn {E : Env} {h : Hp} {z : Fz} (H : HR E G w A κ h z) {l : Nat} {r : Loop} (o' : Obj) (hl : w.heap[l]? = some (.loop r)) (hB : E.B ≤ l) (hZ : E.Z l) : HR { E with kw := w.putObj l o' } G (w.putObj l o') A κ h z := by
  obtain ⟨hK, hA, hS⟩ := H.kp.zk l hZ
  have oth : ∀ b, b ≠ l → (w.putObj l o').heap[b]? = w.heap[b]? := fun b hb => World.putObj_heap_other hb
  have hcell : ∀ b o, A b → (w.putObj l o').cell? ⟨b, o, none⟩ = w.cell? ⟨b, o, none⟩ := fun b o hb => cell?_of_heap (oth b (fun e => by subst e; exact hA hb)) o
  have mono : ∀ {d v}, RV w A κ d v → RV (w.putObj l o') A κ d v := fun hv => hv.mono (fun _ h => h) hcell (fun _ _ h => h)
  refine ⟨H.bel.trans ⟨rfl, rfl, rfl, by simp, fun k hk => oth k (by omega)⟩, by simp [H.hB], fun b hb => by simp; exact H.alt b hb, H.a0, H.a1, fun b o hb => (hcell b o (H.a0 b hb)).trans (H.acell b o hb), H.k0, fun g e hg => mono (H.glob g e hg), fun r m sz cap hr => by simpa using H.klt r m sz cap hr,
    ⟨H.kp.base.trans ⟨rfl, rfl, rfl, by simp, fun k hk => by omega⟩, fun b hb => ⟨by simp; exact (H.kp.keep b hb).1, (oth b (fun e => by subst e; exact hS hb)).trans (H.kp.keep b hb).2⟩, H.kp.wr, H.kp.own,
      fun D hD => ⟨(H.kp.mks D hD).1, (H.kp.mks D hD).2.1, (oth D (fun e => by have := (H.kp.mks D hD).2.2; rw [e, hl] at this; cases this)).trans (H.kp.mks D hD).2.2⟩, H.kp.nd,
      Below.refl _ _, fun b hb => ⟨by simp; exact (H.kp.kk b hb).1, rfl, (H.kp.kk b hb).2.2⟩, H.kp.zk, H.kp.mk0, H.kp.gk⟩, fun r b hb hκ => ?_, H.excl⟩
  obtain ⟨m, cap, h1, h2, h3, h4⟩ := H.blk r b hb hκ
  refine ⟨m, cap, h1, h2, h3, ?_⟩
  rcases h4 with h4 | ⟨c, ty, g1, g2, g3, g4, g5, g6, g7⟩
  · exact Or.inl h4
  · exact Or.inr ⟨c, ty, g1, (oth m (fun e => by rw [e, hl] at g2; cases g2)).trans g2, g3, g4, fun i e he => (g5 i e he).mono (fun _ h => h) hcell (fun _ _ h => h), g6, g7⟩

/-- One who ranges, between two rounds. -/
structure Run (G : Gl) (X : Env → Prop) (F1 : Env) (l : Nat) (S Wr : Nat → Prop) (W : World) (r : Loop) (E : Env) (A : Nat → Prop) (κ : Ka) (s : St) : Prop where
  lt : ∀ b, S b → b < W.heap.size
  wrS : ∀ b, Wr b → S b
  old : ∀ b, b < F1.w1.heap.size → S b
  x : X E
  re : E.re F1 = E
  m : E.M = F1.M0
  hr : HR E G W A κ s.h s.z
  fresh : Fresh s.nx κ s.h s.z
  n0 : F1.n0 ≤ s.nx
  cov : Cov S E A κ s.h
  wr : ∀ b, S b → ¬ A b → Wr b
  lp : F1.B ≤ l ∧ ¬ E.S l ∧ ¬ A l ∧ S l
  lK : ¬ F1.K l
  rc : W.heap[l]? = some (.loop r)

theorem Run.stable {F1 : Env} {l : Nat} {S Wr : Nat → Prop} {W W' : World} {r : Loop} {E : Env} {s : St} (h : Run G X F1 l S Wr W r E A κ s) (hb : Below 0 W W') (hS : ∀ b, S b → W'.heap[b]? = W.heap[b]?) : Run G X F1 l S Wr W' r E A κ s :=
  ⟨fun b q => Nat.lt_of_lt_of_le (h.lt b q) hb.size, h.wrS, h.old, h.x, h.re, h.m, h.hr.same h.cov hb hS, h.fresh, h.n0, h.cov, h.wr, h.lp, h.lK, (hS l h.lp.2.2.2).trans h.rc⟩

theorem re_K {E F : Env} (h : E.re F = E) : E.K = F.K ∧ E.Z = F.Z ∧ E.kw = F.kw ∧ E.B = F.B ∧ E.A0 = F.A0 ∧ E.w1 = F.w1 ∧ E.κ0 = F.κ0 ∧ E.M0 = F.M0 ∧ E.n0 = F.n0 ∧ E.gh = F.gh := by
  rw [← h]; exact ⟨rfl, rfl, rfl, rfl, rfl, rfl, rfl, rfl, rfl, rfl⟩

/-- The surroundings of a round. -/
def Env.round (F1 : Env) (l : Nat) (S Wr : Nat → Prop) (W : World) (A Ay : Nat → Prop) : Env :=
  { F1 with A0 := fun b => A b ∨ Ay b, w1 := W, kw := W, K := fun b => F1.K b ∨ (b < W.heap.size ∧ ¬ Wr b) ∨ b = l, Z := fun b => F1.Z b ∨ (b < W.heap.size ∧ ¬ S b ∧ ¬ Ay b) ∨ b = l }

/-- A ROUND BEGINS. -/
theorem Run.enter (hC : XOk P G C X) {F1 : Env} {l : Nat} {S Wr : Nat → Prop} {W : World} {r : Loop} {E : Env} {s : St} (h : Run G X F1 l S Wr W r E A κ s) {Ay : Nat → Prop} (hy : ∀ b, Ay b → b < W.heap.size ∧ ¬ Wr b) (h1 : F1.B ≤ F1.w1.heap.size) :
    ∃ E', X E' ∧ E'.re (F1.round l S Wr W A Ay) = E' ∧ E'.M = F1.M0 ∧ HR E' G W (fun b => A b ∨ Ay b) κ s.h s.z := by
  obtain ⟨eK, eZ, ekw, eB, eA0, ew1, eκ0, eM0, en0, egh⟩ := re_K h.re
  have hlS : l < W.heap.size := h.lt l h.lp.2.2.2
  have hWl : Wr l := h.wr l h.lp.2.2.2 h.lp.2.2.1
  have ownS : ∀ r b m sz cap, s.h r = some b → κ r = some (m, sz, cap) → cap ≠ 0 → s.z r = false → Wr m ∧ m ≠ l := fun r b m sz cap hb hk hc hz => by
    obtain ⟨m0, cap0, e1, e2, e3, e4⟩ := h.hr.blk r b hb (by rw [hk]; simp)
    rw [hk] at e1; cases e1
    obtain ⟨c, ty, g1, g2, g3, g4, g5, g6, g7⟩ := e4.resolve_left hc
    exact ⟨h.wr m (h.cov.o r b m _ cap hb hk hc) (g6 hz), fun e => by rw [e, h.rc] at g2; cases g2⟩
  have wrW : ∀ b, E.Wr b → Wr b := fun b hb => h.wr b (h.cov.s b (h.hr.kp.wr b hb).1) (h.hr.kp.wr b hb).2
  have oldA : ∀ b, b < F1.w1.heap.size → Ay b → A b := fun b hb hA => Classical.byContradiction fun hn => (hy b hA).2 (h.wr b (h.old b hb) hn)
  have yZ : ∀ b, Ay b → ¬ E.Z b := fun b hb hz => by
    have hK := (h.hr.kp.zk b hz).1
    refine (h.hr.kp.zk b hz).2.1 (Classical.byContradiction fun hn => (hy b hb).2 (h.wr b (h.cov.k b hK) hn))
  have H1 := h.hr.more (X := Ay) (fun b hb => (hy b hb).1) (fun b hb => by
      by_cases hlt : b < E.B
      · exact Or.inl (oldA b (by rw [eB] at hlt; omega) hb)
      · exact Or.inr (by omega)) (fun b hb hw => (hy b hb).2 (wrW b hw)) (fun D hD hA => (hy D hA).2 (h.wr D (h.cov.m D hD) (h.hr.kp.mks D hD).2.1.2)) yZ
    (fun r b m sz cap hb hk hc hz hA => (hy m hA).2 (ownS r b m sz cap hb hk hc hz).1)
  refine ⟨E.re (F1.round l S Wr W A Ay), hC.anch _ _ h.x egh.symm, rfl, h.m, H1.anchor _ (fun b hb => hb) (fun b hb => Or.inl hb) (fun b o _ => rfl) (fun r hr => ?_) (fun hg => ?_) eB.symm (Below.refl _ _) (fun b hb => ?_) (fun b hb => ?_) (fun D hD => Or.inl (by rw [h.m] at hD; exact hD)) (fun r b m sz cap hb hk hc hz => ?_) egh.symm⟩
  · have := h.hr.k0 r (by rw [en0]; exact hr)
    rw [eκ0] at this; exact this
  · have := (h.hr.kp.gk hg).1
    rw [en0] at this; exact this
  · rcases hb with hb | hb | hb
    · rw [← eK] at hb
      exact ⟨(h.hr.kp.kk b hb).1, rfl, (h.hr.kp.kk b hb).2.2⟩
    · exact ⟨hb.1, rfl, fun hw => hb.2 (wrW b hw)⟩
    · subst hb
      exact ⟨hlS, rfl, fun hw => h.lp.2.1 (h.hr.kp.wr _ hw).1⟩
  · rcases hb with hb | hb | hb
    · refine ⟨Or.inl (eK ▸ (h.hr.kp.zk b (eZ ▸ hb)).1), fun hA => ?_, (h.hr.kp.zk b (eZ ▸ hb)).2.2⟩
      rcases hA with hA | hA
      · exact (h.hr.kp.zk b (eZ ▸ hb)).2.1 hA
      · exact yZ b hA (eZ ▸ hb)
    · exact ⟨Or.inr (Or.inl ⟨hb.1, fun hw => hb.2.1 (h.wrS b hw)⟩), fun hA => hA.elim (fun hA => hb.2.1 (h.cov.a b hA)) hb.2.2, fun hs => hb.2.1 (h.cov.s b hs)⟩
    · subst hb
      exact ⟨Or.inr (Or.inr rfl), fun hA => hA.elim h.lp.2.2.1 (fun hA => (hy _ hA).2 hWl), h.lp.2.1⟩
  · obtain ⟨g1, g2⟩ := ownS r b m sz cap hb hk hc hz
    rintro (q | q | q)
    · exact (h.hr.kp.own r b m sz cap hb hk hc hz).2 (eK ▸ q)
    · exact q.2 g1
    · exact g2 q

/-- A ROUND ENDS. -/
theorem Run.leave (hC : XOk P G C X) {F1 : Env} {l : Nat} {S Wr : Nat → Prop} {W : World} {r r2 r' : Loop} {E : Env} {s : St} (h : Run G X F1 l S Wr W r E A κ s) {Ay : Nat → Prop} (hy : ∀ b, Ay b → b < W.heap.size ∧ ¬ Wr b) (h1 : F1.B ≤ F1.w1.heap.size)
    {E3 : Env} {kw : World} {A3 : Nat → Prop} {κ3 : Ka} {s3 : St} {w3 : World} (hX : X E3) (hre : E3.re { F1.round l S Wr W A Ay with kw := kw } = E3) (hM : E3.M = F1.M0) (H : HR E3 G w3 A3 κ3 s3.h s3.z) (hf : Fresh s3.nx κ3 s3.h s3.z) (hn : F1.n0 ≤ s3.nx)
    (hkb : Below 0 W kw) (hkw : ∀ b, (F1.round l S Wr W A Ay).K b → b ≠ l → kw.heap[b]? = W.heap[b]?) (hl3 : w3.heap[l]? = some (.loop r2)) :
    ∃ S' Wr' E', Run G X F1 l S' Wr' (w3.putObj l (.loop r')) r' E' A3 κ3 s3 ∧ Below 0 W (w3.putObj l (.loop r')) ∧ (∀ b, b < W.heap.size → ¬ Wr b → (w3.putObj l (.loop r')).heap[b]? = W.heap[b]?) ∧
      (∀ b, Wr' b → Wr b ∨ W.heap.size ≤ b) ∧ (∀ b, S' b → S b ∨ Ay b ∨ W.heap.size ≤ b) := by
  obtain ⟨fK, fZ, fkw, fB, fA0, fw1, fκ0, fM0, fn0, fgh⟩ := re_K h.re
  obtain ⟨eK, eZ, ekw, eB, eA0, ew1, eκ0, eM0, en0, egh⟩ := re_K hre
  have hZl : E3.Z l := by rw [eZ]; exact Or.inr (Or.inr rfl)
  have hWl : Wr l := h.wr l h.lp.2.2.2 h.lp.2.2.1
  have hB3 : E3.B = F1.B := eB
  have T := H.turn (.loop r') hl3 (by rw [hB3]; exact h.lp.1) hZl
  have hsz : W.heap.size ≤ w3.heap.size := by have := H.kp.kb; rw [ekw] at this; exact Nat.le_trans hkb.size this.size
  have hb3 : Below 0 W (w3.putObj l (.loop r')) := by
    have := H.kp.kb; rw [ekw] at this
    exact (hkb.trans this).trans ⟨rfl, rfl, rfl, by simp, fun k hk => by omega⟩
  have hkeep : ∀ b, (F1.round l S Wr W A Ay).K b → b ≠ l → (w3.putObj l (.loop r')).heap[b]? = W.heap[b]? := fun b hb hne => by
    have := (H.kp.kk b (by rw [eK]; exact hb)).2.1
    rw [World.putObj_heap_other hne, this, ekw]
    exact hkw b hb hne
  have hAA : ∀ b, A b ∨ Ay b → A3 b := fun b hb => H.a0 b (by rw [eA0]; exact hb)
  have wrW : ∀ b, E.Wr b → Wr b := fun b hb => h.wr b (h.cov.s b (h.hr.kp.wr b hb).1) (h.hr.kp.wr b hb).2
  have oldA : ∀ b, b < F1.w1.heap.size → Ay b → A b := fun b hb hA => Classical.byContradiction fun hn => (hy b hA).2 (h.wr b (h.old b hb) hn)
  have hcel : ∀ b o, A b ∨ Ay b → (w3.putObj l (.loop r')).cell? ⟨b, o, none⟩ = W.cell? ⟨b, o, none⟩ := fun b o hb => by
    have := T.acell b o (by show E3.A0 b; rw [eA0]; exact hb)
    rw [this]; show E3.w1.cell? _ = _; rw [ew1]; rfl
  have K1 : ∀ b, F1.K b → E3.K b := fun b hb => by rw [eK]; exact Or.inl hb
  have lne : ∀ b, F1.K b → b ≠ l := fun b hb e => h.lK (e ▸ hb)
  have HA := T.anchor F1 (fun b hb => hAA b (Or.inl (h.hr.a0 b (fA0 ▸ hb)))) (fun b hb => by
      rcases H.a1 b hb with q | q
      · rw [eA0] at q
        rcases q with q | q
        · rcases h.hr.a1 b q with q | q
          · exact Or.inl (fA0 ▸ q)
          · exact Or.inr (by show E3.B ≤ b; rw [hB3]; rw [fB] at q; exact q)
        · by_cases hlt : b < F1.w1.heap.size
          · rcases h.hr.a1 b (oldA b hlt q) with q | q
            · exact Or.inl (fA0 ▸ q)
            · exact Or.inr (by show E3.B ≤ b; rw [hB3]; rw [fB] at q; exact q)
          · exact Or.inr (by show E3.B ≤ b; rw [hB3]; omega)
      · exact Or.inr q) (fun b o hb => by
      rw [hcel b o (Or.inl (h.hr.a0 b (fA0 ▸ hb)))]
      have := h.hr.acell b o (fA0 ▸ hb)
      rw [fw1] at this; exact this) (fun r hr => by
      have := H.k0 r (by rw [en0]; exact hr)
      rw [eκ0] at this; exact this) (fun hg => by
      have := (H.kp.gk hg).1
      rw [en0] at this; exact this) (by show F1.B = E3.B; rw [hB3]) (by have := h.hr.kp.kb; rw [fkw] at this; exact this.trans hb3) (fun b hb => by
      have q := h.hr.kp.kk b (fK ▸ hb)
      refine ⟨by simp; omega, ?_, (H.kp.kk b (K1 b hb)).2.2⟩
      rw [hkeep b (Or.inl hb) (lne b hb), q.2.1, fkw]) (fun b hb => by
      have q := H.kp.zk b (by rw [eZ]; exact Or.inl hb)
      exact ⟨fK ▸ (h.hr.kp.zk b (fZ ▸ hb)).1, q.2.1, q.2.2⟩) (fun D hD => Or.inl (by rw [← hM]; exact hD)) (fun r b m sz cap hb hk hc hz q => (H.kp.own r b m sz cap hb hk hc hz).2 (K1 m q)) egh.symm
  have notZ : ∀ b, b < W.heap.size → ¬ E3.Z b → S b ∨ Ay b := fun b hlt hz => Classical.byContradiction fun hn => hz (by
    rw [eZ]; exact Or.inr (Or.inl ⟨hlt, fun q => hn (Or.inl q), fun q => hn (Or.inr q)⟩))
  have side : ∀ b, b < w3.heap.size → ¬ E3.Z b → b < w3.heap.size ∧ (S b ∨ Ay b ∨ W.heap.size ≤ b) := fun b hb hz => ⟨hb, by
    by_cases hlt : b < W.heap.size
    · rcases notZ b hlt hz with q | q
      · exact Or.inl q
      · exact Or.inr (Or.inl q)
    · exact Or.inr (Or.inr (by omega))⟩
  have oldS : ∀ b, b < F1.w1.heap.size → b < w3.heap.size ∧ (S b ∨ Ay b ∨ W.heap.size ≤ b) := fun b hb => ⟨Nat.lt_of_lt_of_le (h.lt b (h.old b hb)) hsz, Or.inl (h.old b hb)⟩
  refine ⟨fun b => b < w3.heap.size ∧ (S b ∨ Ay b ∨ W.heap.size ≤ b), fun b => (b < w3.heap.size ∧ (S b ∨ Ay b ∨ W.heap.size ≤ b)) ∧ ¬ A3 b, E3.re F1,
    ⟨fun b hb => by simp; exact hb.1, fun b hb => hb.1, oldS, hC.anch E3 F1 hX egh.symm, rfl, hM, HA, hf, hn, ?_, fun b hb hA => ⟨hb, hA⟩, ⟨h.lp.1, (H.kp.zk l hZl).2.2, (H.kp.zk l hZl).2.1, Nat.lt_of_lt_of_le (h.lt l h.lp.2.2.2) hsz, Or.inl h.lp.2.2.2⟩, h.lK, World.putObj_heap_same (Array.getElem?_eq_some_iff.1 hl3).1⟩,
    hb3, fun b hlt hw => ?_, fun b hb => ?_, fun b hb => hb.2⟩
  · refine ⟨fun b hb => oldS b (by have e : b < F1.B := hb; omega), fun b hb => side b (H.alt b hb) fun hz => (H.kp.zk b hz).2.1 hb, fun b hb => side b (H.kp.keep b hb).1 fun hz => (H.kp.zk b hz).2.2 hb, fun D hD => ?_, fun b hb => ?_, fun r b m sz cap hb hk hc => ?_⟩
    · have q := h.cov.m D (by rw [h.m]; exact hM ▸ hD)
      exact ⟨Nat.lt_of_lt_of_le (h.lt D q) hsz, Or.inl q⟩
    · have q := h.cov.k b (by rw [fK]; exact hb)
      exact ⟨Nat.lt_of_lt_of_le (h.lt b q) hsz, Or.inl q⟩
    · refine side m ((H.klt r m sz cap hk).resolve_left hc) fun hz => ?_
      obtain ⟨m0, cap0, e1, e2, e3, e4⟩ := H.blk r b hb (by rw [hk]; simp)
      rw [hk] at e1; cases e1
      obtain ⟨c, ty, g1, g2, g3, g4, g5, g6, g7⟩ := e4.resolve_left hc
      cases hzr : s3.z r with
      | false => exact (H.kp.own r b m _ cap hb hk hc hzr).2 (H.kp.zk m hz).1
      | true => exact (H.kp.zk m hz).2.1 (g7 hzr)
  · exact hkeep b (Or.inr (Or.inl ⟨hlt, hw⟩)) (fun e => hw (e ▸ hWl))
  · by_cases hlt : b < W.heap.size
    · left
      rcases hb.1.2 with q | q | q
      · exact h.wr b q fun hA => hb.2 (hAA b (Or.inl hA))
      · exact absurd (hAA b (Or.inr q)) hb.2
      · omega
    · exact Or.inr (by omega)
end
end Go.PI
