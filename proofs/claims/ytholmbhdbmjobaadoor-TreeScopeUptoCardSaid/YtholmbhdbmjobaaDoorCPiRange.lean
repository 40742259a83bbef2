/-
  PI: a range over a function: how the surroundings turn.
-/
import Derived.Test.YtholmbhdbmjobaaDoorCPiRegion
import Derived.RangeFuncRecord
set_option linter.unusedVariables false
set_option linter.unusedSimpArgs false
namespace Go.PI
open Go.RowKit

section
variable {P : Program} {E : Env} {G : Gl} {w : World} {A : Nat → Prop} {κ : Ka} {h : Hp} {z : Fz}

/-- All that the state stands on. -/
structure Cov (S : Nat → Prop) (E : Env) (A : Nat → Prop) (κ : Ka) (h : Hp) : Prop where
  base : ∀ b, b < E.B → S b
  a : ∀ b, A b → S b
  s : ∀ b, E.S b → S b
  m : ∀ D, D ∈ E.M → S D
  k : ∀ b, E.K b → S b
  o : ∀ r b m sz cap, h r = some b → κ r = some (m, sz, cap) → cap ≠ 0 → S m

/-- Where nothing has turned that the state stands on, it stands. -/
theorem HR.same (H : HR E G w A κ h z) {w' : World} {S : Nat → Prop} (C : Cov S E A κ h) (hb : Below 0 w w') (hS : ∀ b, S b → w'.heap[b]? = w.heap[b]?) : HR E G w' A κ h z := by
  have hcell : ∀ b o, A b → w'.cell? ⟨b, o, none⟩ = w.cell? ⟨b, o, none⟩ := fun b o hA => cell?_of_heap (hS b (C.a b hA)) o
  have mono : ∀ {d v}, RV w A κ d v → RV w' A κ d v := fun hv => hv.mono (fun _ h => h) hcell (fun _ _ h => h)
  refine ⟨⟨hb.os.trans H.bel.os, hb.tape.trans H.bel.tape, hb.output.trans H.bel.output, Nat.le_trans H.bel.size hb.size, fun k hk => (hS k (C.base k hk)).trans (H.bel.block k hk)⟩, Nat.le_trans H.hB hb.size, fun b hb' => Nat.lt_of_lt_of_le (H.alt b hb') hb.size, H.a0, H.a1, fun b o hb' => (hcell b o (H.a0 b hb')).trans (H.acell b o hb'), H.k0, fun g e hg => mono (H.glob g e hg), fun r m sz cap hr => ?_, ⟨H.kp.base.trans hb, fun b hb' => ⟨Nat.lt_of_lt_of_le (H.kp.keep b hb').1 hb.size, (hS b (C.s b hb')).trans (H.kp.keep b hb').2⟩, H.kp.wr, H.kp.own, fun D hD => ⟨(H.kp.mks D hD).1, (H.kp.mks D hD).2.1, (hS D (C.m D hD)).trans (H.kp.mks D hD).2.2⟩, H.kp.nd, H.kp.kb.trans hb, fun b hb' => ⟨Nat.lt_of_lt_of_le (H.kp.kk b hb').1 hb.size, (hS b (C.k b hb')).trans (H.kp.kk b hb').2.1, (H.kp.kk b hb').2.2⟩, H.kp.zk, H.kp.mk0, H.kp.gk⟩, fun r b hr hκ => ?_, H.excl⟩
  · rcases H.klt r m sz cap hr with h | h
    · exact Or.inl h
    · exact Or.inr (Nat.lt_of_lt_of_le h hb.size)
  · obtain ⟨m, cap, h1, h2, h3, h4⟩ := H.blk r b hr hκ
    refine ⟨m, cap, h1, h2, h3, ?_⟩
    by_cases hc : cap = 0
    · exact Or.inl hc
    rcases h4 with h4 | ⟨c, ty, g1, g2, g3, g4, g5, g6, g7⟩
    · exact Or.inl h4
    · exact Or.inr ⟨c, ty, g1, (hS m (C.o r b m _ cap hr h1 hc)).trans g2, g3, g4, fun i e he => (g5 i e he).mono (fun _ h => h) hcell (fun _ _ h => h), g6, g7⟩

/-- More blocks are data. -/
theorem HR.more (H : HR E G w A κ h z) {X : Nat → Prop} (x1 : ∀ b, X b → b < w.heap.size) (x2 : ∀ b, X b → A b ∨ E.B ≤ b) (x3 : ∀ b, X b → ¬ E.Wr b) (x4 : ∀ D, D ∈ E.M → ¬ X D) (x5 : ∀ b, X b → ¬ E.Z b)
    (x6 : ∀ r b m sz cap, h r = some b → κ r = some (m, sz, cap) → cap ≠ 0 → z r = false → ¬ X m) : HR E G w (fun b => A b ∨ X b) κ h z := by
  have mono : ∀ {d v}, RV w A κ d v → RV w (fun b => A b ∨ X b) κ d v := fun hv => hv.mono (fun _ h => Or.inl h) (fun _ _ _ => rfl) (fun _ _ h => h)
  refine ⟨H.bel, H.hB, fun b hb => hb.elim (H.alt b) (x1 b), fun b hb => Or.inl (H.a0 b hb), fun b hb => ?_, H.acell, H.k0, fun g e hg => mono (H.glob g e hg), H.klt,
    ⟨H.kp.base, H.kp.keep, fun b hb => ⟨(H.kp.wr b hb).1, fun q => q.elim (H.kp.wr b hb).2 (fun q => x3 b q hb)⟩, H.kp.own, fun D hD => ⟨(H.kp.mks D hD).1, ⟨(H.kp.mks D hD).2.1.1, fun q => q.elim (H.kp.mks D hD).2.1.2 (x4 D hD)⟩, (H.kp.mks D hD).2.2⟩, H.kp.nd,
      H.kp.kb, H.kp.kk, fun b hb => ⟨(H.kp.zk b hb).1, fun q => q.elim (H.kp.zk b hb).2.1 (fun q => x5 b q hb), (H.kp.zk b hb).2.2⟩, H.kp.mk0, H.kp.gk⟩, fun r b hr hκ => ?_, H.excl⟩
  · rcases hb with hb | hb
    · exact H.a1 b hb
    · rcases x2 b hb with q | q
      · exact H.a1 b q
      · exact Or.inr q
  · obtain ⟨m, cap, h1, h2, h3, h4⟩ := H.blk r b hr hκ
    refine ⟨m, cap, h1, h2, h3, ?_⟩
    by_cases hc : cap = 0
    · exact Or.inl hc
    rcases h4 with h4 | ⟨c, ty, g1, g2, g3, g4, g5, g6, g7⟩
    · exact Or.inl h4
    · exact Or.inr ⟨c, ty, g1, g2, g3, g4, fun i e he => (g5 i e he).mono (fun _ h => Or.inl h) (fun _ _ _ => rfl) (fun _ _ h => h), fun hz q => q.elim (g6 hz) (x6 r b m _ cap hr h1 hc hz), fun hz => Or.inl (g7 hz)⟩

/-- The same state, seen from another beginning. -/
theorem HR.anchor (H : HR E G w A κ h z) (F : Env) (f1 : ∀ b, F.A0 b → A b) (f2 : ∀ b, A b → F.A0 b ∨ E.B ≤ b) (f3 : ∀ b o, F.A0 b → w.cell? ⟨b, o, none⟩ = F.w1.cell? ⟨b, o, none⟩) (f4 : ∀ r, r < F.n0 → κ r = F.κ0 r) (f5 : E.gh = true → 0 < F.n0)
    (f6 : F.B = E.B) (f7 : Below 0 F.kw w) (f8 : ∀ b, F.K b → b < w.heap.size ∧ w.heap[b]? = F.kw.heap[b]? ∧ ¬ E.Wr b) (f9 : ∀ b, F.Z b → F.K b ∧ ¬ A b ∧ ¬ E.S b) (f10 : ∀ D, D ∈ E.M → D ∈ F.M0 ∨ ¬ F.K D)
    (f11 : ∀ r b m sz cap, h r = some b → κ r = some (m, sz, cap) → cap ≠ 0 → z r = false → ¬ F.K m) (f12 : F.gh = E.gh) : HR (E.re F) G w A κ h z := by
  have e : (E.re F).B = E.B := f6
  exact ⟨e ▸ H.bel, by rw [e]; exact H.hB, H.alt, f1, by rw [e]; exact f2, f3, f4, H.glob, H.klt, ⟨H.kp.base, H.kp.keep, H.kp.wr, fun r b m sz cap h1 h2 h3 h4 => ⟨(H.kp.own r b m sz cap h1 h2 h3 h4).1, f11 r b m sz cap h1 h2 h3 h4⟩, by rw [e]; exact H.kp.mks, H.kp.nd, f7, f8, f9, f10, fun hg => ⟨f5 (f12 ▸ hg), (H.kp.gk (f12 ▸ hg)).2⟩⟩, by rw [e]; exact H.blk, H.excl⟩

/-- A block that is no cells and no mark, and that nothing stands on, turns. -/
theorem HR.putL (H : HR E G w A κ h z) {l : Nat} {r : Loop} (o' : Obj) (hl : w.heap[l]? = some (.loop r)) (hB : E.B ≤ l) (hS : ¬ E.S l) (hA : ¬ A l) (hK : ¬ E.K l) : HR E G (w.putObj l o') A κ h z := by
  have oth : ∀ b, b ≠ l → (w.putObj l o').heap[b]? = w.heap[b]? := fun b hb => World.putObj_heap_other hb
  have hcell : ∀ b o, A b → (w.putObj l o').cell? ⟨b, o, none⟩ = w.cell? ⟨b, o, none⟩ := fun b o hb => cell?_of_heap (oth b (fun e => by subst e; exact hA hb)) o
  have mono : ∀ {d v}, RV w A κ d v → RV (w.putObj l o') A κ d v := fun hv => hv.mono (fun _ h => h) hcell (fun _ _ h => h)
  refine ⟨H.bel.trans ⟨rfl, rfl, rfl, by simp, fun k hk => oth k (by omega)⟩, by simp [H.hB], fun b hb => by simp; exact H.alt b hb, H.a0, H.a1, fun b o hb => (hcell b o (H.a0 b hb)).trans (H.acell b o hb), H.k0, fun g e hg => mono (H.glob g e hg), fun r m sz cap hr => by simpa using H.klt r m sz cap hr,
    ⟨H.kp.base.trans ⟨rfl, rfl, rfl, by simp, fun k hk => by omega⟩, fun b hb => ⟨by simp; exact (H.kp.keep b hb).1, (oth b (fun e => by subst e; exact hS hb)).trans (H.kp.keep b hb).2⟩, H.kp.wr, H.kp.own,
      fun D hD => ⟨(H.kp.mks D hD).1, (H.kp.mks D hD).2.1, (oth D (fun e => by have := (H.kp.mks D hD).2.2; rw [e, hl] at this; cases this)).trans (H.kp.mks D hD).2.2⟩, H.kp.nd,
      H.kp.kb.trans ⟨rfl, rfl, rfl, by simp, fun k hk => by omega⟩, fun b hb => ⟨by simp; exact (H.kp.kk b hb).1, (oth b (fun e => by subst e; exact hK hb)).trans (H.kp.kk b hb).2.1, (H.kp.kk b hb).2.2⟩, H.kp.zk, H.kp.mk0, H.kp.gk⟩, fun r b hb hκ => ?_, H.excl⟩
  obtain ⟨m, cap, h1, h2, h3, h4⟩ := H.blk r b hb hκ
  refine ⟨m, cap, h1, h2, h3, ?_⟩
  rcases h4 with h4 | ⟨c, ty, g1, g2, g3, g4, g5, g6, g7⟩
  · exact Or.inl h4
  · exact Or.inr ⟨c, ty, g1, (oth m (fun e => by rw [e, hl] at g2; cases g2)).trans g2, g3, g4, fun i e he => (g5 i e he).mono (fun _ h => h) hcell (fun _ _ h => h), g6, g7⟩
end
end Go.PI
