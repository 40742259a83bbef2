/-
  PI: what becomes of 'HR' when a block is made, written, appended to.
-/
import Derived.Test.YtholmbhdbmjobaaDoorCPiRel
set_option linter.unusedVariables false
set_option linter.unusedSimpArgs false
namespace Go.PI
open Go.RowKit

theorem alloc_new (w : World) (o : Obj) : (w.alloc o).heap[w.heap.size]? = some o := by
  show (w.heap.push o)[w.heap.size]? = some o
  simp
theorem drew_cell (w : World) (A : Nat → Prop) : ∀ b o, A b → w.drew.cell? ⟨b, o, none⟩ = w.cell? ⟨b, o, none⟩ := fun _ _ _ => rfl

def kset (κ : Ka) (r : Nat) (x : Nat × Nat × Nat) : Ka := fun j => if j = r then some x else κ j

theorem kset_same (κ : Ka) (r : Nat) (x : Nat × Nat × Nat) : kset κ r x r = some x := by simp [kset]
theorem kset_other (κ : Ka) {r j : Nat} (x : Nat × Nat × Nat) (h : j ≠ r) : kset κ r x j = κ j := by simp [kset, h]
theorem kset_le {κ : Ka} {r : Nat} (x : Nat × Nat × Nat) (h : κ r = none) : ∀ j y, κ j = some y → kset κ r x j = some y := by
  intro j y hj
  by_cases e : j = r
  · subst e; rw [h] at hj; cases hj
  · rw [kset_other κ x e]; exact hj

theorem cell?_of_heap {w w' : World} {b : Nat} (h : w'.heap[b]? = w.heap[b]?) (o : Nat) : w'.cell? ⟨b, o, none⟩ = w.cell? ⟨b, o, none⟩ := World.cell?_of_block (w := w) h

section
variable {E : Env} {G : Gl} {w : World} {A : Nat → Prop} {κ : Ka} {h : Hp} {z : Fz}

theorem Below.zero {w0 w w' : World} (h : Below 0 w0 w) (k : Below 0 w w') : Below 0 w0 w' := h.trans k

/-- The world goes on. -/
theorem Kp.world (K : Kp E w A κ h z) {w' : World} (hb : Below 0 w w') (hs : ∀ b, E.S b ∨ E.K b → b < w.heap.size → w'.heap[b]? = w.heap[b]?) (hm : ∀ (D : Nat) (o : Obj), noCells o = true → w.heap[D]? = some o → w'.heap[D]? = w.heap[D]?) : Kp E w' A κ h z :=
  ⟨K.base.trans hb, fun b hS => ⟨Nat.lt_of_lt_of_le (K.keep b hS).1 hb.size, (hs b (Or.inl hS) (K.keep b hS).1).trans (K.keep b hS).2⟩, K.wr, K.own,
    fun D hD => ⟨(K.mks D hD).1, (K.mks D hD).2.1, (hm D _ rfl (K.mks D hD).2.2).trans (K.mks D hD).2.2⟩, K.nd, K.kb.trans hb, fun b hK => ⟨Nat.lt_of_lt_of_le (K.kk b hK).1 hb.size, (hs b (Or.inr hK) (K.kk b hK).1).trans (K.kk b hK).2.1, (K.kk b hK).2.2⟩, K.zk, K.mk0, K.gk⟩
theorem Kp.below (K : Kp E w A κ h z) {w' : World} (hb : Below w.heap.size w w') : Kp E w' A κ h z :=
  K.world (hb.mono (Nat.zero_le _)) (fun b _ h => hb.block b h) (fun D o _ hD => hb.block D (Array.getElem?_eq_some_iff.1 hD).1)
/-- A key is given a block. -/
theorem Kp.put (K : Kp E w A κ h z) {key m sz cap : Nat} {b : Blk} (hn : E.gh = true → key ≠ 0) (hx : cap ≠ 0 → z key = false → ¬ E.S m ∧ ¬ E.K m) : Kp E w A (kset κ key (m, sz, cap)) (hset h key (some b)) z :=
  ⟨K.base, K.keep, K.wr, fun r b' m' sz' cap' hr hk hc hz => by
    by_cases e : r = key
    · subst e; rw [kset_same] at hk; cases hk; exact hx hc hz
    · rw [kset_other κ _ e] at hk
      simp only [hset, if_neg e] at hr
      exact K.own r b' m' sz' cap' hr hk hc hz, K.mks, K.nd, K.kb, K.kk, K.zk, K.mk0, fun hg => by
    have h0 := (hn hg).symm
    refine ⟨(K.gk hg).1, by rw [kset_other κ _ h0]; exact (K.gk hg).2.1, fun b' hb => (K.gk hg).2.2 b' ?_⟩
    simpa only [hset, if_neg h0] using hb⟩
theorem Kp.drop (K : Kp E w A κ h z) (r : Nat) : Kp E w A κ (hset h r none) z := by
  have f : ∀ p bp, hset h r none p = some bp → h p = some bp := by
    intro p bp hp
    by_cases e : p = r
    · simp [hset, e] at hp
    · simpa only [hset, if_neg e] using hp
  exact ⟨K.base, K.keep, K.wr, fun r b m s c hr => K.own r b m s c (f r b hr), K.mks, K.nd, K.kb, K.kk, K.zk, K.mk0, fun hg => ⟨(K.gk hg).1, (K.gk hg).2.1, fun b hb => (K.gk hg).2.2 b (f 0 b hb)⟩⟩
theorem Kp.key (K : Kp E w A κ h z) {key : Nat} (hn : E.n0 ≤ key) : E.gh = true → key ≠ 0 := fun hg e => by have := (K.gk hg).1; omega

theorem HR.keepsA (H : HR E G w A κ h z) {w' : World} (hb : ∀ b, b < w.heap.size → (∀ r b' m s c, h r = some b' → κ r = some (m, s, c) → c ≠ 0 → z r = false → m ≠ b) → w'.heap[b]? = w.heap[b]?) : ∀ b o, A b → w'.cell? ⟨b, o, none⟩ = w.cell? ⟨b, o, none⟩ := by
  intro b o hA
  refine cell?_of_heap (hb b (H.alt b hA) fun r b' m s c hr hk hc hz e => ?_) o
  subst e
  obtain ⟨m', cap, h1, _, _, h4⟩ := H.blk r b' hr (by rw [hk]; simp)
  rw [hk] at h1
  cases h1
  rcases h4 with h4 | ⟨_, _, _, _, _, _, _, h5, _⟩
  · exact hc h4
  · exact h5 hz hA

/-- A new block. -/
theorem HR.alloc (H : HR E G w A κ h z) {key sz cap : Nat} {agg : Bool} {els : List PV} {c : Array Value} {ty : TypeId} (hn : E.n0 ≤ key) (hk : κ key = none) (hz : z key = false)
    (hc : c.size = cap * sz) (hl : els.length ≤ cap) (hu : ∀ e ∈ els, e.cells.length = sz ∧ e.isAgg = agg) (h1 : ∀ u ∈ c.toList, u.oneCell' = true)
    (hlies : ∀ i e, els[i]? = some e → lies w A κ c (i * sz) e) :
    HR E G (w.alloc (.cells c ty)) A (kset κ key (w.heap.size, sz, cap)) (hset h key (some ⟨els, sz, agg⟩)) z := by
  have hle := kset_le (w.heap.size, sz, cap) hk
  have hcell : ∀ b o, A b → (w.alloc (.cells c ty)).cell? ⟨b, o, none⟩ = w.cell? ⟨b, o, none⟩ := fun b o hA => cell?_of_heap (Below.heap_alloc _ _ _ (H.alt b hA)) o
  have mono : ∀ {d v}, RV w A κ d v → RV (w.alloc (.cells c ty)) A (kset κ key (w.heap.size, sz, cap)) d v := fun hv => hv.mono (fun _ h => h) hcell hle
  refine ⟨H.bel.alloc H.hB _, by simp; exact Nat.le_succ_of_le H.hB, fun b hb => by simp; exact Nat.lt_succ_of_lt (H.alt b hb), H.a0, H.a1, fun b o hb => (hcell b o (H.a0 b hb)).trans (H.acell b o hb), fun r hr => ?_, fun g e hg => mono (H.glob g e hg), fun r m s c' hr => ?_, (H.kp.below ((Below.refl _ w).alloc (Nat.le_refl _) _)).put (H.kp.key hn) (fun _ _ => ⟨fun hS => Nat.lt_irrefl _ (H.kp.keep _ hS).1, fun hK => Nat.lt_irrefl _ (H.kp.kk _ hK).1⟩), fun r b hb hκ => ?_, ?_⟩
  · rw [kset_other κ _ (by omega)]; exact H.k0 r hr
  · by_cases e : r = key
    · subst e; rw [kset_same] at hr; cases hr; right; simp
    · rw [kset_other κ _ e] at hr
      rcases H.klt r m s c' hr with h | h
      · exact Or.inl h
      · right; simp; omega
  · by_cases e : r = key
    · subst e
      simp only [hset, if_true] at hb
      cases hb
      refine ⟨w.heap.size, cap, kset_same κ r _, hl, hu, Or.inr ⟨c, ty, H.hB, alloc_new _ _, hc, h1, fun i e he => (hlies i e he).mono (fun _ h => h) hcell hle, fun _ hA => absurd (H.alt _ hA) (by omega), fun hzt => by rw [hz] at hzt; cases hzt⟩⟩
    · simp only [hset, if_neg e] at hb
      obtain ⟨m, cap', h2, h3, h4, h5⟩ := H.blk r b hb (by rw [kset_other κ _ e] at hκ; exact hκ)
      refine ⟨m, cap', by rw [kset_other κ _ e]; exact h2, h3, h4, ?_⟩
      rcases h5 with h5 | ⟨c', ty', g1, g2, g3, g4, g5, g6, g7⟩
      · exact Or.inl h5
      · have hm : m < w.heap.size := (Array.getElem?_eq_some_iff.1 g2).1
        exact Or.inr ⟨c', ty', g1, by rw [Below.heap_alloc _ _ _ hm]; exact g2, g3, g4, fun i e he => (g5 i e he).mono (fun _ h => h) hcell hle, g6, g7⟩
  · intro r r' b b' m m' s s' c1 c2 hne hr hr' hk1 hk2 hc1 hc2
    by_cases e : r = key
    · subst e
      rw [kset_same] at hk1; cases hk1
      have e' : r' ≠ r := fun e => hne e.symm
      rw [kset_other κ _ e'] at hk2
      rcases H.klt r' m' s' c2 hk2 with h | h
      · exact absurd h hc2
      · omega
    · rw [kset_other κ _ e] at hk1
      simp only [hset, if_neg e] at hr
      by_cases e' : r' = key
      · subst e'
        rw [kset_same] at hk2; cases hk2
        rcases H.klt r m s c1 hk1 with h | h
        · exact absurd h hc1
        · omega
      · rw [kset_other κ _ e'] at hk2
        simp only [hset, if_neg e'] at hr'
        exact H.excl r r' b b' m m' s s' c1 c2 hne hr hr' hk1 hk2 hc1 hc2

/-- An empty slice without a block. -/
theorem HR.empty (H : HR E G w A κ h z) {key sz : Nat} {agg : Bool} (hn : E.n0 ≤ key) (hk : κ key = none) :
    HR E G w A (kset κ key (0, sz, 0)) (hset h key (some ⟨[], sz, agg⟩)) z := by
  have hle := kset_le (0, sz, 0) hk
  have mono : ∀ {d v}, RV w A κ d v → RV w A (kset κ key (0, sz, 0)) d v := fun hv => hv.mono (fun _ h => h) (fun _ _ _ => rfl) hle
  refine ⟨H.bel, H.hB, H.alt, H.a0, H.a1, H.acell, fun r hr => ?_, fun g e hg => mono (H.glob g e hg), fun r m s c' hr => ?_, H.kp.put (H.kp.key hn) (fun hc => absurd rfl hc), fun r b hb hκ => ?_, ?_⟩
  · rw [kset_other κ _ (by omega)]; exact H.k0 r hr
  · by_cases e : r = key
    · subst e; rw [kset_same] at hr; cases hr; left; rfl
    · rw [kset_other κ _ e] at hr; exact H.klt r m s c' hr
  · by_cases e : r = key
    · subst e
      simp only [hset, if_true] at hb
      cases hb
      exact ⟨0, 0, kset_same κ r _, Nat.le_refl _, fun e he => (by cases he), Or.inl rfl⟩
    · simp only [hset, if_neg e] at hb
      obtain ⟨m, cap', h2, h3, h4, h5⟩ := H.blk r b hb (by rw [kset_other κ _ e] at hκ; exact hκ)
      refine ⟨m, cap', by rw [kset_other κ _ e]; exact h2, h3, h4, ?_⟩
      rcases h5 with h5 | ⟨c', ty', g1, g2, g3, g4, g5, g6, g7⟩
      · exact Or.inl h5
      · exact Or.inr ⟨c', ty', g1, g2, g3, g4, fun i e he => (g5 i e he).mono (fun _ h => h) (fun _ _ _ => rfl) hle, g6, g7⟩
  · intro r r' b b' m m' s s' c1 c2 hne hr hr' hk1 hk2 hc1 hc2
    by_cases e : r = key
    · subst e; rw [kset_same] at hk1; cases hk1; exact absurd rfl hc1
    · rw [kset_other κ _ e] at hk1
      simp only [hset, if_neg e] at hr
      by_cases e' : r' = key
      · subst e'; rw [kset_same] at hk2; cases hk2; exact absurd rfl hc2
      · rw [kset_other κ _ e'] at hk2
        simp only [hset, if_neg e'] at hr'
        exact H.excl r r' b b' m m' s s' c1 c2 hne hr hr' hk1 hk2 hc1 hc2

/-- A draw turns nothing. -/
theorem HR.drew (H : HR E G w A κ h z) : HR E G w.drew A κ h z := by
  have mono : ∀ {d v}, RV w A κ d v → RV w.drew A κ d v := fun hv => hv.mono (fun _ h => h) (drew_cell w A) (fun _ _ h => h)
  refine ⟨H.bel.drew, H.hB, H.alt, H.a0, H.a1, H.acell, H.k0, fun g e hg => mono (H.glob g e hg), H.klt, H.kp.below (Below.refl _ w).drew, fun r b hb hκ => ?_, H.excl⟩
  obtain ⟨m, cap', h2, h3, h4, h5⟩ := H.blk r b hb hκ
  refine ⟨m, cap', h2, h3, h4, ?_⟩
  rcases h5 with h5 | ⟨c', ty', g1, g2, g3, g4, g5, g6, g7⟩
  · exact Or.inl h5
  · exact Or.inr ⟨c', ty', g1, g2, g3, g4, fun i e he => (g5 i e he).mono (fun _ h => h) (drew_cell w A) (fun _ _ h => h), g6, g7⟩

theorem setRow_keeps (H : HR E G w A κ h z) {r m s cap : Nat} {b : Blk} (hr : h r = some b) (hk : κ r = some (m, s, cap)) (hcap : cap ≠ 0) (hz : z r = false) (c' : Array Value) :
    ∀ b o, A b → (w.setRow m c').cell? ⟨b, o, none⟩ = w.cell? ⟨b, o, none⟩ :=
  H.keepsA fun b _ hne => setRow_other w m b c' (fun e => hne r _ m s cap hr hk hcap hz e.symm)

/-- A block written: key 'r' gives way to key 'key' (the same, or a new one). -/
theorem HR.write (H : HR E G w A κ h z) {r key m sz cap : Nat} {b : Blk} {els : List PV} {c c' : Array Value} {ty : TypeId} (hr : h r = some b) (hk : κ r = some (m, sz, cap)) (hcap : cap ≠ 0) (hz : z r = false)
    (hsz : sz = b.sz) (hm : w.heap[m]? = some (.cells c ty (0, 0))) (hkey : key = r ∨ (h key = none ∧ κ key = none ∧ E.n0 ≤ key ∧ z key = false))
    (hc : c'.size = c.size) (hl : els.length ≤ cap) (hu : ∀ e ∈ els, e.cells.length = b.sz ∧ e.isAgg = b.agg) (h1 : ∀ u ∈ c'.toList, u.oneCell' = true)
    (hlies : ∀ i e, els[i]? = some e → lies w A κ c' (i * b.sz) e) :
    HR E G (w.setRow m c') A (kset κ key (m, sz, cap)) (hset (hset h r none) key (some { b with els := els })) z := by
  subst hsz
  obtain ⟨m0, cap0, e1, e2, e3, e4⟩ := H.blk r b hr (by rw [hk]; simp)
  rw [hk] at e1; cases e1
  obtain ⟨c0, ty0, g1, g2, g3, g4, g5, g6, g7⟩ := e4.resolve_left hcap
  rw [hm] at g2; cases g2
  have hcell := setRow_keeps H hr hk hcap hz c'
  have hle : ∀ j y, κ j = some y → kset κ key (m, b.sz, cap) j = some y := by
    rcases hkey with e | ⟨_, e, _⟩
    · subst e
      intro j y hj
      by_cases e : j = key
      · subst e; rw [hk] at hj; cases hj; exact kset_same ..
      · rw [kset_other κ _ e]; exact hj
    · exact kset_le _ e
  have mono : ∀ {d v}, RV w A κ d v → RV (w.setRow m c') A (kset κ key (m, b.sz, cap)) d v := fun hv => hv.mono (fun _ h => h) hcell hle
  have hmlt : m < w.heap.size := (Array.getElem?_eq_some_iff.1 hm).1
  have hzk : z key = false := by
    rcases hkey with e | ⟨_, _, _, e⟩
    · rw [e]; exact hz
    · exact e
  refine ⟨?_, by simp [H.hB], fun b hb => by simp; exact H.alt b hb, H.a0, H.a1, fun b o hb => (hcell b o (H.a0 b hb)).trans (H.acell b o hb), fun r' hr' => ?_, fun g e hg => mono (H.glob g e hg), fun r' m' s' c1 hr' => ?_, ?_, fun r' b' hb hκ => ?_, ?_⟩
  · exact H.bel.trans ⟨rfl, rfl, rfl, by simp, fun k hk' => setRow_other w m k c' (by omega)⟩
  · rcases hkey with e | ⟨_, _, e, _⟩
    · by_cases e' : r' = key
      · subst e' e; rw [kset_same, ← H.k0 _ hr', hk]
      · rw [kset_other κ _ e']; exact H.k0 r' hr'
    · rw [kset_other κ _ (by omega)]; exact H.k0 r' hr'
  · by_cases e : r' = key
    · subst e; rw [kset_same] at hr'; cases hr'; right; simp [hmlt]
    · rw [kset_other κ _ e] at hr'
      rcases H.klt r' m' s' c1 hr' with h | h
      · exact Or.inl h
      · right; simp [h]
  · have hS : ¬ E.S m ∧ ¬ E.K m := H.kp.own r b m _ cap hr hk hcap hz
    refine ((H.kp.world (w' := w.setRow m c') ⟨rfl, rfl, rfl, by simp, fun k hk' => by omega⟩ (fun b hb _ => setRow_other w m b c' (fun e => hb.elim (fun hb => hS.1 (e ▸ hb)) (fun hb => hS.2 (e ▸ hb)))) (fun D o ho hD => setRow_other w m D c' (fun e => by rw [e, hm] at hD; cases hD; cases ho))).drop r).put (fun hg e => ?_) (fun _ _ => hS)
    rcases hkey with q | ⟨_, _, q, _⟩
    · rw [← q, e, (H.kp.gk hg).2.1] at hk; cases hk
    · exact H.kp.key q hg e
  · by_cases e : r' = key
    · subst e
      simp only [hset, if_true] at hb
      cases hb
      exact ⟨m, cap, kset_same κ _ _, hl, hu, Or.inr ⟨c', ty, g1, setRow_heap w m c c' ty (0, 0) hm, by rw [hc]; exact g3, h1, fun i e he => (hlies i e he).mono (fun _ h => h) hcell hle, fun _ => g6 hz, fun hzt => by rw [hzk] at hzt; cases hzt⟩⟩
    · simp only [hset, if_neg e] at hb
      by_cases er : r' = r
      · simp [er] at hb
      · simp only [if_neg er] at hb
        obtain ⟨m', cap', h2, h3, h4, h5⟩ := H.blk r' b' hb (by rw [kset_other κ _ e] at hκ; exact hκ)
        refine ⟨m', cap', by rw [kset_other κ _ e]; exact h2, h3, h4, ?_⟩
        rcases h5 with h5 | ⟨c1, ty', f1, f2, f3, f4, f5, f6, f7⟩
        · exact Or.inl h5
        · by_cases hc0 : cap' = 0
          · exact Or.inl hc0
          have hne : m' ≠ m := H.excl r' r b' b m' m _ _ _ _ er hb hr h2 hk hc0 hcap
          exact Or.inr ⟨c1, ty', f1, by rw [setRow_other w m m' c' hne]; exact f2, f3, f4, fun i e he => (f5 i e he).mono (fun _ h => h) hcell hle, f6, f7⟩
  · intro p q bp bq mp mq sp sq cp cq hne hp hq hkp hkq hcp hcq
    have side : ∀ p bp mp sp cp, p ≠ key → hset (hset h r none) key (some { b with els := els }) p = some bp → kset κ key (m, b.sz, cap) p = some (mp, sp, cp) → cp ≠ 0 → p ≠ r ∧ h p = some bp ∧ κ p = some (mp, sp, cp) := by
      intro p bp mp sp cp hpk hp hkp hcp
      simp only [hset, if_neg hpk] at hp
      rw [kset_other κ _ hpk] at hkp
      by_cases e : p = r
      · simp [e] at hp
      · simp only [if_neg e] at hp; exact ⟨e, hp, hkp⟩
    by_cases e : p = key
    · subst e
      rw [kset_same] at hkp; cases hkp
      obtain ⟨a1, a2, a3⟩ := side q bq mq sq cq (fun e => hne e.symm) hq hkq hcq
      exact (H.excl q r bq b mq m _ _ _ _ a1 a2 hr a3 hk hcq hcap).symm
    · obtain ⟨a1, a2, a3⟩ := side p bp mp sp cp e hp hkp hcp
      by_cases e' : q = key
      · subst e'
        rw [kset_same] at hkq; cases hkq
        exact H.excl p r bp b mp m _ _ _ _ a1 a2 hr a3 hk hcp hcap
      · obtain ⟨b1, b2, b3⟩ := side q bq mq sq cq e' hq hkq hcq
        exact H.excl p q bp bq mp mq _ _ _ _ hne a2 b2 a3 b3 hcp hcq

/-- A key that is no longer asked for. -/
theorem HR.drop (H : HR E G w A κ h z) (r : Nat) : HR E G w A κ (hset h r none) z := by
  refine ⟨H.bel, H.hB, H.alt, H.a0, H.a1, H.acell, H.k0, H.glob, H.klt, H.kp.drop r, fun r' b hb hκ => ?_, fun p q bp bq mp mq sp sq cp cq hne hp hq => ?_⟩
  · by_cases e : r' = r
    · simp [hset, e] at hb
    · simp only [hset, if_neg e] at hb; exact H.blk r' b hb hκ
  · have f : ∀ p bp, hset h r none p = some bp → h p = some bp := by
      intro p bp hp
      by_cases e : p = r
      · simp [hset, e] at hp
      · simpa only [hset, if_neg e] using hp
    exact H.excl p q bp bq mp mq sp sq cp cq hne (f p bp hp) (f q bq hq)
end

end Go.PI
