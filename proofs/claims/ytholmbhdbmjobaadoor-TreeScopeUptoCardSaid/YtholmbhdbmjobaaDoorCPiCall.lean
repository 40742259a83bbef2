/-
  PI: what is handed to a call is data from then on ('frz'); contracts ('FnC'); what a call leaves.
-/
import Derived.Test.YtholmbhdbmjobaaDoorCPiOps5
set_option linter.unusedVariables false
set_option linter.unusedSimpArgs false
namespace Go.PI
open Go.RowKit

theorem mapF_spec {f : PV → Option (PV × List Nat)} : ∀ {l ds : List PV} {ks : List Nat}, mapF f l = some (ds, ks) →
    ds.length = l.length ∧ ∀ (i : Nat) d, ds[i]? = some d → ∃ x ks', l[i]? = some x ∧ f x = some (d, ks') ∧ ∀ k ∈ ks', k ∈ ks
  | [], ds, ks, h => by simp [mapF] at h; obtain ⟨rfl, rfl⟩ := h; exact ⟨rfl, fun i d hd => by simp at hd⟩
  | x :: l, ds, ks, h => by
    unfold mapF at h
    split at h
    · rename_i d ks1 ds' ls h1 h2
      cases h
      obtain ⟨g1, g2⟩ := mapF_spec h2
      refine ⟨by simp [g1], fun i d' hd => ?_⟩
      cases i with
      | zero => simp at hd; subst hd; exact ⟨x, ks1, rfl, h1, fun k hk => List.mem_append_left _ hk⟩
      | succ i =>
        obtain ⟨y, ks', e1, e2, e3⟩ := g2 i d' (by simpa using hd)
        exact ⟨y, ks', by simpa using e1, e2, fun k hk => List.mem_append_right _ (e3 k hk)⟩
    · cases h

theorem frz_cells {h : Hp} : ∀ {n : Nat} {e d : PV} {ks : List Nat}, frz h n e = some (d, ks) → d.cells.length = e.cells.length ∧ d.isAgg = e.isAgg ∧
    ∀ (j : Nat) x', d.cells[j]? = some x' → ∃ m x ks', m ≤ n ∧ e.cells[j]? = some x ∧ frz h m x = some (x', ks') ∧ ∀ k ∈ ks', k ∈ ks := by
  intro n e d ks hf
  have one : ∀ (e d : PV), e.cells = [e] → d.cells = [d] → e.isAgg = false → d.isAgg = false → frz h n e = some (d, ks) → d.cells.length = e.cells.length ∧ d.isAgg = e.isAgg ∧
      ∀ (j : Nat) x', d.cells[j]? = some x' → ∃ m x ks', m ≤ n ∧ e.cells[j]? = some x ∧ frz h m x = some (x', ks') ∧ ∀ k ∈ ks', k ∈ ks := by
    intro e d h1 h2 h3 h4 hf
    rw [h1, h2, h3, h4]
    refine ⟨rfl, rfl, fun j x' hj => ?_⟩
    cases j with
    | zero => simp at hj; subst hj; exact ⟨n, e, ks, Nat.le_refl _, rfl, hf, fun k hk => hk⟩
    | succ j => simp at hj
  have hf0 := hf
  unfold frz at hf
  split at hf
  · cases hf; exact one _ _ rfl rfl rfl rfl hf0
  · cases hf; exact one _ _ rfl rfl rfl rfl hf0
  · cases hf; exact one _ _ rfl rfl rfl rfl hf0
  · cases hf; exact one _ _ rfl rfl rfl rfl hf0
  · cases hf; exact one _ _ rfl rfl rfl rfl hf0
  · cases hf; exact one _ _ rfl rfl rfl rfl hf0
  · cases hf; exact one _ _ rfl rfl rfl rfl hf0
  · split at hf
    · split at hf
      · split at hf
        · cases hf; exact one _ _ rfl rfl rfl rfl hf0
        · cases hf
      · cases hf
    · cases hf
  · split at hf
    · cases hf; exact one _ _ rfl rfl rfl rfl hf0
    · cases hf
  · rename_i n cs
    split at hf
    · rename_i ds ks' hm
      cases hf
      obtain ⟨g1, g2⟩ := mapF_spec hm
      refine ⟨g1, rfl, fun j x' hj => ?_⟩
      obtain ⟨x, ks', e1, e2, e3⟩ := g2 j x' hj
      exact ⟨n, x, ks', Nat.le_succ _, e1, e2, e3⟩
    · cases hf
  · split at hf
    · cases hf; exact one _ _ rfl rfl rfl rfl hf0
    · cases hf
  · rename_i n r off len
    split at hf
    · split at hf
      · split at hf
        · cases hf; exact one _ _ rfl rfl rfl rfl hf0
        · cases hf
      · cases hf
    · cases hf
  · cases hf

section
variable {E : Env} {G : Gl} {w : World} {A : Nat → Prop} {κ : Ka} {h : Hp} {z : Fz}

/-- The blocks of these keys. -/
def blocksOf (κ : Ka) (ks : List Nat) (b : Nat) : Prop := ∃ r ∈ ks, ∃ sz cap, κ r = some (b, sz, cap) ∧ cap ≠ 0

theorem frz_sound (H : HR E G w A κ h z) {A' : Nat → Prop} (hA : ∀ b, A b → A' b) : ∀ (n : Nat) (d v : PV) (u : Value) (ks : List Nat), frz h n d = some (v, ks) → RV w A κ d u → (∀ b, blocksOf κ ks b → A' b) → RD w A' v u := by
  intro n
  induction n using Nat.strongRecOn with
  | _ n ih =>
    intro d v u ks hf hv hks
    unfold frz at hf
    split at hf
    · cases hf; rw [hv.int_inv]; exact .int _ _
    · cases hf; rw [hv.bool_inv]; exact .bool _
    · cases hf; rw [hv.str_inv]; exact .str _
    · cases hf; exact hv.imm_inv.mono hA (fun _ _ _ => rfl)
    · cases hf; rw [hv.nilsl_inv]; exact .imm0 _ _
    · cases hf; rw [hv.nilfunc_inv]; exact .nilfunc
    · cases hf
      obtain ⟨b, o, val, rfl, h1, h2, h3⟩ := hv.cptr_inv
      exact .cptr _ _ b o val (hA b h1) h2 (fun c d hd => (h3 c d hd).mono hA (fun _ _ _ => rfl))
    · rename_i n r i off
      split at hf
      · rename_i b hb
        split at hf
        · rename_i e he
          split at hf
          · rename_i d' ks' hd'
            cases hf
            obtain ⟨m, sz, cap, rfl, hκ⟩ := hv.ptr_inv
            obtain ⟨m0, cap0, e1, e2, e3, e4⟩ := H.blk r b hb (by rw [hκ]; simp)
            rw [hκ] at e1; cases e1
            have hi := (List.getElem?_eq_some_iff.1 he).1
            obtain ⟨c, ty, f1, f2, f3, f4, f5, f6, f7⟩ := e4.resolve_left (by omega)
            have hAm : A' m := hks m ⟨r, by simp, b.sz, cap, hκ, by omega⟩
            obtain ⟨g1, _, hcel⟩ := frz_cells hd'
            refine .cptr d' off m (i * b.sz) (fun j => c.getD (i * b.sz + j) undef) hAm (fun j hj => ?_) (fun j x' hx' => ?_)
            · obtain ⟨u, q1, q2, q3⟩ := f5 i e he j _ (List.getElem?_eq_getElem (by omega))
              have hgd : c.getD (i * b.sz + j) undef = u := by simp [Array.getD_eq_getD_getElem?, q1]
              simp only [hgd]
              exact ⟨by simp [World.cell?, f2, q1], q3⟩
            · obtain ⟨m', y, ks2, p1, p2, p3, p4⟩ := hcel j x' hx'
              obtain ⟨u, t1, t2, t3⟩ := f5 i e he j y p2
              have hgd : c.getD (i * b.sz + j) undef = u := by simp [Array.getD_eq_getD_getElem?, t1]
              simp only [hgd]
              exact ih m' (by omega) y x' u ks2 p3 t2 (fun b ⟨r, hr, q⟩ => hks b ⟨r, List.mem_cons_of_mem _ (p4 r hr), q⟩)
          · cases hf
        · cases hf
      · cases hf
    · rename_i n fn f c
      split at hf
      · rename_i fs ks1 cs ks2 hm1 hm2
        cases hf
        obtain ⟨us, vs, rfl, h1, h2, h3, h4⟩ := hv.func_inv
        obtain ⟨g1, g2⟩ := mapF_spec hm1
        obtain ⟨g3, g4⟩ := mapF_spec hm2
        refine .func fn fs cs us vs (by omega) (by omega) (fun i d hd => ?_) (fun i d hd => ?_)
        · obtain ⟨x, ks', e1, e2, e3⟩ := g2 i d hd
          exact ih n (Nat.lt_succ_self _) x d _ ks' e2 (h3 i x e1) (fun b ⟨r, hr, q⟩ => hks b ⟨r, List.mem_append_left _ (e3 r hr), q⟩)
        · obtain ⟨x, ks', e1, e2, e3⟩ := g4 i d hd
          exact ih n (Nat.lt_succ_self _) x d _ ks' e2 (h4 i x e1) (fun b ⟨r, hr, q⟩ => hks b ⟨r, List.mem_append_right _ (e3 r hr), q⟩)
      · cases hf
    · rename_i n cs
      split at hf
      · rename_i ds ks' hm
        cases hf
        obtain ⟨vs, rfl, h1, h2, h3⟩ := hv.agg_inv
        obtain ⟨g1, g2⟩ := mapF_spec hm
        refine .agg ds vs (by omega) (fun i d hd => ?_) (fun i hi => h3 i (by omega))
        obtain ⟨x, ks', e1, e2, e3⟩ := g2 i d hd
        exact ih n (Nat.lt_succ_self _) x d _ ks' e2 (h2 i x e1) (fun b ⟨r, hr, q⟩ => hks b ⟨r, e3 r hr, q⟩)
      · cases hf
    · rename_i n cs
      split at hf
      · rename_i ds ks' hm
        cases hf
        obtain ⟨vs, rfl, h1, h2⟩ := hv.tup_inv
        obtain ⟨g1, g2⟩ := mapF_spec hm
        refine .tup ds vs (by omega) (fun i d hd => ?_)
        obtain ⟨x, ks', e1, e2, e3⟩ := g2 i d hd
        exact ih n (Nat.lt_succ_self _) x d _ ks' e2 (h2 i x e1) (fun b ⟨r, hr, q⟩ => hks b ⟨r, e3 r hr, q⟩)
      · cases hf
    · rename_i n r off len
      split at hf
      · rename_i b hb
        split at hf
        · rename_i hle
          split at hf
          · rename_i ds ks' hm
            cases hf
            obtain ⟨m, sz, cap, a, rfl, hκ, hcap, ha⟩ := hv.own_inv
            obtain ⟨g1, g2⟩ := mapF_spec hm
            have hlen : ds.length = len := by rw [g1]; simp; omega
            by_cases hl0 : len = 0
            · have : ds = [] := List.length_eq_zero_iff.1 (by omega)
              subst this hl0
              exact .imm0 _ _
            obtain ⟨m0, cap0, e1, e2, e3, e4⟩ := H.blk r b hb (by rw [hκ]; simp)
            rw [hκ] at e1; cases e1
            obtain ⟨c, ty, f1, f2, f3, f4, f5, f6, f7⟩ := e4.resolve_left (by omega)
            have ha' := ha.resolve_right (by omega)
            subst ha'
            have hget : ∀ i, i < len → ((b.els.drop off).take len)[i]? = b.els[off + i]? := fun i hi => by rw [List.getElem?_take_of_lt hi, List.getElem?_drop]
            have hAm : A' m := hks m ⟨r, by simp, b.sz, cap, hκ, by omega⟩
            rw [← hlen]
            refine .imm ds b.sz m (off * b.sz) (cap - off) (fun i j => c.getD ((off + i) * b.sz + j) undef) hAm (by omega) (fun e he => ?_) (fun i j hi hj => ?_) (fun i e he j x' hx' => ?_)
            · obtain ⟨i, hi, rfl⟩ := List.getElem_of_mem he
              obtain ⟨x, ks1, q1, q2, q3⟩ := g2 i _ (List.getElem?_eq_getElem hi)
              rw [hget i (by omega)] at q1
              rw [(frz_cells q2).1, (e3 x (List.mem_of_getElem? q1)).1]
            · have hlt : off + i < b.els.length := by omega
              have hcl := (e3 b.els[off + i] (by simp)).1
              obtain ⟨u, q1, q2, q3⟩ := f5 (off + i) _ (List.getElem?_eq_getElem hlt) j _ (List.getElem?_eq_getElem (by omega))
              have e : off * b.sz + i * b.sz + j = (off + i) * b.sz + j := by rw [Nat.add_mul]
              rw [e]
              have hgd : c.getD ((off + i) * b.sz + j) undef = u := by simp [Array.getD_eq_getD_getElem?, q1]
              simp only [hgd]
              exact ⟨by simp [World.cell?, f2, q1], q3⟩
            · have hi := (List.getElem?_eq_some_iff.1 he).1
              obtain ⟨x, ks1, q1, q2, q3⟩ := g2 i e he
              rw [hget i (by omega)] at q1
              obtain ⟨_, _, hcel⟩ := frz_cells q2
              obtain ⟨m', y, ks2, p1, p2, p3, p4⟩ := hcel j x' hx'
              obtain ⟨u, t1, t2, t3⟩ := f5 (off + i) x q1 j y p2
              have hgd : c.getD ((off + i) * b.sz + j) undef = u := by simp [Array.getD_eq_getD_getElem?, t1]
              simp only [hgd]
              exact ih m' (by omega) y x' u ks2 p3 t2 (fun b ⟨r, hr, q⟩ => hks b ⟨r, List.mem_cons_of_mem _ (q3 r (p4 r hr)), q⟩)
          · cases hf
        · cases hf
      · cases hf
    · cases hf

theorem frz_keys : ∀ (n : Nat) (d v : PV) (ks : List Nat), frz h n d = some (v, ks) → ∀ r ∈ ks, ∃ b, h r = some b := by
  intro n
  induction n with
  | zero =>
    intro d v ks hf r hr
    cases d <;> simp [frz] at hf
    all_goals (rw [hf.2] at hr; cases hr)
  | succ n ih =>
    intro d v ks hf
    have hm' : ∀ (l ds : List PV) (ks : List Nat), mapF (frz h n) l = some (ds, ks) → ∀ r ∈ ks, ∃ b, h r = some b := by
      intro l
      induction l with
      | nil => intro ds ks hm r hr; simp [mapF] at hm; rw [hm.2] at hr; cases hr
      | cons x l ihl =>
        intro ds ks hm r hr
        unfold mapF at hm
        split at hm
        · rename_i d ks1 ds' ls h1 h2
          cases hm
          rcases List.mem_append.1 hr with hr | hr
          · exact ih _ _ _ h1 r hr
          · exact ihl _ _ h2 r hr
        · cases hm
    unfold frz at hf
    split at hf
    · cases hf; intro r hr; cases hr
    · cases hf; intro r hr; cases hr
    · cases hf; intro r hr; cases hr
    · cases hf; intro r hr; cases hr
    · cases hf; intro r hr; cases hr
    · cases hf; intro r hr; cases hr
    · cases hf; intro r hr; cases hr
    · rename_i n' r i off he
      cases he
      split at hf
      · rename_i b hb
        split at hf
        · split at hf
          · rename_i d' ks' hd'
            cases hf
            intro q hq
            rcases List.mem_cons.1 hq with rfl | hq
            · exact ⟨b, hb⟩
            · exact ih _ _ _ hd' q hq
          · cases hf
        · cases hf
      · cases hf
    · rename_i n' fn f c he
      cases he
      split at hf
      · rename_i fs ks1 cs ks2 hm1 hm2
        cases hf
        intro q hq
        rcases List.mem_append.1 hq with hq | hq
        · exact hm' _ _ _ hm1 q hq
        · exact hm' _ _ _ hm2 q hq
      · cases hf
    · rename_i n' cs he
      cases he
      split at hf
      · rename_i ds ks' hm
        cases hf
        exact hm' _ _ _ hm
      · cases hf
    · rename_i n' cs he
      cases he
      split at hf
      · rename_i ds ks' hm
        cases hf
        exact hm' _ _ _ hm
      · cases hf
    · rename_i n' r off len he
      cases he
      split at hf
      · rename_i b hb
        split at hf
        · split at hf
          · rename_i ds ks' hm
            cases hf
            intro q hq
            rcases List.mem_cons.1 hq with rfl | hq
            · exact ⟨b, hb⟩
            · exact hm' _ _ _ hm q hq
          · cases hf
        · cases hf
      · cases hf
    · cases hf

theorem mapF_frz_keys {n : Nat} : ∀ {l ds : List PV} {ks : List Nat}, mapF (frz h n) l = some (ds, ks) → ∀ r ∈ ks, ∃ b, h r = some b
  | [], ds, ks, hm, r, hr => by simp [mapF] at hm; rw [hm.2] at hr; cases hr
  | x :: l, ds, ks, hm, r, hr => by
    unfold mapF at hm
    split at hm
    · rename_i d ks1 ds' ls h1 h2
      cases hm
      rcases List.mem_append.1 hr with hr | hr
      · exact frz_keys _ _ _ _ h1 r hr
      · exact mapF_frz_keys h2 r hr
    · cases hm

/-- What was handed to a call is frozen. -/
theorem HR.freeze (H : HR E G w A κ h z) {ks : List Nat} (hk : ∀ r ∈ ks, ∃ b, h r = some b) : HR E G w (fun b => A b ∨ blocksOf κ ks b) κ h (fset z ks) := by
  have mono : ∀ {d v}, RV w A κ d v → RV w (fun b => A b ∨ blocksOf κ ks b) κ d v := fun hv => hv.mono (fun _ h => Or.inl h) (fun _ _ _ => rfl) (fun _ _ h => h)
  have real : ∀ b, blocksOf κ ks b → E.B ≤ b ∧ b < w.heap.size := by
    rintro b ⟨r, hr, sz, cap, hκ, hc⟩
    obtain ⟨bk, hb⟩ := hk r hr
    obtain ⟨m, cap', h1, h2, h3, h4⟩ := H.blk r bk hb (by rw [hκ]; simp)
    rw [hκ] at h1; cases h1
    obtain ⟨c, ty, g1, g2, _⟩ := h4.resolve_left hc
    exact ⟨g1, (Array.getElem?_eq_some_iff.1 g2).1⟩
  refine ⟨H.bel, H.hB, fun b hb => ?_, fun b hb => Or.inl (H.a0 b hb), fun b hb => ?_, H.acell, H.k0, fun g e hg => mono (H.glob g e hg), H.klt, ⟨H.kp.base, H.kp.keep, fun b hb => ⟨(H.kp.wr b hb).1, ?_⟩, fun r b m sz cap hr hk hc hz => ?_, fun D hD => ⟨(H.kp.mks D hD).1, ⟨(H.kp.mks D hD).2.1.1, ?_⟩, (H.kp.mks D hD).2.2⟩, H.kp.nd, H.kp.kb, H.kp.kk, fun b hb => ⟨(H.kp.zk b hb).1, ?_, (H.kp.zk b hb).2.2⟩, H.kp.mk0, H.kp.gk⟩, fun r b hb hκ => ?_, H.excl⟩
  · rcases hb with hb | hb
    · exact H.alt b hb
    · exact (real b hb).2
  · rcases hb with hb | hb
    · exact H.a1 b hb
    · exact Or.inr (real b hb).1
  · rintro (hA | ⟨r, hr, sz, cap, hκ, hc⟩)
    · exact (H.kp.wr b hb).2 hA
    · obtain ⟨bk, hbk⟩ := hk r hr
      cases hzr : z r with
      | false => exact (H.kp.own r bk b sz cap hbk hκ hc hzr).1 (H.kp.wr b hb).1
      | true =>
        obtain ⟨m, cap', h1, h2, h3, h4⟩ := H.blk r bk hbk (by rw [hκ]; simp)
        rw [hκ] at h1; cases h1
        obtain ⟨c, ty, g1, g2, g3, g4, g5, g6, g7⟩ := h4.resolve_left hc
        exact (H.kp.wr _ hb).2 (g7 hzr)
  · simp only [fset, Bool.or_eq_false_iff] at hz
    exact H.kp.own r b m sz cap hr hk hc hz.2
  · rintro (hA | ⟨r, hr, sz, cap, hκ, hc⟩)
    · exact (H.kp.mks D hD).2.1.2 hA
    · obtain ⟨bk, hbk⟩ := hk r hr
      obtain ⟨m, cap', h1, h2, h3, h4⟩ := H.blk r bk hbk (by rw [hκ]; simp)
      rw [hκ] at h1; cases h1
      obtain ⟨c, ty, g1, g2, _⟩ := h4.resolve_left hc
      rw [(H.kp.mks _ hD).2.2] at g2; cases g2
  · rintro (hA | ⟨r, hr, sz, cap, hκ, hc⟩)
    · exact (H.kp.zk b hb).2.1 hA
    · obtain ⟨bk, hbk⟩ := hk r hr
      cases hzr : z r with
      | false => exact (H.kp.own r bk b sz cap hbk hκ hc hzr).2 (H.kp.zk b hb).1
      | true =>
        obtain ⟨m, cap', h1, h2, h3, h4⟩ := H.blk r bk hbk (by rw [hκ]; simp)
        rw [hκ] at h1; cases h1
        obtain ⟨c, ty, g1, g2, g3, g4, g5, g6, g7⟩ := h4.resolve_left hc
        exact (H.kp.zk _ hb).2.1 (g7 hzr)
  · obtain ⟨m, cap, h1, h2, h3, h4⟩ := H.blk r b hb hκ
    refine ⟨m, cap, h1, h2, h3, ?_⟩
    rcases h4 with h4 | ⟨c, ty, g1, g2, g3, g4, g5, g6, g7⟩
    · exact Or.inl h4
    by_cases hc : cap = 0
    · exact Or.inl hc
    refine Or.inr ⟨c, ty, g1, g2, g3, g4, fun i e he => (g5 i e he).mono (fun _ h => Or.inl h) (fun _ _ _ => rfl) (fun _ _ h => h), fun hz => ?_, fun hz => ?_⟩
    · simp only [fset, Bool.or_eq_false_iff] at hz
      rintro (hA | ⟨r', hr', sz', cap', hκ', hc'⟩)
      · exact g6 hz.2 hA
      · obtain ⟨b', hb'⟩ := hk r' hr'
        have hne : r ≠ r' := fun e => by subst e; have := hz.1; simp at this; exact this hr'
        exact H.excl r r' b b' m m _ _ _ _ hne hb hb' h1 hκ' hc hc' rfl
    · simp only [fset, Bool.or_eq_true] at hz
      rcases hz with hz | hz
      · exact Or.inr ⟨r, by simpa using hz, b.sz, cap, h1, hc⟩
      · exact Or.inl (g7 hz)

/-- What a call leaves: nothing of what was there has turned. -/
theorem HR.after (H : HR E G w A κ h z) {w1 : World} (hb : Below w.heap.size w w1) {X : Nat → Prop} (hX : ∀ b, X b → w.heap.size ≤ b ∧ b < w1.heap.size) : HR E G w1 (fun b => A b ∨ X b) κ h z := by
  have hcell : ∀ b o, A b → w1.cell? ⟨b, o, none⟩ = w.cell? ⟨b, o, none⟩ := fun b o hA => cell?_of_heap (hb.block b (H.alt b hA)) o
  have mono : ∀ {d v}, RV w A κ d v → RV w1 (fun b => A b ∨ X b) κ d v := fun hv => hv.mono (fun _ h => Or.inl h) hcell (fun _ _ h => h)
  refine ⟨H.bel.trans (hb.mono H.hB), Nat.le_trans H.hB hb.size, fun b hb' => ?_, fun b hb => Or.inl (H.a0 b hb), fun b hb' => ?_, fun b o hb' => (hcell b o (H.a0 b hb')).trans (H.acell b o hb'), H.k0, fun g e hg => mono (H.glob g e hg), fun r m sz cap hr => ?_, ?_, fun r b hr hκ => ?_, H.excl⟩
  · rcases hb' with h | h
    · exact Nat.lt_of_lt_of_le (H.alt b h) hb.size
    · exact (hX b h).2
  · rcases hb' with h | h
    · exact H.a1 b h
    · exact Or.inr (Nat.le_trans H.hB (hX b h).1)
  · rcases H.klt r m sz cap hr with h | h
    · exact Or.inl h
    · exact Or.inr (Nat.lt_of_lt_of_le h hb.size)
  · have K := H.kp.below hb
    refine ⟨K.base, K.keep, fun b hb => ⟨(K.wr b hb).1, ?_⟩, K.own, fun D hD => ⟨(K.mks D hD).1, ⟨(K.mks D hD).2.1.1, ?_⟩, (K.mks D hD).2.2⟩, K.nd, K.kb, K.kk, fun b hb => ⟨(K.zk b hb).1, ?_, (K.zk b hb).2.2⟩, K.mk0, K.gk⟩
    · rintro (h | h)
      · exact (K.wr b hb).2 h
      · have := (H.kp.keep b (K.wr b hb).1).1; have := (hX b h).1; omega
    · rintro (h | h)
      · exact (K.mks D hD).2.1.2 h
      · have := (Array.getElem?_eq_some_iff.1 (H.kp.mks D hD).2.2).1; have := (hX D h).1; omega
    · rintro (h | h)
      · exact (K.zk b hb).2.1 h
      · have := (H.kp.kk b (K.zk b hb).1).1; have := (hX b h).1; omega
  · obtain ⟨m, cap, h1, h2, h3, h4⟩ := H.blk r b hr hκ
    refine ⟨m, cap, h1, h2, h3, ?_⟩
    rcases h4 with h4 | ⟨c, ty, g1, g2, g3, g4, g5, g6, g7⟩
    · exact Or.inl h4
    · have hm := (Array.getElem?_eq_some_iff.1 g2).1
      refine Or.inr ⟨c, ty, g1, by rw [hb.block m hm]; exact g2, g3, g4, fun i e he => (g5 i e he).mono (fun _ h => Or.inl h) hcell (fun _ _ h => h), fun hz => ?_, fun hz => Or.inl (g7 hz)⟩
      rintro (h | h)
      · exact g6 hz h
      · have := (hX m h).1; omega

/-- A block that a call has made and handed over becomes one of ours. -/
theorem HR.adopt (H : HR E G w A κ h z) {key sz cap m : Nat} {agg : Bool} {els : List PV} {c : Array Value} {ty : TypeId} (hn : E.n0 ≤ key) (hk : κ key = none) (hz : z key = false)
    (hm : w.heap[m]? = some (.cells c ty (0, 0))) (hB : E.B ≤ m) (hmS : ¬ E.S m ∧ ¬ E.K m) (hmA : ¬ A m) (hnew : ∀ r b m' s c', h r = some b → κ r = some (m', s, c') → c' ≠ 0 → m' ≠ m)
    (hc : c.size = cap * sz) (hl : els.length ≤ cap) (hu : ∀ e ∈ els, e.cells.length = sz ∧ e.isAgg = agg) (h1 : ∀ u ∈ c.toList, u.oneCell' = true)
    (hlies : ∀ i e, els[i]? = some e → lies w A κ c (i * sz) e) :
    HR E G w A (kset κ key (m, sz, cap)) (hset h key (some ⟨els, sz, agg⟩)) z := by
  have hle := kset_le (m, sz, cap) hk
  have mono : ∀ {d v}, RV w A κ d v → RV w A (kset κ key (m, sz, cap)) d v := fun hv => hv.mono (fun _ h => h) (fun _ _ _ => rfl) hle
  have hmlt := (Array.getElem?_eq_some_iff.1 hm).1
  refine ⟨H.bel, H.hB, H.alt, H.a0, H.a1, H.acell, fun r hr => ?_, fun g e hg => mono (H.glob g e hg), fun r m' s c' hr => ?_, H.kp.put (H.kp.key hn) (fun _ _ => hmS), fun r b hb hκ => ?_, ?_⟩
  · rw [kset_other κ _ (by omega)]; exact H.k0 r hr
  · by_cases e : r = key
    · subst e; rw [kset_same] at hr; cases hr; right; exact hmlt
    · rw [kset_other κ _ e] at hr; exact H.klt r m' s c' hr
  · by_cases e : r = key
    · subst e
      simp only [hset, if_true] at hb
      cases hb
      exact ⟨m, cap, kset_same κ r _, hl, hu, Or.inr ⟨c, ty, hB, hm, hc, h1, fun i e he => (hlies i e he).mono (fun _ h => h) (fun _ _ _ => rfl) hle, fun _ => hmA, fun hzt => by rw [hz] at hzt; cases hzt⟩⟩
    · simp only [hset, if_neg e] at hb
      obtain ⟨m', cap', h2, h3, h4, h5⟩ := H.blk r b hb (by rw [kset_other κ _ e] at hκ; exact hκ)
      refine ⟨m', cap', by rw [kset_other κ _ e]; exact h2, h3, h4, ?_⟩
      rcases h5 with h5 | ⟨c', ty', g1, g2, g3, g4, g5, g6, g7⟩
      · exact Or.inl h5
      · exact Or.inr ⟨c', ty', g1, g2, g3, g4, fun i e he => (g5 i e he).mono (fun _ h => h) (fun _ _ _ => rfl) hle, g6, g7⟩
  · intro r r' b b' m1 m2 s s' c1 c2 hne hr hr' hk1 hk2 hc1 hc2
    by_cases e : r = key
    · subst e
      rw [kset_same] at hk1; cases hk1
      have e' : r' ≠ r := fun e => hne e.symm
      rw [kset_other κ _ e'] at hk2
      simp only [hset, if_neg e'] at hr'
      exact (hnew r' b' m2 s' c2 hr' hk2 hc2).symm
    · rw [kset_other κ _ e] at hk1
      simp only [hset, if_neg e] at hr
      by_cases e' : r' = key
      · subst e'
        rw [kset_same] at hk2; cases hk2
        exact hnew r b m1 s c1 hr hk1 hc1
      · rw [kset_other κ _ e'] at hk2
        simp only [hset, if_neg e'] at hr'
        exact H.excl r r' b b' m1 m2 s s' c1 c2 hne hr hr' hk1 hk2 hc1 hc2
end

/-- The package-level variables that 'G' lists hold what it says. -/
def Gok (G : Gl) (w : World) (A : Nat → Prop) : Prop := ∀ g e, G g = some e → RV w A (fun _ => none) (.cptr e 0) (.pointer (some ⟨g, 0, none⟩))

def RDs (w : World) (A : Nat → Prop) (ds : List PV) (vs : List Value) : Prop := ds.length = vs.length ∧ ∀ i d, ds[i]? = some d → RD w A d (vs.getD i undef)

/-- What lies behind the call of a function that was handed 'A's data: nothing of the old has turned; its result is data in the old and the new blocks, or a row of its own. -/
def CRes.holds (w w' : World) (A : Nat → Prop) : CRes → Value → Prop
  | .data d, v => RD w' (fun b => A b ∨ (w.heap.size ≤ b ∧ b < w'.heap.size)) d v
  | .fresh els sz agg, v => ∃ a cap, v = .slice a els.length cap ∧ els.length ≤ cap ∧ (∀ e ∈ els, e.cells.length = sz ∧ e.isAgg = agg) ∧
      (cap = 0 ∨ ∃ m c ty, a = some ⟨m, 0, none⟩ ∧ w.heap.size ≤ m ∧ w'.heap[m]? = some (.cells c ty (0, 0)) ∧ c.size = cap * sz ∧ (∀ u ∈ c.toList, u.oneCell' = true) ∧
        ∀ i e, els[i]? = some e → lies w' (fun b => A b ∨ (w.heap.size ≤ b ∧ b < w'.heap.size ∧ b ≠ m)) (fun _ => none) c (i * sz) e)
  | .gh _ _ _, _ => False
  | .seq _, _ => False

/-- A CONTRACT: called with these data the function hands back this. -/
def callable (P : Program) (f : FuncId) : Bool :=
  match P.funcs[f]? with
  | some fn => fn.body.isSome && fn.name != "runtime.NumGoroutine"
  | none => false

/-- No fence but for the round that one is in. -/
def Wd (ro : Option Nat) : Fence := { Fence.wide with round := ro }

/-- The step into a yield, and the round's end. -/
def YieldRuns (P : Program) (l : Nat) (vs : Array Value) (w : World) (R : Ending → World → Prop) : Prop :=
  ∃ f tmps assign body, (Instr.yield l vs).run P w = .ok (.round l f tmps assign body) w ∧ ∀ ro n, RoundIn (Wd ro) n P l f tmps assign body w R

/-- ONE WHO RANGES over a function that runs through 'xs', and leaves at number k: its invariant 'J' says what it keeps (S), and what of it a round may write (Wr). -/
structure Cons (P : Program) (xs : List (List PV)) (k : Nat) where
  l : Nat
  J : Nat → (Nat → Prop) → (Nat → Prop) → World → Prop
  lt : ∀ {i S Wr W}, J i S Wr W → (∀ b, S b → b < W.heap.size) ∧ ∀ b, Wr b → S b
  stable : ∀ {i S Wr W W'}, J i S Wr W → Below 0 W W' → (∀ b, S b → W'.heap[b]? = W.heap[b]?) → J i S Wr W'
  yield : ∀ {i S Wr W A ds vs}, J i S Wr W → xs[i]? = some ds → i ≤ k → RDs W A ds vs → (∀ b, A b → b < W.heap.size ∧ ¬ Wr b) →
    YieldRuns P l vs.toArray W fun e W' => ∃ S' Wr', e = .returned (.bool (decide (i ≠ k))) ∧ J (i + 1) S' Wr' W' ∧ Below 0 W W' ∧
      (∀ b, b < W.heap.size → ¬ Wr b → W'.heap[b]? = W.heap[b]?) ∧ (∀ b, Wr' b → Wr b ∨ W.heap.size ≤ b) ∧ ∀ b, S' b → S b ∨ A b ∨ W.heap.size ≤ b

/-- What a range over the function runs through. -/
def SeqC (P : Program) (G : Gl) (f : FuncId) (ds : List PV) (xs : List (List PV)) : Prop :=
  ∀ (k : Nat) (Y : Cons P xs k) (w : World) (A S Wr : Nat → Prop) (vs : List Value), (∀ b, A b → b < w.heap.size ∧ ¬ Wr b) → Gok G w A → RDs w A ds vs → Y.J 0 S Wr w →
    Calls P f (#[.func (.yield Y.l) #[] #[]] ++ vs.toArray) w fun e w' => ∃ v S' Wr', e = .returned v ∧ Y.J (min xs.length (k + 1)) S' Wr' w'

def FnC (P : Program) (G : Gl) : Contracts := fun f ds r =>
  callable P f = true ∧ match r with
    | .gh _ _ _ => False
    | .seq xs => SeqC P G f ds xs
    | r => ∀ (w : World) (A : Nat → Prop) (vs : List Value), (∀ b, A b → b < w.heap.size) → Gok G w A → RDs w A ds vs →
      Calls P f vs.toArray w fun e w' => ∃ v, e = .returned v ∧ Below w.heap.size w w' ∧ r.holds w w' A v

end Go.PI
