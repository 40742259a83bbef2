/-
  PI: own rows may be told as data, if nobody writes them any more.
-/
import Derived.Test.YtholmbhdbmjobaaDoorCPiVc4
set_option linter.unusedVariables false
set_option linter.unusedSimpArgs false
namespace Go.PI
open Go.RowKit

def subs (ks KS : List Nat) : Bool := match ks with
  | [] => true
  | k :: ks => an (memN KS k) (subs ks KS)
theorem subs_iff : ∀ {ks KS : List Nat}, subs ks KS = true → ∀ k ∈ ks, k ∈ KS
  | k :: ks, KS, h, j, hj => by
    unfold subs at h
    rw [an_iff, memN_eq] at h
    rcases List.mem_cons.1 hj with rfl | hj
    · simpa using h.1
    · exact subs_iff h.2 j hj

/-- Slots told as data. -/
def fzT (KS : List Nat) (h : Hp) (t : Tm) : List (Nat × PV) → Prop
  | [] => True
  | (j, d) :: l => (∃ m ks, frz h m (t j) = some (d, ks) ∧ subs ks KS = true) ∧ fzT KS h t l
/-- Blocks' elements told as data. -/
def fzH (KS : List Nat) (h : Hp) : List (Nat × List PV) → Prop
  | [] => True
  | (r, els) :: l => (∃ b m ks, h r = some b ∧ mapF (frz h m) b.els = some (els, ks) ∧ subs ks KS = true) ∧ fzH KS h l
def haveB (h : Hp) : List Nat → Prop
  | [] => True
  | k :: ks => (∃ b, h k = some b) ∧ haveB h ks
def putT (t : Tm) : List (Nat × PV) → Nat → PV
  | [], j => t j
  | (i, d) :: l, j => match Nat.beq j i with
    | true => d
    | false => putT t l j
def putH (h : Hp) : List (Nat × List PV) → Nat → Option Blk
  | [], r => h r
  | (i, els) :: l, r => match Nat.beq r i with
    | true => match h r with
      | some b => some ⟨els, b.sz, b.agg⟩
      | none => none
    | false => putH h l r

theorem putT_spec {KS : List Nat} {h : Hp} {t : Tm} : ∀ {l : List (Nat × PV)}, fzT KS h t l → ∀ j, putT t l j = t j ∨ ∃ m ks, frz h m (t j) = some (putT t l j, ks) ∧ ∀ k ∈ ks, k ∈ KS
  | [], _, j => Or.inl rfl
  | (i, d) :: l, hl, j => by
    unfold putT
    rw [beq_dec]
    by_cases e : j = i
    · subst e
      simp only [decide_true]
      obtain ⟨⟨m, ks, h1, h2⟩, _⟩ := hl
      exact Or.inr ⟨m, ks, h1, subs_iff h2⟩
    · simp only [e, decide_false]
      exact putT_spec hl.2 j
theorem putH_spec {KS : List Nat} {h : Hp} : ∀ {l : List (Nat × List PV)}, fzH KS h l → ∀ r b', putH h l r = some b' → ∃ b, h r = some b ∧ b'.sz = b.sz ∧ b'.agg = b.agg ∧ (b' = b ∨ ∃ m ks, mapF (frz h m) b.els = some (b'.els, ks) ∧ ∀ k ∈ ks, k ∈ KS)
  | [], _, r, b', hb => ⟨b', hb, rfl, rfl, Or.inl rfl⟩
  | (i, els) :: l, hl, r, b', hb => by
    unfold putH at hb
    rw [beq_dec] at hb
    by_cases e : r = i
    · subst e
      simp only [decide_true] at hb
      obtain ⟨⟨b, m, ks, h1, h2, h3⟩, _⟩ := hl
      rw [h1] at hb
      cases hb
      exact ⟨b, h1, rfl, rfl, Or.inr ⟨m, ks, h2, subs_iff h3⟩⟩
    · simp only [e, decide_false] at hb
      exact putH_spec hl.2 r b' hb
theorem haveB_spec {h : Hp} : ∀ {l : List Nat}, haveB h l → ∀ k ∈ l, ∃ b, h k = some b
  | k :: ks, hl, j, hj => by
    rcases List.mem_cons.1 hj with rfl | hj
    · exact hl.1
    · exact haveB_spec hl.2 j hj
theorem putH_none {h : Hp} {r : Nat} (hr : h r = none) : ∀ {l : List (Nat × List PV)}, putH h l r = none
  | [] => hr
  | (i, els) :: l => by
    unfold putH
    cases Nat.beq r i with
    | true => simp [hr]
    | false => exact putH_none hr

theorem LeS_frz {G : Gl} {n0 : Nat} {s : St} {KS : List Nat} {TS : List (Nat × PV)} {HS : List (Nat × List PV)} (hKS : haveB s.h KS) (hT : fzT KS s.h s.t TS) (hH : fzH KS s.h HS) :
    LeS G n0 s ⟨putT s.t TS, putH s.h HS, fset s.z KS, s.nx⟩ := by
  intro E N df a w A κ hE hR
  have hKS := haveB_spec hKS
  have H1 := hR.hr.freeze (ks := KS) hKS
  refine ⟨fun b => A b ∨ blocksOf κ KS b, κ, ⟨⟨H1.bel, H1.hB, H1.alt, H1.a0, H1.a1, H1.acell, H1.k0, H1.glob, H1.klt, ⟨H1.kp.base, H1.kp.keep, H1.kp.wr, fun r b' m sz cap hb hκ hc hz => ?_, H1.kp.mks, H1.kp.nd, H1.kp.kb, H1.kp.kk, H1.kp.zk, H1.kp.mk0, fun hg => ⟨(H1.kp.gk hg).1, (H1.kp.gk hg).2.1, fun b' hb => ?_⟩⟩, fun r b' hb hκ => ?_, fun r r' b b' m m' s1 s2 c c' hne hr hr' => ?_⟩, fun r hr => ⟨?_, ?_, ?_⟩, hR.n0, fun i hi => ?_, hR.size, hR.df⟩⟩
  · obtain ⟨b, h1, _⟩ := putH_spec hH r b' hb
    exact H1.kp.own r b m sz cap h1 hκ hc hz
  · obtain ⟨b, h1, h2, h3, h4⟩ := putH_spec hH 0 b' hb
    have e := (H1.kp.gk hg).2.2 b h1
    subst e
    rcases h4 with rfl | ⟨m0, ks, h4, h5⟩
    · rfl
    · obtain ⟨els, sz, agg⟩ := b'
      cases m0 <;> simp [gblk, mapF, frz] at h2 h3 h4 ⊢ <;> simp [h2, h3, h4.1]
  · obtain ⟨b, h1, h2, h3, h4⟩ := putH_spec hH r b' hb
    rcases h4 with rfl | ⟨m0, ks, h4, h5⟩
    · exact H1.blk r b' h1 hκ
    · obtain ⟨m, cap, g1, g2, g3, g4⟩ := H1.blk r b h1 hκ
      obtain ⟨q1, q2⟩ := mapF_spec h4
      refine ⟨m, cap, by rw [h2]; exact g1, by omega, fun e he => ?_, ?_⟩
      · obtain ⟨i, hi, rfl⟩ := List.getElem_of_mem he
        obtain ⟨x, ks1, e1, e2, e3⟩ := q2 i _ (List.getElem?_eq_getElem hi)
        obtain ⟨c1, c2, _⟩ := frz_cells e2
        have := g3 x (List.mem_of_getElem? e1)
        rw [h2, h3, c1, c2]; exact this
      · rcases g4 with g4 | ⟨c, ty, f1, f2, f3, f4, f5, f6, f7⟩
        · exact Or.inl g4
        · refine Or.inr ⟨c, ty, f1, f2, by rw [h2]; exact f3, f4, fun i e he j x hx => ?_, f6, f7⟩
          rw [h2]
          obtain ⟨y, ks1, e1, e2, e3⟩ := q2 i e he
          obtain ⟨_, _, hcel⟩ := frz_cells e2
          obtain ⟨m', y', ks2, p1, p2, p3, p4⟩ := hcel j x hx
          have f5' : lies w A κ c (i * b.sz) y := by
            obtain ⟨m2, cap2, z1, z2, z3, z4⟩ := hR.hr.blk r b h1 hκ
            rw [g1] at z1; cases z1
            rcases z4 with z4 | ⟨c2, ty2, y1, y2, y3, y4, y5, y6, y7⟩
            · exfalso
              have hi := (List.getElem?_eq_some_iff.1 e1).1
              omega
            · rw [f2] at y2; cases y2
              exact y5 i y e1
          obtain ⟨u, t1, t2, t3⟩ := f5' j y' p2
          refine ⟨u, t1, .data _ _ ?_, t3⟩
          exact frz_sound hR.hr (A' := fun b => A b ∨ blocksOf κ KS b) (fun b hb => Or.inl hb) m' y' x u ks2 p3 t2 (fun b ⟨r, hr, q⟩ => Or.inr ⟨r, h5 r (e3 r (p4 r hr)), q⟩)
  · obtain ⟨b1, h1, _⟩ := putH_spec hH r b hr
    obtain ⟨b2, h2, _⟩ := putH_spec hH r' b' hr'
    exact H1.excl r r' b1 b2 m m' s1 s2 c c' hne h1 h2
  · exact putH_none (hR.fresh r hr).1
  · have h2 := (hR.fresh r hr).2.1
    show fset s.z KS r = false
    simp only [fset, Bool.or_eq_false_iff]
    refine ⟨contains_false.2 fun hm => ?_, h2⟩
    obtain ⟨b, hb⟩ := hKS r hm
    rw [(hR.fresh r hr).1] at hb; cases hb
  · exact (hR.fresh r hr).2.2
  · show RV w _ κ (putT s.t TS i) _
    have hv := hR.tm i hi
    rcases putT_spec hT i with h | ⟨m, ks, h1, h2⟩
    · rw [h]; exact hv.mono (fun _ h => Or.inl h) (fun _ _ _ => rfl) (fun _ _ h => h)
    · exact .data _ _ (frz_sound hR.hr (A' := fun b => A b ∨ blocksOf κ KS b) (fun b hb => Or.inl hb) m _ _ _ ks h1 hv (fun b ⟨r, hr, q⟩ => Or.inr ⟨r, h2 r hr, q⟩))

theorem LeS.trans {G : Gl} {n0 : Nat} {s1 s2 s3 : St} (h : LeS G n0 s1 s2) (k : LeS G n0 s2 s3) : LeS G n0 s1 s3 := by
  intro E N df a w A κ hE hR
  obtain ⟨A', κ', hR'⟩ := h E N df a w A κ hE hR
  exact k E N df a w A' κ' hE hR'

section
variable {P : Program} {T : Ti} {G : Gl} {n0 : Nat}

/-- At a loop's head (or a round's end): what is kept, some of it told as data. -/
def Kept (n0 : Nat) (s : St) (L : List (Nat × PV)) (H : List (Nat × Blk)) (Z : List Nat) (k : Nat) : Prop :=
  ∃ (ρ KS : List Nat) (TS : List (Nat × PV)) (HS : List (Nat × List PV)), (haveB s.h KS ∧ fzT KS s.h s.t TS ∧ fzH KS s.h HS) ∧ okV (ren n0 ρ) k L (putT s.t TS) ∧ okHV (ren n0 ρ) k Z H (putH s.h HS) (fs s.z KS) ∧ (H.map fun q => ren n0 ρ q.1).Pairwise (· ≠ ·)
theorem Kept.le {s : St} {L : List (Nat × PV)} {H : List (Nat × Blk)} {Z : List Nat} {k : Nat} (hk : n0 ≤ k) (hZ : ∀ r ∈ Z, r < k) (h : Kept n0 s L H Z k) : LeS G n0 s ⟨sl L, hl H, zl Z, k⟩ := by
  obtain ⟨ρ, KS, TS, HS, ⟨h1, h2, h3⟩, h4, h5, h6⟩ := h
  refine (LeS_frz h1 h2 h3).trans (LeS_list ρ hk (okV_iff h4) (okHV_iff ?_) hZ h6)
  rw [← fs_eq]; exact h5

/-- A LOOP that keeps blocks, some told as data. -/
theorem loopV_kept (hT : ∀ i x, T i = some x → tinfo P i = x) {c : Code} {Q : Exit → St → Prop} {s : St} {ι : Type} (L : ι → List (Nat × PV)) (H : ι → List (Nat × Blk)) (Z : List Nat) (k : Nat) (Inv : ι → Prop) (μ : ι → Nat) (i0 : ι) (h0 : Inv i0) (hk : n0 ≤ k) (hZ : ∀ r ∈ Z, r < k)
    (hs : Kept n0 s (L i0) (H i0) Z k)
    (round : ∀ i, Inv i → VC P T G n0 c (thenQ (fun s' => ∃ i', (Inv i' ∧ μ i' < μ i) ∧ Kept n0 s' (L i') (H i') Z k) Q) ⟨sv (L i), hv (H i), zv Z, k⟩) :
    loopV P G (FnC P G) (FnH P G) (LeS G, n0) c Q s := by
  unfold loopV
  refine loop_rule L H (fun _ => Z) k Inv μ i0 h0 (hs.le hk hZ) fun i hi => ?_
  have := round i hi
  rw [sv_eq, hv_eq, zv_eq] at this
  exact vc_wp hT (fun e s h => by
    cases e <;> first | (obtain ⟨i', ⟨h1, h2⟩, h3⟩ := h; exact ⟨i', h1, h2, h3.le hk hZ⟩) | exact h) this
end

theorem frz_own_map {α : Type} {h : Hp} {n r len sz : Nat} {agg : Bool} {els : List PV} {f : α → PV} {l : List α} (hb : h r = some ⟨els, sz, agg⟩) (he : els = l.map f) (hl : len = l.length) (hf : ∀ x, frz h n (f x) = some (f x, [])) : frz h (n + 1) (.own r 0 len) = some (.imm (l.map f), [r]) := by
  subst hl he
  unfold frz
  simp only [hb]
  have e : ((l.map f).drop 0).take l.length = l.map f := by rw [List.drop_zero, List.take_of_length_le (by simp)]
  simp only [e, frz_map hf l]
  rw [if_pos (by simp)]
theorem frz_agg_cons {h : Hp} {n : Nat} {c d : PV} {cs ds : List PV} {ks ls : List Nat} (h1 : frz h n c = some (d, ks)) (h2 : mapF (frz h n) cs = some (ds, ls)) : frz h (n + 1) (.agg (c :: cs)) = some (.agg (d :: ds), ks ++ ls) := by
  unfold frz
  simp only [mapF, h1, h2]
theorem mapF_cons {f : PV → Option (PV × List Nat)} {c d : PV} {cs ds : List PV} {ks ls : List Nat} (h1 : f c = some (d, ks)) (h2 : mapF f cs = some (ds, ls)) : mapF f (c :: cs) = some (d :: ds, ks ++ ls) := by
  simp only [mapF, h1, h2]
theorem nr_map {α : Type} {f : α → PV} {l : List α} (hf : ∀ x, nr 3 (f x) = true ∧ f x ≠ .any) : ∀ e ∈ l.map f, nr 3 e = true ∧ e ≠ .any := fun e he => by obtain ⟨x, _, rfl⟩ := List.mem_map.1 he; exact hf x
theorem frz_aggL {h : Hp} {n : Nat} {cs ds : List PV} {ks : List Nat} (h1 : mapF (frz h n) cs = some (ds, ks)) : frz h (n + 1) (.agg cs) = some (.agg ds, ks) := by
  unfold frz
  simp only [h1]
theorem frz_tupL {h : Hp} {n : Nat} {cs ds : List PV} {ks : List Nat} (h1 : mapF (frz h n) cs = some (ds, ks)) : frz h (n + 1) (.tup cs) = some (.tup ds, ks) := by
  unfold frz
  simp only [h1]
end Go.PI
