/-
  PI: loops by 'vc'; the table of types.
-/
import Derived.Test.YtholmbhdbmjobaaDoorCPiVc3
set_option linter.unusedVariables false
set_option linter.unusedSimpArgs false
namespace Go.PI

/-- Slots, listed. -/
def sv : List (Nat × PV) → Nat → PV
  | [], _ => .any
  | (j, v) :: l, i => match Nat.beq i j with
    | true => v
    | false => sv l i
def hv : List (Nat × Blk) → Nat → Option Blk
  | [], _ => none
  | (j, b) :: l, i => match Nat.beq i j with
    | true => some b
    | false => hv l i
def zv (l : List Nat) (r : Nat) : Bool := memN l r
theorem sv_eq : ∀ {l : List (Nat × PV)}, sv l = sl l
  | [] => rfl
  | (j, v) :: l => by
    funext i
    unfold sv sl
    rw [beq_dec, sv_eq]
    by_cases h : i = j <;> simp [h]
theorem hv_eq : ∀ {l : List (Nat × Blk)}, hv l = hl l
  | [] => rfl
  | (j, v) :: l => by
    funext i
    unfold hv hl
    rw [beq_dec, hv_eq]
    by_cases h : i = j <;> simp [h]
theorem zv_eq {l : List Nat} : zv l = zl l := by funext r; unfold zv zl; rw [memN_eq]

/-- A slot that holds at least what is said. -/
def at' (ρ : Nat → Nat) (k : Nat) (t : Tm) (j : Nat) (v : PV) : Prop := rn ρ k 3 v (t j)
def okV (ρ : Nat → Nat) (k : Nat) : List (Nat × PV) → Tm → Prop
  | [], _ => True
  | (j, v) :: l, t => at' ρ k t j v ∧ okV ρ k l t
theorem okV_iff {ρ : Nat → Nat} {k : Nat} {t : Tm} : ∀ {l : List (Nat × PV)}, okV ρ k l t → okS ρ k l t
  | [], _ => trivial
  | (_, _) :: _, h => ⟨h.1, okV_iff h.2⟩
theorem okV_nil {ρ : Nat → Nat} {k : Nat} {t : Tm} : okV ρ k [] t := trivial
theorem okV_cons {ρ : Nat → Nat} {k j : Nat} {v : PV} {l : List (Nat × PV)} {t : Tm} (h1 : at' ρ k t j v) (h2 : okV ρ k l t) : okV ρ k ((j, v) :: l) t := ⟨h1, h2⟩
section
variable {ρ : Nat → Nat} {k : Nat} {t : Tm} {j : Nat}
theorem at_any : at' ρ k t j .any := by unfold at' rn; exact trivial
theorem at_int {κ : IntKind} {n m : Int} (h : t j = .int κ n) (e : n = m) : at' ρ k t j (.int κ m) := by subst e; unfold at'; rw [rn_int]; exact h
theorem at_bool {b c : Bool} (h : t j = .bool b) (e : b = c) : at' ρ k t j (.bool c) := by subst e; unfold at'; rw [rn_bool]; exact h
theorem at_imm {es fs : List PV} (h : t j = .imm es) (e : es = fs) : at' ρ k t j (.imm fs) := by subst e; unfold at'; rw [rn_imm]; exact h
theorem at_nilsl (h : t j = .nilsl) : at' ρ k t j .nilsl := by unfold at'; rw [rn_nilsl]; exact h
theorem at_nilfunc (h : t j = .nilfunc) : at' ρ k t j .nilfunc := by unfold at'; rw [rn_nilfunc]; exact h
theorem at_cptr {e : PV} {o : Nat} (h : t j = .cptr e o) : at' ρ k t j (.cptr e o) := by unfold at'; rw [rn_cptr]; exact h
theorem at_own {r off len len' : Nat} (hr : r < k) (h : t j = .own (ρ r) off len) (e : len = len') : at' ρ k t j (.own r off len') := by subst e; unfold at'; rw [rn_own]; exact ⟨hr, h⟩
theorem at_ptr {r i off : Nat} (hr : r < k) (h : t j = .ptr (ρ r) i off) : at' ρ k t j (.ptr r i off) := by unfold at'; rw [rn_ptr]; exact ⟨hr, h⟩
theorem at_agg {cs : List PV} (h : t j = .agg cs) (hd : rnL (rn ρ k 2) cs cs) : at' ρ k t j (.agg cs) := by unfold at'; rw [h, rn_agg]; exact hd
theorem at_func {fn : Fn} (h : t j = .func fn [] []) : at' ρ k t j (.func fn [] []) := by unfold at'; rw [h, rn_func]; exact ⟨rfl, trivial, trivial⟩
end

section
variable {P : Program} {T : Ti} {G : Gl} {n0 : Nat}

/-- A block that is as said. -/
def blkOk (ρ : Nat → Nat) (k : Nat) (Z : List Nat) (r : Nat) (b : Blk) (h : Hp) (z : Fz) : Prop := r < k ∧ (∀ e ∈ b.els, e ≠ .any) ∧ (∃ b', h (ρ r) = some b' ∧ rnB ρ k b b') ∧ memN Z r = z (ρ r)
def okHV (ρ : Nat → Nat) (k : Nat) (Z : List Nat) : List (Nat × Blk) → Hp → Fz → Prop
  | [], _, _ => True
  | (r, b) :: l, h, z => blkOk ρ k Z r b h z ∧ okHV ρ k Z l h z
theorem okHV_iff {ρ : Nat → Nat} {k : Nat} {Z : List Nat} {h : Hp} {z : Fz} : ∀ {l : List (Nat × Blk)}, okHV ρ k Z l h z → okH ρ k Z l h z
  | [], _ => trivial
  | (_, _) :: _, ⟨⟨h1, h2, ⟨b, h3, h4⟩, h5⟩, hr⟩ => ⟨⟨h1, h2, by rw [h3]; exact h4, by rw [← memN_eq]; exact h5⟩, okHV_iff hr⟩
theorem blk_box {ρ : Nat → Nat} {k : Nat} {Z : List Nat} {r : Nat} {v v' : PV} {sz : Nat} {agg : Bool} {h : Hp} {z : Fz} (hr : r < k) (hb : h (ρ r) = some ⟨[v'], sz, agg⟩) (e : v' = v) (hn : nr 3 v = true) (ha : v.storable = true) (hz : memN Z r = z (ρ r)) : blkOk ρ k Z r ⟨[v], sz, agg⟩ h z := by
  subst e
  refine ⟨hr, fun e he => ?_, ⟨_, hb, rfl, rfl, Or.inl ⟨rfl, fun e he => ?_⟩⟩, hz⟩
  · simp at he; subst he; intro q; subst q; simp [PV.storable] at ha
  · simp at he; subst he; exact hn
theorem blk_boxK {ρ : Nat → Nat} {k : Nat} {Z : List Nat} {r : Nat} {v v' : PV} {sz : Nat} {agg : Bool} {h : Hp} {z : Fz} (hr : r < k) (hb : h (ρ r) = some ⟨[v'], sz, agg⟩) (e : rn ρ k 3 v v') (ha : v.storable = true) (hz : memN Z r = z (ρ r)) : blkOk ρ k Z r ⟨[v], sz, agg⟩ h z := by
  refine ⟨hr, fun e he => ?_, ⟨_, hb, rfl, rfl, Or.inr ⟨e, trivial⟩⟩, hz⟩
  simp at he; subst he; intro q; subst q; simp [PV.storable] at ha
theorem blk_row {ρ : Nat → Nat} {k : Nat} {Z : List Nat} {r : Nat} {els els' : List PV} {sz : Nat} {agg : Bool} {h : Hp} {z : Fz} (hr : r < k) (hb : h (ρ r) = some ⟨els', sz, agg⟩) (e : els' = els) (hn : ∀ e ∈ els, nr 3 e = true ∧ e ≠ .any) (hz : memN Z r = z (ρ r)) : blkOk ρ k Z r ⟨els, sz, agg⟩ h z := by
  subst e
  exact ⟨hr, fun e he => (hn e he).2, ⟨_, hb, rfl, rfl, Or.inl ⟨rfl, fun e he => (hn e he).1⟩⟩, hz⟩

/-- A loop that keeps blocks. -/
theorem loopV_blocks (hT : ∀ i x, T i = some x → tinfo P i = x) {c : Code} {Q : Exit → St → Prop} {s : St} {ι : Type} (L : ι → List (Nat × PV)) (H : ι → List (Nat × Blk)) (Z : List Nat) (k : Nat) (Inv : ι → Prop) (μ : ι → Nat) (i0 : ι) (h0 : Inv i0) (hk : n0 ≤ k) (hZ : ∀ r ∈ Z, r < k)
    (ρ0 : List Nat) (hs : okV (ren n0 ρ0) k (L i0) s.t) (hH : okHV (ren n0 ρ0) k Z (H i0) s.h s.z) (hinj : ((H i0).map fun q => ren n0 ρ0 q.1).Pairwise (· ≠ ·))
    (round : ∀ i, Inv i → VC P T G n0 c (thenQ (fun s' => ∃ i' ρ, (Inv i' ∧ μ i' < μ i) ∧ okV (ren n0 ρ) k (L i') s'.t ∧ okHV (ren n0 ρ) k Z (H i') s'.h s'.z ∧ ((H i').map fun q => ren n0 ρ q.1).Pairwise (· ≠ ·)) Q) ⟨sv (L i), hv (H i), zv Z, k⟩) :
    loopV P G (FnC P G) (FnH P G) (LeS G, n0) c Q s := by
  unfold loopV
  refine loop_rule L H (fun _ => Z) k Inv μ i0 h0 (LeS_list ρ0 hk (okV_iff hs) (okHV_iff hH) hZ hinj) fun i hi => ?_
  have := round i hi
  rw [sv_eq, hv_eq, zv_eq] at this
  exact vc_wp hT (fun e s h => by
    cases e <;> first | (obtain ⟨i', ρ, ⟨h1, h2⟩, h3, h4, h5⟩ := h; exact ⟨i', h1, h2, LeS_list ρ hk (okV_iff h3) (okHV_iff h4) hZ h5⟩) | exact h) this

/-- A LOOP, its states by lists of slots and blocks. -/
theorem loopV_rule (hT : ∀ i x, T i = some x → tinfo P i = x) {c : Code} {Q : Exit → St → Prop} {s : St} {ι : Type} (L : ι → List (Nat × PV)) (H : ι → List (Nat × Blk)) (Z : List Nat) (k : Nat) (Inv : ι → Prop) (μ : ι → Nat) (i0 : ι) (h0 : Inv i0)
    (hs : LeS G n0 s ⟨sl (L i0), hl (H i0), zl Z, k⟩)
    (round : ∀ i, Inv i → VC P T G n0 c (thenQ (fun s' => ∃ i', (Inv i' ∧ μ i' < μ i) ∧ LeS G n0 s' ⟨sl (L i'), hl (H i'), zl Z, k⟩) Q) ⟨sv (L i), hv (H i), zv Z, k⟩) :
    loopV P G (FnC P G) (FnH P G) (LeS G, n0) c Q s := by
  unfold loopV
  refine loop_rule L H (fun _ => Z) k Inv μ i0 h0 hs fun i hi => ?_
  have := round i hi
  rw [sv_eq, hv_eq, zv_eq] at this
  exact vc_wp hT (fun e s h => by
    cases e <;> first | (obtain ⟨i', ⟨h1, h2⟩, h3⟩ := h; exact ⟨i', h1, h2, h3⟩) | exact h) this

/-- A loop that keeps no blocks. -/
theorem loopV_slots (hT : ∀ i x, T i = some x → tinfo P i = x) {c : Code} {Q : Exit → St → Prop} {s : St} {ι : Type} (L : ι → List (Nat × PV)) (Inv : ι → Prop) (μ : ι → Nat) (i0 : ι) (h0 : Inv i0)
    (hs : okV id n0 (L i0) s.t)
    (round : ∀ i, Inv i → VC P T G n0 c (thenQ (fun s' => ∃ i', (Inv i' ∧ μ i' < μ i) ∧ okV id n0 (L i') s'.t) Q) ⟨sv (L i), noH, noZ, n0⟩) :
    loopV P G (FnC P G) (FnH P G) (LeS G, n0) c Q s := by
  unfold loopV
  refine loop_slots L Inv μ i0 h0 (okV_iff hs) fun i hi => ?_
  have := round i hi
  rw [sv_eq] at this
  exact vc_wp hT (fun e s h => by
    cases e <;> first | (obtain ⟨i', h1, h3⟩ := h; exact ⟨i', h1, okV_iff h3⟩) | exact h) this
end

theorem tab_of {P : Program} {tab : List TI} (h : (List.range tab.length).map (tinfo P) = tab) : ∀ i x, nth tab i = some x → tinfo P i = x := by
  intro i x hx
  rw [nth_eq, ← h, List.getElem?_map] at hx
  have hi : i < tab.length := by
    by_cases hi : i < tab.length
    · exact hi
    · rw [List.getElem?_eq_none (by simpa using hi)] at hx; cases hx
  rw [List.getElem?_range hi] at hx
  simpa using hx

theorem brT_all {α : Type} {f : α → PV} {l : List α} {sz : Nat} {agg b : Bool} {A : Prop} (h : ∀ x, (f x).cells.length = sz ∧ (f x).isAgg = agg) (hb : b = true) (k : A) : brT (an (allE sz agg (l.map f)) b) A :=
  brT_intro (by rw [allE_map h, hb]; rfl) k
theorem brT_allDT {α : Type} {f : α → PV} {l : List α} {o n sz : Nat} {agg b : Bool} {A : Prop} (h : ∀ x, (f x).cells.length = sz ∧ (f x).isAgg = agg) (hb : b = true) (k : A) : brT (an (allE sz agg (((l.map f).drop o).take n)) b) A :=
  brT_intro (by rw [← List.map_drop, ← List.map_take, allE_map h, hb]; rfl) k
theorem len_app {α : Type} (a b : List α) : (a ++ b).length = a.length + b.length := List.length_append

/-! An element of a list of data. -/
theorem oK_map {α : Type} [Inhabited α] {f : α → PV} {l : List α} {i : Nat} {K : PV → Prop} (h : i < l.length) (k : K (f l[i]!)) : oK (nth (l.map f) i) K := by
  refine oK_intro ?_ k
  rw [nth_eq, List.getElem?_map, List.getElem?_eq_getElem h, getElem!_pos l i h]
  rfl
theorem oK_map' {α : Type} [Inhabited α] {f : α → PV} {l : List α} {i : Int} {K : PV → Prop} {j : Nat} (e : i = (j : Int)) (h : j < l.length) (k : K (f l[j]!)) : oK (nth (l.map f) i.toNat) K := by
  subst e
  exact oK_map h k
theorem oK_atN {α : Type} [Inhabited α] {f : α → PV} {l : List α} {k : Nat} (j : Nat) {K : PV → Prop} (e : k = j) (h : j < l.length) (q : K (f l[j]!)) : oK (nth (l.map f) k) K := by subst e; exact oK_map h q
end Go.PI
