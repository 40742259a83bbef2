/-
  PI: each operation but a call does to memory what 'evalOp' says: third part: operations that make or write memory.
-/
import Derived.Test.YtholmbhdbmjobaaDoorCPiOps2
set_option linter.unusedVariables false
set_option linter.unusedSimpArgs false
namespace Go.PI
open Go.RowKit

theorem fold_set (off : Nat) : ∀ (l : List Value) (k : Nat) (cs : Array Value), off + k + l.length ≤ cs.size →
    ((l.zipIdx k).foldl (fun cs (x : Value × Nat) => cs.setIfInBounds (off + x.2) x.1) cs).size = cs.size ∧
    ∀ p, ((l.zipIdx k).foldl (fun cs (x : Value × Nat) => cs.setIfInBounds (off + x.2) x.1) cs)[p]? = if off + k ≤ p ∧ p < off + k + l.length then l[p - (off + k)]? else cs[p]?
  | [], k, cs, _ => ⟨rfl, fun p => by simp; omega⟩
  | v :: l, k, cs, h => by
    simp only [List.length_cons] at h
    have ih := fold_set off l (k + 1) (cs.setIfInBounds (off + k) v) (by simp; omega)
    simp only [List.zipIdx_cons, List.foldl_cons]
    refine ⟨by rw [ih.1]; simp, fun p => ?_⟩
    rw [ih.2 p]
    simp only [List.length_cons]
    by_cases hp : p = off + k
    · subst hp
      rw [if_neg (by omega), if_pos (by omega)]
      have : off + k < cs.size := by omega
      simp [this]
    · by_cases hq : off + k ≤ p ∧ p < off + k + (l.length + 1)
      · rw [if_pos (by omega), if_pos hq]
        have e : p - (off + k) = (p - (off + (k + 1))) + 1 := by omega
        rw [e, List.getElem?_cons_succ]
      · rw [if_neg (by omega), if_neg hq]
        rw [Array.getElem?_setIfInBounds_ne (by omega)]

section
variable {P : Program} {E : Env} {G : Gl} {w : World} {A : Nat → Prop} {κ : Ka} {h : Hp} {z : Fz} {t : Tm} {ρ : Operand → Value} {o : Oper} {key : Nat} {v : PV} {h' : Hp} {rd wr : List Nat}

/-- A list of cells, each as its place says, and each one cell. -/
structure Cs (w : World) (A : Nat → Prop) (κ : Ka) (ds : List PV) (c : Array Value) : Prop where
  len : c.size = ds.length
  rel : ∀ (i : Nat) (d : PV), ds[i]? = some d → ∃ v : Value, c[i]? = some v ∧ RV w A κ d v ∧ v.oneCell' = true

theorem Cs.all {ds : List PV} {c : Array Value} (h : Cs w A κ ds c) : ∀ u ∈ c.toList, u.oneCell' = true := by
  intro u hu
  obtain ⟨i, hi, rfl⟩ := List.getElem_of_mem hu
  have hi' : i < c.size := by simpa using hi
  obtain ⟨v, h1, _, h3⟩ := h.rel i (ds[i]'(by rw [← h.len]; exact hi')) (List.getElem?_eq_getElem _)
  rw [Array.getElem?_eq_getElem hi'] at h1
  cases h1
  simpa using h3

theorem Cs.of {d : PV} {v : Value} (h : RV w A κ d v) (hs : d.storable = true) : Cs w A κ d.cells v.cells := by
  obtain ⟨⟨h1, h2⟩, h3⟩ := h.cells hs
  refine ⟨by simpa using h1.symm, fun i d' hd => ?_⟩
  have hi : i < v.cells.size := by have := (List.getElem?_eq_some_iff.1 hd).1; simp at h1; omega
  refine ⟨v.cells[i], Array.getElem?_eq_getElem hi, ?_, h3 _ (by simp)⟩
  have := h2 i d' hd
  simpa [List.getD, hi] using this

theorem Cs.lies {d : PV} {c : Array Value} (h : Cs w A κ d.cells c) : lies w A κ c 0 d := fun j x hx => by
  obtain ⟨v, h1, h2, h3⟩ := h.rel j x hx
  exact ⟨v, by simpa using h1, h2, h3⟩

/-- A new variable. -/
theorem snd_new {ty : TypeId} {d : PV} {u : Value} (H : HR E G w A κ h z) (hn : E.n0 ≤ key) (hk : κ key = none) (hz : z key = false) (hd : RV w A κ d u) (hs : d.storable = true)
    (hr : (execOp ρ o).run P w = .ok (.value (.pointer (some ⟨w.heap.size, 0, none⟩))) (w.alloc (.cells u.cells ty))) :
    Sound E G w A κ z (hset h key (some ⟨[d], d.cells.length, d.isAgg⟩)) key (.ptr key 0 0) ((execOp ρ o).run P w) := by
  have hc := Cs.of hd hs
  refine ⟨_, _, kset κ key (w.heap.size, d.cells.length, 1), Or.inl hr, H.alloc hn hk hz (by rw [hc.len]; simp) (by simp) (by simp) hc.all (fun i e he => ?_), ?_, kset_le _ hk, fun r hr => kset_other κ _ hr,
    fun b o' hA => cell?_of_heap (Below.heap_alloc _ _ _ (H.alt b hA)) o'⟩
  · cases i with
    | zero => simp at he; subst he; simpa using hc.lies
    | succ i => simp at he
  · have := RV.ptr (w := w.alloc (.cells u.cells ty)) (A := A) (κ := kset κ key (w.heap.size, d.cells.length, 1)) key 0 0 w.heap.size d.cells.length 1 (kset_same ..)
    simpa using this

theorem tinfo_zero {s : TypeId} (h : (tinfo P s).zok = true) : ∃ i u, P.info? s = some i ∧ i.zero = some u ∧ (tinfo P s).zero = ofZero u ∧ (tinfo P s).zero.storable = true ∧ ∀ d ∈ (tinfo P s).zero.cells, d.storable = true := by
  have hz : (tinfo P s).zero.storable = true ∧ ∀ d ∈ (tinfo P s).zero.cells, d.storable = true := by
    unfold tinfo at h ⊢
    simp only [Bool.and_eq_true, List.all_eq_true] at h ⊢
    exact h
  unfold tinfo at hz ⊢
  simp only at hz ⊢
  cases hi : P.info? s with
  | none => simp [hi, PV.storable] at hz
  | some i =>
    cases hu : i.zero with
    | none => simp [hi, hu, PV.storable] at hz
    | some u =>
      simp only [hi, hu] at hz ⊢
      exact ⟨i, u, rfl, hu, rfl, hz⟩

theorem one_of_storable {u : Value} (hs : (ofConst u).storable = true) : u.oneCell' = true := by
  unfold ofConst at hs
  split at hs <;> first | rfl | (simp [PV.storable] at hs; done) | skip

theorem rv_zero_agg (cs : Array Value) (h : ∀ d ∈ (ofZero (.agg cs)).cells, d.storable = true) : RV w A κ (ofZero (.agg cs)) (.agg cs) := by
  refine .agg _ cs (by simp) (fun i d hd => ?_) (fun i hi => ?_)
  · simp only [List.getElem?_map, Option.map_eq_some_iff] at hd
    obtain ⟨x, hx, rfl⟩ := hd
    have hi : i < cs.size := by have := (List.getElem?_eq_some_iff.1 hx).1; simpa using this
    have e : cs[i] = x := by have := (List.getElem?_eq_some_iff.1 hx).2; simpa using this
    have := pi_ofConst (w := w) (A := A) (κ := κ) x
    simpa [Array.getD, hi, e] using this
  · have hi' : i < cs.size := by simpa using hi
    have hs : (ofConst cs[i]).storable = true := h _ (by simp only [ofZero, PV.cells_agg, List.mem_map]; exact ⟨cs[i], by simp, rfl⟩)
    have := one_of_storable hs
    simpa [Array.getD, hi'] using this

theorem rv_zero {u : Value} (h : ∀ d ∈ (ofZero u).cells, d.storable = true) : RV w A κ (ofZero u) u := by
  cases u
  case agg cs => exact rv_zero_agg cs h
  all_goals (unfold ofZero; exact pi_ofConst _)

theorem snd_alloc {ty : TypeId} (ho : o.op = .alloc ty) (H : HR E G w A κ h z) (hn : E.n0 ≤ key) (hk : κ key = none) (hz : z key = false)
    (he : evalOp P G z key (.alloc ty) t h = some (v, h', rd, wr)) : Sound E G w A κ z h' key v ((execOp ρ o).run P w) := by
  unfold evalOp at he
  simp only at he
  obtain ⟨hz0, he⟩ := need_some he
  cases he
  obtain ⟨i, u, h1, h2, h3, h4, h5⟩ := tinfo_zero hz0
  rw [h3] at h4 h5 ⊢
  exact snd_new (ty := ty) H hn hk hz (rv_zero h5) h4 (by simp [execOp, ho, Instr.alloc, zeroValue, typeInfo, h1, h2, newVar, newRow])

theorem snd_box {ty : TypeId} {x : Operand} (ho : o.op = .box ty x) (H : HR E G w A κ h z) (hn : E.n0 ≤ key) (hk : κ key = none) (hz : z key = false) (hx : RV w A κ (ev G t x) (ρ x))
    (he : evalOp P G z key (.box ty x) t h = some (v, h', rd, wr)) : Sound E G w A κ z h' key v ((execOp ρ o).run P w) := by
  unfold evalOp at he
  simp only at he
  obtain ⟨hs, he⟩ := need_some he
  cases he
  exact snd_new (ty := ty) H hn hk hz hx hs (by simp [execOp, ho, Instr.box, newVar, newRow])

/-- Cells written over a range. -/
theorem Cs.over {ds : List PV} {c c' : Array Value} {d : PV} {off : Nat} {u : Value} (hc : Cs w A κ ds c) (hd : Cs w A κ d.cells u.cells) (hle : off + d.cells.length ≤ ds.length)
    (hsz : c'.size = c.size) (hget : ∀ p, c'[p]? = if off ≤ p ∧ p < off + u.cells.size then u.cells[p - off]? else c[p]?) :
    Cs w A κ (ds.take off ++ d.cells ++ ds.drop (off + d.cells.length)) c' := by
  refine ⟨by simp [hsz, hc.len]; omega, fun i x hx => ?_⟩
  rw [hget]
  have hl := hd.len
  by_cases h1 : i < off
  · rw [if_neg (by omega)]
    rw [List.append_assoc, List.getElem?_append_left (by simp; omega), List.getElem?_take_of_lt h1] at hx
    exact hc.rel i x hx
  · by_cases h2 : i < off + d.cells.length
    · rw [if_pos (by omega)]
      rw [List.append_assoc, List.getElem?_append_right (by simp; omega), List.getElem?_append_left (by simp; omega)] at hx
      have e : i - (List.take off ds).length = i - off := by simp; omega
      rw [e] at hx
      exact hd.rel _ x hx
    · rw [if_neg (by omega)]
      rw [List.getElem?_append_right (by simp; omega), List.getElem?_drop] at hx
      have e : off + d.cells.length + (i - (List.take off ds ++ d.cells).length) = i := by simp; omega
      rw [e] at hx
      exact hc.rel i x hx

theorem fill_spec (place : Nat → Option (Nat × Nat)) (fs : List (Nat × Nat × Nat)) (hp : ∀ i f, fs[i]? = some f → place i = some (f.1, f.2.2)) : ∀ (parts : List (Nat × PV)) (us : List (Nat × Value)) (ds : List PV) (c : Array Value) (r : List PV),
    us.length = parts.length → (∀ (i : Nat) j d, parts[i]? = some (j, d) → ∃ u, us[i]? = some (j, u) ∧ RV w A κ d u) → Cs w A κ ds c → fillF fs ds parts = some r →
    ∃ c', Instr.fill place c us = some c' ∧ Cs w A κ r c'
  | [], [], ds, c, r, _, _, hc, h => by simp [fillF] at h; subst h; exact ⟨c, rfl, hc⟩
  | (j, d) :: parts, [], _, _, _, hl, _, _, _ => by simp at hl
  | [], _ :: _, _, _, _, hl, _, _, _ => by simp at hl
  | (j, d) :: parts, (j', u) :: us, ds, c, r, hl, hr, hc, h => by
    obtain ⟨u', e, hd⟩ := hr 0 j d rfl
    simp at e
    obtain ⟨rfl, rfl⟩ := e
    simp only [fillF] at h
    split at h
    · cases h
    · rename_i off ty size hf
      split at h
      · rename_i hcond
        obtain ⟨hs, hsz, hle⟩ := hcond
        have hdc := Cs.of hd hs
        have hplace : place j' = some (off, size) := hp j' _ hf
        have hu : u.cells.size = size := by rw [hdc.len, hsz]
        have hle' : off + u.cells.size ≤ c.size := by rw [hc.len]; omega
        have hfold := fold_set off u.cells.toList 0 c (by simpa using hle')
        have harr : u.cells.zipIdx.foldl (fun cs (x : Value × Nat) => cs.setIfInBounds (off + x.2) x.1) c = (u.cells.toList.zipIdx 0).foldl (fun cs (x : Value × Nat) => cs.setIfInBounds (off + x.2) x.1) c := by
          rw [← Array.foldl_toList]; simp
        have hnext : Cs w A κ (ds.take off ++ d.cells ++ ds.drop (off + d.cells.length)) (u.cells.zipIdx.foldl (fun cs (x : Value × Nat) => cs.setIfInBounds (off + x.2) x.1) c) := by
          refine hc.over hdc (by omega) (by rw [harr]; exact hfold.1) (fun p => ?_)
          rw [harr, hfold.2 p]
          simp
        rw [hsz] at hnext
        obtain ⟨c', h1, h2⟩ := fill_spec place fs hp parts us _ _ r (by simpa using hl) (fun i j d hi => by have := hr (i + 1) j d (by simpa using hi); simpa using this) hnext h
        refine ⟨c', ?_, h2⟩
        simp only [Instr.fill, hplace]
        rw [if_neg (by simp; omega)]
        exact h1
      · cases h

theorem snd_build {ty : TypeId} {parts : Array (Nat × Operand)} (ho : o.op = .build ty parts) (H : HR E G w A κ h z) (hx : OkOp G w A κ t ρ (.build ty parts))
    (he : evalOp P G z key (.build ty parts) t h = some (v, h', rd, wr)) : Sound E G w A κ z h' key v ((execOp ρ o).run P w) := by
  unfold evalOp at he
  simp only at he
  split at he
  · obtain ⟨⟨hz0, hst⟩, he⟩ := need_some he
    split at he
    · rename_i cs hfill
      cases he
      obtain ⟨i, u, h1, h2, h3, h4, h5⟩ := tinfo_zero hz0
      have hzc : Cs w A κ (tinfo P ty).zero.cells u.cells := by rw [h3] at h4 h5 ⊢; exact Cs.of (rv_zero h5) h4
      have hst' : ∃ fs, P.underlying ty = some (.struct fs) ∧ ∀ f ∈ fs.toList, (P.info? f.type).isSome = true := by
        unfold tinfo at hst
        simp only at hst
        cases hd : P.underlying ty with
        | none => simp only [hd] at hst; cases hst
        | some d => cases d <;> simp only [hd, List.all_eq_true] at hst <;> first | (cases hst; done) | exact ⟨_, rfl, hst⟩
      obtain ⟨fs, hu, hinfo⟩ := hst'
      have hflds : (tinfo P ty).fields = fs.toList.map fun f => (f.offset, f.type, P.cellsOf f.type) := by unfold tinfo; simp only; rw [hu]
      have hpl : fs.toList.mapM (fun f => (P.info? f.type).map fun i => (f.offset, i.size)) = some (fs.toList.map fun f => (f.offset, P.cellsOf f.type)) := by
        generalize fs.toList = l at hinfo
        induction l with
        | nil => rfl
        | cons f l ih =>
          have hf := hinfo f (by simp)
          obtain ⟨i, hi⟩ := Option.isSome_iff_exists.1 hf
          simp [List.mapM_cons, hi, ih (fun f hf => hinfo f (by simp [hf])), Program.cellsOf]
      obtain ⟨c', hc1, hc2⟩ := fill_spec (w := w) (A := A) (κ := κ) (fun i => (fs.toList.map fun f => (f.offset, P.cellsOf f.type))[i]?) (tinfo P ty).fields (fun i f hi => by
          rw [hflds] at hi
          simp only [List.getElem?_map, Option.map_eq_some_iff] at hi ⊢
          obtain ⟨g, h1, rfl⟩ := hi
          exact ⟨g, h1, rfl⟩)
        (parts.toList.map fun (j, x) => (j, ev G t x)) (parts.toList.map fun (j, x) => (j, ρ x)) _ _ cs (by simp) (fun i j d hi => by
          simp only [List.getElem?_map, Option.map_eq_some_iff] at hi ⊢
          obtain ⟨⟨j0, x⟩, hx1, hx2⟩ := hi
          cases hx2
          refine ⟨ρ x, ⟨(j0, x), hx1, rfl⟩, hx x ?_⟩
          simp only [Op.operands, List.mem_map]
          exact ⟨(j0, x), List.mem_of_getElem? hx1, rfl⟩) hzc hfill
      have hb : P.built ty ((parts.map fun (i, x) => (i, ρ x)).toList) = some c' := by
        unfold Program.built
        simp only [h1, hu, h2, hpl]
        simpa using hc1
      have hrun := run_build (P := P) w ty (parts.map fun (i, x) => (i, ρ x)) c' hb
      refine Sound.pure H (v' := .agg c') (by simp [execOp, ho, hrun]) (.agg _ _ hc2.len (fun i d hd => ?_) (fun i hi => ?_))
      · obtain ⟨v, g1, g2, _⟩ := hc2.rel i d hd
        simpa [Array.getD_eq_getD_getElem?, g1] using g2
      · obtain ⟨v, g1, _, g3⟩ := hc2.rel i _ (List.getElem?_eq_getElem hi)
        simpa [Array.getD_eq_getD_getElem?, g1] using g3
    · cases he
  · rename_i n hal
    obtain ⟨⟨hz0, hkn⟩, he⟩ := need_some he
    split at he
    · rename_i cs hfill
      cases he
      obtain ⟨i, u, h1, h2, h3, h4, h5⟩ := tinfo_zero hz0
      have hzc : Cs w A κ (tinfo P ty).zero.cells u.cells := by rw [h3] at h4 h5 ⊢; exact Cs.of (rv_zero h5) h4
      have hu := tinfo_array (P := P) (t := ty) (by simpa using hal)
      obtain ⟨ie, _, hie, _, hs0⟩ := tinfo_size hkn
      · obtain ⟨c', hc1, hc2⟩ := fill_spec (w := w) (A := A) (κ := κ) (fun i => some (i * ie.size, ie.size)) ((List.range _).map fun j => (j * (tinfo P (tinfo P ty).elem).size, (tinfo P ty).elem, (tinfo P (tinfo P ty).elem).size)) (fun i f hi => by
            simp only [List.getElem?_map, Option.map_eq_some_iff] at hi
            obtain ⟨g, q1, rfl⟩ := hi
            obtain ⟨_, q2⟩ := List.getElem?_eq_some_iff.1 q1
            simp at q2; subst q2
            simp [← hs0])
          (parts.toList.map fun (j, x) => (j, ev G t x)) (parts.toList.map fun (j, x) => (j, ρ x)) _ _ cs (by simp) (fun i j d hi => by
            simp only [List.getElem?_map, Option.map_eq_some_iff] at hi ⊢
            obtain ⟨⟨j0, x⟩, hx1, hx2⟩ := hi
            cases hx2
            refine ⟨ρ x, ⟨(j0, x), hx1, rfl⟩, hx x ?_⟩
            simp only [Op.operands, List.mem_map]
            exact ⟨(j0, x), List.mem_of_getElem? hx1, rfl⟩) hzc hfill
        have hb : P.built ty ((parts.map fun (i, x) => (i, ρ x)).toList) = some c' := by
          unfold Program.built
          simp only [h1, hu, h2, hie]
          simpa using hc1
        have hrun := run_build (P := P) w ty (parts.map fun (i, x) => (i, ρ x)) c' hb
        refine Sound.pure H (v' := .agg c') (by simp [execOp, ho, hrun]) (.agg _ _ hc2.len (fun i d hd => ?_) (fun i hi => ?_))
        · obtain ⟨v, g1, g2, _⟩ := hc2.rel i d hd
          simpa [Array.getD_eq_getD_getElem?, g1] using g2
        · obtain ⟨v, g1, _, g3⟩ := hc2.rel i _ (List.getElem?_eq_getElem hi)
          simpa [Array.getD_eq_getD_getElem?, g1] using g3
    · cases he

theorem snd_index {ty : TypeId} {x ix : Operand} (ho : o.op = .index ty x ix) (H : HR E G w A κ h z) (hx : RV w A κ (ev G t x) (ρ x)) (hi : RV w A κ (ev G t ix) (ρ ix))
    (he : evalOp P G z key (.index ty x ix) t h = some (v, h', rd, wr)) : Sound E G w A κ z h' key v ((execOp ρ o).run P w) := by
  unfold evalOp at he
  simp only at he
  split at he
  · rename_i cs k n hev hevi
    rw [hev] at hx; rw [hevi] at hi
    obtain ⟨⟨h0, h1, h2, h3⟩, he⟩ := need_some he
    obtain ⟨r, hr, hv⟩ := map_some he
    cases hv
    have hρi := hi.int_inv
    have hu := tinfo_array (P := P) (t := ty) h0
    have hz0 := tinfo_cells h3
    obtain ⟨i, d, hi', hd, _⟩ := tinfo_size h3
    have hsz : (sizeOf (tinfo P ty).elem).run P w = .ok (tinfo P (tinfo P ty).elem).size w := by rw [← hz0]; exact sizeOf_run (by rw [hz0]; exact h3)
    obtain ⟨vs, hρ, hl, hc, h1'⟩ := hx.agg_inv
    obtain ⟨u, q1, q2⟩ := part_run (w := w) hr hd hsz hl hc h1'
    refine Sound.pure H (v' := u) ?_ q2
    simp [execOp, ho, hρ, hρi, Instr.index, asIntOf, run_underlying hu, h1, h2, hsz, q1]
  · rename_i s k n hev hevi
    rw [hev] at hx; rw [hevi] at hi
    obtain ⟨⟨h0, h1⟩, he⟩ := need_some he
    obtain ⟨r, hr, hv⟩ := map_some he
    cases hv
    have hρi := hi.int_inv
    have hρ := hx.str_inv
    have hu : P.underlying ty = some .string := by
      unfold tinfo at h0
      simp only at h0
      cases hd : P.underlying ty with
      | none => simp [hd] at h0
      | some d => cases d <;> simp [hd] at h0 ⊢
    refine Sound.pure H (v' := .int .u8 r.toNat) ?_ (.data _ _ (.int _ _))
    simp [execOp, ho, hρ, hρi, Instr.index, asIntOf, run_underlying hu, h1, hr]
  · cases he

end
end Go.PI
