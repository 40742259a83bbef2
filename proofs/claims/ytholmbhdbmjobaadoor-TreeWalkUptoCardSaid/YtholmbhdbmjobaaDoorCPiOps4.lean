/-
  PI: each operation but a call does to memory what 'evalOp' says: fourth part: slices made, variables written, append, len, max, min.
-/
import Derived.Test.YtholmbhdbmjobaaDoorCPiOps3
import Derived.Deep.AppendSrc
set_option linter.unusedVariables false
set_option linter.unusedSimpArgs false
namespace Go.PI
open Go.RowKit
section
variable {P : Program} {E : Env} {G : Gl} {w : World} {A : Nat → Prop} {κ : Ka} {h : Hp} {z : Fz} {t : Tm} {ρ : Operand → Value} {o : Oper} {key : Nat} {v : PV} {h' : Hp} {rd wr : List Nat}

theorem range0 : Array.range 0 = #[] := by simp [Array.range_zero']

/-- Elements, one behind another. -/
structure Es (w : World) (A : Nat → Prop) (κ : Ka) (els : List PV) (sz : Nat) (agg : Bool) (c : Array Value) : Prop where
  len : c.size = els.length * sz
  uni : ∀ e ∈ els, e.cells.length = sz ∧ e.isAgg = agg
  rel : ∀ (i : Nat) e, els[i]? = some e → lies w A κ c (i * sz) e
  one : ∀ u ∈ c.toList, u.oneCell' = true

theorem made_get (zc : Array Value) (n sz : Nat) (hz : zc.size = sz) {i j : Nat} (hi : i < n) (hj : j < sz) : ((Array.range (n * sz)).map (zc[· % zc.size]!))[i * sz + j]? = zc[j]? := by
  have h1 : i * sz + j < n * sz := by
    have : (i + 1) * sz ≤ n * sz := Nat.mul_le_mul_right _ hi
    rw [Nat.add_mul] at this; omega
  have h2 : (i * sz + j) % sz = j := by rw [Nat.add_comm, Nat.add_mul_mod_self_right, Nat.mod_eq_of_lt hj]
  rw [Array.getElem?_map, Array.getElem?_range]
  simp only [h1, if_true, Option.map_some, hz, h2]
  have : j < zc.size := by omega
  simp [this]

theorem Es.zeros {d : PV} {zc : Array Value} {n sz : Nat} {agg : Bool} (hc : Cs w A κ d.cells zc) (hsz : d.cells.length = sz) (ha : d.isAgg = agg) :
    Es w A κ (List.replicate n d) sz agg ((Array.range (n * sz)).map (zc[· % zc.size]!)) := by
  have hz : zc.size = sz := by rw [hc.len, hsz]
  have hmem : ∀ i e, (List.replicate n d)[i]? = some e → i < n ∧ e = d := fun i e he => by
    rw [List.getElem?_replicate] at he
    split at he
    · exact ⟨‹_›, (Option.some.inj he).symm⟩
    · cases he
  refine ⟨by simp, fun e he => by rw [List.eq_of_mem_replicate he]; exact ⟨hsz, ha⟩, fun i e he j x hx => ?_, fun u hu => ?_⟩
  · obtain ⟨h1, rfl⟩ := hmem i e he
    have hj : j < sz := by have := (List.getElem?_eq_some_iff.1 hx).1; omega
    obtain ⟨v, g1, g2, g3⟩ := hc.rel j x hx
    exact ⟨v, by rw [made_get zc n sz hz h1 hj]; exact g1, g2, g3⟩
  · have hu' : u ∈ (Array.range (n * sz)).map (zc[· % zc.size]!) := by simpa using hu
    rw [Array.mem_map] at hu'
    obtain ⟨k, hk, rfl⟩ := hu'
    have hk' : k < n * sz := by simpa using hk
    have hs0 : 0 < sz := by rcases Nat.eq_zero_or_pos sz with h | h <;> simp_all
    have hlt : k % zc.size < zc.size := Nat.mod_lt _ (by omega)
    have := hc.all zc[k % zc.size] (by simp)
    simpa [hlt] using this

theorem Es.set {els : List PV} {sz : Nat} {agg : Bool} {c c' : Array Value} {d : PV} {u : Value} {i : Nat} (hc : Es w A κ els sz agg c) (hd : Cs w A κ d.cells u.cells) (hi : i < els.length) (hsz : d.cells.length = sz) (ha : d.isAgg = agg)
    (hs : c'.size = c.size) (hget : ∀ p, c'[p]? = if i * sz ≤ p ∧ p < i * sz + u.cells.size then u.cells[p - i * sz]? else c[p]?) : Es w A κ (els.set i d) sz agg c' := by
  have hul : u.cells.size = sz := by rw [hd.len, hsz]
  refine ⟨by simp [hs, hc.len], fun e he => ?_, fun k e he j x hx => ?_, fun x hx => ?_⟩
  · rcases List.mem_or_eq_of_mem_set he with h | h
    · exact hc.uni e h
    · subst h; exact ⟨hsz, ha⟩
  · rw [List.getElem?_set] at he
    by_cases hk : i = k
    · subst hk
      simp only [if_true, hi] at he
      cases he
      obtain ⟨v, g1, g2, g3⟩ := hd.rel j x hx
      have hj := (List.getElem?_eq_some_iff.1 hx).1
      refine ⟨v, ?_, g2, g3⟩
      rw [hget, if_pos (by omega)]
      simpa using g1
    · rw [if_neg hk] at he
      obtain ⟨v, g1, g2, g3⟩ := hc.rel k e he j x hx
      have hj := (List.getElem?_eq_some_iff.1 hx).1
      have he' := (hc.uni e (List.mem_of_getElem? he)).1
      refine ⟨v, ?_, g2, g3⟩
      rw [hget, if_neg]
      · exact g1
      · intro hh
        rcases Nat.lt_or_gt_of_ne hk with hlt | hlt
        · have : (i + 1) * sz ≤ k * sz := Nat.mul_le_mul_right _ hlt
          rw [Nat.add_mul] at this; omega
        · have : (k + 1) * sz ≤ i * sz := Nat.mul_le_mul_right _ hlt
          rw [Nat.add_mul] at this; omega
  · obtain ⟨p, hp, rfl⟩ := List.getElem_of_mem hx
    have hp' : p < c'.size := by simpa using hp
    have h1 := hget p
    rw [Array.getElem?_eq_getElem hp'] at h1
    split at h1
    · have := hd.all _ (Array.mem_toList_iff.2 (Array.mem_of_getElem? h1.symm))
      simpa using this
    · have := hc.one _ (Array.mem_toList_iff.2 (Array.mem_of_getElem? h1.symm))
      simpa using this

theorem fillE_spec (sz : Nat) (agg : Bool) : ∀ (parts : List (Nat × PV)) (us : List (Nat × Value)) (els : List PV) (c : Array Value) (r : List PV),
    us.length = parts.length → (∀ (i : Nat) j d, parts[i]? = some (j, d) → ∃ u, us[i]? = some (j, u) ∧ RV w A κ d u) → Es w A κ els sz agg c → fillE sz agg els parts = some r →
    ∃ c', Instr.fill (fun i => some (i * sz, sz)) c us = some c' ∧ Es w A κ r sz agg c' ∧ r.length = els.length
  | [], [], els, c, r, _, _, hc, h => by simp [fillE] at h; subst h; exact ⟨c, rfl, hc, rfl⟩
  | (j, d) :: parts, [], _, _, _, hl, _, _, _ => by simp at hl
  | [], _ :: _, _, _, _, hl, _, _, _ => by simp at hl
  | (j, d) :: parts, (j', u) :: us, els, c, r, hl, hr, hc, h => by
    obtain ⟨u', e, hd⟩ := hr 0 j d rfl
    simp at e
    obtain ⟨rfl, rfl⟩ := e
    simp only [fillE] at h
    split at h
    · rename_i hcond
      obtain ⟨hs, hsz, ha, hi⟩ := hcond
      have hdc := Cs.of hd hs
      have hu : u.cells.size = sz := by rw [hdc.len, hsz]
      have hle' : j' * sz + u.cells.size ≤ c.size := by
        rw [hc.len, hu]
        have : (j' + 1) * sz ≤ els.length * sz := Nat.mul_le_mul_right _ hi
        rw [Nat.add_mul] at this; omega
      have hfold := fold_set (j' * sz) u.cells.toList 0 c (by simpa using hle')
      have harr : u.cells.zipIdx.foldl (fun cs (x : Value × Nat) => cs.setIfInBounds (j' * sz + x.2) x.1) c = (u.cells.toList.zipIdx 0).foldl (fun cs (x : Value × Nat) => cs.setIfInBounds (j' * sz + x.2) x.1) c := by
        rw [← Array.foldl_toList]; simp
      have hnext : Es w A κ (els.set j' d) sz agg (u.cells.zipIdx.foldl (fun cs (x : Value × Nat) => cs.setIfInBounds (j' * sz + x.2) x.1) c) := by
        refine hc.set hdc hi hsz ha (by rw [harr]; exact hfold.1) (fun p => ?_)
        rw [harr, hfold.2 p]
        simp
      obtain ⟨c', h1, h2, h3⟩ := fillE_spec sz agg parts us _ _ r (by simpa using hl) (fun i j d hi => by have := hr (i + 1) j d (by simpa using hi); simpa using this) hnext h
      refine ⟨c', ?_, h2, by simpa using h3⟩
      simp only [Instr.fill]
      rw [if_neg (by simp; omega)]
      exact h1
    · cases h

/-- A new row of elements that the call owns. -/
theorem snd_row {ty : TypeId} {els : List PV} {sz len : Nat} {agg : Bool} {c : Array Value} (H : HR E G w A κ h z) (hn : E.n0 ≤ key) (hk : κ key = none) (hz : z key = false) (hc : Es w A κ els sz agg c) (hl : els.length = len)
    (hr : (execOp ρ o).run P w = .ok (.value (.slice (some ⟨w.heap.size, 0, none⟩) len len)) (w.alloc (.cells c ty))) :
    Sound E G w A κ z (hset h key (some ⟨els, sz, agg⟩)) key (.own key 0 len) ((execOp ρ o).run P w) := by
  subst hl
  refine ⟨_, _, kset κ key (w.heap.size, sz, els.length), Or.inl hr, H.alloc hn hk hz hc.len (Nat.le_refl _) hc.uni hc.one hc.rel, ?_, kset_le _ hk, fun r hr => kset_other κ _ hr,
    fun b o' hA => cell?_of_heap (Below.heap_alloc _ _ _ (H.alt b hA)) o'⟩
  have := RV.own (w := w.alloc (.cells c ty)) (A := A) (κ := kset κ key (w.heap.size, sz, els.length)) key 0 els.length w.heap.size sz els.length (some ⟨w.heap.size, 0, none⟩) (kset_same ..) (by omega) (Or.inl (by simp))
  simpa using this

theorem tinfo_bytes {s : TypeId} {i : TypeInfo} (h : P.info? s = some i) : (tinfo P s).bytes = i.bytes := by simp [tinfo, Program.bytesOf, h]

theorem snd_buildSlice {ty : TypeId} {len : Nat} {parts : Array (Nat × Operand)} (ho : o.op = .buildSlice ty len parts) (H : HR E G w A κ h z) (hn : E.n0 ≤ key) (hk : κ key = none) (hz : z key = false) (hx : OkOp G w A κ t ρ (.buildSlice ty len parts))
    (he : evalOp P G z key (.buildSlice ty len parts) t h = some (v, h', rd, wr)) : Sound E G w A κ z h' key v ((execOp ρ o).run P w) := by
  unfold evalOp at he
  simp only at he
  obtain ⟨⟨h24, hz0, hs, hzs, hza⟩, he⟩ := need_some he
  split at he
  · rename_i els hfill
    cases he
    obtain ⟨i, u, h1, h2, h3, h4, h5⟩ := tinfo_zero hz0
    have hzc : Cs w A κ (tinfo P (tinfo P ty).elem).zero.cells u.cells := by rw [h3] at h4 h5 ⊢; exact Cs.of (rv_zero h5) h4
    have hsz : i.size = (tinfo P (tinfo P ty).elem).size ∨ (tinfo P (tinfo P ty).elem).size = 0 := by
      by_cases h0 : (tinfo P (tinfo P ty).elem).size = 0
      · exact Or.inr h0
      · obtain ⟨i', d, g1, _, g3⟩ := tinfo_size h0
        rw [h1] at g1; cases g1; exact Or.inl g3
    have hpos : (tinfo P (tinfo P ty).elem).size ≠ 0 := hza.2
    have hsz' := hsz.resolve_right hpos
    have hu := tinfo_slice hs
    obtain ⟨c', hc1, hc2, hc3⟩ := fillE_spec (w := w) (A := A) (κ := κ) (tinfo P (tinfo P ty).elem).size (tinfo P (tinfo P ty).elem).agg (parts.toList.map fun (j, x) => (j, ev G t x)) (parts.toList.map fun (j, x) => (j, ρ x)) _ _ els (by simp) (fun i j d hi => by
          simp only [List.getElem?_map, Option.map_eq_some_iff] at hi ⊢
          obtain ⟨⟨j0, x⟩, hx1, hx2⟩ := hi
          cases hx2
          refine ⟨ρ x, ⟨(j0, x), hx1, rfl⟩, hx x ?_⟩
          simp only [Op.operands, List.mem_map]
          exact ⟨(j0, x), List.mem_of_getElem? hx1, rfl⟩) (Es.zeros (n := len) hzc hzs hza.1) hfill
    refine snd_row (ty := (tinfo P ty).elem) H hn hk hz hc2 (by simpa using hc3) ?_
    have hparts : (parts.map fun (i, x) => (i, ρ x)).toList = parts.toList.map fun (j, x) => (j, ρ x) := by simp
    have h24' : ¬ (2 ^ 24 < len * i.size) := by rw [hsz']; omega
    by_cases hl0 : len * i.size = 0
    · have hlen : len = 0 := by
        rcases Nat.mul_eq_zero.1 hl0 with h | h
        · exact h
        · omega
      subst hlen
      have hc1' : Instr.fill (fun i => some (i * (tinfo P (tinfo P ty).elem).size, (tinfo P (tinfo P ty).elem).size)) #[] (parts.toList.map fun x => (x.1, ρ x.2)) = some c' := by simpa [range0] using hc1
      simp [execOp, ho, Instr.buildSlice, run_underlying hu, sizeOf, typeInfo, h1, hsz', newRow, range0, hc1']
    · have hc1' := hc1
      rw [← hsz'] at hc1'
      simp [execOp, ho, Instr.buildSlice, run_underlying hu, sizeOf, typeInfo, zeroValue, h1, h2, h24', hl0, newRow]
      simp [hc1']
  · cases he

theorem snd_makeSlice {ty : TypeId} {l c : Operand} (ho : o.op = .makeSlice ty l c) (H : HR E G w A κ h z) (hn : E.n0 ≤ key) (hk : κ key = none) (hz : z key = false) (hl : RV w A κ (ev G t l) (ρ l)) (hc : RV w A κ (ev G t c) (ρ c))
    (he : evalOp P G z key (.makeSlice ty l c) t h = some (v, h', rd, wr)) : Sound E G w A κ z h' key v ((execOp ρ o).run P w) := by
  unfold evalOp at he
  simp only at he
  split at he
  · rename_i n m hel hec
    rw [hel] at hl; rw [hec] at hc
    obtain ⟨⟨hnm, h0, h32, hby, hz0, hs, hzs, hza, hpos⟩, he'⟩ := need_some he
    cases he'
    subst hnm
    obtain ⟨i, u, h1, h2, h3, h4, h5⟩ := tinfo_zero hz0
    have hzc : Cs w A κ (tinfo P (tinfo P ty).elem).zero.cells u.cells := by rw [h3] at h4 h5 ⊢; exact Cs.of (rv_zero h5) h4
    obtain ⟨i', d, g1, _, g3⟩ := tinfo_size hpos
    rw [h1] at g1; cases g1
    have hu := tinfo_slice hs
    have hb : (i.bytes : Int) * n ≤ 281474976710656 := by
      rw [tinfo_bytes h1] at hby
      have : (i.bytes : Int) * n ≤ 4096 * 2 ^ 32 := Int.mul_le_mul (by omega) h32 h0 (by omega)
      omega
    have hrun := run_make (P := P) w ty _ i u hu h1 h2 .i64 .i64 n n h0 (Int.le_refl _) hb (by omega)
    refine snd_row (ty := (tinfo P ty).elem) (c := madeCells u.cells (n.toNat * i.size)) H hn hk hz ?_ (by simp) (by simp [execOp, ho, hl.int_inv, hc.int_inv, hrun])
    rw [g3]
    exact Es.zeros hzc hzs hza
  · cases he

theorem splice_spec {e v e' : PV} {off : Nat} (h : splice e off v = some e') : e'.cells.length = e.cells.length ∧ e'.isAgg = e.isAgg ∧ off + v.cells.length ≤ e.cells.length ∧
    ∀ p, e'.cells[p]? = if off ≤ p ∧ p < off + v.cells.length then v.cells[p - off]? else e.cells[p]? := by
  unfold splice at h
  split at h
  · rename_i hc
    obtain ⟨rfl, h2, h3⟩ := hc
    cases h
    refine ⟨h2.symm, h3.symm, by omega, fun p => ?_⟩
    by_cases hp : p < v.cells.length
    · rw [if_pos (by omega)]; rfl
    · rw [if_neg (by omega), List.getElem?_eq_none (by omega), List.getElem?_eq_none (by omega)]
  · split at h
    · rename_i hc
      obtain ⟨hle, ha⟩ := hc
      cases h
      refine ⟨by simp; omega, ha.symm, hle, fun p => ?_⟩
      simp only [PV.cells_agg]
      by_cases h1 : p < off
      · rw [if_neg (by omega), List.append_assoc, List.getElem?_append_left (by simp; omega), List.getElem?_take_of_lt h1]
      · by_cases h2 : p < off + v.cells.length
        · rw [if_pos (by omega), List.append_assoc, List.getElem?_append_right (by simp; omega), List.getElem?_append_left (by simp; omega)]
          congr 1; simp; omega
        · rw [if_neg (by omega), List.getElem?_append_right (by simp; omega), List.getElem?_drop]
          congr 1; simp; omega
    · cases h

theorem seg_get (c : Array Value) (vs : List Value) (o : Nat) (h : o + vs.length ≤ c.size) (p : Nat) :
    ((c.toList.take o ++ vs ++ c.toList.drop (o + vs.length)).toArray)[p]? = if o ≤ p ∧ p < o + vs.length then vs[p - o]? else c[p]? := by
  rw [List.getElem?_toArray]
  by_cases h1 : p < o
  · rw [if_neg (by omega), List.append_assoc, List.getElem?_append_left (by simp; omega), List.getElem?_take_of_lt h1]; simp
  · by_cases h2 : p < o + vs.length
    · rw [if_pos (by omega), List.append_assoc, List.getElem?_append_right (by simp; omega), List.getElem?_append_left (by simp; omega)]
      congr 1; simp; omega
    · rw [if_neg (by omega), List.getElem?_append_right (by simp; omega), List.getElem?_drop]
      rw [← Array.getElem?_toList]
      congr 1; simp; omega

theorem snd_store {ty : TypeId} {x y : Operand} (ho : o.op = .store ty x y) (H : HR E G w A κ h z) (hx : RV w A κ (ev G t x) (ρ x)) (hy : RV w A κ (ev G t y) (ρ y))
    (he : evalOp P G z key (.store ty x y) t h = some (v, h', rd, wr)) : Sound E G w A κ z h' key v ((execOp ρ o).run P w) := by
  unfold evalOp at he
  simp only at he
  split at he
  · rename_i r j off hev
    rw [hev] at hx
    obtain ⟨m, sz, cap, hρ, hκ⟩ := hx.ptr_inv
    split at he
    · rename_i b hb
      split at he
      · rename_i e hel
        obtain ⟨⟨hzr, hst, hsize⟩, he⟩ := need_some he
        obtain ⟨e', hsp, he⟩ := map_some he
        cases he
        obtain ⟨s1, s2, s3, s4⟩ := splice_spec hsp
        have hyc := Cs.of hy hst
        obtain ⟨m0, cap0, e1, e2, e3, e4⟩ := H.blk r b hb (by rw [hκ]; simp)
        rw [hκ] at e1; cases e1
        have hj : j < b.els.length := (List.getElem?_eq_some_iff.1 hel).1
        have hcap : cap ≠ 0 := by omega
        obtain ⟨c, ty0, g1, g2, g3, g4, g5, g6, g7⟩ := e4.resolve_left hcap
        have hesz := (e3 e (List.mem_of_getElem? hel)).1
        have hlen : (ρ y).cells.toList.length = (ev G t y).cells.length := by simpa using hyc.len
        have hrange : j * b.sz + off + (ρ y).cells.toList.length ≤ c.size := by
          have : (j + 1) * b.sz ≤ cap * b.sz := Nat.mul_le_mul_right _ (by omega)
          rw [Nat.add_mul] at this
          omega
        have hrow := run_storeCells_at P m (j * b.sz + off) ty0 (ρ y).cells.toList 0 c w g2 (by simpa using hrange) hyc.all
        simp only [Nat.add_zero] at hrow
        have h0 := hsize.2
        have hsizeOf : (sizeOf ty).run P w = .ok (ρ y).cells.size w := by
          have := sizeOf_run (P := P) (w := w) (ty := ty) (by rw [tinfo_cells h0]; exact h0)
          rw [this, tinfo_cells h0, ← hsize.1, hyc.len]
        have hseg := seg_get c (ρ y).cells.toList (j * b.sz + off) hrange
        have hlen' : (c.toList.take (j * b.sz + off) ++ (ρ y).cells.toList ++ c.toList.drop (j * b.sz + off + (ρ y).cells.toList.length)).toArray.size = c.size := by simp; simp at hrange; omega
        generalize (c.toList.take (j * b.sz + off) ++ (ρ y).cells.toList ++ c.toList.drop (j * b.sz + off + (ρ y).cells.toList.length)).toArray = c' at hrow hseg hlen'
        have hrun : (execOp ρ o).run P w = .ok .skip (w.setRow m c') := by
          simp [execOp, ho, hρ, Instr.storeAt, Instr.sureAddr, storeVar, hsizeOf, hrow]
        have hz0 : hset (hset h r none) r (some { b with els := b.els.set j e' }) = hset h r (some { b with els := b.els.set j e' }) := by funext q; simp only [hset]; split <;> rfl
        have hk0 : kset κ r (m, b.sz, cap) = κ := by funext q; simp only [kset]; split <;> simp_all
        have HW := H.write (key := r) (els := b.els.set j e') (c' := c') hb hκ hcap hzr rfl g2 (Or.inl rfl) hlen' (by simpa using e2) (fun x hx => by
            rcases List.mem_or_eq_of_mem_set hx with h | h
            · exact e3 x h
            · subst h; exact ⟨by rw [s1, hesz], by rw [s2]; exact (e3 e (List.mem_of_getElem? hel)).2⟩)
          (fun x hx => by
            obtain ⟨p, hp, rfl⟩ := List.getElem_of_mem hx
            have hp' : p < c'.size := by simpa using hp
            have h1 := hseg p
            rw [Array.getElem?_eq_getElem hp'] at h1
            split at h1
            · have := hyc.all _ (List.mem_of_getElem? h1.symm)
              simpa using this
            · have := g4 _ (Array.mem_toList_iff.2 (Array.mem_of_getElem? h1.symm))
              simpa using this)
          (fun i e0 he0 p x hxp => by
            rw [List.getElem?_set] at he0
            by_cases hi : j = i
            · subst hi
              simp only [if_true, hj] at he0
              cases he0
              have h4 := s4 p
              rw [hxp] at h4
              rw [hseg]
              by_cases hin : off ≤ p ∧ p < off + (ev G t y).cells.length
              · rw [if_pos hin] at h4
                obtain ⟨u, f1, f2, f3⟩ := hyc.rel _ x h4.symm
                refine ⟨u, ?_, f2, f3⟩
                rw [if_pos (by omega)]
                have : j * b.sz + p - (j * b.sz + off) = p - off := by omega
                rw [this]; simpa using f1
              · rw [if_neg hin] at h4
                obtain ⟨u, f1, f2, f3⟩ := g5 j e hel p x h4.symm
                exact ⟨u, by rw [if_neg (by omega)]; exact f1, f2, f3⟩
            · rw [if_neg hi] at he0
              obtain ⟨u, f1, f2, f3⟩ := g5 i e0 he0 p x hxp
              have hp := (List.getElem?_eq_some_iff.1 hxp).1
              have he0' := (e3 e0 (List.mem_of_getElem? he0)).1
              refine ⟨u, ?_, f2, f3⟩
              rw [hseg, if_neg]
              · exact f1
              · intro hh
                rcases Nat.lt_or_gt_of_ne hi with hlt | hlt
                · have : (j + 1) * b.sz ≤ i * b.sz := Nat.mul_le_mul_right _ hlt
                  rw [Nat.add_mul] at this; omega
                · have : (i + 1) * b.sz ≤ j * b.sz := Nat.mul_le_mul_right _ hlt
                  rw [Nat.add_mul] at this; omega)
        rw [hz0, hk0] at HW
        exact ⟨undef, w.setRow m c', κ, Or.inr ⟨hrun, rfl⟩, HW, .tup [] _ rfl (fun i d hd => by simp at hd), fun _ _ h => h, fun _ _ => rfl, setRow_keeps H hb hκ hcap hzr c'⟩
      · cases he
    · cases he
  · cases he

theorem bytes_fit {n b : Nat} (hn : n ≤ 2 ^ 32) (hb : b ≤ 4096) : n * b ≤ 140737488355328 := by
  have : n * b ≤ 2 ^ 32 * 4096 := Nat.mul_le_mul hn hb
  omega

/-- What is appended: elements that lie somewhere in memory. -/
theorem src_spec {y : Operand} {es : List PV} {ks : List Nat} {ty : TypeId} {sz : Nat} (H : HR E G w A κ h z) (hy : RV w A κ (ev G t y) (ρ y)) (hs : srcOf h (ev G t y) = some (es, ks)) (hsl : (tinfo P ty).isSlice = true)
    (hsz : ∀ e ∈ es, e.cells.length = sz) (hpos : sz ≠ 0) :
    ∃ news : List Value, Src P sz ty (ρ y) es.length news w ∧ ∀ (i : Nat) e, es[i]? = some e → lies w A κ news.toArray (i * sz) e := by
  have hu := tinfo_slice hsl
  have mk : ∀ (ad : Option Addr) (cap : Nat), ρ y = .slice ad es.length cap → es = [] → ∃ news : List Value, Src P sz ty (ρ y) es.length news w ∧ ∀ (i : Nat) e, es[i]? = some e → lies w A κ news.toArray (i * sz) e := by
    intro ad cap hρ he
    subst he
    refine ⟨[], ⟨.inl ⟨_, hu⟩, fun w' => by rw [hρ]; rfl, ?_, ?_, by simp, by simp⟩, by simp⟩
    · rw [hρ]; cases ad <;> simp [Builtin.firstCells, loadCells, loadCellsFrom]
    · rw [hρ]; cases ad <;> simp [Builtin.firstCells, loadCells, loadCellsFrom]
  have mk2 : ∀ (b o cap : Nat) (val : Nat → Nat → Value), ρ y = .slice (some ⟨b, o, none⟩) es.length cap →
      (∀ i c, i < es.length → c < sz → w.cell? ⟨b, o + i * sz + c, none⟩ = some (val i c) ∧ (val i c).oneCell' = true) → (∀ i e, es[i]? = some e → ∀ c d, e.cells[c]? = some d → RV w A κ d (val i c)) →
      ∃ news : List Value, Src P sz ty (ρ y) es.length news w ∧ ∀ (i : Nat) e, es[i]? = some e → lies w A κ news.toArray (i * sz) e := by
    intro b o cap val hρ hc hd
    let f : Nat → Value := fun p => val (p / sz) (p % sz)
    have hget : ∀ p, p < es.length * sz → w.cell? ⟨b, o + p, none⟩ = some (f p) ∧ (f p).oneCell' = true := by
      intro p hp
      have h1 : p / sz < es.length := (Nat.div_lt_iff_lt_mul (by omega)).2 hp
      have h2 : p % sz < sz := Nat.mod_lt _ (by omega)
      have := hc _ _ h1 h2
      have e : o + p / sz * sz + p % sz = o + p := by have := Nat.div_add_mod p sz; rw [Nat.mul_comm] at this; omega
      rw [e] at this
      exact this
    let news := (List.range (es.length * sz)).map f
    have hn : ∀ p u, news[p]? = some u → p < es.length * sz ∧ u = f p := by
      intro p u hp
      simp only [news, List.getElem?_map, Option.map_eq_some_iff] at hp
      obtain ⟨q, hq, rfl⟩ := hp
      have := List.getElem?_eq_some_iff.1 hq
      obtain ⟨h1, h2⟩ := this
      simp at h1 h2
      subst h2
      exact ⟨h1, rfl⟩
    have hfirst : ∀ w', w'.heap = w.heap → (Builtin.firstCells sz es.length (ρ y)).run P w' = .ok news.toArray w' := by
      intro w' hw
      rw [hρ]
      refine run_firstCells_some (P := P) w' sz es.length ⟨b, o, none⟩ es.length cap news (by simp [news]) fun p u hp => ?_
      obtain ⟨h1, rfl⟩ := hn p u hp
      rw [add_eq]
      have := (hget p h1).1
      simpa [World.cell?, hw] using this
    refine ⟨news, ⟨.inl ⟨_, hu⟩, fun w' => by rw [hρ]; rfl, hfirst w rfl, hfirst w.drew rfl, by simp [news], fun u hu => ?_⟩, fun i e he j d hj => ?_⟩
    · obtain ⟨p, hp, rfl⟩ := List.getElem_of_mem hu
      obtain ⟨h1, h2⟩ := hn p _ (List.getElem?_eq_getElem hp)
      rw [h2]; exact (hget p h1).2
    · have hi := (List.getElem?_eq_some_iff.1 he).1
      have hj' := (List.getElem?_eq_some_iff.1 hj).1
      have hjs : j < sz := by rw [hsz e (List.mem_of_getElem? he)] at hj'; exact hj'
      have hlt : i * sz + j < es.length * sz := by
        have : (i + 1) * sz ≤ es.length * sz := Nat.mul_le_mul_right _ hi
        rw [Nat.add_mul] at this; omega
      have hf : f (i * sz + j) = val i j := by
        simp only [f]
        rw [show (i * sz + j) / sz = i by rw [Nat.add_comm, Nat.add_mul_div_right _ _ (by omega), Nat.div_eq_of_lt hjs]; omega, show (i * sz + j) % sz = j by rw [Nat.add_comm, Nat.add_mul_mod_self_right, Nat.mod_eq_of_lt hjs]]
      refine ⟨val i j, ?_, hd i e he j d hj, (hc i j hi hjs).2⟩
      simp [news, hlt, hf]
  unfold srcOf at hs
  split at hs
  · rename_i es' hev
    cases hs
    rw [hev] at hy
    have hy' := hy.imm_inv
    cases hρ : ρ y <;> rw [hρ] at hy' <;> try (cases hy'; done)
    rename_i ad len cap
    cases hy' with
    | imm0 => exact hρ ▸ mk ad cap hρ rfl
    | imm _ sz' b off _ val hA _ hsz' hc hd =>
      by_cases he : es = []
      · subst he; exact hρ ▸ mk _ cap hρ rfl
      · have : sz' = sz := by
          obtain ⟨e, l, rfl⟩ := List.exists_cons_of_ne_nil he
          rw [← hsz e (by simp), hsz' e (by simp)]
        subst this
        exact hρ ▸ mk2 b off cap val hρ hc fun i e hi c d hcd => .data _ _ (hd i e hi c d hcd)
  · rename_i hev
    cases hs
    rw [hev] at hy
    exact mk none 0 hy.nilsl_inv rfl
  · rename_i r off len hev
    rw [hev] at hy
    obtain ⟨m, sz', cap, a, hρ, hκ, hle, ha⟩ := hy.own_inv
    split at hs
    · rename_i b hb
      split at hs
      · rename_i hlen
        cases hs
        have hl : ((b.els.drop off).take len).length = len := by simp; omega
        by_cases he : len = 0
        · subst he
          exact mk a (cap - off) (by rw [hρ]; simp) (by simp)
        · obtain ⟨m0, cap0, e1, e2, e3, e4⟩ := H.blk r b hb (by rw [hκ]; simp)
          rw [hκ] at e1; cases e1
          obtain ⟨c, ty0, g1, g2, g3, g4, g5, g6, g7⟩ := e4.resolve_left (by omega)
          have ha' := ha.resolve_right (by omega)
          have hget : ∀ k, k < len → ((b.els.drop off).take len)[k]? = b.els[off + k]? := fun k hk => by rw [List.getElem?_take_of_lt hk, List.getElem?_drop]
          have hbs : b.sz = sz := by
            have h0 : ((b.els.drop off).take len)[0]? = some b.els[off] := by rw [hget 0 (by omega)]; simp
            rw [← hsz _ (List.mem_of_getElem? h0), (e3 b.els[off] (by simp)).1]
          subst hbs
          refine mk2 m (off * b.sz) (cap - off) (fun i j => c.getD ((off + i) * b.sz + j) undef) (by rw [hρ, ha', hl]) (fun i j hi hj => ?_) (fun i e he j d hjd => ?_)
          · rw [hl] at hi
            have hlt : off + i < b.els.length := by omega
            have hcl := (e3 b.els[off + i] (by simp)).1
            obtain ⟨u, f1, f2, f3⟩ := g5 (off + i) _ (List.getElem?_eq_getElem hlt) j _ (List.getElem?_eq_getElem (by omega))
            have e : off * b.sz + i * b.sz + j = (off + i) * b.sz + j := by rw [Nat.add_mul]
            rw [e]
            have hgd : c.getD ((off + i) * b.sz + j) undef = u := by simp [Array.getD_eq_getD_getElem?, f1]
            simp only [hgd]
            exact ⟨by simp [World.cell?, g2, f1], f3⟩
          · have hi := (List.getElem?_eq_some_iff.1 he).1
            rw [hl] at hi
            rw [hget i hi] at he
            obtain ⟨u, f1, f2, f3⟩ := g5 (off + i) e he j d hjd
            have hgd : c.getD ((off + i) * b.sz + j) undef = u := by simp [Array.getD_eq_getD_getElem?, f1]
            simp only [hgd]
            exact f2
      · cases hs
    · cases hs
  · cases hs

end
end Go.PI
