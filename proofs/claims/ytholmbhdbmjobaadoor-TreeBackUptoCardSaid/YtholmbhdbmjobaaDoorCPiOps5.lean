/-
  PI: each operation but a call does to memory what 'evalOp' says: fifth part: append, len, max, min; all together.
-/
import Derived.Test.YtholmbhdbmjobaaDoorCPiOps4
set_option linter.unusedVariables false
set_option linter.unusedSimpArgs false
namespace Go.PI
open Go.RowKit
section
variable {P : Program} {E : Env} {G : Gl} {w : World} {A : Nat → Prop} {κ : Ka} {h : Hp} {z : Fz} {t : Tm} {ρ : Operand → Value} {o : Oper} {key : Nat} {v : PV} {h' : Hp} {rd wr : List Nat}

theorem call_append {x y : Operand} {ty ty2 : TypeId} (ho : o.op = .call { callee := .builtin .append, args := ⟨[x, y]⟩, argTypes := ⟨[ty, ty2]⟩ }) {u : Value} {w' : World}
    (hr : (Builtin.append_ #[ty, ty2] o.type #[ρ x, ρ y]).run P w = .ok u w') : (execOp ρ o).run P w = .ok (.value u) w' := by
  simp [execOp, ho, resolve, invoke, builtin, hr]

/-- olds ++ news ++ noughts, as elements. -/
theorem Es.join {els es : List PV} {sz : Nat} {agg : Bool} {olds news : List Value} {c : Array Value} (h1 : Es w A κ els sz agg olds.toArray) (hl : news.length = es.length * sz) (hu : ∀ e ∈ es, e.cells.length = sz ∧ e.isAgg = agg)
    (h2 : ∀ (i : Nat) e, es[i]? = some e → lies w A κ news.toArray (i * sz) e) (h3 : ∀ p, p < olds.length + news.length → c[p]? = (olds ++ news)[p]?) :
    (∀ e ∈ els ++ es, e.cells.length = sz ∧ e.isAgg = agg) ∧ ∀ (i : Nat) e, (els ++ es)[i]? = some e → lies w A κ c (i * sz) e := by
  have hol : olds.length = els.length * sz := by simpa using h1.len
  refine ⟨fun e he => ?_, fun i e he j d hj => ?_⟩
  · rcases List.mem_append.1 he with h | h
    · exact h1.uni e h
    · exact hu e h
  · by_cases hi : i < els.length
    · rw [List.getElem?_append_left hi] at he
      obtain ⟨v, f1, f2, f3⟩ := h1.rel i e he j d hj
      have hlt : i * sz + j < olds.length := by have := (Array.getElem?_eq_some_iff.1 f1).1; simpa using this
      refine ⟨v, ?_, f2, f3⟩
      rw [h3 _ (by omega), List.getElem?_append_left hlt]
      simpa using f1
    · rw [List.getElem?_append_right (by omega)] at he
      obtain ⟨v, f1, f2, f3⟩ := h2 _ e he j d hj
      have hlt : (i - els.length) * sz + j < news.length := by have := (Array.getElem?_eq_some_iff.1 f1).1; simpa using this
      have e1 : i * sz + j = olds.length + ((i - els.length) * sz + j) := by
        rw [hol, ← Nat.add_assoc, ← Nat.add_mul]; congr 2; omega
      refine ⟨v, ?_, f2, f3⟩
      rw [e1, h3 _ (by omega), List.getElem?_append_right (by omega)]
      simpa using f1

theorem zeroCells_one {u : Value} {s : TypeId} (h3 : (tinfo P s).zero = ofZero u) (h4 : (tinfo P s).zero.storable = true) (h5 : ∀ d ∈ (tinfo P s).zero.cells, d.storable = true) (n : Nat) :
    ∀ x ∈ (Builtin.zeroCells u.cells n).toList, x.oneCell' = true := by
  intro x hx
  have hc : Cs default (fun _ => False) (fun _ => none) (tinfo P s).zero.cells u.cells := by rw [h3] at h4 h5 ⊢; exact Cs.of (rv_zero h5) h4
  have hx' : x ∈ Builtin.zeroCells u.cells n := by simpa using hx
  unfold Builtin.zeroCells at hx'
  rw [Array.mem_map] at hx'
  obtain ⟨k, hk, rfl⟩ := hx'
  have hk' : k < n * u.cells.size := by simpa using hk
  have hs0 : 0 < u.cells.size := by rcases Nat.eq_zero_or_pos u.cells.size with h | h <;> simp_all
  have hlt : k % u.cells.size < u.cells.size := Nat.mod_lt _ hs0
  have := hc.all u.cells[k % u.cells.size] (by simp)
  simpa [hlt] using this

/-- The grown block. -/
theorem snd_grown {ty : TypeId} {els es : List PV} {agg : Bool} {i : TypeInfo} {u : Value} {olds news : List Value} {sCap len : Nat} (H : HR E G w A κ h z) (hn : E.n0 ≤ key) (hk : κ key = none) (hz : z key = false)
    (h3 : (tinfo P ty).zero = ofZero u) (h4 : (tinfo P ty).zero.storable = true) (h5 : ∀ d ∈ (tinfo P ty).zero.cells, d.storable = true) (hus : u.cells.size = i.size)
    (hE : Es w A κ els i.size agg olds.toArray) (hl : news.length = es.length * i.size) (hone : ∀ x ∈ news, x.oneCell' = true) (hu : ∀ e ∈ es, e.cells.length = i.size ∧ e.isAgg = agg)
    (h6 : ∀ (k : Nat) e, es[k]? = some e → lies w A κ news.toArray (k * i.size) e) (hlen : len = els.length)
    (hr : (execOp ρ o).run P w = .ok (.value (.slice (some ⟨w.heap.size, 0, none⟩) (len + es.length) (grownCap w (len + es.length) sCap ty)))
        (w.drew.alloc (.cells ((olds ++ news).toArray ++ Builtin.zeroCells u.cells (grownCap w (len + es.length) sCap ty - (len + es.length))) ty))) :
    Sound E G w A κ z (hset h key (some ⟨els ++ es, i.size, agg⟩)) key (.own key 0 (len + es.length)) ((execOp ρ o).run P w) := by
  subst hlen
  have hge := grownCap_ge w (els.length + es.length) sCap ty
  have hol : olds.length = els.length * i.size := by simpa using hE.len
  generalize grownCap w (els.length + es.length) sCap ty = cap at hr hge
  have hj := Es.join (c := (olds ++ news).toArray ++ Builtin.zeroCells u.cells (cap - (els.length + es.length))) hE hl hu h6 (fun p hp => by
    rw [Array.getElem?_append_left (by simpa using hp)]; simp)
  have HD := H.drew
  have hzc := zeroCells_one (P := P) h3 h4 h5 (cap - (els.length + es.length))
  have hmono : ∀ (k : Nat) e, (els ++ es)[k]? = some e → lies w.drew A κ ((olds ++ news).toArray ++ Builtin.zeroCells u.cells (cap - (els.length + es.length))) (k * i.size) e :=
    fun k e he => (hj.2 k e he).mono (fun _ h => h) (drew_cell w A) (fun _ _ h => h)
  refine ⟨_, _, kset κ key (w.heap.size, i.size, cap), Or.inl hr, HD.alloc hn hk hz ?_ (by simpa using hge) hj.1 ?_ hmono, ?_, kset_le _ hk, fun r hr => kset_other κ _ hr, fun b o' hA => ?_⟩
  · simp only [Array.size_append, List.size_toArray, List.length_append, size_zeroCells, hol, hl, hus]
    rw [← Nat.add_mul, ← Nat.add_mul]
    congr 1; omega
  · intro x hx
    simp only [Array.toList_append, List.mem_append] at hx
    rcases hx with (hx | hx) | hx
    · exact hE.one x (by simpa using hx)
    · exact hone x hx
    · exact hzc x hx
  · have := RV.own (w := w.drew.alloc (.cells ((olds ++ news).toArray ++ Builtin.zeroCells u.cells (cap - (els.length + es.length))) ty)) (A := A) (κ := kset κ key (w.heap.size, i.size, cap)) key 0 (els.length + es.length) w.heap.size i.size cap (some ⟨w.heap.size, 0, none⟩) (kset_same ..) (by omega) (Or.inl (by simp))
    simpa using this
  · exact cell?_of_heap (Below.heap_alloc w.drew _ _ (H.alt b hA)) o'

theorem own_empty {w : World} {A : Nat → Prop} {κ : Ka} {key sz : Nat} (hk : κ key = some (0, sz, 0)) (a : Option Addr) : RV w A κ (.own key 0 0) (.slice a 0 0) := by
  have := RV.own (w := w) (A := A) (κ := κ) key 0 0 0 sz 0 a hk (by omega) (Or.inr rfl)
  simpa using this

theorem setCells_eq_setRow (P : Program) {m o : Nat} {ty : TypeId} {vs : List Value} {c : Array Value} (hg : w.heap[m]? = some (.cells c ty (0, 0))) (hle : o + vs.length ≤ c.size) (h1 : ∀ v ∈ vs, v.oneCell' = true) :
    w.setCells m o vs = w.setRow m (c.toList.take o ++ vs ++ c.toList.drop (o + vs.length)).toArray := by
  have ha := run_storeCells_at P m o ty vs 0 c w hg (by simpa using hle) h1
  have hb := run_storeCells_cells (P := P) m o vs 0 w (fun j hj => by simp [World.cell?, hg]; omega) (fun j hj => by simp [World.frozen?, hg]) h1
  rw [ha] at hb
  injection hb with _ hb
  simp only [Nat.add_zero] at hb
  exact hb.symm

theorem snd_append {x y : Operand} {ty ty2 : TypeId} (ho : o.op = .call { callee := .builtin .append, args := ⟨[x, y]⟩, argTypes := ⟨[ty, ty2]⟩ }) (H : HR E G w A κ h z) (hn : E.n0 ≤ key) (hk : κ key = none) (hz : z key = false) (hhk : h key = none)
    (hx : RV w A κ (ev G t x) (ρ x)) (hy : RV w A κ (ev G t y) (ρ y))
    (he : evalOp P G z key (.call { callee := .builtin .append, args := ⟨[x, y]⟩, argTypes := ⟨[ty, ty2]⟩ }) t h = some (v, h', rd, wr)) : Sound E G w A κ z h' key v ((execOp ρ o).run P w) := by
  unfold evalOp at he
  simp only at he
  split at he
  · rename_i es ks hsrc
    obtain ⟨⟨huni, hby, hz0, hs, hs2, hzl, hpos⟩, he⟩ := need_some he
    obtain ⟨i, u, h1, h2, h3, h4, h5⟩ := tinfo_zero hz0
    obtain ⟨i', d, g1, _, g3⟩ := tinfo_size hpos
    rw [h1] at g1; cases g1
    have hut := tinfo_slice hs
    have hzc : Cs w A κ (tinfo P (tinfo P ty).elem).zero.cells u.cells := by rw [h3] at h4 h5 ⊢; exact Cs.of (rv_zero h5) h4
    have hus : u.cells.size = i.size := by rw [hzc.len, hzl, g3]
    rw [tinfo_bytes h1] at hby
    rw [← g3] at huni hpos he
    obtain ⟨news, hsr, hlies⟩ := src_spec (ty := ty2) H hy hsrc hs2 (fun e he => (huni e he).1) hpos
    have hE0 : Es w A κ [] i.size (tinfo P (tinfo P ty).elem).agg ([] : List Value).toArray := ⟨by simp, fun e he => (by cases he), fun i e he => by simp at he, fun x hx => by simp at hx⟩
    split at he
    · rename_i hev
      rw [hev] at hx
      have hρ := hx.nilsl_inv
      obtain ⟨h32, he⟩ := need_some he
      cases he
      by_cases hes : es.length = 0
      · have he0 : es = [] := List.length_eq_zero_iff.1 hes
        subst he0
        refine ⟨_, w, kset κ key (0, i.size, 0), Or.inl (call_append ho (u := .slice none 0 0) ?_), H.empty hn hk, by simpa using own_empty (kset_same ..) none, kset_le _ hk, fun r hr => kset_other κ _ hr, fun _ _ _ => rfl⟩
        rw [hρ]
        have hl := hsr.len w
        have hc := hsr.cells
        simp only [List.length_nil] at hl hc
        have hn0 : news = [] := List.length_eq_zero_iff.1 (by rw [hsr.newsLen]; simp)
        subst hn0
        rcases hsr.kind with ⟨e', hk'⟩ | hk' <;> simp [Builtin.append_, run_underlying hut, run_underlying hk', sizeOf, typeInfo, h1, hl, hc]
      · have hg := run_append_grow_src (P := P) w ty ty2 o.type _ i u hut h1 h2 none 0 0 [] (by simp [Builtin.firstCells]) (ρ y) es.length news hsr (by omega) (by omega) (by
          rw [Nat.zero_add]; exact growslice_fits (by omega) (bytes_fit h32 hby))
        rw [← hρ] at hg
        have := snd_grown (ty := (tinfo P ty).elem) (len := 0) (els := []) H hn hk hz h3 h4 h5 hus hE0 hsr.newsLen hsr.one huni hlies rfl (call_append ho hg)
        simpa using this
    · rename_i r off len hev
      rw [hev] at hx
      obtain ⟨m, sz, cap, a, hρ, hκ, hle, ha⟩ := hx.own_inv
      split at he
      · rename_i b hb
        obtain ⟨⟨hoff, hlen, hbz, hba, hzr, hks, h32⟩, he'⟩ := need_some he
        cases he'
        subst hoff
        obtain ⟨m0, cap0, e1, e2, e3, e4⟩ := H.blk r b hb (by rw [hκ]; simp)
        rw [hκ] at e1; cases e1
        have hrk : r ≠ key := fun e => by rw [e, hk] at hκ; cases hκ
        have hh : hset (hset h r none) key (some ⟨b.els ++ es, i.size, (tinfo P (tinfo P ty).elem).agg⟩) = hset (hset h r none) key (some { b with els := b.els ++ es }) := by rw [← hbz, ← hba]
        simp only [Nat.sub_zero] at hρ
        by_cases hc0 : cap = 0
        · subst hc0
          have hl0 : len = 0 := by omega
          have hb0 : b.els = [] := List.length_eq_zero_iff.1 (by omega)
          subst hl0
          by_cases hes : es.length = 0
          · have he0 : es = [] := List.length_eq_zero_iff.1 hes
            subst he0
            have HE := (H.drop r).empty (sz := i.size) (agg := (tinfo P (tinfo P ty).elem).agg) hn hk
            refine ⟨_, w, kset κ key (0, i.size, 0), Or.inl (call_append ho (u := .slice a 0 0) ?_), by rw [hb0]; exact HE, by simpa using own_empty (kset_same ..) a, kset_le _ hk, fun r hr => kset_other κ _ hr, fun _ _ _ => rfl⟩
            rw [hρ]
            have hl := hsr.len w
            have hc := hsr.cells
            simp only [List.length_nil] at hl hc
            have hn0 : news = [] := List.length_eq_zero_iff.1 (by rw [hsr.newsLen]; simp)
            subst hn0
            rcases hsr.kind with ⟨e', hk'⟩ | hk' <;> cases a <;> simp [Builtin.append_, run_underlying hut, run_underlying hk', sizeOf, typeInfo, h1, hl, hc, storeCells]
          · have hg := run_append_grow_src (P := P) w ty ty2 o.type _ i u hut h1 h2 a 0 0 [] (by cases a <;> simp [Builtin.firstCells, loadCells, loadCellsFrom]) (ρ y) es.length news hsr (by omega) (by omega) (by
              rw [Nat.zero_add]; exact growslice_fits (by omega) (bytes_fit (by omega) hby))
            rw [← hρ] at hg
            have := snd_grown (ty := (tinfo P ty).elem) (len := 0) (els := []) (H.drop r) hn hk hz h3 h4 h5 hus hE0 hsr.newsLen hsr.one huni hlies rfl (call_append ho hg)
            rw [hb0]
            simpa using this
        · obtain ⟨c, ty0, f1, f2, f3, f4, f5, f6, f7⟩ := e4.resolve_left hc0
          have ha' := ha.resolve_right hc0
          subst ha'
          simp only [Nat.zero_mul] at hρ
          have hcl : len * b.sz ≤ c.size := by rw [f3]; exact Nat.mul_le_mul_right _ (by omega)
          have hE : Es w A κ b.els i.size (tinfo P (tinfo P ty).elem).agg (c.toList.take (len * i.size)).toArray := by
            rw [← hbz, ← hba]
            refine ⟨by simp; rw [← hlen]; omega, e3, fun k e hke j d hj => ?_, fun x hx => f4 x (List.mem_of_mem_take (by simpa using hx))⟩
            obtain ⟨v, q1, q2, q3⟩ := f5 k e hke j d hj
            have hkl := (List.getElem?_eq_some_iff.1 hke).1
            have hjl := (List.getElem?_eq_some_iff.1 hj).1
            rw [(e3 e (List.mem_of_getElem? hke)).1] at hjl
            have : (k + 1) * b.sz ≤ len * b.sz := Nat.mul_le_mul_right _ (by omega)
            rw [Nat.add_mul] at this
            refine ⟨v, ?_, q2, q3⟩
            rw [List.getElem?_toArray, List.getElem?_take_of_lt (by omega)]
            simpa using q1
          by_cases hroom : len + es.length ≤ cap
          · have hrange : len * i.size + news.length ≤ c.size := by
              rw [hsr.newsLen, f3, hbz, ← Nat.add_mul]; exact Nat.mul_le_mul_right _ hroom
            have hg := run_append_room_src (P := P) w ty ty2 o.type _ i hut h1 m 0 len cap (ρ y) es.length news hsr hroom (fun j hj => by simp [World.cell?, f2]; omega) (fun j hj => by simp [World.frozen?, f2])
            rw [Nat.zero_add, setCells_eq_setRow P f2 hrange hsr.one, ← hρ] at hg
            have hseg := seg_get c news (len * i.size) hrange
            have hsz' : (c.toList.take (len * i.size) ++ news ++ c.toList.drop (len * i.size + news.length)).toArray.size = c.size := by simp; omega
            generalize hc' : (c.toList.take (len * i.size) ++ news ++ c.toList.drop (len * i.size + news.length)).toArray = c' at hg hseg hsz'
            have hj := Es.join (c := c') hE hsr.newsLen huni hlies (fun p hp => by
              rw [hseg]
              simp only [List.length_take, Array.length_toList] at hp
              rw [hbz] at hcl
              have hmin : min (len * i.size) c.size = len * i.size := by omega
              rw [hmin] at hp
              by_cases hlt : p < len * i.size
              · rw [if_neg (by omega), List.getElem?_append_left (by simp; omega), List.getElem?_take_of_lt hlt]; simp
              · rw [if_pos (by omega), List.getElem?_append_right (by simp; omega)]
                congr 1; simp; omega)
            rw [← hbz, ← hba] at hj
            have HW := H.write (key := key) (els := b.els ++ es) (c' := c') hb hκ hc0 hzr rfl f2 (Or.inr ⟨hhk, hk, hn, hz⟩) hsz' (by simp; omega) hj.1 (fun x hx => by
                rw [← hc'] at hx
                simp only [List.mem_append] at hx
                rcases hx with (hx | hx) | hx
                · exact f4 x (List.mem_of_mem_take hx)
                · exact hsr.one x hx
                · exact f4 x (List.mem_of_mem_drop hx)) hj.2
            rw [hh]
            refine ⟨_, _, _, Or.inl (call_append ho hg), HW, ?_, kset_le _ hk, fun r hr => kset_other κ _ hr, setRow_keeps H hb hκ hc0 hzr c'⟩
            have := RV.own (w := w.setRow m c') (A := A) (κ := kset κ key (m, b.sz, cap)) key 0 (len + es.length) m b.sz cap (some ⟨m, 0, none⟩) (kset_same ..) (by omega) (Or.inl (by simp))
            simpa using this
          · have holds : (Builtin.firstCells i.size len (.slice (some ⟨m, 0, none⟩) len cap)).run P w.drew = .ok (c.toList.take (len * i.size)).toArray w.drew := by
              refine run_firstCells_some (P := P) w.drew i.size len ⟨m, 0, none⟩ len cap _ (by simp; rw [← hbz]; omega) fun p x hp => ?_
              rw [add_eq, Nat.zero_add]
              have hpl : p < len * i.size := by have := (List.getElem?_eq_some_iff.1 hp).1; simp at this; omega
              rw [List.getElem?_take_of_lt hpl] at hp
              have hdm : w.drew.heap[m]? = some (.cells c ty0 (0, 0)) := f2
              simp only [World.cell?, hdm]
              simpa using hp
            have hg := run_append_grow_src (P := P) w ty ty2 o.type _ i u hut h1 h2 (some ⟨m, 0, none⟩) len cap _ holds (ρ y) es.length news hsr (by omega) (by omega) (growslice_fits (by omega) (bytes_fit h32 hby))
            rw [← hρ] at hg
            have := snd_grown (ty := (tinfo P ty).elem) (H.drop r) hn hk hz h3 h4 h5 hus hE hsr.newsLen hsr.one huni hlies hlen (call_append ho hg)
            exact this
      · cases he
    · cases he
  · cases he

theorem snd_len {x : Operand} {ty : TypeId} (ho : o.op = .call { callee := .builtin .len, args := ⟨[x]⟩, argTypes := ⟨[ty]⟩ }) (H : HR E G w A κ h z) (hx : RV w A κ (ev G t x) (ρ x))
    (he : evalOp P G z key (.call { callee := .builtin .len, args := ⟨[x]⟩, argTypes := ⟨[ty]⟩ }) t h = some (v, h', rd, wr)) : Sound E G w A κ z h' key v ((execOp ρ o).run P w) := by
  unfold evalOp at he
  simp only at he
  obtain ⟨hs, he⟩ := need_some he
  have hu := tinfo_slice hs
  have run : ∀ {a : Option Addr} {n cap : Nat}, ρ x = .slice a n cap → (execOp ρ o).run P w = .ok (.value (.int .i64 n)) w := by
    intro a n cap hρ
    simp [execOp, ho, resolve, invoke, builtin, Builtin.len_, run_underlying hu, hρ, goInt]
  split at he
  · rename_i es hev
    rw [hev] at hx
    obtain ⟨a, cap, hρ⟩ := hx.imm_len
    cases he
    exact Sound.pure H (run hρ) (.data _ _ (.int _ _))
  · rename_i r off len hev
    rw [hev] at hx
    obtain ⟨m, sz, cap, a, hρ, _⟩ := hx.own_inv
    cases he
    exact Sound.pure H (run hρ) (.data _ _ (.int _ _))
  · rename_i hev
    rw [hev] at hx
    cases he
    exact Sound.pure H (run hx.nilsl_inv) (.data _ _ (.int _ _))
  · cases he

theorem snd_max {x y : Operand} {ts : Array TypeId} (ho : o.op = .call { callee := .builtin .max, args := ⟨[x, y]⟩, argTypes := ts }) (H : HR E G w A κ h z) (hx : RV w A κ (ev G t x) (ρ x)) (hy : RV w A κ (ev G t y) (ρ y))
    (he : evalOp P G z key (.call { callee := .builtin .max, args := ⟨[x, y]⟩, argTypes := ts }) t h = some (v, h', rd, wr)) : Sound E G w A κ z h' key v ((execOp ρ o).run P w) := by
  unfold evalOp at he
  simp only at he
  split at he
  · rename_i k a k' b hev hev'
    rw [hev] at hx; rw [hev'] at hy
    cases he
    exact Sound.pure H (v' := .int k (if b > a then b else a)) (by simp [execOp, ho, resolve, invoke, builtin, Builtin.max_, Builtin.max2, hx.int_inv, hy.int_inv]) (.data _ _ (.int _ _))
  · cases he

theorem snd_min {x y : Operand} {ts : Array TypeId} (ho : o.op = .call { callee := .builtin .min, args := ⟨[x, y]⟩, argTypes := ts }) (H : HR E G w A κ h z) (hx : RV w A κ (ev G t x) (ρ x)) (hy : RV w A κ (ev G t y) (ρ y))
    (he : evalOp P G z key (.call { callee := .builtin .min, args := ⟨[x, y]⟩, argTypes := ts }) t h = some (v, h', rd, wr)) : Sound E G w A κ z h' key v ((execOp ρ o).run P w) := by
  unfold evalOp at he
  simp only at he
  split at he
  · rename_i k a k' b hev hev'
    rw [hev] at hx; rw [hev'] at hy
    cases he
    exact Sound.pure H (v' := .int k (if b < a then b else a)) (by simp [execOp, ho, resolve, invoke, builtin, Builtin.min_, Builtin.min2, hx.int_inv, hy.int_inv]) (.data _ _ (.int _ _))
  · cases he

/-- EVERY OPERATION THAT 'evalOp' CARRIES OUT. -/
theorem evalOp_sound (H : HR E G w A κ h z) (hn : E.n0 ≤ key) (hk : κ key = none) (hz : z key = false) (hhk : h key = none) (hx : OkOp G w A κ t ρ o.op)
    (he : evalOp P G z key o.op t h = some (v, h', rd, wr)) : Sound E G w A κ z h' key v ((execOp ρ o).run P w) := by
  generalize ho : o.op = op at hx he
  cases op
  case move x => unfold evalOp at he; cases he; exact snd_move (Or.inl ho) H (hx x (by simp [Op.operands]))
  case assign x => unfold evalOp at he; cases he; exact snd_move (Or.inr ho) H (hx x (by simp [Op.operands]))
  case pick c a b => exact snd_pick ho H (hx c (by simp [Op.operands])) (hx a (by simp [Op.operands])) (hx b (by simp [Op.operands])) he
  case alloc e => exact snd_alloc ho H hn hk hz he
  case box e x => exact snd_box ho H hn hk hz (hx x (by simp [Op.operands])) he
  case build ty parts => exact snd_build ho H hx he
  case buildSlice ty len parts => exact snd_buildSlice ho H hn hk hz hx he
  case load ty x => exact snd_load ho H (hx x (by simp [Op.operands])) he
  case store ty x y => exact snd_store ho H (hx x (by simp [Op.operands])) (hx y (by simp [Op.operands])) he
  case nilCheck x => exact snd_nilCheck ho H (hx x (by simp [Op.operands])) he
  case binOp op xt x y yt => exact snd_binOp ho H (hx x (by simp [Op.operands])) (hx y (by simp [Op.operands])) he
  case unOp op xt x => exact snd_unOp ho H (hx x (by simp [Op.operands])) he
  case convert a b x => exact snd_convert ho H (hx x (by simp [Op.operands])) he
  case makeFunc fn first captured =>
    unfold evalOp at he; cases he
    exact snd_makeFunc ho H (fun x hm => hx x (by simpa [Op.operands] using hm))
  case makeSlice ty l c => exact snd_makeSlice ho H hn hk hz (hx l (by simp [Op.operands])) (hx c (by simp [Op.operands])) he
  case slice ty x lo hi mx =>
    cases mx with
    | some m => simp [evalOp] at he
    | none => exact snd_slice ho H (hx x (by simp [Op.operands])) (fun y hy => hx y (by simp [Op.operands, hy])) (fun y hy => hx y (by simp [Op.operands, hy])) he
  case fieldAddr s x f => exact snd_fieldAddr ho H (hx x (by simp [Op.operands])) he
  case field s x f => exact snd_field ho H (hx x (by simp [Op.operands])) he
  case indexAddr ty x ix => exact snd_indexAddr ho H (hx x (by simp [Op.operands])) (hx ix (by simp [Op.operands])) he
  case index ty x ix => exact snd_index ho H (hx x (by simp [Op.operands])) (hx ix (by simp [Op.operands])) he
  case extract x i => exact snd_extract ho H (hx x (by simp [Op.operands])) he
  case call c =>
    obtain ⟨callee, ⟨args⟩, ⟨tys⟩⟩ := c
    cases callee
    case value => simp [evalOp] at he
    case invoke => simp [evalOp] at he
    case builtin b =>
      cases b
      case len =>
        match args, tys, he, ho, hx with
        | [x], [ty], he, ho, hx => exact snd_len ho H (hx x (by simp [Op.operands, Call.operands])) he
        | [], _, he, _, _ => simp [evalOp] at he
        | _ :: _ :: _, _, he, _, _ => simp [evalOp] at he
        | [_], [], he, _, _ => simp [evalOp] at he
        | [_], _ :: _ :: _, he, _, _ => simp [evalOp] at he
      case max =>
        match args, he, ho, hx with
        | [x, y], he, ho, hx => exact snd_max ho H (hx x (by simp [Op.operands, Call.operands])) (hx y (by simp [Op.operands, Call.operands])) he
        | [], he, _, _ => simp [evalOp] at he
        | [_], he, _, _ => simp [evalOp] at he
        | _ :: _ :: _ :: _, he, _, _ => simp [evalOp] at he
      case min =>
        match args, he, ho, hx with
        | [x, y], he, ho, hx => exact snd_min ho H (hx x (by simp [Op.operands, Call.operands])) (hx y (by simp [Op.operands, Call.operands])) he
        | [], he, _, _ => simp [evalOp] at he
        | [_], he, _, _ => simp [evalOp] at he
        | _ :: _ :: _ :: _, he, _, _ => simp [evalOp] at he
      case append =>
        match args, tys, he, ho, hx with
        | [x, y], [ty, ty2], he, ho, hx => exact snd_append ho H hn hk hz hhk (hx x (by simp [Op.operands, Call.operands])) (hx y (by simp [Op.operands, Call.operands])) he
        | [], _, he, _, _ => simp [evalOp] at he
        | [_], _, he, _, _ => simp [evalOp] at he
        | _ :: _ :: _ :: _, _, he, _, _ => simp [evalOp] at he
        | [_, _], [], he, _, _ => simp [evalOp] at he
        | [_, _], [_], he, _, _ => simp [evalOp] at he
        | [_, _], _ :: _ :: _ :: _, he, _, _ => simp [evalOp] at he
      all_goals (simp [evalOp] at he)
  all_goals (simp [evalOp] at he)

end
end Go.PI
