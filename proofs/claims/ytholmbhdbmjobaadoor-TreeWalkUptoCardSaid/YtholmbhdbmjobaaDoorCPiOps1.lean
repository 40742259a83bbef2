/-
  PI: each operation but a call does to memory what 'evalOp' says: first part: operations that make and write no memory.
-/
import Derived.Test.YtholmbhdbmjobaaDoorCPiHeap
set_option linter.unusedVariables false
set_option linter.unusedSimpArgs false
namespace Go.PI
open Go.RowKit

def Sound (E : Env) (G : Gl) (w : World) (A : Nat → Prop) (κ : Ka) (z : Fz) (h' : Hp) (key : Nat) (v : PV) (r : Result Next) : Prop :=
  ∃ v' w' κ', (r = .ok (.value v') w' ∨ (r = .ok .skip w' ∧ v' = undef)) ∧ HR E G w' A κ' h' z ∧ RV w' A κ' v v' ∧ (∀ r x, κ r = some x → κ' r = some x) ∧ (∀ r, r ≠ key → κ' r = κ r) ∧
    (∀ b o, A b → w'.cell? ⟨b, o, none⟩ = w.cell? ⟨b, o, none⟩)

theorem Sound.pure {E : Env} {G : Gl} {w : World} {A : Nat → Prop} {κ : Ka} {z : Fz} {h : Hp} {key : Nat} {v : PV} {r : Result Next} {v' : Value} (H : HR E G w A κ h z) (hr : r = .ok (.value v') w) (hv : RV w A κ v v') :
    Sound E G w A κ z h key v r := ⟨v', w, κ, Or.inl hr, H, hv, fun _ _ h => h, fun _ _ => rfl, fun _ _ _ => rfl⟩

theorem need_some {c : Prop} [Decidable c] {x : Res} {y} (h : need c x = some y) : c ∧ x = some y := by
  unfold need at h
  split at h
  · exact ⟨‹_›, h⟩
  · cases h

/-- The operands of an operation are related. -/
def OkOp (G : Gl) (w : World) (A : Nat → Prop) (κ : Ka) (t : Tm) (ρ : Operand → Value) (op : Op) : Prop := ∀ x ∈ op.operands.toList, RV w A κ (ev G t x) (ρ x)

theorem add_eq (b o n : Nat) : (⟨b, o, none⟩ : Addr).add n = ⟨b, o + n, none⟩ := by
  unfold Addr.add
  split
  · subst_vars; rfl
  · rfl

section
variable {P : Program}

theorem tinfo_size {t : TypeId} (h : (tinfo P t).size ≠ 0) : ∃ i d, P.info? t = some i ∧ P.underlying t = some d ∧ i.size = (tinfo P t).size := by
  unfold tinfo at h ⊢
  simp only at h ⊢
  cases hd : P.underlying t with
  | none => simp [hd] at h
  | some d =>
    simp only [hd] at h ⊢
    unfold Program.cellsOf at h ⊢
    cases hi : P.info? t with
    | none => simp [hi] at h
    | some i => exact ⟨i, d, rfl, rfl, by simp⟩

theorem tinfo_cells {t : TypeId} (h : (tinfo P t).size ≠ 0) : P.cellsOf t = (tinfo P t).size := by
  obtain ⟨i, d, h1, h2, h3⟩ := tinfo_size h
  unfold Program.cellsOf
  simp [h1, h3]

theorem tinfo_agg {t : TypeId} {d : TypeDesc} (hd : P.underlying t = some d) : (isAgg t).run P = fun w => .ok (tinfo P t).agg w := by
  funext w
  have : (underlying t).run P w = .ok d w := run_underlying hd w
  simp only [isAgg, Sem.run_bind, this, Result.andThen_ok, tinfo, hd]
  cases d <;> rfl

theorem tinfo_array {t : TypeId} (h : (tinfo P t).alen ≠ 0) : P.underlying t = some (.array (tinfo P t).alen (tinfo P t).elem) := by
  unfold tinfo at h ⊢
  simp only at h ⊢
  cases hd : P.underlying t with
  | none => simp [hd] at h
  | some d => cases d <;> simp [hd] at h ⊢

theorem tinfo_slice {t : TypeId} (h : (tinfo P t).isSlice = true) : P.underlying t = some (.slice (tinfo P t).elem) := by
  unfold tinfo at h ⊢
  simp only at h ⊢
  cases hd : P.underlying t with
  | none => simp [hd] at h
  | some d => cases d <;> simp [hd] at h ⊢

theorem part_spec {e v : PV} {off n : Nat} {agg : Bool} (h : part e off n agg = some v) :
    (agg = true ∧ ∃ ds, v = .agg ds ∧ ds.length = n ∧ ∀ j d, ds[j]? = some d → e.cells[off + j]? = some d) ∨ (agg = false ∧ n = 1 ∧ e.cells[off]? = some v) := by
  unfold part at h
  split at h
  · rename_i hc
    obtain ⟨h1, h2, h3⟩ := hc
    cases h
    subst h1
    cases agg with
    | true =>
      left
      cases e <;> simp [PV.isAgg] at h3
      rename_i cs
      exact ⟨rfl, cs, rfl, h2, fun j d hd => by simpa [PV.cells] using hd⟩
    | false =>
      right
      have : e.cells = [e] := by cases e <;> first | rfl | simp [PV.isAgg] at h3
      rw [this] at h2 ⊢
      exact ⟨rfl, h2.symm, rfl⟩
  · split at h
    · rename_i hle
      cases agg with
      | true =>
        simp at h
        left
        refine ⟨rfl, _, h.symm, by simp; omega, fun j d hd => ?_⟩
        rw [List.getElem?_take] at hd
        split at hd
        · rw [List.getElem?_drop] at hd; exact hd
        · cases hd
      | false =>
        simp at h
        right
        exact ⟨rfl, h.1, h.2⟩
    · cases h

variable {E : Env} {G : Gl} {w : World} {A : Nat → Prop} {κ : Ka} {h : Hp} {z : Fz} {t : Tm} {ρ : Operand → Value}

theorem load_cells {e v : PV} {off : Nat} {ty : TypeId} {m o : Nat} (hp : part e off (tinfo P ty).size (tinfo P ty).agg = some v)
    (hc : ∀ j d, e.cells[j]? = some d → ∃ u, w.cell? ⟨m, o + j, none⟩ = some u ∧ RV w A κ d u ∧ u.oneCell' = true) (hz : (tinfo P ty).size ≠ 0 ∨ (tinfo P ty).agg = true) :
    ∃ v', (loadVar ty ⟨m, o + off, none⟩).run P w = .ok v' w ∧ RV w A κ v v' := by
  have hd : ∃ d, P.underlying ty = some d := by
    rcases hz with hz | hz
    · obtain ⟨i, d, _, h, _⟩ := tinfo_size hz; exact ⟨d, h⟩
    · unfold tinfo at hz; simp only at hz
      cases hd : P.underlying ty with
      | none => simp [hd] at hz
      | some d => exact ⟨d, rfl⟩
  obtain ⟨d, hd⟩ := hd
  have hag := tinfo_agg hd
  rcases part_spec hp with ⟨ha, ds, rfl, hl, hds⟩ | ⟨ha, hn, he⟩
  · by_cases hi : ∃ i, P.info? ty = some i
    · obtain ⟨i, hi⟩ := hi
      have hsz : (sizeOf ty).run P w = .ok (tinfo P ty).size w := by
        simp [sizeOf, typeInfo, hi, tinfo, hd, Program.cellsOf]
      let f : Nat → Value := fun j => (w.cell? ⟨m, o + (off + j), none⟩).getD undef
      have hf : ∀ j, j < ds.length → w.cell? (Addr.add ⟨m, o + off, none⟩ j) = some (f j) ∧ RV w A κ (ds.getD j .any) (f j) ∧ (f j).oneCell' = true := by
        intro j hj
        have hdj : ds[j]? = some (ds.getD j .any) := by simp [List.getD, List.getElem?_eq_getElem hj]
        obtain ⟨u, h1, h2, h3⟩ := hc _ _ (hds j _ hdj)
        have : f j = u := by simp [f, h1]
        rw [this, add_eq, Nat.add_assoc]
        exact ⟨h1, h2, h3⟩
      refine ⟨.agg ((List.range ds.length).map f).toArray, ?_, ?_⟩
      · simp only [loadVar, Sem.run_bind, hag, Result.andThen_ok, ha, if_true, hsz, ← hl]
        rw [run_loadCells w _ ds.length f (fun j hj => (hf j hj).1)]
        rfl
      · refine .agg _ _ (by simp) (fun j d hd => ?_) (fun j hj => ?_)
        · have hj : j < ds.length := (List.getElem?_eq_some_iff.1 hd).1
          have := (hf j hj).2.1
          simp only [List.getD, hd, Option.getD_some] at this
          simpa [Array.getD, hj] using this
        · have := (hf j hj).2.2
          simpa [Array.getD, hj] using this
    · exfalso
      unfold Program.underlying at hd
      cases hi' : P.info? ty with
      | none => simp [hi'] at hd
      | some i => exact hi ⟨i, hi'⟩
  · obtain ⟨u, h1, h2, h3⟩ := hc _ _ he
    refine ⟨u, ?_, h2⟩
    simp only [loadVar, Sem.run_bind, hag, Result.andThen_ok, ha]
    simp [h1]

theorem pi_ofConst (v : Value) : RV w A κ (ofConst v) v := by
  unfold ofConst
  split
  · exact .data _ _ (.int _ _)
  · exact .data _ _ (.bool _)
  · exact .data _ _ (.str _)
  · exact .nilsl
  · exact .data _ _ .nilfunc
  · exact .tup [] _ rfl (fun i d hd => by simp at hd)
  · exact .func _ [] [] _ _ rfl rfl (fun i d hd => by simp at hd) (fun i d hd => by simp at hd)
  · exact .any _

/-- A block that may be read: its elements lie in the world. -/
theorem HR.read (H : HR E G w A κ h z) {r : Nat} {b : Blk} (hr : h r = some b) (hκ : κ r ≠ none) {j : Nat} {e : PV} (he : b.els[j]? = some e) :
    ∃ m cap, κ r = some (m, b.sz, cap) ∧ j < cap ∧ ∀ i d, e.cells[i]? = some d → ∃ u, w.cell? ⟨m, j * b.sz + i, none⟩ = some u ∧ RV w A κ d u ∧ u.oneCell' = true := by
  obtain ⟨m, cap, h1, h2, h3, h4⟩ := H.blk r b hr hκ
  have hj : j < b.els.length := (List.getElem?_eq_some_iff.1 he).1
  refine ⟨m, cap, h1, by omega, fun i d hd => ?_⟩
  rcases h4 with h4 | ⟨c, ty, g1, g2, g3, g4, g5, g6, g7⟩
  · omega
  · obtain ⟨v, f1, f2, f3⟩ := g5 j e he i d hd
    refine ⟨v, ?_, f2, f3⟩
    simpa [World.cell?, g2] using f1

theorem map_some {α β : Type} {o : Option α} {f : α → β} {y : β} (h : o.map f = some y) : ∃ x, o = some x ∧ f x = y := by
  cases o with
  | none => cases h
  | some x => exact ⟨x, rfl, by simpa using h⟩

theorem snd_load {o : Oper} {ty : TypeId} {x : Operand} {key : Nat} {v : PV} {h' : Hp} {rd wr : List Nat} (ho : o.op = .load ty x) (H : HR E G w A κ h z) (hx : RV w A κ (ev G t x) (ρ x))
    (he : evalOp P G z key (.load ty x) t h = some (v, h', rd, wr)) : Sound E G w A κ z h' key v ((execOp ρ o).run P w) := by
  unfold evalOp at he
  simp only at he
  have fin : ∀ {m n : Nat} {e : PV} {off : Nat}, ρ x = .pointer (some ⟨m, n + off, none⟩) → part e off (tinfo P ty).size (tinfo P ty).agg = some v →
      (∀ j d, e.cells[j]? = some d → ∃ u, w.cell? ⟨m, n + j, none⟩ = some u ∧ RV w A κ d u ∧ u.oneCell' = true) → Sound E G w A κ z h key v ((execOp ρ o).run P w) := by
    intro m n e off hρ hp hc
    have hz : (tinfo P ty).size ≠ 0 ∨ (tinfo P ty).agg = true := by
      rcases part_spec hp with ⟨h, _⟩ | ⟨_, h, _⟩
      · exact Or.inr h
      · left; omega
    obtain ⟨v', h1, h2⟩ := load_cells hp hc hz
    refine Sound.pure H (v' := v') ?_ h2
    simp [execOp, ho, hρ, Instr.loadAt, Instr.sureAddr, h1]
  split at he
  · rename_i r j off hev
    rw [hev] at hx
    obtain ⟨m, sz, cap, hρ, hk⟩ := hx.ptr_inv
    split at he
    · rename_i b hb
      split at he
      · rename_i e hel
        obtain ⟨v0, hp, hv⟩ := map_some he
        cases hv
        obtain ⟨m', cap', hk', _, hc⟩ := H.read hb (by rw [hk]; simp) hel
        rw [hk] at hk'; cases hk'
        exact fin hρ hp hc
      · cases he
    · cases he
  · rename_i e off hev
    rw [hev] at hx
    obtain ⟨b, n, val, hρ, hA, hc, hd⟩ := hx.cptr_inv
    obtain ⟨v0, hp, hv⟩ := map_some he
    cases hv
    exact fin hρ hp fun j d hj => ⟨val j, (hc j (List.getElem?_eq_some_iff.1 hj).1).1, .data _ _ (hd j d hj), (hc j (List.getElem?_eq_some_iff.1 hj).1).2⟩
  · cases he

theorem tinfo_fields {s : TypeId} {f o ty n : Nat} (h : (tinfo P s).fields[f]? = some (o, ty, n)) : ∃ fs fd, P.underlying s = some (.struct fs) ∧ fs[f]? = some fd ∧ fd.offset = o ∧ fd.type = ty ∧ P.cellsOf ty = n := by
  unfold tinfo at h
  simp only at h
  cases hd : P.underlying s with
  | none => simp [hd] at h
  | some d =>
    cases d <;> simp [hd] at h
    rename_i fs
    obtain ⟨fd, h1, h2, h3, h4⟩ := h
    subst h3
    exact ⟨fs, fd, rfl, h1, h2, rfl, h4⟩

theorem sizeOf_run {ty : TypeId} (hn : P.cellsOf ty ≠ 0) : (sizeOf ty).run P w = .ok (P.cellsOf ty) w := by
  unfold Program.cellsOf at hn ⊢
  cases hi : P.info? ty with
  | none => simp [hi] at hn
  | some i => simp [sizeOf, typeInfo, hi]

theorem snd_fieldAddr {o : Oper} {s : TypeId} {x : Operand} {f : Nat} {key : Nat} {v : PV} {h' : Hp} {rd wr : List Nat} (ho : o.op = .fieldAddr s x f) (H : HR E G w A κ h z) (hx : RV w A κ (ev G t x) (ρ x))
    (he : evalOp P G z key (.fieldAddr s x f) t h = some (v, h', rd, wr)) : Sound E G w A κ z h' key v ((execOp ρ o).run P w) := by
  unfold evalOp at he
  simp only at he
  have run : ∀ {b n off ty k : Nat}, (tinfo P s).fields[f]? = some (off, ty, k) → k ≠ 0 → ρ x = .pointer (some ⟨b, n, none⟩) → (execOp ρ o).run P w = .ok (.value (.pointer (some ⟨b, n + off, none⟩))) w := by
    intro b n off ty k hf hk hρ
    obtain ⟨fs, fd, h1, h2, h3, h4, h5⟩ := tinfo_fields hf
    subst h3 h4 h5
    have hs := sizeOf_run (w := w) hk
    simp [execOp, ho, hρ, Instr.fieldAt, run_underlying h1, h2, Instr.sureAddr, fieldPlace, hs, hk, add_eq]
  split at he
  · rename_i off ty n r j o1 hf hev
    rw [hev] at hx
    obtain ⟨m, sz, cap, hρ, hk⟩ := hx.ptr_inv
    obtain ⟨hn, he⟩ := need_some he
    cases he
    refine Sound.pure H (run hf hn hρ) ?_
    rw [Nat.add_assoc]
    exact .ptr r j (o1 + off) m sz cap hk
  · rename_i off ty n e o1 hf hev
    rw [hev] at hx
    obtain ⟨b, n', val, hρ, hA, hc, hd⟩ := hx.cptr_inv
    obtain ⟨hn, he⟩ := need_some he
    cases he
    refine Sound.pure H (run hf hn hρ) ?_
    rw [Nat.add_assoc]
    exact .data _ _ (.cptr e (o1 + off) b n' val hA hc hd)
  · cases he

theorem snd_indexAddr {o : Oper} {ty : TypeId} {x ix : Operand} {key : Nat} {v : PV} {h' : Hp} {rd wr : List Nat} (ho : o.op = .indexAddr ty x ix) (H : HR E G w A κ h z) (hx : RV w A κ (ev G t x) (ρ x)) (hi : RV w A κ (ev G t ix) (ρ ix))
    (he : evalOp P G z key (.indexAddr ty x ix) t h = some (v, h', rd, wr)) : Sound E G w A κ z h' key v ((execOp ρ o).run P w) := by
  unfold evalOp at he
  simp only at he
  have run : ∀ {b n len cap : Nat} {k : IntKind} {i : Int}, (tinfo P ty).isSlice = true → 0 ≤ i → i < len → P.cellsOf (tinfo P ty).elem ≠ 0 → ρ x = .slice (some ⟨b, n, none⟩) len cap → ρ ix = .int k i →
      (execOp ρ o).run P w = .ok (.value (.pointer (some ⟨b, n + i.toNat * P.cellsOf (tinfo P ty).elem, none⟩))) w := by
    intro b n len cap k i hs h0 h1 hk hρ hρi
    have hu := tinfo_slice hs
    have hz := sizeOf_run (w := w) hk
    simp [execOp, ho, hρ, hρi, Instr.indexAt, asIntOf, run_underlying hu, h0, h1, hz, add_eq]
  have runA : ∀ {b n : Nat} {k : IntKind} {i : Int}, (tinfo P ty).alen ≠ 0 → 0 ≤ i → i < (tinfo P ty).alen → (tinfo P (tinfo P ty).elem).size ≠ 0 → ρ x = .pointer (some ⟨b, n, none⟩) → ρ ix = .int k i →
      (execOp ρ o).run P w = .ok (.value (.pointer (some ⟨b, n + i.toNat * (tinfo P (tinfo P ty).elem).size, none⟩))) w := by
    intro b n k i hs h0 h1 hk hρ hρi
    have hu := tinfo_array hs
    have hz0 := tinfo_cells hk
    have hz := sizeOf_run (P := P) (w := w) (ty := (tinfo P ty).elem) (by rw [hz0]; exact hk)
    rw [hz0] at hz
    simp [execOp, ho, hρ, hρi, Instr.indexAt, Instr.sureAddr, asIntOf, run_underlying hu, h0, h1, hz, add_eq]
  split at he
  · rename_i es k n hev hevi
    rw [hev] at hx; rw [hevi] at hi
    obtain ⟨⟨hs, h0, h1⟩, he⟩ := need_some he
    split at he
    · rename_i e hel
      obtain ⟨hsz, he⟩ := need_some he
      cases he
      have hρi := hi.int_inv
      have hx' := hx.imm_inv
      cases hρ : ρ x <;> rw [hρ] at hx' <;> try (cases hx'; done)
      rename_i a len cap
      cases hx' with
      | imm0 => simp at hel
      | imm _ sz b off _ val hA _ hsz' hc hd =>
        have hin : n.toNat < es.length := by omega
        have hsz2 : e.cells.length = sz := hsz' e (List.mem_of_getElem? hel)
        have hz0 := tinfo_cells hsz.2
        have := run hs h0 h1 (by rw [hz0]; exact hsz.2) hρ hρi
        refine Sound.pure H this ?_
        have e1 : P.cellsOf (tinfo P ty).elem = sz := by omega
        rw [e1]
        exact .data _ _ (.cptr e 0 b (off + n.toNat * sz) (val n.toNat) hA (fun c hc' => hc n.toNat c hin (by omega)) (fun c d hcd => hd n.toNat e hel c d hcd))
    · cases he
  · rename_i r off len k n hev hevi
    rw [hev] at hx; rw [hevi] at hi
    obtain ⟨⟨hs, h0, h1⟩, he⟩ := need_some he
    split at he
    · rename_i b hb
      obtain ⟨hsz, he⟩ := need_some he
      cases he
      have hρi := hi.int_inv
      obtain ⟨m, sz, cap, a, hρ, hk, hle, ha⟩ := hx.own_inv
      obtain ⟨m', cap', hk', _, _, _⟩ := H.blk r b hb (by rw [hk]; simp)
      rw [hk] at hk'; cases hk'
      have hz0 := tinfo_cells hsz.2
      have ha' : a = some ⟨m, off * b.sz, none⟩ := ha.resolve_right (by omega)
      subst ha'
      have := run hs h0 h1 (by rw [hz0]; exact hsz.2) hρ hρi
      refine Sound.pure H this ?_
      rw [hz0, ← hsz.1, ← Nat.add_mul]
      exact .ptr r (off + n.toNat) 0 m b.sz cap hk
    · cases he
  · rename_i e off k n hev hevi
    rw [hev] at hx; rw [hevi] at hi
    obtain ⟨⟨h0, h1, h2, h3⟩, he⟩ := need_some he
    cases he
    have hρi := hi.int_inv
    obtain ⟨b, n', val, hρ, hA, hc, hd⟩ := hx.cptr_inv
    refine Sound.pure H (runA h0 h1 h2 h3 hρ hρi) ?_
    rw [Nat.add_assoc]
    exact .data _ _ (.cptr e (off + n.toNat * (tinfo P (tinfo P ty).elem).size) b n' val hA hc hd)
  · rename_i r j off k n hev hevi
    rw [hev] at hx; rw [hevi] at hi
    obtain ⟨⟨h0, h1, h2, h3⟩, he⟩ := need_some he
    cases he
    have hρi := hi.int_inv
    obtain ⟨m, sz, cap, hρ, hk⟩ := hx.ptr_inv
    refine Sound.pure H (runA h0 h1 h2 h3 hρ hρi) ?_
    rw [Nat.add_assoc]
    exact .ptr r j (off + n.toNat * (tinfo P (tinfo P ty).elem).size) m sz cap hk
  · cases he

end
end Go.PI
