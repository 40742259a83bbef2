/-
  PI: from a function's contract on data to a law's row: true, and all that came in reads as it did.
-/
import Derived.Test.YtigeioodiljlaaaGreatCPD
import Derived.OpenShut
import Derived.OpenVars
import Derived.Lib.LaidTab
namespace Go.PI
set_option linter.unusedVariables false
set_option linter.unusedSimpArgs false
set_option linter.unnecessarySimpa false
open Go

mutual
/-- How much a datum holds. -/
def bulk {H : Type} : DataW H → Nat
  | .lit (.string bytes) => bytes.length + 1
  | .lit _ => 1
  | .nil => 1
  | .ptr d => bulk d + 1
  | .slice elems spare => bulkAll elems + bulkAll spare + 1
  | .agg parts => bulkAll parts + 1
  | .iface _ d => bulk d + 1
  | .map entries => bulkEntries entries + 1
  | .held _ => 1
def bulkAll {H : Type} : List (DataW H) → Nat
  | [] => 0
  | d :: r => bulk d + bulkAll r
def bulkEntries {H : Type} : List (Lit × DataW H) → Nat
  | [] => 0
  | x :: r => bulkEntry x + bulkEntries r
def bulkEntry {H : Type} : Lit × DataW H → Nat
  | (.string bytes, d) => bytes.length + bulk d + 1
  | (_, d) => bulk d + 1
end

/-- Cells that stand for data, one by one. -/
def RC (w : World) (A : Nat → Prop) (ds : List PV) (cs : List Value) : Prop := ds.length = cs.length ∧ ∀ i d, ds[i]? = some d → RD w A d (cs.getD i undef) ∧ (cs.getD i undef).oneCell' = true

abbrev AllB (w : World) : Nat → Prop := fun b => b < w.heap.size

section
variable {H : Type} {enc : TypeId × Value → H} {P : Program} {w : World} {A : Nat → Prop}

theorem RC.one {d : PV} {v : Value} (h : RD w A d v) (h1 : v.oneCell' = true) : RC w A [d] [v] := ⟨rfl, fun i x hx => by
  cases i with
  | zero => simp at hx; subst hx; exact ⟨h, h1⟩
  | succ i => simp at hx⟩

theorem getD_drop_take {α : Type} (l : List α) (o n i : Nat) (x : α) (h : i < n) : ((l.drop o).take n).getD i x = l.getD (o + i) x := by
  simp only [List.getD_eq_getElem?_getD, List.getElem?_take, h, if_true, List.getElem?_drop]
theorem getD_drop {α : Type} (l : List α) (o i : Nat) (x : α) : (l.drop o).getD i x = l.getD (o + i) x := by
  simp only [List.getD_eq_getElem?_getD, List.getElem?_drop]

theorem RC.step {a b : List PV} {cs : List Value} {o n o' : Nat} (h1 : RC w A a ((cs.drop o).take n)) (ho : o' = o + n) (hn : n ≤ cs.length - o) (h2 : RC w A b (cs.drop o')) : RC w A (a ++ b) (cs.drop o) := by
  subst ho
  have e1 := h1.1
  have e2 := h2.1
  rw [List.length_take, List.length_drop] at e1
  rw [List.length_drop] at e2
  refine ⟨by rw [List.length_append, List.length_drop]; omega, fun i d hd => ?_⟩
  by_cases hi : i < a.length
  · rw [List.getElem?_append_left hi] at hd
    have := h1.2 i d hd
    rw [getD_drop_take _ _ _ _ _ (by omega)] at this
    rw [getD_drop]
    exact this
  · rw [List.getElem?_append_right (by omega)] at hd
    have := h2.2 _ d hd
    rw [getD_drop] at this ⊢
    rw [show o + n + (i - a.length) = o + i by omega] at this
    exact this
theorem RC.last {a : List PV} {cs : List Value} {o n : Nat} (h1 : RC w A a ((cs.drop o).take n)) (ho : cs.length - o ≤ n) : RC w A a (cs.drop o) := by
  rw [List.take_of_length_le (by rw [List.length_drop]; exact ho)] at h1
  exact h1

theorem add_none (b o n : Nat) : (⟨b, o, none⟩ : Addr).add n = ⟨b, o + n, none⟩ := by
  unfold Addr.add
  split
  · rename_i h; subst h; rfl
  · rfl
theorem cell_spot {w : World} {a : Addr} {v : Value} (h : w.cell? a = some v) : a.spot = none := by
  unfold World.cell? at h
  split at h
  · split at h
    · cases h
    · rename_i hs; simpa using hs
  · cases h
/-- What is read at a type, at most so deep. -/
def Reads {α : Type} (enc : TypeId × Value → H) (P : Program) (w : World) (n : Nat) (t : TypeId) (e : α → List PV) (Q : α → Nat → Prop) : Prop :=
  ∀ fuel, fuel ≤ n → ∀ cs (d : DataW H) ps, DataW.trod enc P w 0 (fun _ => true) true fuel t cs = some (d, ps) → ∃ x : α, RC w (AllB w) (e x) cs ∧ Q x (bulk d)

theorem Reads.mono {α : Type} {n : Nat} {t : TypeId} {e : α → List PV} {Q Q' : α → Nat → Prop} (h : Reads enc P w n t e Q) (hq : ∀ x B, Q x B → Q' x B) : Reads enc P w n t e Q' := fun fuel hf cs d ps hd => let ⟨x, h1, h2⟩ := h fuel hf cs d ps hd; ⟨x, h1, hq _ _ h2⟩

theorem reads_int {n : Nat} {t : TypeId} {k : IntKind} (ht : P.underlying t = some (.int k)) : Reads enc P w n t (fun x : Int => [.int k x]) (fun x B => (Lit.int k x).wf = true ∧ 1 ≤ B) := by
  intro fuel _ cs d ps h
  obtain ⟨x, rfl, he, hw⟩ := DataW.trod_int ht h
  cases he
  exact ⟨x, RC.one (.int k x) rfl, hw, Nat.le_refl _⟩
theorem reads_bool {n : Nat} {t : TypeId} (ht : P.underlying t = some .bool) : Reads enc P w n t (fun x : Bool => [.bool x]) (fun _ B => 1 ≤ B) := by
  intro fuel _ cs d ps h
  obtain ⟨x, rfl, he⟩ := DataW.trod_bool ht h
  cases he
  exact ⟨x, RC.one (.bool x) rfl, Nat.le_refl _⟩

/-- Of a list: each element's own, in all. -/
def QL {α : Type} (Q : α → Nat → Prop) : List α → Nat → Prop
  | [], B => 1 ≤ B
  | x :: xs, B => ∃ b c, Q x b ∧ QL Q xs c ∧ b + c ≤ B
theorem QL.mono {α : Type} {Q : α → Nat → Prop} : ∀ {xs : List α} {B C : Nat}, QL Q xs B → B ≤ C → QL Q xs C
  | [], _, _, h, hc => Nat.le_trans h hc
  | _ :: _, _, _, ⟨b, c, h1, h2, h3⟩, hc => ⟨b, c, h1, h2, Nat.le_trans h3 hc⟩
theorem QL.mem {α : Type} {Q : α → Nat → Prop} : ∀ {xs : List α} {B : Nat}, QL Q xs B → ∀ x ∈ xs, ∃ b, Q x b ∧ b ≤ B
  | x :: xs, B, ⟨b, c, h1, h2, h3⟩, y, hy => by
    rcases List.mem_cons.1 hy with rfl | hy
    · exact ⟨b, h1, by omega⟩
    · obtain ⟨b', h4, h5⟩ := QL.mem h2 y hy; exact ⟨b', h4, by omega⟩
theorem QL.len {α : Type} {Q : α → Nat → Prop} (hq : ∀ x b, Q x b → 1 ≤ b) : ∀ {xs : List α} {B : Nat}, QL Q xs B → xs.length < B
  | [], _, h => h
  | x :: xs, B, ⟨b, c, h1, h2, h3⟩ => by have := QL.len hq h2; have := hq _ _ h1; simp; omega
theorem QL.sum {α : Type} {Q : α → Nat → Prop} {f : α → Nat} (hq : ∀ x b, Q x b → f x ≤ b) : ∀ {xs : List α} {B : Nat}, QL Q xs B → (xs.map f).sum < B
  | [], _, h => h
  | x :: xs, B, ⟨b, c, h1, h2, h3⟩ => by have := QL.sum hq h2; have := hq _ _ h1; simp; omega

theorem reads_slice {α : Type} {n : Nat} {t e : TypeId} {sz : Nat} {ec : α → List PV} {pack : α → PV} {Q : α → Nat → Prop} (ht : P.underlying t = some (.slice e)) (hc : P.cellsOf e = sz) (hz : sz ≠ 0)
    (hpk : ∀ x, (pack x).cells = ec x ∧ (ec x).length = sz) (hE : Reads enc P w n e ec Q) : Reads enc P w (n + 1) t (fun xs : List α => [.imm (xs.map pack)]) (QL Q) := by
  intro fuel hf cs d ps h
  rcases DataW.trod_slice ht h with ⟨rfl, he⟩ | ⟨a, len, cap, elems, rest, m, rfl, rfl, he, hb, hl, hm, hlen, hel, hsp, hns⟩
  · cases he
    exact ⟨[], RC.one (.imm0 none 0) rfl, Nat.le_refl _⟩
  · cases he
    subst hc
    -- element by element
    have each : ∀ i y, elems[i]? = some y → ∃ x : α, ∃ cs', w.cells? 0 (a.add (i * P.cellsOf e)) (P.cellsOf e) = some cs' ∧ RC w (AllB w) (ec x) cs' ∧ Q x (bulk y.1) := by
      intro i y hy
      have hi : i < len := by have := (List.getElem?_eq_some_iff.1 hy).1; omega
      have := hel i hi
      rw [hy, Option.bind_eq_some_iff] at this
      obtain ⟨cs', h1, h2⟩ := this
      obtain ⟨x, h3, h4⟩ := hE m (by omega) cs' y.1 y.2 h2
      exact ⟨x, cs', h1, h3, h4⟩
    have all : ∃ xs : List α, xs.length = elems.length ∧ (∀ i x, xs[i]? = some x → ∃ cs', w.cells? 0 (a.add (i * P.cellsOf e)) (P.cellsOf e) = some cs' ∧ RC w (AllB w) (ec x) cs') ∧ QL Q xs (bulkAll (elems.map (·.1)) + 1) := by
      clear hel hsp hns h
      have gen : ∀ (l : List (DataW H × List MemPlace)) (k : Nat), (∀ i y, l[i]? = some y → ∃ x : α, ∃ cs', w.cells? 0 (a.add ((k + i) * P.cellsOf e)) (P.cellsOf e) = some cs' ∧ RC w (AllB w) (ec x) cs' ∧ Q x (bulk y.1)) →
          ∃ xs : List α, xs.length = l.length ∧ (∀ i x, xs[i]? = some x → ∃ cs', w.cells? 0 (a.add ((k + i) * P.cellsOf e)) (P.cellsOf e) = some cs' ∧ RC w (AllB w) (ec x) cs') ∧ QL Q xs (bulkAll (l.map (·.1)) + 1) := by
        intro l
        induction l with
        | nil => intro k _; exact ⟨[], rfl, fun i x hx => by simp at hx, by simp [QL, bulkAll]⟩
        | cons y l ih =>
          intro k hk
          obtain ⟨x, cs', g1, g2, g3⟩ := hk 0 y rfl
          obtain ⟨xs, f1, f2, f3⟩ := ih (k + 1) (fun i z hz => by
            have := hk (i + 1) z (by simpa using hz)
            rwa [show k + (i + 1) = k + 1 + i by omega] at this)
          refine ⟨x :: xs, by simp [f1], fun i z hz => ?_, ⟨_, _, g3, f3, by simp [bulkAll]; omega⟩⟩
          cases i with
          | zero => simp at hz; subst hz; exact ⟨cs', g1, g2⟩
          | succ i =>
            have := f2 i z (by simpa using hz)
            rwa [show k + 1 + i = k + (i + 1) by omega] at this
      have := gen elems 0 (fun i y hy => by rw [Nat.zero_add]; exact each i y hy)
      simpa using this
    obtain ⟨xs, hx1, hx2, hx3⟩ := all
    refine ⟨xs, RC.one ?_ rfl, hx3.mono (by simp only [bulk]; omega)⟩
    by_cases h0 : len = 0
    · have : xs = [] := List.length_eq_zero_iff.1 (by omega)
      subst this
      subst h0
      exact .imm0 (some a) cap
    · -- the address has no spot
      have hlt : 0 < xs.length := by omega
      have ha : a.spot = none := by
        obtain ⟨cs', g1, _, _⟩ := hx2 0 xs[0] (List.getElem?_eq_getElem hlt)
        obtain ⟨_, q1, q2⟩ := World.cells?_some g1
        have hc2 := q2 0 (by omega)
        have hv : cs'[0]? = some (cs'.getD 0 undef) := by
          rw [List.getD_eq_getElem?_getD, List.getElem?_eq_getElem (by omega)]; rfl
        rw [hv] at hc2
        have e1 : (a.add (0 * P.cellsOf e)).add 0 = a := by unfold Addr.add; simp
        rw [e1] at hc2
        exact cell_spot hc2
      obtain ⟨ab, ao, as⟩ := a
      dsimp only at ha
      subst ha
      have cellat : ∀ i x, xs[i]? = some x → ∀ c, c < P.cellsOf e → ∃ v, w.cell? ⟨ab, ao + i * P.cellsOf e + c, none⟩ = some v ∧ v.oneCell' = true ∧ (∀ d, (pack x).cells[c]? = some d → RD w (AllB w) d v) := by
        intro i x hx c hcz
        obtain ⟨cs', g1, g2, g3⟩ := hx2 i x hx
        obtain ⟨_, q1, q2⟩ := World.cells?_some g1
        have hc2 := q2 c (by omega)
        have hv : cs'[c]? = some (cs'.getD c undef) := by
          rw [List.getD_eq_getElem?_getD, List.getElem?_eq_getElem (by omega)]; rfl
        rw [hv, add_none, add_none] at hc2
        have hcd := (hpk x)
        have hlx : c < (ec x).length := by omega
        have g4 := g3 c _ (List.getElem?_eq_getElem hlx)
        refine ⟨_, hc2, g4.2, fun d hd => ?_⟩
        rw [hcd.1] at hd
        exact (g3 c d hd).1
      obtain ⟨v0, hv0, _, _⟩ := cellat 0 xs[0] (List.getElem?_eq_getElem hlt) 0 (by omega)
      have hA : ab < w.heap.size := by
        simp only [World.cell?] at hv0
        by_cases hb2 : ab < w.heap.size
        · exact hb2
        · rw [Array.getElem?_eq_none (by omega)] at hv0; simp at hv0
      have := RD.imm (w := w) (A := AllB w) (xs.map pack) (P.cellsOf e) ab ao cap
        (fun i c => (w.cell? ⟨ab, ao + i * P.cellsOf e + c, none⟩).getD undef) hA (by simp; omega)
        (fun d hd => by obtain ⟨x, _, rfl⟩ := List.mem_map.1 hd; rw [(hpk x).1, (hpk x).2])
        (fun i c hi hc => by
          rw [List.length_map] at hi
          obtain ⟨v, h1, h2, _⟩ := cellat i xs[i] (List.getElem?_eq_getElem hi) c hc
          rw [h1]; exact ⟨rfl, h2⟩)
        (fun i d hd c d' hd' => by
          rw [List.getElem?_map] at hd
          cases hx : xs[i]? with
          | none => rw [hx] at hd; cases hd
          | some x =>
            rw [hx] at hd
            cases hd
            have hcz : c < P.cellsOf e := by
              have := (List.getElem?_eq_some_iff.1 hd').1
              rw [(hpk x).1, (hpk x).2] at this; exact this
            obtain ⟨v, h1, h2, h3⟩ := cellat i x hx c hcz
            rw [h1]; exact h3 d' hd')
      rw [List.length_map, hx1, hlen] at this
      exact this

/-- The fields of a struct from a place on. -/
def ReadsF {α : Type} (enc : TypeId × Value → H) (P : Program) (w : World) (n : Nat) (tot : Nat) (fs : List Field) (o : Nat) (e : α → List PV) (Q : α → Nat → Prop) : Prop :=
  ∀ m, m ≤ n → ∀ (cs : List Value) (xs : List (DataW H × List MemPlace)), cs.length = tot → xs.length = fs.length →
    (∀ (i : Nat) (f : Field), fs[i]? = some f → DataW.trod enc P w 0 (fun _ => true) true m f.type ((cs.drop f.offset).take (P.cellsOf f.type)) = xs[i]?) →
    ∃ x : α, RC w (AllB w) (e x) (cs.drop o) ∧ Q x (bulkAll (xs.map (·.1)))
theorem readsF_nil {n tot o : Nat} (h : tot ≤ o) : ReadsF enc P w n tot [] o (fun _ : Unit => []) (fun _ _ => True) := by
  intro m _ cs xs hc _ _
  exact ⟨(), ⟨by rw [List.length_drop]; simp; omega, fun i d hd => by simp at hd⟩, trivial⟩
theorem readsF_cons {α β : Type} {n tot o k : Nat} {f : Field} {fs : List Field} {e1 : α → List PV} {e2 : β → List PV} {Q1 : α → Nat → Prop} {Q2 : β → Nat → Prop} (ho : f.offset = o) (hk : P.cellsOf f.type = k) (hle : o + k ≤ tot)
    (h1 : Reads enc P w n f.type e1 Q1) (h2 : ReadsF enc P w n tot fs (o + k) e2 Q2) :
    ReadsF enc P w n tot (f :: fs) o (fun x : α × β => e1 x.1 ++ e2 x.2) (fun x B => ∃ b c, Q1 x.1 b ∧ Q2 x.2 c ∧ b + c ≤ B) := by
  intro m hm cs xs hc hx hf
  match xs, hx with
  | y :: ys, hx =>
    have h0 := hf 0 f rfl
    rw [ho, hk] at h0
    obtain ⟨x, g1, g2⟩ := h1 m hm _ y.1 y.2 h0
    obtain ⟨z, g3, g4⟩ := h2 m hm cs ys hc (by simpa using hx) (fun i f' hf' => by simpa using hf (i + 1) f' (by simpa using hf'))
    exact ⟨(x, z), RC.step g1 rfl (by omega) g3, _, _, g2, g4, by simp [bulkAll]⟩
theorem reads_struct {α : Type} {n : Nat} {t : TypeId} {fs : List Field} {tot : Nat} {e : α → List PV} {Q : α → Nat → Prop} (ht : P.underlying t = some (.struct fs.toArray)) (hc : P.cellsOf t = tot)
    (h : ReadsF enc P w n tot fs 0 e Q) : Reads enc P w (n + 1) t e (fun x B => ∃ b, Q x b ∧ b + 1 ≤ B) := by
  intro fuel hf cs d ps hd
  obtain ⟨xs, m, rfl, he, hl, hn, hfs⟩ := DataW.trod_struct ht hd
  cases he
  obtain ⟨x, h1, h2⟩ := h m (by omega) cs xs (by omega) (by simpa using hn) (fun i f hi => hfs i f (by simpa using hi))
  exact ⟨x, by simpa using h1, _, h2, by simp [bulk]⟩
theorem Reads.to {α β : Type} {n : Nat} {t : TypeId} {e : α → List PV} {e' : β → List PV} {Q : α → Nat → Prop} {Q' : β → Nat → Prop} (f : α → β) (h : Reads enc P w n t e Q) (he : ∀ x, e x = e' (f x)) (hq : ∀ x B, Q x B → Q' (f x) B) : Reads enc P w n t e' Q' :=
  fun fuel hf cs d ps hd => let ⟨x, h1, h2⟩ := h fuel hf cs d ps hd; ⟨f x, he x ▸ h1, hq _ _ h2⟩
theorem Reads.le {α : Type} {n m : Nat} {t : TypeId} {e : α → List PV} {Q : α → Nat → Prop} (h : Reads enc P w n t e Q) (hm : m ≤ n) : Reads enc P w m t e Q := fun fuel hf => h fuel (Nat.le_trans hf hm)
end
end Go.PI
namespace Go.PI
set_option linter.unusedVariables false
set_option linter.unusedSimpArgs false
set_option linter.unnecessarySimpa false
open Go Go.RowKit Go.WideShapes Go.ChangeShapes Go.WideElems

section
variable {H : Type} {enc : TypeId × Value → H} {P : Program}

theorem trodAll_stays (hl : laidOutB P = true) {W W' : World} (hb : Below W.heap.size W W') {sp : Nat → Bool} : ∀ {ts : List TypeId} {vs : List Value} {ds : List (DataW H)} {ps : List MemPlace},
    ts.all (fun t => P.readableRec t && decide (t < P.types.size)) = true → DataW.TrodAll enc P W 0 (fun _ => true) true ts vs ds ps → (∀ p ∈ ps, sp p.block = true) → DataW.TrodAll enc P W' 0 sp true ts vs ds ps
  | [], [], [], _, _, h, _ => h
  | t :: ts, v :: vs, d :: ds, ps, hr, h, hs => by
    have hlt := h.lt
    obtain ⟨p, q, ⟨fuel, h1⟩, h2, e⟩ := h
    simp only [List.all_cons, Bool.and_eq_true, decide_eq_true_eq] at hr
    have hp : ∀ x ∈ p, x.block < W.heap.size := fun x hx => hlt x (by rw [e]; simp [hx])
    exact ⟨p, q, ⟨fuel, DataW.trod_stays (kids_book hl hr.1.1) (book_sized hr.1.1) (fun h => by cases h) ⟨hr.1.2, book_self t⟩ h1 (fun x hx => hb.same (hp x hx)) (fun x hx => hs x (by rw [e]; simp [hx]))⟩,
      trodAll_stays hl hb (by simpa using hr.2) h2 (fun x hx => hs x (by rw [e]; simp [hx])), e⟩
  | [], [], _ :: _, _, _, h, _ => h.elim
  | [], _ :: _, _, _, _, h, _ => h.elim
  | _ :: _, [], _, _, _, h, _ => h.elim
  | _ :: _, _ :: _, [], _, _, h, _ => h.elim

theorem val_bool {w : World} {r : Reach} {b0 : Nat} {t : TypeId} {v : Value} (ht : P.underlying t = some .bool) (h : Value.okWide P w r b0 t v) : v.cells = #[v] := by
  simp [Value.okWide, ht, Cell.okWide, Cell.ok] at h
  cases v <;> simp_all [Value.cells]
theorem val_int {w : World} {r : Reach} {b0 : Nat} {t : TypeId} {v : Value} {k : IntKind} (ht : P.underlying t = some (.int k)) (h : Value.okWide P w r b0 t v) : v.cells = #[v] := by
  simp [Value.okWide, ht, Cell.okWide, Cell.ok] at h
  cases v <;> simp_all [Value.cells]
theorem val_slice {w : World} {r : Reach} {b0 : Nat} {t : TypeId} {v : Value} {e : TypeId} (ht : P.underlying t = some (.slice e)) (h : Value.okWide P w r b0 t v) : v.cells = #[v] := by
  simp [Value.okWide, ht, Cell.okWide, Cell.ok] at h
  cases v <;> simp_all [Value.cells]
theorem val_struct {w : World} {r : Reach} {b0 : Nat} {t : TypeId} {v : Value} {fs : Array Field} (ht : P.underlying t = some (.struct fs)) (h : Value.okWide P w r b0 t v) : ∃ cs, v = .agg cs := by
  simp only [Value.okWide, ht] at h
  obtain ⟨cs, h, _⟩ := h
  exact ⟨cs, h⟩
theorem arg_struct {w : World} {r : Reach} {b0 : Nat} {ps : Array TypeId} {args : Array Value} (h : ∀ (j : Nat) t v, ps[j]? = some t → args[j]? = some v → Value.okWide P w r b0 t v) (j : Nat) {t : TypeId} {v : Value} {fs : Array Field} (h1 : ps[j]? = some t) (h2 : args[j]? = some v) (ht : P.underlying t = some (.struct fs)) : ∃ cs, v = .agg cs := val_struct ht (h j t v h1 h2)
theorem arg_slice {w : World} {r : Reach} {b0 : Nat} {ps : Array TypeId} {args : Array Value} (h : ∀ (j : Nat) t v, ps[j]? = some t → args[j]? = some v → Value.okWide P w r b0 t v) (j : Nat) {t : TypeId} {v : Value} {e : TypeId} (h1 : ps[j]? = some t) (h2 : args[j]? = some v) (ht : P.underlying t = some (.slice e)) : v.cells = #[v] := val_slice ht (h j t v h1 h2)
theorem arg_int {w : World} {r : Reach} {b0 : Nat} {ps : Array TypeId} {args : Array Value} (h : ∀ (j : Nat) t v, ps[j]? = some t → args[j]? = some v → Value.okWide P w r b0 t v) (j : Nat) {t : TypeId} {v : Value} {k : IntKind} (h1 : ps[j]? = some t) (h2 : args[j]? = some v) (ht : P.underlying t = some (.int k)) : v.cells = #[v] := val_int ht (h j t v h1 h2)
theorem arg_bool {w : World} {r : Reach} {b0 : Nat} {ps : Array TypeId} {args : Array Value} (h : ∀ (j : Nat) t v, ps[j]? = some t → args[j]? = some v → Value.okWide P w r b0 t v) (j : Nat) {t : TypeId} {v : Value} (h1 : ps[j]? = some t) (h2 : args[j]? = some v) (ht : P.underlying t = some .bool) : v.cells = #[v] := val_bool ht (h j t v h1 h2)
theorem rc_one {w : World} {A : Nat → Prop} {d : PV} {v : Value} (hc : v.cells = #[v]) (h : RC w A [d] v.cells.toList) : RD w A d v := by
  rw [hc] at h
  exact (h.2 0 d rfl).1
theorem rc_agg {w : World} {A : Nat → Prop} {ds : List PV} {v : Value} (hc : ∃ cs, v = .agg cs) (h : RC w A ds v.cells.toList) : RD w A (.agg ds) v := by
  obtain ⟨cs, rfl⟩ := hc
  simp only [Value.cells] at h
  have e : ∀ i, cs.toList.getD i undef = cs.getD i undef := fun i => by simp [Array.getD_eq_getD_getElem?, List.getD_eq_getElem?_getD]
  refine .agg ds cs (by simpa using h.1.symm) (fun i d hd => ?_) (fun i hi => ?_)
  · have := (h.2 i d hd).1; rwa [e] at this
  · have := (h.2 i ds[i] (List.getElem?_eq_getElem hi)).2; rwa [e] at this

/-- The row's last step, where below the heap's old size nothing has turned. -/
theorem post_below {f : Func} {s : ChangeSpec} {W W' : World} {args : Array Value} {v : Value} {ds gs : List (DataW H)} {before pa pv : List MemPlace}
    (hW : DataW.Whole enc P f.params.toList s.vars false W args.toList ds gs before)
    (hres : ∀ (b : Nat) (sp : Nat → Bool) (hd : Bool), DataW.TrodAll enc P W' b sp hd f.resultTypes.toList (v.resultList f.resultTypes.size) (s.fn H (ds ++ gs)).results [])
    (hargs : ∀ sp : Nat → Bool, (∀ p ∈ before, sp p.block = true) → DataW.TrodAll enc P W' 0 sp true f.params.toList args.toList (s.fn H (ds ++ gs)).args pa)
    (hvars : ∀ sp : Nat → Bool, (∀ p ∈ before, sp p.block = true) → DataW.TrodVars enc P W' sp s.vars (s.fn H (ds ++ gs)).vars pv)
    (hps : before = pa ++ pv) (hb : Below W.heap.size W W')
    (hok : ∀ (j : Nat) (t : TypeId) (r : Value), f.resultTypes[j]? = some t → (v.resultList f.resultTypes.size)[j]? = some r → Value.okWide P W' .any 0 t r) :
    s.post enc P f false true false false W args v W' := by
  have hold : ∀ p ∈ before, (fun b => decide (b < W.heap.size)) p.block = true := fun p hp => by simpa using hW.lt p hp
  refine ⟨ds, gs, before, [], pa, pv, hW, hres _ _ _, hargs _ hold, hvars _ hold, World.keptBut_mono (fun p hp => ⟨hp, ?_⟩) (hb.frame (· ∈ before)), fun h => by cases h⟩
  rw [hps, List.mem_append] at hp
  exact Or.inr hp

/-- A LAW, out of its contract on data. -/
theorem law_post {G : Gl} {f : FuncId} {fn : Func} {s : ChangeSpec} {tb : TypeId} (hl : laidOutB P = true) (hr : fn.params.toList.all (fun t => P.readableRec t && decide (t < P.types.size)) = true)
    (hrt : fn.resultTypes = #[tb]) (htb : P.underlying tb = some .bool) (hv : s.vars = [])
    {W : World} {args : Array Value} {ds gs : List (DataW H)} {before : List MemPlace} (hfn : ∀ gs : List (DataW H), gs = [] → s.fn H (ds ++ gs) = { results := [.lit (.bool true)], args := ds })
    (hW : DataW.Whole enc P fn.params.toList s.vars false W args.toList ds gs before) (hg : Gok G W (AllB W)) {pvs : List PV} (hd : RDs W (AllB W) pvs args.toList) (hF : FnC P G f pvs (.data (.bool true))) :
    Calls P f args W fun e W' => ∃ v, e = .returned v ∧ s.post enc P fn false true false false W args v W' := by
  have hc := hF.2 W (AllB W) args.toList (fun _ h => h) hg hd
  rw [Array.toArray_toList] at hc
  refine hc.mono fun e W' ⟨v, he, hb, hh⟩ => ⟨v, he, ?_⟩
  obtain rfl : v = .bool true := by cases (show RD _ _ (.bool true) v from hh); rfl
  have hW0 := hW
  obtain ⟨p, q, hA, hV, rfl, _, _⟩ := hW0
  rw [hv] at hV
  obtain ⟨rfl, rfl⟩ := trodVars_none hV
  have hfn := hfn [] rfl
  refine post_below (pa := p) (pv := []) hW (fun b sp hd => ?_) (fun sp hsp => ?_) (fun sp hsp => ?_) rfl hb (ok_one hrt rfl (okWide_bool_mk htb _))
  · rw [hfn, hrt]
    exact trodAll_cons_mk (shut_bool htb _) trodAll_mk0
  · rw [hfn]
    exact trodAll_stays hl hb hr hA (fun x hx => hsp x (by simp [hx]))
  · rw [hfn, hv]
    rfl
end
end Go.PI
