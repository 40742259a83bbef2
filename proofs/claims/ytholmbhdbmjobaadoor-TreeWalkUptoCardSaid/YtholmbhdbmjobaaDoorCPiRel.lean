/-
  PI: how its values and its heap stand to the model's: 'RD' (data in memory that nobody writes any more), 'RV' (any value), 'HR' (the heap of the call's own blocks). No program in sight.
-/
import Derived.Test.YtholmbhdbmjobaaDoorCPiCore
set_option linter.unusedVariables false
set_option linter.unusedSimpArgs false
namespace Go.PI
open Go.RowKit

/-- Data: read in the world 'w', out of blocks of the class 'A' alone. -/
inductive RD (w : World) (A : Nat → Prop) : PV → Value → Prop
  | int (k : IntKind) (n : Int) : RD w A (.int k n) (.int k n)
  | bool (b : Bool) : RD w A (.bool b) (.bool b)
  | str (s : ByteArray) : RD w A (.str s) (.string s)
  | agg (cs : List PV) (vs : Array Value) (hl : vs.size = cs.length) (h : ∀ i d, cs[i]? = some d → RD w A d (vs.getD i undef)) (h1 : ∀ i, i < cs.length → (vs.getD i undef).oneCell' = true) : RD w A (.agg cs) (.agg vs)
  | tup (cs : List PV) (vs : Array Value) (hl : vs.size = cs.length) (h : ∀ i d, cs[i]? = some d → RD w A d (vs.getD i undef)) : RD w A (.tup cs) (.tuple vs)
  | imm0 (a : Option Addr) (cap : Nat) : RD w A (.imm []) (.slice a 0 cap)
  | imm (es : List PV) (sz b off cap : Nat) (val : Nat → Nat → Value) (hA : A b) (hcap : es.length ≤ cap) (hsz : ∀ e ∈ es, e.cells.length = sz)
      (hc : ∀ i c, i < es.length → c < sz → w.cell? ⟨b, off + i * sz + c, none⟩ = some (val i c) ∧ (val i c).oneCell' = true)
      (h : ∀ i e, es[i]? = some e → ∀ c d, e.cells[c]? = some d → RD w A d (val i c)) : RD w A (.imm es) (.slice (some ⟨b, off, none⟩) es.length cap)

  | cptr (e : PV) (off b o : Nat) (val : Nat → Value) (hA : A b) (hc : ∀ c, c < e.cells.length → w.cell? ⟨b, o + c, none⟩ = some (val c) ∧ (val c).oneCell' = true) (h : ∀ c d, e.cells[c]? = some d → RD w A d (val c)) : RD w A (.cptr e off) (.pointer (some ⟨b, o + off, none⟩))
  | func (fn : Fn) (first captured : List PV) (fs cs : Array Value) (hl : fs.size = first.length) (hl' : cs.size = captured.length) (h : ∀ i d, first[i]? = some d → RD w A d (fs.getD i undef)) (h' : ∀ i d, captured[i]? = some d → RD w A d (cs.getD i undef)) : RD w A (.func fn first captured) (.func fn fs cs)
  | nilfunc : RD w A .nilfunc .nilFunc

abbrev Ka := Nat → Option (Nat × Nat × Nat)   -- a key's block in memory, its elements' size in cells, its capacity in elements

inductive RV (w : World) (A : Nat → Prop) (κ : Ka) : PV → Value → Prop
  | data (d : PV) (v : Value) (h : RD w A d v) : RV w A κ d v
  | agg (cs : List PV) (vs : Array Value) (hl : vs.size = cs.length) (h : ∀ i d, cs[i]? = some d → RV w A κ d (vs.getD i undef)) (h1 : ∀ i, i < cs.length → (vs.getD i undef).oneCell' = true) : RV w A κ (.agg cs) (.agg vs)
  | tup (cs : List PV) (vs : Array Value) (hl : vs.size = cs.length) (h : ∀ i d, cs[i]? = some d → RV w A κ d (vs.getD i undef)) : RV w A κ (.tup cs) (.tuple vs)
  | nilsl : RV w A κ .nilsl (.slice none 0 0)
  | own (r off len m sz cap : Nat) (a : Option Addr) (hk : κ r = some (m, sz, cap)) (hle : off + len ≤ cap) (ha : a = some ⟨m, off * sz, none⟩ ∨ cap = off) : RV w A κ (.own r off len) (.slice a len (cap - off))
  | ptr (r i off m sz cap : Nat) (hk : κ r = some (m, sz, cap)) : RV w A κ (.ptr r i off) (.pointer (some ⟨m, i * sz + off, none⟩))
  | func (fn : Fn) (first captured : List PV) (fs cs : Array Value) (hl : fs.size = first.length) (hl' : cs.size = captured.length) (h : ∀ i d, first[i]? = some d → RV w A κ d (fs.getD i undef)) (h' : ∀ i d, captured[i]? = some d → RV w A κ d (cs.getD i undef)) : RV w A κ (.func fn first captured) (.func fn fs cs)
  | anyb (b : Bool) : RV w A κ .anyb (.bool b)
  | any (v : Value) : RV w A κ .any v

theorem RD.mono {w w' : World} {A A' : Nat → Prop} (hA : ∀ b, A b → A' b) (hc : ∀ b o, A b → w'.cell? ⟨b, o, none⟩ = w.cell? ⟨b, o, none⟩) {d : PV} {v : Value} (h : RD w A d v) : RD w' A' d v := by
  induction h with
  | int k n => exact .int k n
  | bool b => exact .bool b
  | str s => exact .str s
  | agg cs vs hl _ h1 ih => exact .agg cs vs hl ih h1
  | tup cs vs hl _ ih => exact .tup cs vs hl ih
  | imm0 a cap => exact .imm0 a cap
  | imm es sz b off cap val hb hcap hsz hcell _ ih => exact .imm es sz b off cap val (hA b hb) hcap hsz (fun i c hi hc' => ⟨by rw [hc b _ hb]; exact (hcell i c hi hc').1, (hcell i c hi hc').2⟩) ih
  | cptr e off b o val hb h1 _ ih => exact .cptr e off b o val (hA b hb) (fun c hc' => ⟨by rw [hc b _ hb]; exact (h1 c hc').1, (h1 c hc').2⟩) ih
  | func fn f c fs cs hl hl' _ _ ih ih' => exact .func fn f c fs cs hl hl' ih ih'
  | nilfunc => exact .nilfunc

theorem RV.mono {w w' : World} {A A' : Nat → Prop} {κ κ' : Ka} (hA : ∀ b, A b → A' b) (hc : ∀ b o, A b → w'.cell? ⟨b, o, none⟩ = w.cell? ⟨b, o, none⟩) (hk : ∀ r x, κ r = some x → κ' r = some x)
    {d : PV} {v : Value} (h : RV w A κ d v) : RV w' A' κ' d v := by
  induction h with
  | data d v h => exact .data d v (h.mono hA hc)
  | agg cs vs hl _ h1 ih => exact .agg cs vs hl ih h1
  | tup cs vs hl _ ih => exact .tup cs vs hl ih
  | nilsl => exact .nilsl
  | own r off len m sz cap a h1 h2 h3 => exact .own r off len m sz cap a (hk _ _ h1) h2 h3
  | ptr r i off m sz cap h1 => exact .ptr r i off m sz cap (hk _ _ h1)
  | func fn f c fs cs hl hl' _ _ ih ih' => exact .func fn f c fs cs hl hl' ih ih'
  | anyb b => exact .anyb b
  | any v => exact .any v

section
variable {w : World} {A : Nat → Prop} {κ : Ka}

theorem RV.agg_of_data {cs : List PV} {v : Value} (h : RD w A (.agg cs) v) : ∃ vs, v = .agg vs ∧ vs.size = cs.length ∧ (∀ i d, cs[i]? = some d → RV w A κ d (vs.getD i undef)) ∧ ∀ i, i < cs.length → (vs.getD i undef).oneCell' = true := by
  cases h with
  | agg _ vs hl h h1 => exact ⟨vs, rfl, hl, fun i d hd => .data _ _ (h i d hd), h1⟩

theorem RV.agg_inv {cs : List PV} {v : Value} (h : RV w A κ (.agg cs) v) : ∃ vs, v = .agg vs ∧ vs.size = cs.length ∧ (∀ i d, cs[i]? = some d → RV w A κ d (vs.getD i undef)) ∧ ∀ i, i < cs.length → (vs.getD i undef).oneCell' = true := by
  cases h with
  | data _ _ h => exact RV.agg_of_data h
  | agg _ vs hl h h1 => exact ⟨vs, rfl, hl, h, h1⟩

theorem RV.tup_inv {cs : List PV} {v : Value} (h : RV w A κ (.tup cs) v) : ∃ vs, v = .tuple vs ∧ vs.size = cs.length ∧ ∀ i d, cs[i]? = some d → RV w A κ d (vs.getD i undef) := by
  cases h with
  | data _ _ h => cases h with | tup _ vs hl h => exact ⟨vs, rfl, hl, fun i d hd => .data _ _ (h i d hd)⟩
  | tup _ vs hl h => exact ⟨vs, rfl, hl, h⟩

theorem RV.int_inv {k : IntKind} {n : Int} {v : Value} (h : RV w A κ (.int k n) v) : v = .int k n := by
  cases h with | data _ _ h => cases h; rfl
theorem RV.bool_inv {b : Bool} {v : Value} (h : RV w A κ (.bool b) v) : v = .bool b := by
  cases h with | data _ _ h => cases h; rfl
theorem RV.str_inv {s : ByteArray} {v : Value} (h : RV w A κ (.str s) v) : v = .string s := by
  cases h with | data _ _ h => cases h; rfl
theorem RV.anyb_inv {v : Value} (h : RV w A κ .anyb v) : ∃ b, v = .bool b := by
  cases h with
  | data _ _ h => cases h
  | anyb b => exact ⟨b, rfl⟩
theorem RV.nilsl_inv {v : Value} (h : RV w A κ .nilsl v) : v = .slice none 0 0 := by
  cases h with
  | data _ _ h => cases h
  | nilsl => rfl
theorem RV.imm_inv {es : List PV} {v : Value} (h : RV w A κ (.imm es) v) : RD w A (.imm es) v := by
  cases h with | data _ _ h => exact h
theorem RV.own_inv {r off len : Nat} {v : Value} (h : RV w A κ (.own r off len) v) : ∃ m sz cap a, v = .slice a len (cap - off) ∧ κ r = some (m, sz, cap) ∧ off + len ≤ cap ∧ (a = some ⟨m, off * sz, none⟩ ∨ cap = off) := by
  cases h with
  | data _ _ h => cases h
  | own _ _ _ m sz cap a h1 h2 h3 => exact ⟨m, sz, cap, a, rfl, h1, h2, h3⟩
theorem RV.ptr_inv {r i off : Nat} {v : Value} (h : RV w A κ (.ptr r i off) v) : ∃ m sz cap, v = .pointer (some ⟨m, i * sz + off, none⟩) ∧ κ r = some (m, sz, cap) := by
  cases h with
  | data _ _ h => cases h
  | ptr _ _ _ m sz cap h1 => exact ⟨m, sz, cap, rfl, h1⟩
theorem RV.cptr_inv {e : PV} {off : Nat} {v : Value} (h : RV w A κ (.cptr e off) v) : ∃ b o, ∃ val : Nat → Value, v = .pointer (some ⟨b, o + off, none⟩) ∧ A b ∧ (∀ c, c < e.cells.length → w.cell? ⟨b, o + c, none⟩ = some (val c) ∧ (val c).oneCell' = true) ∧ ∀ c d, e.cells[c]? = some d → RD w A d (val c) := by
  cases h with
  | data _ _ h => cases h with | cptr _ _ b o val h1 h2 h3 => exact ⟨b, o, val, rfl, h1, h2, h3⟩
theorem RV.func_inv {fn : Fn} {f c : List PV} {v : Value} (h : RV w A κ (.func fn f c) v) : ∃ fs cs, v = .func fn fs cs ∧ fs.size = f.length ∧ cs.size = c.length ∧ (∀ i d, f[i]? = some d → RV w A κ d (fs.getD i undef)) ∧ ∀ i d, c[i]? = some d → RV w A κ d (cs.getD i undef) := by
  cases h with
  | data _ _ h => cases h with | func _ _ _ fs cs h1 h2 h3 h4 => exact ⟨fs, cs, rfl, h1, h2, fun i d hd => .data _ _ (h3 i d hd), fun i d hd => .data _ _ (h4 i d hd)⟩
  | func _ _ _ fs cs h1 h2 h3 h4 => exact ⟨fs, cs, rfl, h1, h2, h3, h4⟩
theorem RV.nilfunc_inv {v : Value} (h : RV w A κ .nilfunc v) : v = .nilFunc := by
  cases h with | data _ _ h => cases h; rfl
theorem RV.imm_len {es : List PV} {v : Value} (h : RV w A κ (.imm es) v) : ∃ a cap, v = .slice a es.length cap := by
  cases h.imm_inv with
  | imm0 a cap => exact ⟨a, cap, rfl⟩
  | imm _ sz b off cap => exact ⟨_, cap, rfl⟩

/-- A list of values, each as its place says. -/
def RVs (w : World) (A : Nat → Prop) (κ : Ka) (ds : List PV) (vs : List Value) : Prop := ds.length = vs.length ∧ ∀ i d, ds[i]? = some d → RV w A κ d (vs.getD i undef)

theorem RV.cells {d : PV} {v : Value} (h : RV w A κ d v) (hs : d.storable = true) : RVs w A κ d.cells v.cells.toList ∧ ∀ u ∈ v.cells.toList, u.oneCell' = true := by
  have one : ∀ (d : PV) (v : Value), d.cells = [d] → v.cells = #[v] → RV w A κ d v → v.oneCell' = true → RVs w A κ d.cells v.cells.toList ∧ ∀ u ∈ v.cells.toList, u.oneCell' = true := by
    intro d v e1 e2 h h1
    rw [e1, e2]
    refine ⟨⟨rfl, fun i x hx => ?_⟩, by simp [h1]⟩
    cases i with
    | zero => simp at hx; subst hx; exact h
    | succ i => simp at hx
  have ag : ∀ (cs : List PV) (vs : Array Value), vs.size = cs.length → (∀ i d, cs[i]? = some d → RV w A κ d (vs.getD i undef)) → (∀ i, i < cs.length → (vs.getD i undef).oneCell' = true) →
      RVs w A κ (PV.agg cs).cells (Value.agg vs).cells.toList ∧ ∀ u ∈ (Value.agg vs).cells.toList, u.oneCell' = true := by
    intro cs vs hl h h1
    refine ⟨⟨by simp [PV.cells, Value.cells, hl], fun i d hd => ?_⟩, fun u hu => ?_⟩
    · have := h i d hd
      simpa [Value.cells, Array.getD_eq_getD_getElem?, List.getD] using this
    · simp only [Value.cells] at hu
      obtain ⟨i, hi, rfl⟩ := List.getElem_of_mem hu
      have hi' : i < vs.size := by simpa using hi
      have := h1 i (by omega)
      simpa [Array.getD, hi'] using this
  cases h with
  | data _ _ h =>
    cases h with
    | int k n => exact one _ _ rfl rfl (.data _ _ (.int k n)) rfl
    | bool b => exact one _ _ rfl rfl (.data _ _ (.bool b)) rfl
    | str s => exact one _ _ rfl rfl (.data _ _ (.str s)) rfl
    | agg cs vs hl h h1 => exact ag cs vs hl (fun i d hd => .data _ _ (h i d hd)) h1
    | tup => simp [PV.storable] at hs
    | imm0 a cap => exact one _ _ rfl rfl (.data _ _ (.imm0 a cap)) rfl
    | imm es sz b off cap val h1 h2 h3 h4 h5 => exact one _ _ rfl rfl (.data _ _ (.imm es sz b off cap val h1 h2 h3 h4 h5)) rfl
    | cptr e off b o val h1 h2 h3 => exact one _ _ rfl rfl (.data _ _ (.cptr e off b o val h1 h2 h3)) rfl
    | func fn f c fs cs h1 h2 h3 h4 => exact one _ _ rfl rfl (.data _ _ (.func fn f c fs cs h1 h2 h3 h4)) rfl
    | nilfunc => exact one _ _ rfl rfl (.data _ _ .nilfunc) rfl
  | agg cs vs hl h h1 => exact ag cs vs hl h h1
  | tup => simp [PV.storable] at hs
  | nilsl => exact one _ _ rfl rfl .nilsl rfl
  | own r off len m sz cap a h1 h2 h3 => exact one _ _ rfl rfl (.own r off len m sz cap a h1 h2 h3) rfl
  | ptr r i off m sz cap h1 => exact one _ _ rfl rfl (.ptr r i off m sz cap h1) rfl
  | func fn f c fs cs h1 h2 h3 h4 => exact one _ _ rfl rfl (.func fn f c fs cs h1 h2 h3 h4) rfl
  | anyb => simp [PV.storable] at hs
  | any => simp [PV.storable] at hs
end

/-- What does not turn while a function runs. -/
structure Env where
  w0 : World
  w1 : World
  B : Nat
  A0 : Nat → Prop
  n0 : Nat
  κ0 : Ka
  S : Nat → Prop := fun _ => False   -- blocks of one who ranges over this call: kept as they are in 'ws'
  Wr : Nat → Prop := fun _ => False  -- those of them that a yield may write
  ws : World
  M : List Nat := []                 -- marks among the deferred calls,
  M0 : List Nat := []                -- those that were there at the beginning
  K : Nat → Prop := fun _ => False   -- blocks kept as they are in 'kw',
  Z : Nat → Prop := fun _ => False   -- those of them that nothing here stands on
  kw : World
  gh : Bool := false                 -- does the call yield?
  gi : Nat := 0                      -- how often it has


/-- The same surroundings, seen from another beginning. -/
def Env.re (E F : Env) : Env := { E with w1 := F.w1, A0 := F.A0, n0 := F.n0, κ0 := F.κ0, M0 := F.M0, K := F.K, Z := F.Z, kw := F.kw, B := F.B, gh := F.gh }

/-- An element's cells lie in 'c' from 'o' on. -/
def lies (w : World) (A : Nat → Prop) (κ : Ka) (c : Array Value) (o : Nat) (e : PV) : Prop :=
  ∀ j d, e.cells[j]? = some d → ∃ v, c[o + j]? = some v ∧ RV w A κ d v ∧ v.oneCell' = true

/-- A block that is no cells. -/
def noCells : Obj → Bool
  | .cells .. => false
  | _ => true

/-- What is kept for one who ranges over this call; marks. -/
structure Kp (E : Env) (w : World) (A : Nat → Prop) (κ : Ka) (h : Hp) (z : Fz) : Prop where
  base : Below 0 E.ws w
  keep : ∀ b, E.S b → b < w.heap.size ∧ w.heap[b]? = E.ws.heap[b]?
  wr : ∀ b, E.Wr b → E.S b ∧ ¬ A b
  own : ∀ r b m sz cap, h r = some b → κ r = some (m, sz, cap) → cap ≠ 0 → z r = false → ¬ E.S m ∧ ¬ E.K m
  mks : ∀ D, D ∈ E.M → E.B ≤ D ∧ (¬ E.S D ∧ ¬ A D) ∧ w.heap[D]? = some (.deferred (some []))
  nd : E.M.Nodup
  kb : Below 0 E.kw w
  kk : ∀ b, E.K b → b < w.heap.size ∧ w.heap[b]? = E.kw.heap[b]? ∧ ¬ E.Wr b
  zk : ∀ b, E.Z b → E.K b ∧ ¬ A b ∧ ¬ E.S b
  mk0 : ∀ D, D ∈ E.M → D ∈ E.M0 ∨ ¬ E.K D
  gk : E.gh = true → 0 < E.n0 ∧ κ 0 = none ∧ ∀ b, h 0 = some b → b = gblk E.gi

/-- The heap of the call's own blocks. -/
structure HR (E : Env) (G : Gl) (w : World) (A : Nat → Prop) (κ : Ka) (h : Hp) (z : Fz) : Prop where
  bel : Below E.B E.w0 w
  hB : E.B ≤ w.heap.size
  alt : ∀ b, A b → b < w.heap.size
  a0 : ∀ b, E.A0 b → A b
  a1 : ∀ b, A b → E.A0 b ∨ E.B ≤ b
  acell : ∀ b o, E.A0 b → w.cell? ⟨b, o, none⟩ = E.w1.cell? ⟨b, o, none⟩
  k0 : ∀ r, r < E.n0 → κ r = E.κ0 r
  glob : ∀ g e, G g = some e → RV w A κ (.cptr e 0) (.pointer (some ⟨g, 0, none⟩))
  klt : ∀ r m sz cap, κ r = some (m, sz, cap) → cap = 0 ∨ m < w.heap.size
  kp : Kp E w A κ h z
  blk : ∀ r b, h r = some b → κ r ≠ none → ∃ m cap, κ r = some (m, b.sz, cap) ∧ b.els.length ≤ cap ∧ (∀ e ∈ b.els, e.cells.length = b.sz ∧ e.isAgg = b.agg) ∧
    (cap = 0 ∨ ∃ c ty, E.B ≤ m ∧ w.heap[m]? = some (.cells c ty (0, 0)) ∧ c.size = cap * b.sz ∧ (∀ u ∈ c.toList, u.oneCell' = true) ∧ (∀ i e, b.els[i]? = some e → lies w A κ c (i * b.sz) e) ∧ (z r = false → ¬ A m) ∧ (z r = true → A m))
  excl : ∀ r r' b b' m m' s s' c c', r ≠ r' → h r = some b → h r' = some b' → κ r = some (m, s, c) → κ r' = some (m', s', c') → c ≠ 0 → c' ≠ 0 → m ≠ m'

theorem lies.mono {w w' : World} {A A' : Nat → Prop} {κ κ' : Ka} (hA : ∀ b, A b → A' b) (hc : ∀ b o, A b → w'.cell? ⟨b, o, none⟩ = w.cell? ⟨b, o, none⟩) (hk : ∀ r x, κ r = some x → κ' r = some x) {c : Array Value} {o : Nat} {e : PV}
    (h : lies w A κ c o e) : lies w' A' κ' c o e := fun j d hd => let ⟨v, h1, h2, h3⟩ := h j d hd; ⟨v, h1, h2.mono hA hc hk, h3⟩

end Go.PI
