/-
  PI: the rules by which a function is carried out: its beginning and end, loops, wraps.
-/
import Derived.Test.YtigeioodiljlaaaGreatCPB
namespace Go.PI
set_option linter.unusedVariables false
set_option linter.unusedSimpArgs false
set_option linter.unnecessarySimpa false

def elimR (r : Res) (F : PV → Hp → List Nat → List Nat → Prop) : Prop :=
  match r with
  | some (v, h, rd, wr) => F v h rd wr
  | none => False
def elimO {α : Type} (o : Option α) (F : α → Prop) : Prop :=
  match o with
  | some v => F v
  | none => False

theorem elimR_some {v : PV} {h : Hp} {rd wr : List Nat} {F : PV → Hp → List Nat → List Nat → Prop} : elimR (some (v, h, rd, wr)) F = F v h rd wr := rfl
theorem elimR_none {F : PV → Hp → List Nat → List Nat → Prop} : elimR none F = False := rfl
theorem elimR_need {c : Prop} [Decidable c] {x : Res} {F : PV → Hp → List Nat → List Nat → Prop} : elimR (need c x) F = (c ∧ elimR x F) := by
  unfold need
  split
  · rename_i h; simp [h]
  · rename_i h; simp [h, elimR]
theorem elimR_map {α : Type} {o : Option α} {f : α → PV × Hp × List Nat × List Nat} {F : PV → Hp → List Nat → List Nat → Prop} :
    elimR (o.map f) F = elimO o fun a => F (f a).1 (f a).2.1 (f a).2.2.1 (f a).2.2.2 := by cases o <;> rfl
theorem elimO_some {α : Type} {v : α} {F : α → Prop} : elimO (some v) F = F v := rfl
theorem elimO_none {α : Type} {F : α → Prop} : elimO none F = False := rfl
theorem elimO_map {α β : Type} {o : Option α} {f : α → β} {F : β → Prop} : elimO (o.map f) F = elimO o fun a => F (f a) := by cases o <;> rfl
theorem elimO_ite {α : Type} {c : Prop} [Decidable c] {o : Option α} {F : α → Prop} : elimO (if c then o else none) F = (c ∧ elimO o F) := by
  split
  · rename_i h; exact propext ⟨fun q => ⟨h, q⟩, fun q => q.2⟩
  · rename_i h; exact propext ⟨fun q => q.elim, fun q => h q.1⟩
theorem elimO_get {α : Type} {l : List α} {i : Nat} {F : α → Prop} : elimO l[i]? F = ∃ h : i < l.length, F l[i] := by
  by_cases h : i < l.length
  · simp [h, elimO]
  · simp [h, elimO]
theorem elimO_get_map {α : Type} [Inhabited α] {f : α → PV} {l : List α} {i : Nat} {F : PV → Prop} : elimO (l.map f)[i]? F = (i < l.length ∧ F (f l[i]!)) := by
  by_cases h : i < l.length
  · simp [h, elimO]
  · simp [h, elimO]

section
variable {P : Program} {G : Gl} {C : Contracts} {I : Inline} {D : Bool} {K : FP → St → Prop} {s : St} {d : Option Nat} {ty' : TypeId} {pos : String} {after : Array Edge} {g : Option (Nat × Bool)}

/-- On to what follows an operation. -/
def goOn (K : FP → St → Prop) (s : St) (d : Option Nat) : PV → Hp → List Nat → List Nat → Prop := fun v h rd wr => K ⟨rd, wr, []⟩ (put { s with h := h, nx := s.nx + 1 } d v)

theorem goOn_eq {v : PV} {h : Hp} {rd wr : List Nat} : goOn K s d v h rd wr = K ⟨rd, wr, []⟩ (put { s with h := h, nx := s.nx + 1 } d v) := rfl

def valR (v : PV) (h : Hp) : Res := some (v, h, [], [])
theorem valR_eq {v : PV} {h : Hp} : valR v h = some (v, h, [], []) := rfl
theorem opWp_move {x : Operand} : opWp P G C I D ⟨d, .move x, ty', pos, after, g⟩ K s = elimR (valR (ev G s.t x) s.h) (goOn K s d) := rfl
theorem opWp_assign {x : Operand} : opWp P G C I D ⟨d, .assign x, ty', pos, after, g⟩ K s = elimR (valR (ev G s.t x) s.h) (goOn K s d) := rfl

def pickR (c a b : PV) (h : Hp) : Res := match c with
  | .bool v => some (if v then a else b, h, [], [])
  | _ => none
theorem opWp_pick {c a b : Operand} : opWp P G C I D ⟨d, .pick c a b, ty', pos, after, g⟩ K s = elimR (pickR (ev G s.t c) (ev G s.t a) (ev G s.t b) s.h) (goOn K s d) := rfl
theorem pickR_bool {v : Bool} {a b : PV} {h : Hp} : pickR (.bool v) a b h = some (if v then a else b, h, [], []) := rfl
theorem pick_bool {v a b : Bool} : (if v then PV.bool a else PV.bool b) = PV.bool (if v then a else b) := by cases v <;> rfl

def allocR (i : TI) (key : Nat) (h : Hp) : Res := need (i.zok = true) (some (.ptr key 0 0, hset h key (some ⟨[i.zero], i.zero.cells.length, i.zero.isAgg⟩), [], [key]))
theorem opWp_alloc {e : TypeId} : opWp P G C I D ⟨d, .alloc e, ty', pos, after, g⟩ K s = elimR (allocR (tinfo P e) s.nx s.h) (goOn K s d) := rfl
def boxR (v : PV) (key : Nat) (h : Hp) : Res := need (v.storable = true) (some (.ptr key 0 0, hset h key (some ⟨[v], v.cells.length, v.isAgg⟩), [], [key]))
theorem opWp_box {e : TypeId} {x : Operand} : opWp P G C I D ⟨d, .box e x, ty', pos, after, g⟩ K s =
    elimR (boxR (ev G s.t x) s.nx s.h) (goOn K s d) := rfl

def buildR (i e : TI) (parts : List (Nat × PV)) (h : Hp) : Res :=
  match i.alen with
  | 0 => need (i.zok = true ∧ i.isStruct = true) (match fillF i.fields i.zero.cells parts with
    | some cs => some (.agg cs, h, [], [])
    | none => none)
  | n => need (i.zok = true ∧ e.size ≠ 0) (match fillF ((List.range n).map fun j => (j * e.size, i.elem, e.size)) i.zero.cells parts with
    | some cs => some (.agg cs, h, [], [])
    | none => none)
theorem opWp_build {ty : TypeId} {parts : List (Nat × Operand)} : opWp P G C I D ⟨d, .build ty parts.toArray, ty', pos, after, g⟩ K s =
    elimR (buildR (tinfo P ty) (tinfo P (tinfo P ty).elem) (parts.map fun (j, x) => (j, ev G s.t x)) s.h) (goOn K s d) := rfl
theorem elim_fill {o : Option (List PV)} {h : Hp} {F : PV → Hp → List Nat → List Nat → Prop} : elimR (match o with
    | some cs => some (.agg cs, h, [], [])
    | none => none) F = elimO o fun cs => F (.agg cs) h [] [] := by cases o <;> rfl
theorem elimR_build0 {i e : TI} {parts : List (Nat × PV)} {h : Hp} {F : PV → Hp → List Nat → List Nat → Prop} (ha : i.alen = 0) :
    elimR (buildR i e parts h) F = ((i.zok = true ∧ i.isStruct = true) ∧ elimO (fillF i.fields i.zero.cells parts) fun cs => F (.agg cs) h [] []) := by
  unfold buildR
  rw [ha]
  simp only [elimR_need, elim_fill]
theorem elimR_buildA {i e : TI} {parts : List (Nat × PV)} {h : Hp} {F : PV → Hp → List Nat → List Nat → Prop} {n : Nat} (ha : i.alen = n + 1) :
    elimR (buildR i e parts h) F = ((i.zok = true ∧ e.size ≠ 0) ∧ elimO (fillF ((List.range (n + 1)).map fun j => (j * e.size, i.elem, e.size)) i.zero.cells parts) fun cs => F (.agg cs) h [] []) := by
  unfold buildR
  rw [ha]
  simp only [elimR_need, elim_fill]

theorem fillF_nil {fs : List (Nat × Nat × Nat)} {cells : List PV} : fillF fs cells [] = some cells := rfl
theorem fillF_cons {fs : List (Nat × Nat × Nat)} {cells : List PV} {i : Nat} {v : PV} {rest : List (Nat × PV)} {F : List PV → Prop} : elimO (fillF fs cells ((i, v) :: rest)) F =
    elimO fs[i]? fun f => (v.storable = true ∧ v.cells.length = f.2.2 ∧ f.1 + f.2.2 ≤ cells.length) ∧ elimO (fillF fs (cells.take f.1 ++ v.cells ++ cells.drop (f.1 + f.2.2)) rest) F := by
  conv => lhs; unfold fillF
  cases fs[i]? with
  | none => rfl
  | some f =>
    obtain ⟨a, b, c⟩ := f
    dsimp only [elimO_some]
    rw [elimO_ite]

def buildSliceR (len : Nat) (e : TI) (sl : Bool) (parts : List (Nat × PV)) (key : Nat) (h : Hp) : Res :=
  need (len * e.size ≤ 2 ^ 24 ∧ e.zok = true ∧ sl = true ∧ e.zero.cells.length = e.size ∧ e.zero.isAgg = e.agg ∧ e.size ≠ 0) <|
    (match fillE e.size e.agg (List.replicate len e.zero) parts with
    | some els => some (.own key 0 len, hset h key (some ⟨els, e.size, e.agg⟩), [], [key])
    | none => none)
theorem opWp_buildSlice {ty : TypeId} {len : Nat} {parts : List (Nat × Operand)} : opWp P G C I D ⟨d, .buildSlice ty len parts.toArray, ty', pos, after, g⟩ K s =
    elimR (buildSliceR len (tinfo P (tinfo P ty).elem) (tinfo P ty).isSlice (parts.map fun (j, x) => (j, ev G s.t x)) s.nx s.h) (goOn K s d) := rfl
theorem elimR_buildSlice {len : Nat} {e : TI} {sl : Bool} {parts : List (Nat × PV)} {key : Nat} {h : Hp} {F : PV → Hp → List Nat → List Nat → Prop} : elimR (buildSliceR len e sl parts key h) F =
    ((len * e.size ≤ 2 ^ 24 ∧ e.zok = true ∧ sl = true ∧ e.zero.cells.length = e.size ∧ e.zero.isAgg = e.agg ∧ e.size ≠ 0) ∧
      elimO (fillE e.size e.agg (List.replicate len e.zero) parts) fun els => F (.own key 0 len) (hset h key (some ⟨els, e.size, e.agg⟩)) [] [key]) := by
  unfold buildSliceR
  rw [elimR_need]
  cases fillE e.size e.agg (List.replicate len e.zero) parts <;> rfl
theorem fillE_nil {sz : Nat} {agg : Bool} {els : List PV} : fillE sz agg els [] = some els := rfl
theorem fillE_cons {sz : Nat} {agg : Bool} {els : List PV} {i : Nat} {v : PV} {rest : List (Nat × PV)} {F : List PV → Prop} : elimO (fillE sz agg els ((i, v) :: rest)) F =
    ((v.storable = true ∧ v.cells.length = sz ∧ v.isAgg = agg ∧ i < els.length) ∧ elimO (fillE sz agg (els.set i v) rest) F) := by
  conv => lhs; unfold fillE
  exact elimO_ite

def loadR (size : Nat) (agg : Bool) (p : PV) (h : Hp) : Res := match p with
  | .ptr r j off => (match h r with
    | some b => (match b.els[j]? with
      | some e => (part e off size agg).map fun v => (v, h, [r], [])
      | none => none)
    | none => none)
  | .cptr e off => (part e off size agg).map fun v => (v, h, [], [])
  | _ => none
theorem opWp_load {ty : TypeId} {x : Operand} : opWp P G C I D ⟨d, .load ty x, ty', pos, after, g⟩ K s = elimR (loadR (tinfo P ty).size (tinfo P ty).agg (ev G s.t x) s.h) (goOn K s d) := rfl
theorem elimR_load_ptr {size : Nat} {agg : Bool} {r j off : Nat} {h : Hp} {F : PV → Hp → List Nat → List Nat → Prop} : elimR (loadR size agg (.ptr r j off) h) F = elimO (h r) fun b => elimO b.els[j]? fun e => elimO (part e off size agg) fun v => F v h [r] [] := by
  unfold loadR
  dsimp only
  cases h r with
  | none => rfl
  | some b =>
    dsimp only [elimO_some]
    cases b.els[j]? with
    | none => rfl
    | some e => exact elimR_map
theorem elimR_load_cptr {size : Nat} {agg : Bool} {e : PV} {off : Nat} {h : Hp} {F : PV → Hp → List Nat → List Nat → Prop} : elimR (loadR size agg (.cptr e off) h) F = elimO (part e off size agg) fun v => F v h [] [] := by
  unfold loadR; rw [elimR_map]

theorem part_int {k : IntKind} {n : Int} : part (.int k n) 0 1 false = some (.int k n) := rfl
theorem part_bool {b : Bool} : part (.bool b) 0 1 false = some (.bool b) := rfl
theorem part_imm {es : List PV} : part (.imm es) 0 1 false = some (.imm es) := rfl
theorem part_nilsl : part .nilsl 0 1 false = some .nilsl := rfl
theorem part_own {r off len : Nat} : part (.own r off len) 0 1 false = some (.own r off len) := rfl
theorem part_func {fn : Fn} {a b : List PV} : part (.func fn a b) 0 1 false = some (.func fn a b) := rfl
theorem part_ptr {r off len : Nat} : part (.ptr r off len) 0 1 false = some (.ptr r off len) := rfl
theorem part_cptr {e : PV} {off : Nat} : part (.cptr e off) 0 1 false = some (.cptr e off) := rfl
theorem part_agg1 {cs : List PV} {off : Nat} : part (.agg cs) off 1 false = cs[off]? := by
  unfold part
  by_cases h : off + 1 ≤ cs.length
  · simp [h, PV.isAgg]
  · have : cs[off]? = none := by simp; omega
    simp [h, PV.isAgg, this]
theorem part_agg {cs : List PV} {off n : Nat} : part (.agg cs) off n true = if off + n ≤ cs.length then some (.agg ((cs.drop off).take n)) else none := by
  unfold part
  simp only [PV.cells_agg, PV.isAgg_agg, and_true, if_true]
  by_cases h : off = 0 ∧ cs.length = n
  · obtain ⟨rfl, rfl⟩ := h
    simp
  · rw [if_neg h]

def storeR (size : Nat) (z : Fz) (p v : PV) (h : Hp) : Res := match p with
  | .ptr r j off => (match h r with
    | some b => (match b.els[j]? with
      | some e => need (z r = false ∧ v.storable = true ∧ v.cells.length = size ∧ size ≠ 0) <|
        (splice e off v).map fun e' => (.tup [], hset h r (some { b with els := b.els.set j e' }), [r], [r])
      | none => none)
    | none => none)
  | _ => none
theorem opWp_store {ty : TypeId} {x y : Operand} : opWp P G C I D ⟨d, .store ty x y, ty', pos, after, g⟩ K s = elimR (storeR (tinfo P ty).size s.z (ev G s.t x) (ev G s.t y) s.h) (goOn K s d) := rfl
theorem elimR_store {size : Nat} {z : Fz} {r j off : Nat} {v : PV} {h : Hp} {F : PV → Hp → List Nat → List Nat → Prop} : elimR (storeR size z (.ptr r j off) v h) F =
    elimO (h r) fun b => elimO b.els[j]? fun e => (z r = false ∧ v.storable = true ∧ v.cells.length = size ∧ size ≠ 0) ∧ elimO (splice e off v) fun e' => F (.tup []) (hset h r (some { b with els := b.els.set j e' })) [r] [r] := by
  unfold storeR
  dsimp only
  cases h r with
  | none => rfl
  | some b =>
    dsimp only [elimO_some]
    cases b.els[j]? with
    | none => rfl
    | some e =>
      dsimp only [elimO_some]
      rw [elimR_need, elimR_map]
theorem splice_agg {cs : List PV} {off : Nat} {v : PV} : splice (.agg cs) off v = if off = 0 ∧ cs.length = v.cells.length ∧ v.isAgg = true then some v else if off + v.cells.length ≤ cs.length then some (.agg (cs.take off ++ v.cells ++ cs.drop (off + v.cells.length))) else none := by
  unfold splice
  simp only [PV.cells_agg, PV.isAgg_agg, and_true]
  by_cases h : off = 0 ∧ cs.length = v.cells.length ∧ v.isAgg = true
  · rw [if_pos h, if_pos ⟨h.1, h.2.1, h.2.2.symm⟩]
  · rw [if_neg h, if_neg fun q => h ⟨q.1, q.2.1, q.2.2.symm⟩]
theorem splice_self {e v : PV} (h : e.cells.length = v.cells.length) (h' : e.isAgg = v.isAgg) : splice e 0 v = some v := by
  unfold splice
  rw [if_pos ⟨rfl, h, h'⟩]

def nilCheckR (p : PV) (h : Hp) : Res := match p with
  | .ptr r i off => some (.ptr r i off, h, [], [])
  | .cptr e off => some (.cptr e off, h, [], [])
  | _ => none
theorem opWp_nilCheck {x : Operand} : opWp P G C I D ⟨d, .nilCheck x, ty', pos, after, g⟩ K s = elimR (nilCheckR (ev G s.t x) s.h) (goOn K s d) := rfl
theorem nilCheck_ptr {r i off : Nat} {h : Hp} : nilCheckR (.ptr r i off) h = some (.ptr r i off, h, [], []) := rfl
theorem nilCheck_cptr {e : PV} {off : Nat} {h : Hp} : nilCheckR (.cptr e off) h = some (.cptr e off, h, [], []) := rfl

theorem opWp_binOp {op : BinOp} {xt yt : TypeId} {x y : Operand} : opWp P G C I D ⟨d, .binOp op xt x y yt, ty', pos, after, g⟩ K s =
    elimR (evalOp P G s.z s.nx (.binOp op xt x y yt) s.t s.h) (goOn K s d) := rfl

/-- Two operands. -/
def binR (i : TI) (op : BinOp) (a b : PV) (h : Hp) : Res := match a, b with
  | .int k a, .int k' b =>
    if k = k' then
      (match op with
      | .quo => need (b ≠ 0) (some (.int k (k.wrap (a.tdiv b)), h, [], []))
      | .rem => need (b ≠ 0) (some (.int k (a.tmod b), h, [], []))
      | .shl => need (0 ≤ b) (some (.int k (k.wrap (a * 2 ^ (min b.toNat k.bits))), h, [], []))
      | .shr => need (0 ≤ b) (some (.int k (a.fdiv (2 ^ (min b.toNat k.bits))), h, [], []))
      | _ => (arith op k a b).map fun v => (v, h, [], []))
    else (match op with
      | .shl => need (0 ≤ b) (some (.int k (k.wrap (a * 2 ^ (min b.toNat k.bits))), h, [], []))
      | .shr => need (0 ≤ b) (some (.int k (a.fdiv (2 ^ (min b.toNat k.bits))), h, [], []))
      | _ => none)
  | .bool a, .bool b => (match op with
    | .eql => need (i.isBool = true) (some (.bool (a == b), h, [], []))
    | .neq => need (i.isBool = true) (some (.bool (a != b), h, [], []))
    | _ => none)
  | .agg as, .agg bs => (match op with
    | .eql => need (i.eqInts = true ∧ as.length = i.fields.length ∧ bs.length = i.fields.length) ((eqCells as bs).map fun r => (.bool r, h, [], []))
    | .neq => need (i.eqInts = true ∧ as.length = i.fields.length ∧ bs.length = i.fields.length) ((eqCells as bs).map fun r => (.bool (!r), h, [], []))
    | _ => none)
  | v, .nilsl => (match op with
    | .eql => need (i.isSlice = true) ((isNil v).map fun r => (r, h, [], []))
    | .neq => need (i.isSlice = true) ((isNil v).map fun r => (notB r, h, [], []))
    | _ => none)
  | _, _ => none
theorem opWp_bin {op : BinOp} {xt yt : TypeId} {x y : Operand} : opWp P G C I D ⟨d, .binOp op xt x y yt, ty', pos, after, g⟩ K s = elimR (binR (tinfo P xt) op (ev G s.t x) (ev G s.t y) s.h) (goOn K s d) := rfl

section
variable {i : TI} {k : IntKind} {a b : Int} {h : Hp}
theorem bin_add : binR i .add (.int k a) (.int k b) h = some (.int k (k.wrap (a + b)), h, [], []) := by
  show (if k = k then _ else _) = _
  rw [if_pos rfl] <;> rfl
theorem bin_sub : binR i .sub (.int k a) (.int k b) h = some (.int k (k.wrap (a - b)), h, [], []) := by
  show (if k = k then _ else _) = _
  rw [if_pos rfl] <;> rfl
theorem bin_mul : binR i .mul (.int k a) (.int k b) h = some (.int k (k.wrap (a * b)), h, [], []) := by
  show (if k = k then _ else _) = _
  rw [if_pos rfl] <;> rfl
theorem bin_eql : binR i .eql (.int k a) (.int k b) h = some (.bool (decide (a = b)), h, [], []) := by
  show (if k = k then _ else _) = _
  rw [if_pos rfl] <;> rfl
theorem bin_neq : binR i .neq (.int k a) (.int k b) h = some (.bool (decide (a ≠ b)), h, [], []) := by
  show (if k = k then _ else _) = _
  rw [if_pos rfl]
  show some (PV.bool (a != b), h, [], []) = _
  congr 3
  by_cases e : a = b <;> simp [e]
theorem bin_lss : binR i .lss (.int k a) (.int k b) h = some (.bool (decide (a < b)), h, [], []) := by
  show (if k = k then _ else _) = _
  rw [if_pos rfl] <;> rfl
theorem bin_leq : binR i .leq (.int k a) (.int k b) h = some (.bool (decide (a ≤ b)), h, [], []) := by
  show (if k = k then _ else _) = _
  rw [if_pos rfl] <;> rfl
theorem bin_gtr : binR i .gtr (.int k a) (.int k b) h = some (.bool (decide (b < a)), h, [], []) := by
  show (if k = k then _ else _) = _
  rw [if_pos rfl] <;> rfl
theorem bin_geq : binR i .geq (.int k a) (.int k b) h = some (.bool (decide (b ≤ a)), h, [], []) := by
  show (if k = k then _ else _) = _
  rw [if_pos rfl] <;> rfl
theorem bin_quo : binR i .quo (.int k a) (.int k b) h = need (b ≠ 0) (some (.int k (k.wrap (a.tdiv b)), h, [], [])) := by
  show (if k = k then _ else _) = _
  rw [if_pos rfl] <;> rfl
theorem bin_rem : binR i .rem (.int k a) (.int k b) h = need (b ≠ 0) (some (.int k (a.tmod b), h, [], [])) := by
  show (if k = k then _ else _) = _
  rw [if_pos rfl] <;> rfl
theorem bin_shl {k' : IntKind} : binR i .shl (.int k a) (.int k' b) h = need (0 ≤ b) (some (.int k (k.wrap (a * 2 ^ (min b.toNat k.bits))), h, [], [])) := by
  show (if k = k' then _ else _) = _
  split <;> rfl
theorem bin_shr {k' : IntKind} : binR i .shr (.int k a) (.int k' b) h = need (0 ≤ b) (some (.int k (a.fdiv (2 ^ (min b.toNat k.bits))), h, [], [])) := by
  show (if k = k' then _ else _) = _
  split <;> rfl
theorem bin_and : binR i .and (.int k a) (.int k b) h = some (.int k (k.wrap (BitVec.ofInt k.bits a &&& BitVec.ofInt k.bits b).toNat), h, [], []) := by
  show (if k = k then _ else _) = _
  rw [if_pos rfl] <;> rfl
theorem bin_or : binR i .or (.int k a) (.int k b) h = some (.int k (k.wrap (BitVec.ofInt k.bits a ||| BitVec.ofInt k.bits b).toNat), h, [], []) := by
  show (if k = k then _ else _) = _
  rw [if_pos rfl] <;> rfl
theorem bin_eqb {a b : Bool} : binR i .eql (.bool a) (.bool b) h = need (i.isBool = true) (some (.bool (a == b), h, [], [])) := rfl
theorem bin_neb {a b : Bool} : binR i .neq (.bool a) (.bool b) h = need (i.isBool = true) (some (.bool (a != b), h, [], [])) := rfl
theorem bin_eqa {as bs : List PV} : binR i .eql (.agg as) (.agg bs) h = need (i.eqInts = true ∧ as.length = i.fields.length ∧ bs.length = i.fields.length) ((eqCells as bs).map fun r => (.bool r, h, [], [])) := rfl
theorem bin_nea {as bs : List PV} : binR i .neq (.agg as) (.agg bs) h = need (i.eqInts = true ∧ as.length = i.fields.length ∧ bs.length = i.fields.length) ((eqCells as bs).map fun r => (.bool (!r), h, [], [])) := rfl
theorem bin_eqnil {es : List PV} : binR i .eql (.imm es) .nilsl h = need (i.isSlice = true) ((isNil (.imm es)).map fun r => (r, h, [], [])) := rfl
theorem bin_nenil {es : List PV} : binR i .neq (.imm es) .nilsl h = need (i.isSlice = true) ((isNil (.imm es)).map fun r => (notB r, h, [], [])) := rfl
theorem bin_eqnilo {r off len : Nat} : binR i .eql (.own r off len) .nilsl h = need (i.isSlice = true) ((isNil (.own r off len)).map fun r => (r, h, [], [])) := rfl
theorem bin_eqniln : binR i .eql .nilsl .nilsl h = need (i.isSlice = true) ((isNil .nilsl).map fun r => (r, h, [], [])) := rfl
theorem eqCells_nil : eqCells [] [] = some true := rfl
theorem eqCells_cons {as bs : List PV} : eqCells (.int k a :: as) (.int k b :: bs) = (eqCells as bs).map fun r => (decide (a = b)) && r := by
  simp only [eqCells, if_true]; rfl
end

def unR (op : UnOp) (v : PV) (h : Hp) : Res := match op, v with
  | .not, .bool b => some (.bool (!b), h, [], [])
  | .neg, .int k n => some (.int k (k.wrap (0 - n)), h, [], [])
  | _, _ => none
theorem opWp_unOp {op : UnOp} {xt : TypeId} {x : Operand} : opWp P G C I D ⟨d, .unOp op xt x, ty', pos, after, g⟩ K s = elimR (unR op (ev G s.t x) s.h) (goOn K s d) := rfl
theorem un_not {b : Bool} {h : Hp} : unR .not (.bool b) h = some (.bool (!b), h, [], []) := rfl
theorem un_neg {k : IntKind} {n : Int} {h : Hp} : unR .neg (.int k n) h = some (.int k (k.wrap (0 - n)), h, [], []) := rfl

def convR (a b : Option IntKind) (v : PV) (h : Hp) : Res := match a, b, v with
  | some _, some k, .int _ n => some (.int k (k.wrap n), h, [], [])
  | _, _, _ => none
theorem opWp_convert {a b : TypeId} {x : Operand} : opWp P G C I D ⟨d, .convert a b x, ty', pos, after, g⟩ K s = elimR (convR (tinfo P a).kind (tinfo P b).kind (ev G s.t x) s.h) (goOn K s d) := rfl
theorem conv_int {k k' q : IntKind} {n : Int} {h : Hp} : convR (some k') (some k) (.int q n) h = some (.int k (k.wrap n), h, [], []) := rfl

theorem opWp_makeFunc {fn : Fn} {f c : List Operand} : opWp P G C I D ⟨d, .makeFunc fn f.toArray c.toArray, ty', pos, after, g⟩ K s = elimR (valR (.func fn (f.map (ev G s.t)) (c.map (ev G s.t))) s.h) (goOn K s d) := rfl

def makeSliceR (sl : Bool) (e : TI) (l c : PV) (key : Nat) (h : Hp) : Res := match l, c with
  | .int .i64 n, .int .i64 m => need (n = m ∧ 0 ≤ n ∧ n ≤ 2 ^ 32 ∧ e.bytes ≤ 4096 ∧ e.zok = true ∧ sl = true ∧ e.zero.cells.length = e.size ∧ e.zero.isAgg = e.agg ∧ e.size ≠ 0) (some (.own key 0 n.toNat, hset h key (some ⟨List.replicate n.toNat e.zero, e.size, e.agg⟩), [], [key]))
  | _, _ => none
theorem opWp_makeSlice {ty : TypeId} {l c : Operand} : opWp P G C I D ⟨d, .makeSlice ty l c, ty', pos, after, g⟩ K s = elimR (makeSliceR (tinfo P ty).isSlice (tinfo P (tinfo P ty).elem) (ev G s.t l) (ev G s.t c) s.nx s.h) (goOn K s d) := rfl
theorem make_int {sl : Bool} {e : TI} {n m : Int} {key : Nat} {h : Hp} : makeSliceR sl e (.int .i64 n) (.int .i64 m) key h =
    need (n = m ∧ 0 ≤ n ∧ n ≤ 2 ^ 32 ∧ e.bytes ≤ 4096 ∧ e.zok = true ∧ sl = true ∧ e.zero.cells.length = e.size ∧ e.zero.isAgg = e.agg ∧ e.size ≠ 0) (some (.own key 0 n.toNat, hset h key (some ⟨List.replicate n.toNat e.zero, e.size, e.agg⟩), [], [key])) := rfl

def bnd (dflt : Int) : Option PV → Option Int
  | none => some dflt
  | some (.int _ n) => some n
  | some _ => none
def sliceR (sl : Bool) (size : Nat) (x : PV) (lo hi : Option PV) (h : Hp) : Res := match x with
  | .imm es => (match bnd 0 lo, bnd es.length hi with
    | some a, some b => need (sl = true ∧ (∀ e ∈ es, e.cells.length = size) ∧ 0 ≤ a ∧ a ≤ b ∧ b ≤ es.length ∧ size ≠ 0) (some (.imm ((es.take b.toNat).drop a.toNat), h, [], []))
    | _, _ => none)
  | .own r off len => (match bnd 0 lo, bnd len hi with
    | some a, some b => (match h r with
      | some k => need (sl = true ∧ k.sz = size ∧ 0 ≤ a ∧ a ≤ b ∧ b ≤ len ∧ size ≠ 0) (some (.own r (off + a.toNat) (b.toNat - a.toNat), h, [r], []))
      | none => none)
    | _, _ => none)
  | _ => none
theorem opWp_slice {ty : TypeId} {x : Operand} {lo hi : Option Operand} : opWp P G C I D ⟨d, .slice ty x lo hi none, ty', pos, after, g⟩ K s =
    elimR (sliceR (tinfo P ty).isSlice (tinfo P (tinfo P ty).elem).size (ev G s.t x) (lo.map (ev G s.t)) (hi.map (ev G s.t)) s.h) (goOn K s d) := by
  have e : evalOp P G s.z s.nx (.slice ty x lo hi none) s.t s.h = sliceR (tinfo P ty).isSlice (tinfo P (tinfo P ty).elem).size (ev G s.t x) (lo.map (ev G s.t)) (hi.map (ev G s.t)) s.h := by
    unfold evalOp sliceR
    dsimp only
    generalize ev G s.t x = v
    cases v <;> try rfl
    all_goals
      cases lo with
      | none =>
        cases hi with
        | none => rfl
        | some o' =>
          simp only [Option.map_none, Option.map_some]
          generalize ev G s.t o' = b
          cases b <;> rfl
      | some o =>
        simp only [Option.map_some]
        generalize ev G s.t o = a
        cases hi with
        | none => cases a <;> rfl
        | some o' =>
          simp only [Option.map_some]
          generalize ev G s.t o' = b
          cases a <;> cases b <;> rfl
  show elimR (evalOp P G s.z s.nx (.slice ty x lo hi none) s.t s.h) (goOn K s d) = _
  rw [e]
theorem bnd_none {n : Int} : bnd n none = some n := rfl
theorem bnd_int {n m : Int} {k : IntKind} : bnd n (some (.int k m)) = some m := rfl
theorem elimR_slice_imm {sl : Bool} {size : Nat} {es : List PV} {lo hi : Option PV} {h : Hp} {F : PV → Hp → List Nat → List Nat → Prop} : elimR (sliceR sl size (.imm es) lo hi h) F =
    elimO (bnd 0 lo) fun a => elimO (bnd es.length hi) fun b => (sl = true ∧ (∀ e ∈ es, e.cells.length = size) ∧ 0 ≤ a ∧ a ≤ b ∧ b ≤ es.length ∧ size ≠ 0) ∧ F (.imm ((es.take b.toNat).drop a.toNat)) h [] [] := by
  unfold sliceR
  dsimp only
  cases bnd 0 lo <;> cases bnd es.length hi <;> simp only [elimR_none, elimO_none, elimO_some, elimR_need, elimR_some]
theorem elimR_slice_own {sl : Bool} {size : Nat} {r off len : Nat} {lo hi : Option PV} {h : Hp} {F : PV → Hp → List Nat → List Nat → Prop} : elimR (sliceR sl size (.own r off len) lo hi h) F =
    elimO (bnd 0 lo) fun a => elimO (bnd len hi) fun b => elimO (h r) fun k => (sl = true ∧ k.sz = size ∧ 0 ≤ a ∧ a ≤ b ∧ b ≤ len ∧ size ≠ 0) ∧ F (.own r (off + a.toNat) (b.toNat - a.toNat)) h [r] [] := by
  unfold sliceR
  dsimp only
  cases bnd 0 lo <;> cases bnd len hi <;> simp only [elimR_none, elimO_none, elimO_some]
  cases h r <;> simp only [elimR_none, elimO_none, elimO_some, elimR_need, elimR_some]

def fieldAddrR (f : Option (Nat × Nat × Nat)) (p : PV) (h : Hp) : Res := match f, p with
  | some (o, _, n), .ptr r j off => need (n ≠ 0) (some (.ptr r j (off + o), h, [], []))
  | some (o, _, n), .cptr e off => need (n ≠ 0) (some (.cptr e (off + o), h, [], []))
  | _, _ => none
theorem opWp_fieldAddr {ty : TypeId} {x : Operand} {f : Nat} : opWp P G C I D ⟨d, .fieldAddr ty x f, ty', pos, after, g⟩ K s = elimR (fieldAddrR (tinfo P ty).fields[f]? (ev G s.t x) s.h) (goOn K s d) := rfl
theorem fieldAddr_ptr {o t n r j off : Nat} {h : Hp} : fieldAddrR (some (o, t, n)) (.ptr r j off) h = need (n ≠ 0) (some (.ptr r j (off + o), h, [], [])) := rfl
theorem fieldAddr_cptr {o t n off : Nat} {e : PV} {h : Hp} : fieldAddrR (some (o, t, n)) (.cptr e off) h = need (n ≠ 0) (some (.cptr e (off + o), h, [], [])) := rfl

theorem opWp_field {ty : TypeId} {x : Operand} {f : Nat} : opWp P G C I D ⟨d, .field ty x f, ty', pos, after, g⟩ K s =
    elimR (match (tinfo P ty).fields[f]?, ev G s.t x with
    | some (o, ty, _), .agg cs => (part (.agg cs) o (tinfo P ty).size (tinfo P ty).agg).map fun v => (v, s.h, [], [])
    | _, _ => none) (goOn K s d) := rfl

def indexAddrR (i e : TI) (x ix : PV) (h : Hp) : Res := match x, ix with
  | .imm es, .int _ n => need (i.isSlice = true ∧ 0 ≤ n ∧ n < es.length) (match es[n.toNat]? with
    | some x => need (x.cells.length = e.size ∧ e.size ≠ 0) (some (.cptr x 0, h, [], []))
    | none => none)
  | .own r off len, .int _ n => need (i.isSlice = true ∧ 0 ≤ n ∧ n < len) (match h r with
    | some b => need (b.sz = e.size ∧ e.size ≠ 0) (some (.ptr r (off + n.toNat) 0, h, [r], []))
    | none => none)
  | .cptr x off, .int _ n => need (i.alen ≠ 0 ∧ 0 ≤ n ∧ n < i.alen ∧ e.size ≠ 0) (some (.cptr x (off + n.toNat * e.size), h, [], []))
  | .ptr r j off, .int _ n => need (i.alen ≠ 0 ∧ 0 ≤ n ∧ n < i.alen ∧ e.size ≠ 0) (some (.ptr r j (off + n.toNat * e.size), h, [], []))
  | _, _ => none
theorem opWp_indexAddr {ty : TypeId} {x ix : Operand} : opWp P G C I D ⟨d, .indexAddr ty x ix, ty', pos, after, g⟩ K s = elimR (indexAddrR (tinfo P ty) (tinfo P (tinfo P ty).elem) (ev G s.t x) (ev G s.t ix) s.h) (goOn K s d) := rfl
theorem elimR_ixm {α : Type} [Inhabited α] {f : α → PV} {l : List α} {i e : TI} {k : IntKind} {n : Int} {h : Hp} {F : PV → Hp → List Nat → List Nat → Prop} : elimR (indexAddrR i e (.imm (l.map f)) (.int k n) h) F =
    ((i.isSlice = true ∧ 0 ≤ n ∧ n < l.length) ∧ ((f l[n.toNat]!).cells.length = e.size ∧ e.size ≠ 0) ∧ F (.cptr (f l[n.toNat]!) 0) h [] []) := by
  simp only [indexAddrR, elimR_need, List.length_map]
  by_cases hc : i.isSlice = true ∧ 0 ≤ n ∧ n < (l.length : Int)
  · have : n.toNat < l.length := by omega
    simp [hc, this, elimR_need, elimR_some]
  · simp [hc]
theorem elimR_ixo {r off len : Nat} {i e : TI} {k : IntKind} {n : Int} {h : Hp} {F : PV → Hp → List Nat → List Nat → Prop} : elimR (indexAddrR i e (.own r off len) (.int k n) h) F =
    ((i.isSlice = true ∧ 0 ≤ n ∧ n < len) ∧ elimO (h r) fun b => (b.sz = e.size ∧ e.size ≠ 0) ∧ F (.ptr r (off + n.toNat) 0) h [r] []) := by
  simp only [indexAddrR, elimR_need]
  cases h r <;> simp only [elimR_none, elimO_none, elimO_some, elimR_need, elimR_some]
theorem elimR_ixn {i e : TI} {k : IntKind} {n : Int} {h : Hp} {F : PV → Hp → List Nat → List Nat → Prop} : elimR (indexAddrR i e (.imm []) (.int k n) h) F = False := by
  simp only [indexAddrR, elimR_need, List.length_nil]
  have : ¬ (i.isSlice = true ∧ 0 ≤ n ∧ n < ((0 : Nat) : Int)) := by omega
  simp only [this, false_and]
theorem ix_cptr {i e : TI} {x : PV} {off : Nat} {k : IntKind} {n : Int} {h : Hp} : indexAddrR i e (.cptr x off) (.int k n) h = need (i.alen ≠ 0 ∧ 0 ≤ n ∧ n < i.alen ∧ e.size ≠ 0) (some (.cptr x (off + n.toNat * e.size), h, [], [])) := rfl
theorem ix_ptr {i e : TI} {r j off : Nat} {k : IntKind} {n : Int} {h : Hp} : indexAddrR i e (.ptr r j off) (.int k n) h = need (i.alen ≠ 0 ∧ 0 ≤ n ∧ n < i.alen ∧ e.size ≠ 0) (some (.ptr r j (off + n.toNat * e.size), h, [], [])) := rfl

def extractR (v : PV) (i : Nat) (h : Hp) : Res := match v with
  | .tup vs => (vs[i]?).map fun v => (v, h, [], [])
  | _ => none
theorem opWp_extract {x : Operand} {i : Nat} : opWp P G C I D ⟨d, .extract x i, ty', pos, after, g⟩ K s = elimR (extractR (ev G s.t x) i s.h) (goOn K s d) := rfl
theorem extract_tup {vs : List PV} {i : Nat} {h : Hp} : extractR (.tup vs) i h = (vs[i]?).map fun v => (v, h, [], []) := rfl

def lenR (sl : Bool) (v : PV) (h : Hp) : Res := need (sl = true) (match v with
  | .imm es => some (.int .i64 es.length, h, [], [])
  | .own _ _ len => some (.int .i64 len, h, [], [])
  | .nilsl => some (.int .i64 0, h, [], [])
  | _ => none)
theorem opWp_len {x : Operand} {ty : TypeId} : opWp P G C I D ⟨d, .call ⟨.builtin .len, #[x], #[ty]⟩, ty', pos, after, g⟩ K s = elimR (lenR (tinfo P ty).isSlice (ev G s.t x) s.h) (goOn K s d) := rfl
theorem len_imm {sl : Bool} {es : List PV} {h : Hp} : lenR sl (.imm es) h = need (sl = true) (some (.int .i64 es.length, h, [], [])) := rfl
theorem len_own {sl : Bool} {r off len : Nat} {h : Hp} : lenR sl (.own r off len) h = need (sl = true) (some (.int .i64 len, h, [], [])) := rfl
theorem len_nil {sl : Bool} {h : Hp} : lenR sl .nilsl h = need (sl = true) (some (.int .i64 0, h, [], [])) := rfl

def maxR (a b : PV) (h : Hp) : Res := match a, b with
  | .int k a, .int _ b => some (.int k (if b > a then b else a), h, [], [])
  | _, _ => none
theorem opWp_max {x y : Operand} {ts : Array TypeId} : opWp P G C I D ⟨d, .call ⟨.builtin .max, #[x, y], ts⟩, ty', pos, after, g⟩ K s = elimR (maxR (ev G s.t x) (ev G s.t y) s.h) (goOn K s d) := rfl
theorem max_int {k k' : IntKind} {a b : Int} {h : Hp} : maxR (.int k a) (.int k' b) h = some (.int k (if b > a then b else a), h, [], []) := rfl
def minR (a b : PV) (h : Hp) : Res := match a, b with
  | .int k a, .int _ b => some (.int k (if b < a then b else a), h, [], [])
  | _, _ => none
theorem opWp_min {x y : Operand} {ts : Array TypeId} : opWp P G C I D ⟨d, .call ⟨.builtin .min, #[x, y], ts⟩, ty', pos, after, g⟩ K s = elimR (minR (ev G s.t x) (ev G s.t y) s.h) (goOn K s d) := rfl
theorem min_int {k k' : IntKind} {a b : Int} {h : Hp} : minR (.int k a) (.int k' b) h = some (.int k (if b < a then b else a), h, [], []) := rfl

def appendR (sl sl2 : Bool) (e : TI) (z : Fz) (x : PV) (src : Option (List PV × List Nat)) (key : Nat) (h : Hp) : Res := match src with
  | some (es, ks) => need ((∀ e' ∈ es, e'.cells.length = e.size ∧ e'.isAgg = e.agg) ∧ e.bytes ≤ 4096 ∧ e.zok = true ∧ sl = true ∧ sl2 = true ∧ e.zero.cells.length = e.size ∧ e.size ≠ 0) (match x with
    | .nilsl => need (es.length ≤ 2 ^ 32) (some (.own key 0 es.length, hset h key (some ⟨es, e.size, e.agg⟩), ks, [key]))
    | .own r off len => (match h r with
      | some b => need (off = 0 ∧ len = b.els.length ∧ b.sz = e.size ∧ b.agg = e.agg ∧ z r = false ∧ ks.contains r = false ∧ len + es.length ≤ 2 ^ 32)
          (some (.own key 0 (len + es.length), hset (hset h r none) key (some ⟨b.els ++ es, e.size, e.agg⟩), r :: ks, [r, key]))
      | none => none)
    | _ => none)
  | none => none
theorem opWp_append {x y : Operand} {ty ty2 : TypeId} : opWp P G C I D ⟨d, .call ⟨.builtin .append, #[x, y], #[ty, ty2]⟩, ty', pos, after, g⟩ K s =
    elimR (appendR (tinfo P ty).isSlice (tinfo P ty2).isSlice (tinfo P (tinfo P ty).elem) s.z (ev G s.t x) (srcOf s.h (ev G s.t y)) s.nx s.h) (goOn K s d) := rfl
theorem src_imm {h : Hp} {es : List PV} : srcOf h (.imm es) = some (es, []) := rfl
theorem src_nil {h : Hp} : srcOf h .nilsl = some ([], []) := rfl
theorem src_own {h : Hp} {r off len : Nat} {F : List PV × List Nat → Prop} : elimO (srcOf h (.own r off len)) F = elimO (h r) fun b => off + len ≤ b.els.length ∧ F ((b.els.drop off).take len, [r]) := by
  unfold srcOf
  dsimp only
  cases h r with
  | none => rfl
  | some b =>
    dsimp only [elimO_some]
    rw [elimO_ite]
    rfl
theorem elimR_append {sl sl2 : Bool} {e : TI} {z : Fz} {x : PV} {src : Option (List PV × List Nat)} {key : Nat} {h : Hp} {F : PV → Hp → List Nat → List Nat → Prop} : elimR (appendR sl sl2 e z x src key h) F =
    elimO src fun q => ((∀ e' ∈ q.1, e'.cells.length = e.size ∧ e'.isAgg = e.agg) ∧ e.bytes ≤ 4096 ∧ e.zok = true ∧ sl = true ∧ sl2 = true ∧ e.zero.cells.length = e.size ∧ e.size ≠ 0) ∧
      elimR (match x with
    | .nilsl => need (q.1.length ≤ 2 ^ 32) (some (.own key 0 q.1.length, hset h key (some ⟨q.1, e.size, e.agg⟩), q.2, [key]))
    | .own r off len => (match h r with
      | some b => need (off = 0 ∧ len = b.els.length ∧ b.sz = e.size ∧ b.agg = e.agg ∧ z r = false ∧ q.2.contains r = false ∧ len + q.1.length ≤ 2 ^ 32)
          (some (.own key 0 (len + q.1.length), hset (hset h r none) key (some ⟨b.els ++ q.1, e.size, e.agg⟩), r :: q.2, [r, key]))
      | none => none)
    | _ => none) F := by
  unfold appendR
  cases src with
  | none => rfl
  | some q => simp only [elimR_need, elimO_some]
end
end Go.PI
namespace Go.PI
set_option linter.unusedVariables false
set_option linter.unusedSimpArgs false
set_option linter.unnecessarySimpa false

section
variable {P : Program} {G : Gl} {C : Contracts} {I : Inline} {Le : LeT} {D : Bool} {s : St}

/-- Is a guard's operation carried out? -/
def guarded (v : PV) (want : Bool) (run pass : Prop) : Prop := match v with
  | .bool b => (b = want → run) ∧ (b = (!want) → pass)
  | .tup [] => pass
  | _ => False
theorem guarded_t {b : Bool} {run pass : Prop} : guarded (.bool b) true run pass = ((b = true → run) ∧ (b = false → pass)) := rfl
theorem guarded_f {b : Bool} {run pass : Prop} : guarded (.bool b) false run pass = ((b = false → run) ∧ (b = true → pass)) := rfl
theorem guarded_u {w : Bool} {run pass : Prop} : guarded (.tup []) w run pass = pass := rfl

/-- A region that is carried out in its text's order. -/
def wpF (P : Program) (G : Gl) (C : Contracts) (I : Inline) (ds : List (Option Nat)) : List Oper → (St → Prop) → St → Prop
  | [], K, s => K s
  | o :: rest, K, s =>
    match o.guard with
    | none => opWp P G C I false o (fun _ s' => wpF P G C I ds rest K s') s
    | some (j, want) => match (ds[j]?).bind id with
      | some d => guarded (s.t d) want (opWp P G C I false o (fun _ s' => wpF P G C I ds rest K s') s) (wpF P G C I ds rest K (put { s with nx := s.nx + 1 } o.dst (.tup [])))
      | none => False

theorem opWp_congr {o : Oper} {K K' : FP → St → Prop} (h : ∀ fp s, K fp s = K' fp s) : opWp P G C I D o K s = opWp P G C I D o K' s := by
  have : K = K' := funext fun fp => funext fun s => h fp s
  rw [this]

theorem get_dst {ops : List Oper} {j : Nat} : (ops[j]?).bind (·.dst) = ((ops.map (·.dst))[j]?).bind id := by
  rw [List.getElem?_map]
  cases ops[j]? <;> rfl

theorem wpOps_f {ops : List Oper} {K : St → Prop} : ∀ (l : List Oper) (i : Nat) (acc : List (Nat × FP)) (s : St), wpOps P G C I false ops i acc l K s = wpF P G C I (ops.map (·.dst)) l K s
  | [], _, _, _ => rfl
  | o :: rest, i, acc, s => by
    have e : opWp P G C I false o (fun fp s' => ((false : Bool) = true → clearOf o fp acc = true) ∧ wpOps P G C I false ops (i + 1) ((i, fp) :: acc) rest K s') s = opWp P G C I false o (fun _ s' => wpF P G C I (ops.map (·.dst)) rest K s') s :=
      opWp_congr fun fp s' => by rw [wpOps_f rest]; simp
    unfold wpOps wpF
    dsimp only
    cases o.guard with
    | none => exact e
    | some jw =>
      obtain ⟨j, want⟩ := jw
      dsimp only
      rw [get_dst, e, wpOps_f rest]
      cases ((ops.map (·.dst))[j]?).bind id with
      | none => rfl
      | some d =>
        dsimp only [guarded]
        cases s.t d with
        | tup vs => cases vs <;> rfl
        | _ => rfl

def FP.none : FP → Bool
  | ⟨[], [], []⟩ => true
  | _ => false
def addFp (i : Nat) (fp : FP) (acc : List (Nat × FP)) : List (Nat × FP) := if fp.none then acc else (i, fp) :: acc
theorem addFp_nil {i : Nat} {acc : List (Nat × FP)} : addFp i ⟨[], [], []⟩ acc = acc := rfl
theorem addFp_rd {i k : Nat} {ks ws fs : List Nat} {acc : List (Nat × FP)} : addFp i ⟨k :: ks, ws, fs⟩ acc = (i, ⟨k :: ks, ws, fs⟩) :: acc := rfl
theorem addFp_wr {i k : Nat} {ws fs : List Nat} {acc : List (Nat × FP)} : addFp i ⟨[], k :: ws, fs⟩ acc = (i, ⟨[], k :: ws, fs⟩) :: acc := rfl

/-- A region that draws its order. -/
def wpT (P : Program) (G : Gl) (C : Contracts) (I : Inline) (ds : List (Option Nat)) : Nat → List (Nat × FP) → List Oper → (St → Prop) → St → Prop
  | _, _, [], K, s => K s
  | i, acc, o :: rest, K, s =>
    match o.guard with
    | none => opWp P G C I true o (fun fp s' => clearOf o fp acc = true ∧ wpT P G C I ds (i + 1) (addFp i fp acc) rest K s') s
    | some (j, want) => match (ds[j]?).bind id with
      | some d => guarded (s.t d) want (opWp P G C I true o (fun fp s' => clearOf o fp acc = true ∧ wpT P G C I ds (i + 1) (addFp i fp acc) rest K s') s) (wpT P G C I ds (i + 1) acc rest K (put { s with nx := s.nx + 1 } o.dst (.tup [])))
      | none => False

theorem apart_none {f fp : FP} (h : f.none = true) : FP.apart f fp = true := by
  obtain ⟨a, b, c⟩ := f
  cases a <;> cases b <;> cases c <;> simp [FP.none] at h
  simp [FP.apart]
theorem clearOf_cons' {o : Oper} {fp f : FP} {k : Nat} {acc : List (Nat × FP)} : clearOf o fp ((k, f) :: acc) = ((o.after.any (fun e => e.on == k && Region.binds .any e) || FP.apart f fp) && clearOf o fp acc) := rfl

theorem wpOps_t {ops : List Oper} {K : St → Prop} : ∀ (l : List Oper) (i : Nat) (acc acc' : List (Nat × FP)) (s : St), (∀ o fp, clearOf o fp acc = clearOf o fp acc') → wpOps P G C I true ops i acc l K s = wpT P G C I (ops.map (·.dst)) i acc' l K s
  | [], _, _, _, _, _ => rfl
  | o :: rest, i, acc, acc', s, ha => by
    have ha' : ∀ fp (o : Oper) (fp' : FP), clearOf o fp' ((i, fp) :: acc) = clearOf o fp' (addFp i fp acc') := fun fp o fp' => by
      unfold addFp
      split
      · rename_i h; rw [clearOf_cons', apart_none h, Bool.or_true, Bool.true_and, ha]
      · rw [clearOf_cons', clearOf_cons', ha]
    have e : opWp P G C I true o (fun fp s' => ((true : Bool) = true → clearOf o fp acc = true) ∧ wpOps P G C I true ops (i + 1) ((i, fp) :: acc) rest K s') s = opWp P G C I true o (fun fp s' => clearOf o fp acc' = true ∧ wpT P G C I (ops.map (·.dst)) (i + 1) (addFp i fp acc') rest K s') s :=
      opWp_congr fun fp s' => by rw [wpOps_t rest (i + 1) _ _ s' (ha' fp), ha]; simp
    unfold wpOps wpT
    dsimp only
    cases o.guard with
    | none => exact e
    | some jw =>
      obtain ⟨j, want⟩ := jw
      dsimp only
      rw [get_dst, e, wpOps_t rest (i + 1) acc acc' _ ha]
      cases ((ops.map (·.dst))[j]?).bind id with
      | none => rfl
      | some d =>
        dsimp only [guarded]
        cases s.t d with
        | tup vs => cases vs <;> rfl
        | _ => rfl

theorem wpe_regF {id : Nat} {ops : List Oper} {Q : Exit → St → Prop} : wp P G C I Le (.region id ops.toArray false) Q s = wpF P G C I (ops.map (·.dst)) ops (Q .normal) s := wpOps_f _ _ _ _
theorem wpe_regT {id : Nat} {ops : List Oper} {Q : Exit → St → Prop} : wp P G C I Le (.region id ops.toArray true) Q s = wpT P G C I (ops.map (·.dst)) 0 [] ops (Q .normal) s := wpOps_t _ _ _ _ _ fun _ _ => rfl

section
variable {ds : List (Option Nat)} {d : Option Nat} {op : Op} {ty : TypeId} {pos : String} {after : Array Edge} {rest : List Oper} {K : St → Prop} {i j : Nat} {acc : List (Nat × FP)} {want : Bool}
theorem wpF_nil : wpF P G C I ds [] K s = K s := rfl
theorem wpF_op : wpF P G C I ds (⟨d, op, ty, pos, after, none⟩ :: rest) K s = opWp P G C I false ⟨d, op, ty, pos, after, none⟩ (fun _ s' => wpF P G C I ds rest K s') s := rfl
theorem wpF_guard : wpF P G C I ds (⟨d, op, ty, pos, after, some (j, want)⟩ :: rest) K s = elimO ((ds[j]?).bind id) fun e =>
    guarded (s.t e) want (opWp P G C I false ⟨d, op, ty, pos, after, some (j, want)⟩ (fun _ s' => wpF P G C I ds rest K s') s) (wpF P G C I ds rest K (put { s with nx := s.nx + 1 } d (.tup []))) := by
  conv => lhs; unfold wpF
  dsimp only
  cases (ds[j]?).bind id <;> rfl
theorem wpT_nil : wpT P G C I ds i acc [] K s = K s := by unfold wpT; rfl
theorem wpT_op : wpT P G C I ds i acc (⟨d, op, ty, pos, after, none⟩ :: rest) K s = opWp P G C I true ⟨d, op, ty, pos, after, none⟩ (fun fp s' => clearOf ⟨d, op, ty, pos, after, none⟩ fp acc = true ∧ wpT P G C I ds (i + 1) (addFp i fp acc) rest K s') s := by
  conv => lhs; unfold wpT
theorem wpT_guard : wpT P G C I ds i acc (⟨d, op, ty, pos, after, some (j, want)⟩ :: rest) K s = elimO ((ds[j]?).bind id) fun e =>
    guarded (s.t e) want (opWp P G C I true ⟨d, op, ty, pos, after, some (j, want)⟩ (fun fp s' => clearOf ⟨d, op, ty, pos, after, some (j, want)⟩ fp acc = true ∧ wpT P G C I ds (i + 1) (addFp i fp acc) rest K s') s) (wpT P G C I ds (i + 1) acc rest K (put { s with nx := s.nx + 1 } d (.tup []))) := by
  conv => lhs; unfold wpT
  dsimp only
  cases (ds[j]?).bind id <;> rfl
theorem clear_nil {o : Oper} {fp : FP} : clearOf o fp [] = true := rfl
theorem clear_none {o : Oper} {acc : List (Nat × FP)} : clearOf o ⟨[], [], []⟩ acc = true := by
  unfold clearOf
  rw [List.all_eq_true]
  intro x _
  simp [FP.apart]
theorem clear_cons {fp f : FP} {k : Nat} {acc : List (Nat × FP)} {after : List Edge} {g : Option (Nat × Bool)} : clearOf ⟨d, op, ty, pos, after.toArray, g⟩ fp ((k, f) :: acc) = ((after.any (fun e => e.on == k && Region.binds .any e) || FP.apart f fp) && clearOf ⟨d, op, ty, pos, after.toArray, g⟩ fp acc) := by
  rw [clearOf_cons']
  simp
theorem apart_rr {a b : List Nat} {c d : List Nat} : FP.apart ⟨a, [], c⟩ ⟨b, [], d⟩ = true := rfl
end

def fnWp (C : Contracts) (I : Inline) (D : Bool) (g : PV) (args : List PV) (d : Option Nat) (K : FP → St → Prop) (s : St) : Prop := match g with
  | .func (.func f) first captured => callWp C I D f (first ++ args ++ captured) d K s
  | .func (.yield l) [] [] => yieldWp C l args d K s
  | _ => False
theorem opWp_call' {d : Option Nat} {g : Operand} {args : List Operand} {ts : Array TypeId} {ty : TypeId} {pos : String} {after : Array Edge} {gu : Option (Nat × Bool)} {K : FP → St → Prop} :
    opWp P G C I D ⟨d, .call ⟨.value g, args.toArray, ts⟩, ty, pos, after, gu⟩ K s = fnWp C I D (ev G s.t g) (args.map (ev G s.t)) d K s := rfl
theorem fnWp_func {f : FuncId} {first captured args : List PV} {d : Option Nat} {K : FP → St → Prop} : fnWp C I D (.func (.func f) first captured) args d K s = callWp C I D f (first ++ args ++ captured) d K s := rfl

theorem put_some {d : Nat} {v : PV} : put s (some d) v = { s with t := tset s.t d v } := rfl
theorem put_none {v : PV} : put s none v = s := rfl
theorem fset_nil {z : Fz} : fset z [] = z := by funext r; simp [fset]

theorem call_data {f : FuncId} {args ds : List PV} {ks : List Nat} {v : PV} {d : Option Nat} {K : FP → St → Prop} (hC : C f ds (.data v)) (hf : mapF (frz s.h 6) args = some (ds, ks)) (hk : K ⟨ks, [], ks⟩ (put { s with z := fset s.z ks, nx := s.nx + 1 } d v)) :
    callWp C I D f args d K s := Or.inl ⟨6, ds, ks, .data v, hf, hC, trivial, hk⟩
theorem call_data0 {f : FuncId} {args ds : List PV} {v : PV} {d : Option Nat} {K : FP → St → Prop} (hC : C f ds (.data v)) (hf : mapF (frz s.h 6) args = some (ds, [])) (hk : K ⟨[], [], []⟩ (put { s with nx := s.nx + 1 } d v)) :
    callWp C I D f args d K s := call_data hC hf (by rw [fset_nil]; exact hk)
theorem call_fresh {f : FuncId} {args ds : List PV} {ks : List Nat} {els : List PV} {sz : Nat} {agg : Bool} {d : Option Nat} {K : FP → St → Prop} (hC : C f ds (.fresh els sz agg)) (hf : mapF (frz s.h 6) args = some (ds, ks))
    (hk : K ⟨ks, [s.nx], ks⟩ (put { s with h := hset s.h s.nx (some ⟨els, sz, agg⟩), z := fset s.z ks, nx := s.nx + 1 } d (.own s.nx 0 els.length))) :
    callWp C I D f args d K s := Or.inl ⟨6, ds, ks, .fresh els sz agg, hf, hC, trivial, hk⟩
theorem call_fresh0 {f : FuncId} {args ds : List PV} {els : List PV} {sz : Nat} {agg : Bool} {d : Option Nat} {K : FP → St → Prop} (hC : C f ds (.fresh els sz agg)) (hf : mapF (frz s.h 6) args = some (ds, []))
    (hk : K ⟨[], [s.nx], []⟩ (put { s with h := hset s.h s.nx (some ⟨els, sz, agg⟩), nx := s.nx + 1 } d (.own s.nx 0 els.length))) :
    callWp C I D f args d K s := call_fresh hC hf (by rw [fset_nil]; exact hk)
theorem call_inl {f : FuncId} {args : List PV} {d : Option Nat} {K : FP → St → Prop} (h : I f args (fun v s' => K ⟨[], [], []⟩ (put { s' with t := s.t } d v)) s) : callWp C I false f args d K s := Or.inr (Or.inl ⟨rfl, h⟩)

theorem frz_map {α : Type} {h : Hp} {n : Nat} {f : α → PV} (he : ∀ x, frz h n (f x) = some (f x, [])) : ∀ l : List α, mapF (frz h n) (l.map f) = some (l.map f, [])
  | [] => rfl
  | x :: l => by
    simp only [List.map_cons, mapF, he, frz_map he l, List.append_nil]
theorem frz_map' {α : Type} {h : Hp} {n : Nat} {f g : α → PV} (he : ∀ x, frz h n (f x) = some (g x, [])) : ∀ l : List α, mapF (frz h n) (l.map f) = some (l.map g, [])
  | [] => rfl
  | x :: l => by
    simp only [List.map_cons, mapF, he, frz_map' he l, List.append_nil]

theorem cond_bool {b : Bool} {x y : Prop} : (match PV.bool b with
    | .bool t => (t = true → x) ∧ (t = false → y)
    | .anyb => x ∧ y
    | _ => False) = ((b = true → x) ∧ (b = false → y)) := rfl
/-- Both ways of a test. -/
def condP (v : PV) (x y : Prop) : Prop := match v with
  | .bool t => (t = true → x) ∧ (t = false → y)
  | .anyb => x ∧ y
  | _ => False
theorem wpe_condP {c : Operand} {a b : Code} {Q : Exit → St → Prop} : wp P G C I Le (.cond c a b) Q s = condP (ev G s.t c) (wp P G C I Le a Q s) (wp P G C I Le b Q s) := rfl
theorem condP_bool {b : Bool} {x y : Prop} : condP (.bool b) x y = ((b = true → x) ∧ (b = false → y)) := rfl
theorem condP_anyb {x y : Prop} : condP .anyb x y = (x ∧ y) := rfl

theorem ev_tmp {i : Nat} {t : Tm} : ev G t (.tmp i) = t i := rfl
theorem ev_const {v : Value} {t : Tm} : ev G t (.const v) = ofConst v := rfl
theorem ev_func {f : FuncId} {t : Tm} : ev G t (.func f) = .func (.func f) [] [] := rfl
theorem ofConst_int {k : IntKind} {n : Int} : ofConst (.int k n) = .int k n := rfl
theorem ofConst_bool {b : Bool} : ofConst (.bool b) = .bool b := rfl
theorem ofConst_nil : ofConst (.slice none 0 0) = .nilsl := rfl
theorem ofConst_nilf : ofConst .nilFunc = .nilfunc := rfl
theorem ofConst_agg {cs : Array Value} : ofConst (.agg cs) = .any := rfl
theorem tset_eq {t : Tm} {d i : Nat} {v : PV} : tset t d v i = if i = d then v else t i := rfl
theorem hset_eq {h : Hp} {d i : Nat} {v : Option Blk} : hset h d v i = if i = d then v else h i := rfl
theorem sl_cons {j i : Nat} {v : PV} {l : List (Nat × PV)} : sl ((j, v) :: l) i = if i = j then v else sl l i := rfl
theorem sl_nil {i : Nat} : sl [] i = .any := rfl
theorem hl_cons {j i : Nat} {v : Blk} {l : List (Nat × Blk)} : hl ((j, v) :: l) i = if i = j then some v else hl l i := rfl
theorem hl_nil {i : Nat} : hl [] i = none := rfl
theorem argTm_eq {l : List PV} {i : Nat} : argTm l i = l.getD i (.tup []) := rfl

theorem atEnd_ret {rs : List ResultVar} {K : PV → St → Prop} : atEnd P rs K .ret s = elimO (resOf P rs s) fun v => K v s := by
  cases h : resOf P rs s with
  | none => exact propext (Iff.intro (fun ⟨v, e, _⟩ => by rw [h] at e; cases e) (fun h => False.elim h))
  | some v => exact propext (Iff.intro (fun ⟨v', e, hk⟩ => by rw [h] at e; cases e; exact hk) (fun hk => ⟨v, h, hk⟩))
theorem atEnd_normal {rs : List ResultVar} {K : PV → St → Prop} : atEnd P rs K .normal s = elimO (resOf P rs s) fun v => K v s := atEnd_ret
theorem res1 {i : Nat} : resOf P [.tmp i] s = some (s.t i) := rfl
theorem res2 {i j : Nat} : resOf P [.tmp i, .tmp j] s = some (.tup [s.t i, s.t j]) := rfl
theorem res3 {i j k : Nat} : resOf P [.tmp i, .tmp j, .tmp k] s = some (.tup [s.t i, s.t j, s.t k]) := rfl
/-- A variable in a box, read. -/
def cellR (size : Nat) (agg : Bool) (p : PV) (h : Hp) : Option PV := match p with
  | .ptr r j off => (match h r with
    | some b => (match b.els[j]? with
      | some e => part e off size agg
      | none => none)
    | none => none)
  | _ => none
theorem resVar_cell {x : Nat} {ty : TypeId} : resVar P s (.cell x ty) = cellR (tinfo P ty).size (tinfo P ty).agg (s.t x) s.h := rfl
theorem resVar_tmp {x : Nat} : resVar P s (.tmp x) = some (s.t x) := rfl
theorem elimO_cell {size : Nat} {agg : Bool} {h : Hp} {F : PV → Prop} {r j off : Nat} : elimO (cellR size agg (.ptr r j off) h) F = elimO (h r) fun b => elimO b.els[j]? fun e => elimO (part e off size agg) F := by
  unfold cellR
  dsimp only
  cases h r with
  | none => rfl
  | some b =>
    dsimp only [elimO_some]
    cases b.els[j]? <;> rfl
theorem elimO_resVars {r : ResultVar} {rs : List ResultVar} {F : List PV → Prop} : elimO (resVars P s (r :: rs)) F = elimO (resVar P s r) fun v => elimO (resVars P s rs) fun vs => F (v :: vs) := by
  conv => lhs; unfold resVars
  cases resVar P s r with
  | none => rfl
  | some v => cases resVars P s rs <;> rfl
theorem resVars_nil : resVars P s [] = some [] := rfl
theorem elimO_res1 {r : ResultVar} {F : PV → Prop} : elimO (resOf P [r] s) F = elimO (resVar P s r) F := by
  unfold resOf resVars resVars
  cases resVar P s r <;> rfl
theorem elimO_res2 {r r' : ResultVar} {rs : List ResultVar} {F : PV → Prop} : elimO (resOf P (r :: r' :: rs) s) F = elimO (resVars P s (r :: r' :: rs)) fun vs => F (.tup vs) := by
  unfold resOf
  cases h : resVars P s (r :: r' :: rs) with
  | none => rfl
  | some vs =>
    cases vs with
    | nil => rfl
    | cons v vs =>
      cases vs with
      | nil =>
        exfalso
        unfold resVars at h
        split at h
        · rename_i h2
          cases h
          unfold resVars at h2
          split at h2
          · cases h2
          · cases h2
        · cases h
      | cons _ _ => rfl

/-- What is asked of a result. -/
def gives (h : Hp) (v d : PV) : Prop := ∃ ks, frz h 4 v = some (d, ks)
theorem gives_of {h : Hp} {v d : PV} {ks : List Nat} (e : frz h 4 v = some (d, ks)) : gives h v d := ⟨ks, e⟩
theorem gives_int {h : Hp} {k : IntKind} {n : Int} {d : PV} : gives h (.int k n) d = (PV.int k n = d) := propext ⟨fun ⟨ks, e⟩ => by cases e; rfl, fun e => ⟨[], by subst e; rfl⟩⟩
theorem gives_bool {h : Hp} {b : Bool} {d : PV} : gives h (.bool b) d = (PV.bool b = d) := propext ⟨fun ⟨ks, e⟩ => by cases e; rfl, fun e => ⟨[], by subst e; rfl⟩⟩
theorem gives_imm {h : Hp} {es : List PV} {d : PV} : gives h (.imm es) d = (PV.imm es = d) := propext ⟨fun ⟨ks, e⟩ => by cases e; rfl, fun e => ⟨[], by subst e; rfl⟩⟩
theorem gives_nil {h : Hp} {d : PV} : gives h .nilsl d = (PV.imm [] = d) := propext ⟨fun ⟨ks, e⟩ => by cases e; rfl, fun e => ⟨[], by subst e; rfl⟩⟩

theorem goOn_some {K : FP → St → Prop} {t : Tm} {h h0 : Hp} {z : Fz} {nx d : Nat} {v : PV} {rd wr : List Nat} : goOn K ⟨t, h0, z, nx⟩ (some d) v h rd wr = K ⟨rd, wr, []⟩ ⟨tset t d v, h, z, nx + 1⟩ := rfl
theorem goOn_none {K : FP → St → Prop} {t : Tm} {h h0 : Hp} {z : Fz} {nx : Nat} {v : PV} {rd wr : List Nat} : goOn K ⟨t, h0, z, nx⟩ none v h rd wr = K ⟨rd, wr, []⟩ ⟨t, h, z, nx + 1⟩ := rfl

/-! Where 'simp' looks in first. -/
@[congr] theorem goOn_congr {K : FP → St → Prop} {s s' : St} {d : Option Nat} {v v' : PV} {h h' : Hp} {rd rd' wr wr' : List Nat} (e1 : ∀ _ : Unit, s = s') (e2 : ∀ _ : Unit, v = v') (e3 : ∀ _ : Unit, h = h') (e4 : ∀ _ : Unit, rd = rd') (e5 : ∀ _ : Unit, wr = wr') : goOn K s d v h rd wr = goOn K s' d v' h' rd' wr' := by rw [e1 (), e2 (), e3 (), e4 (), e5 ()]
@[congr] theorem elimR_congr {r r' : Res} {F : PV → Hp → List Nat → List Nat → Prop} (e : ∀ _ : Unit, r = r') : elimR r F = elimR r' F := by rw [e ()]
@[congr] theorem elimO_congr {α : Type} {o o' : Option α} {F : α → Prop} (e : ∀ _ : Unit, o = o') : elimO o F = elimO o' F := by rw [e ()]
@[congr] theorem guarded_congr {v v' : PV} {w : Bool} {a b : Prop} (e : ∀ _ : Unit, v = v') : guarded v w a b = guarded v' w a b := by rw [e ()]
@[congr] theorem condP_congr {v v' : PV} {a b : Prop} (e : ∀ _ : Unit, v = v') : condP v a b = condP v' a b := by rw [e ()]
@[congr] theorem fnWp_congr {g g' : PV} {args args' : List PV} {d : Option Nat} {K : FP → St → Prop} {s s' : St} (e1 : ∀ _ : Unit, g = g') (e2 : ∀ _ : Unit, args = args') (e3 : ∀ _ : Unit, s = s') : fnWp C I D g args d K s = fnWp C I D g' args' d K s' := by rw [e1 (), e2 (), e3 ()]
@[congr] theorem callWp_congr {f : FuncId} {args args' : List PV} {d : Option Nat} {K : FP → St → Prop} {s s' : St} (e2 : ∀ _ : Unit, args = args') (e3 : ∀ _ : Unit, s = s') : callWp C I D f args d K s = callWp C I D f args' d K s' := by rw [e2 (), e3 ()]
@[congr] theorem wpLoop_congr {c : Code} {Q : Exit → St → Prop} {s s' : St} (e : ∀ _ : Unit, s = s') : wpLoop P G C I Le c Q s = wpLoop P G C I Le c Q s' := by rw [e ()]
end
end Go.PI
namespace Go.PI
set_option linter.unusedVariables false
set_option linter.unusedSimpArgs false
set_option linter.unnecessarySimpa false

section
variable {P : Program} {G : Gl} {n0 : Nat}

theorem fnC_of (hm : P.follows .mixedOrders = true) {f : FuncId} {fn : Func} {c : Code} {rs : List ResultVar} {nt : Nat} (ok : FnOk P f fn c rs nt) {ds : List PV} (hl : ds.length ≤ nt) {d : PV}
    (h : wp P G (FnC P G) (FnH P G) (LeS G, 0) c (atEnd P rs fun v s => gives s.h v d) (start ds)) : FnC P G f ds (.data d) := FnC_of_wp hm ok hl h

/-- A row of the function's own, handed back. -/
def givesOwn (els : List PV) (sz : Nat) (agg : Bool) (v : PV) (s : St) : Prop :=
  (v = .nilsl ∧ els = []) ∨ ∃ r b ks, v = .own r 0 els.length ∧ s.h r = some b ∧ b.sz = sz ∧ b.agg = agg ∧ b.els.length = els.length ∧ s.z r = false ∧ mapF (frz s.h 4) b.els = some (els, ks) ∧ ks.contains r = false
theorem fnC_own (hm : P.follows .mixedOrders = true) {f : FuncId} {fn : Func} {c : Code} {rs : List ResultVar} {nt : Nat} (ok : FnOk P f fn c rs nt) {ds : List PV} (hl : ds.length ≤ nt) {els : List PV} {sz : Nat} {agg : Bool}
    (h : wp P G (FnC P G) (FnH P G) (LeS G, 0) c (atEnd P rs (givesOwn els sz agg)) (start ds)) : FnC P G f ds (.fresh els sz agg) := FnC_of_wp_fresh hm ok hl h
theorem givesOwn_of {els : List PV} {sz : Nat} {agg : Bool} {r len : Nat} {s : St} (hl : len = els.length) (hb : s.h r = some ⟨els, sz, agg⟩) (hz : s.z r = false) (hf : mapF (frz s.h 4) els = some (els, [])) : givesOwn els sz agg (.own r 0 len) s := by
  subst hl
  exact Or.inr ⟨r, _, [], rfl, hb, rfl, rfl, rfl, hz, hf, rfl⟩

/-- Slots, each as listed. -/
def okS (ρ : Nat → Nat) (k : Nat) : List (Nat × PV) → Tm → Prop
  | [], _ => True
  | (j, v) :: l, t => rn ρ k 3 v (t j) ∧ okS ρ k l t
/-- Blocks, each as listed. -/
def okH (ρ : Nat → Nat) (k : Nat) (Z : List Nat) : List (Nat × Blk) → Hp → Fz → Prop
  | [], _, _ => True
  | (r, b) :: l, h, z => (r < k ∧ (∀ e ∈ b.els, e ≠ .any) ∧ (elimO (h (ρ r)) fun b' => rnB ρ k b b') ∧ Z.contains r = z (ρ r)) ∧ okH ρ k Z l h z
theorem okS_nil {ρ : Nat → Nat} {k : Nat} {t : Tm} : okS ρ k [] t = True := rfl
theorem okS_cons {ρ : Nat → Nat} {k j : Nat} {v : PV} {l : List (Nat × PV)} {t : Tm} : okS ρ k ((j, v) :: l) t = (rn ρ k 3 v (t j) ∧ okS ρ k l t) := rfl
theorem okH_nil {ρ : Nat → Nat} {k : Nat} {Z : List Nat} {h : Hp} {z : Fz} : okH ρ k Z [] h z = True := rfl
theorem okH_cons {ρ : Nat → Nat} {k r : Nat} {b : Blk} {Z : List Nat} {l : List (Nat × Blk)} {h : Hp} {z : Fz} : okH ρ k Z ((r, b) :: l) h z = ((r < k ∧ (∀ e ∈ b.els, e ≠ .any) ∧ (elimO (h (ρ r)) fun b' => rnB ρ k b b') ∧ Z.contains r = z (ρ r)) ∧ okH ρ k Z l h z) := rfl
theorem okS_all {ρ : Nat → Nat} {k : Nat} {t : Tm} : ∀ {l : List (Nat × PV)}, okS ρ k l t → ∀ p ∈ l, rn ρ k 3 p.2 (t p.1)
  | [], _, p, hp => by cases hp
  | (j, v) :: l, h, p, hp => by
    rcases List.mem_cons.1 hp with rfl | hp
    · exact h.1
    · exact okS_all h.2 p hp
theorem okH_all {ρ : Nat → Nat} {k : Nat} {Z : List Nat} {h : Hp} {z : Fz} : ∀ {l : List (Nat × Blk)}, okH ρ k Z l h z → ∀ q ∈ l, q.1 < k ∧ (∀ e ∈ q.2.els, e ≠ .any) ∧ ∃ b, h (ρ q.1) = some b ∧ rnB ρ k q.2 b ∧ zl Z q.1 = z (ρ q.1)
  | [], _, q, hq => by cases hq
  | (r, b) :: l, hh, q, hq => by
    rcases List.mem_cons.1 hq with rfl | hq
    · obtain ⟨⟨h1, h2, h3, h4⟩, _⟩ := hh
      refine ⟨h1, h2, ?_⟩
      cases hb : h (ρ r) with
      | none => rw [hb] at h3; exact h3.elim
      | some b' => rw [hb] at h3; exact ⟨b', rfl, h3, h4⟩
    · exact okH_all hh.2 q hq

/-- Keys renamed by a list: from 'n0' on. -/
def ren (n0 : Nat) (l : List Nat) (r : Nat) : Nat := if r < n0 then r else l.getD (r - n0) r

theorem LeS_slots {s : St} {L : List (Nat × PV)} {k : Nat} (h0 : n0 ≤ k) (hL : okS id k L s.t) : LeS G n0 s { t := sl L, h := hl [], z := zl [], nx := k } :=
  LeS_of id h0 (fun _ _ => rfl) (okS_all hL) (fun q hq => by cases hq) (fun r hr => by cases hr) (fun p hp => by cases hp)
theorem LeS_list {s : St} {L : List (Nat × PV)} {H : List (Nat × Blk)} {Z : List Nat} {k : Nat} (ρ : List Nat) (h0 : n0 ≤ k) (hL : okS (ren n0 ρ) k L s.t) (hH : okH (ren n0 ρ) k Z H s.h s.z) (hZ : ∀ r ∈ Z, r < k)
    (hinj : (H.map fun q => ren n0 ρ q.1).Pairwise (· ≠ ·)) : LeS G n0 s { t := sl L, h := hl H, z := zl Z, nx := k } := by
  refine LeS_of (ren n0 ρ) h0 (fun r hr => by simp [ren, hr]) (okS_all hL) (okH_all hH) hZ (fun p hp q hq hne => ?_)
  clear hH
  induction H with
  | nil => cases hp
  | cons x H ih =>
    rw [List.map_cons, List.pairwise_cons] at hinj
    rcases List.mem_cons.1 hp with e1 | hp'
    · rcases List.mem_cons.1 hq with e2 | hq'
      · rw [e1, e2] at hne; exact absurd rfl hne
      · rw [e1]; exact hinj.1 _ (List.mem_map.2 ⟨q, hq', rfl⟩)
    · rcases List.mem_cons.1 hq with e2 | hq'
      · rw [e2]; exact (hinj.1 _ (List.mem_map.2 ⟨p, hp', rfl⟩)).symm
      · exact ih hinj.2 hp' hq'

/-- A LOOP, its states by lists of slots and blocks. -/
theorem loop_rule {C : Contracts} {c : Code} {Q : Exit → St → Prop} {s : St} {ι : Type} (L : ι → List (Nat × PV)) (H : ι → List (Nat × Blk)) (Z : ι → List Nat) (k : Nat) (Inv : ι → Prop) (μ : ι → Nat) (i0 : ι) (h0 : Inv i0)
    (hs : LeS G n0 s { t := sl (L i0), h := hl (H i0), z := zl (Z i0), nx := k })
    (round : ∀ i, Inv i → wp P G C (FnH P G) (LeS G, n0) c (thenQ (fun s' => ∃ i', Inv i' ∧ μ i' < μ i ∧ LeS G n0 s' { t := sl (L i'), h := hl (H i'), z := zl (Z i'), nx := k }) Q) { t := sl (L i), h := hl (H i), z := zl (Z i), nx := k }) :
    wpLoop P G C (FnH P G) (LeS G, n0) c Q s :=
  wp_loop FnH.mono (fun i => { t := sl (L i), h := hl (H i), z := zl (Z i), nx := k }) Inv μ i0 h0 hs round

/-- A loop that keeps no blocks. -/
theorem loop_slots {C : Contracts} {c : Code} {Q : Exit → St → Prop} {s : St} {ι : Type} (L : ι → List (Nat × PV)) (Inv : ι → Prop) (μ : ι → Nat) (i0 : ι) (h0 : Inv i0)
    (hs : okS id n0 (L i0) s.t)
    (round : ∀ i, Inv i → wp P G C (FnH P G) (LeS G, n0) c (thenQ (fun s' => ∃ i', (Inv i' ∧ μ i' < μ i) ∧ okS id n0 (L i') s'.t) Q) { t := sl (L i), h := hl [], z := zl [], nx := n0 }) :
    wpLoop P G C (FnH P G) (LeS G, n0) c Q s :=
  loop_rule L (fun _ => []) (fun _ => []) n0 Inv μ i0 h0 (LeS_slots (Nat.le_refl _) hs) fun i hi => wp_mono FnH.mono c _ _ _ (fun e s' h => by
    cases e <;> first | (obtain ⟨i', ⟨h1, h2⟩, h3⟩ := h; exact ⟨i', h1, h2, LeS_slots (Nat.le_refl _) h3⟩) | exact h) (round i hi)
end

section
variable {ρ : Nat → Nat} {nx n : Nat} {v : PV}
theorem rn_any : rn ρ nx n .any v = True := by cases n <;> rfl
theorem rn_int {k : IntKind} {m : Int} : rn ρ nx n (.int k m) v = (v = .int k m) := by cases n <;> rfl
theorem rn_bool {b : Bool} : rn ρ nx n (.bool b) v = (v = .bool b) := by cases n <;> rfl
theorem rn_imm {es : List PV} : rn ρ nx n (.imm es) v = (v = .imm es) := by cases n <;> rfl
theorem rn_nilsl : rn ρ nx n .nilsl v = (v = .nilsl) := by cases n <;> rfl
theorem rn_cptr {e : PV} {o : Nat} : rn ρ nx n (.cptr e o) v = (v = .cptr e o) := by cases n <;> rfl
theorem rn_nilfunc : rn ρ nx n .nilfunc v = (v = .nilfunc) := by cases n <;> rfl
theorem rn_own {r off len : Nat} : rn ρ nx n (.own r off len) v = (r < nx ∧ v = .own (ρ r) off len) := by cases n <;> rfl
theorem rn_ptr {r i off : Nat} : rn ρ nx n (.ptr r i off) v = (r < nx ∧ v = .ptr (ρ r) i off) := by cases n <;> rfl
theorem rn_agg {cs cs' : List PV} : rn ρ nx (n + 1) (.agg cs) (.agg cs') = rnL (rn ρ nx n) cs cs' := rfl
theorem rn_tup {cs cs' : List PV} : rn ρ nx (n + 1) (.tup cs) (.tup cs') = rnL (rn ρ nx n) cs cs' := rfl
theorem rn_func {fn fn' : Fn} {f f' c c' : List PV} : rn ρ nx (n + 1) (.func fn f c) (.func fn' f' c') = (fn = fn' ∧ rnL (rn ρ nx n) f f' ∧ rnL (rn ρ nx n) c c') := rfl
theorem rnL_nil {f : PV → PV → Prop} : rnL f [] [] = True := rfl
theorem rnL_cons {f : PV → PV → Prop} {a b : PV} {as bs : List PV} : rnL f (a :: as) (b :: bs) = (f a b ∧ rnL f as bs) := rfl
end

theorem wrapI {n : Int} (h1 : -9223372036854775808 ≤ n) (h2 : n < 9223372036854775808) : IntKind.i64.wrap n = n := by
  rw [IntKind.wrap_i64]; omega
theorem wrapU {n : Int} (h1 : 0 ≤ n) (h2 : n < 18446744073709551616) : IntKind.u64.wrap n = n := by
  rw [IntKind.wrap_u64]; omega
theorem wrapW {n : Int} (h1 : 0 ≤ n) (h2 : n < 4294967296) : IntKind.u32.wrap n = n := by
  rw [IntKind.wrap_u32]; omega
end Go.PI
