/-
  PI: a pure interpreter for the model's own code. Values: 'PV' (a slice that nobody writes any more is data, 'imm'; blocks that the call itself made lie in a small heap of their own, 'Hp').
  Definitions alone; soundness: PiRel, PiSound.
-/
import Derived.WalkKit
import Derived.KernelRfl
set_option linter.unusedVariables false
set_option linter.unusedSimpArgs false
namespace Go.PI

inductive PV where
  | int (k : IntKind) (n : Int)
  | bool (b : Bool)
  | str (s : ByteArray)
  | agg (cs : List PV)
  | imm (es : List PV)
  | nilsl
  | own (r off len : Nat)
  | ptr (r i off : Nat)
  | cptr (e : PV) (off : Nat)
  | func (fn : Fn) (first captured : List PV)
  | nilfunc
  | tup (vs : List PV)
  | anyb
  | any
  deriving Inhabited

def PV.cells : PV → List PV
  | .agg cs => cs
  | v => [v]
def PV.isAgg : PV → Bool
  | .agg _ => true
  | _ => false

@[simp] theorem PV.cells_agg (cs : List PV) : (PV.agg cs).cells = cs := rfl
@[simp] theorem PV.isAgg_agg (cs : List PV) : (PV.agg cs).isAgg = true := rfl

/-- A block of the call's own: its elements. A variable in a box has one. -/
structure Blk where
  els : List PV
  sz : Nat
  agg : Bool

/-- How often the call has yielded: a block of its own that is in no memory, at key 0. -/
def gblk (i : Nat) : Blk := ⟨[.int .i64 i], 1, false⟩

abbrev Tm := Nat → PV
abbrev Hp := Nat → Option Blk
abbrev Fz := Nat → Bool
abbrev Gl := Nat → Option PV

def tset (t : Tm) (d : Nat) (v : PV) : Tm := fun j => if j = d then v else t j
def hset (h : Hp) (r : Nat) (b : Option Blk) : Hp := fun j => if j = r then b else h j
def fset (z : Fz) (ks : List Nat) : Fz := fun j => ks.contains j || z j

structure St where
  t : Tm
  h : Hp
  z : Fz
  nx : Nat

def ofConst : Value → PV
  | .int k n => .int k n
  | .bool b => .bool b
  | .string s => .str s
  | .slice none 0 0 => .nilsl
  | .nilFunc => .nilfunc
  | .tuple ⟨[]⟩ => .tup []
  | .func fn ⟨[]⟩ ⟨[]⟩ => .func fn [] []
  | _ => .any
def ofZero : Value → PV
  | .agg cs => .agg (cs.toList.map ofConst)
  | v => ofConst v

def ev (G : Gl) (t : Tm) : Operand → PV
  | .tmp i => t i
  | .const v => ofConst v
  | .global g => match G g with
    | some e => .cptr e 0
    | none => .any
  | .func f => .func (.func f) [] []

/-- What the tables say of a type. -/
structure TI where
  size : Nat
  bytes : Nat
  agg : Bool
  elem : Nat
  kind : Option IntKind
  fields : List (Nat × Nat × Nat)   -- offset, type, size
  zero : PV
  zok : Bool
  isSlice : Bool
  isStruct : Bool
  isBool : Bool
  isStr : Bool
  alen : Nat
  eqInts : Bool
  deriving Inhabited

def PV.storable : PV → Bool
  | .any | .anyb | .tup _ => false
  | _ => true

def tinfo (P : Program) (t : TypeId) : TI :=
  let d := P.underlying t
  let z : PV := match P.info? t with | some i => (match i.zero with | some v => ofZero v | none => .any) | none => .any
  { size := match d with | some _ => P.cellsOf t | none => 0
    bytes := P.bytesOf t
    agg := match d with | some (.struct _) | some (.array _ _) => true | _ => false
    elem := match d with | some (.slice e) => e | some (.array _ e) => e | _ => 0
    kind := match d with | some (.int k) => some k | _ => none
    fields := match d with | some (.struct fs) => fs.toList.map fun f => (f.offset, f.type, P.cellsOf f.type) | _ => []
    zero := z
    zok := z.storable && z.cells.all PV.storable
    isSlice := match d with | some (.slice _) => true | _ => false
    isStruct := match d with | some (.struct fs) => fs.toList.all fun f => (P.info? f.type).isSome | _ => false
    isBool := match d with | some .bool => true | _ => false
    isStr := match d with | some .string => true | _ => false
    alen := match d with | some (.array n _) => n | _ => 0
    eqInts := match d with
      | some (.struct fs) => fs.toList.zipIdx.all (fun (f, i) => f.name != "_" && f.offset == i && (match P.underlying f.type with | some (.int _) => true | _ => false)) && !P.stoodInHeld t && !P.eqGuardType P.depth t
      | _ => false }

/-- n cells from 'off' on, out of an element. -/
def part (e : PV) (off n : Nat) (agg : Bool) : Option PV :=
  if off = 0 ∧ e.cells.length = n ∧ e.isAgg = agg then some e
  else if off + n ≤ e.cells.length then
    (if agg then some (.agg ((e.cells.drop off).take n)) else if n = 1 then e.cells[off]? else none)
  else none

/-- An element with other cells from 'off' on. -/
def splice (e : PV) (off : Nat) (v : PV) : Option PV :=
  if off = 0 ∧ e.cells.length = v.cells.length ∧ e.isAgg = v.isAgg then some v
  else if off + v.cells.length ≤ e.cells.length ∧ e.isAgg = true then some (.agg (e.cells.take off ++ v.cells ++ e.cells.drop (off + v.cells.length)))
  else none

abbrev Res := Option (PV × Hp × List Nat × List Nat)   -- the value, the heap, the keys read, the keys written

def need (c : Prop) [Decidable c] (x : Res) : Res := if c then x else none

def arith (op : BinOp) (k : IntKind) (x y : Int) : Option PV :=
  match op with
  | .add => some (.int k (k.wrap (x + y)))
  | .sub => some (.int k (k.wrap (x - y)))
  | .mul => some (.int k (k.wrap (x * y)))
  | .eql => some (.bool (x == y))
  | .neq => some (.bool (x != y))
  | .lss => some (.bool (decide (x < y)))
  | .leq => some (.bool (decide (x ≤ y)))
  | .gtr => some (.bool (decide (x > y)))
  | .geq => some (.bool (decide (x ≥ y)))
  | .and => some (.int k (k.wrap (BitVec.ofInt k.bits x &&& BitVec.ofInt k.bits y).toNat))
  | .or => some (.int k (k.wrap (BitVec.ofInt k.bits x ||| BitVec.ofInt k.bits y).toNat))
  | .xor => some (.int k (k.wrap (BitVec.ofInt k.bits x ^^^ BitVec.ofInt k.bits y).toNat))
  | .andNot => some (.int k (k.wrap (BitVec.ofInt k.bits x &&& ~~~BitVec.ofInt k.bits y).toNat))
  | _ => none

/-- A struct's fields written in their places. -/
def fillF (fs : List (Nat × Nat × Nat)) : List PV → List (Nat × PV) → Option (List PV)
  | cells, [] => some cells
  | cells, (i, v) :: rest =>
    match fs[i]? with
    | none => none
    | some (off, _, size) =>
      if v.storable = true ∧ v.cells.length = size ∧ off + size ≤ cells.length then fillF fs (cells.take off ++ v.cells ++ cells.drop (off + size)) rest else none

/-- A slice's or an array's elements written in their places. -/
def fillE (sz : Nat) (agg : Bool) : List PV → List (Nat × PV) → Option (List PV)
  | els, [] => some els
  | els, (i, v) :: rest => if v.storable = true ∧ v.cells.length = sz ∧ v.isAgg = agg ∧ i < els.length then fillE sz agg (els.set i v) rest else none

/-- What a slice that is only read holds, and the block that it is read from. -/
def srcOf (h : Hp) : PV → Option (List PV × List Nat)
  | .imm es => some (es, [])
  | .nilsl => some ([], [])
  | .own r off len => match h r with
    | some b => if off + len ≤ b.els.length then some ((b.els.drop off).take len, [r]) else none
    | none => none
  | _ => none

/-- Cells that are integers, compared. -/
def eqCells : List PV → List PV → Option Bool
  | [], [] => some true
  | .int k a :: as, .int k' b :: bs => if k = k' then (eqCells as bs).map fun r => (a == b) && r else none
  | _, _ => none

/-- Is a slice nil? It cannot be told of an empty one. -/
def isNil : PV → Option PV
  | .nilsl => some (.bool true)
  | .imm [] => some .anyb
  | .imm (_ :: _) => some (.bool false)
  | .own _ _ len => some (if len = 0 then .anyb else .bool false)
  | _ => none
def notB : PV → PV
  | .bool b => .bool (!b)
  | v => v

/-- Every operation but a call. 'key': the number of the block that it makes, if it makes one. -/
def evalOp (P : Program) (G : Gl) (z : Fz) (key : Nat) (op : Op) (t : Tm) (h : Hp) : Res :=
  match op with
  | .move x | .assign x => some (ev G t x, h, [], [])
  | .pick c a b => match ev G t c with
    | .bool v => some (if v then ev G t a else ev G t b, h, [], [])
    | _ => none
  | .alloc e =>
    let i := tinfo P e
    need (i.zok = true) (some (.ptr key 0 0, hset h key (some ⟨[i.zero], i.zero.cells.length, i.zero.isAgg⟩), [], [key]))
  | .box _ x =>
    let v := ev G t x
    need (v.storable = true) (some (.ptr key 0 0, hset h key (some ⟨[v], v.cells.length, v.isAgg⟩), [], [key]))
  | .build ty parts =>
    let i := tinfo P ty
    match i.alen with
    | 0 => need (i.zok = true ∧ i.isStruct = true) (match fillF i.fields i.zero.cells (parts.toList.map fun (j, x) => (j, ev G t x)) with
      | some cs => some (.agg cs, h, [], [])
      | none => none)
    | n => need (i.zok = true ∧ (tinfo P i.elem).size ≠ 0) (match fillF ((List.range n).map fun j => (j * (tinfo P i.elem).size, i.elem, (tinfo P i.elem).size)) i.zero.cells (parts.toList.map fun (j, x) => (j, ev G t x)) with
      | some cs => some (.agg cs, h, [], [])
      | none => none)
  | .buildSlice ty len parts =>
    let e := tinfo P (tinfo P ty).elem
    need (len * e.size ≤ 2 ^ 24 ∧ e.zok = true ∧ (tinfo P ty).isSlice = true ∧ e.zero.cells.length = e.size ∧ e.zero.isAgg = e.agg ∧ e.size ≠ 0) <|
    (match fillE e.size e.agg (List.replicate len e.zero) (parts.toList.map fun (j, x) => (j, ev G t x)) with
    | some els => some (.own key 0 len, hset h key (some ⟨els, e.size, e.agg⟩), [], [key])
    | none => none)
  | .load ty x =>
    let i := tinfo P ty
    (match ev G t x with
    | .ptr r j off => (match h r with
      | some b => (match b.els[j]? with
        | some e => (part e off i.size i.agg).map fun v => (v, h, [r], [])
        | none => none)
      | none => none)
    | .cptr e off => (part e off i.size i.agg).map fun v => (v, h, [], [])
    | _ => none)
  | .store ty x y =>
    let v := ev G t y
    (match ev G t x with
    | .ptr r j off => (match h r with
      | some b => (match b.els[j]? with
        | some e => need (z r = false ∧ v.storable = true ∧ v.cells.length = (tinfo P ty).size ∧ (tinfo P ty).size ≠ 0) <|
          (splice e off v).map fun e' => (.tup [], hset h r (some { b with els := b.els.set j e' }), [r], [r])
        | none => none)
      | none => none)
    | _ => none)
  | .nilCheck x => (match ev G t x with
    | .ptr r i off => some (.ptr r i off, h, [], [])
    | .cptr e off => some (.cptr e off, h, [], [])
    | _ => none)
  | .binOp op xt x y _ => (match ev G t x, ev G t y with
    | .int k a, .int k' b =>
      if k = k' then
        (match op with
        | .quo => need (b ≠ 0) (some (.int k (k.wrap (a.tdiv b)), h, [], []))
        | .rem => need (b ≠ 0) (some (.int k (a.tmod b), h, [], []))
        | .shl => need (0 ≤ b) (some (.int k (k.wrap (a * 2 ^ (min b.toNat k.bits))), h, [], []))
        | .shr => need (0 ≤ b) (some (.int k (a.fdiv (2 ^ (min b.toNat k.bits))), h, [], []))
        | _ => (arith op k a b).map fun v => (v, h, [], []))
      else (match op with
        | .shl => need (0 ≤ b) (some (.int k (k.wrap (a * 2 ^ (min b.toNat k.bits))), h, [], []))
        | .shr => need (0 ≤ b) (some (.int k (a.fdiv (2 ^ (min b.toNat k.bits))), h, [], []))
        | _ => none)
    | .bool a, .bool b => (match op with
      | .eql => need ((tinfo P xt).isBool = true) (some (.bool (a == b), h, [], []))
      | .neq => need ((tinfo P xt).isBool = true) (some (.bool (a != b), h, [], []))
      | _ => none)
    | .agg as, .agg bs => (match op with
      | .eql => need ((tinfo P xt).eqInts = true ∧ as.length = (tinfo P xt).fields.length ∧ bs.length = (tinfo P xt).fields.length) ((eqCells as bs).map fun r => (.bool r, h, [], []))
      | .neq => need ((tinfo P xt).eqInts = true ∧ as.length = (tinfo P xt).fields.length ∧ bs.length = (tinfo P xt).fields.length) ((eqCells as bs).map fun r => (.bool (!r), h, [], []))
      | _ => none)
    | v, .nilsl => (match op with
      | .eql => need ((tinfo P xt).isSlice = true) ((isNil v).map fun r => (r, h, [], []))
      | .neq => need ((tinfo P xt).isSlice = true) ((isNil v).map fun r => (notB r, h, [], []))
      | _ => none)
    | _, _ => none)
  | .unOp op _ x => (match op, ev G t x with
    | .not, .bool b => some (.bool (!b), h, [], [])
    | .neg, .int k n => some (.int k (k.wrap (0 - n)), h, [], [])
    | _, _ => none)
  | .convert src dst x => (match (tinfo P src).kind, (tinfo P dst).kind, ev G t x with
    | some _, some k, .int _ n => some (.int k (k.wrap n), h, [], [])
    | _, _, _ => none)
  | .makeFunc fn first captured => some (.func fn (first.toList.map (ev G t)) (captured.toList.map (ev G t)), h, [], [])
  | .makeSlice ty l c =>
    let e := tinfo P (tinfo P ty).elem
    (match ev G t l, ev G t c with
    | .int .i64 n, .int .i64 m => need (n = m ∧ 0 ≤ n ∧ n ≤ 2 ^ 32 ∧ e.bytes ≤ 4096 ∧ e.zok = true ∧ (tinfo P ty).isSlice = true ∧ e.zero.cells.length = e.size ∧ e.zero.isAgg = e.agg ∧ e.size ≠ 0) (some (.own key 0 n.toNat, hset h key (some ⟨List.replicate n.toNat e.zero, e.size, e.agg⟩), [], [key]))
    | _, _ => none)
  | .slice ty x lo hi none =>
    let lo' : Option Int := match lo with
      | none => some 0
      | some o => match ev G t o with | .int _ n => some n | _ => none
    let size := (tinfo P (tinfo P ty).elem).size
    (match ev G t x with
    | .imm es =>
      let hi' : Option Int := match hi with
        | none => some es.length
        | some o => match ev G t o with | .int _ n => some n | _ => none
      (match lo', hi' with
      | some a, some b => need ((tinfo P ty).isSlice = true ∧ (∀ e ∈ es, e.cells.length = size) ∧ 0 ≤ a ∧ a ≤ b ∧ b ≤ es.length ∧ size ≠ 0) (some (.imm ((es.take b.toNat).drop a.toNat), h, [], []))
      | _, _ => none)
    | .own r off len =>
      let hi' : Option Int := match hi with
        | none => some len
        | some o => match ev G t o with | .int _ n => some n | _ => none
      (match lo', hi' with
      | some a, some b => (match h r with
        | some k => need ((tinfo P ty).isSlice = true ∧ k.sz = size ∧ 0 ≤ a ∧ a ≤ b ∧ b ≤ len ∧ size ≠ 0) (some (.own r (off + a.toNat) (b.toNat - a.toNat), h, [r], []))
        | none => none)
      | _, _ => none)
    | _ => none)
  | .fieldAddr s x f => (match (tinfo P s).fields[f]?, ev G t x with
    | some (o, _, n), .ptr r j off => need (n ≠ 0) (some (.ptr r j (off + o), h, [], []))
    | some (o, _, n), .cptr e off => need (n ≠ 0) (some (.cptr e (off + o), h, [], []))
    | _, _ => none)
  | .field s x f => (match (tinfo P s).fields[f]?, ev G t x with
    | some (o, ty, _), .agg cs => (part (.agg cs) o (tinfo P ty).size (tinfo P ty).agg).map fun v => (v, h, [], [])
    | _, _ => none)
  | .indexAddr ty x ix =>
    let i := tinfo P ty
    (match ev G t x, ev G t ix with
    | .imm es, .int _ n => need (i.isSlice = true ∧ 0 ≤ n ∧ n < es.length) (match es[n.toNat]? with
      | some e => need (e.cells.length = (tinfo P i.elem).size ∧ (tinfo P i.elem).size ≠ 0) (some (.cptr e 0, h, [], []))
      | none => none)
    | .own r off len, .int _ n => need (i.isSlice = true ∧ 0 ≤ n ∧ n < len) (match h r with
      | some b => need (b.sz = (tinfo P i.elem).size ∧ (tinfo P i.elem).size ≠ 0) (some (.ptr r (off + n.toNat) 0, h, [r], []))
      | none => none)
    | .cptr e off, .int _ n => need (i.alen ≠ 0 ∧ 0 ≤ n ∧ n < i.alen ∧ (tinfo P i.elem).size ≠ 0) (some (.cptr e (off + n.toNat * (tinfo P i.elem).size), h, [], []))
    | .ptr r j off, .int _ n => need (i.alen ≠ 0 ∧ 0 ≤ n ∧ n < i.alen ∧ (tinfo P i.elem).size ≠ 0) (some (.ptr r j (off + n.toNat * (tinfo P i.elem).size), h, [], []))
    | _, _ => none)
  | .index ty x ix =>
    let i := tinfo P ty
    (match ev G t x, ev G t ix with
    | .agg cs, .int _ n => need (i.alen ≠ 0 ∧ 0 ≤ n ∧ n < i.alen ∧ (tinfo P i.elem).size ≠ 0) ((part (.agg cs) (n.toNat * (tinfo P i.elem).size) (tinfo P i.elem).size (tinfo P i.elem).agg).map fun v => (v, h, [], []))
    | .str s, .int _ n => need (i.isStr = true ∧ 0 ≤ n) ((s[n.toNat]?).map fun b => (.int .u8 b.toNat, h, [], []))
    | _, _ => none)
  | .extract x i => (match ev G t x with
    | .tup vs => (vs[i]?).map fun v => (v, h, [], [])
    | _ => none)
  | .call { callee := .builtin .len, args := ⟨[x]⟩, argTypes := ⟨[ty]⟩ } => need ((tinfo P ty).isSlice = true) (match ev G t x with
    | .imm es => some (.int .i64 es.length, h, [], [])
    | .own _ _ len => some (.int .i64 len, h, [], [])
    | .nilsl => some (.int .i64 0, h, [], [])
    | _ => none)
  | .call { callee := .builtin .max, args := ⟨[x, y]⟩, argTypes := _ } => (match ev G t x, ev G t y with
    | .int k a, .int _ b => some (.int k (if b > a then b else a), h, [], [])
    | _, _ => none)
  | .call { callee := .builtin .min, args := ⟨[x, y]⟩, argTypes := _ } => (match ev G t x, ev G t y with
    | .int k a, .int _ b => some (.int k (if b < a then b else a), h, [], [])
    | _, _ => none)
  | .call { callee := .builtin .append, args := ⟨[x, y]⟩, argTypes := ⟨[ty, ty2]⟩ } =>
    let e := tinfo P (tinfo P ty).elem
    (match srcOf h (ev G t y) with
    | some (es, ks) => need ((∀ e' ∈ es, e'.cells.length = e.size ∧ e'.isAgg = e.agg) ∧ e.bytes ≤ 4096 ∧ e.zok = true ∧ (tinfo P ty).isSlice = true ∧ (tinfo P ty2).isSlice = true ∧ e.zero.cells.length = e.size ∧ e.size ≠ 0) (match ev G t x with
      | .nilsl => need (es.length ≤ 2 ^ 32) (some (.own key 0 es.length, hset h key (some ⟨es, e.size, e.agg⟩), ks, [key]))
      | .own r off len => (match h r with
        | some b => need (off = 0 ∧ len = b.els.length ∧ b.sz = e.size ∧ b.agg = e.agg ∧ z r = false ∧ ks.contains r = false ∧ len + es.length ≤ 2 ^ 32)
            (some (.own key 0 (len + es.length), hset (hset h r none) key (some ⟨b.els ++ es, e.size, e.agg⟩), r :: ks, [r, key]))
        | none => none)
      | _ => none)
    | none => none)
  | _ => none

/-- A value that is handed to a call, as data: the blocks that it is read from are written no more. -/
def mapF (f : PV → Option (PV × List Nat)) : List PV → Option (List PV × List Nat)
  | [] => some ([], [])
  | v :: vs => match f v, mapF f vs with
    | some (d, ks), some (ds, ls) => some (d :: ds, ks ++ ls)
    | _, _ => none
def frz (h : Hp) : Nat → PV → Option (PV × List Nat)
  | _, .int k n => some (.int k n, [])
  | _, .bool b => some (.bool b, [])
  | _, .str s => some (.str s, [])
  | _, .imm es => some (.imm es, [])
  | _, .nilsl => some (.imm [], [])
  | _, .nilfunc => some (.nilfunc, [])
  | _, .cptr e off => some (.cptr e off, [])
  | n + 1, .ptr r i off => match h r with
    | some b => (match b.els[i]? with
      | some e => (match frz h n e with
        | some (d, ks) => some (.cptr d off, r :: ks)
        | none => none)
      | none => none)
    | none => none
  | n + 1, .func fn f c => match mapF (frz h n) f, mapF (frz h n) c with
    | some (fs, ks), some (cs, ls) => some (.func fn fs cs, ks ++ ls)
    | _, _ => none
  | n + 1, .agg cs => match mapF (frz h n) cs with
    | some (ds, ks) => some (.agg ds, ks)
    | none => none
  | n + 1, .tup cs => match mapF (frz h n) cs with
    | some (ds, ks) => some (.tup ds, ks)
    | none => none
  | n + 1, .own r off len => match h r with
    | some b => if off + len ≤ b.els.length then (match mapF (frz h n) ((b.els.drop off).take len) with
      | some (ds, ks) => some (.imm ds, r :: ks)
      | none => none) else none
    | none => none
  | _, _ => none

/-- What a call hands back: data, or a slice in a new block of its own; or it has yielded, from the i-th element on to the j-th. 'seq': no result; what a range over the function runs through. -/
inductive CRes where
  | data (d : PV)
  | fresh (els : List PV) (sz : Nat) (agg : Bool)
  | gh (i j : Nat) (b : Bool)
  | seq (xs : List (List PV))

def CRes.val (key : Nat) : CRes → PV
  | .data d => d
  | .fresh els _ _ => .own key 0 els.length
  | .gh _ _ b => .bool b
  | .seq _ => .any
def CRes.heap (key : Nat) (h : Hp) : CRes → Hp
  | .data _ => h
  | .fresh els sz agg => hset h key (some ⟨els, sz, agg⟩)
  | .gh _ j _ => hset h 0 (some (gblk j))
  | .seq _ => h
def CRes.keys (key : Nat) : CRes → List Nat
  | .data _ => []
  | .fresh _ _ _ => [key]
  | .gh _ _ _ => [0]
  | .seq _ => []
def CRes.rds : CRes → List Nat
  | .gh _ _ _ => [0]
  | _ => []
def CRes.isGh : CRes → Bool
  | .gh _ _ _ => true
  | _ => false
def CRes.ok (h : Hp) : CRes → Prop
  | .gh i _ _ => h 0 = some (gblk i)
  | .seq _ => False
  | _ => True

structure FP where
  rd : List Nat
  wr : List Nat
  fz : List Nat

def FP.apart (a b : FP) : Bool :=
  a.wr.all (fun k => !b.rd.contains k && !b.wr.contains k && !b.fz.contains k) && b.wr.all (fun k => !a.rd.contains k && !a.fz.contains k)

def put (s : St) (d : Option Nat) (v : PV) : St :=
  match d with
  | some d => { s with t := tset s.t d v }
  | none => s

/-- Have all operations so far that 'o' does not wait for left alone what it touches? -/
def clearOf (o : Oper) (fp : FP) (acc : List (Nat × FP)) : Bool :=
  acc.all fun (k, f) => o.after.any (fun e => e.on == k && Region.binds .any e) || FP.apart f fp

/-- In what ways a state may be said otherwise, from what key on. -/
abbrev LeT := (Nat → St → St → Prop) × Nat

abbrev Contracts := FuncId → List PV → CRes → Prop
abbrev Inline := FuncId → List PV → (PV → St → Prop) → St → Prop

section
variable (P : Program) (G : Gl) (C : Contracts) (I : Inline) (Le : LeT) (D : Bool)

/-- A call of a Go function: by a contract on data, or (in a region that does not draw its order) by whatever 'I' says. -/
def callWp (f : FuncId) (args : List PV) (dst : Option Nat) (K : FP → St → Prop) (s : St) : Prop :=
  (∃ n ds ks r, mapF (frz s.h n) args = some (ds, ks) ∧ C f ds r ∧ r.ok s.h ∧
    K ⟨r.rds ++ ks, r.keys s.nx, ks⟩ (put { s with h := r.heap s.nx s.h, z := fset s.z ks, nx := s.nx + 1 } dst (r.val s.nx))) ∨
  (D = false ∧ I f args (fun v s' => K ⟨[], [], []⟩ (put { s' with t := s.t } dst v)) s)

/-- A yield: by a contract, too. -/
def yieldWp (l : Nat) (args : List PV) (dst : Option Nat) (K : FP → St → Prop) (s : St) : Prop :=
  ∃ n ds ks i j b, mapF (frz s.h n) args = some (ds, ks) ∧ C l (.anyb :: ds) (.gh i j b) ∧ s.h 0 = some (gblk i) ∧
    K ⟨0 :: ks, [0], ks⟩ (put { s with h := hset s.h 0 (some (gblk j)), z := fset s.z ks, nx := s.nx + 1 } dst (.bool b))

def opWp (o : Oper) (K : FP → St → Prop) (s : St) : Prop :=
  match o.op with
  | .call { callee := .value g, args, argTypes := _ } =>
    (match ev G s.t g with
    | .func (.func f) first captured => callWp C I D f (first ++ args.toList.map (ev G s.t) ++ captured) o.dst K s
    | .func (.yield l) [] [] => yieldWp C l (args.toList.map (ev G s.t)) o.dst K s
    | _ => False)
  | op => match evalOp P G s.z s.nx op s.t s.h with
    | some (v, h', rd, wr) => K ⟨rd, wr, []⟩ (put { s with h := h', nx := s.nx + 1 } o.dst v)
    | none => False

def wpOps (ops : List Oper) : Nat → List (Nat × FP) → List Oper → (St → Prop) → St → Prop
  | _, _, [], K, s => K s
  | i, acc, o :: rest, K, s =>
    let run := opWp P G C I D o (fun fp s' => (D = true → clearOf o fp acc = true) ∧ wpOps ops (i + 1) ((i, fp) :: acc) rest K s') s
    let pass := wpOps ops (i + 1) acc rest K (put { s with nx := s.nx + 1 } o.dst (.tup []))
    match o.guard with
    | none => run
    | some (j, want) => match (ops[j]?).bind (·.dst) with
      | some d => (match s.t d with
        | .bool b => (b = want → run) ∧ (b = (!want) → pass)
        | .tup [] => pass
        | _ => False)
      | none => False
end

def thenQ (K : St → Prop) (Q : Exit → St → Prop) : Exit → St → Prop
  | .normal, s => K s
  | e, s => Q e s
def inBlockQ (id : Nat) (Q : Exit → St → Prop) : Exit → St → Prop
  | .exit id', s => if id' = id then Q .normal s else Q (.exit id') s
  | e, s => Q e s

/-- A range's parameters. -/
def setPs : Tm → List Tmp → List PV → Tm
  | t, p :: ps, x :: xs => setPs (tset t p x) ps xs
  | t, _, _ => t

/-- What is asked at a round's end: before the round in which the range is left, and there. -/
def roundQ (Q : Exit → St → Prop) (t : Tm) (K : Nat → St → Prop) (LeR : St → St → Prop) : Nat → Exit → St → Prop
  | 0, .ret, s => Q .ret { s with t := t }
  | 0, .exit id, s => Q (.exit id) { s with t := t }
  | k + 1, .normal, s => ∃ s', LeR s s' ∧ K k s'
  | _, _, _ => False

section
variable (P : Program) (G : Gl) (C : Contracts) (I : Inline)

def wp : LeT → Code → (Exit → St → Prop) → St → Prop
  | _, .skip, Q, s => Q .normal s
  | _, .label _, Q, s => Q .normal s
  | Le, .seq a b, Q, s => wp Le a (thenQ (wp Le b Q) Q) s
  | Le, .cond c a b, Q, s => (match ev G s.t c with
    | .bool t => (t = true → wp Le a Q s) ∧ (t = false → wp Le b Q s)
    | .anyb => wp Le a Q s ∧ wp Le b Q s
    | _ => False)
  | Le, .block id c, Q, s => wp Le c (inBlockQ id Q) s
  | Le, .loop c, Q, s => ∃ s0, Le.1 Le.2 s s0 ∧ ∃ n, Nat.rec (motive := fun _ => St → Prop) (fun _ => False) (fun _ ih s => wp Le c (thenQ (fun s' => ∃ s'', Le.1 Le.2 s' s'' ∧ ih s'') Q) s) n s0
  | _, .exit id, Q, s => Q (.exit id) s
  | _, .ret, Q, s => Q .ret s
  | _, .region _ ops D, Q, s => wpOps P G C I D ops.toList 0 [] ops.toList (Q .normal) s
  | Le, .rangeFunc g ps assign body, Q, s1 => ∃ s, Le.1 Le.2 s1 s ∧ (match ev G s.t g with
    | .func (.func f) [] captured => ∃ n ds ks xs k, mapF (frz s.h n) captured = some (ds, ks) ∧ C f ds (.seq xs) ∧ (∀ x ∈ xs, x.length = ps.size) ∧
        List.rec (motive := fun _ => Nat → St → Prop) (fun _ s' => Q .normal { s' with t := s.t })
          (fun x _ ih k s' => wp (Le.1, s.nx) assign (thenQ (wp (Le.1, s.nx) body (roundQ Q s.t ih (Le.1 s.nx) k)) (fun _ _ => False)) { s' with t := setPs s.t ps.toList x })
          xs k { s with z := fset s.z ks }
    | _ => False)
  | _, _, _, _ => False
end

section
variable {P : Program} {G : Gl} {C : Contracts} {I : Inline} {Le : LeT}

theorem wp_seq {a b : Code} {Q : Exit → St → Prop} {s : St} (h : ∀ K : St → Prop, (∀ s, wp P G C I Le b Q s → K s) → wp P G C I Le a (thenQ K Q) s) : wp P G C I Le (.seq a b) Q s :=
  h _ fun _ h => h
theorem wp_block {id : Nat} {c : Code} {Q : Exit → St → Prop} {s : St} (h : wp P G C I Le c (inBlockQ id Q) s) : wp P G C I Le (.block id c) Q s := h
theorem wp_region {id : Nat} {ops : Array Oper} {D : Bool} {Q : Exit → St → Prop} {s : St} (h : wpOps P G C I D ops.toList 0 [] ops.toList (Q .normal) s) : wp P G C I Le (.region id ops D) Q s := h

theorem opWp_mono {D : Bool} {o : Oper} {K K' : FP → St → Prop} {s : St} (hI : ∀ f args (J J' : PV → St → Prop) s, (∀ v s, J v s → J' v s) → I f args J s → I f args J' s)
    (hk : ∀ fp s, K fp s → K' fp s) (h : opWp P G C I D o K s) : opWp P G C I D o K' s := by
  unfold opWp at *
  split at h
  · split at h
    · rename_i f first captured hg
      rcases h with ⟨n, ds, ks, r, h1, h2, h4, h3⟩ | ⟨hd, h⟩
      · exact Or.inl ⟨n, ds, ks, r, h1, h2, h4, hk _ _ h3⟩
      · exact Or.inr ⟨hd, hI _ _ _ _ _ (fun v s h => hk _ _ h) h⟩
    · obtain ⟨n, ds, ks, i, j, b, h1, h2, h4, h3⟩ := h
      exact ⟨n, ds, ks, i, j, b, h1, h2, h4, hk _ _ h3⟩
    · exact h
  · split at h
    · exact hk _ _ h
    · exact h

theorem wpOps_mono {D : Bool} {ops : List Oper} {K K' : St → Prop} (hI : ∀ f args (J J' : PV → St → Prop) s, (∀ v s, J v s → J' v s) → I f args J s → I f args J' s)
    (hk : ∀ s, K s → K' s) : ∀ (l : List Oper) (i : Nat) (acc : List (Nat × FP)) (s : St), wpOps P G C I D ops i acc l K s → wpOps P G C I D ops i acc l K' s
  | [], _, _, _, h => hk _ h
  | o :: rest, i, acc, s, h => by
    have ih := wpOps_mono (D := D) (ops := ops) hI hk rest
    unfold wpOps at h ⊢
    have run : opWp P G C I D o (fun fp s' => (D = true → clearOf o fp acc = true) ∧ wpOps P G C I D ops (i + 1) ((i, fp) :: acc) rest K s') s →
        opWp P G C I D o (fun fp s' => (D = true → clearOf o fp acc = true) ∧ wpOps P G C I D ops (i + 1) ((i, fp) :: acc) rest K' s') s :=
      opWp_mono hI fun fp s h => ⟨h.1, ih _ _ _ h.2⟩
    dsimp only at h ⊢
    split at h
    · exact run h
    · split at h
      · split at h
        · exact ⟨fun e => run (h.1 e), fun e => ih _ _ _ (h.2 e)⟩
        · exact ih _ _ _ h
        · exact h
      · exact h

theorem wp_mono (hI : ∀ f args (J J' : PV → St → Prop) s, (∀ v s, J v s → J' v s) → I f args J s → I f args J' s) :
    ∀ {Le : LeT} (c : Code) (Q Q' : Exit → St → Prop) (s : St), (∀ e s, Q e s → Q' e s) → wp P G C I Le c Q s → wp P G C I Le c Q' s
  | _, .skip, _, _, _, hq, h => hq _ _ h
  | _, .label _, _, _, _, hq, h => hq _ _ h
  | _, .seq a b, Q, Q', s, hq, h => by
    refine wp_mono hI a _ _ s (fun e s h => ?_) h
    cases e <;> first | exact wp_mono hI b _ _ s hq h | exact hq _ _ h
  | _, .cond c a b, Q, Q', s, hq, h => by
    unfold wp at *
    split at h
    · exact ⟨fun e => wp_mono hI a _ _ s hq (h.1 e), fun e => wp_mono hI b _ _ s hq (h.2 e)⟩
    · exact ⟨wp_mono hI a _ _ s hq h.1, wp_mono hI b _ _ s hq h.2⟩
    · exact h
  | _, .block id c, Q, Q', s, hq, h => by
    refine wp_mono hI c _ _ s (fun e s h => ?_) h
    cases e <;> simp only [inBlockQ] at * <;> first | exact hq _ _ h | (split <;> rename_i e <;> simp only [e, if_true, if_false] at h <;> exact hq _ _ h)
  | _, .loop c, Q, Q', s, hq, h => by
    unfold wp at *
    obtain ⟨s0, h0, n, h⟩ := h
    refine ⟨s0, h0, n, ?_⟩
    clear h0
    induction n generalizing s0 with
    | zero => exact h
    | succ n ih =>
      refine wp_mono hI c _ _ s0 (fun e s h => ?_) h
      cases e <;> first | (obtain ⟨s'', h1, h2⟩ := h; exact ⟨s'', h1, ih _ h2⟩) | exact hq _ _ h
  | _, .exit id, _, _, _, hq, h => hq _ _ h
  | _, .ret, _, _, _, hq, h => hq _ _ h
  | _, .region _ ops D, _, _, _, hq, h => wpOps_mono hI (fun s h => hq _ _ h) _ _ _ _ h
  | Le, .rangeFunc g ps assign body, Q, Q', s1, hq, h => by
    unfold wp at *
    obtain ⟨s, hs, h⟩ := h
    refine ⟨s, hs, ?_⟩
    split at h
    · obtain ⟨n, ds, ks, xs, k, h1, h2, h3, h4⟩ := h
      refine ⟨n, ds, ks, xs, k, h1, h2, h3, ?_⟩
      revert h4
      generalize ({ s with z := fset s.z ks } : St) = s0
      clear h3 h2
      induction xs generalizing k s0 with
      | nil => exact fun h4 => hq _ _ h4
      | cons x xs ih =>
        intro h4
        refine wp_mono hI assign _ _ _ (fun e s1 h => ?_) h4
        cases e <;> try exact h
        refine wp_mono hI body _ _ _ (fun e s2 h => ?_) h
        cases k with
        | zero => cases e <;> first | exact hq _ _ h | exact h
        | succ k =>
          cases e <;> first | exact h | skip
          obtain ⟨s3, q1, q2⟩ := h
          exact ⟨s3, q1, ih k s3 q2⟩
    · exact h
  | _, .scope _, _, _, _, _, h => h
  | _, .goto _, _, _, _, _, h => h
  | _, .refuse _, _, _, _, _, h => h

/-- A loop, by an invariant: a family of states and a measure. -/
theorem wp_loop {c : Code} {Q : Exit → St → Prop} {s : St} (hI : ∀ f args (J J' : PV → St → Prop) s, (∀ v s, J v s → J' v s) → I f args J s → I f args J' s)
    {ι : Type} (S : ι → St) (Inv : ι → Prop) (μ : ι → Nat) (i0 : ι) (h0 : Inv i0) (hs : Le.1 Le.2 s (S i0))
    (round : ∀ i, Inv i → wp P G C I Le c (thenQ (fun s' => ∃ i', Inv i' ∧ μ i' < μ i ∧ Le.1 Le.2 s' (S i')) Q) (S i)) : wp P G C I Le (.loop c) Q s := by
  refine ⟨S i0, hs, ?_⟩
  have key : ∀ n i, Inv i → μ i < n → Nat.rec (motive := fun _ => St → Prop) (fun _ => False) (fun _ ih s => wp P G C I Le c (thenQ (fun s' => ∃ s'', Le.1 Le.2 s' s'' ∧ ih s'') Q) s) n (S i) := by
    intro n
    induction n with
    | zero => intro i _ h; omega
    | succ n ih =>
      intro i hi hn
      refine wp_mono hI c _ _ _ (fun e s' h => ?_) (round i hi)
      cases e <;> first | (obtain ⟨i', h1, h2, h3⟩ := h; exact ⟨_, h3, ih i' h1 (by omega)⟩) | exact h
  exact ⟨_, key _ i0 h0 (Nat.lt_succ_self _)⟩
end


section
variable {P : Program} {G : Gl} {C : Contracts} {I : Inline} {Le : LeT} {Q : Exit → St → Prop} {s : St}
/-- A loop that has not been met yet. -/
def wpLoop (P : Program) (G : Gl) (C : Contracts) (I : Inline) (Le : LeT) (c : Code) (Q : Exit → St → Prop) (s : St) : Prop := wp P G C I Le (.loop c) Q s
theorem wpe_skip : wp P G C I Le .skip Q s = Q .normal s := rfl
theorem wpe_seq {a b : Code} : wp P G C I Le (.seq a b) Q s = wp P G C I Le a (thenQ (wp P G C I Le b Q) Q) s := rfl
theorem wpe_cond {c : Operand} {a b : Code} : wp P G C I Le (.cond c a b) Q s = (match ev G s.t c with
    | .bool t => (t = true → wp P G C I Le a Q s) ∧ (t = false → wp P G C I Le b Q s)
    | .anyb => wp P G C I Le a Q s ∧ wp P G C I Le b Q s
    | _ => False) := rfl
theorem wpe_block {id : Nat} {c : Code} : wp P G C I Le (.block id c) Q s = wp P G C I Le c (inBlockQ id Q) s := rfl
theorem wpe_loop {c : Code} : wp P G C I Le (.loop c) Q s = wpLoop P G C I Le c Q s := rfl
theorem wpe_exit {id : Nat} : wp P G C I Le (.exit id) Q s = Q (.exit id) s := rfl
theorem wpe_ret : wp P G C I Le .ret Q s = Q .ret s := rfl
theorem wpe_region {id : Nat} {ops : Array Oper} {D : Bool} : wp P G C I Le (.region id ops D) Q s = wpOps P G C I D ops.toList 0 [] ops.toList (Q .normal) s := rfl
theorem then_normal {K : St → Prop} : thenQ K Q .normal s = K s := rfl
theorem then_exit {K : St → Prop} {id : Nat} : thenQ K Q (.exit id) s = Q (.exit id) s := rfl
theorem then_ret {K : St → Prop} : thenQ K Q .ret s = Q .ret s := rfl
theorem inBlock_normal {id : Nat} : inBlockQ id Q .normal s = Q .normal s := rfl
theorem inBlock_exit {id id' : Nat} : inBlockQ id Q (.exit id') s = if id' = id then Q .normal s else Q (.exit id') s := rfl
theorem inBlock_ret {id : Nat} : inBlockQ id Q .ret s = Q .ret s := rfl
end

end Go.PI
