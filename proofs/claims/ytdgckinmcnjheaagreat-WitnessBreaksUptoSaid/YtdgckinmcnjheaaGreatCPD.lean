/-
  Long division: the estimate of a limb of the quotient. No program in sight.
-/
import Derived.Test.YtdgckinmcnjheaaGreatCPC
import Derived.OpenShut
import Derived.OpenVars
import Derived.Lib.LaidTab
set_option linter.unusedVariables false
set_option linter.unusedSimpArgs false
set_option linter.unnecessarySimpa false
namespace Go.PI
@[reducible] def brB (b : Bool) (A B : Prop) : Prop := match b with
  | true => A
  | false => B
inductive Sd where
 | ok
 | bad
def uJK (c : Prop) [Decidable c] : Sd := match decide c with
 | true => .ok
 | false => .bad
def sdB (b : Bool) : Sd := match b with
 | true => .ok
 | false => .bad
@[reducible] def brT (b : Bool) (A : Prop) : Prop := match sdB b with
  | .ok => A
  | .bad => False
@[reducible] def vCI (c : Prop) [Decidable c] (A : Prop) : Prop := match uJK c with
  | .ok => A
  | .bad => False
structure sideP (c : Prop) (A : Prop) : Prop where
 c : c
 k : A
@[reducible] def oK {α : Type} (o : Option α) (K : α → Prop) : Prop := match o with
  | some a => K a
  | none => False
structure ov (k : IntKind) (n : Int) (K : Int → Prop) : Prop where
 k : K (k.wrap n)
theorem brB_iff {b : Bool} {A B : Prop} : brB b A B ↔ (b = true → A) ∧ (b = false → B) := by cases b <;> simp [brB]
theorem uFR {b : Bool} {A B : Prop} (h1 : b = true → A) (h2 : b = false → B) : brB b A B := brB_iff.2 ⟨h1, h2⟩
theorem zJU {b : Bool} {A B : Prop} (h : brB b B A) : brB (!b) A B := by cases b <;> exact h
theorem vJH {b : Bool} {A : Prop} (h : b = true) (k : A) : brT b A := by subst h; exact k
theorem zAV {b : Bool} {A : Prop} (h : brT b A) : b = true ∧ A := by cases b; exact h.elim; exact ⟨rfl, h⟩
theorem zBL {c : Prop} [Decidable c] {A : Prop} (h : c) (k : A) : vCI c A := by unfold vCI uJK; rw [decide_eq_true h]; exact k
theorem zBK {c : Prop} [Decidable c] {A : Prop} (h : vCI c A) : c ∧ A := by
 unfold vCI uJK at h;by_cases hc : c
 ·rw [decide_eq_true hc] at h; exact ⟨hc, h⟩
 ·rw [decide_eq_false hc] at h; exact h.elim
theorem vN8 {c A : Prop} (h : sideP c A) : c ∧ A := ⟨h.c, h.k⟩
theorem vF3 {α : Type} {o : Option α} {K : α → Prop} {a : α} (h : o = some a) (k : K a) : oK o K := by subst h; exact k
theorem zAY {α : Type} {o : Option α} {K : α → Prop} (h : oK o K) : ∃ a, o = some a ∧ K a := by
 cases o with
 | none => exact h.elim
 | some a => exact ⟨a, rfl, h⟩
theorem vOL {k : IntKind} {n m : Int} {K : Int → Prop} (e : k.wrap n = m) (h : K m) : ov k n K := by subst e; exact ⟨h⟩
theorem vOM {n : Int} {K : Int → Prop} (h1 : -9223372036854775808 ≤ n ∧ n < 9223372036854775808) (h : K n) : ov .i64 n K := vOL (uJD h1.1 h1.2) h
theorem zDM {n : Int} {K : Int → Prop} (h1 : 0 ≤ n ∧ n < 18446744073709551616) (h : K n) : ov .u64 n K := vOL (uCB h1.1 h1.2) h
theorem zJ2 {n : Int} {K : Int → Prop} (h1 : 0 ≤ n ∧ n < 4294967296) (h : K n) : ov .u32 n K := vOL (uJC h1.1 h1.2) h
theorem zHL {k : IntKind} {n : Int} {K : Int → Prop} (h : ov k n K) : K (k.wrap n) := h.k
structure slK (es : List PV) (a b : Int) (K : List PV → Prop) : Prop where
 k : K ((es.take b.toNat).drop a.toNat)
theorem uGN {es es' : List PV} {a b : Int} {K : List PV → Prop} (e : (es.take b.toNat).drop a.toNat = es') (k : K es') : slK es a b K := by subst e; exact ⟨k⟩
theorem vW1 {es : List PV} {a b : Int} {K : List PV → Prop} (h : slK es a b K) : K ((es.take b.toNat).drop a.toNat) := h.k
theorem zCY {α : Type} {f : α → PV} {l l' : List α} {a b : Int} {K : List PV → Prop} (e : (l.take b.toNat).drop a.toNat = l') (k : K (l'.map f)) : slK (l.map f) a b K := uGN (by rw [← e, List.map_drop, List.map_take]) k
theorem zE9 {α : Type} {f : α → PV} {l : List α} {n : Nat} {A : Prop} (h : ∀ x, (f x).cells.length = n) (k : A) : sideP (∀ e' ∈ l.map f, e'.cells.length = n) A := ⟨fun e he => by obtain ⟨x, _, rfl⟩ := List.mem_map.1 he; exact h x, k⟩
def nth {α : Type} : List α → Nat → Option α
 | [], _ => none
 | a :: _, 0 => some a
 | _ :: l, n + 1 => nth l n
theorem zDZ {α : Type} : ∀ (l : List α) (i : Nat), nth l i = l[i]?
 | [], _ => by simp [nth]
 | a :: l, 0 => by simp [nth]
 | a :: l, n + 1 => by simp [nth, zDZ l n]
def ts (t : Tm) (d : Nat) (v : PV) (j : Nat) : PV := match Nat.beq j d with
 | true => v
 | false => t j
def hs (h : Hp) (r : Nat) (b : Option Blk) (j : Nat) : Option Blk := match Nat.beq j r with
 | true => b
 | false => h j
def vPF : List Nat → Nat → Bool
 | [], _ => false
 | k :: ks, j => match Nat.beq j k with
   | true => true
   | false => vPF ks j
def fs (z : Fz) (ks : List Nat) (j : Nat) : Bool := match vPF ks j with
 | true => true
 | false => z j
theorem zE6 (j d : Nat) : Nat.beq j d = decide (j = d) := by
 by_cases h : j = d
 ·subst h; simp
 ·rw [decide_eq_false h, Bool.eq_false_iff]; intro e; exact h (Nat.eq_of_beq_eq_true e)
theorem vN3 {t : Tm} {d : Nat} {v : PV} : ts t d v = vER t d v := by
 funext j
 unfold ts vER;rw [zE6];by_cases h : j = d <;> simp [h]
theorem zET {h : Hp} {d : Nat} {v : Option Blk} : hs h d v = hset h d v := by
 funext j
 unfold hs hset;rw [zE6];by_cases h : j = d <;> simp [h]
theorem zJI : ∀ (ks : List Nat) (j : Nat), vPF ks j = ks.contains j
 | [], _ => by simp [vPF]
 | k :: ks, j => by
   unfold vPF;rw [zE6, zJI ks j, List.contains_cons];by_cases h : j = k
   ·simp [h]
   ·simp [h]
theorem uHZ {z : Fz} {ks : List Nat} : fs z ks = vBQ z ks := by
 funext j
 unfold fs vBQ;rw [zJI];cases ks.contains j <;> simp
def fN (n : Nat) (K : Nat → Prop) : Prop := match n with
 | 0 => K 0
 | m + 1 => K (m + 1)
theorem zIG {n : Nat} {K : Nat → Prop} : fN n K = K n := by cases n <;> rfl
def bq (a b : Bool) : Bool := match a, b with
 | true, true => true
 | false, false => true
 | _, _ => false
theorem zIU {a b : Bool} : bq a b = true ↔ a = b := by cases a <;> cases b <;> simp [bq]
def an (a b : Bool) : Bool := match a with
 | true => b
 | false => false
theorem zB7 {a b : Bool} : an a b = true ↔ a = true ∧ b = true := by cases a <;> simp [an]
theorem zCL {a b : Nat} : Nat.beq a b = true ↔ a = b := by rw [zE6]; simp
theorem zHT {a b : Nat} : Nat.ble a b = true ↔ a ≤ b := by rw [Nat.ble_eq]
def nz (n : Nat) : Bool := match n with
 | 0 => false
 | _ + 1 => true
theorem zEY {n : Nat} : nz n = true ↔ n ≠ 0 := by cases n <;> simp [nz]
def no (b : Bool) : Bool := match b with
 | true => false
 | false => true
theorem uA8 {b : Bool} : no b = true ↔ b = false := by cases b <;> simp [no]
def fL : List PV → (List PV → Prop) → Prop
 | [], K => K []
 | c :: cs, K => fL cs fun l => K (c :: l)
theorem vK3 : ∀ {l : List PV} {K : List PV → Prop}, fL l K = K l
 | [], _ => rfl
 | c :: cs, K => by unfold fL; rw [vK3]
@[reducible] def force (v : PV) (K : PV → Prop) : Prop := match v with
  | .int k n => K (.int k n)
  | .bool b => K (.bool b)
  | .str s => K (.str s)
  | .agg cs => fL cs fun l => K (.agg l)
  | .imm es => K (.imm es)
  | .nilsl => K .nilsl
  | .own r off len => K (.own r off len)
  | .ptr r i off => K (.ptr r i off)
  | .cptr e off => K (.cptr e off)
  | .func fn f c => K (.func fn f c)
  | .nilfunc => K .nilfunc
  | .tup vs => fL vs fun l => K (.tup l)
  | .anyb => K .anyb
  | .any => K .any
theorem force_eq {v : PV} {K : PV → Prop} : force v K = K v := by cases v <;> simp [force, vK3]
abbrev KK := PV → Hp → List Nat → List Nat → Prop
abbrev Ti := TypeId → Option TI
section
variable (T : Ti) (G : Gl)
def evs (t : Tm) : List Operand → (List PV → Prop) → Prop
 | [], K => K []
 | x :: xs, K => force (ev G t x) fun v => evs t xs fun vs => K (v :: vs)
theorem vIU {t : Tm} : ∀ {l : List Operand} {K : List PV → Prop}, evs G t l K = K (l.map (ev G t))
 | [], _ => rfl
 | x :: xs, K => by unfold evs; rw [force_eq, vIU]; rfl
def evp (t : Tm) : List (Nat × Operand) → (List (Nat × PV) → Prop) → Prop
 | [], K => K []
 | (i, x) :: xs, K => force (ev G t x) fun v => evp t xs fun vs => K ((i, v) :: vs)
theorem vM2 {t : Tm} : ∀ {l : List (Nat × Operand)} {K : List (Nat × PV) → Prop}, evp G t l K = K (l.map fun (j, x) => (j, ev G t x))
 | [], _ => rfl
 | (i, x) :: xs, K => by unfold evp; rw [force_eq, vM2]; rfl
def vKB (e : PV) (off n : Nat) (agg : Bool) (K : PV → Prop) : Prop :=
 brB (an (Nat.beq off 0) (an (Nat.beq e.cells.length n) (bq e.isAgg agg))) (force e K)
  (brT (Nat.ble (off + n) e.cells.length) (brB agg (fL ((e.cells.drop off).take n) fun l => K (.agg l)) (brT (Nat.beq n 1) (oK (nth e.cells off) fun v => force v K))))
theorem zFC {e : PV} {off n : Nat} {agg : Bool} {K : PV → Prop} (h : vKB e off n agg K) : ∃ v, part e off n agg = some v ∧ K v := by
 unfold vKB at h;unfold part;by_cases h1 : off = 0 ∧ e.cells.length = n ∧ e.isAgg = agg
 ·have : an (Nat.beq off 0) (an (Nat.beq e.cells.length n) (bq e.isAgg agg)) = true := by simp only [zB7, zCL, zIU]; exact h1
  rw [this] at h;rw [if_pos h1];exact ⟨e, rfl, by rw [← force_eq (v := e) (K := K)]; exact h⟩
 ·have : an (Nat.beq off 0) (an (Nat.beq e.cells.length n) (bq e.isAgg agg)) = false := by
   rw [Bool.eq_false_iff]; intro h2; simp only [zB7, zCL, zIU] at h2; exact h1 h2
  rw [this] at h;rw [if_neg h1];obtain ⟨h2, h⟩ := zAV h;rw [zHT] at h2;rw [if_pos h2];cases agg with
  | true => exact ⟨_, rfl, by rw [← vK3 (l := (e.cells.drop off).take n) (K := fun l => K (.agg l))]; exact h⟩
  | false =>
    obtain ⟨h3, h⟩ := zAV h;obtain ⟨v, h4, h⟩ := zAY h;rw [zCL] at h3;rw [zDZ] at h4;refine ⟨v, by simp [h3, h4], by rw [← force_eq (v := v) (K := K)]; exact h⟩
def vJ1 (e : PV) (off : Nat) (v : PV) (K : PV → Prop) : Prop :=
 brB (an (Nat.beq off 0) (an (Nat.beq e.cells.length v.cells.length) (bq e.isAgg v.isAgg))) (K v)
  (brT (an (Nat.ble (off + v.cells.length) e.cells.length) e.isAgg) (fL (e.cells.take off ++ v.cells ++ e.cells.drop (off + v.cells.length)) fun l => K (.agg l)))
theorem vHS {e : PV} {off : Nat} {v : PV} {K : PV → Prop} (h : vJ1 e off v K) : ∃ e', splice e off v = some e' ∧ K e' := by
 unfold vJ1 at h;unfold splice;by_cases h1 : off = 0 ∧ e.cells.length = v.cells.length ∧ e.isAgg = v.isAgg
 ·have : an (Nat.beq off 0) (an (Nat.beq e.cells.length v.cells.length) (bq e.isAgg v.isAgg)) = true := by simp only [zB7, zCL, zIU]; exact h1
  rw [this] at h;rw [if_pos h1];exact ⟨v, rfl, h⟩
 ·have : an (Nat.beq off 0) (an (Nat.beq e.cells.length v.cells.length) (bq e.isAgg v.isAgg)) = false := by
   rw [Bool.eq_false_iff]; intro h2; simp only [zB7, zCL, zIU] at h2; exact h1 h2
  rw [this] at h;rw [if_neg h1];obtain ⟨h2, h⟩ := zAV h;rw [zB7, zHT] at h2;rw [if_pos h2];exact ⟨_, rfl, by rw [← vK3 (l := e.cells.take off ++ v.cells ++ e.cells.drop (off + v.cells.length)) (K := fun l => K (.agg l))]; exact h⟩
def vIR (fs : List (Nat × Nat × Nat)) : List PV → List (Nat × PV) → (List PV → Prop) → Prop
 | cells, [], K => K cells
 | cells, (i, v) :: rest, K => oK (nth fs i) fun f =>
   brT (an v.storable (an (Nat.beq v.cells.length f.2.2) (Nat.ble (f.1 + f.2.2) cells.length))) (fL (cells.take f.1 ++ v.cells ++ cells.drop (f.1 + f.2.2)) fun cs => vIR fs cs rest K)
theorem zHO {fs : List (Nat × Nat × Nat)} : ∀ {parts : List (Nat × PV)} {cells : List PV} {K : List PV → Prop}, vIR fs cells parts K → ∃ cs, vIS fs cells parts = some cs ∧ K cs
 | [], cells, K, h => ⟨cells, rfl, h⟩
 | (i, v) :: rest, cells, K, h => by
   unfold vIR at h;obtain ⟨f, h1, h⟩ := zAY h;obtain ⟨h2, h⟩ := zAV h;rw [vK3] at h;obtain ⟨cs, h3, h4⟩ := zHO h;obtain ⟨a, b, c⟩ := f;simp only [zB7, zCL, zHT] at h2;rw [zDZ] at h1;refine ⟨cs, ?_, h4⟩;unfold vIS;rw [h1];dsimp only;rw [if_pos h2];exact h3
def vM0 (sz : Nat) (agg : Bool) : List PV → List (Nat × PV) → (List PV → Prop) → Prop
 | els, [], K => K els
 | els, (i, v) :: rest, K => brT (an v.storable (an (Nat.beq v.cells.length sz) (an (bq v.isAgg agg) (Nat.ble (i + 1) els.length)))) (fL (els.set i v) fun l => vM0 sz agg l rest K)
theorem zL8 {sz : Nat} {agg : Bool} : ∀ {parts : List (Nat × PV)} {els : List PV} {K : List PV → Prop}, vM0 sz agg els parts K → ∃ cs, vK1 sz agg els parts = some cs ∧ K cs
 | [], els, K, h => ⟨els, rfl, h⟩
 | (i, v) :: rest, els, K, h => by
   unfold vM0 at h;obtain ⟨h2, h⟩ := zAV h;rw [vK3] at h;obtain ⟨cs, h3, h4⟩ := zL8 h;simp only [zB7, zCL, zHT, zIU] at h2;refine ⟨cs, ?_, h4⟩;unfold vK1;rw [if_pos ⟨h2.1, h2.2.1, h2.2.2.1, h2.2.2.2⟩];exact h3
def uB7 (sz : Nat) (agg : Bool) : List PV → Bool
 | [] => true
 | e :: es => an (Nat.beq e.cells.length sz) (an (bq e.isAgg agg) (uB7 sz agg es))
theorem allE_iff {sz : Nat} {agg : Bool} : ∀ {es : List PV}, uB7 sz agg es = true ↔ ∀ e ∈ es, e.cells.length = sz ∧ e.isAgg = agg
 | [] => by simp [uB7]
 | e :: es => by
   unfold uB7;rw [zB7, zB7, zCL, zIU, allE_iff (es := es)];simp [and_assoc]
theorem vNY {α : Type} {sz : Nat} {agg : Bool} {f : α → PV} (h : ∀ x, (f x).cells.length = sz ∧ (f x).isAgg = agg) (l : List α) : uB7 sz agg (l.map f) = true :=
 allE_iff.2 fun e he => by obtain ⟨x, _, rfl⟩ := List.mem_map.1 he; exact h x
def kk (k k' : IntKind) : Bool := decide (k = k')
def vD1 (k : IntKind) (b : Int) : Int := 2 ^ (min b.toNat k.bits)
def vC1 (op : BinOp) (k : IntKind) (x y : Int) : Int := match op with
 | .and => k.wrap (BitVec.ofInt k.bits x &&& BitVec.ofInt k.bits y).toNat
 | .or => k.wrap (BitVec.ofInt k.bits x ||| BitVec.ofInt k.bits y).toNat
 | .xor => k.wrap (BitVec.ofInt k.bits x ^^^ BitVec.ofInt k.bits y).toNat
 | .andNot => k.wrap (BitVec.ofInt k.bits x &&& ~~~BitVec.ofInt k.bits y).toNat
 | _ => 0
noncomputable def vDJ : BinOp → IntKind → Int → Int → Int := Classical.choose (⟨vC1, rfl⟩ : ∃ f, f = vC1)
noncomputable def vCW : IntKind → Int → Int := Classical.choose (⟨vD1, rfl⟩ : ∃ f, f = vD1)
theorem zDL : vDJ = vC1 := Classical.choose_spec (⟨vC1, rfl⟩ : ∃ f, f = vC1)
theorem zGQ : vCW = vD1 := Classical.choose_spec (⟨vD1, rfl⟩ : ∃ f, f = vD1)
attribute [irreducible] vDJ vCW
def uKO (op : BinOp) (k k' : IntKind) (a b : Int) (K : PV → Prop) : Prop := match op with
 | .add => brT (kk k k') (ov k (a + b) fun m => K (.int k m))
 | .sub => brT (kk k k') (ov k (a - b) fun m => K (.int k m))
 | .mul => brT (kk k k') (ov k (a * b) fun m => K (.int k m))
 | .eql => brT (kk k k') (K (.bool (a == b)))
 | .neq => brT (kk k k') (K (.bool (a != b)))
 | .lss => brT (kk k k') (K (.bool (decide (a < b))))
 | .leq => brT (kk k k') (K (.bool (decide (a ≤ b))))
 | .gtr => brT (kk k k') (K (.bool (decide (a > b))))
 | .geq => brT (kk k k') (K (.bool (decide (a ≥ b))))
 | .quo => brT (kk k k') (vCI (b ≠ 0) (ov k (a.tdiv b) fun m => K (.int k m)))
 | .rem => brT (kk k k') (vCI (b ≠ 0) (K (.int k (a.tmod b))))
 | .shl => vCI (0 ≤ b) (ov k (a * vCW k b) fun m => K (.int k m))
 | .shr => vCI (0 ≤ b) (K (.int k (a.fdiv (vCW k b))))
 | .and | .or | .xor | .andNot => brT (kk k k') (K (.int k (vDJ op k a b)))
theorem zEL {k k' : IntKind} : kk k k' = true ↔ k = k' := by unfold kk; simp
@[reducible] def uBA (es : List PV) (A B : Prop) : Prop := match es with
  | [] => A
  | _ :: _ => B
@[reducible] def uHM (len : Nat) (A B : Prop) : Prop := match len with
  | 0 => A
  | _ + 1 => B
theorem vPD {α : Type} {f : α → PV} {l : List α} {A B : Prop} (h1 : l = [] → A) (h2 : l ≠ [] → B) : uBA (l.map f) A B := by
 cases l with
 | nil => exact h1 rfl
 | cons => exact h2 (by simp)
def vDP (xt : TypeId) (ng : Bool) (v : PV) (K : PV → Prop) : Prop := oK (T xt) fun i => brT i.isSlice (match v with
 | .nilsl => K (.bool (no ng))
 | .imm es => uBA es (K .anyb) (K (.bool ng))
 | .own _ _ len => uHM len (K .anyb) (K (.bool ng))
 | _ => False)
def uJX (op : BinOp) (xt : TypeId) (x y : PV) (K : PV → Prop) : Prop := match x, y with
 | .int k a, .int k' b => uKO op k k' a b K
 | .bool a, .bool b => (match op with
   | .eql => oK (T xt) fun i => brT i.isBool (K (.bool (a == b)))
   | .neq => oK (T xt) fun i => brT i.isBool (K (.bool (a != b)))
   | _ => False)
 | .agg as, .agg bs => (match op with
   | .eql => oK (T xt) fun i => brT (an i.eqInts (an (Nat.beq as.length i.fields.length) (Nat.beq bs.length i.fields.length))) (oK (vB0 as bs) fun r => K (.bool r))
   | .neq => oK (T xt) fun i => brT (an i.eqInts (an (Nat.beq as.length i.fields.length) (Nat.beq bs.length i.fields.length))) (oK (vB0 as bs) fun r => K (.bool (!r)))
   | _ => False)
 | .nilsl, .nilsl => (match op with
   | .eql => vDP T xt false .nilsl K
   | .neq => vDP T xt true .nilsl K
   | _ => False)
 | .imm es, .nilsl => (match op with
   | .eql => vDP T xt false (.imm es) K
   | .neq => vDP T xt true (.imm es) K
   | _ => False)
 | .own r off len, .nilsl => (match op with
   | .eql => vDP T xt false (.own r off len) K
   | .neq => vDP T xt true (.own r off len) K
   | _ => False)
 | _, _ => False
def uF2 (t : Tm) (o : Option Operand) (d : Int) (K : Int → Prop) : Prop := match o with
 | none => K d
 | some o => (match ev G t o with
   | .int _ n => K n
   | _ => False)
def uJJ (h : Hp) (v : PV) (K : List PV → List Nat → Prop) : Prop := match v with
 | .imm es => K es []
 | .nilsl => K [] []
 | .own r off len => oK (h r) fun b => vCI (off + len ≤ b.els.length) (K ((b.els.drop off).take len) [r])
 | _ => False
def vOp (z : Fz) (key : Nat) (op : Op) (t : Tm) (h : Hp) (K : KK) : Prop :=
 match op with
 | .move x | .assign x => force (ev G t x) fun v => K v h [] []
 | .pick c a b => (match ev G t c with
   | .bool v => brB v (force (ev G t a) fun v => K v h [] []) (force (ev G t b) fun v => K v h [] [])
   | _ => False)
 | .alloc e => oK (T e) fun i => brT i.zok (K (.ptr key 0 0) (hs h key (some ⟨[i.zero], i.zero.cells.length, i.zero.isAgg⟩)) [] [key])
 | .box _ x => force (ev G t x) fun v => brT v.storable (K (.ptr key 0 0) (hs h key (some ⟨[v], v.cells.length, v.isAgg⟩)) [] [key])
 | .build ty parts => oK (T ty) fun i => (match i.alen with
   | 0 => brT (an i.zok i.isStruct) (evp G t parts.toList fun ps => vIR i.fields i.zero.cells ps fun cs => K (.agg cs) h [] [])
   | n + 1 => oK (T i.elem) fun e => brT (an i.zok (nz e.size)) (evp G t parts.toList fun ps => vIR ((List.range (n + 1)).map fun j => (j * e.size, i.elem, e.size)) i.zero.cells ps fun cs => K (.agg cs) h [] []))
 | .buildSlice ty len parts => oK (T ty) fun i => oK (T i.elem) fun e =>
   brT (an (Nat.ble (len * e.size) (2 ^ 24)) (an e.zok (an i.isSlice (an (Nat.beq e.zero.cells.length e.size) (an (bq e.zero.isAgg e.agg) (nz e.size))))))
    (evp G t parts.toList fun ps => vM0 e.size e.agg (List.replicate len e.zero) ps fun els => K (.own key 0 len) (hs h key (some ⟨els, e.size, e.agg⟩)) [] [key])
 | .load ty x => oK (T ty) fun i => (match ev G t x with
   | .ptr r j off => oK (h r) fun b => oK (nth b.els j) fun e => vKB e off i.size i.agg fun v => K v h [r] []
   | .cptr e off => vKB e off i.size i.agg fun v => K v h [] []
   | _ => False)
 | .store ty x y => force (ev G t y) fun v => oK (T ty) fun i => (match ev G t x with
   | .ptr r j off => oK (h r) fun b => oK (nth b.els j) fun e => brT (an (no (z r)) (an v.storable (an (Nat.beq v.cells.length i.size) (nz i.size)))) <|
    vJ1 e off v fun e' => K (.tup []) (hs h r (some { b with els := b.els.set j e' })) [r] [r]
   | _ => False)
 | .nilCheck x => (match ev G t x with
   | .ptr r i off => K (.ptr r i off) h [] []
   | .cptr e off => K (.cptr e off) h [] []
   | _ => False)
 | .binOp op xt x y _ => uJX T op xt (ev G t x) (ev G t y) fun v => K v h [] []
 | .unOp op _ x => (match op, ev G t x with
   | .not, .bool b => K (.bool (!b)) h [] []
   | .neg, .int k n => ov k (0 - n) fun m => K (.int k m) h [] []
   | _, _ => False)
 | .convert src dst x => oK (T src) fun i => oK (T dst) fun j => (match i.kind, j.kind, ev G t x with
   | some _, some k, .int _ n => ov k n fun m => K (.int k m) h [] []
   | _, _, _ => False)
 | .makeFunc fn first captured => evs G t first.toList fun f => evs G t captured.toList fun c => K (.func fn f c) h [] []
 | .makeSlice ty l c => oK (T ty) fun i => oK (T i.elem) fun e => (match ev G t l, ev G t c with
   | .int .i64 n, .int .i64 m => brT (an (Nat.ble e.bytes 4096) (an e.zok (an i.isSlice (an (Nat.beq e.zero.cells.length e.size) (an (bq e.zero.isAgg e.agg) (nz e.size)))))) <| vCI (n = m ∧ 0 ≤ n ∧ n ≤ 2 ^ 32) (K (.own key 0 n.toNat) (hs h key (some ⟨List.replicate n.toNat e.zero, e.size, e.agg⟩)) [] [key])
   | _, _ => False)
 | .slice ty x lo hi none => oK (T ty) fun i => oK (T i.elem) fun e => (match ev G t x with
   | .imm es => uF2 G t lo 0 fun a => uF2 G t hi es.length fun b => brT (an i.isSlice (nz e.size)) (sideP (∀ e' ∈ es, e'.cells.length = e.size) (vCI (0 ≤ a ∧ a ≤ b ∧ b ≤ es.length) (slK es a b fun l => K (.imm l) h [] [])))
   | .own r off len => uF2 G t lo 0 fun a => uF2 G t hi len fun b => oK (h r) fun k => brT (an i.isSlice (an (Nat.beq k.sz e.size) (nz e.size))) (vCI (0 ≤ a ∧ a ≤ b ∧ b ≤ len) (K (.own r (off + a.toNat) (b.toNat - a.toNat)) h [r] []))
   | _ => False)
 | .fieldAddr s x f => oK (T s) fun i => oK (nth i.fields f) fun q => (match ev G t x with
   | .ptr r j off => brT (nz q.2.2) (K (.ptr r j (off + q.1)) h [] [])
   | .cptr e off => brT (nz q.2.2) (K (.cptr e (off + q.1)) h [] [])
   | _ => False)
 | .field s x f => oK (T s) fun i => oK (nth i.fields f) fun q => oK (T q.2.1) fun u => (match ev G t x with
   | .agg cs => vKB (.agg cs) q.1 u.size u.agg fun v => K v h [] []
   | _ => False)
 | .indexAddr ty x ix => oK (T ty) fun i => oK (T i.elem) fun e => (match ev G t x, ev G t ix with
   | .imm es, .int _ n => brT (an i.isSlice (nz e.size)) (vCI (0 ≤ n ∧ n < es.length) (oK (nth es n.toNat) fun d => brT (Nat.beq d.cells.length e.size) (force d fun d => K (.cptr d 0) h [] [])))
   | .own r off len, .int _ n => brT (an i.isSlice (nz e.size)) (vCI (0 ≤ n ∧ n < len) (oK (h r) fun b => brT (Nat.beq b.sz e.size) (K (.ptr r (off + n.toNat) 0) h [r] [])))
   | .cptr d off, .int _ n => brT (an (nz i.alen) (nz e.size)) (vCI (0 ≤ n ∧ n < i.alen) (K (.cptr d (off + n.toNat * e.size)) h [] []))
   | .ptr r j off, .int _ n => brT (an (nz i.alen) (nz e.size)) (vCI (0 ≤ n ∧ n < i.alen) (K (.ptr r j (off + n.toNat * e.size)) h [] []))
   | _, _ => False)
 | .index ty x ix => oK (T ty) fun i => (match ev G t x, ev G t ix with
   | .agg cs, .int _ n => oK (T i.elem) fun e => brT (an (nz i.alen) (nz e.size)) (vCI (0 ≤ n ∧ n < i.alen) (vKB (.agg cs) (n.toNat * e.size) e.size e.agg fun v => K v h [] []))
   | .str s, .int _ n => brT i.isStr (vCI (0 ≤ n) (oK (s[n.toNat]?) fun b => K (.int .u8 b.toNat) h [] []))
   | _, _ => False)
 | .extract x i => (match ev G t x with
   | .tup vs => oK (nth vs i) fun v => force v fun v => K v h [] []
   | _ => False)
 | .call { callee := .builtin .len, args := ⟨[x]⟩, argTypes := ⟨[ty]⟩ } => oK (T ty) fun i => brT i.isSlice (match ev G t x with
   | .imm es => K (.int .i64 es.length) h [] []
   | .own _ _ len => K (.int .i64 len) h [] []
   | .nilsl => K (.int .i64 0) h [] []
   | _ => False)
 | .call { callee := .builtin .max, args := ⟨[x, y]⟩, argTypes := _ } => (match ev G t x, ev G t y with
   | .int k a, .int _ b => K (.int k (if b > a then b else a)) h [] []
   | _, _ => False)
 | .call { callee := .builtin .min, args := ⟨[x, y]⟩, argTypes := _ } => (match ev G t x, ev G t y with
   | .int k a, .int _ b => K (.int k (if b < a then b else a)) h [] []
   | _, _ => False)
 | .call { callee := .builtin .append, args := ⟨[x, y]⟩, argTypes := ⟨[ty, ty2]⟩ } => oK (T ty) fun i => oK (T ty2) fun i2 => oK (T i.elem) fun e =>
   uJJ h (ev G t y) fun es ks => brT (an (uB7 e.size e.agg es) (an (Nat.ble e.bytes 4096) (an e.zok (an i.isSlice (an i2.isSlice (an (Nat.beq e.zero.cells.length e.size) (nz e.size))))))) (match ev G t x with
    | .nilsl => vCI (es.length ≤ 2 ^ 32) (K (.own key 0 es.length) (hs h key (some ⟨es, e.size, e.agg⟩)) ks [key])
    | .own r off len => oK (h r) fun b => brT (an (Nat.beq b.sz e.size) (an (bq b.agg e.agg) (an (no (z r)) (no (vPF ks r))))) (vCI (off = 0 ∧ len = b.els.length ∧ len + es.length ≤ 2 ^ 32)
     (K (.own key 0 (len + es.length)) (hs (hs h r none) key (some ⟨b.els ++ es, e.size, e.agg⟩)) (r :: ks) [r, key]))
    | _ => False)
 | _ => False
end
section
variable {P : Program} {T : Ti} {G : Gl}
theorem zAS {c : Prop} [Decidable c] {x : Res} {r : PV × Hp × List Nat × List Nat} (hc : c) (hx : x = some r) : need c x = some r := by unfold need; rw [if_pos hc]; exact hx
theorem zDS (hT : ∀ i x, T i = some x → vA1 P i = x) {xt : TypeId} {ng : Bool} {v : PV} {K : PV → Prop} (h : vDP T xt ng v K) :
 (vA1 P xt).isSlice = true ∧ ∃ r, isNil v = some r ∧ K (if ng then uJP r else r) := by
 unfold vDP at h;obtain ⟨i, h1, h⟩ := zAY h;obtain ⟨h2, h⟩ := zAV h;rw [hT _ _ h1];refine ⟨h2, ?_⟩;cases v with
 | nilsl => exact ⟨_, rfl, by cases ng <;> exact h⟩
 | imm es =>
   cases es with
   | nil => exact ⟨_, rfl, by cases ng <;> exact h⟩
   | cons => exact ⟨_, rfl, by cases ng <;> exact h⟩
 | own r off len =>
   cases len with
   | zero => exact ⟨.anyb, by simp [isNil], by cases ng <;> exact h⟩
   | succ n => exact ⟨.bool false, by simp [isNil], by cases ng <;> exact h⟩
 | _ => exact h.elim
theorem vV9 (hT : ∀ i x, T i = some x → vA1 P i = x) {op : BinOp} {xt yt : TypeId} {x y : Operand} {z : Fz} {key : Nat} {t : Tm} {h : Hp} {K : PV → Prop} (hv : uJX T op xt (ev G t x) (ev G t y) K) :
 ∃ v, vA0 P G z key (.binOp op xt x y yt) t h = some (v, h, [], []) ∧ K v := by
 unfold uJX at hv;simp only [vA0]
 split at hv
 ·rename_i k a k' b e1 e2
  rw [e1, e2];dsimp only;cases op with
  | add => obtain ⟨h1, hv⟩ := zAV hv; rw [zEL] at h1; rw [if_pos h1]; exact ⟨_, rfl, zHL hv⟩
  | sub => obtain ⟨h1, hv⟩ := zAV hv; rw [zEL] at h1; rw [if_pos h1]; exact ⟨_, rfl, zHL hv⟩
  | mul => obtain ⟨h1, hv⟩ := zAV hv; rw [zEL] at h1; rw [if_pos h1]; exact ⟨_, rfl, zHL hv⟩
  | quo => obtain ⟨h1, hv⟩ := zAV hv; rw [zEL] at h1; rw [if_pos h1]; obtain ⟨h2, hv⟩ := zBK hv; exact ⟨_, zAS h2 rfl, zHL hv⟩
  | rem => obtain ⟨h1, hv⟩ := zAV hv; rw [zEL] at h1; rw [if_pos h1]; obtain ⟨h2, hv⟩ := zBK hv; exact ⟨_, zAS h2 rfl, hv⟩
  | and => obtain ⟨h1, hv⟩ := zAV hv; rw [zEL] at h1; rw [if_pos h1]; rw [zDL] at hv; unfold vC1 at hv; exact ⟨_, rfl, hv⟩
  | or => obtain ⟨h1, hv⟩ := zAV hv; rw [zEL] at h1; rw [if_pos h1]; rw [zDL] at hv; unfold vC1 at hv; exact ⟨_, rfl, hv⟩
  | xor => obtain ⟨h1, hv⟩ := zAV hv; rw [zEL] at h1; rw [if_pos h1]; rw [zDL] at hv; unfold vC1 at hv; exact ⟨_, rfl, hv⟩
  | andNot => obtain ⟨h1, hv⟩ := zAV hv; rw [zEL] at h1; rw [if_pos h1]; rw [zDL] at hv; unfold vC1 at hv; exact ⟨_, rfl, hv⟩
  | shl =>
    obtain ⟨h2, hv⟩ := zBK hv;have hv := zHL hv;rw [zGQ] at hv; unfold vD1 at hv;by_cases e : k = k'
    ·rw [if_pos e]; exact ⟨_, zAS h2 rfl, hv⟩
    ·rw [if_neg e]; exact ⟨_, zAS h2 rfl, hv⟩
  | shr =>
    obtain ⟨h2, hv⟩ := zBK hv;rw [zGQ] at hv; unfold vD1 at hv;by_cases e : k = k'
    ·rw [if_pos e]; exact ⟨_, zAS h2 rfl, hv⟩
    ·rw [if_neg e]; exact ⟨_, zAS h2 rfl, hv⟩
  | eql => obtain ⟨h1, hv⟩ := zAV hv; rw [zEL] at h1; rw [if_pos h1]; exact ⟨_, rfl, hv⟩
  | neq => obtain ⟨h1, hv⟩ := zAV hv; rw [zEL] at h1; rw [if_pos h1]; exact ⟨_, rfl, hv⟩
  | lss => obtain ⟨h1, hv⟩ := zAV hv; rw [zEL] at h1; rw [if_pos h1]; exact ⟨_, rfl, hv⟩
  | leq => obtain ⟨h1, hv⟩ := zAV hv; rw [zEL] at h1; rw [if_pos h1]; exact ⟨_, rfl, hv⟩
  | gtr => obtain ⟨h1, hv⟩ := zAV hv; rw [zEL] at h1; rw [if_pos h1]; exact ⟨_, rfl, hv⟩
  | geq => obtain ⟨h1, hv⟩ := zAV hv; rw [zEL] at h1; rw [if_pos h1]; exact ⟨_, rfl, hv⟩
 ·rename_i a b e1 e2
  rw [e1, e2];cases op with
  | eql => obtain ⟨i, h1, hv⟩ := zAY hv; obtain ⟨h2, hv⟩ := zAV hv; exact ⟨_, zAS (by rw [hT _ _ h1]; exact h2) rfl, hv⟩
  | neq => obtain ⟨i, h1, hv⟩ := zAY hv; obtain ⟨h2, hv⟩ := zAV hv; exact ⟨_, zAS (by rw [hT _ _ h1]; exact h2) rfl, hv⟩
  | _ => exact hv.elim
 ·rename_i as bs e1 e2
  rw [e1, e2];cases op with
  | eql =>
    obtain ⟨i, h1, hv⟩ := zAY hv; obtain ⟨h2, hv⟩ := zAV hv; obtain ⟨r, h3, hv⟩ := zAY hv;simp only [zB7, zCL] at h2;exact ⟨_, zAS (by rw [hT _ _ h1]; exact h2) (by rw [h3]; rfl), hv⟩
  | neq =>
    obtain ⟨i, h1, hv⟩ := zAY hv; obtain ⟨h2, hv⟩ := zAV hv; obtain ⟨r, h3, hv⟩ := zAY hv;simp only [zB7, zCL] at h2;exact ⟨_, zAS (by rw [hT _ _ h1]; exact h2) (by rw [h3]; rfl), hv⟩
  | _ => exact hv.elim
 ·rename_i e1 e2
  rw [e1, e2];cases op with
  | eql => obtain ⟨h1, r, h2, h3⟩ := zDS hT hv; exact ⟨_, zAS h1 (by rw [h2]; rfl), h3⟩
  | neq => obtain ⟨h1, r, h2, h3⟩ := zDS hT hv; exact ⟨_, zAS h1 (by rw [h2]; rfl), h3⟩
  | _ => exact hv.elim
 ·rename_i es e1 e2
  rw [e1, e2];cases op with
  | eql => obtain ⟨h1, r, h2, h3⟩ := zDS hT hv; exact ⟨_, zAS h1 (by rw [h2]; rfl), h3⟩
  | neq => obtain ⟨h1, r, h2, h3⟩ := zDS hT hv; exact ⟨_, zAS h1 (by rw [h2]; rfl), h3⟩
  | _ => exact hv.elim
 ·rename_i r0 off len e1 e2
  rw [e1, e2];cases op with
  | eql => obtain ⟨h1, r, h2, h3⟩ := zDS hT hv; exact ⟨_, zAS h1 (by rw [h2]; rfl), h3⟩
  | neq => obtain ⟨h1, r, h2, h3⟩ := zDS hT hv; exact ⟨_, zAS h1 (by rw [h2]; rfl), h3⟩
  | _ => exact hv.elim
 ·exact hv.elim
theorem zH2 {t : Tm} {o : Option Operand} {d : Int} {K : Int → Prop} (h : uF2 G t o d K) : ∃ n, ((o = none ∧ n = d) ∨ ∃ x k, o = some x ∧ ev G t x = .int k n) ∧ K n := by
 unfold uF2 at h;cases o with
 | none => exact ⟨d, Or.inl ⟨rfl, rfl⟩, h⟩
 | some o =>
   dsimp only at h
   split at h
   ·rename_i k n e; exact ⟨n, Or.inr ⟨o, k, rfl, e⟩, h⟩
   ·exact h.elim
theorem vQO {h : Hp} {v : PV} {K : List PV → List Nat → Prop} (hv : uJJ h v K) : ∃ es ks, vHR h v = some (es, ks) ∧ K es ks := by
 unfold uJJ at hv
 split at hv
 ·exact ⟨_, _, rfl, hv⟩
 ·exact ⟨_, _, rfl, hv⟩
 ·obtain ⟨b, h1, hv⟩ := zAY hv
  obtain ⟨h2, hv⟩ := zBK hv;exact ⟨_, _, by simp [vHR, h1, h2], hv⟩
 ·exact hv.elim
theorem vQJ (hT : ∀ i x, T i = some x → vA1 P i = x) {z : Fz} {key : Nat} {op : Op} {t : Tm} {h : Hp} {K : KK} (hv : vOp T G z key op t h K) :
 ∃ v h' rd wr, vA0 P G z key op t h = some (v, h', rd, wr) ∧ K v h' rd wr := by
 unfold vOp at hv
 split at hv
 ·rw [force_eq] at hv; exact ⟨_, _, _, _, rfl, hv⟩
 ·rw [force_eq] at hv; exact ⟨_, _, _, _, rfl, hv⟩
 ·split at hv
  ·rename_i v e
   simp only [vA0, e];rw [force_eq, force_eq] at hv;cases v with
   | true => exact ⟨_, _, _, _, rfl, hv⟩
   | false => exact ⟨_, _, _, _, rfl, hv⟩
  ·exact hv.elim
 ·obtain ⟨i, h1, hv⟩ := zAY hv; obtain ⟨h2, hv⟩ := zAV hv
  rw [zET] at hv;have h1 := hT _ _ h1;subst h1;exact ⟨_, _, _, _, zAS h2 rfl, hv⟩
 ·rw [force_eq] at hv
  obtain ⟨h2, hv⟩ := zAV hv;rw [zET] at hv;exact ⟨_, _, _, _, zAS h2 rfl, hv⟩
 ·obtain ⟨i, h1, hv⟩ := zAY hv
  have h1 := hT _ _ h1;subst h1;simp only [vA0]
  split at hv
  ·rename_i ha
   obtain ⟨h2, hv⟩ := zAV hv;rw [vM2] at hv;obtain ⟨cs, h3, hv⟩ := zHO hv;rw [zB7] at h2;rw [ha];exact ⟨_, _, _, _, zAS h2 (by rw [h3]), hv⟩
  ·rename_i n ha
   obtain ⟨e, h1, hv⟩ := zAY hv;have h1 := hT _ _ h1;subst h1;obtain ⟨h2, hv⟩ := zAV hv;rw [vM2] at hv;obtain ⟨cs, h3, hv⟩ := zHO hv;rw [zB7, zEY] at h2;rw [ha];exact ⟨_, _, _, _, zAS h2 (by rw [h3]), hv⟩
 ·obtain ⟨i, h1, hv⟩ := zAY hv
  have h1 := hT _ _ h1;subst h1;obtain ⟨e, h1, hv⟩ := zAY hv;have h1 := hT _ _ h1;subst h1;obtain ⟨h2, hv⟩ := zAV hv;rw [vM2] at hv;obtain ⟨cs, h3, hv⟩ := zL8 hv;simp only [zB7, zCL, zHT, zIU, zEY] at h2;rw [zET] at hv;exact ⟨_, _, _, _, zAS h2 (by rw [h3]), hv⟩
 ·obtain ⟨i, h1, hv⟩ := zAY hv
  have h1 := hT _ _ h1;subst h1
  split at hv
  ·rename_i r j off e
   obtain ⟨b, h1, hv⟩ := zAY hv;obtain ⟨d, h2, hv⟩ := zAY hv;obtain ⟨v, h3, hv⟩ := zFC hv;rw [zDZ] at h2;exact ⟨_, _, _, _, by simp only [vA0, e, h1, h2, h3, Option.map_some], hv⟩
  ·rename_i d off e
   obtain ⟨v, h3, hv⟩ := zFC hv;exact ⟨_, _, _, _, by simp only [vA0, e, h3, Option.map_some], hv⟩
  ·exact hv.elim
 ·rw [force_eq] at hv
  obtain ⟨i, h1, hv⟩ := zAY hv;have h1 := hT _ _ h1;subst h1
  split at hv
  ·rename_i r j off e
   obtain ⟨b, h1, hv⟩ := zAY hv;obtain ⟨d, h2, hv⟩ := zAY hv;obtain ⟨h3, hv⟩ := zAV hv;obtain ⟨e', h4, hv⟩ := vHS hv;rw [zDZ] at h2;simp only [zB7, zCL, uA8, zEY] at h3;rw [zET] at hv;exact ⟨_, _, _, _, by simp only [vA0, e, h1, h2]; exact zAS h3 (by rw [h4]; rfl), hv⟩
  ·exact hv.elim
 ·split at hv
  ·rename_i e; exact ⟨_, _, _, _, by simp only [vA0, e], hv⟩
  ·rename_i e; exact ⟨_, _, _, _, by simp only [vA0, e], hv⟩
  ·exact hv.elim
 ·obtain ⟨v, h1, hv⟩ := vV9 hT (z := z) (key := key) (h := h) hv
  exact ⟨_, _, _, _, h1, hv⟩
 ·split at hv
  ·rename_i e; exact ⟨_, _, _, _, by simp only [vA0, e], hv⟩
  ·rename_i e; exact ⟨_, _, _, _, by simp only [vA0, e], zHL hv⟩
  ·exact hv.elim
 ·obtain ⟨i, h1, hv⟩ := zAY hv
  have h1 := hT _ _ h1;subst h1;obtain ⟨j, h1, hv⟩ := zAY hv;have h1 := hT _ _ h1;subst h1
  split at hv
  ·rename_i e1 e2 e3; exact ⟨_, _, _, _, by simp only [vA0, e1, e2, e3], zHL hv⟩
  ·exact hv.elim
 ·rw [vIU, vIU] at hv; exact ⟨_, _, _, _, rfl, hv⟩
 ·obtain ⟨i, h1, hv⟩ := zAY hv
  have h1 := hT _ _ h1;subst h1;obtain ⟨j, h1, hv⟩ := zAY hv;have h1 := hT _ _ h1;subst h1
  split at hv
  ·rename_i n m e1 e2
   obtain ⟨h2, hv⟩ := zAV hv;obtain ⟨h3, hv⟩ := zBK hv;simp only [zB7, zCL, zHT, zIU, zEY] at h2;rw [zET] at hv;obtain ⟨g1, g2, g3, g4, g5, g6⟩ := h2;obtain ⟨k1, k2, k3⟩ := h3;exact ⟨_, _, _, _, by simp only [vA0, e1, e2]; exact zAS ⟨k1, k2, k3, g1, g2, g3, g4, g5, g6⟩ rfl, hv⟩
  ·exact hv.elim
 ·obtain ⟨i, h1, hv⟩ := zAY hv
  have h1 := hT _ _ h1;subst h1;obtain ⟨j, h1, hv⟩ := zAY hv;have h1 := hT _ _ h1;subst h1
  split at hv
  ·rename_i es e
   obtain ⟨a, h1, hv⟩ := zH2 hv;obtain ⟨b, h2, hv⟩ := zH2 hv;obtain ⟨h3, hv⟩ := zAV hv;obtain ⟨h4, hv⟩ := vN8 hv;obtain ⟨h5, hv⟩ := zBK hv;have hv := vW1 hv;simp only [zB7, zEY] at h3;refine ⟨_, _, _, _, ?_, hv⟩;rcases h1 with ⟨rfl, rfl⟩ | ⟨x1, k1, rfl, e1⟩ <;> rcases h2 with ⟨rfl, rfl⟩ | ⟨x2, k2, rfl, e2⟩ <;> (first | simp only [vA0, e, e1, e2] | simp only [vA0, e, e1] | simp only [vA0, e, e2] | simp only [vA0, e]) <;> exact zAS ⟨h3.1, h4, h5.1, h5.2.1, h5.2.2, h3.2⟩ rfl
  ·rename_i r off len e
   obtain ⟨a, h1, hv⟩ := zH2 hv;obtain ⟨b, h2, hv⟩ := zH2 hv;obtain ⟨k, h6, hv⟩ := zAY hv;obtain ⟨h3, hv⟩ := zAV hv;obtain ⟨h5, hv⟩ := zBK hv;simp only [zB7, zEY, zCL] at h3;refine ⟨_, _, _, _, ?_, hv⟩;rcases h1 with ⟨rfl, rfl⟩ | ⟨x1, k1, rfl, e1⟩ <;> rcases h2 with ⟨rfl, rfl⟩ | ⟨x2, k2, rfl, e2⟩ <;> (first | simp only [vA0, e, e1, e2, h6] | simp only [vA0, e, e1, h6] | simp only [vA0, e, e2, h6] | simp only [vA0, e, h6]) <;> exact zAS ⟨h3.1, h3.2.1, h5.1, h5.2.1, h5.2.2, h3.2.2⟩ rfl
  ·exact hv.elim
 ·obtain ⟨i, h1, hv⟩ := zAY hv
  have h1 := hT _ _ h1;subst h1;obtain ⟨q, h1, hv⟩ := zAY hv;rw [zDZ] at h1
  split at hv
  ·rename_i e; obtain ⟨h2, hv⟩ := zAV hv; rw [zEY] at h2; exact ⟨_, _, _, _, by simp only [vA0, e, h1]; exact zAS h2 rfl, hv⟩
  ·rename_i e; obtain ⟨h2, hv⟩ := zAV hv; rw [zEY] at h2; exact ⟨_, _, _, _, by simp only [vA0, e, h1]; exact zAS h2 rfl, hv⟩
  ·exact hv.elim
 ·obtain ⟨i, h1, hv⟩ := zAY hv
  have h1 := hT _ _ h1;subst h1;obtain ⟨q, h1, hv⟩ := zAY hv;rw [zDZ] at h1;obtain ⟨u, h2, hv⟩ := zAY hv;have h2 := hT _ _ h2;subst h2
  split at hv
  ·rename_i e
   obtain ⟨v, h3, hv⟩ := zFC hv;exact ⟨_, _, _, _, by simp only [vA0, e, h1, h3, Option.map_some], hv⟩
  ·exact hv.elim
 ·obtain ⟨i, h1, hv⟩ := zAY hv
  have h1 := hT _ _ h1;subst h1;obtain ⟨j, h1, hv⟩ := zAY hv;have h1 := hT _ _ h1;subst h1
  split at hv
  ·rename_i es k n e1 e2
   obtain ⟨h2, hv⟩ := zAV hv;obtain ⟨h3, hv⟩ := zBK hv;obtain ⟨d, h4, hv⟩ := zAY hv;obtain ⟨h5, hv⟩ := zAV hv;rw [force_eq] at hv;rw [zDZ] at h4;simp only [zB7, zCL, zEY] at h2 h5;exact ⟨_, _, _, _, by simp only [vA0, e1, e2]; exact zAS ⟨h2.1, h3⟩ (by rw [h4]; exact zAS ⟨h5, h2.2⟩ rfl), hv⟩
  ·rename_i r off len k n e1 e2
   obtain ⟨h2, hv⟩ := zAV hv;obtain ⟨h3, hv⟩ := zBK hv;obtain ⟨d, h4, hv⟩ := zAY hv;obtain ⟨h5, hv⟩ := zAV hv;simp only [zB7, zCL, zEY] at h2 h5;exact ⟨_, _, _, _, by simp only [vA0, e1, e2]; exact zAS ⟨h2.1, h3⟩ (by rw [h4]; exact zAS ⟨h5, h2.2⟩ rfl), hv⟩
  ·rename_i d off k n e1 e2
   obtain ⟨h2, hv⟩ := zAV hv;obtain ⟨h3, hv⟩ := zBK hv;simp only [zB7, zEY] at h2;exact ⟨_, _, _, _, by simp only [vA0, e1, e2]; exact zAS ⟨h2.1, h3.1, h3.2, h2.2⟩ rfl, hv⟩
  ·rename_i r j off k n e1 e2
   obtain ⟨h2, hv⟩ := zAV hv;obtain ⟨h3, hv⟩ := zBK hv;simp only [zB7, zEY] at h2;exact ⟨_, _, _, _, by simp only [vA0, e1, e2]; exact zAS ⟨h2.1, h3.1, h3.2, h2.2⟩ rfl, hv⟩
  ·exact hv.elim
 ·obtain ⟨i, h1, hv⟩ := zAY hv
  have h1 := hT _ _ h1;subst h1
  split at hv
  ·rename_i cs k n e1 e2
   obtain ⟨j, h1, hv⟩ := zAY hv;have h1 := hT _ _ h1;subst h1;obtain ⟨h2, hv⟩ := zAV hv;obtain ⟨h3, hv⟩ := zBK hv;obtain ⟨v, h4, hv⟩ := zFC hv;simp only [zB7, zEY] at h2;exact ⟨_, _, _, _, by simp only [vA0, e1, e2]; exact zAS ⟨h2.1, h3.1, h3.2, h2.2⟩ (by rw [h4]; rfl), hv⟩
  ·rename_i s k n e1 e2
   obtain ⟨h2, hv⟩ := zAV hv;obtain ⟨h3, hv⟩ := zBK hv;obtain ⟨b, h4, hv⟩ := zAY hv;exact ⟨_, _, _, _, by simp only [vA0, e1, e2]; exact zAS ⟨h2, h3⟩ (by rw [h4]; rfl), hv⟩
  ·exact hv.elim
 ·split at hv
  ·rename_i vs e
   obtain ⟨v, h1, hv⟩ := zAY hv;rw [force_eq] at hv;rw [zDZ] at h1;exact ⟨_, _, _, _, by simp only [vA0, e, h1, Option.map_some], hv⟩
  ·exact hv.elim
 ·obtain ⟨i, h1, hv⟩ := zAY hv
  have h1 := hT _ _ h1;subst h1;obtain ⟨h2, hv⟩ := zAV hv
  split at hv
  ·rename_i e; exact ⟨_, _, _, _, by simp only [vA0, e]; exact zAS h2 rfl, hv⟩
  ·rename_i e; exact ⟨_, _, _, _, by simp only [vA0, e]; exact zAS h2 rfl, hv⟩
  ·rename_i e; exact ⟨_, _, _, _, by simp only [vA0, e]; exact zAS h2 rfl, hv⟩
  ·exact hv.elim
 ·split at hv
  ·rename_i e1 e2; exact ⟨_, _, _, _, by simp only [vA0, e1, e2], hv⟩
  ·exact hv.elim
 ·split at hv
  ·rename_i e1 e2; exact ⟨_, _, _, _, by simp only [vA0, e1, e2], hv⟩
  ·exact hv.elim
 ·obtain ⟨i, h1, hv⟩ := zAY hv
  have h1 := hT _ _ h1;subst h1;obtain ⟨i2, h1, hv⟩ := zAY hv;have h1 := hT _ _ h1;subst h1;obtain ⟨e, h1, hv⟩ := zAY hv;have h1 := hT _ _ h1;subst h1;obtain ⟨es, ks, h2, hv⟩ := vQO hv;obtain ⟨h3, hv⟩ := zAV hv;simp only [zB7, zCL, zHT, zEY, allE_iff] at h3
  split at hv
  ·rename_i e1
   obtain ⟨h4, hv⟩ := zBK hv;rw [zET] at hv;exact ⟨_, _, _, _, by simp only [vA0, h2, e1]; exact zAS h3 (zAS h4 rfl), hv⟩
  ·rename_i r off len e1
   obtain ⟨b, h4, hv⟩ := zAY hv;obtain ⟨h5, hv⟩ := zAV hv;obtain ⟨h6, hv⟩ := zBK hv;simp only [zB7, zCL, zIU, uA8, zJI] at h5;rw [zET, zET] at hv;exact ⟨_, _, _, _, by simp only [vA0, h2, e1, h4]; exact zAS h3 (zAS ⟨h6.1, h6.2.1, h5.1, h5.2.1, h5.2.2.1, h5.2.2.2, h6.2.2⟩ rfl), hv⟩
  ·exact hv.elim
 ·exact hv.elim
end
def uIZ (s : St) (d : Nat) (b : Bool) : St := match s with
 | ⟨t, h, z, nx⟩ => ⟨ts t d (.bool b), h, z, nx⟩
theorem vQN {s : St} {d : Nat} {b : Bool} (h : s.t d = .bool b) : uIZ s d b = s := by
 obtain ⟨t, hh, z, nx⟩ := s;unfold uIZ;dsimp only at h ⊢;rw [vN3]
 congr 1
 funext j
 unfold vER
 split
 ·rename_i e; rw [e]; exact h.symm
 ·rfl
inductive Next (p : Prop) : Prop
 | mk (h : p) : Next p
theorem Next.out {p : Prop} (h : Next p) : p := by cases h; assumption
def vDU (C : vA2) (I : vBI) (D : Bool) (f : FuncId) (args : List PV) (d : Option Nat) (K : FP → St → Prop) (s : St) : Prop := vDO C I D f args d K s
def uAL (C : vA2) (l : Nat) (args : List PV) (d : Option Nat) (K : FP → St → Prop) (s : St) : Prop := vJT C l args d K s
def touch (a b : FP) : Bool := FP.apart a b
def rch (os : List Oper) (k : Nat) : Nat → List Edge → Bool
 | 0, _ => false
 | f + 1, after => match after.any (fun e => an (Nat.beq e.on k) (Region.binds .any e)) with
   | true => true
   | false => after.any fun e => an (Region.binds .any e) (match nth os e.on with
     | some o' => rch os k f o'.after.toList
     | none => false)
theorem vRJ {os : List Oper} {k : Nat} : ∀ (f : Nat) (o : Oper), rch os k f o.after.toList = vBU os f o k
 | 0, _ => rfl
 | f + 1, o => by
   have e : (o.after.toList.any fun e => an (Nat.beq e.on k) (Region.binds .any e)) = o.after.any (fun e => e.on == k && Region.binds .any e) := by
    rw [← Array.any_toList]
    congr 1
    funext e
    rw [zE6, Bool.eq_iff_iff, zB7]
    simp
   have e2 : (o.after.toList.any fun e => an (Region.binds .any e) (match nth os e.on with
    | some o' => rch os k f o'.after.toList
    | none => false)) = o.after.any fun e => Region.binds .any e && (match os[e.on]? with
    | some o' => vBU os f o' k
    | none => false) := by
    rw [← Array.any_toList]
    congr 1
    funext e
    rw [zDZ];cases os[e.on]? with
    | none => cases Region.binds .any e <;> rfl
    | some o' => dsimp only; rw [vRJ f o']; cases Region.binds .any e <;> rfl
   unfold rch vBU;rw [e, e2];cases o.after.any (fun e => e.on == k && Region.binds .any e) with
   | true => rw [Bool.true_or]
   | false => rw [Bool.false_or]; rfl
def clr (os : List Oper) (after : List Edge) (fp : FP) : List (Nat × FP) → Bool
 | [] => true
 | (k, f) :: acc => an (match touch f fp with
   | true => true
   | false => rch os k 4 after) (clr os after fp acc)
theorem vUY {os : List Oper} {o : Oper} {fp : FP} : ∀ {acc : List (Nat × FP)}, clr os o.after.toList fp acc = true → vBM os o fp acc = true
 | [], _ => rfl
 | (k, f) :: acc, h => by
   unfold clr at h;rw [zB7] at h;rw [vRJ] at h;have ih := vUY h.2;rw [zD9, ih, Bool.and_true];cases hb : touch f fp with
   | true =>
     have : FP.apart f fp = true := hb;rw [this, Bool.or_true]
   | false =>
     rw [hb] at h;have : vBU os 4 o k = true := h.1;rw [this, Bool.true_or]
def vD5 (P : Program) (G : Gl) (C : vA2) (I : vBI) (Le : LeT) (c : Code) (Q : Exit → St → Prop) (s : St) : Prop := vHG P G C I Le c Q s
def uA1 (P : Program) (G : Gl) (C : vA2) (I : vBI) (Le : LeT) (g : Operand) (ps : Array Tmp) (a b : Code) (Q : Exit → St → Prop) (s : St) : Prop := wp P G C I Le (.rangeFunc g ps a b) Q s
section
variable (P : Program) (T : Ti) (G : Gl) (C : vA2) (I : vBI) (Le : LeT)
def goV (K : FP → St → Prop) (t : Tm) (z : Fz) (nx : Nat) (d : Option Nat) (v : PV) (h' : Hp) (rd wr : List Nat) : Prop := fN (nx + 1) fun nx' => match d with
 | some d => K ⟨rd, wr, []⟩ ⟨ts t d v, h', z, nx'⟩
 | none => K ⟨rd, wr, []⟩ ⟨t, h', z, nx'⟩
def uCG (D : Bool) (o : Oper) (K : FP → St → Prop) (s : St) : Prop :=
 match s with
 | ⟨t, h, z, nx⟩ => match o.op with
   | .call { callee := .value g, args, argTypes := _ } => (match ev G t g with
     | .func (.func f) first captured => evs G t args.toList fun vs => fL (first ++ vs ++ captured) fun as => vDU C I D f as o.dst K ⟨t, h, z, nx⟩
     | .func (.yield l) [] [] => evs G t args.toList fun vs => uAL C l vs o.dst K ⟨t, h, z, nx⟩
     | _ => False)
   | op => vOp T G z nx op t h (goV K t z nx o.dst)
def uJY (i : Nat) (fp : FP) (acc : List (Nat × FP)) : List (Nat × FP) := match fp with
    | ⟨[], [], []⟩ => acc
    | fp => (i, fp) :: acc
def vKA (R : St → Prop) (t : Tm) (h : Hp) (z : Fz) (nx : Nat) (d : Option Nat) : Prop := fN (nx + 1) fun nx' => match d with
 | some d => R ⟨ts t d (.tup []), h, z, nx'⟩
 | none => R ⟨t, h, z, nx'⟩
def vUU (os : List Oper) (D : Bool) (i : Nat) (acc : List (Nat × FP)) (o : Oper) (R : Nat → List (Nat × FP) → St → Prop) (fp : FP) (s' : St) : Prop := match D with
 | true => brT (clr os o.after.toList fp acc) (fN (i + 1) fun j => R j (uJY i fp acc) s')
 | false => R i acc s'
def vWU (D : Bool) (os : List Oper) (i : Nat) (acc : List (Nat × FP)) (o : Oper) (R : Nat → List (Nat × FP) → St → Prop) (s : St) : Prop :=
 match o.guard with
 | none => uCG T G C I D o (vUU os D i acc o R) s
 | some (j, want) => oK (nth os j) fun q => oK q.dst fun d => (match s with
   | ⟨t, h, z, nx⟩ => (match t d with
     | .bool b => brB b
      (match want with
        | true => uCG T G C I D o (vUU os D i acc o R) ⟨ts t d (.bool true), h, z, nx⟩
        | false => vKA (R (i + 1) acc) (ts t d (.bool true)) h z nx o.dst)
      (match want with
        | true => vKA (R (i + 1) acc) (ts t d (.bool false)) h z nx o.dst
        | false => uCG T G C I D o (vUU os D i acc o R) ⟨ts t d (.bool false), h, z, nx⟩)
     | .tup [] => vKA (R (i + 1) acc) t h z nx o.dst
     | _ => False))
def vHK (D : Bool) (os : List Oper) : Nat → List (Nat × FP) → List Oper → (St → Prop) → St → Prop
 | _, _, [], K, s => K s
 | i, acc, o :: rest, K, s => vWU T G C I D os i acc o (fun i acc s => Next (vHK D os i acc rest K s)) s
def vc : Code → (Exit → St → Prop) → St → Prop
 | .skip, Q, s => Q .normal s
 | .label _, Q, s => Q .normal s
 | .scope c, Q, s => vc c (vLY Q) s
 | .seq a b, Q, s => vc a (vCY Le (vc b Q) Q) s
 | .cond c a b, Q, s => (match ev G s.t c with
   | .bool t => (match c with
     | .tmp i => brB t (vc a Q (uIZ s i true)) (vc b Q (uIZ s i false))
     | _ => brB t (vc a Q s) (vc b Q s))
   | .anyb => vc a Q s ∧ vc b Q s
   | _ => False)
 | .block id c, Q, s => vc c (vB5 id Q) s
 | .loop c, Q, s => vD5 P G C I Le c Q s
 | .exit id, Q, s => Q (.exit id) s
 | .ret, Q, s => Q .ret s
 | .region _ ops D, Q, s => (match vB8 D ops.toList with
   | true => vHK T G C I true ops.toList 0 [] ops.toList (Q .normal) s
   | false => vHK T G C I false ops.toList 0 [] ops.toList (Q .normal) s)
 | .rangeFunc g ps a b, Q, s => uA1 P G C I Le g ps a b Q s
 | _, _, _ => False
end
section
variable {P : Program} {T : Ti} {G : Gl} {C : vA2} {I : vBI} {Le : LeT}
theorem uHY {K : FP → St → Prop} {t : Tm} {h h' : Hp} {z : Fz} {nx : Nat} {d : Option Nat} {v : PV} {rd wr : List Nat} (hk : goV K t z nx d v h' rd wr) : K ⟨rd, wr, []⟩ (put { (⟨t, h, z, nx⟩ : St) with h := h', nx := nx + 1 } d v) := by
 unfold goV at hk;rw [zIG] at hk;cases d with
 | none => exact hk
 | some d => dsimp only at hk; rw [vN3] at hk; exact hk
theorem vME {R : St → Prop} {t : Tm} {h : Hp} {z : Fz} {nx : Nat} {d : Option Nat} (hk : vKA R t h z nx d) : R (put { (⟨t, h, z, nx⟩ : St) with nx := nx + 1 } d (.tup [])) := by
 unfold vKA at hk;rw [zIG] at hk;cases d with
 | none => exact hk
 | some d => dsimp only at hk; rw [vN3] at hk; exact hk
theorem uIY {t : Tm} {d : Nat} {b : Bool} (e : t d = .bool b) : ts t d (.bool b) = t := by
 rw [vN3]
 funext j
 unfold vER
 split
 ·rename_i q; rw [q]; exact e.symm
 ·rfl
theorem zM5 (hT : ∀ i x, T i = some x → vA1 P i = x) {D : Bool} {o : Oper} {K : FP → St → Prop} {s : St} (h : uCG T G C I D o K s) : vDR P G C I D o K s := by
 obtain ⟨t, hh, z, nx⟩ := s;unfold uCG at h;unfold vDR;dsimp only at h
 split at h
 ·rename_i g args ts e
  rw [e];dsimp only
  split at h
  ·rename_i f first captured e2
   rw [e2];rw [vIU, vK3] at h;exact h
  ·rename_i l e2
   rw [e2];rw [vIU] at h;exact h
  ·exact h.elim
 ·rename_i op hne
  obtain ⟨v, h', rd, wr, h1, h2⟩ := vQJ hT h;have h2 := uHY (h := hh) h2
  split
  ·rename_i g args ts e; exact absurd e (hne g args ts)
  ·rw [h1]; exact h2
theorem vLL (hI : ∀ f args (J J' : PV → St → Prop) s, (∀ v s, J v s → J' v s) → I f args J s → I f args J' s) (hT : ∀ i x, T i = some x → vA1 P i = x) {os : List Oper} {K : St → Prop} :
 ∀ (l : List Oper) (i : Nat) (acc : List (Nat × FP)) (s : St), vHK T G C I false os i acc l K s → wpF P G C I (os.map (·.dst)) l K s
 | [], _, _, _, h => h
 | o :: rest, i, acc, s, h => by
   have run : ∀ s, uCG T G C I false o (vUU os false i acc o (fun i acc s => Next (vHK T G C I false os i acc rest K s))) s → vDR P G C I false o (fun _ s' => wpF P G C I (os.map (·.dst)) rest K s') s :=
    fun s h => zLO hI (fun fp s' h => vLL hI hT rest _ _ _ (Next.out h)) (zM5 hT h)
   have pass : ∀ t hh z nx, vKA (fun s => Next (vHK T G C I false os (i + 1) acc rest K s)) t hh z nx o.dst → wpF P G C I (os.map (·.dst)) rest K (put { (⟨t, hh, z, nx⟩ : St) with nx := nx + 1 } o.dst (.tup [])) :=
    fun t hh z nx h => vLL hI hT rest _ _ _ (vME h).out
   unfold vHK vWU at h;unfold wpF;cases hg : o.guard with
   | none => rw [hg] at h; exact run s h
   | some jw =>
     obtain ⟨j, want⟩ := jw;rw [hg] at h;dsimp only at h ⊢;obtain ⟨q, h1, h3⟩ := zAY h;clear h;obtain ⟨d, h2, h⟩ := zAY h3;clear h3;rw [zDZ] at h1;rw [← vTZ, h1];dsimp only [Option.bind_some];rw [h2];dsimp only;obtain ⟨t, hh, z, nx⟩ := s;dsimp only at h ⊢;unfold guarded
     split at h
     ·rename_i b e
      rw [e];cases b with
      | true =>
        rw [uIY e] at h;cases want with
        | true => exact ⟨fun _ => run _ h, fun hw => by cases hw⟩
        | false => exact ⟨fun hw => (by cases hw), fun _ => pass _ _ _ _ h⟩
      | false =>
        rw [uIY (b := false) e] at h;cases want with
        | true => exact ⟨fun hw => (by cases hw), fun _ => pass _ _ _ _ h⟩
        | false => exact ⟨fun _ => run _ h, fun hw => by cases hw⟩
     ·rename_i e
      rw [e];exact pass _ _ _ _ h
     ·exact h.elim
theorem uFV {i : Nat} {fp : FP} {acc : List (Nat × FP)} : uJY i fp acc = vJN i fp acc := by
 obtain ⟨a, b, c⟩ := fp;unfold uJY vJN;cases a <;> cases b <;> cases c <;> rfl
theorem vQI (hI : ∀ f args (J J' : PV → St → Prop) s, (∀ v s, J v s → J' v s) → I f args J s → I f args J' s) (hT : ∀ i x, T i = some x → vA1 P i = x) {os : List Oper} {K : St → Prop} :
 ∀ (l : List Oper) (i : Nat) (acc : List (Nat × FP)) (s : St), vHK T G C I true os i acc l K s → wpT P G C I os i acc l K s
 | [], _, _, _, h => by unfold wpT; exact h
 | o :: rest, i, acc, s, h => by
   have run : ∀ s, uCG T G C I true o (vUU os true i acc o (fun i acc s => Next (vHK T G C I true os i acc rest K s))) s →
    vDR P G C I true o (fun fp s' => vBM os o fp acc = true ∧ wpT P G C I os (i + 1) (vJN i fp acc) rest K s') s :=
    fun s h => zLO hI (fun fp s' h => by
     obtain ⟨h1, h⟩ := zAV h;rw [zIG, uFV] at h
     exact ⟨vUY h1, vQI hI hT rest _ _ _ h.out⟩) (zM5 hT h)
   have pass : ∀ t hh z nx, vKA (fun s => Next (vHK T G C I true os (i + 1) acc rest K s)) t hh z nx o.dst → wpT P G C I os (i + 1) acc rest K (put { (⟨t, hh, z, nx⟩ : St) with nx := nx + 1 } o.dst (.tup [])) :=
    fun t hh z nx h => vQI hI hT rest _ _ _ (vME h).out
   unfold vHK vWU at h;unfold wpT;cases hg : o.guard with
   | none => rw [hg] at h; exact run s h
   | some jw =>
     obtain ⟨j, want⟩ := jw;rw [hg] at h;dsimp only at h ⊢;obtain ⟨q, h1, h3⟩ := zAY h;clear h;obtain ⟨d, h2, h⟩ := zAY h3;clear h3;rw [zDZ] at h1;rw [h1];dsimp only [Option.bind_some];rw [h2];dsimp only;obtain ⟨t, hh, z, nx⟩ := s;dsimp only at h ⊢;unfold guarded
     split at h
     ·rename_i b e
      rw [e];cases b with
      | true =>
        rw [uIY e] at h;cases want with
        | true => exact ⟨fun _ => run _ h, fun hw => by cases hw⟩
        | false => exact ⟨fun hw => (by cases hw), fun _ => pass _ _ _ _ h⟩
      | false =>
        rw [uIY (b := false) e] at h;cases want with
        | true => exact ⟨fun hw => (by cases hw), fun _ => pass _ _ _ _ h⟩
        | false => exact ⟨fun _ => run _ h, fun hw => by cases hw⟩
     ·rename_i e
      rw [e];exact pass _ _ _ _ h
     ·exact h.elim
theorem zDF (hI : ∀ f args (J J' : PV → St → Prop) s, (∀ v s, J v s → J' v s) → I f args J s → I f args J' s) (hT : ∀ i x, T i = some x → vA1 P i = x) :
 ∀ (c : Code) (Q : Exit → St → Prop) (s : St), vc P T G C I Le c Q s → wp P G C I Le c Q s
 | .skip, _, _, h => h
 | .label _, _, _, h => h
 | .seq a b, Q, s, h => by
   refine wp_mono hI a _ _ s (fun e s h => ?_) (zDF hI hT a _ s h);cases e <;> unfold vCY at h ⊢ <;> first | exact h | (obtain ⟨s', h1, h2⟩ := h; exact ⟨s', h1, zDF hI hT b _ s' h2⟩)
 | .cond c a b, Q, s, h => by
   unfold vc at h;unfold wp
   split at h
   ·rename_i t e
    rw [e];dsimp only
    split at h
    ·rename_i i
     refine ⟨fun ht => ?_, fun ht => ?_⟩
     ·subst ht; rw [vQN e] at h; exact zDF hI hT a _ s h
     ·subst ht; exact zDF hI hT b _ s (by rw [vQN (b := false) e] at h; exact h)
    ·refine ⟨fun ht => ?_, fun ht => ?_⟩
     ·subst ht; exact zDF hI hT a _ s h
     ·subst ht; exact zDF hI hT b _ s h
   ·rename_i e; rw [e]; exact ⟨zDF hI hT a _ s h.1, zDF hI hT b _ s h.2⟩
   ·exact h.elim
 | .block id c, Q, s, h => zDF hI hT c _ s h
 | .loop c, Q, s, h => h
 | .exit id, _, _, h => h
 | .ret, _, _, h => h
 | .region id ops D, Q, s, h => by
   obtain ⟨l⟩ := ops;cases D with
   | false => rw [vWS]; exact vLL hI hT _ _ _ _ h
   | true =>
     unfold vc at h;cases hc : vB8 true l with
     | true => rw [show vB8 true l.toArray.toList = true by simpa using hc] at h; rw [vWR hc]; exact vQI hI hT _ _ _ _ h
     | false => rw [show vB8 true l.toArray.toList = false by simpa using hc] at h; rw [vWT hc]; exact vLL hI hT _ _ _ _ h
 | .rangeFunc .., _, _, h => h
 | .scope c, Q, s, h => zDF hI hT c _ s h
 | .goto _, _, _, h => h
 | .refuse _, _, _, h => h
end
section
variable {P : Program} {T : Ti} {G : Gl} {C : vA2} {I : vBI} {Le : LeT} {Q : Exit → St → Prop} {K : St → Prop} {s : St}
theorem zNC (h : Q .normal s) : vc P T G C I Le .skip Q s := h
theorem zI3 {l : Nat} (h : Q .normal s) : vc P T G C I Le (.label l) Q s := h
theorem zI2 {c : Code} (h : vc P T G C I Le c (vLY Q) s) : vc P T G C I Le (.scope c) Q s := h
theorem vOA {a b : Code} (h : vc P T G C I Le a (vCY Le (vc P T G C I Le b Q) Q) s) : vc P T G C I Le (.seq a b) Q s := h
theorem zI4 {id : Nat} {c : Code} (h : vc P T G C I Le c (vB5 id Q) s) : vc P T G C I Le (.block id c) Q s := h
theorem zND {c : Code} (h : vD5 P G C I Le c Q s) : vc P T G C I Le (.loop c) Q s := h
theorem zNE {id : Nat} (h : Q (.exit id) s) : vc P T G C I Le (.exit id) Q s := h
theorem vOC (h : Q .ret s) : vc P T G C I Le .ret Q s := h
theorem zGT {id : Nat} {ops : List Oper} {D : Bool} (h : match vB8 D ops with
 | true => vHK T G C I true ops 0 [] ops (Q .normal) s
 | false => vHK T G C I false ops 0 [] ops (Q .normal) s) : vc P T G C I Le (.region id ops.toArray D) Q s := h
def uIC (G : Gl) (c : Operand) (A B : St → Prop) (s : St) : Prop := match s with
 | ⟨t, h, z, nx⟩ => match ev G t c with
   | .bool b => (match c with
     | .tmp i => brB b (Next (A ⟨ts t i (.bool true), h, z, nx⟩)) (Next (B ⟨ts t i (.bool false), h, z, nx⟩))
     | _ => brB b (Next (A ⟨t, h, z, nx⟩)) (Next (B ⟨t, h, z, nx⟩)))
   | .anyb => Next (A ⟨t, h, z, nx⟩) ∧ Next (B ⟨t, h, z, nx⟩)
   | _ => False
theorem zNF {c : Operand} {a b : Code} (h : uIC G c (vc P T G C I Le a Q) (vc P T G C I Le b Q) s) : vc P T G C I Le (.cond c a b) Q s := by
 obtain ⟨t, hh, z, nx⟩ := s;unfold uIC at h;dsimp only at h;unfold vc;dsimp only;cases e : ev G t c with
 | bool x =>
   rw [e] at h;dsimp only at h ⊢;cases c with
   | tmp i => cases x <;> exact h.out
   | _ => cases x <;> exact h.out
 | anyb => rw [e] at h; exact ⟨h.1.out, h.2.out⟩
 | _ => rw [e] at h; exact h.elim
theorem uFU {A B : Prop} (h1 : Next A) (h2 : Next B) : Next A ∧ Next B := ⟨h1, h2⟩
theorem zAX {n0 : Nat} (h : K s) : vCY (LeS G, n0) K Q .normal s := by
 unfold vCY; exact ⟨s, fun _ _ _ _ _ A κ _ hR => ⟨A, κ, hR⟩, h⟩
theorem zGS {id : Nat} (h : Q (.exit id) s) : vCY Le K Q (.exit id) s := by unfold vCY; exact h
theorem zGR (h : Q .ret s) : vCY Le K Q .ret s := by unfold vCY; exact h
theorem uCI {n0 : Nat} {s' : St} (hle : LeS G n0 s s') (h : K s') : vCY (LeS G, n0) K Q .normal s := by unfold vCY; exact ⟨s', hle, h⟩
theorem zNB (h : K s) : vCX K Q .normal s := h
theorem zI1 {id : Nat} (h : Q (.exit id) s) : vCX K Q (.exit id) s := h
theorem zI0 (h : Q .ret s) : vCX K Q .ret s := h
theorem vOF {id : Nat} (h : Q .normal s) : vB5 id Q .normal s := h
theorem vOG {id id' : Nat} (h : brB (Nat.beq id' id) (Next (Q .normal s)) (Next (Q (.exit id') s))) : vB5 id Q (.exit id') s := by
 unfold vB5;rw [zE6] at h;by_cases e : id' = id
 ·simp only [e, decide_true] at h; simp only [e, if_true]; exact h.out
 ·simp only [e, decide_false] at h; simp only [e, if_false]; exact h.out
theorem vOE {id : Nat} (h : Q .ret s) : vB5 id Q .ret s := h
theorem vOB (h : Q .ret s) : vLY Q .ret s := h
section
variable {D : Bool} {os : List Oper} {i : Nat} {acc : List (Nat × FP)} {o : Oper} {rest : List Oper}
theorem vOD (h : K s) : vHK T G C I D os i acc [] K s := by unfold vHK; exact h
theorem uF1 (h : vWU T G C I D os i acc o (fun i acc s => Next (vHK T G C I D os i acc rest K s)) s) : vHK T G C I D os i acc (o :: rest) K s := h
end
end
def uB6 (ds : List PV) (i : Nat) : PV := match nth ds i with
 | some v => v
 | none => .tup []
theorem zJW {ds : List PV} : uB6 ds = vDV ds := by
 funext i
 unfold uB6 vDV;rw [zDZ];cases h : ds[i]? with
 | none => simp [List.getD, h]
 | some v => simp [List.getD, h]
def noH : Hp := fun _ => none
def noZ : Fz := fun _ => false
def vLS (ds : List PV) : St := ⟨uB6 ds, noH, noZ, 0⟩
theorem vHQ {ds : List PV} : vLS ds = start ds := by unfold vLS start; rw [zJW]; rfl
def uGZ (T : Ti) (s : St) (r : ResultVar) (K : PV → Prop) : Prop := match r with
 | .tmp t => force (s.t t) K
 | .cell x ty => oK (T ty) fun i => (match s.t x with
   | .ptr r j off => oK (s.h r) fun b => oK (nth b.els j) fun e => vKB e off i.size i.agg K
   | _ => False)
def vRC (T : Ti) (s : St) : List ResultVar → (List PV → Prop) → Prop
 | [], K => K []
 | r :: rs, K => uGZ T s r fun v => vRC T s rs fun vs => K (v :: vs)
def vWV (T : Ti) (rs : List ResultVar) (K : PV → St → Prop) (e : Exit) (s : St) : Prop := match e with
 | .normal | .ret => (match rs with
   | [r] => uGZ T s r fun v => K v s
   | rs => vRC T s rs fun vs => K (.tup vs) s)
 | _ => False
section
variable {P : Program} {T : Ti} {G : Gl}
theorem vHZ (hT : ∀ i x, T i = some x → vA1 P i = x) {s : St} {r : ResultVar} {K : PV → Prop} (h : uGZ T s r K) : ∃ v, vET P s r = some v ∧ K v := by
 unfold uGZ at h;unfold vET;cases r with
 | tmp t => dsimp only at h; rw [force_eq] at h; exact ⟨_, rfl, h⟩
 | cell x ty =>
   dsimp only at h ⊢;obtain ⟨i, h1, h⟩ := zAY h;have h1 := hT _ _ h1;subst h1
   split at h
   ·rename_i r j off e
    obtain ⟨b, h2, h⟩ := zAY h;obtain ⟨d, h3, h⟩ := zAY h;obtain ⟨v, h4, h⟩ := zFC h;rw [zDZ] at h3;exact ⟨v, by rw [e]; dsimp only; rw [h2]; dsimp only; rw [h3]; exact h4, h⟩
   ·exact h.elim
theorem zNA (hT : ∀ i x, T i = some x → vA1 P i = x) {s : St} : ∀ {rs : List ResultVar} {K : List PV → Prop}, vRC T s rs K → ∃ vs, vB3 P s rs = some vs ∧ K vs
 | [], K, h => ⟨[], rfl, h⟩
 | r :: rs, K, h => by
   obtain ⟨v, h1, h⟩ := vHZ hT h;obtain ⟨vs, h2, h⟩ := zNA hT h;exact ⟨v :: vs, by unfold vB3; rw [h1, h2], h⟩
theorem zLI {s : St} : ∀ {rs : List ResultVar} {vs : List PV}, vB3 P s rs = some vs → vs.length = rs.length
 | [], vs, h => by simp [vB3] at h; subst h; rfl
 | r :: rs, vs, h => by
   unfold vB3 at h
   split at h
   ·rename_i v vs' h1 h2; cases h; simp [zLI h2]
   ·cases h
theorem zDN (hT : ∀ i x, T i = some x → vA1 P i = x) {rs : List ResultVar} {K : PV → St → Prop} {e : Exit} {s : St} (h : vWV T rs K e s) : vHA P rs K e s := by
 have key : ∀ rs : List ResultVar, (match rs with
  | [r] => uGZ T s r fun v => K v s
  | rs => vRC T s rs fun vs => K (.tup vs) s) → ∃ v, vFI P rs s = some v ∧ K v s := by
  intro rs h
  have many : (∀ r, rs ≠ [r]) → (vRC T s rs fun vs => K (.tup vs) s) → ∃ v, vFI P rs s = some v ∧ K v s := by
   intro hne h;obtain ⟨vs, h1, h⟩ := zNA hT h;refine ⟨.tup vs, ?_, h⟩;have hl := zLI h1;unfold vFI;rw [h1]
   match vs, hl with
   | [], _ => rfl
   | [v], hl =>
     obtain ⟨r, hr⟩ := List.length_eq_one_iff.1 hl.symm;exact absurd hr (hne r)
   | _ :: _ :: _, _ => rfl
  match rs, h, many with
  | [], h, many => exact many (fun r => by simp) h
  | [r], h, _ =>
    obtain ⟨v, h1, h⟩ := vHZ hT h;exact ⟨v, by unfold vFI vB3; rw [h1]; simp [vB3], h⟩
  | _ :: _ :: _, h, many => exact many (fun r => by simp) h
 unfold vWV at h;cases e with
 | normal => exact key rs h
 | ret => exact key rs h
 | _ => exact h.elim
abbrev VC (P : Program) (T : Ti) (G : Gl) (n0 : Nat) : Code → (Exit → St → Prop) → St → Prop := vc P T G (FnC P G) (FnH P G) (LeS G, n0)
theorem zK6 (hT : ∀ i x, T i = some x → vA1 P i = x) {n0 : Nat} {c : Code} {Q Q' : Exit → St → Prop} {s : St} (hq : ∀ e s, Q e s → Q' e s) (h : VC P T G n0 c Q s) : wp P G (FnC P G) (FnH P G) (LeS G, n0) c Q' s :=
 wp_mono FnH.mono c _ _ s hq (zDF FnH.mono hT c _ s h)
def vTY (h : Hp) (v d : PV) : Prop := gives h v d
theorem zAB {h : Hp} {v d d' : PV} {ks : List Nat} (e : frz h 4 v = some (d', ks)) (e' : d' = d) : vTY h v d := ⟨ks, e' ▸ e⟩
def vDE (els : List PV) (sz : Nat) (agg : Bool) (v : PV) (s : St) : Prop := vGG els sz agg v s
theorem vGF {sz : Nat} {agg : Bool} {s : St} : vDE [] sz agg .nilsl s := Or.inl ⟨rfl, rfl⟩
theorem zGH {els els' : List PV} {sz : Nat} {agg : Bool} {r len : Nat} {s : St} (hb : s.h r = some ⟨els', sz, agg⟩) (e : els' = els) (hl : len = els.length) (hz : s.z r = false) (hf : vBR (frz s.h 4) els = some (els, [])) : vDE els sz agg (.own r 0 len) s := by subst e; exact vKY hl hb hz hf
theorem zAN (hm : P.follows .mixedOrders = true) (hT : ∀ i x, T i = some x → vA1 P i = x) {f : FuncId} {fn : Func} {c : Code} {rs : List ResultVar} {nt : Nat} (ok : FnOk P f fn c rs nt) {ds : List PV} (hl : ds.length ≤ nt) {d : PV}
 (h : VC P T G 0 c (vWV T rs fun v s => vTY s.h v d) (vLS ds)) : FnC P G f ds (.data d) :=
 uH0 hm ok hl (by rw [← vHQ]; exact zK6 hT (fun e s h => zDN hT h) h)
theorem vGN (hm : P.follows .mixedOrders = true) (hT : ∀ i x, T i = some x → vA1 P i = x) {f : FuncId} {fn : Func} {c : Code} {rs : List ResultVar} {nt : Nat} (ok : FnOk P f fn c rs nt) {ds : List PV} (hl : ds.length ≤ nt) {els : List PV} {sz : Nat} {agg : Bool}
 (h : VC P T G 0 c (vWV T rs (vDE els sz agg)) (vLS ds)) : FnC P G f ds (.fresh els sz agg) :=
 uEM hm ok hl (by rw [← vHQ]; exact zK6 hT (fun e s h => zDN hT h) h)
def fZ (z : Fz) (ks : List Nat) (K : Fz → Prop) : Prop := match ks with
 | [] => K z
 | k :: ks => K (fs z (k :: ks))
theorem vK2 {z : Fz} {ks : List Nat} {K : Fz → Prop} (h : fZ z ks K) : K (vBQ z ks) := by
 cases ks with
 | nil => rw [vY7]; exact h
 | cons k ks => rw [← uHZ]; exact h
def vEB (K : FP → St → Prop) (t : Tm) (d : Option Nat) (v : PV) (h : Hp) (z : Fz) (nx : Nat) (fp : FP) : Prop := force v fun v => match d with
 | some d => K fp ⟨ts t d v, h, z, nx⟩
 | none => K fp ⟨t, h, z, nx⟩
theorem zEA {K : FP → St → Prop} {t : Tm} {d : Option Nat} {v : PV} {h : Hp} {z : Fz} {nx : Nat} {fp : FP} (hk : vEB K t d v h z nx fp) : K fp (put ⟨t, h, z, nx⟩ d v) := by
 unfold vEB at hk;rw [force_eq] at hk;cases d with
 | none => exact hk
 | some d => dsimp only at hk; rw [vN3] at hk; exact hk
theorem zAA {C : vA2} {I : vBI} {D : Bool} {f : FuncId} {args ds : List PV} {ks : List Nat} {v : PV} {d : Option Nat} {K : FP → St → Prop} {t : Tm} {h : Hp} {z : Fz} {nx : Nat} (hC : C f ds (.data v)) (hf : vBR (frz h 6) args = some (ds, ks))
 (hk : fZ z ks fun z => fN (nx + 1) fun nx => vEB K t d v h z nx ⟨ks, [], ks⟩) : vDU C I D f args d K ⟨t, h, z, nx⟩ :=
 vU7 (s := ⟨t, h, z, nx⟩) hC hf (by
  have := vK2 hk;rw [zIG] at this
  exact zEA this)
theorem zFY {C : vA2} {I : vBI} {D : Bool} {f : FuncId} {args ds : List PV} {ks : List Nat} {els : List PV} {sz : Nat} {agg : Bool} {d : Option Nat} {K : FP → St → Prop} {t : Tm} {h : Hp} {z : Fz} {nx : Nat} (hC : C f ds (.fresh els sz agg)) (hf : vBR (frz h 6) args = some (ds, ks))
 (hk : fZ z ks fun z => fN nx fun key => fN (nx + 1) fun nx => vEB K t d (.own key 0 els.length) (hs h key (some ⟨els, sz, agg⟩)) z nx ⟨ks, [key], ks⟩) : vDU C I D f args d K ⟨t, h, z, nx⟩ :=
 vPN (s := ⟨t, h, z, nx⟩) hC hf (by
  have := vK2 hk;rw [zIG, zIG, zET] at this
  exact zEA this)
theorem vU8 {C : vA2} {I : vBI} {f : FuncId} {args : List PV} {d : Option Nat} {K : FP → St → Prop} {s : St} (h : I f args (fun v s' => K ⟨[], [], []⟩ (put { s' with t := s.t } d v)) s) : vDU C I false f args d K s :=
 vZT h
end
theorem zBQ {C : vA2} {I : vBI} {D : Bool} {f : FuncId} {args ds : List PV} {ks : List Nat} {r : Nat} {b b1 : Blk} {res : PV} {d : Option Nat} {K : FP → St → Prop} {t : Tm} {h : Hp} {z : Fz} {nx : Nat} (hC : C f ds (.own (some b) res b1)) (hf : vBR (cv h 6 (some r)) args = some (ds, ks)) (hb : h r = some b) (hz : z r = false) (hr : ks.contains r = false) (hn : nrs b)
 (hk : fZ z ks fun z => fN nx fun key => fN (nx + 1) fun nx => vEB K t d (rk key res) (hs (hs h r none) key (some b1)) z nx ⟨r :: ks, [r, key], ks⟩) : vDU C I D f args d K ⟨t, h, z, nx⟩ :=
 Or.inr (Or.inr (Or.inl ⟨6, ds, ks, some (r, b), res, b1, hf, hC, fun r' b' e => by cases e; exact ⟨hb, hz, by simpa using hr, hn⟩, by
  have := vK2 hk;rw [zIG, zIG, zET, zET] at this
  exact zEA this⟩))
theorem zBI {C : vA2} {I : vBI} {D : Bool} {f : FuncId} {args ds : List PV} {ks : List Nat} {b1 : Blk} {res : PV} {d : Option Nat} {K : FP → St → Prop} {t : Tm} {h : Hp} {z : Fz} {nx : Nat} (hC : C f ds (.own none res b1)) (hf : vBR (cv h 6 none) args = some (ds, ks))
 (hk : fZ z ks fun z => fN nx fun key => fN (nx + 1) fun nx => vEB K t d (rk key res) (hs h key (some b1)) z nx ⟨ks, [key], ks⟩) : vDU C I D f args d K ⟨t, h, z, nx⟩ :=
 Or.inr (Or.inr (Or.inl ⟨6, ds, ks, none, res, b1, hf, hC, fun r' b' e => (by cases e), by
  have := vK2 hk;rw [zIG, zIG, zET] at this
  exact zEA this⟩))
theorem zIN {C : vA2} {I : vBI} {D : Bool} {f : FuncId} {args ds : List PV} {ks : List Nat} {r : Nat} {b b1 : Blk} {v : PV} {d : Option Nat} {K : FP → St → Prop} {t : Tm} {h : Hp} {z : Fz} {nx : Nat} (hC : C f ds (.wrt b v b1)) (hf : vBR (cv h 6 (some r)) args = some (ds, ks)) (hb : h r = some b) (hz : z r = false) (hr : ks.contains r = false) (hn : nrs b) (hr0 : 0 < r)
 (hk : fZ z ks fun z => fN (nx + 1) fun nx => vEB K t d v (hs h r (some b1)) z nx ⟨r :: ks, [r], ks⟩) : vDU C I D f args d K ⟨t, h, z, nx⟩ :=
 Or.inr (Or.inr (Or.inr (Or.inl ⟨6, ds, ks, r, b, v, b1, hf, hC, ⟨hb, hz, by simpa using hr, hn, Or.inl hr0⟩, by
  have := vK2 hk;rw [zIG, zET] at this
  exact zEA this⟩)))
theorem zBH {C : vA2} {I : vBI} {D : Bool} {f : FuncId} {args ds : List PV} {ks : List Nat} {r : Nat} {b b1 : Blk} {v : PV} {d : Option Nat} {K : FP → St → Prop} {t : Tm} {h : Hp} {z : Fz} {nx : Nat} (hC : C f ds (.wrt b v b1)) (hf : vBR (cv h 6 (some r)) args = some (ds, ks)) (hb : h r = some b) (hz : z r = false) (hr : ks.contains r = false) (hn : nrs b) (hr0 : ∀ i, b ≠ vC9 i)
 (hk : fZ z ks fun z => fN (nx + 1) fun nx => vEB K t d v (hs h r (some b1)) z nx ⟨r :: ks, [r], ks⟩) : vDU C I D f args d K ⟨t, h, z, nx⟩ :=
 Or.inr (Or.inr (Or.inr (Or.inl ⟨6, ds, ks, r, b, v, b1, hf, hC, ⟨hb, hz, by simpa using hr, hn, Or.inr (Or.inr hr0)⟩, by
  have := vK2 hk;rw [zIG, zET] at this
  exact zEA this⟩)))
theorem zB5 {C : vA2} {I : vBI} {D : Bool} {f : FuncId} {args ds : List PV} {ks : List Nat} {r : Nat} {b : Blk} {v : PV} {d : Option Nat} {K : FP → St → Prop} {t : Tm} {h : Hp} {z : Fz} {nx : Nat} (hC : C f ds (.wrt b v b)) (hf : vBR (cv h 6 (some r)) args = some (ds, ks)) (hb : h r = some b) (hz : z r = false) (hr : ks.contains r = false) (hn : nrs b)
 (hk : fZ z ks fun z => fN (nx + 1) fun nx => vEB K t d v (hs h r (some b)) z nx ⟨r :: ks, [r], ks⟩) : vDU C I D f args d K ⟨t, h, z, nx⟩ :=
 Or.inr (Or.inr (Or.inr (Or.inl ⟨6, ds, ks, r, b, v, b, hf, hC, ⟨hb, hz, by simpa using hr, hn, Or.inr (Or.inl rfl)⟩, by
  have := vK2 hk;rw [zIG, zET] at this
  exact zEA this⟩)))
def vD6 (h : Hp) : List Nat → List Blk → Hp
 | r :: rs, b :: bs => vD6 (hs h r (some b)) rs bs
 | _, _ => h
def frH (h : Hp) (z : Fz) (rs0 : List Nat) : List Nat → List Blk → Prop
 | [], [] => True
 | r :: rs, b :: bs => (∃ b', h r = some b' ∧ nmB rs0 b = b' ∧ z r = false ∧ (0 < r ∨ ∀ i, b' ≠ vC9 i)) ∧ frH h z rs0 rs bs
 | _, _ => False
def frN (rs0 : List Nat) : List Blk → List Blk → Prop
 | [], [] => True
 | b :: bs, c :: cs => nmB rs0 b = c ∧ frN rs0 bs cs
 | _, _ => False
def uI3 (m : Nat) : List Blk → Prop
 | [] => True
 | b :: bs => (∀ e ∈ b.els, okE m e) ∧ uI3 m bs
def uJN (m : Nat) : List PV → Prop
 | [] => True
 | d :: ds => okE m d ∧ uJN m ds
theorem uHJ {m : Nat} {e : PV} (h : nr 3 e = true) : okE m e := by cases e <;> first | exact h | (simp [nr] at h)
theorem zA9 {m : Nat} {v : PV} (h : okE m v) : ∀ e ∈ [v], okE m e := fun e he => by rw [List.mem_singleton.1 he]; exact h
theorem zE3 {m : Nat} {b : Blk} (h : nrs b) : ∀ e ∈ b.els, okE m e := fun e he => uHJ (h e he)
theorem uHL {rs : List Nat} {e : PV} (h : nr 3 e = true) : nmv rs e = e := by cases e <;> first | rfl | (simp [nr] at h)
theorem zG9 {rs : List Nat} {b : Blk} (h : nrs b) : nmB rs b = b := by
 obtain ⟨els, sz, agg⟩ := b;unfold nmB
 congr 1
 conv => rhs; rw [← List.map_id els]
 exact List.map_congr_left fun e he => uHL (h e he)
theorem vF1 {m : Nat} : ∀ {bs : List Blk}, uI3 m bs → ∀ b ∈ bs, ∀ e ∈ b.els, okE m e
 | [], _, b, hb => by cases hb
 | c :: bs, h, b, hb => by
   rcases List.mem_cons.1 hb with rfl | hb
   ·exact h.1
   ·exact vF1 h.2 b hb
theorem vMM {m : Nat} : ∀ {ds : List PV}, uJN m ds → ∀ d ∈ ds, okE m d
 | [], _, d, hd => by cases hd
 | c :: ds, h, d, hd => by
   rcases List.mem_cons.1 hd with rfl | hd
   ·exact h.1
   ·exact vMM h.2 d hd
theorem vT7 {h : Hp} {z : Fz} {rs0 : List Nat} : ∀ {rs : List Nat} {bs : List Blk}, frH h z rs0 rs bs → bs.length = rs.length ∧ ∀ j b, bs[j]? = some b → h (rs.getD j 0) = some (nmB rs0 b) ∧ z (rs.getD j 0) = false ∧ (0 < rs.getD j 0 ∨ ∀ i, nmB rs0 b ≠ vC9 i)
 | [], [], _ => ⟨rfl, fun j b hb => by simp at hb⟩
 | r :: rs, b :: bs, hf => by
   obtain ⟨⟨b', h1, h2, h3, h4⟩, h5⟩ := hf;obtain ⟨i1, i2⟩ := vT7 h5;refine ⟨by simp [i1], fun j c hc => ?_⟩;cases j with
   | zero =>
     simp only [List.getElem?_cons_zero, Option.some.injEq] at hc;subst hc; subst h2;exact ⟨h1, h3, h4⟩
   | succ j =>
     simp only [List.getElem?_cons_succ] at hc;simp only [List.getD_cons_succ];exact i2 j c hc
 | [], _ :: _, hf => hf.elim
 | _ :: _, [], hf => hf.elim
theorem zKT {rs0 : List Nat} : ∀ {rs : List Nat} {bs cs : List Blk} {h : Hp}, frN rs0 bs cs → vCO rs0 h rs bs = vD6 h rs cs ∧ bs.length = cs.length
 | [], [], [], _, _ => ⟨by unfold vCO vD6; rfl, rfl⟩
 | _ :: _, [], [], _, _ => ⟨by unfold vCO vD6; rfl, rfl⟩
 | [], _ :: _, _ :: _, _, hf => ⟨by unfold vCO vD6; rfl, by
   have := (zKT (rs := []) (h := noH) hf.2).2
   simp [this]⟩
 | r :: rs, b :: bs, c :: cs, h, hf => by
   obtain ⟨h1, h2⟩ := hf;unfold vCO vD6;obtain ⟨i1, i2⟩ := zKT (rs := rs) (h := hset h r (some (nmB rs0 b))) h2;refine ⟨?_, by simp [i2]⟩;rw [i1, h1, zET]
 | _, [], _ :: _, _, hf => hf.elim
 | _, _ :: _, [], _, hf => hf.elim
theorem zGO {C : vA2} {I : vBI} {D : Bool} {f : FuncId} {args ds : List PV} {bs bs' cs' : List Blk} {v : PV} {d : Option Nat} {K : FP → St → Prop} {t : Tm} {h : Hp} {z : Fz} {nx : Nat} (rs : List Nat) (hC : C f ds (.frm bs v bs')) (ha : args = ds.map (nmv rs)) (hn : rs.Nodup) (hb : frH h z rs rs bs) (hb' : frN rs bs' cs') (hl : cs'.length = rs.length)
 (ho : uI3 rs.length bs) (ho' : uI3 rs.length bs') (hd : uJN rs.length ds) (hk : fN (nx + 1) fun nx => vEB K t d v (vD6 h rs cs') z nx ⟨rs, rs, []⟩) : vDU C I D f args d K ⟨t, h, z, nx⟩ :=
 Or.inr (Or.inr (Or.inr (Or.inr ⟨ds, rs, bs, v, bs', ha, hC, ⟨hn, (vT7 hb).1, by rw [(zKT (rs := rs) (h := h) hb').2, hl], (vT7 hb).2, vF1 ho, vF1 ho', vMM hd⟩, by
  have e : vBQ z [] = z := by funext r; simp [vBQ]
  rw [(zKT (rs := rs) (h := h) hb').1, e];rw [zIG] at hk
  exact zEA hk⟩)))
def hsL (h : Hp) : Nat → List Blk → Hp
 | _, [] => h
 | k, b :: bs => hsL (hs h k (some b)) (k + 1) bs
theorem uBJ : ∀ {bs : List Blk} {h : Hp} {k j : Nat}, hsL h k bs j = if k ≤ j ∧ j < k + bs.length then bs[j - k]? else h j
 | [], h, k, j => by simp [hsL, show ¬ (k ≤ j ∧ j < k) by omega]
 | b :: bs, h, k, j => by
   unfold hsL;rw [uBJ, zET];by_cases e : j = k
   ·subst e
    rw [if_neg (by omega), if_pos (by simp)];simp [hset]
   ·by_cases h1 : k + 1 ≤ j ∧ j < k + 1 + bs.length
    ·rw [if_pos h1, if_pos (by simp only [List.length_cons]; omega), show j - k = j - (k + 1) + 1 by omega, List.getElem?_cons_succ]
    ·rw [if_neg h1, if_neg (by simp only [List.length_cons]; omega)]
     simp [hset, e]
def uJT (v : PV) (bs' : List Blk) (pv : PV) (s : St) : Prop := uI5 v bs' pv s
def frE (s : St) : Nat → List Blk → Prop
 | _, [] => True
 | k, b :: bs => (∃ els', s.h k = some ⟨els', b.sz, b.agg⟩ ∧ els' = b.els ∧ s.z k = false) ∧ frE s (k + 1) bs
theorem uBL {s : St} : ∀ {bs : List Blk} {k : Nat}, frE s k bs → ∀ j b, bs[j]? = some b → s.h (k + j) = some b ∧ s.z (k + j) = false
 | [], _, _, j, b, hb => by simp at hb
 | c :: bs, k, h, j, b, hb => by
   obtain ⟨⟨els', h1, h2, h3⟩, h4⟩ := h;cases j with
   | zero =>
     simp only [List.getElem?_cons_zero, Option.some.injEq] at hb;subst hb; subst h2;exact ⟨h1, h3⟩
   | succ j =>
     simp only [List.getElem?_cons_succ] at hb;have := uBL h4 j b hb;rw [show k + (j + 1) = k + 1 + j by omega]; exact this
theorem zL6 {v pv : PV} {bs' : List Blk} {s : St} (hv : pv = v) (hnv : nr 3 v = true) (hb : frE s 0 bs') : uJT v bs' pv s :=
 ⟨hv, hnv, fun j b h => by have := uBL hb j b h; rw [Nat.zero_add] at this; exact this⟩
def uJQ (v : PV) (b1 : Blk) (pv : PV) (s : St) : Prop := uHO v b1 pv s
theorem zBU {v pv : PV} {els els' : List PV} {sz : Nat} {agg : Bool} {s : St} (hv : pv = v) (hnv : nr 3 v = true) (hb : s.h 0 = some ⟨els', sz, agg⟩) (e : els' = els) (hz : s.z 0 = false) (hn : ∀ e ∈ els, nr 3 e = true) : uJQ v ⟨els, sz, agg⟩ pv s := by
 subst e; exact ⟨hv, hnv, hb, hz, hn⟩
def uG8 (res : PV) (b1 : Blk) (v : PV) (s : St) : Prop := uG9 res b1 v s
theorem zFU {res v : PV} {els els' : List PV} {sz : Nat} {agg : Bool} {r : Nat} {s : St} (hv : v = rk r res) (hb : s.h r = some ⟨els', sz, agg⟩) (e : els' = els) (hz : s.z r = false) (hn : ∀ e ∈ els, nr 3 e = true) (ho : vEP ⟨els, sz, agg⟩ res) : uG8 res ⟨els, sz, agg⟩ v s := by
 subst e; exact ⟨hn, ho, Or.inl ⟨r, hv, hb, hz⟩⟩
theorem vMG {res v : PV} {els : List PV} {sz : Nat} {agg : Bool} {s : St} (hv : v = rkn res) (e : els = []) (ho : vEP ⟨els, sz, agg⟩ res) : uG8 res ⟨els, sz, agg⟩ v s :=
 ⟨fun x hx => (by rw [show (⟨els, sz, agg⟩ : Blk).els = [] from e] at hx; cases hx), ho, Or.inr ⟨hv, e⟩⟩
theorem zA7 {els : List PV} {sz : Nat} {agg : Bool} (h : ∀ e ∈ els, nr 3 e = true ∧ e ≠ .any) : nrs ⟨els, sz, agg⟩ := fun e he => (h e he).1
section
variable {P : Program} {T : Ti} {G : Gl}
theorem vIQ (hm : P.follows .mixedOrders = true) (hT : ∀ i x, T i = some x → vA1 P i = x) {f : FuncId} {fn : Func} {c : Code} {rs : List ResultVar} {nt : Nat} (ok : FnOk P f fn c rs nt) {ds : List PV} (hl : ds.length ≤ nt) {b b1 : Blk} {res : PV}
 (h : VC P T G 1 c (vWV T rs (uG8 res b1)) ⟨uB6 ds, hs noH 0 (some b), noZ, 1⟩) : FnC P G f ds (.own (some b) res b1) :=
 ⟨ok.callable, by
   have := zFO hm ok hl (G := G) (K := uG9 res b1) (s := vB4 (some b)) (by
    show wp P G (FnC P G) (FnH P G) (LeS G, 1) c _ ⟨vDV ds, hset noH 0 (some b), noZ, 1⟩
    rw [← zJW, ← zET]; exact zK6 hT (fun e s h => zDN hT h) h)
   exact this⟩
theorem zGK (hm : P.follows .mixedOrders = true) (hT : ∀ i x, T i = some x → vA1 P i = x) {f : FuncId} {fn : Func} {c : Code} {rs : List ResultVar} {nt : Nat} (ok : FnOk P f fn c rs nt) {ds : List PV} (hl : ds.length ≤ nt) {b1 : Blk} {res : PV}
 (h : VC P T G 1 c (vWV T rs (uG8 res b1)) ⟨uB6 ds, noH, noZ, 1⟩) : FnC P G f ds (.own none res b1) :=
 ⟨ok.callable, by
   have := zFO hm ok hl (G := G) (K := uG9 res b1) (s := vB4 none) (by
    show wp P G (FnC P G) (FnH P G) (LeS G, 1) c _ ⟨vDV ds, noH, noZ, 1⟩
    rw [← zJW]; exact zK6 hT (fun e s h => zDN hT h) h)
   exact this⟩
theorem zCF (hm : P.follows .mixedOrders = true) (hT : ∀ i x, T i = some x → vA1 P i = x) {f : FuncId} {fn : Func} {c : Code} {rs : List ResultVar} {nt : Nat} (ok : FnOk P f fn c rs nt) {ds : List PV} (hl : ds.length ≤ nt) {b b1 : Blk} {v : PV}
 (h : VC P T G 1 c (vWV T rs (uJQ v b1)) ⟨uB6 ds, hs noH 0 (some b), noZ, 1⟩) : FnC P G f ds (.wrt b v b1) :=
 ⟨ok.callable, by
   have := zFO hm ok hl (G := G) (K := uHO v b1) (s := vB4 (some b)) (by
    show wp P G (FnC P G) (FnH P G) (LeS G, 1) c _ ⟨vDV ds, hset noH 0 (some b), noZ, 1⟩
    rw [← zJW, ← zET]; exact zK6 hT (fun e s h => zDN hT h) h)
   exact this⟩
theorem zIF (hm : P.follows .mixedOrders = true) (hT : ∀ i x, T i = some x → vA1 P i = x) {f : FuncId} {fn : Func} {c : Code} {rs : List ResultVar} {nt : Nat} (ok : FnOk P f fn c rs nt) {ds : List PV} (hl : ds.length ≤ nt) {bs bs' : List Blk} {v : PV} {m : Nat} (hm' : bs.length = m)
 (h : VC P T G m c (vWV T rs (uJT v bs')) ⟨uB6 ds, hsL noH 0 bs, noZ, m⟩) : FnC P G f ds (.frm bs v bs') :=
 ⟨ok.callable, by
   subst hm'
   have := zFO hm ok hl (G := G) (K := uI5 v bs') (s := vDL bs) (by
    show wp P G (FnC P G) (FnH P G) (LeS G, bs.length) c _ ⟨vDV ds, fun j => bs[j]?, fun _ => false, bs.length⟩
    have e : (fun j => bs[j]?) = hsL noH 0 bs := by
     funext j
     rw [uBJ];by_cases hj : j < bs.length
     ·rw [if_pos ⟨Nat.zero_le _, by omega⟩, Nat.sub_zero]
     ·rw [if_neg (by omega), List.getElem?_eq_none (by omega)]; rfl
    rw [← zJW, e]; exact zK6 hT (fun e s h => zDN hT h) h)
   exact this⟩
end
attribute [irreducible] uAL uA1 vDU vD5 vTY vDE uG8 uJQ uJT
def sv : List (Nat × PV) → Nat → PV
 | [], _ => .any
 | (j, v) :: l, i => match Nat.beq i j with
   | true => v
   | false => sv l i
def hv : List (Nat × Blk) → Nat → Option Blk
 | [], _ => none
 | (j, b) :: l, i => match Nat.beq i j with
   | true => some b
   | false => hv l i
def zv (l : List Nat) (r : Nat) : Bool := vPF l r
theorem vN6 : ∀ {l : List (Nat × PV)}, sv l = sl l
 | [] => rfl
 | (j, v) :: l => by
   funext i
   unfold sv sl;rw [zE6, vN6];by_cases h : i = j <;> simp [h]
theorem vTR : ∀ {l : List (Nat × Blk)}, hv l = hl l
 | [] => rfl
 | (j, v) :: l => by
   funext i
   unfold hv hl;rw [zE6, vTR];by_cases h : i = j <;> simp [h]
theorem vWP {l : List Nat} : zv l = zl l := by funext r; unfold zv zl; rw [zJI]
def at' (ρ : Nat → Nat) (k : Nat) (t : Tm) (j : Nat) (v : PV) : Prop := rn ρ k 3 v (t j)
def okV (ρ : Nat → Nat) (k : Nat) : List (Nat × PV) → Tm → Prop
 | [], _ => True
 | (j, v) :: l, t => at' ρ k t j v ∧ okV ρ k l t
theorem zJB {ρ : Nat → Nat} {k : Nat} {t : Tm} : ∀ {l : List (Nat × PV)}, okV ρ k l t → okS ρ k l t
 | [], _ => trivial
 | (_, _) :: _, h => ⟨h.1, zJB h.2⟩
section
variable {ρ : Nat → Nat} {k : Nat} {t : Tm} {j : Nat}
theorem zAC {κ : IntKind} {n m : Int} (h : t j = .int κ n) (e : n = m) : at' ρ k t j (.int κ m) := by subst e; unfold at'; rw [uGW]; exact h
theorem zBF {b c : Bool} (h : t j = .bool b) (e : b = c) : at' ρ k t j (.bool c) := by subst e; unfold at'; rw [uCY]; exact h
theorem zAE {es fs : List PV} (h : t j = .imm es) (e : es = fs) : at' ρ k t j (.imm fs) := by subst e; unfold at'; rw [uGX]; exact h
theorem vG8 (h : t j = .nilsl) : at' ρ k t j .nilsl := by unfold at'; rw [vXA]; exact h
theorem zAF {r off len len' : Nat} (hr : r < k) (h : t j = .own (ρ r) off len) (e : len = len') : at' ρ k t j (.own r off len') := by subst e; unfold at'; rw [uGV]; exact ⟨hr, h⟩
theorem uB5 {r i off : Nat} (hr : r < k) (h : t j = .ptr (ρ r) i off) : at' ρ k t j (.ptr r i off) := by unfold at'; rw [uGU]; exact ⟨hr, h⟩
theorem apx {r i off : Nat} (hr : r < k := by decide) (h : t j = .ptr (ρ r) i off := by exact rfl) : at' ρ k t j (.ptr r i off) := uB5 hr h
theorem apy {r i off : Nat} (h : t j = .ptr (ρ r) i off) (hr : r < k := by decide) : at' ρ k t j (.ptr r i off) := uB5 hr h
theorem ttt : True ∧ True ∧ True := ⟨trivial, ⟨trivial, trivial⟩⟩
end
section
variable {P : Program} {T : Ti} {G : Gl} {n0 : Nat}
def vV6 (ρ : Nat → Nat) (k : Nat) (Z : List Nat) (r : Nat) (b : Blk) (h : Hp) (z : Fz) : Prop := r < k ∧ (∀ e ∈ b.els, e ≠ .any) ∧ (∃ b', h (ρ r) = some b' ∧ rnB ρ k b b') ∧ vPF Z r = z (ρ r)
def uHI (ρ : Nat → Nat) (k : Nat) (Z : List Nat) : List (Nat × Blk) → Hp → Fz → Prop
 | [], _, _ => True
 | (r, b) :: l, h, z => vV6 ρ k Z r b h z ∧ uHI ρ k Z l h z
theorem zKM {ρ : Nat → Nat} {k : Nat} {Z : List Nat} {h : Hp} {z : Fz} : ∀ {l : List (Nat × Blk)}, uHI ρ k Z l h z → okH ρ k Z l h z
 | [], _ => trivial
 | (_, _) :: _, ⟨⟨h1, h2, ⟨b, h3, h4⟩, h5⟩, hr⟩ => ⟨⟨h1, h2, by rw [h3]; exact h4, by rw [← zJI]; exact h5⟩, zKM hr⟩
theorem zD6 {ρ : Nat → Nat} {k : Nat} {Z : List Nat} {r : Nat} {v v' : PV} {sz : Nat} {agg : Bool} {h : Hp} {z : Fz} (hr : r < k) (hb : h (ρ r) = some ⟨[v'], sz, agg⟩) (e : v' = v) (hn : nr 3 v = true) (ha : v.storable = true) (hz : vPF Z r = z (ρ r)) : vV6 ρ k Z r ⟨[v], sz, agg⟩ h z := by
 subst e;refine ⟨hr, fun e he => ?_, ⟨_, hb, rfl, rfl, Or.inl ⟨rfl, fun e he => ?_⟩⟩, hz⟩
 ·simp at he; subst he; intro q; subst q; simp [PV.storable] at ha
 ·simp at he; subst he; exact hn
theorem bbx {ρ : Nat → Nat} {k : Nat} {Z : List Nat} {r : Nat} {v v' : PV} {sz : Nat} {agg : Bool} {h : Hp} {z : Fz} (hr : r < k := by decide) (hb : h (ρ r) = some ⟨[v'], sz, agg⟩ := by exact rfl) (e : v' = v := by exact rfl) (hn : nr 3 v = true := by exact rfl) (ha : v.storable = true := by exact rfl) (hz : vPF Z r = z (ρ r) := by exact rfl) : vV6 ρ k Z r ⟨[v], sz, agg⟩ h z := zD6 hr hb e hn ha hz
theorem zA8 {ρ : Nat → Nat} {k : Nat} {Z : List Nat} {r : Nat} {v v' : PV} {sz : Nat} {agg : Bool} {h : Hp} {z : Fz} (hr : r < k) (hb : h (ρ r) = some ⟨[v'], sz, agg⟩) (e : rn ρ k 3 v v') (ha : v.storable = true) (hz : vPF Z r = z (ρ r)) : vV6 ρ k Z r ⟨[v], sz, agg⟩ h z := by
 refine ⟨hr, fun e he => ?_, ⟨_, hb, rfl, rfl, Or.inr ⟨e, trivial⟩⟩, hz⟩;simp at he; subst he; intro q; subst q; simp [PV.storable] at ha
theorem zAD {ρ : Nat → Nat} {k : Nat} {Z : List Nat} {r : Nat} {els els' : List PV} {sz : Nat} {agg : Bool} {h : Hp} {z : Fz} (hr : r < k) (hb : h (ρ r) = some ⟨els', sz, agg⟩) (e : els' = els) (hn : ∀ e ∈ els, nr 3 e = true ∧ e ≠ .any) (hz : vPF Z r = z (ρ r)) : vV6 ρ k Z r ⟨els, sz, agg⟩ h z := by
 subst e;exact ⟨hr, fun e he => (hn e he).2, ⟨_, hb, rfl, rfl, Or.inl ⟨rfl, fun e he => (hn e he).1⟩⟩, hz⟩
theorem zGE (hT : ∀ i x, T i = some x → vA1 P i = x) {c : Code} {Q : Exit → St → Prop} {s : St} {ι : Type} (L : ι → List (Nat × PV)) (H : ι → List (Nat × Blk)) (Z : List Nat) (k : Nat) (Inv : ι → Prop) (μ : ι → Nat) (i0 : ι) (h0 : Inv i0) (hk : n0 ≤ k) (hZ : ∀ r ∈ Z, r < k)
 (ρ0 : List Nat) (hs : okV (ren n0 ρ0) k (L i0) s.t) (hH : uHI (ren n0 ρ0) k Z (H i0) s.h s.z) (hinj : ((H i0).map fun q => ren n0 ρ0 q.1).Pairwise (· ≠ ·))
 (round : ∀ i, Inv i → VC P T G n0 c (vCX (fun s' => ∃ i' ρ, (Inv i' ∧ μ i' < μ i) ∧ okV (ren n0 ρ) k (L i') s'.t ∧ uHI (ren n0 ρ) k Z (H i') s'.h s'.z ∧ ((H i').map fun q => ren n0 ρ q.1).Pairwise (· ≠ ·)) Q) ⟨sv (L i), hv (H i), zv Z, k⟩) :
 vD5 P G (FnC P G) (FnH P G) (LeS G, n0) c Q s := by
 unfold vD5;refine zH8 L H (fun _ => Z) k Inv μ i0 h0 (vHE ρ0 hk (zJB hs) (zKM hH) hZ hinj) fun i hi => ?_
 have := round i hi;rw [vN6, vTR, vWP] at this
 exact zK6 hT (fun e s h => by
  cases e <;> first | (obtain ⟨i', ρ, ⟨h1, h2⟩, h3, h4, h5⟩ := h; exact ⟨i', h1, h2, vHE ρ hk (zJB h3) (zKM h4) hZ h5⟩) | exact h) this
theorem zA6 (hT : ∀ i x, T i = some x → vA1 P i = x) {c : Code} {Q : Exit → St → Prop} {s : St} {ι : Type} (L : ι → List (Nat × PV)) (Inv : ι → Prop) (μ : ι → Nat) (i0 : ι) (h0 : Inv i0)
 (hs : okV id n0 (L i0) s.t)
 (round : ∀ i, Inv i → VC P T G n0 c (vCX (fun s' => ∃ i', (Inv i' ∧ μ i' < μ i) ∧ okV id n0 (L i') s'.t) Q) ⟨sv (L i), noH, noZ, n0⟩) :
 vD5 P G (FnC P G) (FnH P G) (LeS G, n0) c Q s := by
 unfold vD5;refine vPG L Inv μ i0 h0 (zJB hs) fun i hi => ?_
 have := round i hi;rw [vN6] at this
 exact zK6 hT (fun e s h => by
  cases e <;> first | (obtain ⟨i', h1, h3⟩ := h; exact ⟨i', h1, zJB h3⟩) | exact h) this
end
theorem uGF {P : Program} {tab : List TI} (h : (List.range tab.length).map (vA1 P) = tab) : ∀ i x, nth tab i = some x → vA1 P i = x := by
 intro i x hx;rw [zDZ, ← h, List.getElem?_map] at hx
 have hi : i < tab.length := by
  by_cases hi : i < tab.length
  ·exact hi
  ·rw [List.getElem?_eq_none (by simpa using hi)] at hx; cases hx
 rw [List.getElem?_range hi] at hx
 simpa using hx
theorem zJT {α : Type} {f : α → PV} {l : List α} {sz : Nat} {agg b : Bool} {A : Prop} (h : ∀ x, (f x).cells.length = sz ∧ (f x).isAgg = agg) (hb : b = true) (k : A) : brT (an (uB7 sz agg (l.map f)) b) A :=
 vJH (by rw [vNY h, hb]; rfl) k
theorem zFL {α : Type} {f : α → PV} {l : List α} {o n sz : Nat} {agg b : Bool} {A : Prop} (h : ∀ x, (f x).cells.length = sz ∧ (f x).isAgg = agg) (hb : b = true) (k : A) : brT (an (uB7 sz agg (((l.map f).drop o).take n)) b) A :=
 vJH (by rw [← List.map_drop, ← List.map_take, vNY h, hb]; rfl) k
theorem vTA {α : Type} [Inhabited α] {f : α → PV} {l : List α} {i : Nat} {K : PV → Prop} (h : i < l.length) (k : K (f l[i]!)) : oK (nth (l.map f) i) K := by
 refine vF3 ?_ k;rw [zDZ, List.getElem?_map, List.getElem?_eq_getElem h, getElem!_pos l i h];rfl
theorem zA4 {α : Type} [Inhabited α] {f : α → PV} {l : List α} {i : Int} {K : PV → Prop} {j : Nat} (e : i = (j : Int)) (h : j < l.length) (k : K (f l[j]!)) : oK (nth (l.map f) i.toNat) K := by
 subst e;exact vTA h k
theorem zAU {α : Type} [Inhabited α] {f : α → PV} {l : List α} {k : Nat} (j : Nat) {K : PV → Prop} (e : k = j) (h : j < l.length) (q : K (f l[j]!)) : oK (nth (l.map f) k) K := by subst e; exact vTA h q
open Go.RowKit
def subs (ks KS : List Nat) : Bool := match ks with
 | [] => true
 | k :: ks => an (vPF KS k) (subs ks KS)
theorem vE3 : ∀ {ks KS : List Nat}, subs ks KS = true → ∀ k ∈ ks, k ∈ KS
 | k :: ks, KS, h, j, hj => by
   unfold subs at h;rw [zB7, zJI] at h;rcases List.mem_cons.1 hj with rfl | hj
   ·simpa using h.1
   ·exact vE3 h.2 j hj
def fzT (KS : List Nat) (h : Hp) (t : Tm) : List (Nat × PV) → Prop
 | [] => True
 | (j, d) :: l => (∃ m ks, frz h m (t j) = some (d, ks) ∧ subs ks KS = true) ∧ fzT KS h t l
def fzH (KS : List Nat) (h : Hp) : List (Nat × List PV) → Prop
 | [] => True
 | (r, els) :: l => (∃ b m ks, h r = some b ∧ vBR (frz h m) b.els = some (els, ks) ∧ subs ks KS = true) ∧ fzH KS h l
def vY3 (h : Hp) : List Nat → Prop
 | [] => True
 | k :: ks => (∃ b, h k = some b) ∧ vY3 h ks
def uC2 (t : Tm) : List (Nat × PV) → Nat → PV
 | [], j => t j
 | (i, d) :: l, j => match Nat.beq j i with
   | true => d
   | false => uC2 t l j
def uC3 (h : Hp) : List (Nat × List PV) → Nat → Option Blk
 | [], r => h r
 | (i, els) :: l, r => match Nat.beq r i with
   | true => match h r with
     | some b => some ⟨els, b.sz, b.agg⟩
     | none => none
   | false => uC3 h l r
theorem vH3 {KS : List Nat} {h : Hp} {t : Tm} : ∀ {l : List (Nat × PV)}, fzT KS h t l → ∀ j, uC2 t l j = t j ∨ ∃ m ks, frz h m (t j) = some (uC2 t l j, ks) ∧ ∀ k ∈ ks, k ∈ KS
 | [], _, j => Or.inl rfl
 | (i, d) :: l, hl, j => by
   unfold uC2;rw [zE6];by_cases e : j = i
   ·subst e
    simp only [decide_true];obtain ⟨⟨m, ks, h1, h2⟩, _⟩ := hl;exact Or.inr ⟨m, ks, h1, vE3 h2⟩
   ·simp only [e, decide_false]
    exact vH3 hl.2 j
theorem zFB {KS : List Nat} {h : Hp} : ∀ {l : List (Nat × List PV)}, fzH KS h l → ∀ r b', uC3 h l r = some b' → ∃ b, h r = some b ∧ b'.sz = b.sz ∧ b'.agg = b.agg ∧ (b' = b ∨ ∃ m ks, vBR (frz h m) b.els = some (b'.els, ks) ∧ ∀ k ∈ ks, k ∈ KS)
 | [], _, r, b', hb => ⟨b', hb, rfl, rfl, Or.inl rfl⟩
 | (i, els) :: l, hl, r, b', hb => by
   unfold uC3 at hb;rw [zE6] at hb;by_cases e : r = i
   ·subst e
    simp only [decide_true] at hb;obtain ⟨⟨b, m, ks, h1, h2, h3⟩, _⟩ := hl;rw [h1] at hb;cases hb
    exact ⟨b, h1, rfl, rfl, Or.inr ⟨m, ks, h2, vE3 h3⟩⟩
   ·simp only [e, decide_false] at hb
    exact zFB hl.2 r b' hb
theorem zNP {h : Hp} : ∀ {l : List Nat}, vY3 h l → ∀ k ∈ l, ∃ b, h k = some b
 | k :: ks, hl, j, hj => by
   rcases List.mem_cons.1 hj with rfl | hj
   ·exact hl.1
   ·exact zNP hl.2 j hj
theorem vH4 {h : Hp} {r : Nat} (hr : h r = none) : ∀ {l : List (Nat × List PV)}, uC3 h l r = none
 | [] => hr
 | (i, els) :: l => by
   unfold uC3;cases Nat.beq r i with
   | true => simp [hr]
   | false => exact vH4 hr
theorem uFZ {G : Gl} {n0 : Nat} {s : St} {KS : List Nat} {TS : List (Nat × PV)} {HS : List (Nat × List PV)} (hKS : vY3 s.h KS) (hT : fzT KS s.h s.t TS) (hH : fzH KS s.h HS) :
 LeS G n0 s ⟨uC2 s.t TS, uC3 s.h HS, vBQ s.z KS, s.nx⟩ := by
 intro E N df a w A κ hE hR;have hKS := zNP hKS;have H1 := hR.hr.freeze (ks := KS) hKS;refine ⟨fun b => A b ∨ vBA κ KS b, κ, ⟨⟨H1.bel, H1.hB, H1.alt, H1.a0, H1.a1, H1.acell, H1.k0, H1.glob, H1.klt, ⟨H1.kp.base, H1.kp.keep, H1.kp.wr, fun r b' m sz cap hb hκ hc hz => ?_, H1.kp.mks, H1.kp.nd, H1.kp.kb, H1.kp.kk, H1.kp.zk, H1.kp.mk0, fun hg => ⟨(H1.kp.gk hg).1, (H1.kp.gk hg).2.1, fun b' hb => ?_⟩⟩, fun r b' hb hκ => ?_, fun r r' b b' m m' s1 s2 c c' hne hr hr' => ?_⟩, fun r hr => ⟨?_, ?_, ?_⟩, hR.n0, fun i hi => ?_, hR.size, hR.df⟩⟩
 ·obtain ⟨b, h1, _⟩ := zFB hH r b' hb
  exact H1.kp.own r b m sz cap h1 hκ hc hz
 ·obtain ⟨b, h1, h2, h3, h4⟩ := zFB hH 0 b' hb
  have e := (H1.kp.gk hg).2.2 b h1;subst e;rcases h4 with rfl | ⟨m0, ks, h4, h5⟩
  ·rfl
  ·obtain ⟨els, sz, agg⟩ := b'
   cases m0 <;> simp [vC9, vBR, frz] at h2 h3 h4 ⊢ <;> simp [h2, h3, h4.1]
 ·obtain ⟨b, h1, h2, h3, h4⟩ := zFB hH r b' hb
  rcases h4 with rfl | ⟨m0, ks, h4, h5⟩
  ·exact H1.blk r b' h1 hκ
  ·obtain ⟨m, cap, g1, g2, g3, g4⟩ := H1.blk r b h1 hκ
   obtain ⟨q1, q2⟩ := zB2 h4;refine ⟨m, cap, by rw [h2]; exact g1, by omega, fun e he => ?_, ?_⟩
   ·obtain ⟨i, hi, rfl⟩ := List.getElem_of_mem he
    obtain ⟨x, ks1, e1, e2, e3⟩ := q2 i _ (List.getElem?_eq_getElem hi);obtain ⟨c1, c2, _⟩ := zEM e2;have := g3 x (List.mem_of_getElem? e1);rw [h2, h3, c1, c2]; exact this
   ·rcases g4 with g4 | ⟨c, ty, f1, f2, f3, f4, f5, f6, f7⟩
    ·exact Or.inl g4
    ·refine Or.inr ⟨c, ty, f1, f2, by rw [h2]; exact f3, f4, fun i e he j x hx => ?_, f6, f7⟩
     rw [h2];obtain ⟨y, ks1, e1, e2, e3⟩ := q2 i e he;obtain ⟨_, _, hcel⟩ := zEM e2;obtain ⟨m', y', ks2, p1, p2, p3, p4⟩ := hcel j x hx
     have f5' : lies w A κ c (i * b.sz) y := by
      obtain ⟨m2, cap2, z1, z2, z3, z4⟩ := hR.hr.blk r b h1 hκ;rw [g1] at z1; cases z1;rcases z4 with z4 | ⟨c2, ty2, y1, y2, y3, y4, y5, y6, y7⟩
      ·exfalso
       have hi := (List.getElem?_eq_some_iff.1 e1).1;omega
      ·rw [f2] at y2; cases y2
       exact y5 i y e1
     obtain ⟨u, t1, t2, t3⟩ := f5' j y' p2;refine ⟨u, t1, .data _ _ ?_, t3⟩;exact zFH hR.hr (A' := fun b => A b ∨ vBA κ KS b) (fun b hb => Or.inl hb) m' y' x u ks2 p3 t2 (fun b ⟨r, hr, q⟩ => Or.inr ⟨r, h5 r (e3 r (p4 r hr)), q⟩)
 ·obtain ⟨b1, h1, _⟩ := zFB hH r b hr
  obtain ⟨b2, h2, _⟩ := zFB hH r' b' hr';exact H1.excl r r' b1 b2 m m' s1 s2 c c' hne h1 h2
 ·exact vH4 (hR.fresh r hr).1
 ·have h2 := (hR.fresh r hr).2.1
  show vBQ s.z KS r = false
  simp only [vBQ, Bool.or_eq_false_iff];refine ⟨contains_false.2 fun hm => ?_, h2⟩;obtain ⟨b, hb⟩ := hKS r hm;rw [(hR.fresh r hr).1] at hb; cases hb
 ·exact (hR.fresh r hr).2.2
 ·show RV w _ κ (uC2 s.t TS i) _
  have hv := hR.tm i hi;rcases vH3 hT i with h | ⟨m, ks, h1, h2⟩
  ·rw [h]; exact hv.mono (fun _ h => Or.inl h) (fun _ _ _ => rfl) (fun _ _ h => h)
  ·exact .data _ _ (zFH hR.hr (A' := fun b => A b ∨ vBA κ KS b) (fun b hb => Or.inl hb) m _ _ _ ks h1 hv (fun b ⟨r, hr, q⟩ => Or.inr ⟨r, h2 r hr, q⟩))
theorem LeS.trans {G : Gl} {n0 : Nat} {s1 s2 s3 : St} (h : LeS G n0 s1 s2) (k : LeS G n0 s2 s3) : LeS G n0 s1 s3 := by
 intro E N df a w A κ hE hR;obtain ⟨A', κ', hR'⟩ := h E N df a w A κ hE hR;exact k E N df a w A' κ' hE hR'
section
variable {P : Program} {T : Ti} {G : Gl} {n0 : Nat}
def Kept (n0 : Nat) (s : St) (L : List (Nat × PV)) (H : List (Nat × Blk)) (Z : List Nat) (k : Nat) : Prop :=
 ∃ (ρ KS : List Nat) (TS : List (Nat × PV)) (HS : List (Nat × List PV)), (vY3 s.h KS ∧ fzT KS s.h s.t TS ∧ fzH KS s.h HS) ∧ okV (ren n0 ρ) k L (uC2 s.t TS) ∧ uHI (ren n0 ρ) k Z H (uC3 s.h HS) (fs s.z KS) ∧ (H.map fun q => ren n0 ρ q.1).Pairwise (· ≠ ·)
theorem Kept.le {s : St} {L : List (Nat × PV)} {H : List (Nat × Blk)} {Z : List Nat} {k : Nat} (hk : n0 ≤ k) (hZ : ∀ r ∈ Z, r < k) (h : Kept n0 s L H Z k) : LeS G n0 s ⟨sl L, hl H, zl Z, k⟩ := by
 obtain ⟨ρ, KS, TS, HS, ⟨h1, h2, h3⟩, h4, h5, h6⟩ := h;refine (uFZ h1 h2 h3).trans (vHE ρ hk (zJB h4) (zKM ?_) hZ h6);rw [← uHZ]; exact h5
theorem zAG (hT : ∀ i x, T i = some x → vA1 P i = x) {c : Code} {Q : Exit → St → Prop} {s : St} {ι : Type} (L : ι → List (Nat × PV)) (H : ι → List (Nat × Blk)) (Z : List Nat) (k : Nat) (Inv : ι → Prop) (μ : ι → Nat) (i0 : ι) (h0 : Inv i0) (hk : n0 ≤ k) (hZ : ∀ r ∈ Z, r < k)
 (hs : Kept n0 s (L i0) (H i0) Z k)
 (round : ∀ i, Inv i → VC P T G n0 c (vCX (fun s' => ∃ i', (Inv i' ∧ μ i' < μ i) ∧ Kept n0 s' (L i') (H i') Z k) Q) ⟨sv (L i), hv (H i), zv Z, k⟩) :
 vD5 P G (FnC P G) (FnH P G) (LeS G, n0) c Q s := by
 unfold vD5;refine zH8 L H (fun _ => Z) k Inv μ i0 h0 (hs.le hk hZ) fun i hi => ?_
 have := round i hi;rw [vN6, vTR, vWP] at this
 exact zK6 hT (fun e s h => by
  cases e <;> first | (obtain ⟨i', ⟨h1, h2⟩, h3⟩ := h; exact ⟨i', h1, h2, h3.le hk hZ⟩) | exact h) this
end
theorem zAH {α : Type} {h : Hp} {n r len sz : Nat} {agg : Bool} {els : List PV} {f : α → PV} {l : List α} (hb : h r = some ⟨els, sz, agg⟩) (he : els = l.map f) (hl : len = l.length) (hf : ∀ x, frz h n (f x) = some (f x, [])) : frz h (n + 1) (.own r 0 len) = some (.imm (l.map f), [r]) := by
 subst hl he;unfold frz;simp only [hb];have e : ((l.map f).drop 0).take l.length = l.map f := by rw [List.drop_zero, List.take_of_length_le (by simp)]
 simp only [e, zL5 hf l];rw [if_pos (by simp)]
theorem zAP {f : PV → Option (PV × List Nat)} {c d : PV} {cs ds : List PV} {ks ls : List Nat} (h1 : f c = some (d, ks)) (h2 : vBR f cs = some (ds, ls)) : vBR f (c :: cs) = some (d :: ds, ks ++ ls) := by
 simp only [vBR, h1, h2]
theorem zAW {α : Type} {f : α → PV} {l : List α} (hf : ∀ x, nr 3 (f x) = true ∧ f x ≠ .any) : ∀ e ∈ l.map f, nr 3 e = true ∧ e ≠ .any := fun e he => by obtain ⟨x, _, rfl⟩ := List.mem_map.1 he; exact hf x
theorem zC7 {h : Hp} {n : Nat} {cs ds : List PV} {ks : List Nat} (h1 : vBR (frz h n) cs = some (ds, ks)) : frz h (n + 1) (.agg cs) = some (.agg ds, ks) := by
 unfold frz;simp only [h1]
theorem zE0 {h : Hp} {n : Nat} {cs ds : List PV} {ks : List Nat} (h1 : vBR (frz h n) cs = some (ds, ks)) : frz h (n + 1) (.tup cs) = some (.tup ds, ks) := by
 unfold frz;simp only [h1]
open Go.RowKit
section
variable {P : Program} {G : Gl} {xs : List (List PV)} {k : Nat}
end
section
variable {P : Program} {T : Ti} {G : Gl} {n0 : Nat} {C : vA2}
theorem uEL (hm : P.follows .mixedOrders = true) (hT : ∀ i x, T i = some x → vA1 P i = x) {f : FuncId} {fn : Func} {c : Code} {rs : List ResultVar} {nt : Nat} (ok : FnOk P f fn c rs nt) {ds : List PV} (hl : ds.length ≤ nt) {K : PV → St → Prop} {t : Tm} {h : Hp} {z : Fz} {nx : Nat}
 (hv : VC P T G nx c (vWV T rs K) ⟨uB6 ds, h, z, nx⟩) : FnH P G f ds K ⟨t, h, z, nx⟩ :=
 zFO hm ok hl (s := ⟨t, h, z, nx⟩) (by rw [← zJW]; exact zK6 hT (fun e s h => zDN hT h) hv)
theorem zJO {f : FuncId} {args : List PV} {d : Option Nat} {K : FP → St → Prop} {t : Tm} {h : Hp} {z : Fz} {nx : Nat}
 (hI : FnH P G f args (fun v s' => match s' with | ⟨_, h', z', nx'⟩ => vEB K t d v h' z' nx' ⟨[], [], []⟩) ⟨t, h, z, nx⟩) : vDU C (FnH P G) false f args d K ⟨t, h, z, nx⟩ :=
 vU8 (FnH.mono _ _ _ _ _ (fun v s' hk => by obtain ⟨t', h', z', nx'⟩ := s'; exact zEA hk) hI)
end
theorem wrap32 (n : Int) : IntKind.wrap .u32 n = n % 4294967296 := by simp [IntKind.wrap, IntKind.signed, IntKind.bits]
theorem wrap64 (n : Int) : IntKind.wrap .u64 n = n % 18446744073709551616 := by simp [IntKind.wrap, IntKind.signed, IntKind.bits]
theorem zCG {n : Int} {K : Int → Prop} (h : K (n % 4294967296)) : ov .u32 n K := vOL (wrap32 n) h
theorem zG7 {n : Int} {K : Int → Prop} (h : K (n % 18446744073709551616)) : ov .u64 n K := vOL (wrap64 n) h
theorem zIW {b : Int} (h : 0 ≤ b ∧ b ≤ 64) : vCW .u64 b = 2 ^ b.toNat := by
 rw [zGQ]; unfold vD1;have : min b.toNat (IntKind.bits .u64) = b.toNat := by show min b.toNat 64 = _; omega
 rw [this]
theorem zFP : vCW .u64 32 = 4294967296 := by rw [zIW (by decide)]; rfl
theorem zC0 {a : Int} : a.fdiv (vCW .u64 32) = a / 4294967296 := by rw [zFP, Int.fdiv_eq_ediv_of_nonneg _ (by decide)]
theorem uFS {α : Type} [DecidableEq α] (a b : α) : (a != b) = decide (a ≠ b) := by by_cases h : a = b <;> simp [h]
theorem vNU {α : Type} [DecidableEq α] (a b : α) : (a == b) = decide (a = b) := by by_cases h : a = b <;> simp [h]
theorem uCS : vCW .u64 63 = 9223372036854775808 := by rw [zIW (by decide)]; rfl
theorem zL9 {a : Int} : a.fdiv (vCW .u64 63) = a / 9223372036854775808 := by rw [uCS, Int.fdiv_eq_ediv_of_nonneg _ (by decide)]
def nv : List Int → Nat
 | [] => 0
 | x :: xs => x.toNat + 4294967296 * nv xs
def okN (xs : List Int) : Prop := ∀ x ∈ xs, 0 ≤ x ∧ x < 4294967296
def pw (k : Nat) : Nat := 4294967296 ^ k
theorem zB8 : pw 0 = 1 := rfl
theorem zA0 (k : Nat) : pw (k + 1) = 4294967296 * pw k := by unfold pw; rw [Nat.pow_succ, Nat.mul_comm]
theorem zJ1 (k : Nat) : 0 < pw k := Nat.pow_pos (by decide)
theorem zLJ (j k : Nat) : pw (j + k) = pw j * pw k := Nat.pow_add ..
theorem zD2 {j k : Nat} (h : j ≤ k) : pw j ≤ pw k := Nat.pow_le_pow_right (by decide) h
theorem zFV : okN [] := fun x h => by cases h
theorem okN_cons {x : Int} {xs : List Int} : okN (x :: xs) ↔ (0 ≤ x ∧ x < 4294967296) ∧ okN xs := by simp [okN]
theorem okN_append {xs ys : List Int} : okN (xs ++ ys) ↔ okN xs ∧ okN ys := by
 constructor
 ·exact fun h => ⟨fun x hx => h x (List.mem_append_left _ hx), fun x hx => h x (List.mem_append_right _ hx)⟩
 ·rintro ⟨h1, h2⟩ x hx
  rcases List.mem_append.1 hx with hx | hx
  ·exact h1 x hx
  ·exact h2 x hx
theorem vML {xs : List Int} (h : okN xs) (k : Nat) : okN (xs.take k) := fun x hx => h x (List.mem_of_mem_take hx)
theorem vYR {xs : List Int} (h : okN xs) (k : Nat) : okN (xs.drop k) := fun x hx => h x (List.mem_of_mem_drop hx)
theorem zC3 (n : Nat) : okN (List.replicate n 0) := fun x hx => by rw [List.eq_of_mem_replicate hx]; omega
theorem zCT {xs : List Int} (h : okN xs) {i : Nat} (hi : i < xs.length) : 0 ≤ xs[i]! ∧ xs[i]! < 4294967296 := by
 rw [getElem!_pos xs i hi]; exact h _ (List.getElem_mem hi)
theorem zBS {xs : List Int} (h : okN xs) (i : Nat) {x : Int} (hx : 0 ≤ x ∧ x < 4294967296) : okN (xs.set i x) := fun y hy => by
 rcases List.mem_or_eq_of_mem_set hy with hy | hy
 ·exact h y hy
 ·subst hy; exact hx
theorem zGB (ys : List Int) : ∀ xs : List Int, nv (xs ++ ys) = nv xs + pw xs.length * nv ys
 | [] => by simp [nv, pw]
 | x :: xs => by
   simp only [List.cons_append, nv, zGB ys xs, List.length_cons, zA0, Nat.mul_add, Nat.mul_assoc];omega
theorem zDO : ∀ {xs : List Int}, okN xs → nv xs < pw xs.length
 | [], _ => by simp [nv, pw]
 | x :: xs, h => by
   rw [okN_cons] at h;have := zDO h.2;simp only [nv, List.length_cons, zA0];omega
theorem zH4 : ∀ n : Nat, nv (List.replicate n 0) = 0
 | 0 => rfl
 | n + 1 => by simp [List.replicate_succ, nv, zH4 n]
def lb (a : List Int) (i : Nat) : Nat := (a.getD i 0).toNat
def nk (a : List Int) (k : Nat) : Nat := nv (a.take k)
theorem zBT (a : List Int) : nk a 0 = 0 := by simp [nk, nv]
theorem zA5 (a : List Int) (k : Nat) : nk a (k + 1) = nk a k + pw k * lb a k := by
 unfold nk lb;by_cases h : k < a.length
 ·rw [List.take_succ_eq_append_getElem h, zGB, List.length_take, Nat.min_eq_left (by omega)]
  simp [nv, List.getD, h]
 ·rw [List.take_of_length_le (by omega), List.take_of_length_le (by omega)]
  simp [List.getD, List.getElem?_eq_none (Nat.le_of_not_lt h)]
theorem zBR {a : List Int} {k : Nat} (h : a.length ≤ k) : nk a k = nv a := by unfold nk; rw [List.take_of_length_le h]
theorem zCK {a : List Int} (h : okN a) (k : Nat) : lb a k < 4294967296 := by
 unfold lb;by_cases hk : k < a.length
 ·have := h _ (List.getElem_mem hk)
  simp only [List.getD, List.getElem?_eq_getElem hk, Option.getD_some];omega
 ·simp [List.getD, List.getElem?_eq_none (Nat.le_of_not_lt hk)]
theorem zM1 {a : List Int} (h : okN a) : ∀ k, nk a k < pw k
 | 0 => by simp [nk, nv, pw]
 | k + 1 => by
   have h1 := zM1 h k;have h2 := zCK h k;rw [zA5, zA0];have h3 : pw k * (lb a k + 1) ≤ pw k * 4294967296 := Nat.mul_le_mul_left _ h2;rw [Nat.mul_add, Nat.mul_one] at h3;omega
theorem zBC {a : List Int} {k : Nat} (h : k < a.length) (ho : okN a) : (lb a k : Int) = a[k]! := by
 have := zCT ho h;unfold lb;rw [getElem!_pos a k h] at *
 simp only [List.getD, List.getElem?_eq_getElem h, Option.getD_some];omega
theorem zGG {a : List Int} {k : Nat} (h : a.length ≤ k) : lb a k = 0 := by simp [lb, List.getD, List.getElem?_eq_none h]
def nt (a : List Int) (k : Nat) : Nat := nv (a.drop k)
theorem vKT {a : List Int} {k : Nat} (h : k < a.length) (ho : okN a) : nt a k = lb a k + 4294967296 * nt a (k + 1) := by
 unfold nt;rw [List.drop_eq_getElem_cons h, nv]
 congr 1
 have := zBC h ho;rw [getElem!_pos a k h] at this;omega
theorem zD3 {a : List Int} {k : Nat} (h : a.length ≤ k) : nt a k = 0 := by unfold nt; rw [List.drop_of_length_le h]; rfl
theorem zGD (a : List Int) : nt a 0 = nv a := by simp [nt]
theorem zCE (a : List Int) (k : Nat) : nv a = nk a k + pw k * nt a k := by
 unfold nk nt;by_cases h : k ≤ a.length
 ·conv => lhs; rw [← List.take_append_drop k a]
  rw [zGB, List.length_take, Nat.min_eq_left h]
 ·rw [List.take_of_length_le (by omega), List.drop_of_length_le (by omega)]; simp [nv]
def uBG : Nat → Nat → List Int
 | 0, _ => []
 | f + 1, n => if n = 0 then [] else ((n % 4294967296 : Nat) : Int) :: uBG f (n / 4294967296)
def vA4 (n : Nat) : List Int := uBG n n
theorem vIK : ∀ (f g n : Nat), n ≤ f → n ≤ g → uBG f n = uBG g n
 | 0, g, n, h, _ => by
   obtain rfl : n = 0 := by omega
   cases g <;> simp [uBG]
 | f + 1, 0, n, _, h => by
   obtain rfl : n = 0 := by omega
   simp [uBG]
 | f + 1, g + 1, n, h1, h2 => by
   simp only [uBG]
   split
   ·rfl
   ·rw [vIK f g _ (by omega) (by omega)]
theorem zC4 : vA4 0 = [] := rfl
theorem vGB {n : Nat} (h : n ≠ 0) : vA4 n = ((n % 4294967296 : Nat) : Int) :: vA4 (n / 4294967296) := by
 unfold vA4;obtain ⟨m, rfl⟩ : ∃ m, n = m + 1 := ⟨n - 1, by omega⟩;rw [uBG, if_neg h, vIK m _ _ (by omega) (Nat.le_refl _)]
theorem zGW : ∀ (N n : Nat), n < N → okN (vA4 n) ∧ nv (vA4 n) = n ∧ (vA4 n = [] ∨ (vA4 n).getLast? ≠ some 0)
 | 0, n, h => by omega
 | N + 1, n, h => by
   by_cases h0 : n = 0
   ·subst h0; exact ⟨zFV, rfl, Or.inl rfl⟩
   ·rw [vGB h0]
    obtain ⟨h1, h2, h3⟩ := zGW N (n / 4294967296) (by omega);refine ⟨okN_cons.2 ⟨by omega, h1⟩, by rw [nv, h2]; omega, Or.inr ?_⟩;by_cases hm : n / 4294967296 = 0
    ·rw [hm, zC4]; simp; omega
    ·rw [vGB hm] at h3 ⊢
     rw [List.getLast?_cons_cons];exact h3.resolve_left (by simp)
theorem zAM (n : Nat) : okN (vA4 n) := (zGW _ n (Nat.lt_succ_self _)).1
theorem zAO (n : Nat) : nv (vA4 n) = n := (zGW _ n (Nat.lt_succ_self _)).2.1
def vLA (xs : List Int) : Prop := okN xs ∧ (xs = [] ∨ xs.getLast? ≠ some 0)
theorem zDW (n : Nat) : vLA (vA4 n) := ⟨zAM n, (zGW _ n (Nat.lt_succ_self _)).2.2⟩
theorem vNC {x : Int} {xs : List Int} (h : vLA (x :: xs)) : vLA xs := by
 refine ⟨(okN_cons.1 h.1).2, ?_⟩;cases xs with
 | nil => exact Or.inl rfl
 | cons y ys => right; have := h.2.resolve_left (by simp); rwa [List.getLast?_cons_cons] at this
theorem zMI : ∀ {xs : List Int}, vLA xs → xs ≠ [] → pw (xs.length - 1) ≤ nv xs
 | [], _, h => absurd rfl h
 | [x], h, _ => by
   have h1 := (okN_cons.1 h.1).1;have h2 := h.2.resolve_left (by simp);simp at h2;simp only [List.length_singleton, nv, zB8, Nat.sub_self];omega
 | x :: y :: ys, h, _ => by
   have := zMI (vNC h) (by simp);simp only [List.length_cons, Nat.add_sub_cancel] at this ⊢;rw [nv, zA0];omega
theorem zLZ : ∀ {xs : List Int}, vLA xs → vA4 (nv xs) = xs
 | [], _ => rfl
 | x :: xs, h => by
   have hp := zMI h (by simp);have hpp := zJ1 ((x :: xs).length - 1);have h1 := (okN_cons.1 h.1).1;rw [vGB (by omega)];have e1 : nv (x :: xs) % 4294967296 = x.toNat := by rw [nv]; omega
   have e2 : nv (x :: xs) / 4294967296 = nv xs := by rw [nv]; omega
   rw [e1, e2, zLZ (vNC h)]
   congr 1
   omega
theorem zBD {n k : Nat} (h : n < pw k) : (vA4 n).length ≤ k := by
 by_cases h0 : vA4 n = []
 ·rw [h0]; simp
 ·have := zMI (zDW n) h0
  rw [zAO] at this;by_cases hk : (vA4 n).length ≤ k
  ·exact hk
  ·have := zD2 (show k ≤ (vA4 n).length - 1 by omega)
   omega
theorem zAT {xs : List Int} (h : okN xs) : (vA4 (nv xs)).length ≤ xs.length := zBD (zDO h)
theorem zCN {n : Nat} (h : vA4 n = []) : n = 0 := by rw [← zAO n, h]; rfl
theorem zHW {l : List Int} (ho : okN l) {n : Nat} (hn : n ≤ l.length) (hz : ∀ j, n ≤ j → j < l.length → l[j]! = 0) (hl : n = 0 ∨ l[n - 1]! ≠ 0) : l.take n = vA4 (nv l) := by
 have hd : l.drop n = List.replicate (l.length - n) 0 := by
  refine List.ext_getElem (by simp) fun i h1 h2 => ?_
  have := hz (n + i) (by omega) (by simp at h1; omega);rw [getElem!_pos l (n + i) (by simp at h1; omega)] at this;rw [List.getElem_drop, List.getElem_replicate, this]
 have hv : nv l = nv (l.take n) := by
  conv => lhs; rw [← List.take_append_drop n l]
  rw [zGB, hd, zH4]; simp
 rw [hv, zLZ];refine ⟨vML ho n, ?_⟩;rcases hl with rfl | hl
 ·left; simp
 ·by_cases h0 : n = 0
  ·subst h0; left; simp
  ·right
   rw [List.getLast?_eq_getElem?, List.length_take, Nat.min_eq_left hn, List.getElem?_take_of_lt (by omega), List.getElem?_eq_getElem (by omega)];rw [getElem!_pos l (n - 1) (by omega)] at hl
   simpa using hl
theorem zH6 {a b : List Int} (ha : okN a) (hb : okN b) {i : Nat} (hd : nt a (i + 1) = nt b (i + 1)) (h1 : i < a.length ∨ nt a i = lb a i + 4294967296 * nt a (i + 1)) (h2 : i < b.length ∨ nt b i = lb b i + 4294967296 * nt b (i + 1)) (hlt : lb a i < lb b i) : nv a < nv b := by
 have e1 : nt a i = lb a i + 4294967296 * nt a (i + 1) := h1.elim (fun h => vKT h ha) id;have e2 : nt b i = lb b i + 4294967296 * nt b (i + 1) := h2.elim (fun h => vKT h hb) id;rw [zCE a i, zCE b i, e1, e2, hd];have h3 := zM1 ha i;have h4 : pw i * (lb a i + 1) ≤ pw i * lb b i := Nat.mul_le_mul_left _ hlt;rw [Nat.mul_add, Nat.mul_one] at h4;rw [Nat.mul_add, Nat.mul_add (pw i) (lb b i)];omega
theorem zCU {a : List Int} (ha : okN a) (i : Nat) : nt a i = lb a i + 4294967296 * nt a (i + 1) := by
 by_cases h : i < a.length
 ·exact vKT h ha
 ·rw [zD3 (by omega), zD3 (by omega), zGG (by omega)]
theorem zH5 {a b : List Int} (ha : vLA a) (hb : vLA b) (h : a.length < b.length) : nv a < nv b := by
 have h1 := zDO ha.1;have h2 := zMI hb (by intro e; rw [e] at h; simp at h);have h3 := zD2 (show a.length ≤ b.length - 1 by omega);omega
theorem zFD {a : List Int} {i : Nat} (x : Int) (h : i < a.length) : nk (a.set i x) (i + 1) = nk a i + pw i * x.toNat := by
 rw [zA5];have e1 : nk (a.set i x) i = nk a i := by unfold nk; rw [List.take_set_of_le (Nat.le_refl _)]
 have e2 : lb (a.set i x) i = x.toNat := by simp [lb, List.getD, h]
 rw [e1, e2]
theorem zDP (p s : Nat) : p * (s % 4294967296) + (s / 4294967296) * (4294967296 * p) = p * s := by
 have h : p * s = p * (4294967296 * (s / 4294967296) + s % 4294967296) := by rw [Nat.div_add_mod]
 rw [h, Nat.mul_add, Nat.mul_comm (s / 4294967296), Nat.mul_comm 4294967296 p, Nat.mul_assoc];omega
theorem uCU {α : Type} (f : α → PV) (l : List α) (i : Nat) (x : α) : (l.map f).set i (f x) = (l.set i x).map f := (List.map_set ..).symm
theorem zBB {α : Type} {f : α → PV} {l : List α} {i j : Nat} {x y : α} (e : i = j) (e' : x = y) : (l.map f).set i (f x) = (l.set j y).map f := by subst e e'; exact uCU f l i x
theorem zJ3 {a : List Int} {j : Nat} (x : Int) (h : j < a.length) : nv (a.set j x) + pw j * lb a j = nv a + pw j * x.toNat := by
 have e1 := zCE (a.set j x) (j + 1);have e2 := zCE a (j + 1);have e3 : nt (a.set j x) (j + 1) = nt a (j + 1) := by unfold nt; rw [List.drop_set_of_lt (by omega)]
 have e4 := zA5 a j;rw [zFD x h, e3] at e1;omega
theorem vRM {x y : Int} (hx : 0 ≤ x ∧ x < 4294967296) (hy : 0 ≤ y ∧ y < 4294967296) : 0 ≤ x * y ∧ x * y ≤ 18446744065119617025 :=
 ⟨Int.mul_nonneg hx.1 hy.1, by
   have := Int.mul_le_mul (show x ≤ 4294967295 by omega) (show y ≤ 4294967295 by omega) hy.1 (by decide)
   omega⟩
theorem zKP (n j : Nat) : lb (List.replicate n 0) j = 0 := by
 unfold lb;by_cases h : j < n
 ·simp [List.getD, h]
 ·simp [List.getD, Nat.le_of_not_lt h]
theorem zG6 {α : Type} {f : α → PV} {n m : Nat} {x : α} (e : n = m) : List.replicate n (f x) = (List.replicate m x).map f := by subst e; simp
theorem zIA {a : List Int} {i j : Nat} {x : Int} (h : i ≠ j) : lb (a.set i x) j = lb a j := by simp [lb, List.getD, List.getElem?_set, h]
theorem vIJ {a b n : Nat} (h1 : a < pw n) (h2 : b < pw n) : (vA4 (a + b)).length ≤ n + 1 := zBD (by rw [zA0]; omega)
abbrev vA9 (ns : List Int) : PV := .imm (ns.map (.int .u32))
structure RatL where
 neg : Bool
 num : List Int
 den : List Int
 deriving DecidableEq, Inhabited
def vAZ (r : RatL) : PV := .agg [.bool r.neg, vA9 r.num, vA9 r.den]
structure DecL where
 kind : Int
 index : Int
 rat : RatL
 deriving DecidableEq, Inhabited
structure RowL where
 kind : Int
 index : Int
 lo : Int
 hi : Int
 deriving DecidableEq, Inhabited
structure MultL where
 row : RowL
 coef : RatL
 deriving DecidableEq, Inhabited
structure LemL where
 unit : Int
 upper : Bool
 value : RatL
 proof : List MultL
 deriving DecidableEq, Inhabited
inductive NodeL where
 | mk (lemmas : List LemL) (split : DecL) (kids : List NodeL) (empty : Bool) (proof : List MultL)
instance : Inhabited NodeL := ⟨.mk [] default [] false []⟩
namespace NodeL
def lemmas : NodeL → List LemL | .mk l _ _ _ _ => l
def split : NodeL → DecL | .mk _ s _ _ _ => s
def kids : NodeL → List NodeL | .mk _ _ k _ _ => k
def empty : NodeL → Bool | .mk _ _ _ e _ => e
def proof : NodeL → List MultL | .mk _ _ _ _ p => p
theorem sizeOf_kid {n k : NodeL} (h : k ∈ n.kids) : SizeOf.sizeOf k < SizeOf.sizeOf n := by
 cases n with
 | mk l s ks e p =>
   have := List.sizeOf_lt_of_mem (show k ∈ ks from h);simp only [NodeL.mk.sizeOf_spec];omega
end NodeL
theorem uJO {α : Type} [Inhabited α] {f : α → PV} {l : List α} {i : Int} (j : Nat) {K : PV → Prop} (e : i.toNat = j) (h : j < l.length) (k : K (f l[j]!)) : oK (nth (l.map f) i.toNat) K := by rw [e]; exact vTA h k
theorem zJD {α : Type} [Inhabited α] {f : α → PV} {l : List α} {K : PV → Prop} (h : 0 < l.length) (k : K (f l[0]!)) : oK (nth (l.map f) (Int.toNat 0)) K := uJO 0 rfl h k
noncomputable instance : DecidableEq NodeL := fun a b => Classical.propDecidable (a = b)
def RatL.sm (r : RatL) : Prop := r.num.length < 2097152 ∧ r.den.length < 2097152
def MultL.sm (m : MultL) : Prop := m.coef.sm
def vQZ (l : List MultL) : Prop := l.length < 2097152 ∧ ∀ m ∈ l, m.sm
def LemL.sm (l : LemL) : Prop := l.value.sm ∧ vQZ l.proof
def uAS (l : List LemL) : Prop := l.length < 2097152 ∧ ∀ m ∈ l, m.sm
def DecL.sm (d : DecL) : Prop := d.rat.sm
inductive NodeL.Sm : NodeL → Prop
 | mk (n : NodeL) (h1 : uAS n.lemmas) (h2 : n.split.sm) (h3 : n.kids.length < 2097152) (h4 : ∀ k ∈ n.kids, NodeL.Sm k) (h5 : vQZ n.proof) : NodeL.Sm n
theorem NodeL.Sm.lems {n : NodeL} (h : n.Sm) : uAS n.lemmas := by cases h; assumption
theorem NodeL.Sm.dec {n : NodeL} (h : n.Sm) : n.split.sm := by cases h; assumption
theorem NodeL.Sm.len {n : NodeL} (h : n.Sm) : n.kids.length < 2097152 := by cases h; assumption
section
variable {h : Hp} {n : Nat}
theorem zB1 (x : Int) : frz h n (.int .u32 x) = some (.int .u32 x, []) := by cases n <;> rfl
theorem zD4 (r : RatL) : frz h (n + 1) (vAZ r) = some (vAZ r, []) := by cases n <;> rfl
end
def NodeL.cnt (n : NodeL) : Nat := 1 + (n.kids.attach.map fun ⟨k, _⟩ => NodeL.cnt k).sum
termination_by SizeOf.sizeOf n
decreasing_by exact NodeL.sizeOf_kid ‹_›
def uKJ (k : Int) : Int := if k = 1 then 2 else if k = 2 then 1 else if k = 3 then 4 else if k = 4 then 3 else k
def opp (d : DecL) : DecL := { d with kind := uKJ d.kind }
def uJ9 (n : NodeL) (i : Nat) : DecL := if i = 1 then opp n.split else n.split
theorem uCA {α : Type} {l : List α} {k : Nat} {p : α × Nat} (h : p ∈ l.zipIdx k) : p.1 ∈ l := by
 have := List.mem_map_of_mem (f := Prod.fst) h
 rwa [List.zipIdx_map_fst] at this
def NodeL.all (n : NodeL) : List (List DecL × NodeL) := ([], n) :: (n.kids.zipIdx.attach.flatMap fun ⟨p, _⟩ => (NodeL.all p.1).map fun q => (uJ9 n p.2 :: q.1, q.2))
termination_by SizeOf.sizeOf n
decreasing_by exact NodeL.sizeOf_kid (uCA ‹_›)
def NodeL.upto (n : NodeL) (i : Nat) : List (List DecL × NodeL) := ([], n) :: ((n.kids.zipIdx.take i).flatMap fun p => (NodeL.all p.1).map fun q => (uJ9 n p.2 :: q.1, q.2))
theorem uKP {α : Type} [BEq α] [LawfulBEq α] {a b : α} (h : (a == b) = false) : a ≠ b := fun e => by subst e; simp at h
theorem uKM {α : Type} [BEq α] [LawfulBEq α] {a b : α} (h : (a != b) = true) : a ≠ b := by simpa using h
theorem uKN {α : Type} [BEq α] [LawfulBEq α] {a b : α} (h : (a != b) = false) : a = b := by simpa using h
structure Hq (q : Prop) : Prop where
 h : q
theorem stp {p q : Prop} (h : q) (e : Hq q → p := by
 intro hq
 (first
   | (with_reducible first | refine uF1 ?_ | refine vOA ?_ | refine zAX ?_ | refine zNB ?_ | refine vOD ?_ | refine zGT ?_ | refine zI4 ?_ | refine zNF ?_ | refine zND ?_ | refine vOC ?_ | refine zGR ?_ | refine zI0 ?_ | refine vOE ?_ | refine vOF ?_ | refine zNE ?_ | refine zGS ?_ | refine zI1 ?_ | refine vOG ?_ | refine zNC ?_ | refine vOB ?_ | refine zI3 ?_ | refine zI2 ?_)
   | ((conv => whnf); first
     | with_reducible refine Next.mk ?_
     | with_reducible refine zJT (fun _ => ⟨rfl, rfl⟩) rfl ?_
     | with_reducible refine zFL (fun _ => ⟨rfl, rfl⟩) rfl ?_
     | (with_reducible refine zBL ?_ ?_; · (first | omega | (simp only [List.length_append, List.length_map, List.length_nil, List.length_cons, List.length_replicate, List.length_take, List.length_drop, true_and, and_true]; omega) | (simp only [List.length_append, List.length_map, List.length_nil, List.length_cons, List.length_replicate]; done)))
     | (with_reducible refine vOM ?_ ?_; · (first | omega | (simp only [List.length_append, List.length_map, List.length_nil, List.length_cons, List.length_replicate, List.length_take, List.length_drop, true_and, and_true]; omega) | (simp only [List.length_append, List.length_map, List.length_nil, List.length_cons, List.length_replicate]; done)))
     | (with_reducible refine zDM ?_ ?_; · omega)
     | (with_reducible refine zJ2 ?_ ?_; · omega)
     | with_reducible refine zJU ?_
     | with_reducible refine zE9 (fun _ => rfl) ?_
     | (with_reducible refine zJD ?_ ?_; · omega)
     | (with_reducible refine zA4 rfl ?_ ?_; · omega)))
 repeat (first
  | (with_reducible first | refine uF1 ?_ | refine vOA ?_ | refine zAX ?_ | refine zNB ?_ | refine vOD ?_ | refine zGT ?_ | refine zI4 ?_ | refine zNF ?_ | refine zND ?_ | refine vOC ?_ | refine zGR ?_ | refine zI0 ?_ | refine vOE ?_ | refine vOF ?_ | refine zNE ?_ | refine zGS ?_ | refine zI1 ?_ | refine vOG ?_ | refine zNC ?_ | refine vOB ?_ | refine zI3 ?_ | refine zI2 ?_)
  | ((conv => whnf); first
    | with_reducible refine Next.mk ?_
    | with_reducible refine zJT (fun _ => ⟨rfl, rfl⟩) rfl ?_
    | with_reducible refine zFL (fun _ => ⟨rfl, rfl⟩) rfl ?_
    | (with_reducible refine zBL ?_ ?_; · (first | omega | (simp only [List.length_append, List.length_map, List.length_nil, List.length_cons, List.length_replicate, List.length_take, List.length_drop, true_and, and_true]; omega) | (simp only [List.length_append, List.length_map, List.length_nil, List.length_cons, List.length_replicate]; done)))
    | (with_reducible refine vOM ?_ ?_; · (first | omega | (simp only [List.length_append, List.length_map, List.length_nil, List.length_cons, List.length_replicate, List.length_take, List.length_drop, true_and, and_true]; omega) | (simp only [List.length_append, List.length_map, List.length_nil, List.length_cons, List.length_replicate]; done)))
    | (with_reducible refine zDM ?_ ?_; · omega)
    | (with_reducible refine zJ2 ?_ ?_; · omega)
    | with_reducible refine zJU ?_
    | with_reducible refine zE9 (fun _ => rfl) ?_
    | (with_reducible refine zJD ?_ ?_; · omega)
    | (with_reducible refine zA4 rfl ?_ ?_; · omega)))
 (try (conv => whnf))
 exact hq.h) : p := e ⟨h⟩
theorem sts {p q : Prop} (h : q) (e : Hq q → p := by
 intro hq
 repeat (first
  | (with_reducible first | refine uF1 ?_ | refine vOA ?_ | refine zAX ?_ | refine zNB ?_ | refine vOD ?_ | refine zGT ?_ | refine zI4 ?_ | refine zNF ?_ | refine zND ?_ | refine vOC ?_ | refine zGR ?_ | refine zI0 ?_ | refine vOE ?_ | refine vOF ?_ | refine zNE ?_ | refine zGS ?_ | refine zI1 ?_ | refine vOG ?_ | refine zNC ?_ | refine vOB ?_ | refine zI3 ?_ | refine zI2 ?_)
  | ((conv => whnf); first
    | with_reducible refine Next.mk ?_
    | with_reducible refine zJT (fun _ => ⟨rfl, rfl⟩) rfl ?_
    | with_reducible refine zFL (fun _ => ⟨rfl, rfl⟩) rfl ?_
    | (with_reducible refine zBL ?_ ?_; · (first | omega | (simp only [List.length_append, List.length_map, List.length_nil, List.length_cons, List.length_replicate, List.length_take, List.length_drop, true_and, and_true]; omega) | (simp only [List.length_append, List.length_map, List.length_nil, List.length_cons, List.length_replicate]; done)))
    | (with_reducible refine vOM ?_ ?_; · (first | omega | (simp only [List.length_append, List.length_map, List.length_nil, List.length_cons, List.length_replicate, List.length_take, List.length_drop, true_and, and_true]; omega) | (simp only [List.length_append, List.length_map, List.length_nil, List.length_cons, List.length_replicate]; done)))
    | (with_reducible refine zDM ?_ ?_; · omega)
    | (with_reducible refine zJ2 ?_ ?_; · omega)
    | with_reducible refine zJU ?_
    | with_reducible refine zE9 (fun _ => rfl) ?_
    | (with_reducible refine zJD ?_ ?_; · omega)
    | (with_reducible refine zA4 rfl ?_ ?_; · omega)))
 (try (conv => whnf))
 exact hq.h) : p := e ⟨h⟩
theorem stu {p q : Prop} (h : q) (e : Hq q → p := by
 intro hq
 (first
   | (with_reducible first | refine uF1 ?_ | refine vOA ?_ | refine zNB ?_ | refine vOD ?_ | refine zGT ?_ | refine zI4 ?_ | refine zNF ?_ | refine zND ?_ | refine vOC ?_ | refine zGR ?_ | refine zI0 ?_ | refine vOE ?_ | refine vOF ?_ | refine zNE ?_ | refine zGS ?_ | refine zI1 ?_ | refine vOG ?_ | refine zNC ?_ | refine vOB ?_ | refine zI3 ?_ | refine zI2 ?_)
   | ((conv => whnf); first
     | with_reducible refine Next.mk ?_
     | with_reducible refine zJT (fun _ => ⟨rfl, rfl⟩) rfl ?_
     | with_reducible refine zFL (fun _ => ⟨rfl, rfl⟩) rfl ?_
     | (with_reducible refine zBL ?_ ?_; · (first | omega | (simp only [List.length_append, List.length_map, List.length_nil, List.length_cons, List.length_replicate, List.length_take, List.length_drop, true_and, and_true]; omega) | (simp only [List.length_append, List.length_map, List.length_nil, List.length_cons, List.length_replicate]; done)))
     | (with_reducible refine vOM ?_ ?_; · (first | omega | (simp only [List.length_append, List.length_map, List.length_nil, List.length_cons, List.length_replicate, List.length_take, List.length_drop, true_and, and_true]; omega) | (simp only [List.length_append, List.length_map, List.length_nil, List.length_cons, List.length_replicate]; done)))
     | (with_reducible refine zDM ?_ ?_; · omega)
     | (with_reducible refine zJ2 ?_ ?_; · omega)
     | with_reducible refine zJU ?_
     | with_reducible refine zE9 (fun _ => rfl) ?_
     | (with_reducible refine zJD ?_ ?_; · omega)
     | (with_reducible refine zA4 rfl ?_ ?_; · omega)))
 repeat (first
  | (with_reducible first | refine uF1 ?_ | refine vOA ?_ | refine zNB ?_ | refine vOD ?_ | refine zGT ?_ | refine zI4 ?_ | refine zNF ?_ | refine zND ?_ | refine vOC ?_ | refine zGR ?_ | refine zI0 ?_ | refine vOE ?_ | refine vOF ?_ | refine zNE ?_ | refine zGS ?_ | refine zI1 ?_ | refine vOG ?_ | refine zNC ?_ | refine vOB ?_ | refine zI3 ?_ | refine zI2 ?_)
  | ((conv => whnf); first
    | with_reducible refine Next.mk ?_
    | with_reducible refine zJT (fun _ => ⟨rfl, rfl⟩) rfl ?_
    | with_reducible refine zFL (fun _ => ⟨rfl, rfl⟩) rfl ?_
    | (with_reducible refine zBL ?_ ?_; · (first | omega | (simp only [List.length_append, List.length_map, List.length_nil, List.length_cons, List.length_replicate, List.length_take, List.length_drop, true_and, and_true]; omega) | (simp only [List.length_append, List.length_map, List.length_nil, List.length_cons, List.length_replicate]; done)))
    | (with_reducible refine vOM ?_ ?_; · (first | omega | (simp only [List.length_append, List.length_map, List.length_nil, List.length_cons, List.length_replicate, List.length_take, List.length_drop, true_and, and_true]; omega) | (simp only [List.length_append, List.length_map, List.length_nil, List.length_cons, List.length_replicate]; done)))
    | (with_reducible refine zDM ?_ ?_; · omega)
    | (with_reducible refine zJ2 ?_ ?_; · omega)
    | with_reducible refine zJU ?_
    | with_reducible refine zE9 (fun _ => rfl) ?_
    | (with_reducible refine zJD ?_ ?_; · omega)
    | (with_reducible refine zA4 rfl ?_ ?_; · omega)))
 (try (conv => whnf))
 exact hq.h) : p := e ⟨h⟩
theorem sus {p q : Prop} (h : q) (e : Hq q → p := by
 intro hq
 repeat (first
  | (with_reducible first | refine uF1 ?_ | refine vOA ?_ | refine zNB ?_ | refine vOD ?_ | refine zGT ?_ | refine zI4 ?_ | refine zNF ?_ | refine zND ?_ | refine vOC ?_ | refine zGR ?_ | refine zI0 ?_ | refine vOE ?_ | refine vOF ?_ | refine zNE ?_ | refine zGS ?_ | refine zI1 ?_ | refine vOG ?_ | refine zNC ?_ | refine vOB ?_ | refine zI3 ?_ | refine zI2 ?_)
  | ((conv => whnf); first
    | with_reducible refine Next.mk ?_
    | with_reducible refine zJT (fun _ => ⟨rfl, rfl⟩) rfl ?_
    | with_reducible refine zFL (fun _ => ⟨rfl, rfl⟩) rfl ?_
    | (with_reducible refine zBL ?_ ?_; · (first | omega | (simp only [List.length_append, List.length_map, List.length_nil, List.length_cons, List.length_replicate, List.length_take, List.length_drop, true_and, and_true]; omega) | (simp only [List.length_append, List.length_map, List.length_nil, List.length_cons, List.length_replicate]; done)))
    | (with_reducible refine vOM ?_ ?_; · (first | omega | (simp only [List.length_append, List.length_map, List.length_nil, List.length_cons, List.length_replicate, List.length_take, List.length_drop, true_and, and_true]; omega) | (simp only [List.length_append, List.length_map, List.length_nil, List.length_cons, List.length_replicate]; done)))
    | (with_reducible refine zDM ?_ ?_; · omega)
    | (with_reducible refine zJ2 ?_ ?_; · omega)
    | with_reducible refine zJU ?_
    | with_reducible refine zE9 (fun _ => rfl) ?_
    | (with_reducible refine zJD ?_ ?_; · omega)
    | (with_reducible refine zA4 rfl ?_ ?_; · omega)))
 (try (conv => whnf))
 exact hq.h) : p := e ⟨h⟩
theorem brr {b : Bool} {A B p q : Prop} (h1 : p → A) (h2 : q → B) (e1 : b = true → p := by
 intro h
 (first
   | (replace h := of_decide_eq_true h; try simp only [List.length_map] at h)
   | (replace h := eq_of_beq h; try simp only [List.length_map] at h)
   | (replace h := uKM h; try simp only [List.length_map] at h)
   | (simp only [Bool.and_eq_true, beq_iff_eq, List.length_map, Bool.and_true, bne_iff_ne, ne_eq, decide_eq_true_eq, decide_eq_false_iff_not] at h)
   | skip)
 exact h) (e2 : b = false → q := by
 intro h
 (first
   | (replace h := of_decide_eq_false h; try simp only [List.length_map] at h)
   | (replace h := uKP h; try simp only [List.length_map] at h)
   | (replace h := uKN h; try simp only [List.length_map] at h)
   | (simp only [Bool.and_eq_true, beq_iff_eq, List.length_map, Bool.and_true, bne_iff_ne, ne_eq, decide_eq_true_eq, decide_eq_false_iff_not] at h)
   | skip)
 exact h) : brB b A B := uFR (fun h => h1 (e1 h)) (fun h => h2 (e2 h))
def sg (b : Bool) (n : Nat) : Int := if b then -(n : Int) else n
theorem zFA (b : Bool) (n : Nat) : (sg b n).natAbs = n := by unfold sg; split <;> simp
theorem uGQ (b : Bool) (n : Nat) : sg b n < 0 ↔ b = true ∧ n ≠ 0 := by unfold sg; cases b <;> simp <;> omega
theorem uAV (b : Bool) (n : Nat) : sg b n = 0 ↔ n = 0 := by unfold sg; cases b <;> simp
theorem zLC (b : Bool) (n : Nat) : sg (!b) n = - sg b n := by unfold sg; cases b <;> simp
theorem vW6 (n : Nat) : sg false n = n := rfl
theorem vLW (a b : Bool) (m n : Nat) : sg (a != b) (m * n) = sg a m * sg b n := by unfold sg; cases a <;> cases b <;> simp [Int.neg_mul, Int.mul_neg]
theorem uCT (a : Bool) (m n : Nat) : sg a (m * n) = sg a m * n := by unfold sg; cases a <;> simp [Int.neg_mul]
structure IntL where
 neg : Bool
 mag : List Int
 deriving DecidableEq, Inhabited
def vBB (x : IntL) : PV := .agg [.bool x.neg, vA9 x.mag]
def iv (x : IntL) : Int := sg x.neg (nv x.mag)
def cz (z : Int) : IntL := ⟨decide (z < 0), vA4 z.natAbs⟩
theorem uE0 (b : Bool) (n : Nat) : cz (sg b n) = ⟨b && decide (n ≠ 0), vA4 n⟩ := by
 unfold cz; rw [zFA]; congr 1;rw [Bool.eq_iff_iff]; simp [uGQ]
theorem zKF (z : Int) : iv (cz z) = z := by
 unfold iv cz sg; simp only [zAO]; split <;> rename_i h <;> simp at h <;> omega
theorem vQ0 (b : Bool) (n : Nat) : Int.sign (sg b n) = if n = 0 then 0 else if b then -1 else 1 := by
 unfold sg;by_cases h : n = 0
 ·subst h; cases b <;> rfl
 ·rw [if_neg h]
  cases b
  ·exact Int.sign_eq_one_of_pos (by simp; omega)
  ·exact Int.sign_eq_neg_one_of_neg (by simp; omega)
def okR (r : RatL) : Prop := okN r.num ∧ okN r.den
def dn (den : List Int) : Nat := if nv den = 0 then 1 else nv den
theorem zCB (d : List Int) : dn d ≠ 0 := by unfold dn; split <;> omega
def qv (r : RatL) : Rat := mkRat (sg r.neg (nv r.num)) (dn r.den)
def cr (q : Rat) : RatL := ⟨decide (q.num < 0), vA4 q.num.natAbs, if q.den = 1 then [] else vA4 q.den⟩
theorem zAI (q : Rat) : okR (cr q) := ⟨zAM _, by unfold cr; dsimp only; split; exact zFV; exact zAM _⟩
theorem uH6 (q : Rat) : dn (cr q).den = q.den := by
 unfold dn cr; dsimp only;by_cases h : q.den = 1
 ·simp [h, nv]
 ·rw [if_neg h, zAO, if_neg q.den_nz]
theorem uGR (q : Rat) : sg (cr q).neg (nv (cr q).num) = q.num := zKF q.num
theorem zAQ (q : Rat) : qv (cr q) = q := by unfold qv; rw [uGR, uH6, Rat.mkRat_self]
theorem vTH (z : Int) {d : Nat} (h : d ≠ 0) : (mkRat z d).num = z / (z.natAbs.gcd d : Int) := by rw [Rat.mkRat_def, dif_neg h, Rat.normalize_eq]
theorem vTI (z : Int) {d : Nat} (h : d ≠ 0) : (mkRat z d).den = d / z.natAbs.gcd d := by rw [Rat.mkRat_def, dif_neg h, Rat.normalize_eq]
theorem uBE (z : Int) {d : Nat} (h : d ≠ 0) : (mkRat z d).num.natAbs = z.natAbs / z.natAbs.gcd d := by
 rw [vTH z h, Int.natAbs_ediv_of_dvd]
 ·simp
 ·exact Int.ofNat_dvd_left.2 (Nat.gcd_dvd_left ..)
theorem uBD (z : Int) {d : Nat} (h : d ≠ 0) : (mkRat z d).num < 0 ↔ z < 0 := by
 rw [vTH z h];have h1 : (z.natAbs.gcd d : Int) ∣ z := Int.ofNat_dvd_left.2 (Nat.gcd_dvd_left ..);have h2 : 0 < z.natAbs.gcd d := Nat.gcd_pos_of_pos_right _ (by omega);obtain ⟨k, hk⟩ := h1;have h3 : (0 : Int) < (z.natAbs.gcd d : Int) := by omega
 generalize hg : (z.natAbs.gcd d : Int) = g at *
 rw [hk, Int.mul_ediv_cancel_left _ (by omega)];constructor
 ·intro h; exact Int.mul_neg_of_pos_of_neg h3 h
 ·intro h
  refine Int.not_le.1 fun h' => ?_
  have := Int.mul_nonneg (Int.le_of_lt h3) h';omega
theorem uE1 (b : Bool) (n : Nat) {d : Nat} (h : d ≠ 0) : cr (mkRat (sg b n) d) = ⟨b && decide (n ≠ 0), vA4 (n / n.gcd d), if d / n.gcd d = 1 then [] else vA4 (d / n.gcd d)⟩ := by
 unfold cr;rw [uBE _ h, vTI _ h, zFA]
 congr 1
 rw [Bool.eq_iff_iff]; simp [uBD _ h, uGQ]
theorem zC1 : cr 0 = ⟨false, [], []⟩ := by decide
theorem qv_zero {r : RatL} : qv r = 0 ↔ nv r.num = 0 := by
 unfold qv; rw [Rat.mkRat_eq_zero (zCB _), uAV]
theorem vTG (z : Int) {d : Nat} (h : d ≠ 0) : (mkRat z d).num.sign = z.sign := by
 have h1 := uBD z h;have h2 := Rat.mkRat_eq_zero (n := z) h;rw [← Rat.num_eq_zero] at h2;rcases Int.lt_trichotomy z 0 with h3 | h3 | h3
 ·rw [Int.sign_eq_neg_one_of_neg h3, Int.sign_eq_neg_one_of_neg (h1.2 h3)]
 ·rw [h3] at h2 ⊢; rw [h2.2 rfl]
 ·rw [Int.sign_eq_one_of_pos h3, Int.sign_eq_one_of_pos]
  have : ¬ (mkRat z d).num < 0 := fun h => by have := h1.1 h; omega
  have : ¬ (mkRat z d).num = 0 := fun h => by have := h2.1 h; omega
  omega
theorem uC1 (r : RatL) : (qv r).num.sign = (sg r.neg (nv r.num)).sign := vTG _ (zCB _)
def vBS (q : Rat) : Int := q.num.sign
theorem vFA (r : RatL) : vBS (qv r) = (sg r.neg (nv r.num)).sign := uC1 r
theorem uGJ (n1 n2 : Int) {d1 d2 : Nat} (h1 : d1 ≠ 0) (h2 : d2 ≠ 0) : mkRat n1 d1 - mkRat n2 d2 = mkRat (n1 * d2 - n2 * d1) (d1 * d2) := by
 rw [Rat.sub_eq_add_neg, Rat.neg_mkRat, Rat.mkRat_add_mkRat _ _ h1 h2, Int.neg_mul, ← Int.sub_eq_add_neg]
theorem vW5 (a b : RatL) : vBS (qv a - qv b) = (sg a.neg (nv a.num) * dn b.den - sg b.neg (nv b.num) * dn a.den).sign := by
 unfold qv; rw [uGJ _ _ (zCB _) (zCB _)]; exact vTG _ (Nat.mul_ne_zero (zCB _) (zCB _))
theorem sgnQ_neg {q : Rat} : vBS q < 0 ↔ q < 0 := by
 unfold vBS; rw [Int.sign_neg_iff, Rat.lt_iff]; simp
theorem sgnQ_zero {q : Rat} : vBS q = 0 ↔ q = 0 := by
 unfold vBS; rw [Int.sign_eq_zero_iff_zero, Rat.num_eq_zero]
theorem sgnQ_pos {q : Rat} : 0 < vBS q ↔ 0 < q := by
 unfold vBS; rw [Int.sign_pos_iff, Rat.lt_iff]; simp
theorem uA4 (a b : RatL) : qv a + qv b = mkRat (sg a.neg (nv a.num) * dn b.den + sg b.neg (nv b.num) * dn a.den) (dn a.den * dn b.den) := by
 unfold qv; rw [Rat.mkRat_add_mkRat _ _ (zCB _) (zCB _)]
theorem uA3 (a b : RatL) : qv a * qv b = mkRat (sg a.neg (nv a.num) * sg b.neg (nv b.num)) (dn a.den * dn b.den) := by
 unfold qv; rw [Rat.mkRat_mul_mkRat]
def sz (k : Nat) (q : Rat) : Prop := q.num.natAbs < pw k ∧ q.den < pw k
theorem zBE {j k : Nat} (h : j ≤ k) {q : Rat} (hq : sz j q) : sz k q := ⟨Nat.lt_of_lt_of_le hq.1 (zD2 h), Nat.lt_of_lt_of_le hq.2 (zD2 h)⟩
theorem vHN {k : Nat} {z : Int} {d : Nat} (h : d ≠ 0) (h1 : z.natAbs < pw k) (h2 : d < pw k) : sz k (mkRat z d) := by
 refine ⟨?_, ?_⟩
 ·rw [uBE _ h]; exact Nat.lt_of_le_of_lt (Nat.div_le_self ..) h1
 ·rw [vTI _ h]; exact Nat.lt_of_le_of_lt (Nat.div_le_self ..) h2
theorem zAL {k : Nat} {q : Rat} (h : sz k q) : (cr q).num.length ≤ k ∧ (cr q).den.length ≤ k := by
 refine ⟨zBD h.1, ?_⟩;unfold cr; dsimp only; split
 ·simp
 ·exact zBD h.2
theorem uEV {d : List Int} (h : okN d) {k : Nat} (hk : d.length ≤ k) (hk1 : 1 ≤ k) : dn d < pw k := by
 have h1 := zDO h;have h2 := zD2 hk;have h3 := zD2 hk1;have : pw 1 = 4294967296 := rfl;unfold dn; split <;> omega
theorem zES {r : RatL} (h : okR r) {k : Nat} (h1 : r.num.length ≤ k) (h2 : r.den.length ≤ k) (hk : 1 ≤ k) : sz k (qv r) := by
 refine vHN (zCB _) ?_ (uEV h.2 h2 hk);rw [zFA];exact Nat.lt_of_lt_of_le (zDO h.1) (zD2 h1)
theorem zDY {a b j k : Nat} (h1 : a < pw j) (h2 : b < pw k) : a * b < pw (j + k) := by
 rw [zLJ]; exact Nat.mul_lt_mul'' h1 h2
theorem zB6 {j k : Nat} {p q : Rat} (h1 : sz j p) (h2 : sz k q) : sz (j + k) (p * q) := by
 rw [← Rat.mkRat_self p, ← Rat.mkRat_self q, Rat.mkRat_mul_mkRat];refine vHN (Nat.mul_ne_zero p.den_nz q.den_nz) ?_ (zDY h1.2 h2.2);rw [Int.natAbs_mul]; exact zDY h1.1 h2.1
theorem zBY {j k : Nat} {p q : Rat} (h1 : sz j p) (h2 : sz k q) : sz (j + k + 1) (p + q) := by
 rw [← Rat.mkRat_self p, ← Rat.mkRat_self q, Rat.mkRat_add_mkRat _ _ p.den_nz q.den_nz];have e1 := zDY h1.1 h2.2;have e2 := zDY h2.1 h1.2;have e3 := zDY h1.2 h2.2;have e4 := zA0 (j + k);rw [Nat.add_comm k j] at e2;refine vHN (Nat.mul_ne_zero p.den_nz q.den_nz) ?_ (by omega)
 have : (p.num * (q.den : Int) + q.num * (p.den : Int)).natAbs ≤ p.num.natAbs * q.den + q.num.natAbs * p.den := by
  refine Nat.le_trans (Int.natAbs_add_le ..) ?_;rw [Int.natAbs_mul, Int.natAbs_mul]; simp
 omega
theorem zJY {k : Nat} {q : Rat} (h : sz k q) : sz k (-q) := by unfold sz at *; simpa using h
structure TermL where
 var : Int
 coef : RatL
 deriving DecidableEq, Inhabited
def vBW (t : TermL) : PV := .agg [.int .i64 t.var, .bool t.coef.neg, vA9 t.coef.num, vA9 t.coef.den]
structure AffL where
 terms : List TermL
 const : RatL
 deriving DecidableEq, Inhabited
def vBD (f : AffL) : PV := .agg [.imm (f.terms.map vBW), .bool f.const.neg, vA9 f.const.num, vA9 f.const.den]
structure ProgL where
 vars : Int
 rows : List AffL
 obj : AffL
 deriving DecidableEq, Inhabited
def okQ (k : Nat) (r : RatL) : Prop := okR r ∧ r.num.length ≤ k ∧ r.den.length ≤ k
def okA (k : Nat) (f : AffL) : Prop := okQ k f.const ∧ (∀ t ∈ f.terms, okQ k t.coef) ∧ f.terms.length ≤ 1048576
theorem vS7 {k : Nat} {f : AffL} (h : okA k f) {i : Nat} (hi : i < f.terms.length) : okQ k f.terms[i]!.coef := by
 rw [getElem!_pos f.terms i hi]; exact h.2.1 _ (List.getElem_mem hi)
def okT (ts : List TermL) (n : Int) (i : Nat) : Prop :=
 0 ≤ ts[i]!.var ∧ ts[i]!.var < n ∧ (0 < i → ts[i - 1]!.var < ts[i]!.var) ∧ qv ts[i]!.coef ≠ 0 ∧ ts[i]!.coef = cr (qv ts[i]!.coef)
def vBO (f : AffL) (n : Int) : Prop := (∀ i, i < f.terms.length → okT f.terms n i) ∧ f.const = cr (qv f.const)
noncomputable def vCB (f : AffL) (n : Int) : Bool := @decide (vBO f n) (Classical.propDecidable _)
theorem validB_true {f : AffL} {n : Int} : vCB f n = true ↔ vBO f n := by simp [vCB]
theorem vHI {f : AffL} {n : Int} : vCB f n = false ↔ ¬ vBO f n := by simp [vCB]
theorem zM4 {f : AffL} {n : Int} (h : ∀ i, i < f.terms.length → okT f.terms n i) : decide (f.const = cr (qv f.const)) = vCB f n := by
 rw [Bool.eq_iff_iff, validB_true, decide_eq_true_eq];exact ⟨fun e => ⟨h, e⟩, fun e => e.2⟩
theorem zBO {f : AffL} {n : Int} {i : Nat} (hi : i < f.terms.length) (h : ¬ okT f.terms n i) : false = vCB f n := by
 rw [eq_comm, vHI]; exact fun e => h (e.1 i hi)
abbrev QT := Int × Rat
def tQ (p : QT) : TermL := ⟨p.1, cr p.2⟩
def vDA (p : QT) : PV := vBW (tQ p)
structure QF where
 ts : List QT
 c : Rat
 deriving Inhabited
def QF.L (f : QF) : AffL := ⟨f.ts.map tQ, cr f.c⟩
def vA5 (f : QF) : PV := .agg [.imm (f.ts.map vDA), .bool (cr f.c).neg, vA9 (cr f.c).num, vA9 (cr f.c).den]
theorem zJM (f : QF) : vA5 f = vBD f.L := by unfold vA5 vBD QF.L; simp only [List.map_map]; rfl
def AffL.Q (f : AffL) : QF := ⟨f.terms.map fun t => (t.var, qv t.coef), qv f.const⟩
def nzq (v : Int) (x : Rat) : List QT := if x = 0 then [] else [(v, x)]
theorem zKN (v : Int) : nzq v 0 = [] := by simp [nzq]
theorem zNJ {v : Int} {x : Rat} (h : x ≠ 0) : nzq v x = [(v, x)] := by simp [nzq, h]
def cf : List QT → Int → Rat
 | [], _ => 0
 | p :: l, v => (if p.1 = v then p.2 else 0) + cf l v
theorem zDK (a b : List QT) (v : Int) : cf (a ++ b) v = cf a v + cf b v := by
 induction a with
 | nil => simp [cf, Rat.zero_add]
 | cons p a ih => simp only [List.cons_append, cf, ih, Rat.add_assoc]
theorem zHB (w : Int) (x : Rat) (v : Int) : cf (nzq w x) v = if w = v then x else 0 := by
 unfold nzq;by_cases h : x = 0
 ·simp [h, cf]
 ·simp [h, cf, Rat.add_zero]
def Srt (l : List QT) : Prop := l.Pairwise (fun p q => p.1 < q.1) ∧ ∀ p ∈ l, p.2 ≠ 0
theorem zCD : Srt [] := ⟨List.Pairwise.nil, fun _ h => by cases h⟩
theorem srt_cons {p : QT} {l : List QT} : Srt (p :: l) ↔ (∀ q ∈ l, p.1 < q.1) ∧ p.2 ≠ 0 ∧ Srt l := by
 unfold Srt;simp only [List.pairwise_cons, List.mem_cons, forall_eq_or_imp];constructor
 ·rintro ⟨⟨h1, h2⟩, h3, h4⟩; exact ⟨h1, h3, h2, h4⟩
 ·rintro ⟨h1, h3, h2, h4⟩; exact ⟨⟨h1, h2⟩, h3, h4⟩
theorem zKB {l : List QT} {v : Int} (h : ∀ q ∈ l, q.1 ≠ v) : cf l v = 0 := by
 induction l with
 | nil => rfl
 | cons p l ih =>
   have h1 := h p (by simp);simp [cf, h1, ih fun q hq => h q (by simp [hq]), Rat.add_zero]
theorem vE5 : ∀ {a b : List QT}, Srt a → Srt b → (∀ v, cf a v = cf b v) → a = b
 | [], [], _, _, _ => rfl
 | [], q :: b, _, hb, h => by
   rw [srt_cons] at hb;have := h q.1;rw [cf, cf, zKB (l := b) (fun r hr e => by have := hb.1 r hr; omega)] at this;simp [Rat.add_zero] at this;exact absurd this.symm hb.2.1
 | p :: a, [], ha, _, h => by
   rw [srt_cons] at ha;have := h p.1;rw [cf, cf, zKB (l := a) (fun r hr e => by have := ha.1 r hr; omega)] at this;simp [Rat.add_zero] at this;exact absurd this ha.2.1
 | p :: a, q :: b, ha, hb, h => by
   rw [srt_cons] at ha hb;have hp := h p.1;have hq := h q.1;simp only [cf] at hp hq;rw [zKB (l := a) (fun r hr e => by have := ha.1 r hr; omega)] at hp;rw [zKB (l := b) (fun r hr e => by have := hb.1 r hr; omega)] at hq;simp only [if_true, Rat.add_zero] at hp hq
   have hv : p.1 = q.1 := by
    rcases Int.lt_trichotomy p.1 q.1 with hlt | he | hlt
    ·rw [if_neg (by omega), zKB (l := b) (fun r hr e => by have := hb.1 r hr; omega), Rat.add_zero] at hp
     exact absurd hp ha.2.1
    ·exact he
    ·rw [if_neg (by omega), zKB (l := a) (fun r hr e => by have := ha.1 r hr; omega), Rat.add_zero] at hq
     exact absurd hq.symm hb.2.1
   have hx : p.2 = q.2 := by
    rw [if_pos hv.symm, zKB (l := b) (fun r hr e => by have := hb.1 r hr; omega), Rat.add_zero] at hp;exact hp
   have hab : a = b := vE5 ha.2.2 hb.2.2 fun v => by
    have := h v;simp only [cf] at this;rw [hv, hx] at this;exact Rat.add_left_cancel _ this
   rw [hab]
   congr 1
   exact Prod.ext hv hx
theorem zE2 {v : Int} {x : Rat} {l : List QT} (hl : Srt l) (h : ∀ q ∈ l, v < q.1) : Srt (nzq v x ++ l) := by
 unfold nzq;by_cases h0 : x = 0
 ·simpa [h0] using hl
 ·simp only [h0, if_false, List.cons_append, List.nil_append]
  exact srt_cons.2 ⟨h, h0, hl⟩
def mrg (c : Rat) : List QT → List QT → List QT
 | [], [] => []
 | p :: a, [] => nzq p.1 p.2 ++ mrg c a []
 | [], q :: b => nzq q.1 (q.2 * c) ++ mrg c [] b
 | p :: a, q :: b => if p.1 < q.1 then nzq p.1 p.2 ++ mrg c a (q :: b) else if q.1 < p.1 then nzq q.1 (q.2 * c) ++ mrg c (p :: a) b else nzq p.1 (p.2 + q.2 * c) ++ mrg c a b
termination_by a b => a.length + b.length
def vA3 (f g : QF) (c : Rat) : QF := ⟨mrg c f.ts g.ts, f.c + g.c * c⟩
theorem zB9 (c : Rat) : ∀ (n : Nat) (a b : List QT), a.length + b.length ≤ n → ∀ r ∈ mrg c a b, (∃ p ∈ a, p.1 = r.1) ∨ ∃ q ∈ b, q.1 = r.1
 | n, [], [], _, r, h => by rw [mrg] at h; cases h
 | 0, _ :: _, _, h, _, _ => by simp at h
 | 0, _, _ :: _, h, _, _ => by simp at h
 | n + 1, p :: a, [], hn, r, h => by
   rw [mrg, List.mem_append] at h;simp only [List.length_cons] at hn;rcases h with h | h
   ·unfold nzq at h; split at h
    ·cases h
    ·simp at h; left; exact ⟨p, by simp, by rw [h]⟩
   ·rcases zB9 c n a [] (by simp at hn ⊢; omega) r h with ⟨q, h1, h2⟩ | h1
    ·exact Or.inl ⟨q, by simp [h1], h2⟩
    ·exact Or.inr h1
 | n + 1, [], q :: b, hn, r, h => by
   rw [mrg, List.mem_append] at h;simp only [List.length_cons] at hn;rcases h with h | h
   ·unfold nzq at h; split at h
    ·cases h
    ·simp at h; right; exact ⟨q, by simp, by rw [h]⟩
   ·rcases zB9 c n [] b (by simp at hn ⊢; omega) r h with h1 | ⟨q, h1, h2⟩
    ·exact Or.inl h1
    ·exact Or.inr ⟨q, by simp [h1], h2⟩
 | n + 1, p :: a, q :: b, hn, r, h => by
   rw [mrg] at h;simp only [List.length_cons] at hn
   have one : ∀ {v : Int} {x : Rat}, r ∈ nzq v x → v = r.1 := fun {v x} h => by
    unfold nzq at h; split at h
    ·cases h
    ·simp at h; rw [h]
   split at h
   ·rcases List.mem_append.1 h with h | h
    ·exact Or.inl ⟨p, by simp, one h⟩
    ·rcases zB9 c n a (q :: b) (by simp; omega) r h with ⟨t, h1, h2⟩ | h1
     ·exact Or.inl ⟨t, by simp [h1], h2⟩
     ·exact Or.inr h1
   ·split at h
    ·rcases List.mem_append.1 h with h | h
     ·exact Or.inr ⟨q, by simp, one h⟩
     ·rcases zB9 c n (p :: a) b (by simp; omega) r h with h1 | ⟨t, h1, h2⟩
      ·exact Or.inl h1
      ·exact Or.inr ⟨t, by simp [h1], h2⟩
    ·rcases List.mem_append.1 h with h | h
     ·exact Or.inl ⟨p, by simp, one h⟩
     ·rcases zB9 c n a b (by omega) r h with ⟨t, h1, h2⟩ | ⟨t, h1, h2⟩
      ·exact Or.inl ⟨t, by simp [h1], h2⟩
      ·exact Or.inr ⟨t, by simp [h1], h2⟩
theorem zDI (c : Rat) : ∀ (n : Nat) (a b : List QT), a.length + b.length ≤ n → Srt a → Srt b → Srt (mrg c a b) ∧ ∀ v, cf (mrg c a b) v = cf a v + cf b v * c
 | n, [], [], _, _, _ => by rw [mrg]; exact ⟨zCD, fun v => by simp [cf, Rat.zero_add]⟩
 | 0, _ :: _, _, h, _, _ => by simp at h
 | 0, _, _ :: _, h, _, _ => by simp at h
 | n + 1, p :: a, [], hn, ha, hb => by
   rw [mrg];simp only [List.length_cons] at hn;rw [srt_cons] at ha;obtain ⟨h1, h2⟩ := zDI c n a [] (by simp at hn ⊢; omega) ha.2.2 hb;refine ⟨zE2 h1 fun r hr => ?_, fun v => ?_⟩
   ·rcases zB9 c _ a [] (Nat.le_refl _) r hr with ⟨t, h3, h4⟩ | ⟨t, h3, _⟩
    ·rw [← h4]; exact ha.1 t h3
    ·cases h3
   ·rw [zDK, zHB, h2]; simp only [cf]; grind
 | n + 1, [], q :: b, hn, ha, hb => by
   rw [mrg];simp only [List.length_cons] at hn;rw [srt_cons] at hb;obtain ⟨h1, h2⟩ := zDI c n [] b (by simp at hn ⊢; omega) ha hb.2.2;refine ⟨zE2 h1 fun r hr => ?_, fun v => ?_⟩
   ·rcases zB9 c _ [] b (Nat.le_refl _) r hr with ⟨t, h3, _⟩ | ⟨t, h3, h4⟩
    ·cases h3
    ·rw [← h4]; exact hb.1 t h3
   ·rw [zDK, zHB, h2]; simp only [cf]; grind
 | n + 1, p :: a, q :: b, hn, ha, hb => by
   rw [mrg];simp only [List.length_cons] at hn;have ha' := srt_cons.1 ha;have hb' := srt_cons.1 hb
   split
   ·rename_i hlt
    obtain ⟨h1, h2⟩ := zDI c n a (q :: b) (by simp; omega) ha'.2.2 hb;refine ⟨zE2 h1 fun r hr => ?_, fun v => ?_⟩
    ·rcases zB9 c _ a (q :: b) (Nat.le_refl _) r hr with ⟨t, h3, h4⟩ | ⟨t, h3, h4⟩
     ·rw [← h4]; exact ha'.1 t h3
     ·rw [← h4]
      rcases List.mem_cons.1 h3 with h3 | h3
      ·rw [h3]; exact hlt
      ·have := hb'.1 t h3; omega
    ·rw [zDK, zHB, h2]; simp only [cf]; grind
   ·split
    ·rename_i hlt
     obtain ⟨h1, h2⟩ := zDI c n (p :: a) b (by simp; omega) ha hb'.2.2;refine ⟨zE2 h1 fun r hr => ?_, fun v => ?_⟩
     ·rcases zB9 c _ (p :: a) b (Nat.le_refl _) r hr with ⟨t, h3, h4⟩ | ⟨t, h3, h4⟩
      ·rw [← h4]
       rcases List.mem_cons.1 h3 with h3 | h3
       ·rw [h3]; exact hlt
       ·have := ha'.1 t h3; omega
      ·rw [← h4]; exact hb'.1 t h3
     ·rw [zDK, zHB, h2]; simp only [cf]; grind
    ·have he : p.1 = q.1 := by omega
     obtain ⟨h1, h2⟩ := zDI c n a b (by omega) ha'.2.2 hb'.2.2;refine ⟨zE2 h1 fun r hr => ?_, fun v => ?_⟩
     ·rcases zB9 c _ a b (Nat.le_refl _) r hr with ⟨t, h3, h4⟩ | ⟨t, h3, h4⟩
      ·rw [← h4]; exact ha'.1 t h3
      ·rw [← h4, he]; exact hb'.1 t h3
     ·rw [zDK, zHB, h2]; simp only [cf]; grind
def vBP (v : Int) (c : Rat) : List QT → Bool → List QT
 | [], d => if d then [] else nzq v c
 | t :: ts, d => (if (d || decide (t.1 = v)) = false ∧ v < t.1 then nzq v c else []) ++ nzq t.1 (if t.1 = v then t.2 + c else t.2) ++ vBP v c ts ((d || decide (t.1 = v)) || decide (v < t.1))
theorem zI5 {v : Int} {c : Rat} : ∀ {l : List QT}, Srt l → (∀ q ∈ l, v < q.1) → vBP v c l true = l
 | [], _, _ => rfl
 | t :: ts, hs, h => by
   have hs' := srt_cons.1 hs;have ht := h t (by simp);have h1 : ¬ t.1 = v := by omega
   simp only [vBP, Bool.true_or, Bool.true_eq_false, false_and, if_false, h1, List.nil_append];rw [zNJ hs'.2.1, zI5 hs'.2.2 fun q hq => h q (by simp [hq])];rfl
theorem zNG {v : Int} {c : Rat} : ∀ {l : List QT}, Srt l → Srt (vBP v c l false) ∧ (∀ w, cf (vBP v c l false) w = cf l w + if v = w then c else 0) ∧ ∀ r ∈ vBP v c l false, r.1 = v ∨ ∃ p ∈ l, p.1 = r.1
 | [], _ => by
   simp only [vBP, Bool.false_eq_true, if_false];refine ⟨by have := zE2 (v := v) (x := c) zCD (fun q h => by cases h); simpa using this, fun w => by rw [zHB]; simp [cf, Rat.zero_add], fun r hr => ?_⟩;unfold nzq at hr; split at hr
   ·cases hr
   ·simp at hr; left; rw [hr]
 | t :: ts, hs => by
   have hs' := srt_cons.1 hs
   have memz : ∀ {w : Int} {x : Rat} {r : QT}, r ∈ nzq w x → r.1 = w := fun {w x r} h => by
    unfold nzq at h; split at h
    ·cases h
    ·simp at h; rw [h]
   rcases Int.lt_trichotomy t.1 v with hlt | he | hgt
   ·obtain ⟨h1, h2, h3⟩ := zNG (v := v) (c := c) hs'.2.2
    have e1 : ¬ t.1 = v := by omega
    have e2 : ¬ v < t.1 := by omega
    simp only [vBP, e1, e2, decide_false, Bool.or_false, and_false, if_false, List.nil_append];refine ⟨zE2 h1 fun r hr => ?_, fun w => ?_, fun r hr => ?_⟩
    ·rcases h3 r hr with h | ⟨p, hp, h⟩
     ·omega
     ·have := hs'.1 p hp; omega
    ·rw [zDK, zHB, h2]; simp only [cf]; grind
    ·rcases List.mem_append.1 hr with hr | hr
     ·right; exact ⟨t, by simp, (memz hr).symm⟩
     ·rcases h3 r hr with h | ⟨p, hp, h⟩
      ·exact Or.inl h
      ·exact Or.inr ⟨p, by simp [hp], h⟩
   ·have h1 := zI5 (v := v) (c := c) hs'.2.2 (fun q hq => by have := hs'.1 q hq; omega)
    simp only [vBP, he, decide_true, Bool.or_true, Bool.true_eq_false, false_and, if_false, if_true, List.nil_append, Bool.true_or, h1];refine ⟨zE2 hs'.2.2 fun r hr => by have := hs'.1 r hr; omega, fun w => ?_, fun r hr => ?_⟩
    ·rw [zDK, zHB]; simp only [cf]; rw [he]; grind
    ·rcases List.mem_append.1 hr with hr | hr
     ·exact Or.inl (memz hr)
     ·exact Or.inr ⟨r, by simp [hr], rfl⟩
   ·have e1 : ¬ t.1 = v := by omega
    have h1 := zI5 (v := v) (c := c) hs'.2.2 (fun q hq => by have := hs'.1 q hq; omega);simp only [vBP, e1, hgt, decide_false, decide_true, Bool.or_false, Bool.or_true, and_self, if_true, if_false, h1];rw [zNJ hs'.2.1, List.append_assoc];refine ⟨zE2 hs fun r hr => ?_, fun w => ?_, fun r hr => ?_⟩
    ·rcases List.mem_cons.1 hr with hr | hr
     ·rw [hr]; exact hgt
     ·have := hs'.1 r hr; omega
    ·rw [zDK, zHB]; simp only [cf, List.cons_append, List.nil_append]; grind
    ·rcases List.mem_append.1 hr with hr | hr
     ·exact Or.inl (memz hr)
     ·exact Or.inr ⟨r, hr, rfl⟩
def uG6 (f : QF) (v : Int) (c : Rat) : QF := ⟨vBP v c f.ts false, f.c⟩
def addL (l : List QT) (g : List QT) : List QT := g.foldl (fun l t => vBP t.1 t.2 l false) l
def uB8 (f g : QF) : QF := ⟨addL f.ts g.ts, f.c + g.c⟩
theorem zMV : ∀ {g l : List QT}, Srt l → Srt (addL l g) ∧ ∀ w, cf (addL l g) w = cf l w + cf g w
 | [], l, h => ⟨h, fun w => by simp [addL, cf, Rat.add_zero]⟩
 | t :: g, l, h => by
   obtain ⟨h1, h2, _⟩ := zNG (v := t.1) (c := t.2) h;obtain ⟨h3, h4⟩ := zMV (g := g) h1;refine ⟨h3, fun w => ?_⟩;show cf (addL (vBP t.1 t.2 l false) g) w = _
   rw [h4, h2]; simp only [cf]; grind
def vD2 (c : Rat) (l : List QT) : List QT := l.flatMap fun t => nzq t.1 (t.2 * c)
def vBT (f : QF) (c : Rat) : QF := ⟨vD2 c f.ts, f.c * c⟩
theorem zHZ (c : Rat) : ∀ {l : List QT}, Srt l → Srt (vD2 c l) ∧ (∀ w, cf (vD2 c l) w = cf l w * c) ∧ ∀ r ∈ vD2 c l, ∃ p ∈ l, p.1 = r.1
 | [], _ => ⟨zCD, fun w => by simp [vD2, cf], fun r h => by cases h⟩
 | t :: l, h => by
   have h' := srt_cons.1 h;obtain ⟨h1, h2, h3⟩ := zHZ c h'.2.2;have e : vD2 c (t :: l) = nzq t.1 (t.2 * c) ++ vD2 c l := by simp [vD2]
   rw [e];refine ⟨zE2 h1 fun r hr => ?_, fun w => ?_, fun r hr => ?_⟩
   ·obtain ⟨p, hp, h4⟩ := h3 r hr
    rw [← h4]; exact h'.1 p hp
   ·rw [zDK, zHB, h2]; simp only [cf]; grind
   ·rcases List.mem_append.1 hr with hr | hr
    ·unfold nzq at hr; split at hr
     ·cases hr
     ·simp at hr; exact ⟨t, by simp, by rw [hr]⟩
    ·obtain ⟨p, hp, h4⟩ := h3 r hr
     exact ⟨p, by simp [hp], h4⟩
theorem zFN {f g : QF} (hf : Srt f.ts) (hg : Srt g.ts) (c : Rat) : uB8 f (vBT g c) = vA3 f g c := by
 obtain ⟨h1, h2⟩ := zDI c _ f.ts g.ts (Nat.le_refl _) hf hg;obtain ⟨h3, h4, _⟩ := zHZ c hg;obtain ⟨h5, h6⟩ := zMV (g := vD2 c g.ts) hf;unfold uB8 vA3 vBT
 congr 1
 exact vE5 h5 h1 fun v => by rw [h6, h4, h2]
def ev1 (x : List Rat) (l : List QT) (y : Rat) : Rat := l.foldl (fun y t => y + t.2 * x[t.1.toNat]!) y
def evQ (f : QF) (x : List Rat) : Rat := ev1 x f.ts f.c
def szF (k : Nat) (f : QF) : Prop := sz k f.c ∧ ∀ p ∈ f.ts, sz k p.2
theorem zD7 {j k : Nat} (h : j ≤ k) {f : QF} (hf : szF j f) : szF k f := ⟨zBE h hf.1, fun p hp => zBE h (hf.2 p hp)⟩
theorem zC9 {v : Int} {x : Rat} {r : QT} (h : r ∈ nzq v x) : r = (v, x) := by
 unfold nzq at h; split at h
 ·cases h
 ·simpa using h
theorem zNL {c : Rat} {K : Nat} {kf kg kc : Nat} (hc : sz kc c) (hK : kf + (kg + kc) + 1 ≤ K) : ∀ (n : Nat) (a b : List QT), a.length + b.length ≤ n → (∀ p ∈ a, sz kf p.2) → (∀ p ∈ b, sz kg p.2) → ∀ r ∈ mrg c a b, sz K r.2
 | n, [], [], _, _, _, r, h => by rw [mrg] at h; cases h
 | 0, _ :: _, _, h, _, _, _, _ => by simp at h
 | 0, _, _ :: _, h, _, _, _, _ => by simp at h
 | n + 1, p :: a, [], hn, ha, hb, r, h => by
   rw [mrg, List.mem_append] at h;simp only [List.length_cons] at hn;rcases h with h | h
   ·rw [zC9 h]; exact zBE (by omega) (ha p (by simp))
   ·exact zNL hc hK n a [] (by simp at hn ⊢; omega) (fun q hq => ha q (by simp [hq])) hb r h
 | n + 1, [], q :: b, hn, ha, hb, r, h => by
   rw [mrg, List.mem_append] at h;simp only [List.length_cons] at hn;rcases h with h | h
   ·rw [zC9 h]; exact zBE (by omega) (zB6 (hb q (by simp)) hc)
   ·exact zNL hc hK n [] b (by simp at hn ⊢; omega) ha (fun q hq => hb q (by simp [hq])) r h
 | n + 1, p :: a, q :: b, hn, ha, hb, r, h => by
   rw [mrg] at h;simp only [List.length_cons] at hn
   split at h
   ·rcases List.mem_append.1 h with h | h
    ·rw [zC9 h]; exact zBE (by omega) (ha p (by simp))
    ·exact zNL hc hK n a (q :: b) (by simp; omega) (fun q hq => ha q (by simp [hq])) hb r h
   ·split at h
    ·rcases List.mem_append.1 h with h | h
     ·rw [zC9 h]; exact zBE (by omega) (zB6 (hb q (by simp)) hc)
     ·exact zNL hc hK n (p :: a) b (by simp; omega) ha (fun q hq => hb q (by simp [hq])) r h
    ·rcases List.mem_append.1 h with h | h
     ·rw [zC9 h]; exact zBE hK (zBY (ha p (by simp)) (zB6 (hb q (by simp)) hc))
     ·exact zNL hc hK n a b (by omega) (fun q hq => ha q (by simp [hq])) (fun q hq => hb q (by simp [hq])) r h
theorem zJG {c : Rat} : ∀ (n : Nat) (a b : List QT), a.length + b.length ≤ n → (mrg c a b).length ≤ a.length + b.length
 | n, [], [], _ => by rw [mrg]; simp
 | 0, _ :: _, _, h => by simp at h
 | 0, _, _ :: _, h => by simp at h
 | n + 1, p :: a, [], hn => by
   simp only [List.length_cons] at hn;have := zJG (c := c) n a [] (by simp at hn ⊢; omega);have l : ∀ v x, (nzq v x).length ≤ 1 := fun v x => by unfold nzq; split <;> simp
   have := l p.1 p.2;rw [mrg, List.length_append]; simp at *; omega
 | n + 1, [], q :: b, hn => by
   simp only [List.length_cons] at hn;have := zJG (c := c) n [] b (by simp at hn ⊢; omega);have l : ∀ v x, (nzq v x).length ≤ 1 := fun v x => by unfold nzq; split <;> simp
   have := l q.1 (q.2 * c);rw [mrg, List.length_append]; simp at *; omega
 | n + 1, p :: a, q :: b, hn => by
   simp only [List.length_cons] at hn;have l : ∀ v x, (nzq v x).length ≤ 1 := fun v x => by unfold nzq; split <;> simp
   rw [mrg]
   split
   ·have := zJG (c := c) n a (q :: b) (by simp; omega)
    have := l p.1 p.2;rw [List.length_append]; simp at *; omega
   ·split
    ·have := zJG (c := c) n (p :: a) b (by simp; omega)
     have := l q.1 (q.2 * c);rw [List.length_append]; simp at *; omega
    ·have := zJG (c := c) n a b (by omega)
     have := l p.1 (p.2 + q.2 * c);rw [List.length_append]; simp at *; omega
theorem zDJ {f g : QF} {c : Rat} {kf kg kc K : Nat} (hf : szF kf f) (hg : szF kg g) (hc : sz kc c) (hK : kf + (kg + kc) + 1 ≤ K) : szF K (vA3 f g c) :=
 ⟨zBE hK (zBY hf.1 (zB6 hg.1 hc)), zNL hc hK _ f.ts g.ts (Nat.le_refl _) hf.2 hg.2⟩
theorem zFE {f g : QF} {c : Rat} : (vA3 f g c).ts.length ≤ f.ts.length + g.ts.length := zJG _ _ _ (Nat.le_refl _)
theorem zCW {f g : QF} {c : Rat} (hf : Srt f.ts) (hg : Srt g.ts) : Srt (vA3 f g c).ts := (zDI c _ f.ts g.ts (Nat.le_refl _) hf hg).1
def zeroQ : QF := ⟨[], 0⟩
theorem zDT (k : Nat) (hk : 1 ≤ k) : szF k zeroQ := by
 have : 4294967296 ≤ pw k := zD2 hk;exact ⟨⟨by show (0 : Nat) < _; omega, by show 1 < _; omega⟩, fun p h => by cases h⟩
theorem zF6 {z : Int} (h : z.natAbs < 4294967296) : sz 1 (z : Rat) := ⟨by simpa [zA0, zB8] using h, by simp [zA0, zB8]⟩
theorem zMB : vA5 zeroQ = .agg [.imm [], .bool false, .imm [], .imm []] := by unfold vA5 zeroQ; rw [zC1]; rfl
def vBF (q : Rat) : PV := vAZ (cr q)
theorem zGZ (x : List Rat) (ts : List QT) (y : Rat) (i : Nat) (h : i < ts.length) : ev1 x (ts.take (i + 1)) y = ev1 x (ts.take i) y + ts[i]!.2 * x[ts[i]!.1.toNat]! := by
 unfold ev1;rw [List.take_succ_eq_append_getElem h, List.foldl_append, getElem!_pos ts i h];rfl
structure QP where
 vars : Int
 rows : List QF
 obj : QF
 deriving Inhabited
def ProgL.Q (p : ProgL) : QP := ⟨p.vars, p.rows.map AffL.Q, p.obj.Q⟩
theorem uJH {t : TermL} (h : t.coef = cr (qv t.coef)) : tQ (t.var, qv t.coef) = t := by unfold tQ; rw [← h]
theorem uI9 {f : AffL} {n : Int} (h : vBO f n) : f.Q.L = f := by
 obtain ⟨ts, c⟩ := f
 have h1 : (ts.map fun t => tQ (t.var, qv t.coef)) = ts := by
  refine List.ext_getElem (by simp) fun i h1 h2 => ?_
  have := (h.1 i (by simpa using h1)).2.2.2.2;rw [getElem!_pos ts i h2] at this;simp only [List.getElem_map];exact uJH this
 unfold QF.L AffL.Q;simp only [List.map_map];rw [show (tQ ∘ fun t : TermL => (t.var, qv t.coef)) = fun t => tQ (t.var, qv t.coef) from rfl, h1, ← h.2]
theorem vUF {f : AffL} {n : Int} (h : vBO f n) : vBD f = vA5 f.Q := by rw [zJM, uI9 h]
def okF (n : Int) (f : QF) : Prop := Srt f.ts ∧ ∀ t ∈ f.ts, 0 ≤ t.1 ∧ t.1 < n
theorem zCX {f : AffL} {n : Int} (h : vBO f n) : okF n f.Q := by
 have inc : ∀ (d i : Nat), i + d + 1 < f.terms.length → f.terms[i]!.var < f.terms[i + d + 1]!.var := by
  intro d
  induction d with
  | zero => intro i hi; exact (h.1 (i + 1) hi).2.2.1 (by omega)
  | succ d ih =>
    intro i hi;have h1 := ih i (by omega);have h2 := (h.1 (i + (d + 1) + 1) hi).2.2.1 (by omega);rw [show i + (d + 1) + 1 - 1 = i + d + 1 by omega] at h2;omega
 refine ⟨⟨?_, fun p hp => ?_⟩, fun t ht => ?_⟩
 ·unfold AffL.Q
  rw [List.pairwise_map, List.pairwise_iff_getElem];intro i j hi hj hij;have := inc (j - i - 1) i (by omega);rw [show i + (j - i - 1) + 1 = j by omega, getElem!_pos f.terms i hi, getElem!_pos f.terms j hj] at this;exact this
 ·unfold AffL.Q at hp
  obtain ⟨t, ht, rfl⟩ := List.mem_map.1 hp;obtain ⟨i, hi, rfl⟩ := List.getElem_of_mem ht;have := (h.1 i hi).2.2.2.1
  rwa [getElem!_pos f.terms i hi] at this
 ·unfold AffL.Q at ht
  obtain ⟨t, ht', rfl⟩ := List.mem_map.1 ht;obtain ⟨i, hi, rfl⟩ := List.getElem_of_mem ht';have := h.1 i hi;rw [okT, getElem!_pos f.terms i hi] at this;exact ⟨this.1, this.2.1⟩
theorem zKG {f : QF} {n : Int} (h : okF n f) : vBO f.L n := by
 refine ⟨fun i hi => ?_, by show cr f.c = cr (qv (cr f.c)); rw [zAQ]⟩;have hi' : i < f.ts.length := by simpa [QF.L] using hi
 have e : f.L.terms[i]! = tQ f.ts[i]! := by
  rw [getElem!_pos f.L.terms i hi, getElem!_pos f.ts i hi']; simp [QF.L]
 have hm : f.ts[i]! ∈ f.ts := by rw [getElem!_pos f.ts i hi']; exact List.getElem_mem hi'
 unfold okT;rw [e];refine ⟨(h.2 _ hm).1, (h.2 _ hm).2, fun h0 => ?_, ?_, ?_⟩
 ·have hi2 : i - 1 < f.ts.length := by omega
  have e2 : f.L.terms[i - 1]! = tQ f.ts[i - 1]! := by
   rw [getElem!_pos f.L.terms (i - 1) (by omega), getElem!_pos f.ts (i - 1) hi2]; simp [QF.L]
  rw [e2, getElem!_pos f.ts i hi', getElem!_pos f.ts (i - 1) hi2];exact List.pairwise_iff_getElem.1 h.1.1 (i - 1) i hi2 hi' (by omega)
 ·show qv (cr f.ts[i]!.2) ≠ 0
  rw [zAQ]; exact h.1.2 _ hm
 ·show cr _ = cr (qv (cr _)); rw [zAQ]
def QP.L (P : QP) : ProgL := ⟨P.vars, P.rows.map QF.L, P.obj.L⟩
def uI8 (l : List RatL) : Prop := ∀ x ∈ l, x = cr (qv x)
instance (l : List RatL) : Decidable (uI8 l) := by unfold uI8; exact inferInstance
def uJ6 (y : RatL) : Prop := y = cr (qv y) ∧ y.neg = false
instance (y : RatL) : Decidable (uJ6 y) := by unfold uJ6; exact inferInstance
theorem zEI {k : Nat} {q : Rat} (h : sz k q) : okQ k (cr q) := ⟨zAI q, (zAL h).1, (zAL h).2⟩
theorem zLW {j k : Nat} (h : j ≤ k) {r : RatL} (hr : okQ j r) : okQ k r := ⟨hr.1, Nat.le_trans hr.2.1 h, Nat.le_trans hr.2.2 h⟩
theorem vKR {k : Nat} {f : QF} (h : szF k f) (hl : f.ts.length ≤ 1048576) : okA k f.L := by
 refine ⟨zEI h.1, fun t ht => ?_, by simpa [QF.L] using hl⟩;obtain ⟨p, hp, rfl⟩ := List.mem_map.1 ht;exact zEI (h.2 p hp)
theorem uBN {k kx : Nat} {x : List Rat} (hx : ∀ q ∈ x, sz kx q) : ∀ (ts : List QT) (y : Rat) (m : Nat), (∀ t ∈ ts, sz k t.2) → (∀ t ∈ ts, 0 ≤ t.1 ∧ t.1 < x.length) → sz m y → sz (m + ts.length * (k + kx + 1)) (ev1 x ts y)
 | [], y, m, _, _, hy => by simpa [ev1] using hy
 | t :: ts, y, m, ht, hv, hy => by
   have h0 := hv t (by simp);have hj : t.1.toNat < x.length := by omega
   have h1 := zBY hy (zB6 (ht t (by simp)) (hx x[t.1.toNat]! (by rw [getElem!_pos x _ hj]; exact List.getElem_mem hj)));have h2 := uBN hx ts _ _ (fun s hs => ht s (by simp [hs])) (fun s hs => hv s (by simp [hs])) h1;have e : ev1 x (t :: ts) y = ev1 x ts (y + t.2 * x[t.1.toNat]!) := rfl;rw [e];refine zBE ?_ h2;rw [List.length_cons, Nat.add_mul]; omega
theorem zNR {k kx : Nat} {f : QF} {x : List Rat} (hf : szF k f) (hx : ∀ q ∈ x, sz kx q) (hv : ∀ t ∈ f.ts, 0 ≤ t.1 ∧ t.1 < x.length) : sz (k + f.ts.length * (k + kx + 1)) (evQ f x) :=
 uBN hx f.ts f.c k hf.2 hv hf.1
def uJU (P : QP) (x : List Rat) : Prop := (x.length : Int) = P.vars ∧ ∀ f ∈ P.rows, 0 ≤ evQ f x
instance (P : QP) (x : List Rat) : Decidable (uJU P x) := by unfold uJU; exact inferInstance
def uKD (f : QF) (x : List Rat) : Rat := evQ ⟨f.ts, 0⟩ x
def uJG (P : QP) (x : List Rat) : Prop := (∀ f ∈ P.rows, 0 ≤ uKD f x) ∧ uKD P.obj x < 0
instance (P : QP) (x : List Rat) : Decidable (uJG P x) := by unfold uJG; exact inferInstance
def uJ0 (P : QP) (pt ray : List RatL) : Prop := (uI8 pt ∧ uJU P (pt.map qv)) ∧ (ray.length : Int) = P.vars ∧ uI8 ray ∧ uJG P (ray.map qv)
instance (P : QP) (pt ray : List RatL) : Decidable (uJ0 P pt ray) := by unfold uJ0; exact inferInstance
def smR (x : RatL) : Prop := x.num.length ≤ 2 ∧ x.den.length ≤ 2 ∧ x = cr (qv x)
instance (x : RatL) : Decidable (smR x) := by unfold smR; exact inferInstance
def smF (f : AffL) : Prop := f.terms.length ≤ 8 ∧ smR f.const ∧ vBO f 1048576 ∧ ∀ i, i < f.terms.length → smR f.terms[i]!.coef
def uI0 (l : List AffL) (m : Int) : Prop := (l.length : Int) ≤ m ∧ ∀ i, i < l.length → smF l[i]!
noncomputable def dB (p : Prop) : Bool := @decide p (Classical.propDecidable _)
theorem dB_true {p : Prop} : dB p = true ↔ p := by simp [dB]
theorem dB_false {p : Prop} : dB p = false ↔ ¬ p := by simp [dB]
theorem zME {p : Prop} (h : p) : true = dB p := (dB_true.2 h).symm
theorem zIJ {p : Prop} (h : ¬ p) : false = dB p := (dB_false.2 h).symm
instance : DecidableEq TermL := fun a b => decidable_of_iff (a.var = b.var ∧ a.coef = b.coef) (by cases a; cases b; simp)
instance : DecidableEq AffL := fun a b => decidable_of_iff (a.terms = b.terms ∧ a.const = b.const) (by cases a; cases b; simp)
structure RegL where
 lo : List RatL
 hi : List RatL
 rows : List AffL
 deriving Inhabited
def vBG (r : RegL) : PV := .agg [.imm (r.lo.map vAZ), .imm (r.hi.map vAZ), .imm (r.rows.map vBD)]
def vPB (k : Nat) (l : List RatL) : Prop := l.length ≤ 1048576 ∧ ∀ x ∈ l, okQ k x
def vCZ (k : Nat) (r : RegL) : Prop := vPB k r.lo ∧ vPB k r.hi ∧ (∀ f ∈ r.rows, okA k f) ∧ r.rows.length ≤ 1048576
theorem zJC {j k : Nat} (h : j ≤ k) {l : List RatL} (hl : vPB j l) : vPB k l := ⟨hl.1, fun x hx => zLW h (hl.2 x hx)⟩
theorem zBG {k : Nat} {l : List RatL} (h : vPB k l) {i : Nat} (hi : i < l.length) : okQ k l[i]! := by
 rw [getElem!_pos l i hi]; exact h.2 _ (List.getElem_mem hi)
theorem zBZ {j k : Nat} (h : j ≤ k) {f : AffL} (hf : okA j f) : okA k f := ⟨zLW h hf.1, fun t ht => zLW h (hf.2.1 t ht), hf.2.2⟩
theorem zDV {j k : Nat} (h : j ≤ k) {r : RegL} (hr : vCZ j r) : vCZ k r := ⟨zJC h hr.1, zJC h hr.2.1, fun f hf => zBZ h (hr.2.2.1 f hf), hr.2.2.2⟩
def uD4 (r : RegL) (i : Nat) : Prop := r.lo[i]! = cr (qv r.lo[i]!) ∧ r.hi[i]! = cr (qv r.hi[i]!) ∧ qv r.lo[i]! ≤ qv r.hi[i]!
def VaR (r : RegL) (n : Int) : Prop := (1 ≤ n ∧ n ≤ 256) ∧ (r.lo.length : Int) = n ∧ (r.hi.length : Int) = n ∧ r.rows.length ≤ 256 ∧ (∀ i, i < r.lo.length → uD4 r i) ∧ ∀ i, i < r.rows.length → vBO r.rows[i]! n
def VaO (r : RegL) : Prop := VaR r r.lo.length
theorem vHC {r : RegL} {n : Int} (h : VaR r n) : VaO r := by
 have e := h.2.1; subst e; exact h
structure QR where
 lo : List Rat
 hi : List Rat
 rows : List QF
 deriving Inhabited
def RegL.Q (r : RegL) : QR := ⟨r.lo.map qv, r.hi.map qv, r.rows.map AffL.Q⟩
def QR.L (r : QR) : RegL := ⟨r.lo.map cr, r.hi.map cr, r.rows.map QF.L⟩
theorem zL2 {l : List RatL} {i : Nat} (hi : i < l.length) : (l.map qv)[i]! = qv l[i]! := by
 rw [getElem!_pos (l.map qv) i (by simpa using hi), getElem!_pos l i hi]; simp
theorem zL3 {l : List Rat} {i : Nat} (hi : i < l.length) : (l.map cr)[i]! = cr l[i]! := by
 rw [getElem!_pos (l.map cr) i (by simpa using hi), getElem!_pos l i hi]; simp
def vC5 (a b : Rat) : Rat := if b ≤ a then a else b
def vP6 (a b : Rat) : Rat := if a ≤ b then a else b
theorem sgn_ge {a b : Rat} : 0 ≤ vBS (a - b) ↔ b ≤ a := by
 have := sgnQ_neg (q := a - b);constructor
 ·intro h; exact Rat.not_lt.1 fun e => by have := this.2 (by grind); omega
 ·intro h; exact Int.not_lt.1 fun e => by have := this.1 e; grind
theorem sgn_le {a b : Rat} : vBS (a - b) ≤ 0 ↔ a ≤ b := by
 have := sgnQ_pos (q := a - b);constructor
 ·intro h; exact Rat.not_lt.1 fun e => by have := this.2 (by grind); omega
 ·intro h; exact Int.not_lt.1 fun e => by have := this.1 e; grind
theorem uAQ {k : Nat} {a b : Rat} (ha : sz k a) (hb : sz k b) : sz k (vC5 a b) := by unfold vC5; split; exact ha; exact hb
theorem uGH {k : Nat} {a b : Rat} (ha : sz k a) (hb : sz k b) : sz k (vP6 a b) := by unfold vP6; split; exact ha; exact hb
theorem le_max {a b c : Rat} : vC5 a b ≤ c ↔ a ≤ c ∧ b ≤ c := by unfold vC5; split <;> constructor <;> intro h <;> grind
theorem le_min {a b c : Rat} : c ≤ vP6 a b ↔ c ≤ a ∧ c ≤ b := by unfold vP6; split <;> constructor <;> intro h <;> grind
def uI2 (k : Nat) (l : List AffL) : Prop := l.length ≤ 1048576 ∧ ∀ f ∈ l, okA k f
theorem vNW {ρ : Nat → Nat} {k : Nat} {t : Tm} {j : Nat} {fn : Fn} {c : PV} {o : Nat} (h : t j = .func fn [] [.cptr c o]) : at' ρ k t j (.func fn [] [.cptr c o]) := by unfold at'; rw [h]; exact ⟨rfl, trivial, rfl, trivial⟩
theorem vNV {ρ : Nat → Nat} {k : Nat} {t : Tm} {j : Nat} {fn : Fn} {c d : PV} {o q : Nat} (h : t j = .func fn [] [.cptr c o, .cptr d q]) : at' ρ k t j (.func fn [] [.cptr c o, .cptr d q]) := by unfold at'; rw [h]; exact ⟨rfl, trivial, rfl, rfl, trivial⟩
theorem zEJ (w n : Nat) : (BitVec.ofInt w (n : Int)).toNat = n % 2 ^ w := by simp
theorem vJJ {a b i : Nat} (hb : b < 2 ^ i) (h : 2 ^ i * a + b < 18446744073709551616) : vDJ .or .u64 ((2 ^ i * a : Nat) : Int) (b : Int) = ((2 ^ i * a + b : Nat) : Int) := by
 rw [zDL]; unfold vC1;dsimp only;have e1 : (BitVec.ofInt (IntKind.bits .u64) ((2 ^ i * a : Nat) : Int)).toNat = 2 ^ i * a := by rw [zEJ]; exact Nat.mod_eq_of_lt (by show _ < 2 ^ 64; omega)
 have e2 : (BitVec.ofInt (IntKind.bits .u64) (b : Int)).toNat = b := by rw [zEJ]; exact Nat.mod_eq_of_lt (by show _ < 2 ^ 64; omega)
 rw [BitVec.toNat_or, e1, e2, ← Nat.two_pow_add_eq_or_of_lt hb, wrap64];omega
theorem zJV {a b i : Nat} (hb : b < 2 ^ i) (h : 2 ^ i * a + b < 18446744073709551616) : vDJ .or .u64 (b : Int) ((2 ^ i * a : Nat) : Int) = ((2 ^ i * a + b : Nat) : Int) := by
 rw [← vJJ hb h];rw [zDL]; unfold vC1;dsimp only;rw [BitVec.or_comm]
theorem vJK {a b i : Nat} (hb : b < 2 ^ i) (h : 2 ^ i * a + b < 4294967296) : vDJ .or .u32 ((2 ^ i * a : Nat) : Int) (b : Int) = ((2 ^ i * a + b : Nat) : Int) := by
 rw [zDL]; unfold vC1;dsimp only;have e1 : (BitVec.ofInt (IntKind.bits .u32) ((2 ^ i * a : Nat) : Int)).toNat = 2 ^ i * a := by rw [zEJ]; exact Nat.mod_eq_of_lt (by show _ < 2 ^ 32; omega)
 have e2 : (BitVec.ofInt (IntKind.bits .u32) (b : Int)).toNat = b := by rw [zEJ]; exact Nat.mod_eq_of_lt (by show _ < 2 ^ 32; omega)
 rw [BitVec.toNat_or, e1, e2, ← Nat.two_pow_add_eq_or_of_lt hb, wrap32];omega
theorem vPY {a b i : Nat} (hb : b < 2 ^ i) (h : 2 ^ i * a + b < 4294967296) : vDJ .or .u32 (b : Int) ((2 ^ i * a : Nat) : Int) = ((2 ^ i * a + b : Nat) : Int) := by
 rw [← vJK hb h];rw [zDL]; unfold vC1;dsimp only;rw [BitVec.or_comm]
theorem vFV {x y : Int} (hx : 0 ≤ x ∧ x < 4294967296) (hy : 0 ≤ y ∧ y < 4294967296) : vDJ .or .u64 (x * vCW .u64 32) y = x * 4294967296 + y := by
 have h := vJJ (a := x.toNat) (b := y.toNat) (i := 32) (by omega) (by omega);rw [zFP];have e1 : ((2 ^ 32 * x.toNat : Nat) : Int) = x * 4294967296 := by omega
 have e2 : ((y.toNat : Nat) : Int) = y := by omega
 rw [e1, e2] at h;rw [h];omega
theorem vFU {x y : Int} (hx : 0 ≤ x ∧ x < 4294967296) (hy : 0 ≤ y ∧ y < 4294967296) : vDJ .or .u64 y (x * vCW .u64 32) = x * 4294967296 + y := by
 have h := zJV (a := x.toNat) (b := y.toNat) (i := 32) (by omega) (by omega);rw [zFP];have e1 : ((2 ^ 32 * x.toNat : Nat) : Int) = x * 4294967296 := by omega
 have e2 : ((y.toNat : Nat) : Int) = y := by omega
 rw [e1, e2] at h;rw [h];omega
theorem uHA {X h k : Nat} (hk : k < 32) (hh : h < 2 ^ k) : vDJ .or .u32 (h : Int) ((X * 2 ^ k % 4294967296 : Nat) : Int) = ((X * 2 ^ k % 4294967296 + h : Nat) : Int) ∧ X * 2 ^ k % 4294967296 + h < 4294967296 := by
 have e : X * 2 ^ k % 4294967296 = 2 ^ k * (X % 2 ^ (32 - k)) := by
  rw [Nat.mul_comm, show 4294967296 = 2 ^ k * 2 ^ (32 - k) by rw [← Nat.pow_add, show k + (32 - k) = 32 by omega], Nat.mul_mod_mul_left]
 have hlt : 2 ^ k * (X % 2 ^ (32 - k)) + h < 4294967296 := by
  have h1 : X % 2 ^ (32 - k) < 2 ^ (32 - k) := Nat.mod_lt _ (Nat.pow_pos (by decide));have h2 : 2 ^ k * (X % 2 ^ (32 - k) + 1) ≤ 2 ^ k * 2 ^ (32 - k) := Nat.mul_le_mul_left _ h1;rw [← Nat.pow_add, show k + (32 - k) = 32 by omega, Nat.mul_add, Nat.mul_one] at h2;omega
 rw [e];exact ⟨vPY hh hlt, hlt⟩
theorem uD5 {α : Type} [Inhabited α] {f : α → PV} {l : List α} {i k : Nat} {x : α} (j : Nat) {K : PV → Prop} (e : k = j) (h : j < l.length) (hne : i ≠ j) (q : K (f l[j]!)) : oK (nth ((l.map f).set i (f x)) k) K := by
 subst e;refine vF3 ?_ q;rw [zDZ, List.getElem?_set_ne hne, List.getElem?_map, List.getElem?_eq_getElem h, getElem!_pos l k h];rfl
theorem vW3 {k : Nat} (hk : k < 32) (a b T : Nat) (ha : a < 4294967296) : (a + 4294967296 * (b + 4294967296 * T)) / 2 ^ k = (a + 4294967296 * b) / 2 ^ k % 4294967296 + 4294967296 * ((b + 4294967296 * T) / 2 ^ k) := by
 obtain ⟨P, eP⟩ : ∃ P, 2 ^ k = P := ⟨_, rfl⟩;obtain ⟨Q, eQ⟩ : ∃ Q, 2 ^ (32 - k) = Q := ⟨_, rfl⟩;have hB : P * Q = 4294967296 := by rw [← eP, ← eQ, ← Nat.pow_add, show k + (32 - k) = 32 by omega]
 have hP : 0 < P := eP ▸ Nat.pow_pos (by decide);have hQ : 0 < Q := eQ ▸ Nat.pow_pos (by decide);rw [eP, ← hB];have d1 : ∀ N, (a + P * Q * N) / P = a / P + Q * N := fun N => by rw [Nat.mul_assoc, Nat.add_mul_div_left _ _ hP]
 rw [d1, d1];have haQ : a / P < Q := Nat.div_lt_of_lt_mul (by rw [hB]; exact ha);obtain ⟨N, eN⟩ : ∃ N, b + P * Q * T = N := ⟨_, rfl⟩;rw [eN];have hbm : N % P = b % P := by rw [← eN, Nat.mul_assoc, Nat.add_mul_mod_self_left]
 have h1 : Q * N = P * Q * (N / P) + Q * (b % P) := by
  conv => lhs; rw [← Nat.div_add_mod N P]
  rw [Nat.mul_add, hbm, ← Nat.mul_assoc, Nat.mul_comm Q P]
 have h2 : Q * b = P * Q * (b / P) + Q * (b % P) := by
  conv => lhs; rw [← Nat.div_add_mod b P]
  rw [Nat.mul_add, ← Nat.mul_assoc, Nat.mul_comm Q P]
 have h3 : (a / P + Q * b) % (P * Q) = a / P + Q * (b % P) := by
  rw [h2, show a / P + (P * Q * (b / P) + Q * (b % P)) = a / P + Q * (b % P) + P * Q * (b / P) by omega, Nat.add_mul_mod_self_left];refine Nat.mod_eq_of_lt ?_;have : Q * (b % P + 1) ≤ Q * P := Nat.mul_le_mul_left _ (Nat.mod_lt _ hP);rw [Nat.mul_add, Nat.mul_one, Nat.mul_comm Q P] at this;omega
 rw [h3, h1];omega
def vC6 : Nat → Nat → List Int
 | 0, _ => []
 | k + 1, n => ((n % 4294967296 : Nat) : Int) :: vC6 k (n / 4294967296)
theorem zGF : ∀ k n, (vC6 k n).length = k
 | 0, _ => rfl
 | k + 1, n => by simp [vC6, zGF k]
theorem vGC : ∀ k n, okN (vC6 k n)
 | 0, _ => zFV
 | k + 1, n => okN_cons.2 ⟨by omega, vGC k _⟩
theorem vF4 : ∀ k n, n < pw k → nv (vC6 k n) = n
 | 0, n, h => by simp [zB8] at h; simp [vC6, nv, h]
 | k + 1, n, h => by
   rw [zA0] at h;rw [vC6, nv, vF4 k _ (by omega)];omega
theorem zKO : ∀ {xs : List Int}, okN xs → vC6 xs.length (nv xs) = xs
 | [], _ => rfl
 | x :: xs, h => by
   have h1 := (okN_cons.1 h).1;have e1 : nv (x :: xs) % 4294967296 = x.toNat := by rw [nv]; omega
   have e2 : nv (x :: xs) / 4294967296 = nv xs := by rw [nv]; omega
   rw [List.length_cons, vC6, e1, e2, zKO (okN_cons.1 h).2]
   congr 1
   omega
def blF : Nat → Nat → Nat
 | 0, _ => 0
 | f + 1, n => if n = 0 then 0 else blF f (n / 2) + 1
def bl (n : Nat) : Nat := blF 64 n
theorem vNT : ∀ (f g n : Nat), n < 2 ^ f → n < 2 ^ g → blF f n = blF g n
 | 0, g, n, h, _ => by
   obtain rfl : n = 0 := by simp at h; exact h
   cases g <;> simp [blF]
 | f + 1, 0, n, _, h => by
   obtain rfl : n = 0 := by simp at h; exact h
   simp [blF]
 | f + 1, g + 1, n, h1, h2 => by
   simp only [blF]
   split
   ·rfl
   ·rw [vNT f g _ (by rw [Nat.pow_succ] at h1; omega) (by rw [Nat.pow_succ] at h2; omega)]
theorem vG4 : bl 0 = 0 := rfl
theorem zE5 {n : Nat} (h : n ≠ 0) (hb : n < 2 ^ 64) : bl n = bl (n / 2) + 1 := by
 unfold bl;rw [blF, if_neg h, vNT 63 64 _ (by omega) (by omega)]
theorem zCA : ∀ (f n : Nat), n < 2 ^ f → f ≤ 64 → n < 2 ^ bl n ∧ (n ≠ 0 → 2 ^ bl n ≤ 2 * n) ∧ bl n ≤ f
 | 0, n, h, _ => by
   obtain rfl : n = 0 := by simp at h; exact h
   simp [vG4]
 | f + 1, n, h, hf => by
   by_cases h0 : n = 0
   ·subst h0; simp [vG4]
   ·have hb : n < 2 ^ 64 := Nat.lt_of_lt_of_le h (Nat.pow_le_pow_right (by decide) hf)
    obtain ⟨i1, i2, i3⟩ := zCA f (n / 2) (by rw [Nat.pow_succ] at h; omega) (by omega);rw [zE5 h0 hb, Nat.pow_succ];refine ⟨by omega, fun _ => ?_, by omega⟩;by_cases h1 : n / 2 = 0
    ·rw [h1, vG4]; simp; omega
    ·have := i2 h1; omega
theorem vNS {n : Nat} (h : 256 ≤ n) (hb : n < 2 ^ 64) : bl n = bl (n / 256) + 8 := by
 rw [zE5 (by omega) hb, zE5 (n := n / 2) (by omega) (by omega), zE5 (n := n / 2 / 2) (by omega) (by omega), zE5 (n := n / 2 / 2 / 2) (by omega) (by omega), zE5 (n := n / 2 / 2 / 2 / 2) (by omega) (by omega), zE5 (n := n / 2 / 2 / 2 / 2 / 2) (by omega) (by omega), zE5 (n := n / 2 / 2 / 2 / 2 / 2 / 2) (by omega) (by omega), zE5 (n := n / 2 / 2 / 2 / 2 / 2 / 2 / 2) (by omega) (by omega)];rw [show n / 2 / 2 / 2 / 2 / 2 / 2 / 2 / 2 = n / 256 by omega]
theorem vNR {n : Nat} (h : 65536 ≤ n) (hb : n < 2 ^ 64) : bl n = bl (n / 65536) + 16 := by
 rw [vNS (by omega) hb, vNS (n := n / 256) (by omega) (by omega), show n / 256 / 256 = n / 65536 by omega]
theorem vMP {S : ByteArray} (hS : (List.range 256).all (fun m => match S[m]? with | some b => b.toNat == bl m | none => false) = true) {i : Int} {n : Nat} (e : i = (n : Int)) (hn : n < 256) {K : UInt8 → Prop} (k : ∀ b : UInt8, b.toNat = bl n → K b) : oK (S[i.toNat]?) K := by
 subst e;rw [List.all_eq_true] at hS;have := hS n (List.mem_range.2 hn);rw [Int.toNat_natCast]
 split at this
 ·rename_i b hb
  exact vF3 hb (k b (by simpa using this))
 ·cases this
theorem zGY {a : Int} {k : IntKind} {b : Int} {j : Nat} (h : min b.toNat k.bits = j) : a.fdiv (vCW k b) = a / 2 ^ j := by
 rw [zGQ]; unfold vD1;rw [h, Int.fdiv_eq_ediv_of_nonneg _ (Int.le_of_lt (Int.pow_pos (by decide)))]
theorem uJE (n : Int) : IntKind.wrap .u8 n = n % 256 := by simp [IntKind.wrap, IntKind.signed, IntKind.bits]
theorem vXI {n : Int} {K : Int → Prop} (h : K (n % 256)) : ov .u8 n K := vOL (uJE n) h
theorem vL5 (k : Nat) : pw k = 2 ^ (32 * k) := by unfold pw; rw [Nat.pow_mul]
theorem vIF {xs : List Int} (h : okN xs) (j : Nat) : nv xs / pw j = nt xs j := by
 rw [zCE xs j, Nat.add_mul_div_left _ _ (zJ1 j), Nat.div_eq_of_lt (zM1 h j), Nat.zero_add]
theorem uIR {xs : List Int} (h : okN xs) (i : Nat) : nv xs / 2 ^ i % 2 = lb xs (i / 32) / 2 ^ (i % 32) % 2 := by
 have e : i = 32 * (i / 32) + i % 32 := by omega
 conv => lhs; rw [e]
 rw [Nat.pow_add, ← Nat.div_div_eq_div_mul, ← vL5, vIF h, zCU h];have hs : i % 32 < 32 := Nat.mod_lt _ (by decide);generalize i % 32 = s at *
 obtain ⟨r, hr⟩ : ∃ r, 32 = s + (r + 1) := ⟨31 - s, by omega⟩
 have e2 : (4294967296 : Nat) = 2 ^ s * (2 ^ r * 2) := by
  rw [← Nat.pow_succ, ← Nat.pow_add, ← hr]
 generalize nt xs (i / 32 + 1) = T;rw [show 4294967296 * T = 2 ^ s * ((2 ^ r * T) * 2) by rw [e2, Nat.mul_assoc, Nat.mul_assoc, Nat.mul_comm 2 T, Nat.mul_assoc], Nat.add_mul_div_left _ _ (Nat.pow_pos (by decide))];omega
theorem vYX {xs : List Int} (h : okN xs) {i q : Nat} (e : nv xs = 2 ^ (i + 1) * q) : ∃ c, lb xs (i / 32) = 2 ^ (i % 32 + 1) * c := by
 have e1 := vIF h (i / 32);have e0 : i + 1 = 32 * (i / 32) + (i % 32 + 1) := by omega
 rw [e, e0, Nat.pow_add, ← vL5, Nat.mul_assoc, Nat.mul_div_cancel_left _ (zJ1 _), zCU h] at e1;have hs : i % 32 + 1 ≤ 32 := by omega
 generalize i % 32 + 1 = s at *
 obtain ⟨r, hr⟩ : ∃ r, 32 = s + r := ⟨32 - s, by omega⟩;have e2 : (4294967296 : Nat) = 2 ^ s * 2 ^ r := by rw [← Nat.pow_add, ← hr]
 have hlt := zCK h (i / 32);generalize nt xs (i / 32 + 1) = T at *
 generalize lb xs (i / 32) = L at *
 rw [show 4294967296 * T = 2 ^ s * (2 ^ r * T) by rw [e2, Nat.mul_assoc]] at e1;have : 2 ^ s ∣ L := (Nat.dvd_add_left (Nat.dvd_mul_right (2 ^ s) (2 ^ r * T))).1 ⟨q, e1.symm⟩;exact this
theorem uED {s c : Nat} (hs : s < 32) (h : 2 ^ (s + 1) * c < 4294967296) : vDJ .or .u32 ((2 ^ (s + 1) * c : Nat) : Int) ((2 ^ s : Nat) : Int) = ((2 ^ (s + 1) * c + 2 ^ s : Nat) : Int) ∧ 2 ^ (s + 1) * c + 2 ^ s < 4294967296 := by
 have e : 2 ^ s < 2 ^ (s + 1) := Nat.pow_lt_pow_right (by decide) (by omega)
 have hb : 2 ^ (s + 1) * c + 2 ^ s < 4294967296 := by
  obtain ⟨r, hr⟩ : ∃ r, 32 = (s + 1) + r := ⟨31 - s, by omega⟩;have e2 : (4294967296 : Nat) = 2 ^ (s + 1) * 2 ^ r := by rw [← Nat.pow_add, ← hr]
  rw [e2] at h ⊢;have hc := Nat.lt_of_mul_lt_mul_left h;have := Nat.mul_le_mul_left (2 ^ (s + 1)) (show c + 1 ≤ 2 ^ r by omega);rw [Nat.mul_add] at this;omega
 exact ⟨vJK e hb, hb⟩
theorem vLV {b : Int} (h : 0 ≤ b ∧ b < 32) : vCW .u32 b = 2 ^ b.toNat := by
 rw [zGQ]; unfold vD1;have : min b.toNat (IntKind.bits .u32) = b.toNat := by show min b.toNat 32 = _; omega
 rw [this]
theorem vV8 {n : Nat} (h : n < 4294967296) : vDJ .and .u32 (n : Int) 1 = ((n % 2 : Nat) : Int) := by
 rw [zDL]; unfold vC1;dsimp only;have e1 : (BitVec.ofInt (IntKind.bits .u32) (n : Int)).toNat = n := by rw [zEJ]; exact Nat.mod_eq_of_lt (by show _ < 2 ^ 32; omega)
 have e2 : (BitVec.ofInt (IntKind.bits .u32) (1 : Int)).toNat = 1 := by rfl
 rw [BitVec.toNat_and, e1, e2, Nat.and_one_is_mod, wrap32];omega
def vDT (r : RegL) (x : List RatL) : Prop := VaO r ∧ x.length = r.lo.length ∧ (∀ i, i < x.length → qv r.lo[i]! ≤ qv x[i]! ∧ qv x[i]! ≤ qv r.hi[i]!) ∧ ∀ i, i < r.rows.length → 0 ≤ evQ r.rows[i]!.Q (x.map qv)
theorem zB0 {k : Nat} {f : AffL} (h : okA k f) (hk : 1 ≤ k) : szF k f.Q := by
 refine ⟨zES h.1.1 h.1.2.1 h.1.2.2 hk, fun p hp => ?_⟩;unfold AffL.Q at hp;obtain ⟨t, ht, rfl⟩ := List.mem_map.1 hp;have := h.2.1 t ht;exact zES this.1 this.2.1 this.2.2 hk
theorem zF4 (f : AffL) : f.Q.ts.length = f.terms.length := by simp [AffL.Q]
def vB2 : Rat := (1 : Rat) / 2
theorem zK8 : sz 1 vB2 := ⟨by decide +kernel, by decide +kernel⟩
open Classical in
noncomputable def ceR (r : RegL) : List Rat := if VaO r then ((r.lo.map qv).zip (r.hi.map qv)).map fun p => vB2 * (p.1 + p.2) else []
def vG6 (b : Nat) (i : Nat) : Bool := decide (i < 64 ∧ b / 2 ^ i % 2 = 1)
open Classical in
noncomputable def coR (r : RegL) (b : Nat) : List Rat := if VaO r then (List.range r.lo.length).map fun i => qv (if vG6 b i then r.hi[i]! else r.lo[i]!) else []
theorem vPZ {n : Nat} (h : n < 18446744073709551616) : vDJ .and .u64 (n : Int) 1 = ((n % 2 : Nat) : Int) := by
 rw [zDL]; unfold vC1;dsimp only;have e1 : (BitVec.ofInt (IntKind.bits .u64) (n : Int)).toNat = n := by rw [zEJ]; exact Nat.mod_eq_of_lt (by show _ < 2 ^ 64; omega)
 have e2 : (BitVec.ofInt (IntKind.bits .u64) (1 : Int)).toNat = 1 := by rfl
 rw [BitVec.toNat_and, e1, e2, Nat.and_one_is_mod, uCB (by omega) (by have := Nat.mod_lt n (show 0 < 2 by decide); omega)]
theorem vQL {j k : Nat} {p q : Rat} (h1 : sz j p) (h2 : sz k q) : sz (j + k + 1) (p - q) := by
 have : sz k (-q) := ⟨by simpa using h2.1, by simpa using h2.2⟩;rw [Rat.sub_eq_add_neg]; exact zBY h1 this
theorem zBV {α : Type} [Inhabited α] {f : Nat → α} {n i : Nat} (h : i < n) : ((List.range n).map f)[i]! = f i := by
 rw [getElem!_pos _ i (by simpa using h)]; simp
def inK (l : List Int) (i : Nat) : Nat := if i < l.length then l[i]!.toNat % 9 else 0
def vY0 (r : RegL) (l : List Int) : List Rat := (List.range r.lo.length).map fun i => qv r.lo[i]! + mkRat (inK l i) 8 * (qv r.hi[i]! - qv r.lo[i]!)
theorem vQM (l : List Int) (i : Nat) : sz 1 (mkRat (inK l i) 8) := by
 have h : inK l i < 9 := by unfold inK; split <;> omega
 refine vHN (by decide) ?_ (by decide +kernel);exact Nat.lt_of_lt_of_le (show _ < 9 by simpa using h) (by decide +kernel)
def vMN (l : List Int) : Prop := l.length ≤ 1048576 ∧ ∀ x ∈ l, 0 ≤ x ∧ x < 256
def fdB (l : List Int) (a : Nat) : Blk := ⟨[.agg [.imm (l.map (.int .u8)), .int .i64 a]], 2, true⟩
theorem zGL (l : List Int) (a : Nat) : ∀ i, fdB l a ≠ vC9 i := fun i h => by simp [fdB, vC9] at h
def nx1 (l : List Int) (a n : Nat) : Nat := if a < l.length then l[a]!.toNat % n else 0
def nx2 (l : List Int) (a : Nat) : Nat := if a < l.length then a + 1 else a
theorem zG8 {l : List Int} {a n : Nat} (h : 0 < n) : nx1 l a n < n := by unfold nx1; split; exact Nat.mod_lt _ h; exact h
theorem zD8 {l : List Int} {a : Nat} (h : a ≤ l.length) : nx2 l a ≤ l.length := by unfold nx2; split <;> omega
def uBS (k : Nat) : Nat := if k < 2 then 1 else if k = 2 then 2 else 4
theorem vZG (k : Nat) : uBS k ≠ 0 := by unfold uBS; split; decide; split <;> decide
def vEG (l : List Int) (a : Nat) : Rat := mkRat ((nx1 l a 9 : Int) - 4) (uBS (nx1 l (nx2 l a) 4))
def vMR (l : List Int) (a : Nat) : Nat := nx2 l (nx2 l a)
theorem zLX {l : List Int} {a : Nat} (h : a ≤ l.length) : vMR l a ≤ l.length := zD8 (zD8 h)
theorem zGC (l : List Int) (a : Nat) : sz 1 (vEG l a) := by
 have h1 := zG8 (l := l) (a := a) (n := 9) (by decide);refine vHN (vZG _) ?_ ?_
 ·exact Nat.lt_of_le_of_lt (show _ ≤ 9 by omega) (by decide +kernel)
 ·exact Nat.lt_of_le_of_lt (show _ ≤ 4 by unfold uBS; split; decide; split <;> decide) (by decide +kernel)
def vB6 (v : Int) : QF := ⟨[(v, 1)], 0⟩
theorem vE0 (v : Int) : Srt (vB6 v).ts := by
 rw [show (vB6 v).ts = (v, 1) :: [] from rfl, srt_cons];exact ⟨fun q hq => (by cases hq), (show (1 : Rat) ≠ 0 by decide +kernel), zCD⟩
theorem vJW (v : Int) : szF 1 (vB6 v) := by
 refine ⟨(zDT 1 (by decide)).1, fun p hp => ?_⟩;have e : p = (v, 1) := List.mem_singleton.1 hp;rw [e];exact zF6 (z := 1) (by decide)
def vT6 (l : List Int) (v : Nat) (s : QF × Nat) : QF × Nat :=
 if 0 < nx1 l s.2 3 then (vA3 s.1 (vB6 v) (vEG l (nx2 l s.2)), vMR l (nx2 l s.2)) else (s.1, nx2 l s.2)
def vCG (l : List Int) (a : Nat) : Nat → QF × Nat
 | 0 => (⟨[], vEG l a⟩, vMR l a)
 | n + 1 => vT6 l n (vCG l a n)
theorem zGJ {l : List Int} {a : Nat} (ha : a ≤ l.length) : ∀ n : Nat, okF n (vCG l a n).1 ∧ szF (1 + 3 * n) (vCG l a n).1 ∧ (vCG l a n).1.ts.length ≤ n ∧ (vCG l a n).2 ≤ l.length
 | 0 => ⟨⟨zCD, fun t ht => by cases ht⟩, ⟨zGC l a, fun p hp => by cases hp⟩, Nat.le_refl _, zLX ha⟩
 | n + 1 => by
   obtain ⟨⟨h1, h2⟩, h3, h4, h5⟩ := zGJ ha n;show okF _ (vT6 l n (vCG l a n)).1 ∧ szF _ (vT6 l n (vCG l a n)).1 ∧ (vT6 l n (vCG l a n)).1.ts.length ≤ _ ∧ (vT6 l n (vCG l a n)).2 ≤ _
   generalize vCG l a n = s at *
   unfold vT6
   split
   ·refine ⟨⟨zCW h1 (vE0 n), fun t ht => ?_⟩, zDJ h3 (vJW n) (zGC l _) (by omega), ?_, zLX (zD8 h5)⟩
    ·rcases zB9 _ _ _ _ (Nat.le_refl _) t ht with ⟨p, hp, e⟩ | ⟨p, hp, e⟩
     ·have := h2 p hp; omega
     ·have : p = ((n : Int), (1 : Rat)) := List.mem_singleton.1 hp
      subst this;simp only at e;omega
    ·have : (vA3 s.1 (vB6 n) (vEG l (nx2 l s.2))).ts.length ≤ s.1.ts.length + (vB6 n).ts.length := zFE
     have e : (vB6 n).ts.length = 1 := rfl;show (vA3 s.1 (vB6 n) (vEG l (nx2 l s.2))).ts.length ≤ _
     omega
   ·exact ⟨⟨h1, fun t ht => by have := h2 t ht; omega⟩, zD7 (by omega) h3, by show s.1.ts.length ≤ _; omega, zD8 h5⟩
def uAJ (q : Rat) : RatL := ⟨false, (cr q).num, (cr q).den⟩
theorem vWG (q : Rat) : okR (uAJ q) := zAI q
theorem uFX (q : Rat) : 0 ≤ qv (uAJ q) := Rat.not_lt.1 fun h => by
 have h1 := sgnQ_neg.2 h;rw [vFA] at h1;have : 0 ≤ sg (uAJ q).neg (nv (uAJ q).num) := by unfold sg uAJ; simp
 obtain ⟨n, hn⟩ := Int.eq_ofNat_of_zero_le this;rw [hn] at h1;cases n <;> simp [Int.sign] at h1
def bdA (l : List Int) (a : Nat) : Nat → Nat
 | 0 => a
 | n + 1 => vMR l (vMR l (bdA l a n))
def loI (l : List Int) (a n : Nat) : List Rat := (List.range n).map fun i => vEG l (bdA l a i)
def hiI (l : List Int) (a n : Nat) : List Rat := (List.range n).map fun i => vEG l (bdA l a i) + qv (uAJ (vEG l (vMR l (bdA l a i))))
theorem vJL {l : List Int} {a : Nat} (h : a ≤ l.length) : ∀ n, bdA l a n ≤ l.length
 | 0 => h
 | n + 1 => zLX (zLX (vJL h n))
def rwA (l : List Int) (a m : Nat) : Nat → Nat
 | 0 => a
 | n + 1 => (vCG l (rwA l a m n) m).2
def rwI (l : List Int) (a m n : Nat) : List QF := (List.range n).map fun i => (vCG l (rwA l a m i) m).1
theorem zLE {l : List Int} {a m : Nat} (h : a ≤ l.length) : ∀ n, rwA l a m n ≤ l.length
 | 0 => h
 | n + 1 => (zGJ (zLE h n) m).2.2.2
def vDW (l : List Int) (a m : Nat) : RegL := ⟨(loI l a m).map cr, (hiI l a m).map cr, (rwI l (nx2 l (bdA l a m)) m (nx1 l (bdA l a m) 3)).map QF.L⟩
def uCQ (l : List Int) (a m : Nat) : Nat := rwA l (nx2 l (bdA l a m)) m (nx1 l (bdA l a m) 3)
theorem uFW (l : List Int) (a : Nat) : sz 1 (qv (uAJ (vEG l a))) := by
 have := zAL (zGC l a);exact zES (vWG _) this.1 this.2 (by decide)
theorem vQ6 {l : List Int} {a m n : Nat} (h : a ≤ l.length) {f : QF} (hf : f ∈ rwI l a m n) : okF m f ∧ szF (1 + 3 * m) f ∧ f.ts.length ≤ m := by
 unfold rwI at hf;obtain ⟨i, hi, rfl⟩ := List.mem_map.1 hf;have := zGJ (zLE h i (m := m)) m;exact ⟨this.1, this.2.1, this.2.2.1⟩
theorem uAR {l : List Int} {a m : Nat} (h : a ≤ l.length) (hm : 1 ≤ m) (hm2 : m ≤ 8) : VaR (vDW l a m) m ∧ vCZ 30 (vDW l a m) ∧ (vDW l a m).lo.length = m ∧ (vDW l a m).hi.length = m ∧ (vDW l a m).rows.length ≤ 2 ∧ ∀ f ∈ (vDW l a m).rows, f.terms.length ≤ m := by
 have hr := zLE (m := m) (zD8 (vJL h m));have h3 := zG8 (l := l) (a := bdA l a m) (n := 3) (by decide);have e1 : (vDW l a m).lo.length = m := by simp [vDW, loI]
 have e2 : (vDW l a m).hi.length = m := by simp [vDW, hiI]
 have e3 : (vDW l a m).rows.length = nx1 l (bdA l a m) 3 := by simp [vDW, rwI]
 have hrow : ∀ f ∈ (vDW l a m).rows, ∃ g, f = g.L ∧ okF m g ∧ szF (1 + 3 * m) g ∧ g.ts.length ≤ m := fun f hf => by
  obtain ⟨g, hg, rfl⟩ := List.mem_map.1 hf;exact ⟨g, rfl, vQ6 (zD8 (vJL h m)) hg⟩
 refine ⟨⟨⟨by omega, by omega⟩, by omega, by omega, by omega, fun i hi => ?_, fun i hi => ?_⟩, ⟨⟨by omega, fun x hx => ?_⟩, ⟨by omega, fun x hx => ?_⟩, fun f hf => ?_, by omega⟩, e1, e2, by omega, fun f hf => ?_⟩
 ·have hi : i < m := by omega
  unfold uD4 vDW;dsimp only;have a1 : i < (loI l a m).length := by simpa [loI] using hi
  have a2 : i < (hiI l a m).length := by simpa [hiI] using hi
  rw [zL3 a1, zL3 a2];simp only [zAQ];refine ⟨trivial, trivial, ?_⟩;unfold loI hiI;rw [zBV hi, zBV hi];have := uFX (vEG l (vMR l (bdA l a i)))
  grind
 ·obtain ⟨g, e, hg, _⟩ := hrow (vDW l a m).rows[i]! (by rw [getElem!_pos _ i hi]; exact List.getElem_mem hi)
  rw [e]; exact zKG hg
 ·unfold vDW loI at hx
  simp only [List.map_map, List.mem_map, List.mem_range, Function.comp] at hx;obtain ⟨i, hi, rfl⟩ := hx;exact zEI (zBE (by decide) (zGC l _))
 ·unfold vDW hiI at hx
  simp only [List.map_map, List.mem_map, List.mem_range, Function.comp] at hx;obtain ⟨i, hi, rfl⟩ := hx;exact zEI (zBE (by decide) (zBY (zGC l _) (uFW l _)))
 ·obtain ⟨g, rfl, _, h4, h5⟩ := hrow f hf
  exact vKR (zD7 (by omega) h4) (by omega)
 ·obtain ⟨g, rfl, _, h4, h5⟩ := hrow f hf
  simpa [QF.L] using h5
open Go
mutual
def vJR {H : Type} : DataW H → Nat
 | .lit (.string bytes) => bytes.length + 1
 | .lit _ => 1
 | .nil => 1
 | .ptr d => vJR d + 1
 | .slice elems spare => vB9 elems + vB9 spare + 1
 | .agg parts => vB9 parts + 1
 | .iface _ d => vJR d + 1
 | .map entries => vCM entries + 1
 | .held _ => 1
def vB9 {H : Type} : List (DataW H) → Nat
 | [] => 0
 | d :: r => vJR d + vB9 r
def vCM {H : Type} : List (Lit × DataW H) → Nat
 | [] => 0
 | x :: r => vD9 x + vCM r
def vD9 {H : Type} : Lit × DataW H → Nat
 | (.string bytes, d) => bytes.length + vJR d + 1
 | (_, d) => vJR d + 1
end
def RC (w : World) (A : Nat → Prop) (ds : List PV) (cs : List Value) : Prop := ds.length = cs.length ∧ ∀ i d, ds[i]? = some d → RD w A d (cs.getD i undef) ∧ (cs.getD i undef).oneCell' = true
abbrev vP7 (w : World) : Nat → Prop := fun b => b < w.heap.size
section
variable {H : Type} {enc : TypeId × Value → H} {P : Program} {w : World} {A : Nat → Prop}
theorem RC.one {d : PV} {v : Value} (h : RD w A d v) (h1 : v.oneCell' = true) : RC w A [d] [v] := ⟨rfl, fun i x hx => by
 cases i with
 | zero => simp at hx; subst hx; exact ⟨h, h1⟩
 | succ i => simp at hx⟩
theorem zM2 {α : Type} (l : List α) (o n i : Nat) (x : α) (h : i < n) : ((l.drop o).take n).getD i x = l.getD (o + i) x := by
 simp only [List.getD_eq_getElem?_getD, List.getElem?_take, h, if_true, List.getElem?_drop]
theorem getD_drop {α : Type} (l : List α) (o i : Nat) (x : α) : (l.drop o).getD i x = l.getD (o + i) x := by
 simp only [List.getD_eq_getElem?_getD, List.getElem?_drop]
theorem RC.step {a b : List PV} {cs : List Value} {o n o' : Nat} (h1 : RC w A a ((cs.drop o).take n)) (ho : o' = o + n) (hn : n ≤ cs.length - o) (h2 : RC w A b (cs.drop o')) : RC w A (a ++ b) (cs.drop o) := by
 subst ho;have e1 := h1.1;have e2 := h2.1;rw [List.length_take, List.length_drop] at e1;rw [List.length_drop] at e2;refine ⟨by rw [List.length_append, List.length_drop]; omega, fun i d hd => ?_⟩;by_cases hi : i < a.length
 ·rw [List.getElem?_append_left hi] at hd
  have := h1.2 i d hd;rw [zM2 _ _ _ _ _ (by omega)] at this;rw [getD_drop];exact this
 ·rw [List.getElem?_append_right (by omega)] at hd
  have := h2.2 _ d hd;rw [getD_drop] at this ⊢;rw [show o + n + (i - a.length) = o + i by omega] at this;exact this
theorem RC.last {a : List PV} {cs : List Value} {o n : Nat} (h1 : RC w A a ((cs.drop o).take n)) (ho : cs.length - o ≤ n) : RC w A a (cs.drop o) := by
 rw [List.take_of_length_le (by rw [List.length_drop]; exact ho)] at h1;exact h1
theorem vNZ (b o n : Nat) : (⟨b, o, none⟩ : Addr).add n = ⟨b, o + n, none⟩ := by
 unfold Addr.add
 split
 ·rename_i h; subst h; rfl
 ·rfl
theorem cell_spot {w : World} {a : Addr} {v : Value} (h : w.cell? a = some v) : a.spot = none := by
 unfold World.cell? at h
 split at h
 ·split at h
  ·cases h
  ·rename_i hs; simpa using hs
 ·cases h
def Reads {α : Type} (enc : TypeId × Value → H) (P : Program) (w : World) (n : Nat) (t : TypeId) (e : α → List PV) (Q : α → Nat → Prop) : Prop :=
 ∀ fuel, fuel ≤ n → ∀ cs (d : DataW H) ps, DataW.trod enc P w 0 (fun _ => true) true fuel t cs = some (d, ps) → ∃ x : α, RC w (vP7 w) (e x) cs ∧ Q x (vJR d)
theorem Reads.mono {α : Type} {n : Nat} {t : TypeId} {e : α → List PV} {Q Q' : α → Nat → Prop} (h : Reads enc P w n t e Q) (hq : ∀ x B, Q x B → Q' x B) : Reads enc P w n t e Q' := fun fuel hf cs d ps hd => let ⟨x, h1, h2⟩ := h fuel hf cs d ps hd; ⟨x, h1, hq _ _ h2⟩
theorem vRH {n : Nat} {t : TypeId} {k : IntKind} (ht : P.underlying t = some (.int k)) : Reads enc P w n t (fun x : Int => [.int k x]) (fun x B => (Lit.int k x).wf = true ∧ 1 ≤ B) := by
 intro fuel _ cs d ps h;obtain ⟨x, rfl, he, hw⟩ := DataW.trod_int ht h;cases he
 exact ⟨x, RC.one (.int k x) rfl, hw, Nat.le_refl _⟩
def QL {α : Type} (Q : α → Nat → Prop) : List α → Nat → Prop
 | [], B => 1 ≤ B
 | x :: xs, B => ∃ b c, Q x b ∧ QL Q xs c ∧ b + c ≤ B
theorem QL.mono {α : Type} {Q : α → Nat → Prop} : ∀ {xs : List α} {B C : Nat}, QL Q xs B → B ≤ C → QL Q xs C
 | [], _, _, h, hc => Nat.le_trans h hc
 | _ :: _, _, _, ⟨b, c, h1, h2, h3⟩, hc => ⟨b, c, h1, h2, Nat.le_trans h3 hc⟩
theorem QL.mem {α : Type} {Q : α → Nat → Prop} : ∀ {xs : List α} {B : Nat}, QL Q xs B → ∀ x ∈ xs, ∃ b, Q x b ∧ b ≤ B
 | x :: xs, B, ⟨b, c, h1, h2, h3⟩, y, hy => by
   rcases List.mem_cons.1 hy with rfl | hy
   ·exact ⟨b, h1, by omega⟩
   ·obtain ⟨b', h4, h5⟩ := QL.mem h2 y hy; exact ⟨b', h4, by omega⟩
theorem QL.len {α : Type} {Q : α → Nat → Prop} (hq : ∀ x b, Q x b → 1 ≤ b) : ∀ {xs : List α} {B : Nat}, QL Q xs B → xs.length < B
 | [], _, h => h
 | x :: xs, B, ⟨b, c, h1, h2, h3⟩ => by have := QL.len hq h2; have := hq _ _ h1; simp; omega
theorem QL.sum {α : Type} {Q : α → Nat → Prop} {f : α → Nat} (hq : ∀ x b, Q x b → f x ≤ b) : ∀ {xs : List α} {B : Nat}, QL Q xs B → (xs.map f).sum < B
 | [], _, h => h
 | x :: xs, B, ⟨b, c, h1, h2, h3⟩ => by have := QL.sum hq h2; have := hq _ _ h1; simp; omega
theorem vJ8 {α : Type} {n : Nat} {t e : TypeId} {sz : Nat} {ec : α → List PV} {pack : α → PV} {Q : α → Nat → Prop} (ht : P.underlying t = some (.slice e)) (hc : P.cellsOf e = sz) (hz : sz ≠ 0)
 (hpk : ∀ x, (pack x).cells = ec x ∧ (ec x).length = sz) (hE : Reads enc P w n e ec Q) : Reads enc P w (n + 1) t (fun xs : List α => [.imm (xs.map pack)]) (QL Q) := by
 intro fuel hf cs d ps h;rcases DataW.trod_slice ht h with ⟨rfl, he⟩ | ⟨a, len, cap, elems, rest, m, rfl, rfl, he, hb, hl, hm, hlen, hel, hsp, hns⟩
 ·cases he
  exact ⟨[], RC.one (.imm0 none 0) rfl, Nat.le_refl _⟩
 ·cases he
  subst hc
  have each : ∀ i y, elems[i]? = some y → ∃ x : α, ∃ cs', w.cells? 0 (a.add (i * P.cellsOf e)) (P.cellsOf e) = some cs' ∧ RC w (vP7 w) (ec x) cs' ∧ Q x (vJR y.1) := by
   intro i y hy;have hi : i < len := by have := (List.getElem?_eq_some_iff.1 hy).1; omega
   have := hel i hi;rw [hy, Option.bind_eq_some_iff] at this;obtain ⟨cs', h1, h2⟩ := this;obtain ⟨x, h3, h4⟩ := hE m (by omega) cs' y.1 y.2 h2;exact ⟨x, cs', h1, h3, h4⟩
  have all : ∃ xs : List α, xs.length = elems.length ∧ (∀ i x, xs[i]? = some x → ∃ cs', w.cells? 0 (a.add (i * P.cellsOf e)) (P.cellsOf e) = some cs' ∧ RC w (vP7 w) (ec x) cs') ∧ QL Q xs (vB9 (elems.map (·.1)) + 1) := by
   clear hel hsp hns h
   have gen : ∀ (l : List (DataW H × List MemPlace)) (k : Nat), (∀ i y, l[i]? = some y → ∃ x : α, ∃ cs', w.cells? 0 (a.add ((k + i) * P.cellsOf e)) (P.cellsOf e) = some cs' ∧ RC w (vP7 w) (ec x) cs' ∧ Q x (vJR y.1)) →
    ∃ xs : List α, xs.length = l.length ∧ (∀ i x, xs[i]? = some x → ∃ cs', w.cells? 0 (a.add ((k + i) * P.cellsOf e)) (P.cellsOf e) = some cs' ∧ RC w (vP7 w) (ec x) cs') ∧ QL Q xs (vB9 (l.map (·.1)) + 1) := by
    intro l
    induction l with
    | nil => intro k _; exact ⟨[], rfl, fun i x hx => by simp at hx, by simp [QL, vB9]⟩
    | cons y l ih =>
      intro k hk;obtain ⟨x, cs', g1, g2, g3⟩ := hk 0 y rfl
      obtain ⟨xs, f1, f2, f3⟩ := ih (k + 1) (fun i z hz => by
       have := hk (i + 1) z (by simpa using hz)
       rwa [show k + (i + 1) = k + 1 + i by omega] at this)
      refine ⟨x :: xs, by simp [f1], fun i z hz => ?_, ⟨_, _, g3, f3, by simp [vB9]; omega⟩⟩;cases i with
      | zero => simp at hz; subst hz; exact ⟨cs', g1, g2⟩
      | succ i =>
        have := f2 i z (by simpa using hz)
        rwa [show k + 1 + i = k + (i + 1) by omega] at this
   have := gen elems 0 (fun i y hy => by rw [Nat.zero_add]; exact each i y hy)
   simpa using this
  obtain ⟨xs, hx1, hx2, hx3⟩ := all;refine ⟨xs, RC.one ?_ rfl, hx3.mono (by simp only [vJR]; omega)⟩;by_cases h0 : len = 0
  ·have : xs = [] := List.length_eq_zero_iff.1 (by omega)
   subst this;subst h0;exact .imm0 (some a) cap
  ·have hlt : 0 < xs.length := by omega
   have ha : a.spot = none := by
    obtain ⟨cs', g1, _, _⟩ := hx2 0 xs[0] (List.getElem?_eq_getElem hlt);obtain ⟨_, q1, q2⟩ := World.cells?_some g1;have hc2 := q2 0 (by omega)
    have hv : cs'[0]? = some (cs'.getD 0 undef) := by
     rw [List.getD_eq_getElem?_getD, List.getElem?_eq_getElem (by omega)]; rfl
    rw [hv] at hc2;have e1 : (a.add (0 * P.cellsOf e)).add 0 = a := by unfold Addr.add; simp
    rw [e1] at hc2;exact cell_spot hc2
   obtain ⟨ab, ao, as⟩ := a;dsimp only at ha;subst ha
   have cellat : ∀ i x, xs[i]? = some x → ∀ c, c < P.cellsOf e → ∃ v, w.cell? ⟨ab, ao + i * P.cellsOf e + c, none⟩ = some v ∧ v.oneCell' = true ∧ (∀ d, (pack x).cells[c]? = some d → RD w (vP7 w) d v) := by
    intro i x hx c hcz;obtain ⟨cs', g1, g2, g3⟩ := hx2 i x hx;obtain ⟨_, q1, q2⟩ := World.cells?_some g1;have hc2 := q2 c (by omega)
    have hv : cs'[c]? = some (cs'.getD c undef) := by
     rw [List.getD_eq_getElem?_getD, List.getElem?_eq_getElem (by omega)]; rfl
    rw [hv, vNZ, vNZ] at hc2;have hcd := (hpk x);have hlx : c < (ec x).length := by omega
    have g4 := g3 c _ (List.getElem?_eq_getElem hlx);refine ⟨_, hc2, g4.2, fun d hd => ?_⟩;rw [hcd.1] at hd;exact (g3 c d hd).1
   obtain ⟨v0, hv0, _, _⟩ := cellat 0 xs[0] (List.getElem?_eq_getElem hlt) 0 (by omega)
   have hA : ab < w.heap.size := by
    simp only [World.cell?] at hv0;by_cases hb2 : ab < w.heap.size
    ·exact hb2
    ·rw [Array.getElem?_eq_none (by omega)] at hv0; simp at hv0
   have := RD.imm (w := w) (A := vP7 w) (xs.map pack) (P.cellsOf e) ab ao cap
    (fun i c => (w.cell? ⟨ab, ao + i * P.cellsOf e + c, none⟩).getD undef) hA (by simp; omega)
    (fun d hd => by obtain ⟨x, _, rfl⟩ := List.mem_map.1 hd; rw [(hpk x).1, (hpk x).2])
    (fun i c hi hc => by
      rw [List.length_map] at hi;obtain ⟨v, h1, h2, _⟩ := cellat i xs[i] (List.getElem?_eq_getElem hi) c hc
      rw [h1]; exact ⟨rfl, h2⟩)
    (fun i d hd c d' hd' => by
      rw [List.getElem?_map] at hd;cases hx : xs[i]? with
      | none => rw [hx] at hd; cases hd
      | some x =>
        rw [hx] at hd;cases hd
        have hcz : c < P.cellsOf e := by
         have := (List.getElem?_eq_some_iff.1 hd').1;rw [(hpk x).1, (hpk x).2] at this; exact this
        obtain ⟨v, h1, h2, h3⟩ := cellat i x hx c hcz
        rw [h1]; exact h3 d' hd')
   rw [List.length_map, hx1, hlen] at this;exact this
theorem Reads.to {α β : Type} {n : Nat} {t : TypeId} {e : α → List PV} {e' : β → List PV} {Q : α → Nat → Prop} {Q' : β → Nat → Prop} (f : α → β) (h : Reads enc P w n t e Q) (he : ∀ x, e x = e' (f x)) (hq : ∀ x B, Q x B → Q' (f x) B) : Reads enc P w n t e' Q' :=
 fun fuel hf cs d ps hd => let ⟨x, h1, h2⟩ := h fuel hf cs d ps hd; ⟨f x, he x ▸ h1, hq _ _ h2⟩
theorem Reads.le {α : Type} {n m : Nat} {t : TypeId} {e : α → List PV} {Q : α → Nat → Prop} (h : Reads enc P w n t e Q) (hm : m ≤ n) : Reads enc P w m t e Q := fun fuel hf => h fuel (Nat.le_trans hf hm)
end
open Go Go.RowKit Go.WideShapes Go.ChangeShapes Go.WideElems
section
variable {H : Type} {enc : TypeId × Value → H} {P : Program}
theorem zHV (hl : laidOutB P = true) {W W' : World} (hb : Below W.heap.size W W') {sp : Nat → Bool} : ∀ {ts : List TypeId} {vs : List Value} {ds : List (DataW H)} {ps : List MemPlace},
 ts.all (fun t => P.readableRec t && decide (t < P.types.size)) = true → DataW.TrodAll enc P W 0 (fun _ => true) true ts vs ds ps → (∀ p ∈ ps, sp p.block = true) → DataW.TrodAll enc P W' 0 sp true ts vs ds ps
 | [], [], [], _, _, h, _ => h
 | t :: ts, v :: vs, d :: ds, ps, hr, h, hs => by
   have hlt := h.lt;obtain ⟨p, q, ⟨fuel, h1⟩, h2, e⟩ := h;simp only [List.all_cons, Bool.and_eq_true, decide_eq_true_eq] at hr;have hp : ∀ x ∈ p, x.block < W.heap.size := fun x hx => hlt x (by rw [e]; simp [hx])
   exact ⟨p, q, ⟨fuel, DataW.trod_stays (kids_book hl hr.1.1) (book_sized hr.1.1) (fun h => by cases h) ⟨hr.1.2, book_self t⟩ h1 (fun x hx => hb.same (hp x hx)) (fun x hx => hs x (by rw [e]; simp [hx]))⟩,
    zHV hl hb (by simpa using hr.2) h2 (fun x hx => hs x (by rw [e]; simp [hx])), e⟩
 | [], [], _ :: _, _, _, h, _ => h.elim
 | [], _ :: _, _, _, _, h, _ => h.elim
 | _ :: _, [], _, _, _, h, _ => h.elim
 | _ :: _, _ :: _, [], _, _, h, _ => h.elim
theorem vQG {w : World} {r : Reach} {b0 : Nat} {t : TypeId} {v : Value} {e : TypeId} (ht : P.underlying t = some (.slice e)) (h : Value.okWide P w r b0 t v) : v.cells = #[v] := by
 simp [Value.okWide, ht, Cell.okWide, Cell.ok] at h;cases v <;> simp_all [Value.cells]
theorem vJM {w : World} {r : Reach} {b0 : Nat} {ps : Array TypeId} {args : Array Value} (h : ∀ (j : Nat) t v, ps[j]? = some t → args[j]? = some v → Value.okWide P w r b0 t v) (j : Nat) {t : TypeId} {v : Value} {e : TypeId} (h1 : ps[j]? = some t) (h2 : args[j]? = some v) (ht : P.underlying t = some (.slice e)) : v.cells = #[v] := vQG ht (h j t v h1 h2)
theorem uA0 {w : World} {A : Nat → Prop} {d : PV} {v : Value} (hc : v.cells = #[v]) (h : RC w A [d] v.cells.toList) : RD w A d v := by
 rw [hc] at h;exact (h.2 0 d rfl).1
theorem vOI {f : Func} {s : ChangeSpec} {W W' : World} {args : Array Value} {v : Value} {ds gs : List (DataW H)} {before pa pv : List MemPlace}
 (hW : DataW.Whole enc P f.params.toList s.vars false W args.toList ds gs before)
 (hres : ∀ (b : Nat) (sp : Nat → Bool) (hd : Bool), DataW.TrodAll enc P W' b sp hd f.resultTypes.toList (v.resultList f.resultTypes.size) (s.fn H (ds ++ gs)).results [])
 (hargs : ∀ sp : Nat → Bool, (∀ p ∈ before, sp p.block = true) → DataW.TrodAll enc P W' 0 sp true f.params.toList args.toList (s.fn H (ds ++ gs)).args pa)
 (hvars : ∀ sp : Nat → Bool, (∀ p ∈ before, sp p.block = true) → DataW.TrodVars enc P W' sp s.vars (s.fn H (ds ++ gs)).vars pv)
 (hps : before = pa ++ pv) (hb : Below W.heap.size W W')
 (hok : ∀ (j : Nat) (t : TypeId) (r : Value), f.resultTypes[j]? = some t → (v.resultList f.resultTypes.size)[j]? = some r → Value.okWide P W' .any 0 t r) :
 s.post enc P f false true false false W args v W' := by
 have hold : ∀ p ∈ before, (fun b => decide (b < W.heap.size)) p.block = true := fun p hp => by simpa using hW.lt p hp
 refine ⟨ds, gs, before, [], pa, pv, hW, hres _ _ _, hargs _ hold, hvars _ hold, World.keptBut_mono (fun p hp => ⟨hp, ?_⟩) (hb.frame (· ∈ before)), fun h => by cases h⟩;rw [hps, List.mem_append] at hp;exact Or.inr hp
theorem vYY {G : Gl} {f : FuncId} {fn : Func} {s : ChangeSpec} {tb : TypeId} (hl : laidOutB P = true) (hr : fn.params.toList.all (fun t => P.readableRec t && decide (t < P.types.size)) = true)
 (hrt : fn.resultTypes = #[tb]) (htb : P.underlying tb = some .bool) (hv : s.vars = [])
 {W : World} {args : Array Value} {ds gs : List (DataW H)} {before : List MemPlace} (hfn : ∀ gs : List (DataW H), gs = [] → s.fn H (ds ++ gs) = { results := [.lit (.bool true)], args := ds })
 (hW : DataW.Whole enc P fn.params.toList s.vars false W args.toList ds gs before) (hg : Gok G W (vP7 W)) {pvs : List PV} (hd : RDs W (vP7 W) pvs args.toList) (hF : FnC P G f pvs (.data (.bool true))) :
 Calls P f args W fun e W' => ∃ v, e = .returned v ∧ s.post enc P fn false true false false W args v W' := by
 have hc := hF.2 W (vP7 W) args.toList (fun _ h => h) hg hd;rw [Array.toArray_toList] at hc;refine hc.mono fun e W' ⟨v, he, hb, hh⟩ => ⟨v, he, ?_⟩
 obtain rfl : v = .bool true := by cases (show RD _ _ (.bool true) v from hh); rfl
 have hW0 := hW;obtain ⟨p, q, hA, hV, rfl, _, _⟩ := hW0;rw [hv] at hV;obtain ⟨rfl, rfl⟩ := trodVars_none hV;have hfn := hfn [] rfl;refine vOI (pa := p) (pv := []) hW (fun b sp hd => ?_) (fun sp hsp => ?_) (fun sp hsp => ?_) rfl hb (ok_one hrt rfl (okWide_bool_mk htb _))
 ·rw [hfn, hrt]
  exact trodAll_cons_mk (shut_bool htb _) trodAll_mk0
 ·rw [hfn]
  exact zHV hl hb hr hA (fun x hx => hsp x (by simp [hx]))
 ·rw [hfn, hv]
  rfl
end
structure Est (U W p T v1 v2 u3 : Nat) : Prop where
 u1 : p * (u3 + 4294967296 * T) ≤ U
 u2 : U < p * (u3 + 4294967296 * T + 1)
 w1 : p * (v2 + 4294967296 * v1) ≤ W
 w2 : W < p * (v2 + 4294967296 * v1 + 1)
 v1l : 2147483648 ≤ v1
 v1h : v1 < 4294967296
 v2h : v2 < 4294967296
 u3h : u3 < 4294967296
 lt : U < W * 4294967296
 p0 : 0 < p
section
variable {U W p T v1 v2 u3 : Nat}
theorem Est.init (h : Est U W p T v1 v2 u3) {q r : Nat} (ht : T = q * v1 + r) (hr : r < v1) : U < (q + 1) * W ∧ q ≤ 4294967297 := by
 constructor
 ·have h1 : p * (u3 + 4294967296 * T + 1) ≤ p * (4294967296 * ((q + 1) * v1)) := Nat.mul_le_mul_left _ (by
   have : (q + 1) * v1 = q * v1 + v1 := by rw [Nat.add_mul, Nat.one_mul]
   have := h.u3h
   omega)
  have h2 : p * (4294967296 * ((q + 1) * v1)) = (q + 1) * (p * (4294967296 * v1)) := by
   rw [Nat.mul_left_comm 4294967296, Nat.mul_left_comm p]
  have h3 : (q + 1) * (p * (4294967296 * v1)) ≤ (q + 1) * W := Nat.mul_le_mul_left _ (Nat.le_trans (Nat.mul_le_mul_left _ (by omega)) h.w1);have := h.u2;omega
 ·have h1 : p * (4294967296 * T) < p * (4294967296 * ((v1 + 1) * 4294967296)) := by
   have a1 : p * (4294967296 * T) ≤ U := Nat.le_trans (Nat.mul_le_mul_left _ (by omega)) h.u1;have a2 : W * 4294967296 ≤ p * (4294967296 * (v1 + 1)) * 4294967296 := Nat.mul_le_mul_right _ (Nat.le_trans (Nat.le_of_lt h.w2) (Nat.mul_le_mul_left _ (by have := h.v2h; omega)));have := h.lt;rw [Nat.mul_assoc, Nat.mul_assoc] at a2;omega
  have h2 : T < (v1 + 1) * 4294967296 := by
   have := Nat.lt_of_mul_lt_mul_left h1;omega
  have h3 : q * v1 < 4294967298 * v1 := by have := h.v1l; omega
  have := Nat.lt_of_mul_lt_mul_right h3;omega
theorem Est.step (h : Est U W p T v1 v2 u3) {q r : Nat} (ht : T = q * v1 + r) (hc : 4294967296 ≤ q ∨ r * 4294967296 + u3 < q * v2) : U < q * W := by
 rcases hc with hc | hc
 ·have := h.lt
  have h1 : W * 4294967296 ≤ W * q := Nat.mul_le_mul_left _ hc;rw [Nat.mul_comm W q] at h1;omega
 ·have h1 : u3 + 4294967296 * T + 1 ≤ q * (v2 + 4294967296 * v1) := by
   rw [Nat.mul_add, Nat.mul_left_comm, ht, Nat.mul_add];omega
  have h2 : p * (q * (v2 + 4294967296 * v1)) = q * (p * (v2 + 4294967296 * v1)) := Nat.mul_left_comm ..;have h3 := Nat.mul_le_mul_left p h1;have h4 := Nat.mul_le_mul_left q h.w1;have := h.u2;omega
theorem Est.last (h : Est U W p T v1 v2 u3) {q r : Nat} (ht : T = q * v1 + r) (hq : q ≤ 4294967296) (hc : q * v2 ≤ r * 4294967296 + u3) : q * W ≤ U + W := by
 have h1 : q * (v2 + 4294967296 * v1) ≤ u3 + 4294967296 * T := by
  rw [Nat.mul_add, Nat.mul_left_comm, ht, Nat.mul_add];omega
 have h2 : q * (p * (v2 + 4294967296 * v1)) ≤ U := by
  rw [Nat.mul_left_comm];exact Nat.le_trans (Nat.mul_le_mul_left p h1) h.u1
 have h3 : q * W ≤ q * (p * (v2 + 4294967296 * v1 + 1)) := Nat.mul_le_mul_left _ (Nat.le_of_lt h.w2);have h4 : q * (p * (v2 + 4294967296 * v1 + 1)) = q * (p * (v2 + 4294967296 * v1)) + q * p := by rw [Nat.mul_add p, Nat.mul_one, Nat.mul_add]
 have h5 : q * p ≤ W := by
  have a1 : q * p ≤ 4294967296 * p := Nat.mul_le_mul_right _ hq;have a2 : p * 4294967296 ≤ p * (v2 + 4294967296 * v1) := Nat.mul_le_mul_left _ (by have := h.v1l; omega);have := h.w1;rw [Nat.mul_comm 4294967296 p] at a1;omega
 omega
theorem Est.great (h : Est U W p T v1 v2 u3) {q r : Nat} (hq : q ≤ 4294967296) (hr : 4294967296 ≤ r) : q * v2 ≤ r * 4294967296 + u3 := by
 have h1 : q * v2 ≤ 4294967296 * 4294967296 := Nat.mul_le_mul hq (Nat.le_of_lt h.v2h);have h2 : 4294967296 * 4294967296 ≤ r * 4294967296 := Nat.mul_le_mul_right _ hr;omega
end
theorem uH2 {P V : List Int} (hP : okN P) (hV : okN V) {n : Nat} (hn : 2 ≤ n) (hPl : P.length = n + 1) (hVl : V.length = n) (htop : 2147483648 ≤ lb V (n - 1)) (hlt : nv P < nv V * 4294967296) :
 Est (nv P) (nv V) (pw (n - 2)) (lb P n * 4294967296 + lb P (n - 1)) (lb V (n - 1)) (lb V (n - 2)) (lb P (n - 2)) := by
 have e1 := zCE P (n - 2);have e2 := zCE V (n - 2);have p1 := zCU hP (n - 2);have p2 := zCU hP (n - 1);have p3 := zCU hP n;have p4 : nt P (n + 1) = 0 := zD3 (by omega);have v1 := zCU hV (n - 2);have v2 := zCU hV (n - 1);have v3 : nt V n = 0 := zD3 (by omega);rw [show n - 2 + 1 = n - 1 by omega] at p1 v1;rw [show n - 1 + 1 = n by omega] at p2 v2;have k1 := zM1 hP (n - 2);have k2 := zM1 hV (n - 2);have eP : nt P (n - 2) = lb P (n - 2) + 4294967296 * (lb P n * 4294967296 + lb P (n - 1)) := by omega
 have eV : nt V (n - 2) = lb V (n - 2) + 4294967296 * lb V (n - 1) := by omega
 rw [eP] at e1;rw [eV] at e2;exact ⟨by omega, by rw [Nat.mul_add _ _ 1]; omega, by omega, by rw [Nat.mul_add _ _ 1]; omega, htop, zCK hV _, zCK hV _, zCK hP _, hlt, zJ1 _⟩
theorem vPC {B : List Int} (hb : okN B) {n k : Nat} (hn : B.length = n) (h1 : 1 ≤ n) (ht : lb B (n - 1) ≠ 0) (hk : bl (lb B (n - 1)) + k = 32) :
 nv B * 2 ^ k < pw n ∧ (vA4 (nv B * 2 ^ k)).length = n ∧ 2147483648 ≤ lb (vA4 (nv B * 2 ^ k)) (n - 1) := by
 obtain ⟨b1, b2, b3⟩ := zCA 32 _ (zCK hb (n - 1)) (by decide);have b2 := b2 ht;have e : nv B = nk B (n - 1) + pw (n - 1) * lb B (n - 1) := by rw [← zA5, show n - 1 + 1 = n by omega, zBR (by omega)]
 have hk1 := zM1 hb (n - 1);have hp : pw n = pw (n - 1) * 4294967296 := by rw [show n = n - 1 + 1 by omega, zA0, Nat.mul_comm]; rfl
 have hpp := zJ1 (n - 1);have e32 : 2 ^ bl (lb B (n - 1)) * 2 ^ k = 4294967296 := by rw [← Nat.pow_add, hk]
 have t1 : (lb B (n - 1) + 1) * 2 ^ k ≤ 4294967296 := by rw [← e32]; exact Nat.mul_le_mul_right _ b1
 have t2 : 4294967296 ≤ 2 * (lb B (n - 1) * 2 ^ k) := by rw [← e32, ← Nat.mul_assoc]; exact Nat.mul_le_mul_right _ b2
 have lo : pw (n - 1) * 2147483648 ≤ nv B * 2 ^ k := by
  rw [e, Nat.add_mul, Nat.mul_assoc];exact Nat.le_trans (Nat.mul_le_mul_left _ (by omega)) (Nat.le_add_left ..)
 have up : nv B * 2 ^ k < pw n := by
  have : nv B < pw (n - 1) * (lb B (n - 1) + 1) := by rw [e, Nat.mul_add]; omega
  have := Nat.mul_lt_mul_of_pos_right this (show 0 < 2 ^ k from Nat.pow_pos (by decide));rw [Nat.mul_assoc] at this;rw [hp];exact Nat.lt_of_lt_of_le this (Nat.mul_le_mul_left _ t1)
 have ho := zAM (nv B * 2 ^ k);have hv := zAO (nv B * 2 ^ k);have hl := zBD up;generalize vA4 (nv B * 2 ^ k) = V at *
 generalize nv B * 2 ^ k = M at *
 have hl2 : V.length = n := by
  rcases Nat.lt_or_ge V.length n with h | h
  ·have a := zDO ho
   have b := zD2 (show V.length ≤ n - 1 by omega);omega
  ·omega
 refine ⟨up, hl2, ?_⟩;have e2 : nv V = nk V (n - 1) + pw (n - 1) * lb V (n - 1) := by rw [← zA5, show n - 1 + 1 = n by omega, zBR (by omega)]
 have hk2 := zM1 ho (n - 1);have : pw (n - 1) * 2147483648 < pw (n - 1) * (lb V (n - 1) + 1) := by rw [Nat.mul_add]; omega
 have := Nat.lt_of_mul_lt_mul_left this;omega
end Go.PI
