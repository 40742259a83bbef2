/-
  Certificates: rows, derivations, lemmas, nodes. No program in sight.
-/
import Derived.Test.YtcinkbieboiffaaGreatCPC
import Derived.OpenShut
import Derived.OpenVars
import Derived.Lib.LaidTab
set_option linter.unusedVariables false
set_option linter.unusedSimpArgs false
set_option linter.unnecessarySimpa false
namespace Go.PI
@[reducible] def brB (b : Bool) (A B : Prop) : Prop := match b with
  | true => A
  | false => B
inductive Sd where
 | ok
 | bad
def sdOf (c : Prop) [Decidable c] : Sd := match decide c with
 | true => .ok
 | false => .bad
def sdB (b : Bool) : Sd := match b with
 | true => .ok
 | false => .bad
@[reducible] def brT (b : Bool) (A : Prop) : Prop := match sdB b with
  | .ok => A
  | .bad => False
@[reducible] def sideD (c : Prop) [Decidable c] (A : Prop) : Prop := match sdOf c with
  | .ok => A
  | .bad => False
structure sideP (c : Prop) (A : Prop) : Prop where
 c : c
 k : A
@[reducible] def oK {α : Type} (o : Option α) (K : α → Prop) : Prop := match o with
  | some a => K a
  | none => False
structure ov (k : IntKind) (n : Int) (K : Int → Prop) : Prop where
 k : K (k.wrap n)
theorem brB_iff {b : Bool} {A B : Prop} : brB b A B ↔ (b = true → A) ∧ (b = false → B) := by cases b <;> simp [brB]
theorem brB_gen {b : Bool} {A B : Prop} (h1 : b = true → A) (h2 : b = false → B) : brB b A B := brB_iff.2 ⟨h1, h2⟩
theorem zGN {b : Bool} {A B : Prop} (h : brB b B A) : brB (!b) A B := by cases b <;> exact h
theorem brT_intro {b : Bool} {A : Prop} (h : b = true) (k : A) : brT b A := by subst h; exact k
theorem zAV {b : Bool} {A : Prop} (h : brT b A) : b = true ∧ A := by cases b; exact h.elim; exact ⟨rfl, h⟩
theorem zA9 {c : Prop} [Decidable c] {A : Prop} (h : c) (k : A) : sideD c A := by unfold sideD sdOf; rw [decide_eq_true h]; exact k
theorem zBJ {c : Prop} [Decidable c] {A : Prop} (h : sideD c A) : c ∧ A := by
 unfold sideD sdOf at h;by_cases hc : c
 ·rw [decide_eq_true hc] at h; exact ⟨hc, h⟩
 ·rw [decide_eq_false hc] at h; exact h.elim
theorem sideP_elim {c A : Prop} (h : sideP c A) : c ∧ A := ⟨h.c, h.k⟩
theorem oK_intro {α : Type} {o : Option α} {K : α → Prop} {a : α} (h : o = some a) (k : K a) : oK o K := by subst h; exact k
theorem zA0 {α : Type} {o : Option α} {K : α → Prop} (h : oK o K) : ∃ a, o = some a ∧ K a := by
 cases o with
 | none => exact h.elim
 | some a => exact ⟨a, rfl, h⟩
theorem ov_to {k : IntKind} {n m : Int} {K : Int → Prop} (e : k.wrap n = m) (h : K m) : ov k n K := by subst e; exact ⟨h⟩
theorem zMS {n : Int} {K : Int → Prop} (h1 : -9223372036854775808 ≤ n ∧ n < 9223372036854775808) (h : K n) : ov .i64 n K := ov_to (wrapI h1.1 h1.2) h
theorem zC1 {n : Int} {K : Int → Prop} (h1 : 0 ≤ n ∧ n < 18446744073709551616) (h : K n) : ov .u64 n K := ov_to (wrapU h1.1 h1.2) h
theorem zGY {n : Int} {K : Int → Prop} (h1 : 0 ≤ n ∧ n < 4294967296) (h : K n) : ov .u32 n K := ov_to (wrapW h1.1 h1.2) h
theorem zHY {k : IntKind} {n : Int} {K : Int → Prop} (h : ov k n K) : K (k.wrap n) := h.k
structure slK (es : List PV) (a b : Int) (K : List PV → Prop) : Prop where
 k : K ((es.take b.toNat).drop a.toNat)
theorem slK_to {es es' : List PV} {a b : Int} {K : List PV → Prop} (e : (es.take b.toNat).drop a.toNat = es') (k : K es') : slK es a b K := by subst e; exact ⟨k⟩
theorem slK_elim {es : List PV} {a b : Int} {K : List PV → Prop} (h : slK es a b K) : K ((es.take b.toNat).drop a.toNat) := h.k
theorem zCY {α : Type} {f : α → PV} {l l' : List α} {a b : Int} {K : List PV → Prop} (e : (l.take b.toNat).drop a.toNat = l') (k : K (l'.map f)) : slK (l.map f) a b K := slK_to (by rw [← e, List.map_drop, List.map_take]) k
theorem zCC {α : Type} {f : α → PV} {l : List α} {n : Nat} {A : Prop} (h : ∀ x, (f x).cells.length = n) (k : A) : sideP (∀ e' ∈ l.map f, e'.cells.length = n) A := ⟨fun e he => by obtain ⟨x, _, rfl⟩ := List.mem_map.1 he; exact h x, k⟩
def nth {α : Type} : List α → Nat → Option α
 | [], _ => none
 | a :: _, 0 => some a
 | _ :: l, n + 1 => nth l n
theorem zD2 {α : Type} : ∀ (l : List α) (i : Nat), nth l i = l[i]?
 | [], _ => by simp [nth]
 | a :: l, 0 => by simp [nth]
 | a :: l, n + 1 => by simp [nth, zD2 l n]
def ts (t : Tm) (d : Nat) (v : PV) (j : Nat) : PV := match Nat.beq j d with
 | true => v
 | false => t j
def hs (h : Hp) (r : Nat) (b : Option Blk) (j : Nat) : Option Blk := match Nat.beq j r with
 | true => b
 | false => h j
def memN : List Nat → Nat → Bool
 | [], _ => false
 | k :: ks, j => match Nat.beq j k with
   | true => true
   | false => memN ks j
def fs (z : Fz) (ks : List Nat) (j : Nat) : Bool := match memN ks j with
 | true => true
 | false => z j
theorem zFV (j d : Nat) : Nat.beq j d = decide (j = d) := by
 by_cases h : j = d
 ·subst h; simp
 ·rw [decide_eq_false h, Bool.eq_false_iff]; intro e; exact h (Nat.eq_of_beq_eq_true e)
theorem ts_eq {t : Tm} {d : Nat} {v : PV} : ts t d v = tset t d v := by
 funext j
 unfold ts tset;rw [zFV];by_cases h : j = d <;> simp [h]
theorem zGJ {h : Hp} {d : Nat} {v : Option Blk} : hs h d v = hset h d v := by
 funext j
 unfold hs hset;rw [zFV];by_cases h : j = d <;> simp [h]
theorem zJR : ∀ (ks : List Nat) (j : Nat), memN ks j = ks.contains j
 | [], _ => by simp [memN]
 | k :: ks, j => by
   unfold memN;rw [zFV, zJR ks j, List.contains_cons];by_cases h : j = k
   ·simp [h]
   ·simp [h]
theorem fs_eq {z : Fz} {ks : List Nat} : fs z ks = fset z ks := by
 funext j
 unfold fs fset;rw [zJR];cases ks.contains j <;> simp
def fN (n : Nat) (K : Nat → Prop) : Prop := match n with
 | 0 => K 0
 | m + 1 => K (m + 1)
theorem zL2 {n : Nat} {K : Nat → Prop} : fN n K = K n := by cases n <;> rfl
def bq (a b : Bool) : Bool := match a, b with
 | true, true => true
 | false, false => true
 | _, _ => false
theorem zJA {a b : Bool} : bq a b = true ↔ a = b := by cases a <;> cases b <;> simp [bq]
def an (a b : Bool) : Bool := match a with
 | true => b
 | false => false
theorem zB5 {a b : Bool} : an a b = true ↔ a = true ∧ b = true := by cases a <;> simp [an]
theorem zCJ {a b : Nat} : Nat.beq a b = true ↔ a = b := by rw [zFV]; simp
theorem zH5 {a b : Nat} : Nat.ble a b = true ↔ a ≤ b := by rw [Nat.ble_eq]
def nz (n : Nat) : Bool := match n with
 | 0 => false
 | _ + 1 => true
theorem zFI {n : Nat} : nz n = true ↔ n ≠ 0 := by cases n <;> simp [nz]
def no (b : Bool) : Bool := match b with
 | true => false
 | false => true
theorem no_iff {b : Bool} : no b = true ↔ b = false := by cases b <;> simp [no]
def fL : List PV → (List PV → Prop) → Prop
 | [], K => K []
 | c :: cs, K => fL cs fun l => K (c :: l)
theorem fL_eq : ∀ {l : List PV} {K : List PV → Prop}, fL l K = K l
 | [], _ => rfl
 | c :: cs, K => by unfold fL; rw [fL_eq]
@[reducible] def force (v : PV) (K : PV → Prop) : Prop := match v with
  | .int k n => K (.int k n)
  | .bool b => K (.bool b)
  | .str s => K (.str s)
  | .agg cs => fL cs fun l => K (.agg l)
  | .imm es => K (.imm es)
  | .nilsl => K .nilsl
  | .own r off len => K (.own r off len)
  | .ptr r i off => K (.ptr r i off)
  | .cptr e off => K (.cptr e off)
  | .func fn f c => K (.func fn f c)
  | .nilfunc => K .nilfunc
  | .tup vs => fL vs fun l => K (.tup l)
  | .anyb => K .anyb
  | .any => K .any
theorem force_eq {v : PV} {K : PV → Prop} : force v K = K v := by cases v <;> simp [force, fL_eq]
abbrev KK := PV → Hp → List Nat → List Nat → Prop
abbrev Ti := TypeId → Option TI
section
variable (T : Ti) (G : Gl)
def evs (t : Tm) : List Operand → (List PV → Prop) → Prop
 | [], K => K []
 | x :: xs, K => force (ev G t x) fun v => evs t xs fun vs => K (v :: vs)
theorem evs_eq {t : Tm} : ∀ {l : List Operand} {K : List PV → Prop}, evs G t l K = K (l.map (ev G t))
 | [], _ => rfl
 | x :: xs, K => by unfold evs; rw [force_eq, evs_eq]; rfl
def evp (t : Tm) : List (Nat × Operand) → (List (Nat × PV) → Prop) → Prop
 | [], K => K []
 | (i, x) :: xs, K => force (ev G t x) fun v => evp t xs fun vs => K ((i, v) :: vs)
theorem evp_eq {t : Tm} : ∀ {l : List (Nat × Operand)} {K : List (Nat × PV) → Prop}, evp G t l K = K (l.map fun (j, x) => (j, ev G t x))
 | [], _ => rfl
 | (i, x) :: xs, K => by unfold evp; rw [force_eq, evp_eq]; rfl
def partK (e : PV) (off n : Nat) (agg : Bool) (K : PV → Prop) : Prop :=
 brB (an (Nat.beq off 0) (an (Nat.beq e.cells.length n) (bq e.isAgg agg))) (force e K)
  (brT (Nat.ble (off + n) e.cells.length) (brB agg (fL ((e.cells.drop off).take n) fun l => K (.agg l)) (brT (Nat.beq n 1) (oK (nth e.cells off) fun v => force v K))))
theorem zF4 {e : PV} {off n : Nat} {agg : Bool} {K : PV → Prop} (h : partK e off n agg K) : ∃ v, part e off n agg = some v ∧ K v := by
 unfold partK at h;unfold part;by_cases h1 : off = 0 ∧ e.cells.length = n ∧ e.isAgg = agg
 ·have : an (Nat.beq off 0) (an (Nat.beq e.cells.length n) (bq e.isAgg agg)) = true := by simp only [zB5, zCJ, zJA]; exact h1
  rw [this] at h;rw [if_pos h1];exact ⟨e, rfl, by rw [← force_eq (v := e) (K := K)]; exact h⟩
 ·have : an (Nat.beq off 0) (an (Nat.beq e.cells.length n) (bq e.isAgg agg)) = false := by
   rw [Bool.eq_false_iff]; intro h2; simp only [zB5, zCJ, zJA] at h2; exact h1 h2
  rw [this] at h;rw [if_neg h1];obtain ⟨h2, h⟩ := zAV h;rw [zH5] at h2;rw [if_pos h2];cases agg with
  | true => exact ⟨_, rfl, by rw [← fL_eq (l := (e.cells.drop off).take n) (K := fun l => K (.agg l))]; exact h⟩
  | false =>
    obtain ⟨h3, h⟩ := zAV h;obtain ⟨v, h4, h⟩ := zA0 h;rw [zCJ] at h3;rw [zD2] at h4;refine ⟨v, by simp [h3, h4], by rw [← force_eq (v := v) (K := K)]; exact h⟩
def spliceK (e : PV) (off : Nat) (v : PV) (K : PV → Prop) : Prop :=
 brB (an (Nat.beq off 0) (an (Nat.beq e.cells.length v.cells.length) (bq e.isAgg v.isAgg))) (K v)
  (brT (an (Nat.ble (off + v.cells.length) e.cells.length) e.isAgg) (fL (e.cells.take off ++ v.cells ++ e.cells.drop (off + v.cells.length)) fun l => K (.agg l)))
theorem spliceK_elim {e : PV} {off : Nat} {v : PV} {K : PV → Prop} (h : spliceK e off v K) : ∃ e', splice e off v = some e' ∧ K e' := by
 unfold spliceK at h;unfold splice;by_cases h1 : off = 0 ∧ e.cells.length = v.cells.length ∧ e.isAgg = v.isAgg
 ·have : an (Nat.beq off 0) (an (Nat.beq e.cells.length v.cells.length) (bq e.isAgg v.isAgg)) = true := by simp only [zB5, zCJ, zJA]; exact h1
  rw [this] at h;rw [if_pos h1];exact ⟨v, rfl, h⟩
 ·have : an (Nat.beq off 0) (an (Nat.beq e.cells.length v.cells.length) (bq e.isAgg v.isAgg)) = false := by
   rw [Bool.eq_false_iff]; intro h2; simp only [zB5, zCJ, zJA] at h2; exact h1 h2
  rw [this] at h;rw [if_neg h1];obtain ⟨h2, h⟩ := zAV h;rw [zB5, zH5] at h2;rw [if_pos h2];exact ⟨_, rfl, by rw [← fL_eq (l := e.cells.take off ++ v.cells ++ e.cells.drop (off + v.cells.length)) (K := fun l => K (.agg l))]; exact h⟩
def fillFK (fs : List (Nat × Nat × Nat)) : List PV → List (Nat × PV) → (List PV → Prop) → Prop
 | cells, [], K => K cells
 | cells, (i, v) :: rest, K => oK (nth fs i) fun f =>
   brT (an v.storable (an (Nat.beq v.cells.length f.2.2) (Nat.ble (f.1 + f.2.2) cells.length))) (fL (cells.take f.1 ++ v.cells ++ cells.drop (f.1 + f.2.2)) fun cs => fillFK fs cs rest K)
theorem zH0 {fs : List (Nat × Nat × Nat)} : ∀ {parts : List (Nat × PV)} {cells : List PV} {K : List PV → Prop}, fillFK fs cells parts K → ∃ cs, fillF fs cells parts = some cs ∧ K cs
 | [], cells, K, h => ⟨cells, rfl, h⟩
 | (i, v) :: rest, cells, K, h => by
   unfold fillFK at h;obtain ⟨f, h1, h⟩ := zA0 h;obtain ⟨h2, h⟩ := zAV h;rw [fL_eq] at h;obtain ⟨cs, h3, h4⟩ := zH0 h;obtain ⟨a, b, c⟩ := f;simp only [zB5, zCJ, zH5] at h2;rw [zD2] at h1;refine ⟨cs, ?_, h4⟩;unfold fillF;rw [h1];dsimp only;rw [if_pos h2];exact h3
def fillEK (sz : Nat) (agg : Bool) : List PV → List (Nat × PV) → (List PV → Prop) → Prop
 | els, [], K => K els
 | els, (i, v) :: rest, K => brT (an v.storable (an (Nat.beq v.cells.length sz) (an (bq v.isAgg agg) (Nat.ble (i + 1) els.length)))) (fL (els.set i v) fun l => fillEK sz agg l rest K)
theorem zL0 {sz : Nat} {agg : Bool} : ∀ {parts : List (Nat × PV)} {els : List PV} {K : List PV → Prop}, fillEK sz agg els parts K → ∃ cs, fillE sz agg els parts = some cs ∧ K cs
 | [], els, K, h => ⟨els, rfl, h⟩
 | (i, v) :: rest, els, K, h => by
   unfold fillEK at h;obtain ⟨h2, h⟩ := zAV h;rw [fL_eq] at h;obtain ⟨cs, h3, h4⟩ := zL0 h;simp only [zB5, zCJ, zH5, zJA] at h2;refine ⟨cs, ?_, h4⟩;unfold fillE;rw [if_pos ⟨h2.1, h2.2.1, h2.2.2.1, h2.2.2.2⟩];exact h3
def allE (sz : Nat) (agg : Bool) : List PV → Bool
 | [] => true
 | e :: es => an (Nat.beq e.cells.length sz) (an (bq e.isAgg agg) (allE sz agg es))
theorem allE_iff {sz : Nat} {agg : Bool} : ∀ {es : List PV}, allE sz agg es = true ↔ ∀ e ∈ es, e.cells.length = sz ∧ e.isAgg = agg
 | [] => by simp [allE]
 | e :: es => by
   unfold allE;rw [zB5, zB5, zCJ, zJA, allE_iff (es := es)];simp [and_assoc]
theorem allE_map {α : Type} {sz : Nat} {agg : Bool} {f : α → PV} (h : ∀ x, (f x).cells.length = sz ∧ (f x).isAgg = agg) (l : List α) : allE sz agg (l.map f) = true :=
 allE_iff.2 fun e he => by obtain ⟨x, _, rfl⟩ := List.mem_map.1 he; exact h x
def kk (k k' : IntKind) : Bool := decide (k = k')
def shl20 (k : IntKind) (b : Int) : Int := 2 ^ (min b.toNat k.bits)
def bitF0 (op : BinOp) (k : IntKind) (x y : Int) : Int := match op with
 | .and => k.wrap (BitVec.ofInt k.bits x &&& BitVec.ofInt k.bits y).toNat
 | .or => k.wrap (BitVec.ofInt k.bits x ||| BitVec.ofInt k.bits y).toNat
 | .xor => k.wrap (BitVec.ofInt k.bits x ^^^ BitVec.ofInt k.bits y).toNat
 | .andNot => k.wrap (BitVec.ofInt k.bits x &&& ~~~BitVec.ofInt k.bits y).toNat
 | _ => 0
noncomputable def bitF : BinOp → IntKind → Int → Int → Int := Classical.choose (⟨bitF0, rfl⟩ : ∃ f, f = bitF0)
noncomputable def shl2 : IntKind → Int → Int := Classical.choose (⟨shl20, rfl⟩ : ∃ f, f = shl20)
theorem zEN : bitF = bitF0 := Classical.choose_spec (⟨bitF0, rfl⟩ : ∃ f, f = bitF0)
theorem zH9 : shl2 = shl20 := Classical.choose_spec (⟨shl20, rfl⟩ : ∃ f, f = shl20)
attribute [irreducible] bitF shl2
def binI (op : BinOp) (k k' : IntKind) (a b : Int) (K : PV → Prop) : Prop := match op with
 | .add => brT (kk k k') (ov k (a + b) fun m => K (.int k m))
 | .sub => brT (kk k k') (ov k (a - b) fun m => K (.int k m))
 | .mul => brT (kk k k') (ov k (a * b) fun m => K (.int k m))
 | .eql => brT (kk k k') (K (.bool (a == b)))
 | .neq => brT (kk k k') (K (.bool (a != b)))
 | .lss => brT (kk k k') (K (.bool (decide (a < b))))
 | .leq => brT (kk k k') (K (.bool (decide (a ≤ b))))
 | .gtr => brT (kk k k') (K (.bool (decide (a > b))))
 | .geq => brT (kk k k') (K (.bool (decide (a ≥ b))))
 | .quo => brT (kk k k') (sideD (b ≠ 0) (ov k (a.tdiv b) fun m => K (.int k m)))
 | .rem => brT (kk k k') (sideD (b ≠ 0) (K (.int k (a.tmod b))))
 | .shl => sideD (0 ≤ b) (ov k (a * shl2 k b) fun m => K (.int k m))
 | .shr => sideD (0 ≤ b) (K (.int k (a.fdiv (shl2 k b))))
 | .and | .or | .xor | .andNot => brT (kk k k') (K (.int k (bitF op k a b)))
theorem zE6 {k k' : IntKind} : kk k k' = true ↔ k = k' := by unfold kk; simp
@[reducible] def nilImm (es : List PV) (A B : Prop) : Prop := match es with
  | [] => A
  | _ :: _ => B
@[reducible] def nilOwn (len : Nat) (A B : Prop) : Prop := match len with
  | 0 => A
  | _ + 1 => B
theorem zAI {α : Type} {f : α → PV} {l : List α} {A B : Prop} (h1 : l = [] → A) (h2 : l ≠ [] → B) : nilImm (l.map f) A B := by
 cases l with
 | nil => exact h1 rfl
 | cons => exact h2 (by simp)
def binNil (xt : TypeId) (ng : Bool) (v : PV) (K : PV → Prop) : Prop := oK (T xt) fun i => brT i.isSlice (match v with
 | .nilsl => K (.bool (no ng))
 | .imm es => nilImm es (K .anyb) (K (.bool ng))
 | .own _ _ len => nilOwn len (K .anyb) (K (.bool ng))
 | _ => False)
def binV (op : BinOp) (xt : TypeId) (x y : PV) (K : PV → Prop) : Prop := match x, y with
 | .int k a, .int k' b => binI op k k' a b K
 | .bool a, .bool b => (match op with
   | .eql => oK (T xt) fun i => brT i.isBool (K (.bool (a == b)))
   | .neq => oK (T xt) fun i => brT i.isBool (K (.bool (a != b)))
   | _ => False)
 | .agg as, .agg bs => (match op with
   | .eql => oK (T xt) fun i => brT (an i.eqInts (an (Nat.beq as.length i.fields.length) (Nat.beq bs.length i.fields.length))) (oK (eqCells as bs) fun r => K (.bool r))
   | .neq => oK (T xt) fun i => brT (an i.eqInts (an (Nat.beq as.length i.fields.length) (Nat.beq bs.length i.fields.length))) (oK (eqCells as bs) fun r => K (.bool (!r)))
   | _ => False)
 | .nilsl, .nilsl => (match op with
   | .eql => binNil T xt false .nilsl K
   | .neq => binNil T xt true .nilsl K
   | _ => False)
 | .imm es, .nilsl => (match op with
   | .eql => binNil T xt false (.imm es) K
   | .neq => binNil T xt true (.imm es) K
   | _ => False)
 | .own r off len, .nilsl => (match op with
   | .eql => binNil T xt false (.own r off len) K
   | .neq => binNil T xt true (.own r off len) K
   | _ => False)
 | _, _ => False
def optI (t : Tm) (o : Option Operand) (d : Int) (K : Int → Prop) : Prop := match o with
 | none => K d
 | some o => (match ev G t o with
   | .int _ n => K n
   | _ => False)
def srcK (h : Hp) (v : PV) (K : List PV → List Nat → Prop) : Prop := match v with
 | .imm es => K es []
 | .nilsl => K [] []
 | .own r off len => oK (h r) fun b => sideD (off + len ≤ b.els.length) (K ((b.els.drop off).take len) [r])
 | _ => False
def vOp (z : Fz) (key : Nat) (op : Op) (t : Tm) (h : Hp) (K : KK) : Prop :=
 match op with
 | .move x | .assign x => force (ev G t x) fun v => K v h [] []
 | .pick c a b => (match ev G t c with
   | .bool v => brB v (force (ev G t a) fun v => K v h [] []) (force (ev G t b) fun v => K v h [] [])
   | _ => False)
 | .alloc e => oK (T e) fun i => brT i.zok (K (.ptr key 0 0) (hs h key (some ⟨[i.zero], i.zero.cells.length, i.zero.isAgg⟩)) [] [key])
 | .box _ x => force (ev G t x) fun v => brT v.storable (K (.ptr key 0 0) (hs h key (some ⟨[v], v.cells.length, v.isAgg⟩)) [] [key])
 | .build ty parts => oK (T ty) fun i => (match i.alen with
   | 0 => brT (an i.zok i.isStruct) (evp G t parts.toList fun ps => fillFK i.fields i.zero.cells ps fun cs => K (.agg cs) h [] [])
   | n + 1 => oK (T i.elem) fun e => brT (an i.zok (nz e.size)) (evp G t parts.toList fun ps => fillFK ((List.range (n + 1)).map fun j => (j * e.size, i.elem, e.size)) i.zero.cells ps fun cs => K (.agg cs) h [] []))
 | .buildSlice ty len parts => oK (T ty) fun i => oK (T i.elem) fun e =>
   brT (an (Nat.ble (len * e.size) (2 ^ 24)) (an e.zok (an i.isSlice (an (Nat.beq e.zero.cells.length e.size) (an (bq e.zero.isAgg e.agg) (nz e.size))))))
    (evp G t parts.toList fun ps => fillEK e.size e.agg (List.replicate len e.zero) ps fun els => K (.own key 0 len) (hs h key (some ⟨els, e.size, e.agg⟩)) [] [key])
 | .load ty x => oK (T ty) fun i => (match ev G t x with
   | .ptr r j off => oK (h r) fun b => oK (nth b.els j) fun e => partK e off i.size i.agg fun v => K v h [r] []
   | .cptr e off => partK e off i.size i.agg fun v => K v h [] []
   | _ => False)
 | .store ty x y => force (ev G t y) fun v => oK (T ty) fun i => (match ev G t x with
   | .ptr r j off => oK (h r) fun b => oK (nth b.els j) fun e => brT (an (no (z r)) (an v.storable (an (Nat.beq v.cells.length i.size) (nz i.size)))) <|
    spliceK e off v fun e' => K (.tup []) (hs h r (some { b with els := b.els.set j e' })) [r] [r]
   | _ => False)
 | .nilCheck x => (match ev G t x with
   | .ptr r i off => K (.ptr r i off) h [] []
   | .cptr e off => K (.cptr e off) h [] []
   | _ => False)
 | .binOp op xt x y _ => binV T op xt (ev G t x) (ev G t y) fun v => K v h [] []
 | .unOp op _ x => (match op, ev G t x with
   | .not, .bool b => K (.bool (!b)) h [] []
   | .neg, .int k n => ov k (0 - n) fun m => K (.int k m) h [] []
   | _, _ => False)
 | .convert src dst x => oK (T src) fun i => oK (T dst) fun j => (match i.kind, j.kind, ev G t x with
   | some _, some k, .int _ n => ov k n fun m => K (.int k m) h [] []
   | _, _, _ => False)
 | .makeFunc fn first captured => evs G t first.toList fun f => evs G t captured.toList fun c => K (.func fn f c) h [] []
 | .makeSlice ty l c => oK (T ty) fun i => oK (T i.elem) fun e => (match ev G t l, ev G t c with
   | .int .i64 n, .int .i64 m => brT (an (Nat.ble e.bytes 4096) (an e.zok (an i.isSlice (an (Nat.beq e.zero.cells.length e.size) (an (bq e.zero.isAgg e.agg) (nz e.size)))))) <| sideD (n = m ∧ 0 ≤ n ∧ n ≤ 2 ^ 32) (K (.own key 0 n.toNat) (hs h key (some ⟨List.replicate n.toNat e.zero, e.size, e.agg⟩)) [] [key])
   | _, _ => False)
 | .slice ty x lo hi none => oK (T ty) fun i => oK (T i.elem) fun e => (match ev G t x with
   | .imm es => optI G t lo 0 fun a => optI G t hi es.length fun b => brT (an i.isSlice (nz e.size)) (sideP (∀ e' ∈ es, e'.cells.length = e.size) (sideD (0 ≤ a ∧ a ≤ b ∧ b ≤ es.length) (slK es a b fun l => K (.imm l) h [] [])))
   | .own r off len => optI G t lo 0 fun a => optI G t hi len fun b => oK (h r) fun k => brT (an i.isSlice (an (Nat.beq k.sz e.size) (nz e.size))) (sideD (0 ≤ a ∧ a ≤ b ∧ b ≤ len) (K (.own r (off + a.toNat) (b.toNat - a.toNat)) h [r] []))
   | _ => False)
 | .fieldAddr s x f => oK (T s) fun i => oK (nth i.fields f) fun q => (match ev G t x with
   | .ptr r j off => brT (nz q.2.2) (K (.ptr r j (off + q.1)) h [] [])
   | .cptr e off => brT (nz q.2.2) (K (.cptr e (off + q.1)) h [] [])
   | _ => False)
 | .field s x f => oK (T s) fun i => oK (nth i.fields f) fun q => oK (T q.2.1) fun u => (match ev G t x with
   | .agg cs => partK (.agg cs) q.1 u.size u.agg fun v => K v h [] []
   | _ => False)
 | .indexAddr ty x ix => oK (T ty) fun i => oK (T i.elem) fun e => (match ev G t x, ev G t ix with
   | .imm es, .int _ n => brT (an i.isSlice (nz e.size)) (sideD (0 ≤ n ∧ n < es.length) (oK (nth es n.toNat) fun d => brT (Nat.beq d.cells.length e.size) (force d fun d => K (.cptr d 0) h [] [])))
   | .own r off len, .int _ n => brT (an i.isSlice (nz e.size)) (sideD (0 ≤ n ∧ n < len) (oK (h r) fun b => brT (Nat.beq b.sz e.size) (K (.ptr r (off + n.toNat) 0) h [r] [])))
   | .cptr d off, .int _ n => brT (an (nz i.alen) (nz e.size)) (sideD (0 ≤ n ∧ n < i.alen) (K (.cptr d (off + n.toNat * e.size)) h [] []))
   | .ptr r j off, .int _ n => brT (an (nz i.alen) (nz e.size)) (sideD (0 ≤ n ∧ n < i.alen) (K (.ptr r j (off + n.toNat * e.size)) h [] []))
   | _, _ => False)
 | .index ty x ix => oK (T ty) fun i => (match ev G t x, ev G t ix with
   | .agg cs, .int _ n => oK (T i.elem) fun e => brT (an (nz i.alen) (nz e.size)) (sideD (0 ≤ n ∧ n < i.alen) (partK (.agg cs) (n.toNat * e.size) e.size e.agg fun v => K v h [] []))
   | .str s, .int _ n => brT i.isStr (sideD (0 ≤ n) (oK (s[n.toNat]?) fun b => K (.int .u8 b.toNat) h [] []))
   | _, _ => False)
 | .extract x i => (match ev G t x with
   | .tup vs => oK (nth vs i) fun v => force v fun v => K v h [] []
   | _ => False)
 | .call { callee := .builtin .len, args := ⟨[x]⟩, argTypes := ⟨[ty]⟩ } => oK (T ty) fun i => brT i.isSlice (match ev G t x with
   | .imm es => K (.int .i64 es.length) h [] []
   | .own _ _ len => K (.int .i64 len) h [] []
   | .nilsl => K (.int .i64 0) h [] []
   | _ => False)
 | .call { callee := .builtin .max, args := ⟨[x, y]⟩, argTypes := _ } => (match ev G t x, ev G t y with
   | .int k a, .int _ b => K (.int k (if b > a then b else a)) h [] []
   | _, _ => False)
 | .call { callee := .builtin .min, args := ⟨[x, y]⟩, argTypes := _ } => (match ev G t x, ev G t y with
   | .int k a, .int _ b => K (.int k (if b < a then b else a)) h [] []
   | _, _ => False)
 | .call { callee := .builtin .append, args := ⟨[x, y]⟩, argTypes := ⟨[ty, ty2]⟩ } => oK (T ty) fun i => oK (T ty2) fun i2 => oK (T i.elem) fun e =>
   srcK h (ev G t y) fun es ks => brT (an (allE e.size e.agg es) (an (Nat.ble e.bytes 4096) (an e.zok (an i.isSlice (an i2.isSlice (an (Nat.beq e.zero.cells.length e.size) (nz e.size))))))) (match ev G t x with
    | .nilsl => sideD (es.length ≤ 2 ^ 32) (K (.own key 0 es.length) (hs h key (some ⟨es, e.size, e.agg⟩)) ks [key])
    | .own r off len => oK (h r) fun b => brT (an (Nat.beq b.sz e.size) (an (bq b.agg e.agg) (an (no (z r)) (no (memN ks r))))) (sideD (off = 0 ∧ len = b.els.length ∧ len + es.length ≤ 2 ^ 32)
     (K (.own key 0 (len + es.length)) (hs (hs h r none) key (some ⟨b.els ++ es, e.size, e.agg⟩)) (r :: ks) [r, key]))
    | _ => False)
 | _ => False
end
end Go.PI
namespace Go.PI
section
variable {P : Program} {T : Ti} {G : Gl}
theorem zAS {c : Prop} [Decidable c] {x : Res} {r : PV × Hp × List Nat × List Nat} (hc : c) (hx : x = some r) : need c x = some r := by unfold need; rw [if_pos hc]; exact hx
theorem zDU (hT : ∀ i x, T i = some x → tinfo P i = x) {xt : TypeId} {ng : Bool} {v : PV} {K : PV → Prop} (h : binNil T xt ng v K) :
 (tinfo P xt).isSlice = true ∧ ∃ r, isNil v = some r ∧ K (if ng then notB r else r) := by
 unfold binNil at h;obtain ⟨i, h1, h⟩ := zA0 h;obtain ⟨h2, h⟩ := zAV h;rw [hT _ _ h1];refine ⟨h2, ?_⟩;cases v with
 | nilsl => exact ⟨_, rfl, by cases ng <;> exact h⟩
 | imm es =>
   cases es with
   | nil => exact ⟨_, rfl, by cases ng <;> exact h⟩
   | cons => exact ⟨_, rfl, by cases ng <;> exact h⟩
 | own r off len =>
   cases len with
   | zero => exact ⟨.anyb, by simp [isNil], by cases ng <;> exact h⟩
   | succ n => exact ⟨.bool false, by simp [isNil], by cases ng <;> exact h⟩
 | _ => exact h.elim
theorem binV_elim (hT : ∀ i x, T i = some x → tinfo P i = x) {op : BinOp} {xt yt : TypeId} {x y : Operand} {z : Fz} {key : Nat} {t : Tm} {h : Hp} {K : PV → Prop} (hv : binV T op xt (ev G t x) (ev G t y) K) :
 ∃ v, evalOp P G z key (.binOp op xt x y yt) t h = some (v, h, [], []) ∧ K v := by
 unfold binV at hv;simp only [evalOp]
 split at hv
 ·rename_i k a k' b e1 e2
  rw [e1, e2];dsimp only;cases op with
  | add => obtain ⟨h1, hv⟩ := zAV hv; rw [zE6] at h1; rw [if_pos h1]; exact ⟨_, rfl, zHY hv⟩
  | sub => obtain ⟨h1, hv⟩ := zAV hv; rw [zE6] at h1; rw [if_pos h1]; exact ⟨_, rfl, zHY hv⟩
  | mul => obtain ⟨h1, hv⟩ := zAV hv; rw [zE6] at h1; rw [if_pos h1]; exact ⟨_, rfl, zHY hv⟩
  | quo => obtain ⟨h1, hv⟩ := zAV hv; rw [zE6] at h1; rw [if_pos h1]; obtain ⟨h2, hv⟩ := zBJ hv; exact ⟨_, zAS h2 rfl, zHY hv⟩
  | rem => obtain ⟨h1, hv⟩ := zAV hv; rw [zE6] at h1; rw [if_pos h1]; obtain ⟨h2, hv⟩ := zBJ hv; exact ⟨_, zAS h2 rfl, hv⟩
  | and => obtain ⟨h1, hv⟩ := zAV hv; rw [zE6] at h1; rw [if_pos h1]; rw [zEN] at hv; unfold bitF0 at hv; exact ⟨_, rfl, hv⟩
  | or => obtain ⟨h1, hv⟩ := zAV hv; rw [zE6] at h1; rw [if_pos h1]; rw [zEN] at hv; unfold bitF0 at hv; exact ⟨_, rfl, hv⟩
  | xor => obtain ⟨h1, hv⟩ := zAV hv; rw [zE6] at h1; rw [if_pos h1]; rw [zEN] at hv; unfold bitF0 at hv; exact ⟨_, rfl, hv⟩
  | andNot => obtain ⟨h1, hv⟩ := zAV hv; rw [zE6] at h1; rw [if_pos h1]; rw [zEN] at hv; unfold bitF0 at hv; exact ⟨_, rfl, hv⟩
  | shl =>
    obtain ⟨h2, hv⟩ := zBJ hv;have hv := zHY hv;rw [zH9] at hv; unfold shl20 at hv;by_cases e : k = k'
    ·rw [if_pos e]; exact ⟨_, zAS h2 rfl, hv⟩
    ·rw [if_neg e]; exact ⟨_, zAS h2 rfl, hv⟩
  | shr =>
    obtain ⟨h2, hv⟩ := zBJ hv;rw [zH9] at hv; unfold shl20 at hv;by_cases e : k = k'
    ·rw [if_pos e]; exact ⟨_, zAS h2 rfl, hv⟩
    ·rw [if_neg e]; exact ⟨_, zAS h2 rfl, hv⟩
  | eql => obtain ⟨h1, hv⟩ := zAV hv; rw [zE6] at h1; rw [if_pos h1]; exact ⟨_, rfl, hv⟩
  | neq => obtain ⟨h1, hv⟩ := zAV hv; rw [zE6] at h1; rw [if_pos h1]; exact ⟨_, rfl, hv⟩
  | lss => obtain ⟨h1, hv⟩ := zAV hv; rw [zE6] at h1; rw [if_pos h1]; exact ⟨_, rfl, hv⟩
  | leq => obtain ⟨h1, hv⟩ := zAV hv; rw [zE6] at h1; rw [if_pos h1]; exact ⟨_, rfl, hv⟩
  | gtr => obtain ⟨h1, hv⟩ := zAV hv; rw [zE6] at h1; rw [if_pos h1]; exact ⟨_, rfl, hv⟩
  | geq => obtain ⟨h1, hv⟩ := zAV hv; rw [zE6] at h1; rw [if_pos h1]; exact ⟨_, rfl, hv⟩
 ·rename_i a b e1 e2
  rw [e1, e2];cases op with
  | eql => obtain ⟨i, h1, hv⟩ := zA0 hv; obtain ⟨h2, hv⟩ := zAV hv; exact ⟨_, zAS (by rw [hT _ _ h1]; exact h2) rfl, hv⟩
  | neq => obtain ⟨i, h1, hv⟩ := zA0 hv; obtain ⟨h2, hv⟩ := zAV hv; exact ⟨_, zAS (by rw [hT _ _ h1]; exact h2) rfl, hv⟩
  | _ => exact hv.elim
 ·rename_i as bs e1 e2
  rw [e1, e2];cases op with
  | eql =>
    obtain ⟨i, h1, hv⟩ := zA0 hv; obtain ⟨h2, hv⟩ := zAV hv; obtain ⟨r, h3, hv⟩ := zA0 hv;simp only [zB5, zCJ] at h2;exact ⟨_, zAS (by rw [hT _ _ h1]; exact h2) (by rw [h3]; rfl), hv⟩
  | neq =>
    obtain ⟨i, h1, hv⟩ := zA0 hv; obtain ⟨h2, hv⟩ := zAV hv; obtain ⟨r, h3, hv⟩ := zA0 hv;simp only [zB5, zCJ] at h2;exact ⟨_, zAS (by rw [hT _ _ h1]; exact h2) (by rw [h3]; rfl), hv⟩
  | _ => exact hv.elim
 ·rename_i e1 e2
  rw [e1, e2];cases op with
  | eql => obtain ⟨h1, r, h2, h3⟩ := zDU hT hv; exact ⟨_, zAS h1 (by rw [h2]; rfl), h3⟩
  | neq => obtain ⟨h1, r, h2, h3⟩ := zDU hT hv; exact ⟨_, zAS h1 (by rw [h2]; rfl), h3⟩
  | _ => exact hv.elim
 ·rename_i es e1 e2
  rw [e1, e2];cases op with
  | eql => obtain ⟨h1, r, h2, h3⟩ := zDU hT hv; exact ⟨_, zAS h1 (by rw [h2]; rfl), h3⟩
  | neq => obtain ⟨h1, r, h2, h3⟩ := zDU hT hv; exact ⟨_, zAS h1 (by rw [h2]; rfl), h3⟩
  | _ => exact hv.elim
 ·rename_i r0 off len e1 e2
  rw [e1, e2];cases op with
  | eql => obtain ⟨h1, r, h2, h3⟩ := zDU hT hv; exact ⟨_, zAS h1 (by rw [h2]; rfl), h3⟩
  | neq => obtain ⟨h1, r, h2, h3⟩ := zDU hT hv; exact ⟨_, zAS h1 (by rw [h2]; rfl), h3⟩
  | _ => exact hv.elim
 ·exact hv.elim
theorem zIK {t : Tm} {o : Option Operand} {d : Int} {K : Int → Prop} (h : optI G t o d K) : ∃ n, ((o = none ∧ n = d) ∨ ∃ x k, o = some x ∧ ev G t x = .int k n) ∧ K n := by
 unfold optI at h;cases o with
 | none => exact ⟨d, Or.inl ⟨rfl, rfl⟩, h⟩
 | some o =>
   dsimp only at h
   split at h
   ·rename_i k n e; exact ⟨n, Or.inr ⟨o, k, rfl, e⟩, h⟩
   ·exact h.elim
theorem srcK_elim {h : Hp} {v : PV} {K : List PV → List Nat → Prop} (hv : srcK h v K) : ∃ es ks, srcOf h v = some (es, ks) ∧ K es ks := by
 unfold srcK at hv
 split at hv
 ·exact ⟨_, _, rfl, hv⟩
 ·exact ⟨_, _, rfl, hv⟩
 ·obtain ⟨b, h1, hv⟩ := zA0 hv
  obtain ⟨h2, hv⟩ := zBJ hv;exact ⟨_, _, by simp [srcOf, h1, h2], hv⟩
 ·exact hv.elim
theorem vOp_sound (hT : ∀ i x, T i = some x → tinfo P i = x) {z : Fz} {key : Nat} {op : Op} {t : Tm} {h : Hp} {K : KK} (hv : vOp T G z key op t h K) :
 ∃ v h' rd wr, evalOp P G z key op t h = some (v, h', rd, wr) ∧ K v h' rd wr := by
 unfold vOp at hv
 split at hv
 ·rw [force_eq] at hv; exact ⟨_, _, _, _, rfl, hv⟩
 ·rw [force_eq] at hv; exact ⟨_, _, _, _, rfl, hv⟩
 ·split at hv
  ·rename_i v e
   simp only [evalOp, e];rw [force_eq, force_eq] at hv;cases v with
   | true => exact ⟨_, _, _, _, rfl, hv⟩
   | false => exact ⟨_, _, _, _, rfl, hv⟩
  ·exact hv.elim
 ·obtain ⟨i, h1, hv⟩ := zA0 hv; obtain ⟨h2, hv⟩ := zAV hv
  rw [zGJ] at hv;have h1 := hT _ _ h1;subst h1;exact ⟨_, _, _, _, zAS h2 rfl, hv⟩
 ·rw [force_eq] at hv
  obtain ⟨h2, hv⟩ := zAV hv;rw [zGJ] at hv;exact ⟨_, _, _, _, zAS h2 rfl, hv⟩
 ·obtain ⟨i, h1, hv⟩ := zA0 hv
  have h1 := hT _ _ h1;subst h1;simp only [evalOp]
  split at hv
  ·rename_i ha
   obtain ⟨h2, hv⟩ := zAV hv;rw [evp_eq] at hv;obtain ⟨cs, h3, hv⟩ := zH0 hv;rw [zB5] at h2;rw [ha];exact ⟨_, _, _, _, zAS h2 (by rw [h3]), hv⟩
  ·rename_i n ha
   obtain ⟨e, h1, hv⟩ := zA0 hv;have h1 := hT _ _ h1;subst h1;obtain ⟨h2, hv⟩ := zAV hv;rw [evp_eq] at hv;obtain ⟨cs, h3, hv⟩ := zH0 hv;rw [zB5, zFI] at h2;rw [ha];exact ⟨_, _, _, _, zAS h2 (by rw [h3]), hv⟩
 ·obtain ⟨i, h1, hv⟩ := zA0 hv
  have h1 := hT _ _ h1;subst h1;obtain ⟨e, h1, hv⟩ := zA0 hv;have h1 := hT _ _ h1;subst h1;obtain ⟨h2, hv⟩ := zAV hv;rw [evp_eq] at hv;obtain ⟨cs, h3, hv⟩ := zL0 hv;simp only [zB5, zCJ, zH5, zJA, zFI] at h2;rw [zGJ] at hv;exact ⟨_, _, _, _, zAS h2 (by rw [h3]), hv⟩
 ·obtain ⟨i, h1, hv⟩ := zA0 hv
  have h1 := hT _ _ h1;subst h1
  split at hv
  ·rename_i r j off e
   obtain ⟨b, h1, hv⟩ := zA0 hv;obtain ⟨d, h2, hv⟩ := zA0 hv;obtain ⟨v, h3, hv⟩ := zF4 hv;rw [zD2] at h2;exact ⟨_, _, _, _, by simp only [evalOp, e, h1, h2, h3, Option.map_some], hv⟩
  ·rename_i d off e
   obtain ⟨v, h3, hv⟩ := zF4 hv;exact ⟨_, _, _, _, by simp only [evalOp, e, h3, Option.map_some], hv⟩
  ·exact hv.elim
 ·rw [force_eq] at hv
  obtain ⟨i, h1, hv⟩ := zA0 hv;have h1 := hT _ _ h1;subst h1
  split at hv
  ·rename_i r j off e
   obtain ⟨b, h1, hv⟩ := zA0 hv;obtain ⟨d, h2, hv⟩ := zA0 hv;obtain ⟨h3, hv⟩ := zAV hv;obtain ⟨e', h4, hv⟩ := spliceK_elim hv;rw [zD2] at h2;simp only [zB5, zCJ, no_iff, zFI] at h3;rw [zGJ] at hv;exact ⟨_, _, _, _, by simp only [evalOp, e, h1, h2]; exact zAS h3 (by rw [h4]; rfl), hv⟩
  ·exact hv.elim
 ·split at hv
  ·rename_i e; exact ⟨_, _, _, _, by simp only [evalOp, e], hv⟩
  ·rename_i e; exact ⟨_, _, _, _, by simp only [evalOp, e], hv⟩
  ·exact hv.elim
 ·obtain ⟨v, h1, hv⟩ := binV_elim hT (z := z) (key := key) (h := h) hv
  exact ⟨_, _, _, _, h1, hv⟩
 ·split at hv
  ·rename_i e; exact ⟨_, _, _, _, by simp only [evalOp, e], hv⟩
  ·rename_i e; exact ⟨_, _, _, _, by simp only [evalOp, e], zHY hv⟩
  ·exact hv.elim
 ·obtain ⟨i, h1, hv⟩ := zA0 hv
  have h1 := hT _ _ h1;subst h1;obtain ⟨j, h1, hv⟩ := zA0 hv;have h1 := hT _ _ h1;subst h1
  split at hv
  ·rename_i e1 e2 e3; exact ⟨_, _, _, _, by simp only [evalOp, e1, e2, e3], zHY hv⟩
  ·exact hv.elim
 ·rw [evs_eq, evs_eq] at hv; exact ⟨_, _, _, _, rfl, hv⟩
 ·obtain ⟨i, h1, hv⟩ := zA0 hv
  have h1 := hT _ _ h1;subst h1;obtain ⟨j, h1, hv⟩ := zA0 hv;have h1 := hT _ _ h1;subst h1
  split at hv
  ·rename_i n m e1 e2
   obtain ⟨h2, hv⟩ := zAV hv;obtain ⟨h3, hv⟩ := zBJ hv;simp only [zB5, zCJ, zH5, zJA, zFI] at h2;rw [zGJ] at hv;obtain ⟨g1, g2, g3, g4, g5, g6⟩ := h2;obtain ⟨k1, k2, k3⟩ := h3;exact ⟨_, _, _, _, by simp only [evalOp, e1, e2]; exact zAS ⟨k1, k2, k3, g1, g2, g3, g4, g5, g6⟩ rfl, hv⟩
  ·exact hv.elim
 ·obtain ⟨i, h1, hv⟩ := zA0 hv
  have h1 := hT _ _ h1;subst h1;obtain ⟨j, h1, hv⟩ := zA0 hv;have h1 := hT _ _ h1;subst h1
  split at hv
  ·rename_i es e
   obtain ⟨a, h1, hv⟩ := zIK hv;obtain ⟨b, h2, hv⟩ := zIK hv;obtain ⟨h3, hv⟩ := zAV hv;obtain ⟨h4, hv⟩ := sideP_elim hv;obtain ⟨h5, hv⟩ := zBJ hv;have hv := slK_elim hv;simp only [zB5, zFI] at h3;refine ⟨_, _, _, _, ?_, hv⟩;rcases h1 with ⟨rfl, rfl⟩ | ⟨x1, k1, rfl, e1⟩ <;> rcases h2 with ⟨rfl, rfl⟩ | ⟨x2, k2, rfl, e2⟩ <;> (first | simp only [evalOp, e, e1, e2] | simp only [evalOp, e, e1] | simp only [evalOp, e, e2] | simp only [evalOp, e]) <;> exact zAS ⟨h3.1, h4, h5.1, h5.2.1, h5.2.2, h3.2⟩ rfl
  ·rename_i r off len e
   obtain ⟨a, h1, hv⟩ := zIK hv;obtain ⟨b, h2, hv⟩ := zIK hv;obtain ⟨k, h6, hv⟩ := zA0 hv;obtain ⟨h3, hv⟩ := zAV hv;obtain ⟨h5, hv⟩ := zBJ hv;simp only [zB5, zFI, zCJ] at h3;refine ⟨_, _, _, _, ?_, hv⟩;rcases h1 with ⟨rfl, rfl⟩ | ⟨x1, k1, rfl, e1⟩ <;> rcases h2 with ⟨rfl, rfl⟩ | ⟨x2, k2, rfl, e2⟩ <;> (first | simp only [evalOp, e, e1, e2, h6] | simp only [evalOp, e, e1, h6] | simp only [evalOp, e, e2, h6] | simp only [evalOp, e, h6]) <;> exact zAS ⟨h3.1, h3.2.1, h5.1, h5.2.1, h5.2.2, h3.2.2⟩ rfl
  ·exact hv.elim
 ·obtain ⟨i, h1, hv⟩ := zA0 hv
  have h1 := hT _ _ h1;subst h1;obtain ⟨q, h1, hv⟩ := zA0 hv;rw [zD2] at h1
  split at hv
  ·rename_i e; obtain ⟨h2, hv⟩ := zAV hv; rw [zFI] at h2; exact ⟨_, _, _, _, by simp only [evalOp, e, h1]; exact zAS h2 rfl, hv⟩
  ·rename_i e; obtain ⟨h2, hv⟩ := zAV hv; rw [zFI] at h2; exact ⟨_, _, _, _, by simp only [evalOp, e, h1]; exact zAS h2 rfl, hv⟩
  ·exact hv.elim
 ·obtain ⟨i, h1, hv⟩ := zA0 hv
  have h1 := hT _ _ h1;subst h1;obtain ⟨q, h1, hv⟩ := zA0 hv;rw [zD2] at h1;obtain ⟨u, h2, hv⟩ := zA0 hv;have h2 := hT _ _ h2;subst h2
  split at hv
  ·rename_i e
   obtain ⟨v, h3, hv⟩ := zF4 hv;exact ⟨_, _, _, _, by simp only [evalOp, e, h1, h3, Option.map_some], hv⟩
  ·exact hv.elim
 ·obtain ⟨i, h1, hv⟩ := zA0 hv
  have h1 := hT _ _ h1;subst h1;obtain ⟨j, h1, hv⟩ := zA0 hv;have h1 := hT _ _ h1;subst h1
  split at hv
  ·rename_i es k n e1 e2
   obtain ⟨h2, hv⟩ := zAV hv;obtain ⟨h3, hv⟩ := zBJ hv;obtain ⟨d, h4, hv⟩ := zA0 hv;obtain ⟨h5, hv⟩ := zAV hv;rw [force_eq] at hv;rw [zD2] at h4;simp only [zB5, zCJ, zFI] at h2 h5;exact ⟨_, _, _, _, by simp only [evalOp, e1, e2]; exact zAS ⟨h2.1, h3⟩ (by rw [h4]; exact zAS ⟨h5, h2.2⟩ rfl), hv⟩
  ·rename_i r off len k n e1 e2
   obtain ⟨h2, hv⟩ := zAV hv;obtain ⟨h3, hv⟩ := zBJ hv;obtain ⟨d, h4, hv⟩ := zA0 hv;obtain ⟨h5, hv⟩ := zAV hv;simp only [zB5, zCJ, zFI] at h2 h5;exact ⟨_, _, _, _, by simp only [evalOp, e1, e2]; exact zAS ⟨h2.1, h3⟩ (by rw [h4]; exact zAS ⟨h5, h2.2⟩ rfl), hv⟩
  ·rename_i d off k n e1 e2
   obtain ⟨h2, hv⟩ := zAV hv;obtain ⟨h3, hv⟩ := zBJ hv;simp only [zB5, zFI] at h2;exact ⟨_, _, _, _, by simp only [evalOp, e1, e2]; exact zAS ⟨h2.1, h3.1, h3.2, h2.2⟩ rfl, hv⟩
  ·rename_i r j off k n e1 e2
   obtain ⟨h2, hv⟩ := zAV hv;obtain ⟨h3, hv⟩ := zBJ hv;simp only [zB5, zFI] at h2;exact ⟨_, _, _, _, by simp only [evalOp, e1, e2]; exact zAS ⟨h2.1, h3.1, h3.2, h2.2⟩ rfl, hv⟩
  ·exact hv.elim
 ·obtain ⟨i, h1, hv⟩ := zA0 hv
  have h1 := hT _ _ h1;subst h1
  split at hv
  ·rename_i cs k n e1 e2
   obtain ⟨j, h1, hv⟩ := zA0 hv;have h1 := hT _ _ h1;subst h1;obtain ⟨h2, hv⟩ := zAV hv;obtain ⟨h3, hv⟩ := zBJ hv;obtain ⟨v, h4, hv⟩ := zF4 hv;simp only [zB5, zFI] at h2;exact ⟨_, _, _, _, by simp only [evalOp, e1, e2]; exact zAS ⟨h2.1, h3.1, h3.2, h2.2⟩ (by rw [h4]; rfl), hv⟩
  ·rename_i s k n e1 e2
   obtain ⟨h2, hv⟩ := zAV hv;obtain ⟨h3, hv⟩ := zBJ hv;obtain ⟨b, h4, hv⟩ := zA0 hv;exact ⟨_, _, _, _, by simp only [evalOp, e1, e2]; exact zAS ⟨h2, h3⟩ (by rw [h4]; rfl), hv⟩
  ·exact hv.elim
 ·split at hv
  ·rename_i vs e
   obtain ⟨v, h1, hv⟩ := zA0 hv;rw [force_eq] at hv;rw [zD2] at h1;exact ⟨_, _, _, _, by simp only [evalOp, e, h1, Option.map_some], hv⟩
  ·exact hv.elim
 ·obtain ⟨i, h1, hv⟩ := zA0 hv
  have h1 := hT _ _ h1;subst h1;obtain ⟨h2, hv⟩ := zAV hv
  split at hv
  ·rename_i e; exact ⟨_, _, _, _, by simp only [evalOp, e]; exact zAS h2 rfl, hv⟩
  ·rename_i e; exact ⟨_, _, _, _, by simp only [evalOp, e]; exact zAS h2 rfl, hv⟩
  ·rename_i e; exact ⟨_, _, _, _, by simp only [evalOp, e]; exact zAS h2 rfl, hv⟩
  ·exact hv.elim
 ·split at hv
  ·rename_i e1 e2; exact ⟨_, _, _, _, by simp only [evalOp, e1, e2], hv⟩
  ·exact hv.elim
 ·split at hv
  ·rename_i e1 e2; exact ⟨_, _, _, _, by simp only [evalOp, e1, e2], hv⟩
  ·exact hv.elim
 ·obtain ⟨i, h1, hv⟩ := zA0 hv
  have h1 := hT _ _ h1;subst h1;obtain ⟨i2, h1, hv⟩ := zA0 hv;have h1 := hT _ _ h1;subst h1;obtain ⟨e, h1, hv⟩ := zA0 hv;have h1 := hT _ _ h1;subst h1;obtain ⟨es, ks, h2, hv⟩ := srcK_elim hv;obtain ⟨h3, hv⟩ := zAV hv;simp only [zB5, zCJ, zH5, zFI, allE_iff] at h3
  split at hv
  ·rename_i e1
   obtain ⟨h4, hv⟩ := zBJ hv;rw [zGJ] at hv;exact ⟨_, _, _, _, by simp only [evalOp, h2, e1]; exact zAS h3 (zAS h4 rfl), hv⟩
  ·rename_i r off len e1
   obtain ⟨b, h4, hv⟩ := zA0 hv;obtain ⟨h5, hv⟩ := zAV hv;obtain ⟨h6, hv⟩ := zBJ hv;simp only [zB5, zCJ, zJA, no_iff, zJR] at h5;rw [zGJ, zGJ] at hv;exact ⟨_, _, _, _, by simp only [evalOp, h2, e1, h4]; exact zAS h3 (zAS ⟨h6.1, h6.2.1, h5.1, h5.2.1, h5.2.2.1, h5.2.2.2, h6.2.2⟩ rfl), hv⟩
  ·exact hv.elim
 ·exact hv.elim
end
end Go.PI
namespace Go.PI
def subS (s : St) (d : Nat) (b : Bool) : St := match s with
 | ⟨t, h, z, nx⟩ => ⟨ts t d (.bool b), h, z, nx⟩
theorem subS_eq {s : St} {d : Nat} {b : Bool} (h : s.t d = .bool b) : subS s d b = s := by
 obtain ⟨t, hh, z, nx⟩ := s;unfold subS;dsimp only at h ⊢;rw [ts_eq]
 congr 1
 funext j
 unfold tset
 split
 ·rename_i e; rw [e]; exact h.symm
 ·rfl
inductive Next (p : Prop) : Prop
 | mk (h : p) : Next p
theorem Next.out {p : Prop} (h : Next p) : p := by cases h; assumption
def callV (C : Contracts) (I : Inline) (D : Bool) (f : FuncId) (args : List PV) (d : Option Nat) (K : FP → St → Prop) (s : St) : Prop := callWp C I D f args d K s
def yieldV (C : Contracts) (l : Nat) (args : List PV) (d : Option Nat) (K : FP → St → Prop) (s : St) : Prop := yieldWp C l args d K s
def touch (a b : FP) : Bool := FP.apart a b
def rch (os : List Oper) (k : Nat) : Nat → List Edge → Bool
 | 0, _ => false
 | f + 1, after => match after.any (fun e => an (Nat.beq e.on k) (Region.binds .any e)) with
   | true => true
   | false => after.any fun e => an (Region.binds .any e) (match nth os e.on with
     | some o' => rch os k f o'.after.toList
     | none => false)
theorem rch_iff {os : List Oper} {k : Nat} : ∀ (f : Nat) (o : Oper), rch os k f o.after.toList = reachB os f o k
 | 0, _ => rfl
 | f + 1, o => by
   have e : (o.after.toList.any fun e => an (Nat.beq e.on k) (Region.binds .any e)) = o.after.any (fun e => e.on == k && Region.binds .any e) := by
    rw [← Array.any_toList]
    congr 1
    funext e
    rw [zFV, Bool.eq_iff_iff, zB5]
    simp
   have e2 : (o.after.toList.any fun e => an (Region.binds .any e) (match nth os e.on with
    | some o' => rch os k f o'.after.toList
    | none => false)) = o.after.any fun e => Region.binds .any e && (match os[e.on]? with
    | some o' => reachB os f o' k
    | none => false) := by
    rw [← Array.any_toList]
    congr 1
    funext e
    rw [zD2];cases os[e.on]? with
    | none => cases Region.binds .any e <;> rfl
    | some o' => dsimp only; rw [rch_iff f o']; cases Region.binds .any e <;> rfl
   unfold rch reachB;rw [e, e2];cases o.after.any (fun e => e.on == k && Region.binds .any e) with
   | true => rw [Bool.true_or]
   | false => rw [Bool.false_or]; rfl
def clr (os : List Oper) (after : List Edge) (fp : FP) : List (Nat × FP) → Bool
 | [] => true
 | (k, f) :: acc => an (match touch f fp with
   | true => true
   | false => rch os k 4 after) (clr os after fp acc)
theorem clr_iff {os : List Oper} {o : Oper} {fp : FP} : ∀ {acc : List (Nat × FP)}, clr os o.after.toList fp acc = true → clearOf os o fp acc = true
 | [], _ => rfl
 | (k, f) :: acc, h => by
   unfold clr at h;rw [zB5] at h;rw [rch_iff] at h;have ih := clr_iff h.2;rw [zEM, ih, Bool.and_true];cases hb : touch f fp with
   | true =>
     have : FP.apart f fp = true := hb;rw [this, Bool.or_true]
   | false =>
     rw [hb] at h;have : reachB os 4 o k = true := h.1;rw [this, Bool.true_or]
def loopV (P : Program) (G : Gl) (C : Contracts) (I : Inline) (Le : LeT) (c : Code) (Q : Exit → St → Prop) (s : St) : Prop := wpLoop P G C I Le c Q s
def rangeV (P : Program) (G : Gl) (C : Contracts) (I : Inline) (Le : LeT) (g : Operand) (ps : Array Tmp) (a b : Code) (Q : Exit → St → Prop) (s : St) : Prop := wp P G C I Le (.rangeFunc g ps a b) Q s
section
variable (P : Program) (T : Ti) (G : Gl) (C : Contracts) (I : Inline) (Le : LeT)
def goV (K : FP → St → Prop) (t : Tm) (z : Fz) (nx : Nat) (d : Option Nat) (v : PV) (h' : Hp) (rd wr : List Nat) : Prop := fN (nx + 1) fun nx' => match d with
 | some d => K ⟨rd, wr, []⟩ ⟨ts t d v, h', z, nx'⟩
 | none => K ⟨rd, wr, []⟩ ⟨t, h', z, nx'⟩
def vOpO (D : Bool) (o : Oper) (K : FP → St → Prop) (s : St) : Prop :=
 match s with
 | ⟨t, h, z, nx⟩ => match o.op with
   | .call { callee := .value g, args, argTypes := _ } => (match ev G t g with
     | .func (.func f) first captured => evs G t args.toList fun vs => fL (first ++ vs ++ captured) fun as => callV C I D f as o.dst K ⟨t, h, z, nx⟩
     | .func (.yield l) [] [] => evs G t args.toList fun vs => yieldV C l vs o.dst K ⟨t, h, z, nx⟩
     | _ => False)
   | op => vOp T G z nx op t h (goV K t z nx o.dst)
def accV (i : Nat) (fp : FP) (acc : List (Nat × FP)) : List (Nat × FP) := match fp with
    | ⟨[], [], []⟩ => acc
    | fp => (i, fp) :: acc
def passV (R : St → Prop) (t : Tm) (h : Hp) (z : Fz) (nx : Nat) (d : Option Nat) : Prop := fN (nx + 1) fun nx' => match d with
 | some d => R ⟨ts t d (.tup []), h, z, nx'⟩
 | none => R ⟨t, h, z, nx'⟩
def contV (os : List Oper) (D : Bool) (i : Nat) (acc : List (Nat × FP)) (o : Oper) (R : Nat → List (Nat × FP) → St → Prop) (fp : FP) (s' : St) : Prop := match D with
 | true => brT (clr os o.after.toList fp acc) (fN (i + 1) fun j => R j (accV i fp acc) s')
 | false => R i acc s'
def vStep (D : Bool) (os : List Oper) (i : Nat) (acc : List (Nat × FP)) (o : Oper) (R : Nat → List (Nat × FP) → St → Prop) (s : St) : Prop :=
 match o.guard with
 | none => vOpO T G C I D o (contV os D i acc o R) s
 | some (j, want) => oK (nth os j) fun q => oK q.dst fun d => (match s with
   | ⟨t, h, z, nx⟩ => (match t d with
     | .bool b => brB b
      (match want with
        | true => vOpO T G C I D o (contV os D i acc o R) ⟨ts t d (.bool true), h, z, nx⟩
        | false => passV (R (i + 1) acc) (ts t d (.bool true)) h z nx o.dst)
      (match want with
        | true => passV (R (i + 1) acc) (ts t d (.bool false)) h z nx o.dst
        | false => vOpO T G C I D o (contV os D i acc o R) ⟨ts t d (.bool false), h, z, nx⟩)
     | .tup [] => passV (R (i + 1) acc) t h z nx o.dst
     | _ => False))
def vOps (D : Bool) (os : List Oper) : Nat → List (Nat × FP) → List Oper → (St → Prop) → St → Prop
 | _, _, [], K, s => K s
 | i, acc, o :: rest, K, s => vStep T G C I D os i acc o (fun i acc s => Next (vOps D os i acc rest K s)) s
def vc : Code → (Exit → St → Prop) → St → Prop
 | .skip, Q, s => Q .normal s
 | .label _, Q, s => Q .normal s
 | .seq a b, Q, s => vc a (thenL Le (vc b Q) Q) s
 | .cond c a b, Q, s => (match ev G s.t c with
   | .bool t => (match c with
     | .tmp i => brB t (vc a Q (subS s i true)) (vc b Q (subS s i false))
     | _ => brB t (vc a Q s) (vc b Q s))
   | .anyb => vc a Q s ∧ vc b Q s
   | _ => False)
 | .block id c, Q, s => vc c (inBlockQ id Q) s
 | .loop c, Q, s => loopV P G C I Le c Q s
 | .exit id, Q, s => Q (.exit id) s
 | .ret, Q, s => Q .ret s
 | .region _ ops D, Q, s => (match drawnB D ops.toList with
   | true => vOps T G C I true ops.toList 0 [] ops.toList (Q .normal) s
   | false => vOps T G C I false ops.toList 0 [] ops.toList (Q .normal) s)
 | .rangeFunc g ps a b, Q, s => rangeV P G C I Le g ps a b Q s
 | _, _, _ => False
end
section
variable {P : Program} {T : Ti} {G : Gl} {C : Contracts} {I : Inline} {Le : LeT}
theorem goV_eq {K : FP → St → Prop} {t : Tm} {h h' : Hp} {z : Fz} {nx : Nat} {d : Option Nat} {v : PV} {rd wr : List Nat} (hk : goV K t z nx d v h' rd wr) : K ⟨rd, wr, []⟩ (put { (⟨t, h, z, nx⟩ : St) with h := h', nx := nx + 1 } d v) := by
 unfold goV at hk;rw [zL2] at hk;cases d with
 | none => exact hk
 | some d => dsimp only at hk; rw [ts_eq] at hk; exact hk
theorem passV_eq {R : St → Prop} {t : Tm} {h : Hp} {z : Fz} {nx : Nat} {d : Option Nat} (hk : passV R t h z nx d) : R (put { (⟨t, h, z, nx⟩ : St) with nx := nx + 1 } d (.tup [])) := by
 unfold passV at hk;rw [zL2] at hk;cases d with
 | none => exact hk
 | some d => dsimp only at hk; rw [ts_eq] at hk; exact hk
theorem tsub {t : Tm} {d : Nat} {b : Bool} (e : t d = .bool b) : ts t d (.bool b) = t := by
 rw [ts_eq]
 funext j
 unfold tset
 split
 ·rename_i q; rw [q]; exact e.symm
 ·rfl
theorem zMZ (hT : ∀ i x, T i = some x → tinfo P i = x) {D : Bool} {o : Oper} {K : FP → St → Prop} {s : St} (h : vOpO T G C I D o K s) : opWp P G C I D o K s := by
 obtain ⟨t, hh, z, nx⟩ := s;unfold vOpO at h;unfold opWp;dsimp only at h
 split at h
 ·rename_i g args ts e
  rw [e];dsimp only
  split at h
  ·rename_i f first captured e2
   rw [e2];rw [evs_eq, fL_eq] at h;exact h
  ·rename_i l e2
   rw [e2];rw [evs_eq] at h;exact h
  ·exact h.elim
 ·rename_i op hne
  obtain ⟨v, h', rd, wr, h1, h2⟩ := vOp_sound hT h;have h2 := goV_eq (h := hh) h2
  split
  ·rename_i g args ts e; exact absurd e (hne g args ts)
  ·rw [h1]; exact h2
theorem vOps_f (hI : ∀ f args (J J' : PV → St → Prop) s, (∀ v s, J v s → J' v s) → I f args J s → I f args J' s) (hT : ∀ i x, T i = some x → tinfo P i = x) {os : List Oper} {K : St → Prop} :
 ∀ (l : List Oper) (i : Nat) (acc : List (Nat × FP)) (s : St), vOps T G C I false os i acc l K s → wpF P G C I (os.map (·.dst)) l K s
 | [], _, _, _, h => h
 | o :: rest, i, acc, s, h => by
   have run : ∀ s, vOpO T G C I false o (contV os false i acc o (fun i acc s => Next (vOps T G C I false os i acc rest K s))) s → opWp P G C I false o (fun _ s' => wpF P G C I (os.map (·.dst)) rest K s') s :=
    fun s h => zLO hI (fun fp s' h => vOps_f hI hT rest _ _ _ (Next.out h)) (zMZ hT h)
   have pass : ∀ t hh z nx, passV (fun s => Next (vOps T G C I false os (i + 1) acc rest K s)) t hh z nx o.dst → wpF P G C I (os.map (·.dst)) rest K (put { (⟨t, hh, z, nx⟩ : St) with nx := nx + 1 } o.dst (.tup [])) :=
    fun t hh z nx h => vOps_f hI hT rest _ _ _ (passV_eq h).out
   unfold vOps vStep at h;unfold wpF;cases hg : o.guard with
   | none => rw [hg] at h; exact run s h
   | some jw =>
     obtain ⟨j, want⟩ := jw;rw [hg] at h;dsimp only at h ⊢;obtain ⟨q, h1, h3⟩ := zA0 h;clear h;obtain ⟨d, h2, h⟩ := zA0 h3;clear h3;rw [zD2] at h1;rw [← get_dst, h1];dsimp only [Option.bind_some];rw [h2];dsimp only;obtain ⟨t, hh, z, nx⟩ := s;dsimp only at h ⊢;unfold guarded
     split at h
     ·rename_i b e
      rw [e];cases b with
      | true =>
        rw [tsub e] at h;cases want with
        | true => exact ⟨fun _ => run _ h, fun hw => by cases hw⟩
        | false => exact ⟨fun hw => (by cases hw), fun _ => pass _ _ _ _ h⟩
      | false =>
        rw [tsub (b := false) e] at h;cases want with
        | true => exact ⟨fun hw => (by cases hw), fun _ => pass _ _ _ _ h⟩
        | false => exact ⟨fun _ => run _ h, fun hw => by cases hw⟩
     ·rename_i e
      rw [e];exact pass _ _ _ _ h
     ·exact h.elim
theorem accV_eq {i : Nat} {fp : FP} {acc : List (Nat × FP)} : accV i fp acc = addFp i fp acc := by
 obtain ⟨a, b, c⟩ := fp;unfold accV addFp;cases a <;> cases b <;> cases c <;> rfl
theorem vOps_t (hI : ∀ f args (J J' : PV → St → Prop) s, (∀ v s, J v s → J' v s) → I f args J s → I f args J' s) (hT : ∀ i x, T i = some x → tinfo P i = x) {os : List Oper} {K : St → Prop} :
 ∀ (l : List Oper) (i : Nat) (acc : List (Nat × FP)) (s : St), vOps T G C I true os i acc l K s → wpT P G C I os i acc l K s
 | [], _, _, _, h => by unfold wpT; exact h
 | o :: rest, i, acc, s, h => by
   have run : ∀ s, vOpO T G C I true o (contV os true i acc o (fun i acc s => Next (vOps T G C I true os i acc rest K s))) s →
    opWp P G C I true o (fun fp s' => clearOf os o fp acc = true ∧ wpT P G C I os (i + 1) (addFp i fp acc) rest K s') s :=
    fun s h => zLO hI (fun fp s' h => by
     obtain ⟨h1, h⟩ := zAV h;rw [zL2, accV_eq] at h
     exact ⟨clr_iff h1, vOps_t hI hT rest _ _ _ h.out⟩) (zMZ hT h)
   have pass : ∀ t hh z nx, passV (fun s => Next (vOps T G C I true os (i + 1) acc rest K s)) t hh z nx o.dst → wpT P G C I os (i + 1) acc rest K (put { (⟨t, hh, z, nx⟩ : St) with nx := nx + 1 } o.dst (.tup [])) :=
    fun t hh z nx h => vOps_t hI hT rest _ _ _ (passV_eq h).out
   unfold vOps vStep at h;unfold wpT;cases hg : o.guard with
   | none => rw [hg] at h; exact run s h
   | some jw =>
     obtain ⟨j, want⟩ := jw;rw [hg] at h;dsimp only at h ⊢;obtain ⟨q, h1, h3⟩ := zA0 h;clear h;obtain ⟨d, h2, h⟩ := zA0 h3;clear h3;rw [zD2] at h1;rw [h1];dsimp only [Option.bind_some];rw [h2];dsimp only;obtain ⟨t, hh, z, nx⟩ := s;dsimp only at h ⊢;unfold guarded
     split at h
     ·rename_i b e
      rw [e];cases b with
      | true =>
        rw [tsub e] at h;cases want with
        | true => exact ⟨fun _ => run _ h, fun hw => by cases hw⟩
        | false => exact ⟨fun hw => (by cases hw), fun _ => pass _ _ _ _ h⟩
      | false =>
        rw [tsub (b := false) e] at h;cases want with
        | true => exact ⟨fun hw => (by cases hw), fun _ => pass _ _ _ _ h⟩
        | false => exact ⟨fun _ => run _ h, fun hw => by cases hw⟩
     ·rename_i e
      rw [e];exact pass _ _ _ _ h
     ·exact h.elim
theorem zDW (hI : ∀ f args (J J' : PV → St → Prop) s, (∀ v s, J v s → J' v s) → I f args J s → I f args J' s) (hT : ∀ i x, T i = some x → tinfo P i = x) :
 ∀ (c : Code) (Q : Exit → St → Prop) (s : St), vc P T G C I Le c Q s → wp P G C I Le c Q s
 | .skip, _, _, h => h
 | .label _, _, _, h => h
 | .seq a b, Q, s, h => by
   refine wp_mono hI a _ _ s (fun e s h => ?_) (zDW hI hT a _ s h);cases e <;> unfold thenL at h ⊢ <;> first | exact h | (obtain ⟨s', h1, h2⟩ := h; exact ⟨s', h1, zDW hI hT b _ s' h2⟩)
 | .cond c a b, Q, s, h => by
   unfold vc at h;unfold wp
   split at h
   ·rename_i t e
    rw [e];dsimp only
    split at h
    ·rename_i i
     refine ⟨fun ht => ?_, fun ht => ?_⟩
     ·subst ht; rw [subS_eq e] at h; exact zDW hI hT a _ s h
     ·subst ht; exact zDW hI hT b _ s (by rw [subS_eq (b := false) e] at h; exact h)
    ·refine ⟨fun ht => ?_, fun ht => ?_⟩
     ·subst ht; exact zDW hI hT a _ s h
     ·subst ht; exact zDW hI hT b _ s h
   ·rename_i e; rw [e]; exact ⟨zDW hI hT a _ s h.1, zDW hI hT b _ s h.2⟩
   ·exact h.elim
 | .block id c, Q, s, h => zDW hI hT c _ s h
 | .loop c, Q, s, h => h
 | .exit id, _, _, h => h
 | .ret, _, _, h => h
 | .region id ops D, Q, s, h => by
   obtain ⟨l⟩ := ops;cases D with
   | false => rw [wpe_regF]; exact vOps_f hI hT _ _ _ _ h
   | true =>
     unfold vc at h;cases hc : drawnB true l with
     | true => rw [show drawnB true l.toArray.toList = true by simpa using hc] at h; rw [wpe_regT hc]; exact vOps_t hI hT _ _ _ _ h
     | false => rw [show drawnB true l.toArray.toList = false by simpa using hc] at h; rw [wpe_regC hc]; exact vOps_f hI hT _ _ _ _ h
 | .rangeFunc .., _, _, h => h
 | .scope _, _, _, h => h
 | .goto _, _, _, h => h
 | .refuse _, _, _, h => h
end
section
variable {P : Program} {T : Ti} {G : Gl} {C : Contracts} {I : Inline} {Le : LeT} {Q : Exit → St → Prop} {K : St → Prop} {s : St}
theorem zID (h : Q .normal s) : vc P T G C I Le .skip Q s := h
theorem r_seq {a b : Code} (h : vc P T G C I Le a (thenL Le (vc P T G C I Le b Q) Q) s) : vc P T G C I Le (.seq a b) Q s := h
theorem zGH {id : Nat} {c : Code} (h : vc P T G C I Le c (inBlockQ id Q) s) : vc P T G C I Le (.block id c) Q s := h
theorem zIE {c : Code} (h : loopV P G C I Le c Q s) : vc P T G C I Le (.loop c) Q s := h
theorem zIF {id : Nat} (h : Q (.exit id) s) : vc P T G C I Le (.exit id) Q s := h
theorem r_ret (h : Q .ret s) : vc P T G C I Le .ret Q s := h
theorem zEI {id : Nat} {ops : List Oper} {D : Bool} (h : match drawnB D ops with
 | true => vOps T G C I true ops 0 [] ops (Q .normal) s
 | false => vOps T G C I false ops 0 [] ops (Q .normal) s) : vc P T G C I Le (.region id ops.toArray D) Q s := h
def condN (G : Gl) (c : Operand) (A B : St → Prop) (s : St) : Prop := match s with
 | ⟨t, h, z, nx⟩ => match ev G t c with
   | .bool b => (match c with
     | .tmp i => brB b (Next (A ⟨ts t i (.bool true), h, z, nx⟩)) (Next (B ⟨ts t i (.bool false), h, z, nx⟩))
     | _ => brB b (Next (A ⟨t, h, z, nx⟩)) (Next (B ⟨t, h, z, nx⟩)))
   | .anyb => Next (A ⟨t, h, z, nx⟩) ∧ Next (B ⟨t, h, z, nx⟩)
   | _ => False
theorem zIG {c : Operand} {a b : Code} (h : condN G c (vc P T G C I Le a Q) (vc P T G C I Le b Q) s) : vc P T G C I Le (.cond c a b) Q s := by
 obtain ⟨t, hh, z, nx⟩ := s;unfold condN at h;dsimp only at h;unfold vc;dsimp only;cases e : ev G t c with
 | bool x =>
   rw [e] at h;dsimp only at h ⊢;cases c with
   | tmp i => cases x <;> exact h.out
   | _ => cases x <;> exact h.out
 | anyb => rw [e] at h; exact ⟨h.1.out, h.2.out⟩
 | _ => rw [e] at h; exact h.elim
theorem zAW {A B : Prop} (h1 : Next A) (h2 : Next B) : Next A ∧ Next B := ⟨h1, h2⟩
theorem zBC {n0 : Nat} (h : K s) : thenL (LeS G, n0) K Q .normal s := by
 unfold thenL; exact ⟨s, fun _ _ _ _ _ A κ _ hR => ⟨A, κ, hR⟩, h⟩
theorem zEH {id : Nat} (h : Q (.exit id) s) : thenL Le K Q (.exit id) s := by unfold thenL; exact h
theorem zEG (h : Q .ret s) : thenL Le K Q .ret s := by unfold thenL; exact h
theorem tell_to {n0 : Nat} {s' : St} (hle : LeS G n0 s s') (h : K s') : thenL (LeS G, n0) K Q .normal s := by unfold thenL; exact ⟨s', hle, h⟩
theorem zIC (h : K s) : thenQ K Q .normal s := h
theorem zGG {id : Nat} (h : Q (.exit id) s) : thenQ K Q (.exit id) s := h
theorem zGF (h : Q .ret s) : thenQ K Q .ret s := h
theorem r_inN {id : Nat} (h : Q .normal s) : inBlockQ id Q .normal s := h
theorem r_inE {id id' : Nat} (h : brB (Nat.beq id' id) (Next (Q .normal s)) (Next (Q (.exit id') s))) : inBlockQ id Q (.exit id') s := by
 unfold inBlockQ;rw [zFV] at h;by_cases e : id' = id
 ·simp only [e, decide_true] at h; simp only [e, if_true]; exact h.out
 ·simp only [e, decide_false] at h; simp only [e, if_false]; exact h.out
theorem r_inR {id : Nat} (h : Q .ret s) : inBlockQ id Q .ret s := h
section
variable {D : Bool} {os : List Oper} {i : Nat} {acc : List (Nat × FP)} {o : Oper} {rest : List Oper}
theorem r_nil (h : K s) : vOps T G C I D os i acc [] K s := by unfold vOps; exact h
theorem r_op (h : vStep T G C I D os i acc o (fun i acc s => Next (vOps T G C I D os i acc rest K s)) s) : vOps T G C I D os i acc (o :: rest) K s := h
end
end
def argV (ds : List PV) (i : Nat) : PV := match nth ds i with
 | some v => v
 | none => .tup []
theorem zMM {ds : List PV} : argV ds = argTm ds := by
 funext i
 unfold argV argTm;rw [zD2];cases h : ds[i]? with
 | none => simp [List.getD, h]
 | some v => simp [List.getD, h]
def noH : Hp := fun _ => none
def noZ : Fz := fun _ => false
def startV (ds : List PV) : St := ⟨argV ds, noH, noZ, 0⟩
theorem startV_eq {ds : List PV} : startV ds = start ds := by unfold startV start; rw [zMM]; rfl
def resK (T : Ti) (s : St) (r : ResultVar) (K : PV → Prop) : Prop := match r with
 | .tmp t => force (s.t t) K
 | .cell x ty => oK (T ty) fun i => (match s.t x with
   | .ptr r j off => oK (s.h r) fun b => oK (nth b.els j) fun e => partK e off i.size i.agg K
   | _ => False)
def ressK (T : Ti) (s : St) : List ResultVar → (List PV → Prop) → Prop
 | [], K => K []
 | r :: rs, K => resK T s r fun v => ressK T s rs fun vs => K (v :: vs)
def vEnd (T : Ti) (rs : List ResultVar) (K : PV → St → Prop) (e : Exit) (s : St) : Prop := match e with
 | .normal | .ret => (match rs with
   | [r] => resK T s r fun v => K v s
   | rs => ressK T s rs fun vs => K (.tup vs) s)
 | _ => False
section
variable {P : Program} {T : Ti} {G : Gl}
theorem resK_elim (hT : ∀ i x, T i = some x → tinfo P i = x) {s : St} {r : ResultVar} {K : PV → Prop} (h : resK T s r K) : ∃ v, resVar P s r = some v ∧ K v := by
 unfold resK at h;unfold resVar;cases r with
 | tmp t => dsimp only at h; rw [force_eq] at h; exact ⟨_, rfl, h⟩
 | cell x ty =>
   dsimp only at h ⊢;obtain ⟨i, h1, h⟩ := zA0 h;have h1 := hT _ _ h1;subst h1
   split at h
   ·rename_i r j off e
    obtain ⟨b, h2, h⟩ := zA0 h;obtain ⟨d, h3, h⟩ := zA0 h;obtain ⟨v, h4, h⟩ := zF4 h;rw [zD2] at h3;exact ⟨v, by rw [e]; dsimp only; rw [h2]; dsimp only; rw [h3]; exact h4, h⟩
   ·exact h.elim
theorem zM6 (hT : ∀ i x, T i = some x → tinfo P i = x) {s : St} : ∀ {rs : List ResultVar} {K : List PV → Prop}, ressK T s rs K → ∃ vs, resVars P s rs = some vs ∧ K vs
 | [], K, h => ⟨[], rfl, h⟩
 | r :: rs, K, h => by
   obtain ⟨v, h1, h⟩ := resK_elim hT h;obtain ⟨vs, h2, h⟩ := zM6 hT h;exact ⟨v :: vs, by unfold resVars; rw [h1, h2], h⟩
theorem zLH {s : St} : ∀ {rs : List ResultVar} {vs : List PV}, resVars P s rs = some vs → vs.length = rs.length
 | [], vs, h => by simp [resVars] at h; subst h; rfl
 | r :: rs, vs, h => by
   unfold resVars at h
   split at h
   ·rename_i v vs' h1 h2; cases h; simp [zLH h2]
   ·cases h
theorem zEP (hT : ∀ i x, T i = some x → tinfo P i = x) {rs : List ResultVar} {K : PV → St → Prop} {e : Exit} {s : St} (h : vEnd T rs K e s) : atEnd P rs K e s := by
 have key : ∀ rs : List ResultVar, (match rs with
  | [r] => resK T s r fun v => K v s
  | rs => ressK T s rs fun vs => K (.tup vs) s) → ∃ v, resOf P rs s = some v ∧ K v s := by
  intro rs h
  have many : (∀ r, rs ≠ [r]) → (ressK T s rs fun vs => K (.tup vs) s) → ∃ v, resOf P rs s = some v ∧ K v s := by
   intro hne h;obtain ⟨vs, h1, h⟩ := zM6 hT h;refine ⟨.tup vs, ?_, h⟩;have hl := zLH h1;unfold resOf;rw [h1]
   match vs, hl with
   | [], _ => rfl
   | [v], hl =>
     obtain ⟨r, hr⟩ := List.length_eq_one_iff.1 hl.symm;exact absurd hr (hne r)
   | _ :: _ :: _, _ => rfl
  match rs, h, many with
  | [], h, many => exact many (fun r => by simp) h
  | [r], h, _ =>
    obtain ⟨v, h1, h⟩ := resK_elim hT h;exact ⟨v, by unfold resOf resVars; rw [h1]; simp [resVars], h⟩
  | _ :: _ :: _, h, many => exact many (fun r => by simp) h
 unfold vEnd at h;cases e with
 | normal => exact key rs h
 | ret => exact key rs h
 | _ => exact h.elim
abbrev VC (P : Program) (T : Ti) (G : Gl) (n0 : Nat) : Code → (Exit → St → Prop) → St → Prop := vc P T G (FnC P G) (FnH P G) (LeS G, n0)
theorem zMP (hT : ∀ i x, T i = some x → tinfo P i = x) {n0 : Nat} {c : Code} {Q Q' : Exit → St → Prop} {s : St} (hq : ∀ e s, Q e s → Q' e s) (h : VC P T G n0 c Q s) : wp P G (FnC P G) (FnH P G) (LeS G, n0) c Q' s :=
 wp_mono FnH.mono c _ _ s hq (zDW FnH.mono hT c _ s h)
def givesV (h : Hp) (v d : PV) : Prop := gives h v d
theorem zAB {h : Hp} {v d d' : PV} {ks : List Nat} (e : frz h 4 v = some (d', ks)) (e' : d' = d) : givesV h v d := ⟨ks, e' ▸ e⟩
def givesOwnV (els : List PV) (sz : Nat) (agg : Bool) (v : PV) (s : St) : Prop := givesOwn els sz agg v s
theorem givesOwnV_nil {sz : Nat} {agg : Bool} {s : St} : givesOwnV [] sz agg .nilsl s := Or.inl ⟨rfl, rfl⟩
theorem zFM {els els' : List PV} {sz : Nat} {agg : Bool} {r len : Nat} {s : St} (hb : s.h r = some ⟨els', sz, agg⟩) (e : els' = els) (hl : len = els.length) (hz : s.z r = false) (hf : mapF (frz s.h 4) els = some (els, [])) : givesOwnV els sz agg (.own r 0 len) s := by subst e; exact givesOwn_of hl hb hz hf
theorem zAJ (hm : P.follows .mixedOrders = true) (hT : ∀ i x, T i = some x → tinfo P i = x) {f : FuncId} {fn : Func} {c : Code} {rs : List ResultVar} {nt : Nat} (ok : FnOk P f fn c rs nt) {ds : List PV} (hl : ds.length ≤ nt) {d : PV}
 (h : VC P T G 0 c (vEnd T rs fun v s => givesV s.h v d) (startV ds)) : FnC P G f ds (.data d) :=
 fnC_of hm ok hl (by rw [← startV_eq]; exact zMP hT (fun e s h => zEP hT h) h)
theorem fnC_vown (hm : P.follows .mixedOrders = true) (hT : ∀ i x, T i = some x → tinfo P i = x) {f : FuncId} {fn : Func} {c : Code} {rs : List ResultVar} {nt : Nat} (ok : FnOk P f fn c rs nt) {ds : List PV} (hl : ds.length ≤ nt) {els : List PV} {sz : Nat} {agg : Bool}
 (h : VC P T G 0 c (vEnd T rs (givesOwnV els sz agg)) (startV ds)) : FnC P G f ds (.fresh els sz agg) :=
 fnC_own hm ok hl (by rw [← startV_eq]; exact zMP hT (fun e s h => zEP hT h) h)
def fZ (z : Fz) (ks : List Nat) (K : Fz → Prop) : Prop := match ks with
 | [] => K z
 | k :: ks => K (fs z (k :: ks))
theorem fZ_eq {z : Fz} {ks : List Nat} {K : Fz → Prop} (h : fZ z ks K) : K (fset z ks) := by
 cases ks with
 | nil => rw [fset_nil]; exact h
 | cons k ks => rw [← fs_eq]; exact h
def backV (K : FP → St → Prop) (t : Tm) (d : Option Nat) (v : PV) (h : Hp) (z : Fz) (nx : Nat) (fp : FP) : Prop := force v fun v => match d with
 | some d => K fp ⟨ts t d v, h, z, nx⟩
 | none => K fp ⟨t, h, z, nx⟩
theorem zHP {K : FP → St → Prop} {t : Tm} {d : Option Nat} {v : PV} {h : Hp} {z : Fz} {nx : Nat} {fp : FP} (hk : backV K t d v h z nx fp) : K fp (put ⟨t, h, z, nx⟩ d v) := by
 unfold backV at hk;rw [force_eq] at hk;cases d with
 | none => exact hk
 | some d => dsimp only at hk; rw [ts_eq] at hk; exact hk
theorem zAA {C : Contracts} {I : Inline} {D : Bool} {f : FuncId} {args ds : List PV} {ks : List Nat} {v : PV} {d : Option Nat} {K : FP → St → Prop} {t : Tm} {h : Hp} {z : Fz} {nx : Nat} (hC : C f ds (.data v)) (hf : mapF (frz h 6) args = some (ds, ks))
 (hk : fZ z ks fun z => fN (nx + 1) fun nx => backV K t d v h z nx ⟨ks, [], ks⟩) : callV C I D f args d K ⟨t, h, z, nx⟩ :=
 call_data (s := ⟨t, h, z, nx⟩) hC hf (by
  have := fZ_eq hk;rw [zL2] at this
  exact zHP this)
theorem zGK {C : Contracts} {I : Inline} {D : Bool} {f : FuncId} {args ds : List PV} {ks : List Nat} {els : List PV} {sz : Nat} {agg : Bool} {d : Option Nat} {K : FP → St → Prop} {t : Tm} {h : Hp} {z : Fz} {nx : Nat} (hC : C f ds (.fresh els sz agg)) (hf : mapF (frz h 6) args = some (ds, ks))
 (hk : fZ z ks fun z => fN nx fun key => fN (nx + 1) fun nx => backV K t d (.own key 0 els.length) (hs h key (some ⟨els, sz, agg⟩)) z nx ⟨ks, [key], ks⟩) : callV C I D f args d K ⟨t, h, z, nx⟩ :=
 call_fresh (s := ⟨t, h, z, nx⟩) hC hf (by
  have := fZ_eq hk;rw [zL2, zL2, zGJ] at this
  exact zHP this)
theorem callV_inl {C : Contracts} {I : Inline} {f : FuncId} {args : List PV} {d : Option Nat} {K : FP → St → Prop} {s : St} (h : I f args (fun v s' => K ⟨[], [], []⟩ (put { s' with t := s.t } d v)) s) : callV C I false f args d K s :=
 call_inl h
end
theorem zBO {C : Contracts} {I : Inline} {D : Bool} {f : FuncId} {args ds : List PV} {ks : List Nat} {r : Nat} {b b1 : Blk} {res : PV} {d : Option Nat} {K : FP → St → Prop} {t : Tm} {h : Hp} {z : Fz} {nx : Nat} (hC : C f ds (.own (some b) res b1)) (hf : mapF (cv h 6 (some r)) args = some (ds, ks)) (hb : h r = some b) (hz : z r = false) (hr : ks.contains r = false) (hn : nrs b)
 (hk : fZ z ks fun z => fN nx fun key => fN (nx + 1) fun nx => backV K t d (rk key res) (hs (hs h r none) key (some b1)) z nx ⟨r :: ks, [r, key], ks⟩) : callV C I D f args d K ⟨t, h, z, nx⟩ :=
 Or.inr (Or.inr (Or.inl ⟨6, ds, ks, some (r, b), res, b1, hf, hC, fun r' b' e => by cases e; exact ⟨hb, hz, by simpa using hr, hn⟩, by
  have := fZ_eq hk;rw [zL2, zL2, zGJ, zGJ] at this
  exact zHP this⟩))
theorem zB0 {C : Contracts} {I : Inline} {D : Bool} {f : FuncId} {args ds : List PV} {ks : List Nat} {b1 : Blk} {res : PV} {d : Option Nat} {K : FP → St → Prop} {t : Tm} {h : Hp} {z : Fz} {nx : Nat} (hC : C f ds (.own none res b1)) (hf : mapF (cv h 6 none) args = some (ds, ks))
 (hk : fZ z ks fun z => fN nx fun key => fN (nx + 1) fun nx => backV K t d (rk key res) (hs h key (some b1)) z nx ⟨ks, [key], ks⟩) : callV C I D f args d K ⟨t, h, z, nx⟩ :=
 Or.inr (Or.inr (Or.inl ⟨6, ds, ks, none, res, b1, hf, hC, fun r' b' e => (by cases e), by
  have := fZ_eq hk;rw [zL2, zL2, zGJ] at this
  exact zHP this⟩))
theorem callV_bor {C : Contracts} {I : Inline} {D : Bool} {f : FuncId} {args ds : List PV} {ks : List Nat} {r : Nat} {b : Blk} {v : PV} {d : Option Nat} {K : FP → St → Prop} {t : Tm} {h : Hp} {z : Fz} {nx : Nat} (hC : C f ds (.wrt b v b)) (hf : mapF (cv h 6 (some r)) args = some (ds, ks)) (hb : h r = some b) (hz : z r = false) (hr : ks.contains r = false) (hn : nrs b)
 (hk : fZ z ks fun z => fN (nx + 1) fun nx => backV K t d v (hs h r (some b)) z nx ⟨r :: ks, [r], ks⟩) : callV C I D f args d K ⟨t, h, z, nx⟩ :=
 Or.inr (Or.inr (Or.inr ⟨6, ds, ks, r, b, v, b, hf, hC, ⟨hb, hz, by simpa using hr, hn, Or.inr (Or.inl rfl)⟩, by
  have := fZ_eq hk;rw [zL2, zGJ] at this
  exact zHP this⟩))
def mutV (v : PV) (b1 : Blk) (pv : PV) (s : St) : Prop := mutK v b1 pv s
theorem mutV_to {v pv : PV} {els els' : List PV} {sz : Nat} {agg : Bool} {s : St} (hv : pv = v) (hnv : nr 3 v = true) (hb : s.h 0 = some ⟨els', sz, agg⟩) (e : els' = els) (hz : s.z 0 = false) (hn : ∀ e ∈ els, nr 3 e = true) : mutV v ⟨els, sz, agg⟩ pv s := by
 subst e; exact ⟨hv, hnv, hb, hz, hn⟩
def ownV (res : PV) (b1 : Blk) (v : PV) (s : St) : Prop := ownK res b1 v s
theorem zJJ {res v : PV} {els els' : List PV} {sz : Nat} {agg : Bool} {r : Nat} {s : St} (hv : v = rk r res) (hb : s.h r = some ⟨els', sz, agg⟩) (e : els' = els) (hz : s.z r = false) (hn : ∀ e ∈ els, nr 3 e = true) (ho : okRes ⟨els, sz, agg⟩ res) : ownV res ⟨els, sz, agg⟩ v s := by
 subst e; exact ⟨hn, ho, Or.inl ⟨r, hv, hb, hz⟩⟩
theorem ownV_nil {res v : PV} {els : List PV} {sz : Nat} {agg : Bool} {s : St} (hv : v = rkn res) (e : els = []) (ho : okRes ⟨els, sz, agg⟩ res) : ownV res ⟨els, sz, agg⟩ v s :=
 ⟨fun x hx => (by rw [show (⟨els, sz, agg⟩ : Blk).els = [] from e] at hx; cases hx), ho, Or.inr ⟨hv, e⟩⟩
theorem zE3 {els : List PV} {sz : Nat} {agg : Bool} (h : ∀ e ∈ els, nr 3 e = true ∧ e ≠ .any) : nrs ⟨els, sz, agg⟩ := fun e he => (h e he).1
section
variable {P : Program} {T : Ti} {G : Gl}
theorem fnC_vtake (hm : P.follows .mixedOrders = true) (hT : ∀ i x, T i = some x → tinfo P i = x) {f : FuncId} {fn : Func} {c : Code} {rs : List ResultVar} {nt : Nat} (ok : FnOk P f fn c rs nt) {ds : List PV} (hl : ds.length ≤ nt) {b b1 : Blk} {res : PV}
 (h : VC P T G 1 c (vEnd T rs (ownV res b1)) ⟨argV ds, hs noH 0 (some b), noZ, 1⟩) : FnC P G f ds (.own (some b) res b1) :=
 ⟨ok.callable, by
   have := zHC hm ok hl (G := G) (K := ownK res b1) (s := start1 (some b)) (by
    show wp P G (FnC P G) (FnH P G) (LeS G, 1) c _ ⟨argTm ds, hset noH 0 (some b), noZ, 1⟩
    rw [← zMM, ← zGJ]; exact zMP hT (fun e s h => zEP hT h) h)
   exact this⟩
theorem fnC_vgive (hm : P.follows .mixedOrders = true) (hT : ∀ i x, T i = some x → tinfo P i = x) {f : FuncId} {fn : Func} {c : Code} {rs : List ResultVar} {nt : Nat} (ok : FnOk P f fn c rs nt) {ds : List PV} (hl : ds.length ≤ nt) {b1 : Blk} {res : PV}
 (h : VC P T G 1 c (vEnd T rs (ownV res b1)) ⟨argV ds, noH, noZ, 1⟩) : FnC P G f ds (.own none res b1) :=
 ⟨ok.callable, by
   have := zHC hm ok hl (G := G) (K := ownK res b1) (s := start1 none) (by
    show wp P G (FnC P G) (FnH P G) (LeS G, 1) c _ ⟨argTm ds, noH, noZ, 1⟩
    rw [← zMM]; exact zMP hT (fun e s h => zEP hT h) h)
   exact this⟩
theorem fnC_vmut (hm : P.follows .mixedOrders = true) (hT : ∀ i x, T i = some x → tinfo P i = x) {f : FuncId} {fn : Func} {c : Code} {rs : List ResultVar} {nt : Nat} (ok : FnOk P f fn c rs nt) {ds : List PV} (hl : ds.length ≤ nt) {b b1 : Blk} {v : PV}
 (h : VC P T G 1 c (vEnd T rs (mutV v b1)) ⟨argV ds, hs noH 0 (some b), noZ, 1⟩) : FnC P G f ds (.wrt b v b1) :=
 ⟨ok.callable, by
   have := zHC hm ok hl (G := G) (K := mutK v b1) (s := start1 (some b)) (by
    show wp P G (FnC P G) (FnH P G) (LeS G, 1) c _ ⟨argTm ds, hset noH 0 (some b), noZ, 1⟩
    rw [← zMM, ← zGJ]; exact zMP hT (fun e s h => zEP hT h) h)
   exact this⟩
end
attribute [irreducible] yieldV rangeV callV loopV givesV givesOwnV ownV mutV
end Go.PI
namespace Go.PI
def sv : List (Nat × PV) → Nat → PV
 | [], _ => .any
 | (j, v) :: l, i => match Nat.beq i j with
   | true => v
   | false => sv l i
def hv : List (Nat × Blk) → Nat → Option Blk
 | [], _ => none
 | (j, b) :: l, i => match Nat.beq i j with
   | true => some b
   | false => hv l i
def zv (l : List Nat) (r : Nat) : Bool := memN l r
theorem sv_eq : ∀ {l : List (Nat × PV)}, sv l = sl l
 | [] => rfl
 | (j, v) :: l => by
   funext i
   unfold sv sl;rw [zFV, sv_eq];by_cases h : i = j <;> simp [h]
theorem hv_eq : ∀ {l : List (Nat × Blk)}, hv l = hl l
 | [] => rfl
 | (j, v) :: l => by
   funext i
   unfold hv hl;rw [zFV, hv_eq];by_cases h : i = j <;> simp [h]
theorem zv_eq {l : List Nat} : zv l = zl l := by funext r; unfold zv zl; rw [zJR]
def at' (ρ : Nat → Nat) (k : Nat) (t : Tm) (j : Nat) (v : PV) : Prop := rn ρ k 3 v (t j)
def okV (ρ : Nat → Nat) (k : Nat) : List (Nat × PV) → Tm → Prop
 | [], _ => True
 | (j, v) :: l, t => at' ρ k t j v ∧ okV ρ k l t
theorem zJM {ρ : Nat → Nat} {k : Nat} {t : Tm} : ∀ {l : List (Nat × PV)}, okV ρ k l t → okS ρ k l t
 | [], _ => trivial
 | (_, _) :: _, h => ⟨h.1, zJM h.2⟩
section
variable {ρ : Nat → Nat} {k : Nat} {t : Tm} {j : Nat}
theorem zAC {κ : IntKind} {n m : Int} (h : t j = .int κ n) (e : n = m) : at' ρ k t j (.int κ m) := by subst e; unfold at'; rw [rn_int]; exact h
theorem zAG {b c : Bool} (h : t j = .bool b) (e : b = c) : at' ρ k t j (.bool c) := by subst e; unfold at'; rw [rn_bool]; exact h
theorem zAD {es fs : List PV} (h : t j = .imm es) (e : es = fs) : at' ρ k t j (.imm fs) := by subst e; unfold at'; rw [rn_imm]; exact h
theorem at_nilsl (h : t j = .nilsl) : at' ρ k t j .nilsl := by unfold at'; rw [rn_nilsl]; exact h
theorem zCB {e : PV} {o : Nat} (h : t j = .cptr e o) : at' ρ k t j (.cptr e o) := by unfold at'; rw [rn_cptr]; exact h
theorem zAU {r off len len' : Nat} (hr : r < k) (h : t j = .own (ρ r) off len) (e : len = len') : at' ρ k t j (.own r off len') := by subst e; unfold at'; rw [rn_own]; exact ⟨hr, h⟩
theorem at_ptr {r i off : Nat} (hr : r < k) (h : t j = .ptr (ρ r) i off) : at' ρ k t j (.ptr r i off) := by unfold at'; rw [rn_ptr]; exact ⟨hr, h⟩
theorem apx {r i off : Nat} (hr : r < k := by decide) (h : t j = .ptr (ρ r) i off := by exact rfl) : at' ρ k t j (.ptr r i off) := at_ptr hr h
theorem apy {r i off : Nat} (h : t j = .ptr (ρ r) i off) (hr : r < k := by decide) : at' ρ k t j (.ptr r i off) := at_ptr hr h
theorem ttt : True ∧ True ∧ True := ⟨trivial, ⟨trivial, trivial⟩⟩
end
section
variable {P : Program} {T : Ti} {G : Gl} {n0 : Nat}
def blkOk (ρ : Nat → Nat) (k : Nat) (Z : List Nat) (r : Nat) (b : Blk) (h : Hp) (z : Fz) : Prop := r < k ∧ (∀ e ∈ b.els, e ≠ .any) ∧ (∃ b', h (ρ r) = some b' ∧ rnB ρ k b b') ∧ memN Z r = z (ρ r)
def okHV (ρ : Nat → Nat) (k : Nat) (Z : List Nat) : List (Nat × Blk) → Hp → Fz → Prop
 | [], _, _ => True
 | (r, b) :: l, h, z => blkOk ρ k Z r b h z ∧ okHV ρ k Z l h z
theorem zHF {ρ : Nat → Nat} {k : Nat} {Z : List Nat} {h : Hp} {z : Fz} : ∀ {l : List (Nat × Blk)}, okHV ρ k Z l h z → okH ρ k Z l h z
 | [], _ => trivial
 | (_, _) :: _, ⟨⟨h1, h2, ⟨b, h3, h4⟩, h5⟩, hr⟩ => ⟨⟨h1, h2, by rw [h3]; exact h4, by rw [← zJR]; exact h5⟩, zHF hr⟩
theorem zJ1 {ρ : Nat → Nat} {k : Nat} {Z : List Nat} {r : Nat} {v v' : PV} {sz : Nat} {agg : Bool} {h : Hp} {z : Fz} (hr : r < k) (hb : h (ρ r) = some ⟨[v'], sz, agg⟩) (e : v' = v) (hn : nr 3 v = true) (ha : v.storable = true) (hz : memN Z r = z (ρ r)) : blkOk ρ k Z r ⟨[v], sz, agg⟩ h z := by
 subst e;refine ⟨hr, fun e he => ?_, ⟨_, hb, rfl, rfl, Or.inl ⟨rfl, fun e he => ?_⟩⟩, hz⟩
 ·simp at he; subst he; intro q; subst q; simp [PV.storable] at ha
 ·simp at he; subst he; exact hn
theorem bbx {ρ : Nat → Nat} {k : Nat} {Z : List Nat} {r : Nat} {v v' : PV} {sz : Nat} {agg : Bool} {h : Hp} {z : Fz} (hr : r < k := by decide) (hb : h (ρ r) = some ⟨[v'], sz, agg⟩ := by exact rfl) (e : v' = v := by exact rfl) (hn : nr 3 v = true := by exact rfl) (ha : v.storable = true := by exact rfl) (hz : memN Z r = z (ρ r) := by exact rfl) : blkOk ρ k Z r ⟨[v], sz, agg⟩ h z := zJ1 hr hb e hn ha hz
theorem zAR {ρ : Nat → Nat} {k : Nat} {Z : List Nat} {r : Nat} {v v' : PV} {sz : Nat} {agg : Bool} {h : Hp} {z : Fz} (hr : r < k) (hb : h (ρ r) = some ⟨[v'], sz, agg⟩) (e : rn ρ k 3 v v') (ha : v.storable = true) (hz : memN Z r = z (ρ r)) : blkOk ρ k Z r ⟨[v], sz, agg⟩ h z := by
 refine ⟨hr, fun e he => ?_, ⟨_, hb, rfl, rfl, Or.inr ⟨e, trivial⟩⟩, hz⟩;simp at he; subst he; intro q; subst q; simp [PV.storable] at ha
theorem zAE {ρ : Nat → Nat} {k : Nat} {Z : List Nat} {r : Nat} {els els' : List PV} {sz : Nat} {agg : Bool} {h : Hp} {z : Fz} (hr : r < k) (hb : h (ρ r) = some ⟨els', sz, agg⟩) (e : els' = els) (hn : ∀ e ∈ els, nr 3 e = true ∧ e ≠ .any) (hz : memN Z r = z (ρ r)) : blkOk ρ k Z r ⟨els, sz, agg⟩ h z := by
 subst e;exact ⟨hr, fun e he => (hn e he).2, ⟨_, hb, rfl, rfl, Or.inl ⟨rfl, fun e he => (hn e he).1⟩⟩, hz⟩
theorem zD6 (hT : ∀ i x, T i = some x → tinfo P i = x) {c : Code} {Q : Exit → St → Prop} {s : St} {ι : Type} (L : ι → List (Nat × PV)) (H : ι → List (Nat × Blk)) (Z : List Nat) (k : Nat) (Inv : ι → Prop) (μ : ι → Nat) (i0 : ι) (h0 : Inv i0) (hk : n0 ≤ k) (hZ : ∀ r ∈ Z, r < k)
 (ρ0 : List Nat) (hs : okV (ren n0 ρ0) k (L i0) s.t) (hH : okHV (ren n0 ρ0) k Z (H i0) s.h s.z) (hinj : ((H i0).map fun q => ren n0 ρ0 q.1).Pairwise (· ≠ ·))
 (round : ∀ i, Inv i → VC P T G n0 c (thenQ (fun s' => ∃ i' ρ, (Inv i' ∧ μ i' < μ i) ∧ okV (ren n0 ρ) k (L i') s'.t ∧ okHV (ren n0 ρ) k Z (H i') s'.h s'.z ∧ ((H i').map fun q => ren n0 ρ q.1).Pairwise (· ≠ ·)) Q) ⟨sv (L i), hv (H i), zv Z, k⟩) :
 loopV P G (FnC P G) (FnH P G) (LeS G, n0) c Q s := by
 unfold loopV;refine zIT L H (fun _ => Z) k Inv μ i0 h0 (LeS_list ρ0 hk (zJM hs) (zHF hH) hZ hinj) fun i hi => ?_
 have := round i hi;rw [sv_eq, hv_eq, zv_eq] at this
 exact zMP hT (fun e s h => by
  cases e <;> first | (obtain ⟨i', ρ, ⟨h1, h2⟩, h3, h4, h5⟩ := h; exact ⟨i', h1, h2, LeS_list ρ hk (zJM h3) (zHF h4) hZ h5⟩) | exact h) this
theorem zBH (hT : ∀ i x, T i = some x → tinfo P i = x) {c : Code} {Q : Exit → St → Prop} {s : St} {ι : Type} (L : ι → List (Nat × PV)) (Inv : ι → Prop) (μ : ι → Nat) (i0 : ι) (h0 : Inv i0)
 (hs : okV id n0 (L i0) s.t)
 (round : ∀ i, Inv i → VC P T G n0 c (thenQ (fun s' => ∃ i', (Inv i' ∧ μ i' < μ i) ∧ okV id n0 (L i') s'.t) Q) ⟨sv (L i), noH, noZ, n0⟩) :
 loopV P G (FnC P G) (FnH P G) (LeS G, n0) c Q s := by
 unfold loopV;refine loop_slots L Inv μ i0 h0 (zJM hs) fun i hi => ?_
 have := round i hi;rw [sv_eq] at this
 exact zMP hT (fun e s h => by
  cases e <;> first | (obtain ⟨i', h1, h3⟩ := h; exact ⟨i', h1, zJM h3⟩) | exact h) this
end
theorem tab_of {P : Program} {tab : List TI} (h : (List.range tab.length).map (tinfo P) = tab) : ∀ i x, nth tab i = some x → tinfo P i = x := by
 intro i x hx;rw [zD2, ← h, List.getElem?_map] at hx
 have hi : i < tab.length := by
  by_cases hi : i < tab.length
  ·exact hi
  ·rw [List.getElem?_eq_none (by simpa using hi)] at hx; cases hx
 rw [List.getElem?_range hi] at hx
 simpa using hx
theorem zEB {α : Type} {f : α → PV} {l : List α} {sz : Nat} {agg b : Bool} {A : Prop} (h : ∀ x, (f x).cells.length = sz ∧ (f x).isAgg = agg) (hb : b = true) (k : A) : brT (an (allE sz agg (l.map f)) b) A :=
 brT_intro (by rw [allE_map h, hb]; rfl) k
theorem zCF {α : Type} {f : α → PV} {l : List α} {o n sz : Nat} {agg b : Bool} {A : Prop} (h : ∀ x, (f x).cells.length = sz ∧ (f x).isAgg = agg) (hb : b = true) (k : A) : brT (an (allE sz agg (((l.map f).drop o).take n)) b) A :=
 brT_intro (by rw [← List.map_drop, ← List.map_take, allE_map h, hb]; rfl) k
theorem oK_map {α : Type} [Inhabited α] {f : α → PV} {l : List α} {i : Nat} {K : PV → Prop} (h : i < l.length) (k : K (f l[i]!)) : oK (nth (l.map f) i) K := by
 refine oK_intro ?_ k;rw [zD2, List.getElem?_map, List.getElem?_eq_getElem h, getElem!_pos l i h];rfl
theorem zAY {α : Type} [Inhabited α] {f : α → PV} {l : List α} {i : Int} {K : PV → Prop} {j : Nat} (e : i = (j : Int)) (h : j < l.length) (k : K (f l[j]!)) : oK (nth (l.map f) i.toNat) K := by
 subst e;exact oK_map h k
theorem zBP {α : Type} [Inhabited α] {f : α → PV} {l : List α} {k : Nat} (j : Nat) {K : PV → Prop} (e : k = j) (h : j < l.length) (q : K (f l[j]!)) : oK (nth (l.map f) k) K := by subst e; exact oK_map h q
end Go.PI
namespace Go.PI
open Go.RowKit
def subs (ks KS : List Nat) : Bool := match ks with
 | [] => true
 | k :: ks => an (memN KS k) (subs ks KS)
theorem subs_iff : ∀ {ks KS : List Nat}, subs ks KS = true → ∀ k ∈ ks, k ∈ KS
 | k :: ks, KS, h, j, hj => by
   unfold subs at h;rw [zB5, zJR] at h;rcases List.mem_cons.1 hj with rfl | hj
   ·simpa using h.1
   ·exact subs_iff h.2 j hj
def fzT (KS : List Nat) (h : Hp) (t : Tm) : List (Nat × PV) → Prop
 | [] => True
 | (j, d) :: l => (∃ m ks, frz h m (t j) = some (d, ks) ∧ subs ks KS = true) ∧ fzT KS h t l
def fzH (KS : List Nat) (h : Hp) : List (Nat × List PV) → Prop
 | [] => True
 | (r, els) :: l => (∃ b m ks, h r = some b ∧ mapF (frz h m) b.els = some (els, ks) ∧ subs ks KS = true) ∧ fzH KS h l
def haveB (h : Hp) : List Nat → Prop
 | [] => True
 | k :: ks => (∃ b, h k = some b) ∧ haveB h ks
def putT (t : Tm) : List (Nat × PV) → Nat → PV
 | [], j => t j
 | (i, d) :: l, j => match Nat.beq j i with
   | true => d
   | false => putT t l j
def putH (h : Hp) : List (Nat × List PV) → Nat → Option Blk
 | [], r => h r
 | (i, els) :: l, r => match Nat.beq r i with
   | true => match h r with
     | some b => some ⟨els, b.sz, b.agg⟩
     | none => none
   | false => putH h l r
theorem putT_spec {KS : List Nat} {h : Hp} {t : Tm} : ∀ {l : List (Nat × PV)}, fzT KS h t l → ∀ j, putT t l j = t j ∨ ∃ m ks, frz h m (t j) = some (putT t l j, ks) ∧ ∀ k ∈ ks, k ∈ KS
 | [], _, j => Or.inl rfl
 | (i, d) :: l, hl, j => by
   unfold putT;rw [zFV];by_cases e : j = i
   ·subst e
    simp only [decide_true];obtain ⟨⟨m, ks, h1, h2⟩, _⟩ := hl;exact Or.inr ⟨m, ks, h1, subs_iff h2⟩
   ·simp only [e, decide_false]
    exact putT_spec hl.2 j
theorem zF3 {KS : List Nat} {h : Hp} : ∀ {l : List (Nat × List PV)}, fzH KS h l → ∀ r b', putH h l r = some b' → ∃ b, h r = some b ∧ b'.sz = b.sz ∧ b'.agg = b.agg ∧ (b' = b ∨ ∃ m ks, mapF (frz h m) b.els = some (b'.els, ks) ∧ ∀ k ∈ ks, k ∈ KS)
 | [], _, r, b', hb => ⟨b', hb, rfl, rfl, Or.inl rfl⟩
 | (i, els) :: l, hl, r, b', hb => by
   unfold putH at hb;rw [zFV] at hb;by_cases e : r = i
   ·subst e
    simp only [decide_true] at hb;obtain ⟨⟨b, m, ks, h1, h2, h3⟩, _⟩ := hl;rw [h1] at hb;cases hb
    exact ⟨b, h1, rfl, rfl, Or.inr ⟨m, ks, h2, subs_iff h3⟩⟩
   ·simp only [e, decide_false] at hb
    exact zF3 hl.2 r b' hb
theorem zNJ {h : Hp} : ∀ {l : List Nat}, haveB h l → ∀ k ∈ l, ∃ b, h k = some b
 | k :: ks, hl, j, hj => by
   rcases List.mem_cons.1 hj with rfl | hj
   ·exact hl.1
   ·exact zNJ hl.2 j hj
theorem putH_none {h : Hp} {r : Nat} (hr : h r = none) : ∀ {l : List (Nat × List PV)}, putH h l r = none
 | [] => hr
 | (i, els) :: l => by
   unfold putH;cases Nat.beq r i with
   | true => simp [hr]
   | false => exact putH_none hr
theorem LeS_frz {G : Gl} {n0 : Nat} {s : St} {KS : List Nat} {TS : List (Nat × PV)} {HS : List (Nat × List PV)} (hKS : haveB s.h KS) (hT : fzT KS s.h s.t TS) (hH : fzH KS s.h HS) :
 LeS G n0 s ⟨putT s.t TS, putH s.h HS, fset s.z KS, s.nx⟩ := by
 intro E N df a w A κ hE hR;have hKS := zNJ hKS;have H1 := hR.hr.freeze (ks := KS) hKS;refine ⟨fun b => A b ∨ blocksOf κ KS b, κ, ⟨⟨H1.bel, H1.hB, H1.alt, H1.a0, H1.a1, H1.acell, H1.k0, H1.glob, H1.klt, ⟨H1.kp.base, H1.kp.keep, H1.kp.wr, fun r b' m sz cap hb hκ hc hz => ?_, H1.kp.mks, H1.kp.nd, H1.kp.kb, H1.kp.kk, H1.kp.zk, H1.kp.mk0, fun hg => ⟨(H1.kp.gk hg).1, (H1.kp.gk hg).2.1, fun b' hb => ?_⟩⟩, fun r b' hb hκ => ?_, fun r r' b b' m m' s1 s2 c c' hne hr hr' => ?_⟩, fun r hr => ⟨?_, ?_, ?_⟩, hR.n0, fun i hi => ?_, hR.size, hR.df⟩⟩
 ·obtain ⟨b, h1, _⟩ := zF3 hH r b' hb
  exact H1.kp.own r b m sz cap h1 hκ hc hz
 ·obtain ⟨b, h1, h2, h3, h4⟩ := zF3 hH 0 b' hb
  have e := (H1.kp.gk hg).2.2 b h1;subst e;rcases h4 with rfl | ⟨m0, ks, h4, h5⟩
  ·rfl
  ·obtain ⟨els, sz, agg⟩ := b'
   cases m0 <;> simp [gblk, mapF, frz] at h2 h3 h4 ⊢ <;> simp [h2, h3, h4.1]
 ·obtain ⟨b, h1, h2, h3, h4⟩ := zF3 hH r b' hb
  rcases h4 with rfl | ⟨m0, ks, h4, h5⟩
  ·exact H1.blk r b' h1 hκ
  ·obtain ⟨m, cap, g1, g2, g3, g4⟩ := H1.blk r b h1 hκ
   obtain ⟨q1, q2⟩ := zB1 h4;refine ⟨m, cap, by rw [h2]; exact g1, by omega, fun e he => ?_, ?_⟩
   ·obtain ⟨i, hi, rfl⟩ := List.getElem_of_mem he
    obtain ⟨x, ks1, e1, e2, e3⟩ := q2 i _ (List.getElem?_eq_getElem hi);obtain ⟨c1, c2, _⟩ := zE7 e2;have := g3 x (List.mem_of_getElem? e1);rw [h2, h3, c1, c2]; exact this
   ·rcases g4 with g4 | ⟨c, ty, f1, f2, f3, f4, f5, f6, f7⟩
    ·exact Or.inl g4
    ·refine Or.inr ⟨c, ty, f1, f2, by rw [h2]; exact f3, f4, fun i e he j x hx => ?_, f6, f7⟩
     rw [h2];obtain ⟨y, ks1, e1, e2, e3⟩ := q2 i e he;obtain ⟨_, _, hcel⟩ := zE7 e2;obtain ⟨m', y', ks2, p1, p2, p3, p4⟩ := hcel j x hx
     have f5' : lies w A κ c (i * b.sz) y := by
      obtain ⟨m2, cap2, z1, z2, z3, z4⟩ := hR.hr.blk r b h1 hκ;rw [g1] at z1; cases z1;rcases z4 with z4 | ⟨c2, ty2, y1, y2, y3, y4, y5, y6, y7⟩
      ·exfalso
       have hi := (List.getElem?_eq_some_iff.1 e1).1;omega
      ·rw [f2] at y2; cases y2
       exact y5 i y e1
     obtain ⟨u, t1, t2, t3⟩ := f5' j y' p2;refine ⟨u, t1, .data _ _ ?_, t3⟩;exact zF7 hR.hr (A' := fun b => A b ∨ blocksOf κ KS b) (fun b hb => Or.inl hb) m' y' x u ks2 p3 t2 (fun b ⟨r, hr, q⟩ => Or.inr ⟨r, h5 r (e3 r (p4 r hr)), q⟩)
 ·obtain ⟨b1, h1, _⟩ := zF3 hH r b hr
  obtain ⟨b2, h2, _⟩ := zF3 hH r' b' hr';exact H1.excl r r' b1 b2 m m' s1 s2 c c' hne h1 h2
 ·exact putH_none (hR.fresh r hr).1
 ·have h2 := (hR.fresh r hr).2.1
  show fset s.z KS r = false
  simp only [fset, Bool.or_eq_false_iff];refine ⟨contains_false.2 fun hm => ?_, h2⟩;obtain ⟨b, hb⟩ := hKS r hm;rw [(hR.fresh r hr).1] at hb; cases hb
 ·exact (hR.fresh r hr).2.2
 ·show RV w _ κ (putT s.t TS i) _
  have hv := hR.tm i hi;rcases putT_spec hT i with h | ⟨m, ks, h1, h2⟩
  ·rw [h]; exact hv.mono (fun _ h => Or.inl h) (fun _ _ _ => rfl) (fun _ _ h => h)
  ·exact .data _ _ (zF7 hR.hr (A' := fun b => A b ∨ blocksOf κ KS b) (fun b hb => Or.inl hb) m _ _ _ ks h1 hv (fun b ⟨r, hr, q⟩ => Or.inr ⟨r, h2 r hr, q⟩))
theorem LeS.trans {G : Gl} {n0 : Nat} {s1 s2 s3 : St} (h : LeS G n0 s1 s2) (k : LeS G n0 s2 s3) : LeS G n0 s1 s3 := by
 intro E N df a w A κ hE hR;obtain ⟨A', κ', hR'⟩ := h E N df a w A κ hE hR;exact k E N df a w A' κ' hE hR'
section
variable {P : Program} {T : Ti} {G : Gl} {n0 : Nat}
def Kept (n0 : Nat) (s : St) (L : List (Nat × PV)) (H : List (Nat × Blk)) (Z : List Nat) (k : Nat) : Prop :=
 ∃ (ρ KS : List Nat) (TS : List (Nat × PV)) (HS : List (Nat × List PV)), (haveB s.h KS ∧ fzT KS s.h s.t TS ∧ fzH KS s.h HS) ∧ okV (ren n0 ρ) k L (putT s.t TS) ∧ okHV (ren n0 ρ) k Z H (putH s.h HS) (fs s.z KS) ∧ (H.map fun q => ren n0 ρ q.1).Pairwise (· ≠ ·)
theorem Kept.le {s : St} {L : List (Nat × PV)} {H : List (Nat × Blk)} {Z : List Nat} {k : Nat} (hk : n0 ≤ k) (hZ : ∀ r ∈ Z, r < k) (h : Kept n0 s L H Z k) : LeS G n0 s ⟨sl L, hl H, zl Z, k⟩ := by
 obtain ⟨ρ, KS, TS, HS, ⟨h1, h2, h3⟩, h4, h5, h6⟩ := h;refine (LeS_frz h1 h2 h3).trans (LeS_list ρ hk (zJM h4) (zHF ?_) hZ h6);rw [← fs_eq]; exact h5
theorem zAL (hT : ∀ i x, T i = some x → tinfo P i = x) {c : Code} {Q : Exit → St → Prop} {s : St} {ι : Type} (L : ι → List (Nat × PV)) (H : ι → List (Nat × Blk)) (Z : List Nat) (k : Nat) (Inv : ι → Prop) (μ : ι → Nat) (i0 : ι) (h0 : Inv i0) (hk : n0 ≤ k) (hZ : ∀ r ∈ Z, r < k)
 (hs : Kept n0 s (L i0) (H i0) Z k)
 (round : ∀ i, Inv i → VC P T G n0 c (thenQ (fun s' => ∃ i', (Inv i' ∧ μ i' < μ i) ∧ Kept n0 s' (L i') (H i') Z k) Q) ⟨sv (L i), hv (H i), zv Z, k⟩) :
 loopV P G (FnC P G) (FnH P G) (LeS G, n0) c Q s := by
 unfold loopV;refine zIT L H (fun _ => Z) k Inv μ i0 h0 (hs.le hk hZ) fun i hi => ?_
 have := round i hi;rw [sv_eq, hv_eq, zv_eq] at this
 exact zMP hT (fun e s h => by
  cases e <;> first | (obtain ⟨i', ⟨h1, h2⟩, h3⟩ := h; exact ⟨i', h1, h2, h3.le hk hZ⟩) | exact h) this
end
theorem zAN {α : Type} {h : Hp} {n r len sz : Nat} {agg : Bool} {els : List PV} {f : α → PV} {l : List α} (hb : h r = some ⟨els, sz, agg⟩) (he : els = l.map f) (hl : len = l.length) (hf : ∀ x, frz h n (f x) = some (f x, [])) : frz h (n + 1) (.own r 0 len) = some (.imm (l.map f), [r]) := by
 subst hl he;unfold frz;simp only [hb];have e : ((l.map f).drop 0).take l.length = l.map f := by rw [List.drop_zero, List.take_of_length_le (by simp)]
 simp only [e, zJU hf l];rw [if_pos (by simp)]
theorem zAF {f : PV → Option (PV × List Nat)} {c d : PV} {cs ds : List PV} {ks ls : List Nat} (h1 : f c = some (d, ks)) (h2 : mapF f cs = some (ds, ls)) : mapF f (c :: cs) = some (d :: ds, ks ++ ls) := by
 simp only [mapF, h1, h2]
theorem zAM {α : Type} {f : α → PV} {l : List α} (hf : ∀ x, nr 3 (f x) = true ∧ f x ≠ .any) : ∀ e ∈ l.map f, nr 3 e = true ∧ e ≠ .any := fun e he => by obtain ⟨x, _, rfl⟩ := List.mem_map.1 he; exact hf x
theorem zEL {h : Hp} {n : Nat} {cs ds : List PV} {ks : List Nat} (h1 : mapF (frz h n) cs = some (ds, ks)) : frz h (n + 1) (.agg cs) = some (.agg ds, ks) := by
 unfold frz;simp only [h1]
theorem zEK {h : Hp} {n : Nat} {cs ds : List PV} {ks : List Nat} (h1 : mapF (frz h n) cs = some (ds, ks)) : frz h (n + 1) (.tup cs) = some (.tup ds, ks) := by
 unfold frz;simp only [h1]
end Go.PI
namespace Go.PI
open Go.RowKit
section
variable {P : Program} {G : Gl} {xs : List (List PV)} {k : Nat}
end
end Go.PI
namespace Go.PI
section
variable {P : Program} {T : Ti} {G : Gl} {n0 : Nat} {C : Contracts}
theorem fnH_v (hm : P.follows .mixedOrders = true) (hT : ∀ i x, T i = some x → tinfo P i = x) {f : FuncId} {fn : Func} {c : Code} {rs : List ResultVar} {nt : Nat} (ok : FnOk P f fn c rs nt) {ds : List PV} (hl : ds.length ≤ nt) {K : PV → St → Prop} {t : Tm} {h : Hp} {z : Fz} {nx : Nat}
 (hv : VC P T G nx c (vEnd T rs K) ⟨argV ds, h, z, nx⟩) : FnH P G f ds K ⟨t, h, z, nx⟩ :=
 zHC hm ok hl (s := ⟨t, h, z, nx⟩) (by rw [← zMM]; exact zMP hT (fun e s h => zEP hT h) hv)
theorem zF8 {f : FuncId} {args : List PV} {d : Option Nat} {K : FP → St → Prop} {t : Tm} {h : Hp} {z : Fz} {nx : Nat}
 (hI : FnH P G f args (fun v s' => match s' with | ⟨_, h', z', nx'⟩ => backV K t d v h' z' nx' ⟨[], [], []⟩) ⟨t, h, z, nx⟩) : callV C (FnH P G) false f args d K ⟨t, h, z, nx⟩ :=
 callV_inl (FnH.mono _ _ _ _ _ (fun v s' hk => by obtain ⟨t', h', z', nx'⟩ := s'; exact zHP hk) hI)
end
end Go.PI
namespace Go.PI
theorem wrap32 (n : Int) : IntKind.wrap .u32 n = n % 4294967296 := by simp [IntKind.wrap, IntKind.signed, IntKind.bits]
theorem wrap64 (n : Int) : IntKind.wrap .u64 n = n % 18446744073709551616 := by simp [IntKind.wrap, IntKind.signed, IntKind.bits]
theorem zCD {n : Int} {K : Int → Prop} (h : K (n % 4294967296)) : ov .u32 n K := ov_to (wrap32 n) h
theorem zHQ {n : Int} {K : Int → Prop} (h : K (n % 18446744073709551616)) : ov .u64 n K := ov_to (wrap64 n) h
theorem zLE {b : Int} (h : 0 ≤ b ∧ b ≤ 64) : shl2 .u64 b = 2 ^ b.toNat := by
 rw [zH9]; unfold shl20;have : min b.toNat (IntKind.bits .u64) = b.toNat := by show min b.toNat 64 = _; omega
 rw [this]
theorem zGC : shl2 .u64 32 = 4294967296 := by rw [zLE (by decide)]; rfl
theorem zC0 {a : Int} : a.fdiv (shl2 .u64 32) = a / 4294967296 := by rw [zGC, Int.fdiv_eq_ediv_of_nonneg _ (by decide)]
theorem bne_dec {α : Type} [DecidableEq α] (a b : α) : (a != b) = decide (a ≠ b) := by by_cases h : a = b <;> simp [h]
theorem beq_dec' {α : Type} [DecidableEq α] (a b : α) : (a == b) = decide (a = b) := by by_cases h : a = b <;> simp [h]
theorem shl2_63 : shl2 .u64 63 = 9223372036854775808 := by rw [zLE (by decide)]; rfl
theorem zL1 {a : Int} : a.fdiv (shl2 .u64 63) = a / 9223372036854775808 := by rw [shl2_63, Int.fdiv_eq_ediv_of_nonneg _ (by decide)]
def nv : List Int → Nat
 | [] => 0
 | x :: xs => x.toNat + 4294967296 * nv xs
def okN (xs : List Int) : Prop := ∀ x ∈ xs, 0 ≤ x ∧ x < 4294967296
def pw (k : Nat) : Nat := 4294967296 ^ k
theorem zCG : pw 0 = 1 := rfl
theorem zA2 (k : Nat) : pw (k + 1) = 4294967296 * pw k := by unfold pw; rw [Nat.pow_succ, Nat.mul_comm]
theorem zIH (k : Nat) : 0 < pw k := Nat.pow_pos (by decide)
theorem zLK (j k : Nat) : pw (j + k) = pw j * pw k := Nat.pow_add ..
theorem zCH {j k : Nat} (h : j ≤ k) : pw j ≤ pw k := Nat.pow_le_pow_right (by decide) h
theorem zDQ : okN [] := fun x h => by cases h
theorem okN_cons {x : Int} {xs : List Int} : okN (x :: xs) ↔ (0 ≤ x ∧ x < 4294967296) ∧ okN xs := by simp [okN]
theorem okN_append {xs ys : List Int} : okN (xs ++ ys) ↔ okN xs ∧ okN ys := by
 constructor
 ·exact fun h => ⟨fun x hx => h x (List.mem_append_left _ hx), fun x hx => h x (List.mem_append_right _ hx)⟩
 ·rintro ⟨h1, h2⟩ x hx
  rcases List.mem_append.1 hx with hx | hx
  ·exact h1 x hx
  ·exact h2 x hx
theorem okN_take {xs : List Int} (h : okN xs) (k : Nat) : okN (xs.take k) := fun x hx => h x (List.mem_of_mem_take hx)
theorem okN_drop {xs : List Int} (h : okN xs) (k : Nat) : okN (xs.drop k) := fun x hx => h x (List.mem_of_mem_drop hx)
theorem zC2 (n : Nat) : okN (List.replicate n 0) := fun x hx => by rw [List.eq_of_mem_replicate hx]; omega
theorem zCT {xs : List Int} (h : okN xs) {i : Nat} (hi : i < xs.length) : 0 ≤ xs[i]! ∧ xs[i]! < 4294967296 := by
 rw [getElem!_pos xs i hi]; exact h _ (List.getElem_mem hi)
theorem zBV {xs : List Int} (h : okN xs) (i : Nat) {x : Int} (hx : 0 ≤ x ∧ x < 4294967296) : okN (xs.set i x) := fun y hy => by
 rcases List.mem_or_eq_of_mem_set hy with hy | hy
 ·exact h y hy
 ·subst hy; exact hx
theorem zG0 (ys : List Int) : ∀ xs : List Int, nv (xs ++ ys) = nv xs + pw xs.length * nv ys
 | [] => by simp [nv, pw]
 | x :: xs => by
   simp only [List.cons_append, nv, zG0 ys xs, List.length_cons, zA2, Nat.mul_add, Nat.mul_assoc];omega
theorem zD1 : ∀ {xs : List Int}, okN xs → nv xs < pw xs.length
 | [], _ => by simp [nv, pw]
 | x :: xs, h => by
   rw [okN_cons] at h;have := zD1 h.2;simp only [nv, List.length_cons, zA2];omega
theorem zIO : ∀ n : Nat, nv (List.replicate n 0) = 0
 | 0 => rfl
 | n + 1 => by simp [List.replicate_succ, nv, zIO n]
def lb (a : List Int) (i : Nat) : Nat := (a.getD i 0).toNat
def nk (a : List Int) (k : Nat) : Nat := nv (a.take k)
theorem zBW (a : List Int) : nk a 0 = 0 := by simp [nk, nv]
theorem zA7 (a : List Int) (k : Nat) : nk a (k + 1) = nk a k + pw k * lb a k := by
 unfold nk lb;by_cases h : k < a.length
 ·rw [List.take_succ_eq_append_getElem h, zG0, List.length_take, Nat.min_eq_left (by omega)]
  simp [nv, List.getD, h]
 ·rw [List.take_of_length_le (by omega), List.take_of_length_le (by omega)]
  simp [List.getD, List.getElem?_eq_none (Nat.le_of_not_lt h)]
theorem zBS {a : List Int} {k : Nat} (h : a.length ≤ k) : nk a k = nv a := by unfold nk; rw [List.take_of_length_le h]
theorem zCI {a : List Int} (h : okN a) (k : Nat) : lb a k < 4294967296 := by
 unfold lb;by_cases hk : k < a.length
 ·have := h _ (List.getElem_mem hk)
  simp only [List.getD, List.getElem?_eq_getElem hk, Option.getD_some];omega
 ·simp [List.getD, List.getElem?_eq_none (Nat.le_of_not_lt hk)]
theorem zMT {a : List Int} (h : okN a) : ∀ k, nk a k < pw k
 | 0 => by simp [nk, nv, pw]
 | k + 1 => by
   have h1 := zMT h k;have h2 := zCI h k;rw [zA7, zA2];have h3 : pw k * (lb a k + 1) ≤ pw k * 4294967296 := Nat.mul_le_mul_left _ h2;rw [Nat.mul_add, Nat.mul_one] at h3;omega
theorem zBF {a : List Int} {k : Nat} (h : k < a.length) (ho : okN a) : (lb a k : Int) = a[k]! := by
 have := zCT ho h;unfold lb;rw [getElem!_pos a k h] at *
 simp only [List.getD, List.getElem?_eq_getElem h, Option.getD_some];omega
theorem zG4 {a : List Int} {k : Nat} (h : a.length ≤ k) : lb a k = 0 := by simp [lb, List.getD, List.getElem?_eq_none h]
def nt (a : List Int) (k : Nat) : Nat := nv (a.drop k)
theorem nt_succ {a : List Int} {k : Nat} (h : k < a.length) (ho : okN a) : nt a k = lb a k + 4294967296 * nt a (k + 1) := by
 unfold nt;rw [List.drop_eq_getElem_cons h, nv]
 congr 1
 have := zBF h ho;rw [getElem!_pos a k h] at this;omega
theorem zEA {a : List Int} {k : Nat} (h : a.length ≤ k) : nt a k = 0 := by unfold nt; rw [List.drop_of_length_le h]; rfl
theorem zG1 (a : List Int) : nt a 0 = nv a := by simp [nt]
theorem zCA (a : List Int) (k : Nat) : nv a = nk a k + pw k * nt a k := by
 unfold nk nt;by_cases h : k ≤ a.length
 ·conv => lhs; rw [← List.take_append_drop k a]
  rw [zG0, List.length_take, Nat.min_eq_left h]
 ·rw [List.take_of_length_le (by omega), List.drop_of_length_le (by omega)]; simp [nv]
def limF : Nat → Nat → List Int
 | 0, _ => []
 | f + 1, n => if n = 0 then [] else ((n % 4294967296 : Nat) : Int) :: limF f (n / 4294967296)
def lims (n : Nat) : List Int := limF n n
theorem limF_fuel : ∀ (f g n : Nat), n ≤ f → n ≤ g → limF f n = limF g n
 | 0, g, n, h, _ => by
   obtain rfl : n = 0 := by omega
   cases g <;> simp [limF]
 | f + 1, 0, n, _, h => by
   obtain rfl : n = 0 := by omega
   simp [limF]
 | f + 1, g + 1, n, h1, h2 => by
   simp only [limF]
   split
   ·rfl
   ·rw [limF_fuel f g _ (by omega) (by omega)]
theorem zC3 : lims 0 = [] := rfl
theorem lims_pos {n : Nat} (h : n ≠ 0) : lims n = ((n % 4294967296 : Nat) : Int) :: lims (n / 4294967296) := by
 unfold lims;obtain ⟨m, rfl⟩ : ∃ m, n = m + 1 := ⟨n - 1, by omega⟩;rw [limF, if_neg h, limF_fuel m _ _ (by omega) (Nat.le_refl _)]
theorem zHG : ∀ (N n : Nat), n < N → okN (lims n) ∧ nv (lims n) = n ∧ (lims n = [] ∨ (lims n).getLast? ≠ some 0)
 | 0, n, h => by omega
 | N + 1, n, h => by
   by_cases h0 : n = 0
   ·subst h0; exact ⟨zDQ, rfl, Or.inl rfl⟩
   ·rw [lims_pos h0]
    obtain ⟨h1, h2, h3⟩ := zHG N (n / 4294967296) (by omega);refine ⟨okN_cons.2 ⟨by omega, h1⟩, by rw [nv, h2]; omega, Or.inr ?_⟩;by_cases hm : n / 4294967296 = 0
    ·rw [hm, zC3]; simp; omega
    ·rw [lims_pos hm] at h3 ⊢
     rw [List.getLast?_cons_cons];exact h3.resolve_left (by simp)
theorem zAO (n : Nat) : okN (lims n) := (zHG _ n (Nat.lt_succ_self _)).1
theorem zAQ (n : Nat) : nv (lims n) = n := (zHG _ n (Nat.lt_succ_self _)).2.1
def canN (xs : List Int) : Prop := okN xs ∧ (xs = [] ∨ xs.getLast? ≠ some 0)
theorem zDY (n : Nat) : canN (lims n) := ⟨zAO n, (zHG _ n (Nat.lt_succ_self _)).2.2⟩
theorem can_tail {x : Int} {xs : List Int} (h : canN (x :: xs)) : canN xs := by
 refine ⟨(okN_cons.1 h.1).2, ?_⟩;cases xs with
 | nil => exact Or.inl rfl
 | cons y ys => right; have := h.2.resolve_left (by simp); rwa [List.getLast?_cons_cons] at this
theorem zL9 : ∀ {xs : List Int}, canN xs → xs ≠ [] → pw (xs.length - 1) ≤ nv xs
 | [], _, h => absurd rfl h
 | [x], h, _ => by
   have h1 := (okN_cons.1 h.1).1;have h2 := h.2.resolve_left (by simp);simp at h2;simp only [List.length_singleton, nv, zCG, Nat.sub_self];omega
 | x :: y :: ys, h, _ => by
   have := zL9 (can_tail h) (by simp);simp only [List.length_cons, Nat.add_sub_cancel] at this ⊢;rw [nv, zA2];omega
theorem zLV : ∀ {xs : List Int}, canN xs → lims (nv xs) = xs
 | [], _ => rfl
 | x :: xs, h => by
   have hp := zL9 h (by simp);have hpp := zIH ((x :: xs).length - 1);have h1 := (okN_cons.1 h.1).1;rw [lims_pos (by omega)];have e1 : nv (x :: xs) % 4294967296 = x.toNat := by rw [nv]; omega
   have e2 : nv (x :: xs) / 4294967296 = nv xs := by rw [nv]; omega
   rw [e1, e2, zLV (can_tail h)]
   congr 1
   omega
theorem zBN {n k : Nat} (h : n < pw k) : (lims n).length ≤ k := by
 by_cases h0 : lims n = []
 ·rw [h0]; simp
 ·have := zL9 (zDY n) h0
  rw [zAQ] at this;by_cases hk : (lims n).length ≤ k
  ·exact hk
  ·have := zCH (show k ≤ (lims n).length - 1 by omega)
   omega
theorem zAT {xs : List Int} (h : okN xs) : (lims (nv xs)).length ≤ xs.length := zBN (zD1 h)
theorem zCM {n : Nat} (h : lims n = []) : n = 0 := by rw [← zAQ n, h]; rfl
theorem zH7 {l : List Int} (ho : okN l) {n : Nat} (hn : n ≤ l.length) (hz : ∀ j, n ≤ j → j < l.length → l[j]! = 0) (hl : n = 0 ∨ l[n - 1]! ≠ 0) : l.take n = lims (nv l) := by
 have hd : l.drop n = List.replicate (l.length - n) 0 := by
  refine List.ext_getElem (by simp) fun i h1 h2 => ?_
  have := hz (n + i) (by omega) (by simp at h1; omega);rw [getElem!_pos l (n + i) (by simp at h1; omega)] at this;rw [List.getElem_drop, List.getElem_replicate, this]
 have hv : nv l = nv (l.take n) := by
  conv => lhs; rw [← List.take_append_drop n l]
  rw [zG0, hd, zIO]; simp
 rw [hv, zLV];refine ⟨okN_take ho n, ?_⟩;rcases hl with rfl | hl
 ·left; simp
 ·by_cases h0 : n = 0
  ·subst h0; left; simp
  ·right
   rw [List.getLast?_eq_getElem?, List.length_take, Nat.min_eq_left hn, List.getElem?_take_of_lt (by omega), List.getElem?_eq_getElem (by omega)];rw [getElem!_pos l (n - 1) (by omega)] at hl
   simpa using hl
theorem zIQ {a b : List Int} (ha : okN a) (hb : okN b) {i : Nat} (hd : nt a (i + 1) = nt b (i + 1)) (h1 : i < a.length ∨ nt a i = lb a i + 4294967296 * nt a (i + 1)) (h2 : i < b.length ∨ nt b i = lb b i + 4294967296 * nt b (i + 1)) (hlt : lb a i < lb b i) : nv a < nv b := by
 have e1 : nt a i = lb a i + 4294967296 * nt a (i + 1) := h1.elim (fun h => nt_succ h ha) id;have e2 : nt b i = lb b i + 4294967296 * nt b (i + 1) := h2.elim (fun h => nt_succ h hb) id;rw [zCA a i, zCA b i, e1, e2, hd];have h3 := zMT ha i;have h4 : pw i * (lb a i + 1) ≤ pw i * lb b i := Nat.mul_le_mul_left _ hlt;rw [Nat.mul_add, Nat.mul_one] at h4;rw [Nat.mul_add, Nat.mul_add (pw i) (lb b i)];omega
theorem zCU {a : List Int} (ha : okN a) (i : Nat) : nt a i = lb a i + 4294967296 * nt a (i + 1) := by
 by_cases h : i < a.length
 ·exact nt_succ h ha
 ·rw [zEA (by omega), zEA (by omega), zG4 (by omega)]
theorem zIP {a b : List Int} (ha : canN a) (hb : canN b) (h : a.length < b.length) : nv a < nv b := by
 have h1 := zD1 ha.1;have h2 := zL9 hb (by intro e; rw [e] at h; simp at h);have h3 := zCH (show a.length ≤ b.length - 1 by omega);omega
theorem zF5 {a : List Int} {i : Nat} (x : Int) (h : i < a.length) : nk (a.set i x) (i + 1) = nk a i + pw i * x.toNat := by
 rw [zA7];have e1 : nk (a.set i x) i = nk a i := by unfold nk; rw [List.take_set_of_le (Nat.le_refl _)]
 have e2 : lb (a.set i x) i = x.toNat := by simp [lb, List.getD, h]
 rw [e1, e2]
theorem zDS (p s : Nat) : p * (s % 4294967296) + (s / 4294967296) * (4294967296 * p) = p * s := by
 have h : p * s = p * (4294967296 * (s / 4294967296) + s % 4294967296) := by rw [Nat.div_add_mod]
 rw [h, Nat.mul_add, Nat.mul_comm (s / 4294967296), Nat.mul_comm 4294967296 p, Nat.mul_assoc];omega
theorem set_map {α : Type} (f : α → PV) (l : List α) (i : Nat) (x : α) : (l.map f).set i (f x) = (l.set i x).map f := (List.map_set ..).symm
theorem zCR {α : Type} {f : α → PV} {l : List α} {i j : Nat} {x y : α} (e : i = j) (e' : x = y) : (l.map f).set i (f x) = (l.set j y).map f := by subst e e'; exact set_map f l i x
theorem zJ7 {a : List Int} {j : Nat} (x : Int) (h : j < a.length) : nv (a.set j x) + pw j * lb a j = nv a + pw j * x.toNat := by
 have e1 := zCA (a.set j x) (j + 1);have e2 := zCA a (j + 1);have e3 : nt (a.set j x) (j + 1) = nt a (j + 1) := by unfold nt; rw [List.drop_set_of_lt (by omega)]
 have e4 := zA7 a j;rw [zF5 x h, e3] at e1;omega
theorem prod_le {x y : Int} (hx : 0 ≤ x ∧ x < 4294967296) (hy : 0 ≤ y ∧ y < 4294967296) : 0 ≤ x * y ∧ x * y ≤ 18446744065119617025 :=
 ⟨Int.mul_nonneg hx.1 hy.1, by
   have := Int.mul_le_mul (show x ≤ 4294967295 by omega) (show y ≤ 4294967295 by omega) hy.1 (by decide)
   omega⟩
theorem zKT (n j : Nat) : lb (List.replicate n 0) j = 0 := by
 unfold lb;by_cases h : j < n
 ·simp [List.getD, h]
 ·simp [List.getD, Nat.le_of_not_lt h]
theorem zLI {α : Type} {f : α → PV} {n m : Nat} {x : α} (e : n = m) : List.replicate n (f x) = (List.replicate m x).map f := by subst e; simp
theorem zIW {a : List Int} {i j : Nat} {x : Int} (h : i ≠ j) : lb (a.set i x) j = lb a j := by simp [lb, List.getD, List.getElem?_set, h]
theorem lims_add_len {a b n : Nat} (h1 : a < pw n) (h2 : b < pw n) : (lims (a + b)).length ≤ n + 1 := zBN (by rw [zA2]; omega)
end Go.PI
namespace Go.PI
abbrev encN (ns : List Int) : PV := .imm (ns.map (.int .u32))
structure RatL where
 neg : Bool
 num : List Int
 den : List Int
 deriving DecidableEq, Inhabited
def encRat (r : RatL) : PV := .agg [.bool r.neg, encN r.num, encN r.den]
structure DecL where
 kind : Int
 index : Int
 rat : RatL
 deriving DecidableEq, Inhabited
def encDec (d : DecL) : PV := .agg [.int .i64 d.kind, .int .i64 d.index, .bool d.rat.neg, encN d.rat.num, encN d.rat.den]
structure RowL where
 kind : Int
 index : Int
 lo : Int
 hi : Int
 deriving DecidableEq, Inhabited
def encRow (r : RowL) : PV := .agg [.int .i64 r.kind, .int .i64 r.index, .int .i64 r.lo, .int .i64 r.hi]
structure MultL where
 row : RowL
 coef : RatL
 deriving DecidableEq, Inhabited
def encMult (m : MultL) : PV := .agg [.int .i64 m.row.kind, .int .i64 m.row.index, .int .i64 m.row.lo, .int .i64 m.row.hi, .bool m.coef.neg, encN m.coef.num, encN m.coef.den]
structure LemL where
 unit : Int
 upper : Bool
 value : RatL
 proof : List MultL
 deriving DecidableEq, Inhabited
def encLem (l : LemL) : PV := .agg [.int .i64 l.unit, .bool l.upper, .bool l.value.neg, encN l.value.num, encN l.value.den, .imm (l.proof.map encMult)]
inductive NodeL where
 | mk (lemmas : List LemL) (split : DecL) (kids : List NodeL) (empty : Bool) (proof : List MultL)
instance : Inhabited NodeL := ⟨.mk [] default [] false []⟩
namespace NodeL
def lemmas : NodeL → List LemL | .mk l _ _ _ _ => l
def split : NodeL → DecL | .mk _ s _ _ _ => s
def kids : NodeL → List NodeL | .mk _ _ k _ _ => k
def empty : NodeL → Bool | .mk _ _ _ e _ => e
def proof : NodeL → List MultL | .mk _ _ _ _ p => p
theorem sizeOf_kid {n k : NodeL} (h : k ∈ n.kids) : SizeOf.sizeOf k < SizeOf.sizeOf n := by
 cases n with
 | mk l s ks e p =>
   have := List.sizeOf_lt_of_mem (show k ∈ ks from h);simp only [NodeL.mk.sizeOf_spec];omega
end NodeL
def encNode (n : NodeL) : PV :=
 .agg [.imm (n.lemmas.map encLem), .int .i64 n.split.kind, .int .i64 n.split.index, .bool n.split.rat.neg, encN n.split.rat.num, encN n.split.rat.den, .imm (n.kids.attach.map fun ⟨k, _⟩ => encNode k), .bool n.empty, .imm (n.proof.map encMult)]
termination_by SizeOf.sizeOf n
decreasing_by exact NodeL.sizeOf_kid ‹_›
theorem encNode_eq (n : NodeL) : encNode n =
 .agg [.imm (n.lemmas.map encLem), .int .i64 n.split.kind, .int .i64 n.split.index, .bool n.split.rat.neg, encN n.split.rat.num, encN n.split.rat.den, .imm (n.kids.map encNode), .bool n.empty, .imm (n.proof.map encMult)] := by
 rw [encNode]
 congr 8
 simp [List.attach_map_val]
abbrev nodeV (n : NodeL) : PV :=
 .agg [.imm (n.lemmas.map encLem), .int .i64 n.split.kind, .int .i64 n.split.index, .bool n.split.rat.neg, encN n.split.rat.num, encN n.split.rat.den, .imm (n.kids.map encNode), .bool n.empty, .imm (n.proof.map encMult)]
theorem zE9 (n : NodeL) : encNode n = nodeV n := encNode_eq n
theorem oK_node {l : List NodeL} {i : Int} {K : PV → Prop} {j : Nat} (e : i = (j : Int)) (h : j < l.length) (k : K (nodeV l[j]!)) : oK (nth (l.map encNode) i.toNat) K := zAY e h (by rw [zE9]; exact k)
theorem oK_at {α : Type} [Inhabited α] {f : α → PV} {l : List α} {i : Int} (j : Nat) {K : PV → Prop} (e : i.toNat = j) (h : j < l.length) (k : K (f l[j]!)) : oK (nth (l.map f) i.toNat) K := by rw [e]; exact oK_map h k
theorem oK_node0 {l : List NodeL} {K : PV → Prop} (h : 0 < l.length) (k : K (nodeV l[0]!)) : oK (nth (l.map encNode) (Int.toNat 0)) K := oK_at 0 rfl h (by rw [zE9]; exact k)
theorem oK_node1 {l : List NodeL} {K : PV → Prop} (h : 1 < l.length) (k : K (nodeV l[1]!)) : oK (nth (l.map encNode) (Int.toNat 1)) K := oK_at 1 rfl h (by rw [zE9]; exact k)
theorem zGI {α : Type} [Inhabited α] {f : α → PV} {l : List α} {K : PV → Prop} (h : 0 < l.length) (k : K (f l[0]!)) : oK (nth (l.map f) (Int.toNat 0)) K := oK_at 0 rfl h k
theorem zCX (x : NodeL) : (encNode x).cells.length = 9 ∧ (encNode x).isAgg = true := by rw [zE9]; exact ⟨rfl, rfl⟩
noncomputable instance : DecidableEq NodeL := fun a b => Classical.propDecidable (a = b)
def RatL.sm (r : RatL) : Prop := r.num.length < 2097152 ∧ r.den.length < 2097152
def MultL.sm (m : MultL) : Prop := m.coef.sm
def smMults (l : List MultL) : Prop := l.length < 2097152 ∧ ∀ m ∈ l, m.sm
def LemL.sm (l : LemL) : Prop := l.value.sm ∧ smMults l.proof
def smLems (l : List LemL) : Prop := l.length < 2097152 ∧ ∀ m ∈ l, m.sm
def DecL.sm (d : DecL) : Prop := d.rat.sm
inductive NodeL.Sm : NodeL → Prop
 | mk (n : NodeL) (h1 : smLems n.lemmas) (h2 : n.split.sm) (h3 : n.kids.length < 2097152) (h4 : ∀ k ∈ n.kids, NodeL.Sm k) (h5 : smMults n.proof) : NodeL.Sm n
theorem NodeL.Sm.lems {n : NodeL} (h : n.Sm) : smLems n.lemmas := by cases h; assumption
theorem NodeL.Sm.dec {n : NodeL} (h : n.Sm) : n.split.sm := by cases h; assumption
theorem NodeL.Sm.len {n : NodeL} (h : n.Sm) : n.kids.length < 2097152 := by cases h; assumption
theorem NodeL.Sm.kid {n : NodeL} (h : n.Sm) {k : NodeL} (hk : k ∈ n.kids) : k.Sm := by
 cases h with | mk _ _ _ _ h4 _ => exact h4 k hk
theorem NodeL.Sm.prf {n : NodeL} (h : n.Sm) : smMults n.proof := by cases h; assumption
theorem bang_mem {α : Type} [Inhabited α] {l : List α} {i : Nat} (h : i < l.length) : l[i]! ∈ l := by
 rw [getElem!_pos l i h]; exact List.getElem_mem h
section
variable {h : Hp} {n : Nat}
theorem zBZ (x : Int) : frz h n (.int .u32 x) = some (.int .u32 x, []) := by cases n <;> rfl
theorem frz_rat (r : RatL) : frz h (n + 1) (encRat r) = some (encRat r, []) := by cases n <;> rfl
theorem frz_dec (r : DecL) : frz h (n + 1) (encDec r) = some (encDec r, []) := by cases n <;> rfl
end
def lemWt (l : LemL) : Nat := 1 + l.proof.length
def NodeL.wt (n : NodeL) : Nat := 1 + (n.lemmas.map lemWt).sum + n.proof.length + (n.kids.attach.map fun ⟨k, _⟩ => NodeL.wt k).sum
termination_by SizeOf.sizeOf n
decreasing_by exact NodeL.sizeOf_kid ‹_›
theorem NodeL.wt_eq (n : NodeL) : n.wt = 1 + (n.lemmas.map lemWt).sum + n.proof.length + (n.kids.map NodeL.wt).sum := by
 rw [NodeL.wt]
 congr 2
 simp
theorem sum_take_succ {α : Type} [Inhabited α] {f : α → Nat} {l : List α} {i : Nat} (h : i < l.length) : ((l.take (i + 1)).map f).sum = ((l.take i).map f).sum + f l[i]! := by
 rw [List.take_succ_eq_append_getElem h, List.map_append, List.sum_append, getElem!_pos l i h]; simp
theorem sum_take_le {α : Type} {f : α → Nat} {l : List α} {i : Nat} : ((l.take i).map f).sum ≤ (l.map f).sum := by
 conv => rhs; rw [← List.take_append_drop i l, List.map_append, List.sum_append]
 omega
theorem wt_kid {n k : NodeL} (h : k ∈ n.kids) : k.wt < n.wt := by
 rw [NodeL.wt_eq n]
 have : ∀ (l : List NodeL), k ∈ l → k.wt ≤ (l.map NodeL.wt).sum := by
  intro l
  induction l with
  | nil => intro h; cases h
  | cons a l ih =>
    intro h;simp only [List.map_cons, List.sum_cons];rcases List.mem_cons.1 h with rfl | h
    ·omega
    ·have := ih h; omega
 have := this _ h;omega
theorem zIV (l : List LemL) : l.length + (l.map fun x => x.proof.length).sum = (l.map lemWt).sum := by
 induction l with
 | nil => rfl
 | cons a l ih => simp only [List.map_cons, List.sum_cons, List.length_cons, lemWt]; simp only [← ih]; omega
def NodeL.cnt (n : NodeL) : Nat := 1 + (n.kids.attach.map fun ⟨k, _⟩ => NodeL.cnt k).sum
termination_by SizeOf.sizeOf n
decreasing_by exact NodeL.sizeOf_kid ‹_›
theorem NodeL.cnt_eq (n : NodeL) : n.cnt = 1 + (n.kids.map NodeL.cnt).sum := by
 rw [NodeL.cnt]
 congr 1
 simp
def leafOk (x : NodeL) : Bool := decide (x.split = ⟨0, 0, ⟨false, [], []⟩⟩)
def innerOk (x : NodeL) : Bool := decide (x.kids.length = 2 ∧ 1 ≤ x.split.kind ∧ x.split.kind ≤ 4 ∧ x.empty = false ∧ x.proof.length = 0)
def formOk : Nat → NodeL → Bool
 | d, n => if n.kids.length = 0 then leafOk n else innerOk n && decide (d ≠ 0) && (n.kids.attach.all fun ⟨k, _⟩ => formOk (d - 1) k)
termination_by _ n => SizeOf.sizeOf n
decreasing_by exact NodeL.sizeOf_kid ‹_›
theorem zE8 {d : Nat} {n : NodeL} (h : n.kids.length = 0) : formOk d n = leafOk n := by rw [formOk, if_pos h]
theorem zB8 {d : Nat} {n : NodeL} (h : n.kids.length ≠ 0) : formOk d n = (innerOk n && decide (d ≠ 0) && n.kids.all fun k => formOk (d - 1) k) := by
 rw [formOk, if_neg h]
 congr 1
 simp
theorem zK7 {α : Type} [Inhabited α] {l : List α} (h : l.length = 2) : l = [l[0]!, l[1]!] := by
 match l, h with
 | [a, b], _ => rfl
theorem zEU {d : Nat} {n : NodeL} (h : n.kids.length = 2) : formOk d n = (innerOk n && decide (d ≠ 0) && (formOk (d - 1) n.kids[0]! && formOk (d - 1) n.kids[1]!)) := by
 rw [zB8 (by omega)]
 congr 1
 have e := zK7 h;generalize n.kids[0]! = a at *
 generalize n.kids[1]! = b at *
 rw [e]
 simp
theorem cnt_two {n : NodeL} (h : n.kids.length = 2) : n.cnt = 1 + n.kids[0]!.cnt + n.kids[1]!.cnt := by
 rw [NodeL.cnt_eq];have e := zK7 h;generalize n.kids[0]! = a at *
 generalize n.kids[1]! = b at *
 rw [e]
 simp
 omega
theorem zHK {n : NodeL} (h : n.kids.length = 0) : n.cnt = 1 := by
 rw [NodeL.cnt_eq, List.length_eq_zero_iff.1 h]; rfl
theorem zL6 (n : NodeL) : 1 ≤ n.cnt := by rw [NodeL.cnt_eq]; omega
def NodeL.valid (n : NodeL) : Bool := formOk 2048 n && decide (n.cnt ≤ 65536)
def oppK (k : Int) : Int := if k = 1 then 2 else if k = 2 then 1 else if k = 3 then 4 else if k = 4 then 3 else k
def opp (d : DecL) : DecL := { d with kind := oppK d.kind }
def kidD (n : NodeL) (i : Nat) : DecL := if i = 1 then opp n.split else n.split
theorem zip_mem {α : Type} {l : List α} {k : Nat} {p : α × Nat} (h : p ∈ l.zipIdx k) : p.1 ∈ l := by
 have := List.mem_map_of_mem (f := Prod.fst) h
 rwa [List.zipIdx_map_fst] at this
def NodeL.all (n : NodeL) : List (List DecL × NodeL) := ([], n) :: (n.kids.zipIdx.attach.flatMap fun ⟨p, _⟩ => (NodeL.all p.1).map fun q => (kidD n p.2 :: q.1, q.2))
termination_by SizeOf.sizeOf n
decreasing_by exact NodeL.sizeOf_kid (zip_mem ‹_›)
def NodeL.upto (n : NodeL) (i : Nat) : List (List DecL × NodeL) := ([], n) :: ((n.kids.zipIdx.take i).flatMap fun p => (NodeL.all p.1).map fun q => (kidD n p.2 :: q.1, q.2))
theorem take_all_iff {α : Type} [DecidableEq α] [Inhabited α] {xs ys : List α} (hl : xs.length = ys.length) : xs = ys ↔ ∀ j, j < xs.length → xs[j]! = ys[j]! := by
 constructor
 ·rintro rfl _ _; rfl
 ·intro h
  refine List.ext_getElem hl fun i h1 h2 => ?_
  have := h i h1
  rwa [getElem!_pos xs i h1, getElem!_pos ys i h2] at this
end Go.PI
namespace Go.PI
theorem beqF {α : Type} [BEq α] [LawfulBEq α] {a b : α} (h : (a == b) = false) : a ≠ b := fun e => by subst e; simp at h
theorem bneT {α : Type} [BEq α] [LawfulBEq α] {a b : α} (h : (a != b) = true) : a ≠ b := by simpa using h
theorem bneF {α : Type} [BEq α] [LawfulBEq α] {a b : α} (h : (a != b) = false) : a = b := by simpa using h
structure Hq (q : Prop) : Prop where
 h : q
theorem stp {p q : Prop} (h : q) (e : Hq q → p := by
 intro hq
 (first
   | (with_reducible first | refine r_op ?_ | refine r_seq ?_ | refine zBC ?_ | refine zIC ?_ | refine r_nil ?_ | refine zEI ?_ | refine zGH ?_ | refine zIG ?_ | refine zIE ?_ | refine r_ret ?_ | refine zEG ?_ | refine zGF ?_ | refine r_inR ?_ | refine r_inN ?_ | refine zIF ?_ | refine zEH ?_ | refine zGG ?_ | refine r_inE ?_ | refine zID ?_)
   | ((conv => whnf); first
     | with_reducible refine Next.mk ?_
     | with_reducible refine zEB (fun _ => ⟨rfl, rfl⟩) rfl ?_
     | with_reducible refine zCF (fun _ => ⟨rfl, rfl⟩) rfl ?_
     | (with_reducible refine zA9 ?_ ?_; · (first | omega | (simp only [List.length_append, List.length_map, List.length_nil, List.length_cons, List.length_replicate, List.length_take, List.length_drop, true_and, and_true]; omega) | (simp only [List.length_append, List.length_map, List.length_nil, List.length_cons, List.length_replicate]; done)))
     | (with_reducible refine zMS ?_ ?_; · (first | omega | (simp only [List.length_append, List.length_map, List.length_nil, List.length_cons, List.length_replicate, List.length_take, List.length_drop, true_and, and_true]; omega) | (simp only [List.length_append, List.length_map, List.length_nil, List.length_cons, List.length_replicate]; done)))
     | (with_reducible refine zC1 ?_ ?_; · omega)
     | (with_reducible refine zGY ?_ ?_; · omega)
     | with_reducible refine zGN ?_
     | with_reducible refine zCC (fun _ => rfl) ?_
     | (with_reducible refine zGI ?_ ?_; · omega)
     | (with_reducible refine zAY rfl ?_ ?_; · omega)))
 repeat (first
  | (with_reducible first | refine r_op ?_ | refine r_seq ?_ | refine zBC ?_ | refine zIC ?_ | refine r_nil ?_ | refine zEI ?_ | refine zGH ?_ | refine zIG ?_ | refine zIE ?_ | refine r_ret ?_ | refine zEG ?_ | refine zGF ?_ | refine r_inR ?_ | refine r_inN ?_ | refine zIF ?_ | refine zEH ?_ | refine zGG ?_ | refine r_inE ?_ | refine zID ?_)
  | ((conv => whnf); first
    | with_reducible refine Next.mk ?_
    | with_reducible refine zEB (fun _ => ⟨rfl, rfl⟩) rfl ?_
    | with_reducible refine zCF (fun _ => ⟨rfl, rfl⟩) rfl ?_
    | (with_reducible refine zA9 ?_ ?_; · (first | omega | (simp only [List.length_append, List.length_map, List.length_nil, List.length_cons, List.length_replicate, List.length_take, List.length_drop, true_and, and_true]; omega) | (simp only [List.length_append, List.length_map, List.length_nil, List.length_cons, List.length_replicate]; done)))
    | (with_reducible refine zMS ?_ ?_; · (first | omega | (simp only [List.length_append, List.length_map, List.length_nil, List.length_cons, List.length_replicate, List.length_take, List.length_drop, true_and, and_true]; omega) | (simp only [List.length_append, List.length_map, List.length_nil, List.length_cons, List.length_replicate]; done)))
    | (with_reducible refine zC1 ?_ ?_; · omega)
    | (with_reducible refine zGY ?_ ?_; · omega)
    | with_reducible refine zGN ?_
    | with_reducible refine zCC (fun _ => rfl) ?_
    | (with_reducible refine zGI ?_ ?_; · omega)
    | (with_reducible refine zAY rfl ?_ ?_; · omega)))
 (try (conv => whnf))
 exact hq.h) : p := e ⟨h⟩
theorem sts {p q : Prop} (h : q) (e : Hq q → p := by
 intro hq
 repeat (first
  | (with_reducible first | refine r_op ?_ | refine r_seq ?_ | refine zBC ?_ | refine zIC ?_ | refine r_nil ?_ | refine zEI ?_ | refine zGH ?_ | refine zIG ?_ | refine zIE ?_ | refine r_ret ?_ | refine zEG ?_ | refine zGF ?_ | refine r_inR ?_ | refine r_inN ?_ | refine zIF ?_ | refine zEH ?_ | refine zGG ?_ | refine r_inE ?_ | refine zID ?_)
  | ((conv => whnf); first
    | with_reducible refine Next.mk ?_
    | with_reducible refine zEB (fun _ => ⟨rfl, rfl⟩) rfl ?_
    | with_reducible refine zCF (fun _ => ⟨rfl, rfl⟩) rfl ?_
    | (with_reducible refine zA9 ?_ ?_; · (first | omega | (simp only [List.length_append, List.length_map, List.length_nil, List.length_cons, List.length_replicate, List.length_take, List.length_drop, true_and, and_true]; omega) | (simp only [List.length_append, List.length_map, List.length_nil, List.length_cons, List.length_replicate]; done)))
    | (with_reducible refine zMS ?_ ?_; · (first | omega | (simp only [List.length_append, List.length_map, List.length_nil, List.length_cons, List.length_replicate, List.length_take, List.length_drop, true_and, and_true]; omega) | (simp only [List.length_append, List.length_map, List.length_nil, List.length_cons, List.length_replicate]; done)))
    | (with_reducible refine zC1 ?_ ?_; · omega)
    | (with_reducible refine zGY ?_ ?_; · omega)
    | with_reducible refine zGN ?_
    | with_reducible refine zCC (fun _ => rfl) ?_
    | (with_reducible refine zGI ?_ ?_; · omega)
    | (with_reducible refine zAY rfl ?_ ?_; · omega)))
 (try (conv => whnf))
 exact hq.h) : p := e ⟨h⟩
theorem stu {p q : Prop} (h : q) (e : Hq q → p := by
 intro hq
 (first
   | (with_reducible first | refine r_op ?_ | refine r_seq ?_ | refine zIC ?_ | refine r_nil ?_ | refine zEI ?_ | refine zGH ?_ | refine zIG ?_ | refine zIE ?_ | refine r_ret ?_ | refine zEG ?_ | refine zGF ?_ | refine r_inR ?_ | refine r_inN ?_ | refine zIF ?_ | refine zEH ?_ | refine zGG ?_ | refine r_inE ?_ | refine zID ?_)
   | ((conv => whnf); first
     | with_reducible refine Next.mk ?_
     | with_reducible refine zEB (fun _ => ⟨rfl, rfl⟩) rfl ?_
     | with_reducible refine zCF (fun _ => ⟨rfl, rfl⟩) rfl ?_
     | (with_reducible refine zA9 ?_ ?_; · (first | omega | (simp only [List.length_append, List.length_map, List.length_nil, List.length_cons, List.length_replicate, List.length_take, List.length_drop, true_and, and_true]; omega) | (simp only [List.length_append, List.length_map, List.length_nil, List.length_cons, List.length_replicate]; done)))
     | (with_reducible refine zMS ?_ ?_; · (first | omega | (simp only [List.length_append, List.length_map, List.length_nil, List.length_cons, List.length_replicate, List.length_take, List.length_drop, true_and, and_true]; omega) | (simp only [List.length_append, List.length_map, List.length_nil, List.length_cons, List.length_replicate]; done)))
     | (with_reducible refine zC1 ?_ ?_; · omega)
     | (with_reducible refine zGY ?_ ?_; · omega)
     | with_reducible refine zGN ?_
     | with_reducible refine zCC (fun _ => rfl) ?_
     | (with_reducible refine zGI ?_ ?_; · omega)
     | (with_reducible refine zAY rfl ?_ ?_; · omega)))
 repeat (first
  | (with_reducible first | refine r_op ?_ | refine r_seq ?_ | refine zIC ?_ | refine r_nil ?_ | refine zEI ?_ | refine zGH ?_ | refine zIG ?_ | refine zIE ?_ | refine r_ret ?_ | refine zEG ?_ | refine zGF ?_ | refine r_inR ?_ | refine r_inN ?_ | refine zIF ?_ | refine zEH ?_ | refine zGG ?_ | refine r_inE ?_ | refine zID ?_)
  | ((conv => whnf); first
    | with_reducible refine Next.mk ?_
    | with_reducible refine zEB (fun _ => ⟨rfl, rfl⟩) rfl ?_
    | with_reducible refine zCF (fun _ => ⟨rfl, rfl⟩) rfl ?_
    | (with_reducible refine zA9 ?_ ?_; · (first | omega | (simp only [List.length_append, List.length_map, List.length_nil, List.length_cons, List.length_replicate, List.length_take, List.length_drop, true_and, and_true]; omega) | (simp only [List.length_append, List.length_map, List.length_nil, List.length_cons, List.length_replicate]; done)))
    | (with_reducible refine zMS ?_ ?_; · (first | omega | (simp only [List.length_append, List.length_map, List.length_nil, List.length_cons, List.length_replicate, List.length_take, List.length_drop, true_and, and_true]; omega) | (simp only [List.length_append, List.length_map, List.length_nil, List.length_cons, List.length_replicate]; done)))
    | (with_reducible refine zC1 ?_ ?_; · omega)
    | (with_reducible refine zGY ?_ ?_; · omega)
    | with_reducible refine zGN ?_
    | with_reducible refine zCC (fun _ => rfl) ?_
    | (with_reducible refine zGI ?_ ?_; · omega)
    | (with_reducible refine zAY rfl ?_ ?_; · omega)))
 (try (conv => whnf))
 exact hq.h) : p := e ⟨h⟩
theorem sus {p q : Prop} (h : q) (e : Hq q → p := by
 intro hq
 repeat (first
  | (with_reducible first | refine r_op ?_ | refine r_seq ?_ | refine zIC ?_ | refine r_nil ?_ | refine zEI ?_ | refine zGH ?_ | refine zIG ?_ | refine zIE ?_ | refine r_ret ?_ | refine zEG ?_ | refine zGF ?_ | refine r_inR ?_ | refine r_inN ?_ | refine zIF ?_ | refine zEH ?_ | refine zGG ?_ | refine r_inE ?_ | refine zID ?_)
  | ((conv => whnf); first
    | with_reducible refine Next.mk ?_
    | with_reducible refine zEB (fun _ => ⟨rfl, rfl⟩) rfl ?_
    | with_reducible refine zCF (fun _ => ⟨rfl, rfl⟩) rfl ?_
    | (with_reducible refine zA9 ?_ ?_; · (first | omega | (simp only [List.length_append, List.length_map, List.length_nil, List.length_cons, List.length_replicate, List.length_take, List.length_drop, true_and, and_true]; omega) | (simp only [List.length_append, List.length_map, List.length_nil, List.length_cons, List.length_replicate]; done)))
    | (with_reducible refine zMS ?_ ?_; · (first | omega | (simp only [List.length_append, List.length_map, List.length_nil, List.length_cons, List.length_replicate, List.length_take, List.length_drop, true_and, and_true]; omega) | (simp only [List.length_append, List.length_map, List.length_nil, List.length_cons, List.length_replicate]; done)))
    | (with_reducible refine zC1 ?_ ?_; · omega)
    | (with_reducible refine zGY ?_ ?_; · omega)
    | with_reducible refine zGN ?_
    | with_reducible refine zCC (fun _ => rfl) ?_
    | (with_reducible refine zGI ?_ ?_; · omega)
    | (with_reducible refine zAY rfl ?_ ?_; · omega)))
 (try (conv => whnf))
 exact hq.h) : p := e ⟨h⟩
theorem brr {b : Bool} {A B p q : Prop} (h1 : p → A) (h2 : q → B) (e1 : b = true → p := by
 intro h
 (first
   | (replace h := of_decide_eq_true h; try simp only [List.length_map] at h)
   | (replace h := eq_of_beq h; try simp only [List.length_map] at h)
   | (replace h := bneT h; try simp only [List.length_map] at h)
   | (simp only [Bool.and_eq_true, beq_iff_eq, List.length_map, Bool.and_true, bne_iff_ne, ne_eq, decide_eq_true_eq, decide_eq_false_iff_not] at h)
   | skip)
 exact h) (e2 : b = false → q := by
 intro h
 (first
   | (replace h := of_decide_eq_false h; try simp only [List.length_map] at h)
   | (replace h := beqF h; try simp only [List.length_map] at h)
   | (replace h := bneF h; try simp only [List.length_map] at h)
   | (simp only [Bool.and_eq_true, beq_iff_eq, List.length_map, Bool.and_true, bne_iff_ne, ne_eq, decide_eq_true_eq, decide_eq_false_iff_not] at h)
   | skip)
 exact h) : brB b A B := brB_gen (fun h => h1 (e1 h)) (fun h => h2 (e2 h))
end Go.PI
namespace Go.PI
def sg (b : Bool) (n : Nat) : Int := if b then -(n : Int) else n
theorem zFZ (b : Bool) (n : Nat) : (sg b n).natAbs = n := by unfold sg; split <;> simp
theorem sg_lt (b : Bool) (n : Nat) : sg b n < 0 ↔ b = true ∧ n ≠ 0 := by unfold sg; cases b <;> simp <;> omega
theorem zM5 (b : Bool) (n : Nat) : sg (!b) n = - sg b n := by unfold sg; cases b <;> simp
theorem sg_mul (a b : Bool) (m n : Nat) : sg (a != b) (m * n) = sg a m * sg b n := by unfold sg; cases a <;> cases b <;> simp [Int.neg_mul, Int.mul_neg]
theorem sg_mulr (a : Bool) (m n : Nat) : sg a (m * n) = sg a m * n := by unfold sg; cases a <;> simp [Int.neg_mul]
structure IntL where
 neg : Bool
 mag : List Int
 deriving DecidableEq, Inhabited
def encInt (x : IntL) : PV := .agg [.bool x.neg, encN x.mag]
def iv (x : IntL) : Int := sg x.neg (nv x.mag)
def cz (z : Int) : IntL := ⟨decide (z < 0), lims z.natAbs⟩
theorem cz_sg (b : Bool) (n : Nat) : cz (sg b n) = ⟨b && decide (n ≠ 0), lims n⟩ := by
 unfold cz; rw [zFZ]; congr 1;rw [Bool.eq_iff_iff]; simp [sg_lt]
theorem zKI (z : Int) : iv (cz z) = z := by
 unfold iv cz sg; simp only [zAQ]; split <;> rename_i h <;> simp at h <;> omega
theorem sgn_sg (b : Bool) (n : Nat) : Int.sign (sg b n) = if n = 0 then 0 else if b then -1 else 1 := by
 unfold sg;by_cases h : n = 0
 ·subst h; cases b <;> rfl
 ·rw [if_neg h]
  cases b
  ·exact Int.sign_eq_one_of_pos (by simp; omega)
  ·exact Int.sign_eq_neg_one_of_neg (by simp; omega)
def okR (r : RatL) : Prop := okN r.num ∧ okN r.den
def dn (den : List Int) : Nat := if nv den = 0 then 1 else nv den
theorem zB2 (d : List Int) : dn d ≠ 0 := by unfold dn; split <;> omega
def qv (r : RatL) : Rat := mkRat (sg r.neg (nv r.num)) (dn r.den)
def cr (q : Rat) : RatL := ⟨decide (q.num < 0), lims q.num.natAbs, if q.den = 1 then [] else lims q.den⟩
theorem zA1 (q : Rat) : okR (cr q) := ⟨zAO _, by unfold cr; dsimp only; split; exact zDQ; exact zAO _⟩
theorem dn_cr (q : Rat) : dn (cr q).den = q.den := by
 unfold dn cr; dsimp only;by_cases h : q.den = 1
 ·simp [h, nv]
 ·rw [if_neg h, zAQ, if_neg q.den_nz]
theorem sg_cr (q : Rat) : sg (cr q).neg (nv (cr q).num) = q.num := zKI q.num
theorem zBA (q : Rat) : qv (cr q) = q := by unfold qv; rw [sg_cr, dn_cr, Rat.mkRat_self]
theorem mk_num (z : Int) {d : Nat} (h : d ≠ 0) : (mkRat z d).num = z / (z.natAbs.gcd d : Int) := by rw [Rat.mkRat_def, dif_neg h, Rat.normalize_eq]
theorem mk_den (z : Int) {d : Nat} (h : d ≠ 0) : (mkRat z d).den = d / z.natAbs.gcd d := by rw [Rat.mkRat_def, dif_neg h, Rat.normalize_eq]
theorem mk_abs (z : Int) {d : Nat} (h : d ≠ 0) : (mkRat z d).num.natAbs = z.natAbs / z.natAbs.gcd d := by
 rw [mk_num z h, Int.natAbs_ediv_of_dvd]
 ·simp
 ·exact Int.ofNat_dvd_left.2 (Nat.gcd_dvd_left ..)
theorem mk_neg (z : Int) {d : Nat} (h : d ≠ 0) : (mkRat z d).num < 0 ↔ z < 0 := by
 rw [mk_num z h];have h1 : (z.natAbs.gcd d : Int) ∣ z := Int.ofNat_dvd_left.2 (Nat.gcd_dvd_left ..);have h2 : 0 < z.natAbs.gcd d := Nat.gcd_pos_of_pos_right _ (by omega);obtain ⟨k, hk⟩ := h1;have h3 : (0 : Int) < (z.natAbs.gcd d : Int) := by omega
 generalize hg : (z.natAbs.gcd d : Int) = g at *
 rw [hk, Int.mul_ediv_cancel_left _ (by omega)];constructor
 ·intro h; exact Int.mul_neg_of_pos_of_neg h3 h
 ·intro h
  refine Int.not_le.1 fun h' => ?_
  have := Int.mul_nonneg (Int.le_of_lt h3) h';omega
theorem cr_mk (b : Bool) (n : Nat) {d : Nat} (h : d ≠ 0) : cr (mkRat (sg b n) d) = ⟨b && decide (n ≠ 0), lims (n / n.gcd d), if d / n.gcd d = 1 then [] else lims (d / n.gcd d)⟩ := by
 unfold cr;rw [mk_abs _ h, mk_den _ h, zFZ]
 congr 1
 rw [Bool.eq_iff_iff]; simp [mk_neg _ h, sg_lt]
theorem zJX : cr 0 = ⟨false, [], []⟩ := by decide
theorem mk_sign (z : Int) {d : Nat} (h : d ≠ 0) : (mkRat z d).num.sign = z.sign := by
 have h1 := mk_neg z h;have h2 := Rat.mkRat_eq_zero (n := z) h;rw [← Rat.num_eq_zero] at h2;rcases Int.lt_trichotomy z 0 with h3 | h3 | h3
 ·rw [Int.sign_eq_neg_one_of_neg h3, Int.sign_eq_neg_one_of_neg (h1.2 h3)]
 ·rw [h3] at h2 ⊢; rw [h2.2 rfl]
 ·rw [Int.sign_eq_one_of_pos h3, Int.sign_eq_one_of_pos]
  have : ¬ (mkRat z d).num < 0 := fun h => by have := h1.1 h; omega
  have : ¬ (mkRat z d).num = 0 := fun h => by have := h2.1 h; omega
  omega
theorem qv_sign (r : RatL) : (qv r).num.sign = (sg r.neg (nv r.num)).sign := mk_sign _ (zB2 _)
def sgnQ (q : Rat) : Int := q.num.sign
theorem sgnQ_qv (r : RatL) : sgnQ (qv r) = (sg r.neg (nv r.num)).sign := qv_sign r
theorem sub_mk (n1 n2 : Int) {d1 d2 : Nat} (h1 : d1 ≠ 0) (h2 : d2 ≠ 0) : mkRat n1 d1 - mkRat n2 d2 = mkRat (n1 * d2 - n2 * d1) (d1 * d2) := by
 rw [Rat.sub_eq_add_neg, Rat.neg_mkRat, Rat.mkRat_add_mkRat _ _ h1 h2, Int.neg_mul, ← Int.sub_eq_add_neg]
theorem sgnQ_sub (a b : RatL) : sgnQ (qv a - qv b) = (sg a.neg (nv a.num) * dn b.den - sg b.neg (nv b.num) * dn a.den).sign := by
 unfold qv; rw [sub_mk _ _ (zB2 _) (zB2 _)]; exact mk_sign _ (Nat.mul_ne_zero (zB2 _) (zB2 _))
theorem sgnQ_neg {q : Rat} : sgnQ q < 0 ↔ q < 0 := by
 unfold sgnQ; rw [Int.sign_neg_iff, Rat.lt_iff]; simp
theorem sgnQ_zero {q : Rat} : sgnQ q = 0 ↔ q = 0 := by
 unfold sgnQ; rw [Int.sign_eq_zero_iff_zero, Rat.num_eq_zero]
theorem sgnQ_pos {q : Rat} : 0 < sgnQ q ↔ 0 < q := by
 unfold sgnQ; rw [Int.sign_pos_iff, Rat.lt_iff]; simp
theorem qv_add (a b : RatL) : qv a + qv b = mkRat (sg a.neg (nv a.num) * dn b.den + sg b.neg (nv b.num) * dn a.den) (dn a.den * dn b.den) := by
 unfold qv; rw [Rat.mkRat_add_mkRat _ _ (zB2 _) (zB2 _)]
theorem qv_mul (a b : RatL) : qv a * qv b = mkRat (sg a.neg (nv a.num) * sg b.neg (nv b.num)) (dn a.den * dn b.den) := by
 unfold qv; rw [Rat.mkRat_mul_mkRat]
def sz (k : Nat) (q : Rat) : Prop := q.num.natAbs < pw k ∧ q.den < pw k
theorem zC9 {j k : Nat} (h : j ≤ k) {q : Rat} (hq : sz j q) : sz k q := ⟨Nat.lt_of_lt_of_le hq.1 (zCH h), Nat.lt_of_lt_of_le hq.2 (zCH h)⟩
theorem sz_mk {k : Nat} {z : Int} {d : Nat} (h : d ≠ 0) (h1 : z.natAbs < pw k) (h2 : d < pw k) : sz k (mkRat z d) := by
 refine ⟨?_, ?_⟩
 ·rw [mk_abs _ h]; exact Nat.lt_of_le_of_lt (Nat.div_le_self ..) h1
 ·rw [mk_den _ h]; exact Nat.lt_of_le_of_lt (Nat.div_le_self ..) h2
theorem zA6 {k : Nat} {q : Rat} (h : sz k q) : (cr q).num.length ≤ k ∧ (cr q).den.length ≤ k := by
 refine ⟨zBN h.1, ?_⟩;unfold cr; dsimp only; split
 ·simp
 ·exact zBN h.2
theorem dn_lt {d : List Int} (h : okN d) {k : Nat} (hk : d.length ≤ k) (hk1 : 1 ≤ k) : dn d < pw k := by
 have h1 := zD1 h;have h2 := zCH hk;have h3 := zCH hk1;have : pw 1 = 4294967296 := rfl;unfold dn; split <;> omega
theorem zH8 {r : RatL} (h : okR r) {k : Nat} (h1 : r.num.length ≤ k) (h2 : r.den.length ≤ k) (hk : 1 ≤ k) : sz k (qv r) := by
 refine sz_mk (zB2 _) ?_ (dn_lt h.2 h2 hk);rw [zFZ];exact Nat.lt_of_lt_of_le (zD1 h.1) (zCH h1)
theorem zBB {a b j k : Nat} (h1 : a < pw j) (h2 : b < pw k) : a * b < pw (j + k) := by
 rw [zLK]; exact Nat.mul_lt_mul'' h1 h2
theorem zDH {j k : Nat} {p q : Rat} (h1 : sz j p) (h2 : sz k q) : sz (j + k) (p * q) := by
 rw [← Rat.mkRat_self p, ← Rat.mkRat_self q, Rat.mkRat_mul_mkRat];refine sz_mk (Nat.mul_ne_zero p.den_nz q.den_nz) ?_ (zBB h1.2 h2.2);rw [Int.natAbs_mul]; exact zBB h1.1 h2.1
theorem zEC {j k : Nat} {p q : Rat} (h1 : sz j p) (h2 : sz k q) : sz (j + k + 1) (p + q) := by
 rw [← Rat.mkRat_self p, ← Rat.mkRat_self q, Rat.mkRat_add_mkRat _ _ p.den_nz q.den_nz];have e1 := zBB h1.1 h2.2;have e2 := zBB h2.1 h1.2;have e3 := zBB h1.2 h2.2;have e4 := zA2 (j + k);rw [Nat.add_comm k j] at e2;refine sz_mk (Nat.mul_ne_zero p.den_nz q.den_nz) ?_ (by omega)
 have : (p.num * (q.den : Int) + q.num * (p.den : Int)).natAbs ≤ p.num.natAbs * q.den + q.num.natAbs * p.den := by
  refine Nat.le_trans (Int.natAbs_add_le ..) ?_;rw [Int.natAbs_mul, Int.natAbs_mul]; simp
 omega
theorem sz_neg {k : Nat} {q : Rat} (h : sz k q) : sz k (-q) := by unfold sz at *; simpa using h
end Go.PI
namespace Go.PI
structure TermL where
 var : Int
 coef : RatL
 deriving DecidableEq, Inhabited
def encTerm (t : TermL) : PV := .agg [.int .i64 t.var, .bool t.coef.neg, encN t.coef.num, encN t.coef.den]
structure AffL where
 terms : List TermL
 const : RatL
 deriving DecidableEq, Inhabited
def encAff (f : AffL) : PV := .agg [.imm (f.terms.map encTerm), .bool f.const.neg, encN f.const.num, encN f.const.den]
structure ProgL where
 vars : Int
 rows : List AffL
 obj : AffL
 deriving DecidableEq, Inhabited
def okQ (k : Nat) (r : RatL) : Prop := okR r ∧ r.num.length ≤ k ∧ r.den.length ≤ k
def okA (k : Nat) (f : AffL) : Prop := okQ k f.const ∧ (∀ t ∈ f.terms, okQ k t.coef) ∧ f.terms.length ≤ 1048576
theorem okA_get {k : Nat} {f : AffL} (h : okA k f) {i : Nat} (hi : i < f.terms.length) : okQ k f.terms[i]!.coef := by
 rw [getElem!_pos f.terms i hi]; exact h.2.1 _ (List.getElem_mem hi)
def okT (ts : List TermL) (n : Int) (i : Nat) : Prop :=
 0 ≤ ts[i]!.var ∧ ts[i]!.var < n ∧ (0 < i → ts[i - 1]!.var < ts[i]!.var) ∧ qv ts[i]!.coef ≠ 0 ∧ ts[i]!.coef = cr (qv ts[i]!.coef)
def ValidF (f : AffL) (n : Int) : Prop := (∀ i, i < f.terms.length → okT f.terms n i) ∧ f.const = cr (qv f.const)
noncomputable def validB (f : AffL) (n : Int) : Bool := @decide (ValidF f n) (Classical.propDecidable _)
theorem validB_true {f : AffL} {n : Int} : validB f n = true ↔ ValidF f n := by simp [validB]
theorem validB_false {f : AffL} {n : Int} : validB f n = false ↔ ¬ ValidF f n := by simp [validB]
theorem zMY {f : AffL} {n : Int} (h : ∀ i, i < f.terms.length → okT f.terms n i) : decide (f.const = cr (qv f.const)) = validB f n := by
 rw [Bool.eq_iff_iff, validB_true, decide_eq_true_eq];exact ⟨fun e => ⟨h, e⟩, fun e => e.2⟩
theorem zBM {f : AffL} {n : Int} {i : Nat} (hi : i < f.terms.length) (h : ¬ okT f.terms n i) : false = validB f n := by
 rw [eq_comm, validB_false]; exact fun e => h (e.1 i hi)
abbrev QT := Int × Rat
def tQ (p : QT) : TermL := ⟨p.1, cr p.2⟩
def encQ (p : QT) : PV := encTerm (tQ p)
structure QF where
 ts : List QT
 c : Rat
 deriving Inhabited
def QF.L (f : QF) : AffL := ⟨f.ts.map tQ, cr f.c⟩
def encF (f : QF) : PV := .agg [.imm (f.ts.map encQ), .bool (cr f.c).neg, encN (cr f.c).num, encN (cr f.c).den]
theorem zG6 (f : QF) : encF f = encAff f.L := by unfold encF encAff QF.L; simp only [List.map_map]; rfl
def AffL.Q (f : AffL) : QF := ⟨f.terms.map fun t => (t.var, qv t.coef), qv f.const⟩
def nzq (v : Int) (x : Rat) : List QT := if x = 0 then [] else [(v, x)]
theorem zKP (v : Int) : nzq v 0 = [] := by simp [nzq]
theorem zNC {v : Int} {x : Rat} (h : x ≠ 0) : nzq v x = [(v, x)] := by simp [nzq, h]
def cf : List QT → Int → Rat
 | [], _ => 0
 | p :: l, v => (if p.1 = v then p.2 else 0) + cf l v
theorem zDL (a b : List QT) (v : Int) : cf (a ++ b) v = cf a v + cf b v := by
 induction a with
 | nil => simp [cf, Rat.zero_add]
 | cons p a ih => simp only [List.cons_append, cf, ih, Rat.add_assoc]
theorem zHT (w : Int) (x : Rat) (v : Int) : cf (nzq w x) v = if w = v then x else 0 := by
 unfold nzq;by_cases h : x = 0
 ·simp [h, cf]
 ·simp [h, cf, Rat.add_zero]
def Srt (l : List QT) : Prop := l.Pairwise (fun p q => p.1 < q.1) ∧ ∀ p ∈ l, p.2 ≠ 0
theorem zGB : Srt [] := ⟨List.Pairwise.nil, fun _ h => by cases h⟩
theorem srt_cons {p : QT} {l : List QT} : Srt (p :: l) ↔ (∀ q ∈ l, p.1 < q.1) ∧ p.2 ≠ 0 ∧ Srt l := by
 unfold Srt;simp only [List.pairwise_cons, List.mem_cons, forall_eq_or_imp];constructor
 ·rintro ⟨⟨h1, h2⟩, h3, h4⟩; exact ⟨h1, h3, h2, h4⟩
 ·rintro ⟨h1, h3, h2, h4⟩; exact ⟨⟨h1, h2⟩, h3, h4⟩
theorem zKE {l : List QT} {v : Int} (h : ∀ q ∈ l, q.1 ≠ v) : cf l v = 0 := by
 induction l with
 | nil => rfl
 | cons p l ih =>
   have h1 := h p (by simp);simp [cf, h1, ih fun q hq => h q (by simp [hq]), Rat.add_zero]
theorem zLA : ∀ {a b : List QT}, Srt a → Srt b → (∀ v, cf a v = cf b v) → a = b
 | [], [], _, _, _ => rfl
 | [], q :: b, _, hb, h => by
   rw [srt_cons] at hb;have := h q.1;rw [cf, cf, zKE (l := b) (fun r hr e => by have := hb.1 r hr; omega)] at this;simp [Rat.add_zero] at this;exact absurd this.symm hb.2.1
 | p :: a, [], ha, _, h => by
   rw [srt_cons] at ha;have := h p.1;rw [cf, cf, zKE (l := a) (fun r hr e => by have := ha.1 r hr; omega)] at this;simp [Rat.add_zero] at this;exact absurd this ha.2.1
 | p :: a, q :: b, ha, hb, h => by
   rw [srt_cons] at ha hb;have hp := h p.1;have hq := h q.1;simp only [cf] at hp hq;rw [zKE (l := a) (fun r hr e => by have := ha.1 r hr; omega)] at hp;rw [zKE (l := b) (fun r hr e => by have := hb.1 r hr; omega)] at hq;simp only [if_true, Rat.add_zero] at hp hq
   have hv : p.1 = q.1 := by
    rcases Int.lt_trichotomy p.1 q.1 with hlt | he | hlt
    ·rw [if_neg (by omega), zKE (l := b) (fun r hr e => by have := hb.1 r hr; omega), Rat.add_zero] at hp
     exact absurd hp ha.2.1
    ·exact he
    ·rw [if_neg (by omega), zKE (l := a) (fun r hr e => by have := ha.1 r hr; omega), Rat.add_zero] at hq
     exact absurd hq.symm hb.2.1
   have hx : p.2 = q.2 := by
    rw [if_pos hv.symm, zKE (l := b) (fun r hr e => by have := hb.1 r hr; omega), Rat.add_zero] at hp;exact hp
   have hab : a = b := zLA ha.2.2 hb.2.2 fun v => by
    have := h v;simp only [cf] at this;rw [hv, hx] at this;exact Rat.add_left_cancel _ this
   rw [hab]
   congr 1
   exact Prod.ext hv hx
theorem zFP {v : Int} {x : Rat} {l : List QT} (hl : Srt l) (h : ∀ q ∈ l, v < q.1) : Srt (nzq v x ++ l) := by
 unfold nzq;by_cases h0 : x = 0
 ·simpa [h0] using hl
 ·simp only [h0, if_false, List.cons_append, List.nil_append]
  exact srt_cons.2 ⟨h, h0, hl⟩
def mrg (c : Rat) : List QT → List QT → List QT
 | [], [] => []
 | p :: a, [] => nzq p.1 p.2 ++ mrg c a []
 | [], q :: b => nzq q.1 (q.2 * c) ++ mrg c [] b
 | p :: a, q :: b => if p.1 < q.1 then nzq p.1 p.2 ++ mrg c a (q :: b) else if q.1 < p.1 then nzq q.1 (q.2 * c) ++ mrg c (p :: a) b else nzq p.1 (p.2 + q.2 * c) ++ mrg c a b
termination_by a b => a.length + b.length
def mergeQ (f g : QF) (c : Rat) : QF := ⟨mrg c f.ts g.ts, f.c + g.c * c⟩
theorem zE4 (c : Rat) : ∀ (n : Nat) (a b : List QT), a.length + b.length ≤ n → ∀ r ∈ mrg c a b, (∃ p ∈ a, p.1 = r.1) ∨ ∃ q ∈ b, q.1 = r.1
 | n, [], [], _, r, h => by rw [mrg] at h; cases h
 | 0, _ :: _, _, h, _, _ => by simp at h
 | 0, _, _ :: _, h, _, _ => by simp at h
 | n + 1, p :: a, [], hn, r, h => by
   rw [mrg, List.mem_append] at h;simp only [List.length_cons] at hn;rcases h with h | h
   ·unfold nzq at h; split at h
    ·cases h
    ·simp at h; left; exact ⟨p, by simp, by rw [h]⟩
   ·rcases zE4 c n a [] (by simp at hn ⊢; omega) r h with ⟨q, h1, h2⟩ | h1
    ·exact Or.inl ⟨q, by simp [h1], h2⟩
    ·exact Or.inr h1
 | n + 1, [], q :: b, hn, r, h => by
   rw [mrg, List.mem_append] at h;simp only [List.length_cons] at hn;rcases h with h | h
   ·unfold nzq at h; split at h
    ·cases h
    ·simp at h; right; exact ⟨q, by simp, by rw [h]⟩
   ·rcases zE4 c n [] b (by simp at hn ⊢; omega) r h with h1 | ⟨q, h1, h2⟩
    ·exact Or.inl h1
    ·exact Or.inr ⟨q, by simp [h1], h2⟩
 | n + 1, p :: a, q :: b, hn, r, h => by
   rw [mrg] at h;simp only [List.length_cons] at hn
   have one : ∀ {v : Int} {x : Rat}, r ∈ nzq v x → v = r.1 := fun {v x} h => by
    unfold nzq at h; split at h
    ·cases h
    ·simp at h; rw [h]
   split at h
   ·rcases List.mem_append.1 h with h | h
    ·exact Or.inl ⟨p, by simp, one h⟩
    ·rcases zE4 c n a (q :: b) (by simp; omega) r h with ⟨t, h1, h2⟩ | h1
     ·exact Or.inl ⟨t, by simp [h1], h2⟩
     ·exact Or.inr h1
   ·split at h
    ·rcases List.mem_append.1 h with h | h
     ·exact Or.inr ⟨q, by simp, one h⟩
     ·rcases zE4 c n (p :: a) b (by simp; omega) r h with h1 | ⟨t, h1, h2⟩
      ·exact Or.inl h1
      ·exact Or.inr ⟨t, by simp [h1], h2⟩
    ·rcases List.mem_append.1 h with h | h
     ·exact Or.inl ⟨p, by simp, one h⟩
     ·rcases zE4 c n a b (by omega) r h with ⟨t, h1, h2⟩ | ⟨t, h1, h2⟩
      ·exact Or.inl ⟨t, by simp [h1], h2⟩
      ·exact Or.inr ⟨t, by simp [h1], h2⟩
theorem zFK (c : Rat) : ∀ (n : Nat) (a b : List QT), a.length + b.length ≤ n → Srt a → Srt b → Srt (mrg c a b) ∧ ∀ v, cf (mrg c a b) v = cf a v + cf b v * c
 | n, [], [], _, _, _ => by rw [mrg]; exact ⟨zGB, fun v => by simp [cf, Rat.zero_add]⟩
 | 0, _ :: _, _, h, _, _ => by simp at h
 | 0, _, _ :: _, h, _, _ => by simp at h
 | n + 1, p :: a, [], hn, ha, hb => by
   rw [mrg];simp only [List.length_cons] at hn;rw [srt_cons] at ha;obtain ⟨h1, h2⟩ := zFK c n a [] (by simp at hn ⊢; omega) ha.2.2 hb;refine ⟨zFP h1 fun r hr => ?_, fun v => ?_⟩
   ·rcases zE4 c _ a [] (Nat.le_refl _) r hr with ⟨t, h3, h4⟩ | ⟨t, h3, _⟩
    ·rw [← h4]; exact ha.1 t h3
    ·cases h3
   ·rw [zDL, zHT, h2]; simp only [cf]; grind
 | n + 1, [], q :: b, hn, ha, hb => by
   rw [mrg];simp only [List.length_cons] at hn;rw [srt_cons] at hb;obtain ⟨h1, h2⟩ := zFK c n [] b (by simp at hn ⊢; omega) ha hb.2.2;refine ⟨zFP h1 fun r hr => ?_, fun v => ?_⟩
   ·rcases zE4 c _ [] b (Nat.le_refl _) r hr with ⟨t, h3, _⟩ | ⟨t, h3, h4⟩
    ·cases h3
    ·rw [← h4]; exact hb.1 t h3
   ·rw [zDL, zHT, h2]; simp only [cf]; grind
 | n + 1, p :: a, q :: b, hn, ha, hb => by
   rw [mrg];simp only [List.length_cons] at hn;have ha' := srt_cons.1 ha;have hb' := srt_cons.1 hb
   split
   ·rename_i hlt
    obtain ⟨h1, h2⟩ := zFK c n a (q :: b) (by simp; omega) ha'.2.2 hb;refine ⟨zFP h1 fun r hr => ?_, fun v => ?_⟩
    ·rcases zE4 c _ a (q :: b) (Nat.le_refl _) r hr with ⟨t, h3, h4⟩ | ⟨t, h3, h4⟩
     ·rw [← h4]; exact ha'.1 t h3
     ·rw [← h4]
      rcases List.mem_cons.1 h3 with h3 | h3
      ·rw [h3]; exact hlt
      ·have := hb'.1 t h3; omega
    ·rw [zDL, zHT, h2]; simp only [cf]; grind
   ·split
    ·rename_i hlt
     obtain ⟨h1, h2⟩ := zFK c n (p :: a) b (by simp; omega) ha hb'.2.2;refine ⟨zFP h1 fun r hr => ?_, fun v => ?_⟩
     ·rcases zE4 c _ (p :: a) b (Nat.le_refl _) r hr with ⟨t, h3, h4⟩ | ⟨t, h3, h4⟩
      ·rw [← h4]
       rcases List.mem_cons.1 h3 with h3 | h3
       ·rw [h3]; exact hlt
       ·have := ha'.1 t h3; omega
      ·rw [← h4]; exact hb'.1 t h3
     ·rw [zDL, zHT, h2]; simp only [cf]; grind
    ·have he : p.1 = q.1 := by omega
     obtain ⟨h1, h2⟩ := zFK c n a b (by omega) ha'.2.2 hb'.2.2;refine ⟨zFP h1 fun r hr => ?_, fun v => ?_⟩
     ·rcases zE4 c _ a b (Nat.le_refl _) r hr with ⟨t, h3, h4⟩ | ⟨t, h3, h4⟩
      ·rw [← h4]; exact ha'.1 t h3
      ·rw [← h4, he]; exact hb'.1 t h3
     ·rw [zDL, zHT, h2]; simp only [cf]; grind
def plusL (v : Int) (c : Rat) : List QT → Bool → List QT
 | [], d => if d then [] else nzq v c
 | t :: ts, d => (if (d || decide (t.1 = v)) = false ∧ v < t.1 then nzq v c else []) ++ nzq t.1 (if t.1 = v then t.2 + c else t.2) ++ plusL v c ts ((d || decide (t.1 = v)) || decide (v < t.1))
theorem zJH {v : Int} {c : Rat} : ∀ {l : List QT}, Srt l → (∀ q ∈ l, v < q.1) → plusL v c l true = l
 | [], _, _ => rfl
 | t :: ts, hs, h => by
   have hs' := srt_cons.1 hs;have ht := h t (by simp);have h1 : ¬ t.1 = v := by omega
   simp only [plusL, Bool.true_or, Bool.true_eq_false, false_and, if_false, h1, List.nil_append];rw [zNC hs'.2.1, zJH hs'.2.2 fun q hq => h q (by simp [hq])];rfl
theorem zM8 {v : Int} {c : Rat} : ∀ {l : List QT}, Srt l → Srt (plusL v c l false) ∧ (∀ w, cf (plusL v c l false) w = cf l w + if v = w then c else 0) ∧ ∀ r ∈ plusL v c l false, r.1 = v ∨ ∃ p ∈ l, p.1 = r.1
 | [], _ => by
   simp only [plusL, Bool.false_eq_true, if_false];refine ⟨by have := zFP (v := v) (x := c) zGB (fun q h => by cases h); simpa using this, fun w => by rw [zHT]; simp [cf, Rat.zero_add], fun r hr => ?_⟩;unfold nzq at hr; split at hr
   ·cases hr
   ·simp at hr; left; rw [hr]
 | t :: ts, hs => by
   have hs' := srt_cons.1 hs
   have memz : ∀ {w : Int} {x : Rat} {r : QT}, r ∈ nzq w x → r.1 = w := fun {w x r} h => by
    unfold nzq at h; split at h
    ·cases h
    ·simp at h; rw [h]
   rcases Int.lt_trichotomy t.1 v with hlt | he | hgt
   ·obtain ⟨h1, h2, h3⟩ := zM8 (v := v) (c := c) hs'.2.2
    have e1 : ¬ t.1 = v := by omega
    have e2 : ¬ v < t.1 := by omega
    simp only [plusL, e1, e2, decide_false, Bool.or_false, and_false, if_false, List.nil_append];refine ⟨zFP h1 fun r hr => ?_, fun w => ?_, fun r hr => ?_⟩
    ·rcases h3 r hr with h | ⟨p, hp, h⟩
     ·omega
     ·have := hs'.1 p hp; omega
    ·rw [zDL, zHT, h2]; simp only [cf]; grind
    ·rcases List.mem_append.1 hr with hr | hr
     ·right; exact ⟨t, by simp, (memz hr).symm⟩
     ·rcases h3 r hr with h | ⟨p, hp, h⟩
      ·exact Or.inl h
      ·exact Or.inr ⟨p, by simp [hp], h⟩
   ·have h1 := zJH (v := v) (c := c) hs'.2.2 (fun q hq => by have := hs'.1 q hq; omega)
    simp only [plusL, he, decide_true, Bool.or_true, Bool.true_eq_false, false_and, if_false, if_true, List.nil_append, Bool.true_or, h1];refine ⟨zFP hs'.2.2 fun r hr => by have := hs'.1 r hr; omega, fun w => ?_, fun r hr => ?_⟩
    ·rw [zDL, zHT]; simp only [cf]; rw [he]; grind
    ·rcases List.mem_append.1 hr with hr | hr
     ·exact Or.inl (memz hr)
     ·exact Or.inr ⟨r, by simp [hr], rfl⟩
   ·have e1 : ¬ t.1 = v := by omega
    have h1 := zJH (v := v) (c := c) hs'.2.2 (fun q hq => by have := hs'.1 q hq; omega);simp only [plusL, e1, hgt, decide_false, decide_true, Bool.or_false, Bool.or_true, and_self, if_true, if_false, h1];rw [zNC hs'.2.1, List.append_assoc];refine ⟨zFP hs fun r hr => ?_, fun w => ?_, fun r hr => ?_⟩
    ·rcases List.mem_cons.1 hr with hr | hr
     ·rw [hr]; exact hgt
     ·have := hs'.1 r hr; omega
    ·rw [zDL, zHT]; simp only [cf, List.cons_append, List.nil_append]; grind
    ·rcases List.mem_append.1 hr with hr | hr
     ·exact Or.inl (memz hr)
     ·exact Or.inr ⟨r, hr, rfl⟩
def plusQ (f : QF) (v : Int) (c : Rat) : QF := ⟨plusL v c f.ts false, f.c⟩
def addL (l : List QT) (g : List QT) : List QT := g.foldl (fun l t => plusL t.1 t.2 l false) l
def addR (f g : QF) : QF := ⟨addL f.ts g.ts, f.c + g.c⟩
theorem zJC : ∀ {g l : List QT}, Srt l → Srt (addL l g) ∧ ∀ w, cf (addL l g) w = cf l w + cf g w
 | [], l, h => ⟨h, fun w => by simp [addL, cf, Rat.add_zero]⟩
 | t :: g, l, h => by
   obtain ⟨h1, h2, _⟩ := zM8 (v := t.1) (c := t.2) h;obtain ⟨h3, h4⟩ := zJC (g := g) h1;refine ⟨h3, fun w => ?_⟩;show cf (addL (plusL t.1 t.2 l false) g) w = _
   rw [h4, h2]; simp only [cf]; grind
def sclL (c : Rat) (l : List QT) : List QT := l.flatMap fun t => nzq t.1 (t.2 * c)
def scaleR (f : QF) (c : Rat) : QF := ⟨sclL c f.ts, f.c * c⟩
theorem zIB (c : Rat) : ∀ {l : List QT}, Srt l → Srt (sclL c l) ∧ (∀ w, cf (sclL c l) w = cf l w * c) ∧ ∀ r ∈ sclL c l, ∃ p ∈ l, p.1 = r.1
 | [], _ => ⟨zGB, fun w => by simp [sclL, cf], fun r h => by cases h⟩
 | t :: l, h => by
   have h' := srt_cons.1 h;obtain ⟨h1, h2, h3⟩ := zIB c h'.2.2;have e : sclL c (t :: l) = nzq t.1 (t.2 * c) ++ sclL c l := by simp [sclL]
   rw [e];refine ⟨zFP h1 fun r hr => ?_, fun w => ?_, fun r hr => ?_⟩
   ·obtain ⟨p, hp, h4⟩ := h3 r hr
    rw [← h4]; exact h'.1 p hp
   ·rw [zDL, zHT, h2]; simp only [cf]; grind
   ·rcases List.mem_append.1 hr with hr | hr
    ·unfold nzq at hr; split at hr
     ·cases hr
     ·simp at hr; exact ⟨t, by simp, by rw [hr]⟩
    ·obtain ⟨p, hp, h4⟩ := h3 r hr
     exact ⟨p, by simp [hp], h4⟩
theorem add_scale {f g : QF} (hf : Srt f.ts) (hg : Srt g.ts) (c : Rat) : addR f (scaleR g c) = mergeQ f g c := by
 obtain ⟨h1, h2⟩ := zFK c _ f.ts g.ts (Nat.le_refl _) hf hg;obtain ⟨h3, h4, _⟩ := zIB c hg;obtain ⟨h5, h6⟩ := zJC (g := sclL c g.ts) hf;unfold addR mergeQ scaleR
 congr 1
 exact zLA h5 h1 fun v => by rw [h6, h4, h2]
def ev1 (x : List Rat) (l : List QT) (y : Rat) : Rat := l.foldl (fun y t => y + t.2 * x[t.1.toNat]!) y
def evQ (f : QF) (x : List Rat) : Rat := ev1 x f.ts f.c
def szF (k : Nat) (f : QF) : Prop := sz k f.c ∧ ∀ p ∈ f.ts, sz k p.2
theorem zFY {j k : Nat} (h : j ≤ k) {f : QF} (hf : szF j f) : szF k f := ⟨zC9 h hf.1, fun p hp => zC9 h (hf.2 p hp)⟩
theorem zE5 {v : Int} {x : Rat} {r : QT} (h : r ∈ nzq v x) : r = (v, x) := by
 unfold nzq at h; split at h
 ·cases h
 ·simpa using h
theorem zND {c : Rat} {K : Nat} {kf kg kc : Nat} (hc : sz kc c) (hK : kf + (kg + kc) + 1 ≤ K) : ∀ (n : Nat) (a b : List QT), a.length + b.length ≤ n → (∀ p ∈ a, sz kf p.2) → (∀ p ∈ b, sz kg p.2) → ∀ r ∈ mrg c a b, sz K r.2
 | n, [], [], _, _, _, r, h => by rw [mrg] at h; cases h
 | 0, _ :: _, _, h, _, _, _, _ => by simp at h
 | 0, _, _ :: _, h, _, _, _, _ => by simp at h
 | n + 1, p :: a, [], hn, ha, hb, r, h => by
   rw [mrg, List.mem_append] at h;simp only [List.length_cons] at hn;rcases h with h | h
   ·rw [zE5 h]; exact zC9 (by omega) (ha p (by simp))
   ·exact zND hc hK n a [] (by simp at hn ⊢; omega) (fun q hq => ha q (by simp [hq])) hb r h
 | n + 1, [], q :: b, hn, ha, hb, r, h => by
   rw [mrg, List.mem_append] at h;simp only [List.length_cons] at hn;rcases h with h | h
   ·rw [zE5 h]; exact zC9 (by omega) (zDH (hb q (by simp)) hc)
   ·exact zND hc hK n [] b (by simp at hn ⊢; omega) ha (fun q hq => hb q (by simp [hq])) r h
 | n + 1, p :: a, q :: b, hn, ha, hb, r, h => by
   rw [mrg] at h;simp only [List.length_cons] at hn
   split at h
   ·rcases List.mem_append.1 h with h | h
    ·rw [zE5 h]; exact zC9 (by omega) (ha p (by simp))
    ·exact zND hc hK n a (q :: b) (by simp; omega) (fun q hq => ha q (by simp [hq])) hb r h
   ·split at h
    ·rcases List.mem_append.1 h with h | h
     ·rw [zE5 h]; exact zC9 (by omega) (zDH (hb q (by simp)) hc)
     ·exact zND hc hK n (p :: a) b (by simp; omega) ha (fun q hq => hb q (by simp [hq])) r h
    ·rcases List.mem_append.1 h with h | h
     ·rw [zE5 h]; exact zC9 hK (zEC (ha p (by simp)) (zDH (hb q (by simp)) hc))
     ·exact zND hc hK n a b (by omega) (fun q hq => ha q (by simp [hq])) (fun q hq => hb q (by simp [hq])) r h
theorem zJP {c : Rat} : ∀ (n : Nat) (a b : List QT), a.length + b.length ≤ n → (mrg c a b).length ≤ a.length + b.length
 | n, [], [], _ => by rw [mrg]; simp
 | 0, _ :: _, _, h => by simp at h
 | 0, _, _ :: _, h => by simp at h
 | n + 1, p :: a, [], hn => by
   simp only [List.length_cons] at hn;have := zJP (c := c) n a [] (by simp at hn ⊢; omega);have l : ∀ v x, (nzq v x).length ≤ 1 := fun v x => by unfold nzq; split <;> simp
   have := l p.1 p.2;rw [mrg, List.length_append]; simp at *; omega
 | n + 1, [], q :: b, hn => by
   simp only [List.length_cons] at hn;have := zJP (c := c) n [] b (by simp at hn ⊢; omega);have l : ∀ v x, (nzq v x).length ≤ 1 := fun v x => by unfold nzq; split <;> simp
   have := l q.1 (q.2 * c);rw [mrg, List.length_append]; simp at *; omega
 | n + 1, p :: a, q :: b, hn => by
   simp only [List.length_cons] at hn;have l : ∀ v x, (nzq v x).length ≤ 1 := fun v x => by unfold nzq; split <;> simp
   rw [mrg]
   split
   ·have := zJP (c := c) n a (q :: b) (by simp; omega)
    have := l p.1 p.2;rw [List.length_append]; simp at *; omega
   ·split
    ·have := zJP (c := c) n (p :: a) b (by simp; omega)
     have := l q.1 (q.2 * c);rw [List.length_append]; simp at *; omega
    ·have := zJP (c := c) n a b (by omega)
     have := l p.1 (p.2 + q.2 * c);rw [List.length_append]; simp at *; omega
theorem zD3 {f g : QF} {c : Rat} {kf kg kc K : Nat} (hf : szF kf f) (hg : szF kg g) (hc : sz kc c) (hK : kf + (kg + kc) + 1 ≤ K) : szF K (mergeQ f g c) :=
 ⟨zC9 hK (zEC hf.1 (zDH hg.1 hc)), zND hc hK _ f.ts g.ts (Nat.le_refl _) hf.2 hg.2⟩
theorem zES {f g : QF} {c : Rat} : (mergeQ f g c).ts.length ≤ f.ts.length + g.ts.length := zJP _ _ _ (Nat.le_refl _)
theorem zA8 {f g : QF} {c : Rat} (hf : Srt f.ts) (hg : Srt g.ts) : Srt (mergeQ f g c).ts := (zFK c _ f.ts g.ts (Nat.le_refl _) hf hg).1
def zeroQ : QF := ⟨[], 0⟩
theorem zC4 (k : Nat) (hk : 1 ≤ k) : szF k zeroQ := by
 have : 4294967296 ≤ pw k := zCH hk;exact ⟨⟨by show (0 : Nat) < _; omega, by show 1 < _; omega⟩, fun p h => by cases h⟩
theorem zCL {z : Int} (h : z.natAbs < 4294967296) : sz 1 (z : Rat) := ⟨by simpa [zA2, zCG] using h, by simp [zA2, zCG]⟩
theorem zA4 : encF zeroQ = .agg [.imm [], .bool false, .imm [], .imm []] := by unfold encF zeroQ; rw [zJX]; rfl
def encX (q : Rat) : PV := encRat (cr q)
theorem ev1_take (x : List Rat) (ts : List QT) (y : Rat) (i : Nat) (h : i < ts.length) : ev1 x (ts.take (i + 1)) y = ev1 x (ts.take i) y + ts[i]!.2 * x[ts[i]!.1.toNat]! := by
 unfold ev1;rw [List.take_succ_eq_append_getElem h, List.foldl_append, getElem!_pos ts i h];rfl
end Go.PI
namespace Go.PI
structure QP where
 vars : Int
 rows : List QF
 obj : QF
 deriving Inhabited
def ProgL.Q (p : ProgL) : QP := ⟨p.vars, p.rows.map AffL.Q, p.obj.Q⟩
theorem tQ_of {t : TermL} (h : t.coef = cr (qv t.coef)) : tQ (t.var, qv t.coef) = t := by unfold tQ; rw [← h]
theorem canF {f : AffL} {n : Int} (h : ValidF f n) : f.Q.L = f := by
 obtain ⟨ts, c⟩ := f
 have h1 : (ts.map fun t => tQ (t.var, qv t.coef)) = ts := by
  refine List.ext_getElem (by simp) fun i h1 h2 => ?_
  have := (h.1 i (by simpa using h1)).2.2.2.2;rw [getElem!_pos ts i h2] at this;simp only [List.getElem_map];exact tQ_of this
 unfold QF.L AffL.Q;simp only [List.map_map];rw [show (tQ ∘ fun t : TermL => (t.var, qv t.coef)) = fun t => tQ (t.var, qv t.coef) from rfl, h1, ← h.2]
theorem zL3 {f : AffL} {n : Int} (h : ValidF f n) : encAff f = encF f.Q := by rw [zG6, canF h]
def okF (n : Int) (f : QF) : Prop := Srt f.ts ∧ ∀ t ∈ f.ts, 0 ≤ t.1 ∧ t.1 < n
theorem zD0 {f : AffL} {n : Int} (h : ValidF f n) : okF n f.Q := by
 have inc : ∀ (d i : Nat), i + d + 1 < f.terms.length → f.terms[i]!.var < f.terms[i + d + 1]!.var := by
  intro d
  induction d with
  | zero => intro i hi; exact (h.1 (i + 1) hi).2.2.1 (by omega)
  | succ d ih =>
    intro i hi;have h1 := ih i (by omega);have h2 := (h.1 (i + (d + 1) + 1) hi).2.2.1 (by omega);rw [show i + (d + 1) + 1 - 1 = i + d + 1 by omega] at h2;omega
 refine ⟨⟨?_, fun p hp => ?_⟩, fun t ht => ?_⟩
 ·unfold AffL.Q
  rw [List.pairwise_map, List.pairwise_iff_getElem];intro i j hi hj hij;have := inc (j - i - 1) i (by omega);rw [show i + (j - i - 1) + 1 = j by omega, getElem!_pos f.terms i hi, getElem!_pos f.terms j hj] at this;exact this
 ·unfold AffL.Q at hp
  obtain ⟨t, ht, rfl⟩ := List.mem_map.1 hp;obtain ⟨i, hi, rfl⟩ := List.getElem_of_mem ht;have := (h.1 i hi).2.2.2.1
  rwa [getElem!_pos f.terms i hi] at this
 ·unfold AffL.Q at ht
  obtain ⟨t, ht', rfl⟩ := List.mem_map.1 ht;obtain ⟨i, hi, rfl⟩ := List.getElem_of_mem ht';have := h.1 i hi;rw [okT, getElem!_pos f.terms i hi] at this;exact ⟨this.1, this.2.1⟩
theorem valid_of {f : QF} {n : Int} (h : okF n f) : ValidF f.L n := by
 refine ⟨fun i hi => ?_, by show cr f.c = cr (qv (cr f.c)); rw [zBA]⟩;have hi' : i < f.ts.length := by simpa [QF.L] using hi
 have e : f.L.terms[i]! = tQ f.ts[i]! := by
  rw [getElem!_pos f.L.terms i hi, getElem!_pos f.ts i hi']; simp [QF.L]
 have hm : f.ts[i]! ∈ f.ts := by rw [getElem!_pos f.ts i hi']; exact List.getElem_mem hi'
 unfold okT;rw [e];refine ⟨(h.2 _ hm).1, (h.2 _ hm).2, fun h0 => ?_, ?_, ?_⟩
 ·have hi2 : i - 1 < f.ts.length := by omega
  have e2 : f.L.terms[i - 1]! = tQ f.ts[i - 1]! := by
   rw [getElem!_pos f.L.terms (i - 1) (by omega), getElem!_pos f.ts (i - 1) hi2]; simp [QF.L]
  rw [e2, getElem!_pos f.ts i hi', getElem!_pos f.ts (i - 1) hi2];exact List.pairwise_iff_getElem.1 h.1.1 (i - 1) i hi2 hi' (by omega)
 ·show qv (cr f.ts[i]!.2) ≠ 0
  rw [zBA]; exact h.1.2 _ hm
 ·show cr _ = cr (qv (cr _)); rw [zBA]
def QP.L (P : QP) : ProgL := ⟨P.vars, P.rows.map QF.L, P.obj.L⟩
def canL (l : List RatL) : Prop := ∀ x ∈ l, x = cr (qv x)
instance (l : List RatL) : Decidable (canL l) := by unfold canL; exact inferInstance
def posQ (y : RatL) : Prop := y = cr (qv y) ∧ y.neg = false
instance (y : RatL) : Decidable (posQ y) := by unfold posQ; exact inferInstance
theorem zIN {k : Nat} {q : Rat} (h : sz k q) : okQ k (cr q) := ⟨zA1 q, (zA6 h).1, (zA6 h).2⟩
theorem zBU {j k : Nat} (h : j ≤ k) {r : RatL} (hr : okQ j r) : okQ k r := ⟨hr.1, Nat.le_trans hr.2.1 h, Nat.le_trans hr.2.2 h⟩
theorem okA_L {k : Nat} {f : QF} (h : szF k f) (hl : f.ts.length ≤ 1048576) : okA k f.L := by
 refine ⟨zIN h.1, fun t ht => ?_, by simpa [QF.L] using hl⟩;obtain ⟨p, hp, rfl⟩ := List.mem_map.1 ht;exact zIN (h.2 p hp)
theorem ev1_sz {k kx : Nat} {x : List Rat} (hx : ∀ q ∈ x, sz kx q) : ∀ (ts : List QT) (y : Rat) (m : Nat), (∀ t ∈ ts, sz k t.2) → (∀ t ∈ ts, 0 ≤ t.1 ∧ t.1 < x.length) → sz m y → sz (m + ts.length * (k + kx + 1)) (ev1 x ts y)
 | [], y, m, _, _, hy => by simpa [ev1] using hy
 | t :: ts, y, m, ht, hv, hy => by
   have h0 := hv t (by simp);have hj : t.1.toNat < x.length := by omega
   have h1 := zEC hy (zDH (ht t (by simp)) (hx x[t.1.toNat]! (by rw [getElem!_pos x _ hj]; exact List.getElem_mem hj)));have h2 := ev1_sz hx ts _ _ (fun s hs => ht s (by simp [hs])) (fun s hs => hv s (by simp [hs])) h1;have e : ev1 x (t :: ts) y = ev1 x ts (y + t.2 * x[t.1.toNat]!) := rfl;rw [e];refine zC9 ?_ h2;rw [List.length_cons, Nat.add_mul]; omega
theorem evQ_sz {k kx : Nat} {f : QF} {x : List Rat} (hf : szF k f) (hx : ∀ q ∈ x, sz kx q) (hv : ∀ t ∈ f.ts, 0 ≤ t.1 ∧ t.1 < x.length) : sz (k + f.ts.length * (k + kx + 1)) (evQ f x) :=
 ev1_sz hx f.ts f.c k hf.2 hv hf.1
def feas (P : QP) (x : List Rat) : Prop := (x.length : Int) = P.vars ∧ ∀ f ∈ P.rows, 0 ≤ evQ f x
instance (P : QP) (x : List Rat) : Decidable (feas P x) := by unfold feas; exact inferInstance
def dirQ (f : QF) (x : List Rat) : Rat := evQ ⟨f.ts, 0⟩ x
def unbX (P : QP) (x : List Rat) : Prop := (∀ f ∈ P.rows, 0 ≤ dirQ f x) ∧ dirQ P.obj x < 0
instance (P : QP) (x : List Rat) : Decidable (unbX P x) := by unfold unbX; exact inferInstance
def unbP (P : QP) (pt ray : List RatL) : Prop := (canL pt ∧ feas P (pt.map qv)) ∧ (ray.length : Int) = P.vars ∧ canL ray ∧ unbX P (ray.map qv)
instance (P : QP) (pt ray : List RatL) : Decidable (unbP P pt ray) := by unfold unbP; exact inferInstance
def smR (x : RatL) : Prop := x.num.length ≤ 2 ∧ x.den.length ≤ 2 ∧ x = cr (qv x)
instance (x : RatL) : Decidable (smR x) := by unfold smR; exact inferInstance
def smF (f : AffL) : Prop := f.terms.length ≤ 8 ∧ smR f.const ∧ ValidF f 1048576 ∧ ∀ i, i < f.terms.length → smR f.terms[i]!.coef
def smFs (l : List AffL) (m : Int) : Prop := (l.length : Int) ≤ m ∧ ∀ i, i < l.length → smF l[i]!
noncomputable def dB (p : Prop) : Bool := @decide p (Classical.propDecidable _)
theorem dB_true {p : Prop} : dB p = true ↔ p := by simp [dB]
theorem dB_false {p : Prop} : dB p = false ↔ ¬ p := by simp [dB]
theorem dB_yes {p : Prop} (h : p) : true = dB p := (dB_true.2 h).symm
theorem zFA {p : Prop} (h : ¬ p) : false = dB p := (dB_false.2 h).symm
end Go.PI
namespace Go.PI
instance : DecidableEq TermL := fun a b => decidable_of_iff (a.var = b.var ∧ a.coef = b.coef) (by cases a; cases b; simp)
instance : DecidableEq AffL := fun a b => decidable_of_iff (a.terms = b.terms ∧ a.const = b.const) (by cases a; cases b; simp)
structure RegL where
 lo : List RatL
 hi : List RatL
 rows : List AffL
 deriving Inhabited
def encReg (r : RegL) : PV := .agg [.imm (r.lo.map encRat), .imm (r.hi.map encRat), .imm (r.rows.map encAff)]
def okLs (k : Nat) (l : List RatL) : Prop := l.length ≤ 1048576 ∧ ∀ x ∈ l, okQ k x
def okReg (k : Nat) (r : RegL) : Prop := okLs k r.lo ∧ okLs k r.hi ∧ (∀ f ∈ r.rows, okA k f) ∧ r.rows.length ≤ 1048576
theorem zFR {j k : Nat} (h : j ≤ k) {l : List RatL} (hl : okLs j l) : okLs k l := ⟨hl.1, fun x hx => zBU h (hl.2 x hx)⟩
theorem zBQ {k : Nat} {l : List RatL} (h : okLs k l) {i : Nat} (hi : i < l.length) : okQ k l[i]! := by
 rw [getElem!_pos l i hi]; exact h.2 _ (List.getElem_mem hi)
theorem zBE {j k : Nat} (h : j ≤ k) {f : AffL} (hf : okA j f) : okA k f := ⟨zBU h hf.1, fun t ht => zBU h (hf.2.1 t ht), hf.2.2⟩
theorem zEJ {j k : Nat} (h : j ≤ k) {r : RegL} (hr : okReg j r) : okReg k r := ⟨zFR h hr.1, zFR h hr.2.1, fun f hf => zBE h (hr.2.2.1 f hf), hr.2.2.2⟩
def okBd (r : RegL) (i : Nat) : Prop := r.lo[i]! = cr (qv r.lo[i]!) ∧ r.hi[i]! = cr (qv r.hi[i]!) ∧ qv r.lo[i]! ≤ qv r.hi[i]!
def VaR (r : RegL) (n : Int) : Prop := (1 ≤ n ∧ n ≤ 256) ∧ (r.lo.length : Int) = n ∧ (r.hi.length : Int) = n ∧ r.rows.length ≤ 256 ∧ (∀ i, i < r.lo.length → okBd r i) ∧ ∀ i, i < r.rows.length → ValidF r.rows[i]! n
def VaO (r : RegL) : Prop := VaR r r.lo.length
structure QR where
 lo : List Rat
 hi : List Rat
 rows : List QF
 deriving Inhabited
def RegL.Q (r : RegL) : QR := ⟨r.lo.map qv, r.hi.map qv, r.rows.map AffL.Q⟩
def QR.L (r : QR) : RegL := ⟨r.lo.map cr, r.hi.map cr, r.rows.map QF.L⟩
theorem getD_map_qv {l : List RatL} {i : Nat} (hi : i < l.length) : (l.map qv)[i]! = qv l[i]! := by
 rw [getElem!_pos (l.map qv) i (by simpa using hi), getElem!_pos l i hi]; simp
theorem getD_map_cr {l : List Rat} {i : Nat} (hi : i < l.length) : (l.map cr)[i]! = cr l[i]! := by
 rw [getElem!_pos (l.map cr) i (by simpa using hi), getElem!_pos l i hi]; simp
def maxQ (a b : Rat) : Rat := if b ≤ a then a else b
theorem sgn_ge {a b : Rat} : 0 ≤ sgnQ (a - b) ↔ b ≤ a := by
 have := sgnQ_neg (q := a - b);constructor
 ·intro h; exact Rat.not_lt.1 fun e => by have := this.2 (by grind); omega
 ·intro h; exact Int.not_lt.1 fun e => by have := this.1 e; grind
theorem sgn_le {a b : Rat} : sgnQ (a - b) ≤ 0 ↔ a ≤ b := by
 have := sgnQ_pos (q := a - b);constructor
 ·intro h; exact Rat.not_lt.1 fun e => by have := this.2 (by grind); omega
 ·intro h; exact Int.not_lt.1 fun e => by have := this.1 e; grind
def okFs (k : Nat) (l : List AffL) : Prop := l.length ≤ 1048576 ∧ ∀ f ∈ l, okA k f
theorem at_fun1c {ρ : Nat → Nat} {k : Nat} {t : Tm} {j : Nat} {fn : Fn} {c : PV} {o : Nat} (h : t j = .func fn [] [.cptr c o]) : at' ρ k t j (.func fn [] [.cptr c o]) := by unfold at'; rw [h]; exact ⟨rfl, trivial, rfl, trivial⟩
end Go.PI
namespace Go.PI
theorem zGZ (w n : Nat) : (BitVec.ofInt w (n : Int)).toNat = n % 2 ^ w := by simp
theorem bitF_or64 {a b i : Nat} (hb : b < 2 ^ i) (h : 2 ^ i * a + b < 18446744073709551616) : bitF .or .u64 ((2 ^ i * a : Nat) : Int) (b : Int) = ((2 ^ i * a + b : Nat) : Int) := by
 rw [zEN]; unfold bitF0;dsimp only;have e1 : (BitVec.ofInt (IntKind.bits .u64) ((2 ^ i * a : Nat) : Int)).toNat = 2 ^ i * a := by rw [zGZ]; exact Nat.mod_eq_of_lt (by show _ < 2 ^ 64; omega)
 have e2 : (BitVec.ofInt (IntKind.bits .u64) (b : Int)).toNat = b := by rw [zGZ]; exact Nat.mod_eq_of_lt (by show _ < 2 ^ 64; omega)
 rw [BitVec.toNat_or, e1, e2, ← Nat.two_pow_add_eq_or_of_lt hb, wrap64];omega
theorem zJ2 {a b i : Nat} (hb : b < 2 ^ i) (h : 2 ^ i * a + b < 18446744073709551616) : bitF .or .u64 (b : Int) ((2 ^ i * a : Nat) : Int) = ((2 ^ i * a + b : Nat) : Int) := by
 rw [← bitF_or64 hb h];rw [zEN]; unfold bitF0;dsimp only;rw [BitVec.or_comm]
theorem bitF_or32 {a b i : Nat} (hb : b < 2 ^ i) (h : 2 ^ i * a + b < 4294967296) : bitF .or .u32 ((2 ^ i * a : Nat) : Int) (b : Int) = ((2 ^ i * a + b : Nat) : Int) := by
 rw [zEN]; unfold bitF0;dsimp only;have e1 : (BitVec.ofInt (IntKind.bits .u32) ((2 ^ i * a : Nat) : Int)).toNat = 2 ^ i * a := by rw [zGZ]; exact Nat.mod_eq_of_lt (by show _ < 2 ^ 32; omega)
 have e2 : (BitVec.ofInt (IntKind.bits .u32) (b : Int)).toNat = b := by rw [zGZ]; exact Nat.mod_eq_of_lt (by show _ < 2 ^ 32; omega)
 rw [BitVec.toNat_or, e1, e2, ← Nat.two_pow_add_eq_or_of_lt hb, wrap32];omega
theorem bitF_or32' {a b i : Nat} (hb : b < 2 ^ i) (h : 2 ^ i * a + b < 4294967296) : bitF .or .u32 (b : Int) ((2 ^ i * a : Nat) : Int) = ((2 ^ i * a + b : Nat) : Int) := by
 rw [← bitF_or32 hb h];rw [zEN]; unfold bitF0;dsimp only;rw [BitVec.or_comm]
theorem or_limb {x y : Int} (hx : 0 ≤ x ∧ x < 4294967296) (hy : 0 ≤ y ∧ y < 4294967296) : bitF .or .u64 (x * shl2 .u64 32) y = x * 4294967296 + y := by
 have h := bitF_or64 (a := x.toNat) (b := y.toNat) (i := 32) (by omega) (by omega);rw [zGC];have e1 : ((2 ^ 32 * x.toNat : Nat) : Int) = x * 4294967296 := by omega
 have e2 : ((y.toNat : Nat) : Int) = y := by omega
 rw [e1, e2] at h;rw [h];omega
theorem or_limb' {x y : Int} (hx : 0 ≤ x ∧ x < 4294967296) (hy : 0 ≤ y ∧ y < 4294967296) : bitF .or .u64 y (x * shl2 .u64 32) = x * 4294967296 + y := by
 have h := zJ2 (a := x.toNat) (b := y.toNat) (i := 32) (by omega) (by omega);rw [zGC];have e1 : ((2 ^ 32 * x.toNat : Nat) : Int) = x * 4294967296 := by omega
 have e2 : ((y.toNat : Nat) : Int) = y := by omega
 rw [e1, e2] at h;rw [h];omega
theorem or_shl {X h k : Nat} (hk : k < 32) (hh : h < 2 ^ k) : bitF .or .u32 (h : Int) ((X * 2 ^ k % 4294967296 : Nat) : Int) = ((X * 2 ^ k % 4294967296 + h : Nat) : Int) ∧ X * 2 ^ k % 4294967296 + h < 4294967296 := by
 have e : X * 2 ^ k % 4294967296 = 2 ^ k * (X % 2 ^ (32 - k)) := by
  rw [Nat.mul_comm, show 4294967296 = 2 ^ k * 2 ^ (32 - k) by rw [← Nat.pow_add, show k + (32 - k) = 32 by omega], Nat.mul_mod_mul_left]
 have hlt : 2 ^ k * (X % 2 ^ (32 - k)) + h < 4294967296 := by
  have h1 : X % 2 ^ (32 - k) < 2 ^ (32 - k) := Nat.mod_lt _ (Nat.pow_pos (by decide));have h2 : 2 ^ k * (X % 2 ^ (32 - k) + 1) ≤ 2 ^ k * 2 ^ (32 - k) := Nat.mul_le_mul_left _ h1;rw [← Nat.pow_add, show k + (32 - k) = 32 by omega, Nat.mul_add, Nat.mul_one] at h2;omega
 rw [e];exact ⟨bitF_or32' hh hlt, hlt⟩
theorem oK_setN {α : Type} [Inhabited α] {f : α → PV} {l : List α} {i k : Nat} {x : α} (j : Nat) {K : PV → Prop} (e : k = j) (h : j < l.length) (hne : i ≠ j) (q : K (f l[j]!)) : oK (nth ((l.map f).set i (f x)) k) K := by
 subst e;refine oK_intro ?_ q;rw [zD2, List.getElem?_set_ne hne, List.getElem?_map, List.getElem?_eq_getElem h, getElem!_pos l k h];rfl
theorem shr_step {k : Nat} (hk : k < 32) (a b T : Nat) (ha : a < 4294967296) : (a + 4294967296 * (b + 4294967296 * T)) / 2 ^ k = (a + 4294967296 * b) / 2 ^ k % 4294967296 + 4294967296 * ((b + 4294967296 * T) / 2 ^ k) := by
 obtain ⟨P, eP⟩ : ∃ P, 2 ^ k = P := ⟨_, rfl⟩;obtain ⟨Q, eQ⟩ : ∃ Q, 2 ^ (32 - k) = Q := ⟨_, rfl⟩;have hB : P * Q = 4294967296 := by rw [← eP, ← eQ, ← Nat.pow_add, show k + (32 - k) = 32 by omega]
 have hP : 0 < P := eP ▸ Nat.pow_pos (by decide);have hQ : 0 < Q := eQ ▸ Nat.pow_pos (by decide);rw [eP, ← hB];have d1 : ∀ N, (a + P * Q * N) / P = a / P + Q * N := fun N => by rw [Nat.mul_assoc, Nat.add_mul_div_left _ _ hP]
 rw [d1, d1];have haQ : a / P < Q := Nat.div_lt_of_lt_mul (by rw [hB]; exact ha);obtain ⟨N, eN⟩ : ∃ N, b + P * Q * T = N := ⟨_, rfl⟩;rw [eN];have hbm : N % P = b % P := by rw [← eN, Nat.mul_assoc, Nat.add_mul_mod_self_left]
 have h1 : Q * N = P * Q * (N / P) + Q * (b % P) := by
  conv => lhs; rw [← Nat.div_add_mod N P]
  rw [Nat.mul_add, hbm, ← Nat.mul_assoc, Nat.mul_comm Q P]
 have h2 : Q * b = P * Q * (b / P) + Q * (b % P) := by
  conv => lhs; rw [← Nat.div_add_mod b P]
  rw [Nat.mul_add, ← Nat.mul_assoc, Nat.mul_comm Q P]
 have h3 : (a / P + Q * b) % (P * Q) = a / P + Q * (b % P) := by
  rw [h2, show a / P + (P * Q * (b / P) + Q * (b % P)) = a / P + Q * (b % P) + P * Q * (b / P) by omega, Nat.add_mul_mod_self_left];refine Nat.mod_eq_of_lt ?_;have : Q * (b % P + 1) ≤ Q * P := Nat.mul_le_mul_left _ (Nat.mod_lt _ hP);rw [Nat.mul_add, Nat.mul_one, Nat.mul_comm Q P] at this;omega
 rw [h3, h1];omega
def limsN : Nat → Nat → List Int
 | 0, _ => []
 | k + 1, n => ((n % 4294967296 : Nat) : Int) :: limsN k (n / 4294967296)
theorem zG3 : ∀ k n, (limsN k n).length = k
 | 0, _ => rfl
 | k + 1, n => by simp [limsN, zG3 k]
theorem limsN_ok : ∀ k n, okN (limsN k n)
 | 0, _ => zDQ
 | k + 1, n => okN_cons.2 ⟨by omega, limsN_ok k _⟩
theorem nv_limsN : ∀ k n, n < pw k → nv (limsN k n) = n
 | 0, n, h => by simp [zCG] at h; simp [limsN, nv, h]
 | k + 1, n, h => by
   rw [zA2] at h;rw [limsN, nv, nv_limsN k _ (by omega)];omega
theorem zKS : ∀ {xs : List Int}, okN xs → limsN xs.length (nv xs) = xs
 | [], _ => rfl
 | x :: xs, h => by
   have h1 := (okN_cons.1 h).1;have e1 : nv (x :: xs) % 4294967296 = x.toNat := by rw [nv]; omega
   have e2 : nv (x :: xs) / 4294967296 = nv xs := by rw [nv]; omega
   rw [List.length_cons, limsN, e1, e2, zKS (okN_cons.1 h).2]
   congr 1
   omega
def blF : Nat → Nat → Nat
 | 0, _ => 0
 | f + 1, n => if n = 0 then 0 else blF f (n / 2) + 1
def bl (n : Nat) : Nat := blF 64 n
theorem blF_fuel : ∀ (f g n : Nat), n < 2 ^ f → n < 2 ^ g → blF f n = blF g n
 | 0, g, n, h, _ => by
   obtain rfl : n = 0 := by simp at h; exact h
   cases g <;> simp [blF]
 | f + 1, 0, n, _, h => by
   obtain rfl : n = 0 := by simp at h; exact h
   simp [blF]
 | f + 1, g + 1, n, h1, h2 => by
   simp only [blF]
   split
   ·rfl
   ·rw [blF_fuel f g _ (by rw [Nat.pow_succ] at h1; omega) (by rw [Nat.pow_succ] at h2; omega)]
theorem bl_zero : bl 0 = 0 := rfl
theorem zFU {n : Nat} (h : n ≠ 0) (hb : n < 2 ^ 64) : bl n = bl (n / 2) + 1 := by
 unfold bl;rw [blF, if_neg h, blF_fuel 63 64 _ (by omega) (by omega)]
theorem zB7 : ∀ (f n : Nat), n < 2 ^ f → f ≤ 64 → n < 2 ^ bl n ∧ (n ≠ 0 → 2 ^ bl n ≤ 2 * n) ∧ bl n ≤ f
 | 0, n, h, _ => by
   obtain rfl : n = 0 := by simp at h; exact h
   simp [bl_zero]
 | f + 1, n, h, hf => by
   by_cases h0 : n = 0
   ·subst h0; simp [bl_zero]
   ·have hb : n < 2 ^ 64 := Nat.lt_of_lt_of_le h (Nat.pow_le_pow_right (by decide) hf)
    obtain ⟨i1, i2, i3⟩ := zB7 f (n / 2) (by rw [Nat.pow_succ] at h; omega) (by omega);rw [zFU h0 hb, Nat.pow_succ];refine ⟨by omega, fun _ => ?_, by omega⟩;by_cases h1 : n / 2 = 0
    ·rw [h1, bl_zero]; simp; omega
    ·have := i2 h1; omega
theorem bl_256 {n : Nat} (h : 256 ≤ n) (hb : n < 2 ^ 64) : bl n = bl (n / 256) + 8 := by
 rw [zFU (by omega) hb, zFU (n := n / 2) (by omega) (by omega), zFU (n := n / 2 / 2) (by omega) (by omega), zFU (n := n / 2 / 2 / 2) (by omega) (by omega), zFU (n := n / 2 / 2 / 2 / 2) (by omega) (by omega), zFU (n := n / 2 / 2 / 2 / 2 / 2) (by omega) (by omega), zFU (n := n / 2 / 2 / 2 / 2 / 2 / 2) (by omega) (by omega), zFU (n := n / 2 / 2 / 2 / 2 / 2 / 2 / 2) (by omega) (by omega)];rw [show n / 2 / 2 / 2 / 2 / 2 / 2 / 2 / 2 = n / 256 by omega]
theorem bl_65536 {n : Nat} (h : 65536 ≤ n) (hb : n < 2 ^ 64) : bl n = bl (n / 65536) + 16 := by
 rw [bl_256 (by omega) hb, bl_256 (n := n / 256) (by omega) (by omega), show n / 256 / 256 = n / 65536 by omega]
theorem oK_tab {S : ByteArray} (hS : (List.range 256).all (fun m => match S[m]? with | some b => b.toNat == bl m | none => false) = true) {i : Int} {n : Nat} (e : i = (n : Int)) (hn : n < 256) {K : UInt8 → Prop} (k : ∀ b : UInt8, b.toNat = bl n → K b) : oK (S[i.toNat]?) K := by
 subst e;rw [List.all_eq_true] at hS;have := hS n (List.mem_range.2 hn);rw [Int.toNat_natCast]
 split at this
 ·rename_i b hb
  exact oK_intro hb (k b (by simpa using this))
 ·cases this
theorem zI2 {a : Int} {k : IntKind} {b : Int} {j : Nat} (h : min b.toNat k.bits = j) : a.fdiv (shl2 k b) = a / 2 ^ j := by
 rw [zH9]; unfold shl20;rw [h, Int.fdiv_eq_ediv_of_nonneg _ (Int.le_of_lt (Int.pow_pos (by decide)))]
theorem wrap8 (n : Int) : IntKind.wrap .u8 n = n % 256 := by simp [IntKind.wrap, IntKind.signed, IntKind.bits]
theorem ov_m8 {n : Int} {K : Int → Prop} (h : K (n % 256)) : ov .u8 n K := ov_to (wrap8 n) h
end Go.PI
namespace Go.PI
theorem pw_two (k : Nat) : pw k = 2 ^ (32 * k) := by unfold pw; rw [Nat.pow_mul]
theorem nv_div_pw {xs : List Int} (h : okN xs) (j : Nat) : nv xs / pw j = nt xs j := by
 rw [zCA xs j, Nat.add_mul_div_left _ _ (zIH j), Nat.div_eq_of_lt (zMT h j), Nat.zero_add]
theorem bit_of {xs : List Int} (h : okN xs) (i : Nat) : nv xs / 2 ^ i % 2 = lb xs (i / 32) / 2 ^ (i % 32) % 2 := by
 have e : i = 32 * (i / 32) + i % 32 := by omega
 conv => lhs; rw [e]
 rw [Nat.pow_add, ← Nat.div_div_eq_div_mul, ← pw_two, nv_div_pw h, zCU h];have hs : i % 32 < 32 := Nat.mod_lt _ (by decide);generalize i % 32 = s at *
 obtain ⟨r, hr⟩ : ∃ r, 32 = s + (r + 1) := ⟨31 - s, by omega⟩
 have e2 : (4294967296 : Nat) = 2 ^ s * (2 ^ r * 2) := by
  rw [← Nat.pow_succ, ← Nat.pow_add, ← hr]
 generalize nt xs (i / 32 + 1) = T;rw [show 4294967296 * T = 2 ^ s * ((2 ^ r * T) * 2) by rw [e2, Nat.mul_assoc, Nat.mul_assoc, Nat.mul_comm 2 T, Nat.mul_assoc], Nat.add_mul_div_left _ _ (Nat.pow_pos (by decide))];omega
theorem limb_dvd {xs : List Int} (h : okN xs) {i q : Nat} (e : nv xs = 2 ^ (i + 1) * q) : ∃ c, lb xs (i / 32) = 2 ^ (i % 32 + 1) * c := by
 have e1 := nv_div_pw h (i / 32);have e0 : i + 1 = 32 * (i / 32) + (i % 32 + 1) := by omega
 rw [e, e0, Nat.pow_add, ← pw_two, Nat.mul_assoc, Nat.mul_div_cancel_left _ (zIH _), zCU h] at e1;have hs : i % 32 + 1 ≤ 32 := by omega
 generalize i % 32 + 1 = s at *
 obtain ⟨r, hr⟩ : ∃ r, 32 = s + r := ⟨32 - s, by omega⟩;have e2 : (4294967296 : Nat) = 2 ^ s * 2 ^ r := by rw [← Nat.pow_add, ← hr]
 have hlt := zCI h (i / 32);generalize nt xs (i / 32 + 1) = T at *
 generalize lb xs (i / 32) = L at *
 rw [show 4294967296 * T = 2 ^ s * (2 ^ r * T) by rw [e2, Nat.mul_assoc]] at e1;have : 2 ^ s ∣ L := (Nat.dvd_add_left (Nat.dvd_mul_right (2 ^ s) (2 ^ r * T))).1 ⟨q, e1.symm⟩;exact this
theorem limb_or {s c : Nat} (hs : s < 32) (h : 2 ^ (s + 1) * c < 4294967296) : bitF .or .u32 ((2 ^ (s + 1) * c : Nat) : Int) ((2 ^ s : Nat) : Int) = ((2 ^ (s + 1) * c + 2 ^ s : Nat) : Int) ∧ 2 ^ (s + 1) * c + 2 ^ s < 4294967296 := by
 have e : 2 ^ s < 2 ^ (s + 1) := Nat.pow_lt_pow_right (by decide) (by omega)
 have hb : 2 ^ (s + 1) * c + 2 ^ s < 4294967296 := by
  obtain ⟨r, hr⟩ : ∃ r, 32 = (s + 1) + r := ⟨31 - s, by omega⟩;have e2 : (4294967296 : Nat) = 2 ^ (s + 1) * 2 ^ r := by rw [← Nat.pow_add, ← hr]
  rw [e2] at h ⊢;have hc := Nat.lt_of_mul_lt_mul_left h;have := Nat.mul_le_mul_left (2 ^ (s + 1)) (show c + 1 ≤ 2 ^ r by omega);rw [Nat.mul_add] at this;omega
 exact ⟨bitF_or32 e hb, hb⟩
theorem shl2_32u {b : Int} (h : 0 ≤ b ∧ b < 32) : shl2 .u32 b = 2 ^ b.toNat := by
 rw [zH9]; unfold shl20;have : min b.toNat (IntKind.bits .u32) = b.toNat := by show min b.toNat 32 = _; omega
 rw [this]
theorem bitF_and1 {n : Nat} (h : n < 4294967296) : bitF .and .u32 (n : Int) 1 = ((n % 2 : Nat) : Int) := by
 rw [zEN]; unfold bitF0;dsimp only;have e1 : (BitVec.ofInt (IntKind.bits .u32) (n : Int)).toNat = n := by rw [zGZ]; exact Nat.mod_eq_of_lt (by show _ < 2 ^ 32; omega)
 have e2 : (BitVec.ofInt (IntKind.bits .u32) (1 : Int)).toNat = 1 := by rfl
 rw [BitVec.toNat_and, e1, e2, Nat.and_one_is_mod, wrap32];omega
end Go.PI
namespace Go.PI
def conR (r : RegL) (x : List RatL) : Prop := VaO r ∧ x.length = r.lo.length ∧ (∀ i, i < x.length → qv r.lo[i]! ≤ qv x[i]! ∧ qv x[i]! ≤ qv r.hi[i]!) ∧ ∀ i, i < r.rows.length → 0 ≤ evQ r.rows[i]!.Q (x.map qv)
theorem zCQ {k : Nat} {f : AffL} (h : okA k f) (hk : 1 ≤ k) : szF k f.Q := by
 refine ⟨zH8 h.1.1 h.1.2.1 h.1.2.2 hk, fun p hp => ?_⟩;unfold AffL.Q at hp;obtain ⟨t, ht, rfl⟩ := List.mem_map.1 hp;have := h.2.1 t ht;exact zH8 this.1 this.2.1 this.2.2 hk
theorem Q_len (f : AffL) : f.Q.ts.length = f.terms.length := by simp [AffL.Q]
theorem sz_sub {j k : Nat} {p q : Rat} (h1 : sz j p) (h2 : sz k q) : sz (j + k + 1) (p - q) := by
 have : sz k (-q) := ⟨by simpa using h2.1, by simpa using h2.2⟩;rw [Rat.sub_eq_add_neg]; exact zEC h1 this
theorem get_range {α : Type} [Inhabited α] {f : Nat → α} {n i : Nat} (h : i < n) : ((List.range n).map f)[i]! = f i := by
 rw [getElem!_pos _ i (by simpa using h)]; simp
def inK (l : List Int) (i : Nat) : Nat := if i < l.length then l[i]!.toNat % 9 else 0
def insR (r : RegL) (l : List Int) : List Rat := (List.range r.lo.length).map fun i => qv r.lo[i]! + mkRat (inK l i) 8 * (qv r.hi[i]! - qv r.lo[i]!)
theorem sz_part (l : List Int) (i : Nat) : sz 1 (mkRat (inK l i) 8) := by
 have h : inK l i < 9 := by unfold inK; split <;> omega
 refine sz_mk (by decide) ?_ (by decide +kernel);exact Nat.lt_of_lt_of_le (show _ < 9 by simpa using h) (by decide +kernel)
end Go.PI
namespace Go.PI
def okBy (l : List Int) : Prop := l.length ≤ 1048576 ∧ ∀ x ∈ l, 0 ≤ x ∧ x < 256
def nx1 (l : List Int) (a n : Nat) : Nat := if a < l.length then l[a]!.toNat % n else 0
def nx2 (l : List Int) (a : Nat) : Nat := if a < l.length then a + 1 else a
def varQ (v : Int) : QF := ⟨[(v, 1)], 0⟩
theorem varQ_srt (v : Int) : Srt (varQ v).ts := by
 rw [show (varQ v).ts = (v, 1) :: [] from rfl, srt_cons];exact ⟨fun q hq => (by cases hq), (show (1 : Rat) ≠ 0 by decide +kernel), zGB⟩
theorem zC8 (v : Int) : szF 1 (varQ v) := by
 refine ⟨(zC4 1 (by decide)).1, fun p hp => ?_⟩;have e : p = (v, 1) := List.mem_singleton.1 hp;rw [e];exact zCL (z := 1) (by decide)
end Go.PI
namespace Go.PI
open Go
mutual
def bulk {H : Type} : DataW H → Nat
 | .lit (.string bytes) => bytes.length + 1
 | .lit _ => 1
 | .nil => 1
 | .ptr d => bulk d + 1
 | .slice elems spare => bulkAll elems + bulkAll spare + 1
 | .agg parts => bulkAll parts + 1
 | .iface _ d => bulk d + 1
 | .map entries => bulkEntries entries + 1
 | .held _ => 1
def bulkAll {H : Type} : List (DataW H) → Nat
 | [] => 0
 | d :: r => bulk d + bulkAll r
def bulkEntries {H : Type} : List (Lit × DataW H) → Nat
 | [] => 0
 | x :: r => bulkEntry x + bulkEntries r
def bulkEntry {H : Type} : Lit × DataW H → Nat
 | (.string bytes, d) => bytes.length + bulk d + 1
 | (_, d) => bulk d + 1
end
def RC (w : World) (A : Nat → Prop) (ds : List PV) (cs : List Value) : Prop := ds.length = cs.length ∧ ∀ i d, ds[i]? = some d → RD w A d (cs.getD i undef) ∧ (cs.getD i undef).oneCell' = true
abbrev AllB (w : World) : Nat → Prop := fun b => b < w.heap.size
section
variable {H : Type} {enc : TypeId × Value → H} {P : Program} {w : World} {A : Nat → Prop}
theorem RC.one {d : PV} {v : Value} (h : RD w A d v) (h1 : v.oneCell' = true) : RC w A [d] [v] := ⟨rfl, fun i x hx => by
 cases i with
 | zero => simp at hx; subst hx; exact ⟨h, h1⟩
 | succ i => simp at hx⟩
theorem zMU {α : Type} (l : List α) (o n i : Nat) (x : α) (h : i < n) : ((l.drop o).take n).getD i x = l.getD (o + i) x := by
 simp only [List.getD_eq_getElem?_getD, List.getElem?_take, h, if_true, List.getElem?_drop]
theorem getD_drop {α : Type} (l : List α) (o i : Nat) (x : α) : (l.drop o).getD i x = l.getD (o + i) x := by
 simp only [List.getD_eq_getElem?_getD, List.getElem?_drop]
theorem RC.step {a b : List PV} {cs : List Value} {o n o' : Nat} (h1 : RC w A a ((cs.drop o).take n)) (ho : o' = o + n) (hn : n ≤ cs.length - o) (h2 : RC w A b (cs.drop o')) : RC w A (a ++ b) (cs.drop o) := by
 subst ho;have e1 := h1.1;have e2 := h2.1;rw [List.length_take, List.length_drop] at e1;rw [List.length_drop] at e2;refine ⟨by rw [List.length_append, List.length_drop]; omega, fun i d hd => ?_⟩;by_cases hi : i < a.length
 ·rw [List.getElem?_append_left hi] at hd
  have := h1.2 i d hd;rw [zMU _ _ _ _ _ (by omega)] at this;rw [getD_drop];exact this
 ·rw [List.getElem?_append_right (by omega)] at hd
  have := h2.2 _ d hd;rw [getD_drop] at this ⊢;rw [show o + n + (i - a.length) = o + i by omega] at this;exact this
theorem RC.last {a : List PV} {cs : List Value} {o n : Nat} (h1 : RC w A a ((cs.drop o).take n)) (ho : cs.length - o ≤ n) : RC w A a (cs.drop o) := by
 rw [List.take_of_length_le (by rw [List.length_drop]; exact ho)] at h1;exact h1
theorem add_none (b o n : Nat) : (⟨b, o, none⟩ : Addr).add n = ⟨b, o + n, none⟩ := by
 unfold Addr.add
 split
 ·rename_i h; subst h; rfl
 ·rfl
theorem cell_spot {w : World} {a : Addr} {v : Value} (h : w.cell? a = some v) : a.spot = none := by
 unfold World.cell? at h
 split at h
 ·split at h
  ·cases h
  ·rename_i hs; simpa using hs
 ·cases h
def Reads {α : Type} (enc : TypeId × Value → H) (P : Program) (w : World) (n : Nat) (t : TypeId) (e : α → List PV) (Q : α → Nat → Prop) : Prop :=
 ∀ fuel, fuel ≤ n → ∀ cs (d : DataW H) ps, DataW.trod enc P w 0 (fun _ => true) true fuel t cs = some (d, ps) → ∃ x : α, RC w (AllB w) (e x) cs ∧ Q x (bulk d)
theorem Reads.mono {α : Type} {n : Nat} {t : TypeId} {e : α → List PV} {Q Q' : α → Nat → Prop} (h : Reads enc P w n t e Q) (hq : ∀ x B, Q x B → Q' x B) : Reads enc P w n t e Q' := fun fuel hf cs d ps hd => let ⟨x, h1, h2⟩ := h fuel hf cs d ps hd; ⟨x, h1, hq _ _ h2⟩
theorem zB6 {n : Nat} {t : TypeId} {k : IntKind} (ht : P.underlying t = some (.int k)) : Reads enc P w n t (fun x : Int => [.int k x]) (fun x B => (Lit.int k x).wf = true ∧ 1 ≤ B) := by
 intro fuel _ cs d ps h;obtain ⟨x, rfl, he, hw⟩ := DataW.trod_int ht h;cases he
 exact ⟨x, RC.one (.int k x) rfl, hw, Nat.le_refl _⟩
theorem zJG {n : Nat} {t : TypeId} (ht : P.underlying t = some .bool) : Reads enc P w n t (fun x : Bool => [.bool x]) (fun _ B => 1 ≤ B) := by
 intro fuel _ cs d ps h;obtain ⟨x, rfl, he⟩ := DataW.trod_bool ht h;cases he
 exact ⟨x, RC.one (.bool x) rfl, Nat.le_refl _⟩
def QL {α : Type} (Q : α → Nat → Prop) : List α → Nat → Prop
 | [], B => 1 ≤ B
 | x :: xs, B => ∃ b c, Q x b ∧ QL Q xs c ∧ b + c ≤ B
theorem QL.mono {α : Type} {Q : α → Nat → Prop} : ∀ {xs : List α} {B C : Nat}, QL Q xs B → B ≤ C → QL Q xs C
 | [], _, _, h, hc => Nat.le_trans h hc
 | _ :: _, _, _, ⟨b, c, h1, h2, h3⟩, hc => ⟨b, c, h1, h2, Nat.le_trans h3 hc⟩
theorem QL.mem {α : Type} {Q : α → Nat → Prop} : ∀ {xs : List α} {B : Nat}, QL Q xs B → ∀ x ∈ xs, ∃ b, Q x b ∧ b ≤ B
 | x :: xs, B, ⟨b, c, h1, h2, h3⟩, y, hy => by
   rcases List.mem_cons.1 hy with rfl | hy
   ·exact ⟨b, h1, by omega⟩
   ·obtain ⟨b', h4, h5⟩ := QL.mem h2 y hy; exact ⟨b', h4, by omega⟩
theorem QL.len {α : Type} {Q : α → Nat → Prop} (hq : ∀ x b, Q x b → 1 ≤ b) : ∀ {xs : List α} {B : Nat}, QL Q xs B → xs.length < B
 | [], _, h => h
 | x :: xs, B, ⟨b, c, h1, h2, h3⟩ => by have := QL.len hq h2; have := hq _ _ h1; simp; omega
theorem QL.sum {α : Type} {Q : α → Nat → Prop} {f : α → Nat} (hq : ∀ x b, Q x b → f x ≤ b) : ∀ {xs : List α} {B : Nat}, QL Q xs B → (xs.map f).sum < B
 | [], _, h => h
 | x :: xs, B, ⟨b, c, h1, h2, h3⟩ => by have := QL.sum hq h2; have := hq _ _ h1; simp; omega
theorem zCS {α : Type} {n : Nat} {t e : TypeId} {sz : Nat} {ec : α → List PV} {pack : α → PV} {Q : α → Nat → Prop} (ht : P.underlying t = some (.slice e)) (hc : P.cellsOf e = sz) (hz : sz ≠ 0)
 (hpk : ∀ x, (pack x).cells = ec x ∧ (ec x).length = sz) (hE : Reads enc P w n e ec Q) : Reads enc P w (n + 1) t (fun xs : List α => [.imm (xs.map pack)]) (QL Q) := by
 intro fuel hf cs d ps h;rcases DataW.trod_slice ht h with ⟨rfl, he⟩ | ⟨a, len, cap, elems, rest, m, rfl, rfl, he, hb, hl, hm, hlen, hel, hsp, hns⟩
 ·cases he
  exact ⟨[], RC.one (.imm0 none 0) rfl, Nat.le_refl _⟩
 ·cases he
  subst hc
  have each : ∀ i y, elems[i]? = some y → ∃ x : α, ∃ cs', w.cells? 0 (a.add (i * P.cellsOf e)) (P.cellsOf e) = some cs' ∧ RC w (AllB w) (ec x) cs' ∧ Q x (bulk y.1) := by
   intro i y hy;have hi : i < len := by have := (List.getElem?_eq_some_iff.1 hy).1; omega
   have := hel i hi;rw [hy, Option.bind_eq_some_iff] at this;obtain ⟨cs', h1, h2⟩ := this;obtain ⟨x, h3, h4⟩ := hE m (by omega) cs' y.1 y.2 h2;exact ⟨x, cs', h1, h3, h4⟩
  have all : ∃ xs : List α, xs.length = elems.length ∧ (∀ i x, xs[i]? = some x → ∃ cs', w.cells? 0 (a.add (i * P.cellsOf e)) (P.cellsOf e) = some cs' ∧ RC w (AllB w) (ec x) cs') ∧ QL Q xs (bulkAll (elems.map (·.1)) + 1) := by
   clear hel hsp hns h
   have gen : ∀ (l : List (DataW H × List MemPlace)) (k : Nat), (∀ i y, l[i]? = some y → ∃ x : α, ∃ cs', w.cells? 0 (a.add ((k + i) * P.cellsOf e)) (P.cellsOf e) = some cs' ∧ RC w (AllB w) (ec x) cs' ∧ Q x (bulk y.1)) →
    ∃ xs : List α, xs.length = l.length ∧ (∀ i x, xs[i]? = some x → ∃ cs', w.cells? 0 (a.add ((k + i) * P.cellsOf e)) (P.cellsOf e) = some cs' ∧ RC w (AllB w) (ec x) cs') ∧ QL Q xs (bulkAll (l.map (·.1)) + 1) := by
    intro l
    induction l with
    | nil => intro k _; exact ⟨[], rfl, fun i x hx => by simp at hx, by simp [QL, bulkAll]⟩
    | cons y l ih =>
      intro k hk;obtain ⟨x, cs', g1, g2, g3⟩ := hk 0 y rfl
      obtain ⟨xs, f1, f2, f3⟩ := ih (k + 1) (fun i z hz => by
       have := hk (i + 1) z (by simpa using hz)
       rwa [show k + (i + 1) = k + 1 + i by omega] at this)
      refine ⟨x :: xs, by simp [f1], fun i z hz => ?_, ⟨_, _, g3, f3, by simp [bulkAll]; omega⟩⟩;cases i with
      | zero => simp at hz; subst hz; exact ⟨cs', g1, g2⟩
      | succ i =>
        have := f2 i z (by simpa using hz)
        rwa [show k + 1 + i = k + (i + 1) by omega] at this
   have := gen elems 0 (fun i y hy => by rw [Nat.zero_add]; exact each i y hy)
   simpa using this
  obtain ⟨xs, hx1, hx2, hx3⟩ := all;refine ⟨xs, RC.one ?_ rfl, hx3.mono (by simp only [bulk]; omega)⟩;by_cases h0 : len = 0
  ·have : xs = [] := List.length_eq_zero_iff.1 (by omega)
   subst this;subst h0;exact .imm0 (some a) cap
  ·have hlt : 0 < xs.length := by omega
   have ha : a.spot = none := by
    obtain ⟨cs', g1, _, _⟩ := hx2 0 xs[0] (List.getElem?_eq_getElem hlt);obtain ⟨_, q1, q2⟩ := World.cells?_some g1;have hc2 := q2 0 (by omega)
    have hv : cs'[0]? = some (cs'.getD 0 undef) := by
     rw [List.getD_eq_getElem?_getD, List.getElem?_eq_getElem (by omega)]; rfl
    rw [hv] at hc2;have e1 : (a.add (0 * P.cellsOf e)).add 0 = a := by unfold Addr.add; simp
    rw [e1] at hc2;exact cell_spot hc2
   obtain ⟨ab, ao, as⟩ := a;dsimp only at ha;subst ha
   have cellat : ∀ i x, xs[i]? = some x → ∀ c, c < P.cellsOf e → ∃ v, w.cell? ⟨ab, ao + i * P.cellsOf e + c, none⟩ = some v ∧ v.oneCell' = true ∧ (∀ d, (pack x).cells[c]? = some d → RD w (AllB w) d v) := by
    intro i x hx c hcz;obtain ⟨cs', g1, g2, g3⟩ := hx2 i x hx;obtain ⟨_, q1, q2⟩ := World.cells?_some g1;have hc2 := q2 c (by omega)
    have hv : cs'[c]? = some (cs'.getD c undef) := by
     rw [List.getD_eq_getElem?_getD, List.getElem?_eq_getElem (by omega)]; rfl
    rw [hv, add_none, add_none] at hc2;have hcd := (hpk x);have hlx : c < (ec x).length := by omega
    have g4 := g3 c _ (List.getElem?_eq_getElem hlx);refine ⟨_, hc2, g4.2, fun d hd => ?_⟩;rw [hcd.1] at hd;exact (g3 c d hd).1
   obtain ⟨v0, hv0, _, _⟩ := cellat 0 xs[0] (List.getElem?_eq_getElem hlt) 0 (by omega)
   have hA : ab < w.heap.size := by
    simp only [World.cell?] at hv0;by_cases hb2 : ab < w.heap.size
    ·exact hb2
    ·rw [Array.getElem?_eq_none (by omega)] at hv0; simp at hv0
   have := RD.imm (w := w) (A := AllB w) (xs.map pack) (P.cellsOf e) ab ao cap
    (fun i c => (w.cell? ⟨ab, ao + i * P.cellsOf e + c, none⟩).getD undef) hA (by simp; omega)
    (fun d hd => by obtain ⟨x, _, rfl⟩ := List.mem_map.1 hd; rw [(hpk x).1, (hpk x).2])
    (fun i c hi hc => by
      rw [List.length_map] at hi;obtain ⟨v, h1, h2, _⟩ := cellat i xs[i] (List.getElem?_eq_getElem hi) c hc
      rw [h1]; exact ⟨rfl, h2⟩)
    (fun i d hd c d' hd' => by
      rw [List.getElem?_map] at hd;cases hx : xs[i]? with
      | none => rw [hx] at hd; cases hd
      | some x =>
        rw [hx] at hd;cases hd
        have hcz : c < P.cellsOf e := by
         have := (List.getElem?_eq_some_iff.1 hd').1;rw [(hpk x).1, (hpk x).2] at this; exact this
        obtain ⟨v, h1, h2, h3⟩ := cellat i x hx c hcz
        rw [h1]; exact h3 d' hd')
   rw [List.length_map, hx1, hlen] at this;exact this
def ReadsF {α : Type} (enc : TypeId × Value → H) (P : Program) (w : World) (n : Nat) (tot : Nat) (fs : List Field) (o : Nat) (e : α → List PV) (Q : α → Nat → Prop) : Prop :=
 ∀ m, m ≤ n → ∀ (cs : List Value) (xs : List (DataW H × List MemPlace)), cs.length = tot → xs.length = fs.length →
   (∀ (i : Nat) (f : Field), fs[i]? = some f → DataW.trod enc P w 0 (fun _ => true) true m f.type ((cs.drop f.offset).take (P.cellsOf f.type)) = xs[i]?) →
   ∃ x : α, RC w (AllB w) (e x) (cs.drop o) ∧ Q x (bulkAll (xs.map (·.1)))
theorem zBT {n tot o : Nat} (h : tot ≤ o) : ReadsF enc P w n tot [] o (fun _ : Unit => []) (fun _ _ => True) := by
 intro m _ cs xs hc _ _;exact ⟨(), ⟨by rw [List.length_drop]; simp; omega, fun i d hd => by simp at hd⟩, trivial⟩
theorem zAK {α β : Type} {n tot o k : Nat} {f : Field} {fs : List Field} {e1 : α → List PV} {e2 : β → List PV} {Q1 : α → Nat → Prop} {Q2 : β → Nat → Prop} (ho : f.offset = o) (hk : P.cellsOf f.type = k) (hle : o + k ≤ tot)
 (h1 : Reads enc P w n f.type e1 Q1) (h2 : ReadsF enc P w n tot fs (o + k) e2 Q2) :
 ReadsF enc P w n tot (f :: fs) o (fun x : α × β => e1 x.1 ++ e2 x.2) (fun x B => ∃ b c, Q1 x.1 b ∧ Q2 x.2 c ∧ b + c ≤ B) := by
 intro m hm cs xs hc hx hf
 match xs, hx with
 | y :: ys, hx =>
   have h0 := hf 0 f rfl;rw [ho, hk] at h0;obtain ⟨x, g1, g2⟩ := h1 m hm _ y.1 y.2 h0;obtain ⟨z, g3, g4⟩ := h2 m hm cs ys hc (by simpa using hx) (fun i f' hf' => by simpa using hf (i + 1) f' (by simpa using hf'));exact ⟨(x, z), RC.step g1 rfl (by omega) g3, _, _, g2, g4, by simp [bulkAll]⟩
theorem zBG {α : Type} {n : Nat} {t : TypeId} {fs : List Field} {tot : Nat} {e : α → List PV} {Q : α → Nat → Prop} (ht : P.underlying t = some (.struct fs.toArray)) (hc : P.cellsOf t = tot)
 (h : ReadsF enc P w n tot fs 0 e Q) : Reads enc P w (n + 1) t e (fun x B => ∃ b, Q x b ∧ b + 1 ≤ B) := by
 intro fuel hf cs d ps hd;obtain ⟨xs, m, rfl, he, hl, hn, hfs⟩ := DataW.trod_struct ht hd;cases he
 obtain ⟨x, h1, h2⟩ := h m (by omega) cs xs (by omega) (by simpa using hn) (fun i f hi => hfs i f (by simpa using hi));exact ⟨x, by simpa using h1, _, h2, by simp [bulk]⟩
theorem Reads.to {α β : Type} {n : Nat} {t : TypeId} {e : α → List PV} {e' : β → List PV} {Q : α → Nat → Prop} {Q' : β → Nat → Prop} (f : α → β) (h : Reads enc P w n t e Q) (he : ∀ x, e x = e' (f x)) (hq : ∀ x B, Q x B → Q' (f x) B) : Reads enc P w n t e' Q' :=
 fun fuel hf cs d ps hd => let ⟨x, h1, h2⟩ := h fuel hf cs d ps hd; ⟨f x, he x ▸ h1, hq _ _ h2⟩
theorem Reads.le {α : Type} {n m : Nat} {t : TypeId} {e : α → List PV} {Q : α → Nat → Prop} (h : Reads enc P w n t e Q) (hm : m ≤ n) : Reads enc P w m t e Q := fun fuel hf => h fuel (Nat.le_trans hf hm)
end
end Go.PI
namespace Go.PI
open Go Go.RowKit Go.WideShapes Go.ChangeShapes Go.WideElems
section
variable {H : Type} {enc : TypeId × Value → H} {P : Program}
theorem zH6 (hl : laidOutB P = true) {W W' : World} (hb : Below W.heap.size W W') {sp : Nat → Bool} : ∀ {ts : List TypeId} {vs : List Value} {ds : List (DataW H)} {ps : List MemPlace},
 ts.all (fun t => P.readableRec t && decide (t < P.types.size)) = true → DataW.TrodAll enc P W 0 (fun _ => true) true ts vs ds ps → (∀ p ∈ ps, sp p.block = true) → DataW.TrodAll enc P W' 0 sp true ts vs ds ps
 | [], [], [], _, _, h, _ => h
 | t :: ts, v :: vs, d :: ds, ps, hr, h, hs => by
   have hlt := h.lt;obtain ⟨p, q, ⟨fuel, h1⟩, h2, e⟩ := h;simp only [List.all_cons, Bool.and_eq_true, decide_eq_true_eq] at hr;have hp : ∀ x ∈ p, x.block < W.heap.size := fun x hx => hlt x (by rw [e]; simp [hx])
   exact ⟨p, q, ⟨fuel, DataW.trod_stays (kids_book hl hr.1.1) (book_sized hr.1.1) (fun h => by cases h) ⟨hr.1.2, book_self t⟩ h1 (fun x hx => hb.same (hp x hx)) (fun x hx => hs x (by rw [e]; simp [hx]))⟩,
    zH6 hl hb (by simpa using hr.2) h2 (fun x hx => hs x (by rw [e]; simp [hx])), e⟩
 | [], [], _ :: _, _, _, h, _ => h.elim
 | [], _ :: _, _, _, _, h, _ => h.elim
 | _ :: _, [], _, _, _, h, _ => h.elim
 | _ :: _, _ :: _, [], _, _, h, _ => h.elim
theorem val_struct {w : World} {r : Reach} {b0 : Nat} {t : TypeId} {v : Value} {fs : Array Field} (ht : P.underlying t = some (.struct fs)) (h : Value.okWide P w r b0 t v) : ∃ cs, v = .agg cs := by
 simp only [Value.okWide, ht] at h;obtain ⟨cs, h, _⟩ := h;exact ⟨cs, h⟩
theorem zNR {w : World} {r : Reach} {b0 : Nat} {ps : Array TypeId} {args : Array Value} (h : ∀ (j : Nat) t v, ps[j]? = some t → args[j]? = some v → Value.okWide P w r b0 t v) (j : Nat) {t : TypeId} {v : Value} {fs : Array Field} (h1 : ps[j]? = some t) (h2 : args[j]? = some v) (ht : P.underlying t = some (.struct fs)) : ∃ cs, v = .agg cs := val_struct ht (h j t v h1 h2)
theorem rc_agg {w : World} {A : Nat → Prop} {ds : List PV} {v : Value} (hc : ∃ cs, v = .agg cs) (h : RC w A ds v.cells.toList) : RD w A (.agg ds) v := by
 obtain ⟨cs, rfl⟩ := hc;simp only [Value.cells] at h;have e : ∀ i, cs.toList.getD i undef = cs.getD i undef := fun i => by simp [Array.getD_eq_getD_getElem?, List.getD_eq_getElem?_getD]
 refine .agg ds cs (by simpa using h.1.symm) (fun i d hd => ?_) (fun i hi => ?_)
 ·have := (h.2 i d hd).1; rwa [e] at this
 ·have := (h.2 i ds[i] (List.getElem?_eq_getElem hi)).2; rwa [e] at this
theorem post_below {f : Func} {s : ChangeSpec} {W W' : World} {args : Array Value} {v : Value} {ds gs : List (DataW H)} {before pa pv : List MemPlace}
 (hW : DataW.Whole enc P f.params.toList s.vars false W args.toList ds gs before)
 (hres : ∀ (b : Nat) (sp : Nat → Bool) (hd : Bool), DataW.TrodAll enc P W' b sp hd f.resultTypes.toList (v.resultList f.resultTypes.size) (s.fn H (ds ++ gs)).results [])
 (hargs : ∀ sp : Nat → Bool, (∀ p ∈ before, sp p.block = true) → DataW.TrodAll enc P W' 0 sp true f.params.toList args.toList (s.fn H (ds ++ gs)).args pa)
 (hvars : ∀ sp : Nat → Bool, (∀ p ∈ before, sp p.block = true) → DataW.TrodVars enc P W' sp s.vars (s.fn H (ds ++ gs)).vars pv)
 (hps : before = pa ++ pv) (hb : Below W.heap.size W W')
 (hok : ∀ (j : Nat) (t : TypeId) (r : Value), f.resultTypes[j]? = some t → (v.resultList f.resultTypes.size)[j]? = some r → Value.okWide P W' .any 0 t r) :
 s.post enc P f false true false false W args v W' := by
 have hold : ∀ p ∈ before, (fun b => decide (b < W.heap.size)) p.block = true := fun p hp => by simpa using hW.lt p hp
 refine ⟨ds, gs, before, [], pa, pv, hW, hres _ _ _, hargs _ hold, hvars _ hold, World.keptBut_mono (fun p hp => ⟨hp, ?_⟩) (hb.frame (· ∈ before)), fun h => by cases h⟩;rw [hps, List.mem_append] at hp;exact Or.inr hp
theorem law_post {G : Gl} {f : FuncId} {fn : Func} {s : ChangeSpec} {tb : TypeId} (hl : laidOutB P = true) (hr : fn.params.toList.all (fun t => P.readableRec t && decide (t < P.types.size)) = true)
 (hrt : fn.resultTypes = #[tb]) (htb : P.underlying tb = some .bool) (hv : s.vars = [])
 {W : World} {args : Array Value} {ds gs : List (DataW H)} {before : List MemPlace} (hfn : ∀ gs : List (DataW H), gs = [] → s.fn H (ds ++ gs) = { results := [.lit (.bool true)], args := ds })
 (hW : DataW.Whole enc P fn.params.toList s.vars false W args.toList ds gs before) (hg : Gok G W (AllB W)) {pvs : List PV} (hd : RDs W (AllB W) pvs args.toList) (hF : FnC P G f pvs (.data (.bool true))) :
 Calls P f args W fun e W' => ∃ v, e = .returned v ∧ s.post enc P fn false true false false W args v W' := by
 have hc := hF.2 W (AllB W) args.toList (fun _ h => h) hg hd;rw [Array.toArray_toList] at hc;refine hc.mono fun e W' ⟨v, he, hb, hh⟩ => ⟨v, he, ?_⟩
 obtain rfl : v = .bool true := by cases (show RD _ _ (.bool true) v from hh); rfl
 have hW0 := hW;obtain ⟨p, q, hA, hV, rfl, _, _⟩ := hW0;rw [hv] at hV;obtain ⟨rfl, rfl⟩ := trodVars_none hV;have hfn := hfn [] rfl;refine post_below (pa := p) (pv := []) hW (fun b sp hd => ?_) (fun sp hsp => ?_) (fun sp hsp => ?_) rfl hb (ok_one hrt rfl (okWide_bool_mk htb _))
 ·rw [hfn, hrt]
  exact trodAll_cons_mk (shut_bool htb _) trodAll_mk0
 ·rw [hfn]
  exact zH6 hl hb hr hA (fun x hx => hsp x (by simp [hx]))
 ·rw [hfn, hv]
  rfl
end
end Go.PI
namespace Go.PI
def dot (x : List Rat) : List QT → Rat
 | [] => 0
 | t :: l => t.2 * x[t.1.toNat]! + dot x l
theorem ev1_dot (x : List Rat) : ∀ (l : List QT) (y : Rat), ev1 x l y = y + dot x l
 | [], y => by simp only [ev1, List.foldl_nil, dot]; grind
 | t :: l, y => by
   have e : ev1 x (t :: l) y = ev1 x l (y + t.2 * x[t.1.toNat]!) := rfl;rw [e, ev1_dot x l]; simp only [dot]; grind
theorem zEV (x : List Rat) : ∀ (a b : List QT), dot x (a ++ b) = dot x a + dot x b
 | [], b => by simp only [List.nil_append, dot]; grind
 | t :: a, b => by simp only [List.cons_append, dot, zEV x a b]; grind
theorem zL5 (x : List Rat) (v : Int) (c : Rat) : dot x (nzq v c) = c * x[v.toNat]! := by
 unfold nzq; split
 ·rename_i h; subst h; simp only [dot]; grind
 ·simp only [dot]; grind
theorem zJW (x : List Rat) (c : Rat) : ∀ (n : Nat) (a b : List QT), a.length + b.length ≤ n → dot x (mrg c a b) = dot x a + c * dot x b
 | n, [], [], _ => by rw [mrg]; simp only [dot]; grind
 | 0, _ :: _, _, h => by simp at h
 | 0, _, _ :: _, h => by simp at h
 | n + 1, p :: a, [], hn => by
   rw [mrg, zEV, zL5, zJW x c n a [] (by simp at hn ⊢; omega)]; simp only [dot]; grind
 | n + 1, [], q :: b, hn => by
   rw [mrg, zEV, zL5, zJW x c n [] b (by simp at hn ⊢; omega)]; simp only [dot]; grind
 | n + 1, p :: a, q :: b, hn => by
   simp only [List.length_cons] at hn;rw [mrg]
   split
   ·rw [zEV, zL5, zJW x c n a (q :: b) (by simp; omega)]; simp only [dot]; grind
   ·split
    ·rw [zEV, zL5, zJW x c n (p :: a) b (by simp; omega)]; simp only [dot]; grind
    ·have he : p.1 = q.1 := by omega
     rw [zEV, zL5, zJW x c n a b (by omega)]; simp only [dot, he]; grind
theorem zH1 (f : QF) (x : List Rat) : evQ f x = f.c + dot x f.ts := ev1_dot x f.ts f.c
theorem zI3 (x : List Rat) (f g : QF) (c : Rat) : evQ (mergeQ f g c) x = evQ f x + c * evQ g x := by
 simp only [zH1, mergeQ, zJW x c _ _ _ (Nat.le_refl _)]; grind
theorem evQ_nil {f : QF} (h : f.ts = []) (x : List Rat) : evQ f x = f.c := by rw [zH1, h]; simp only [dot]; grind
theorem evQ_zero (x : List Rat) : evQ zeroQ x = 0 := evQ_nil rfl x
end Go.PI
namespace Go.PI
structure GraL where
 ins : Int
 units : List AffL
 outs : List AffL
 deriving Inhabited
def encGra (g : GraL) : PV := .agg [.int .i64 g.ins, .imm (g.units.map encAff), .imm (g.outs.map encAff)]
def okGra (k : Nat) (g : GraL) : Prop := okFs k g.units ∧ okFs k g.outs
def VaG (g : GraL) : Prop := (1 ≤ g.ins ∧ g.ins ≤ 256) ∧ g.units.length ≤ 1024 ∧ (1 ≤ g.outs.length ∧ g.outs.length ≤ 256) ∧ (∀ j, j < g.units.length → ValidF g.units[j]! (g.ins + j)) ∧ ∀ i, i < g.outs.length → ValidF g.outs[i]! (g.ins + g.units.length)
def stepV (vs : List Rat) (u : QF) : List Rat := vs ++ [maxQ 0 (evQ u vs)]
def valsN (us : List QF) (x : List Rat) (j : Nat) : List Rat := (us.take j).foldl stepV x
theorem zEO (us : List QF) (x : List Rat) : valsN us x 0 = x := by simp [valsN]
theorem zFX {us : List QF} {x : List Rat} {j : Nat} (h : j < us.length) : valsN us x (j + 1) = valsN us x j ++ [maxQ 0 (evQ us[j]! (valsN us x j))] := by
 unfold valsN;rw [List.take_succ_eq_append_getElem h, List.foldl_append, getElem!_pos us j h]; rfl
theorem zDG {us : List QF} {x : List Rat} : ∀ j, j ≤ us.length → (valsN us x j).length = x.length + j
 | 0, _ => by rw [zEO]; rfl
 | j + 1, h => by rw [zFX (by omega), List.length_append, zDG j (by omega)]; simp; omega
theorem zGQ {us : List QF} {x : List Rat} : ∀ (d j : Nat), j + d ≤ us.length → ∃ t, valsN us x (j + d) = valsN us x j ++ t
 | 0, j, _ => ⟨[], by simp⟩
 | d + 1, j, h => by
   obtain ⟨t, e⟩ := zGQ (us := us) (x := x) d j (by omega);exact ⟨t ++ [maxQ 0 (evQ us[j + d]! (valsN us x (j + d)))], by rw [show j + (d + 1) = j + d + 1 by omega, zFX (us := us) (j := j + d) (by omega), e, List.append_assoc]⟩
theorem dot_pre {n : Int} {x y : List Rat} (hn : n ≤ x.length) : ∀ (l : List QT), (∀ t ∈ l, 0 ≤ t.1 ∧ t.1 < n) → dot (x ++ y) l = dot x l
 | [], _ => rfl
 | t :: l, h => by
   have h1 := h t (by simp);simp only [dot, dot_pre hn l fun q hq => h q (by simp [hq])];rw [getElem!_pos (x ++ y) t.1.toNat (by simp; omega), getElem!_pos x t.1.toNat (by omega), List.getElem_append_left]
theorem evQ_pre {n : Int} {f : QF} {x y : List Rat} (hn : n ≤ x.length) (hf : okF n f) : evQ f (x ++ y) = evQ f x := by
 rw [zH1, zH1, dot_pre hn _ hf.2]
def preL (us : List QF) (x : List Rat) : List Rat := (List.range us.length).map fun j => evQ us[j]! (valsN us x j)
theorem preL_get {us : List QF} {x : List Rat} {j : Nat} (h : j < us.length) : (preL us x)[j]! = evQ us[j]! (valsN us x j) := by unfold preL; rw [get_range h]
theorem preL_all {us : List QF} {x : List Rat} {n : Int} (hn : n = x.length) (h : ∀ j, j < us.length → okF (n + j) us[j]!) : preL us x = us.map fun u => evQ u (valsN us x us.length) := by
 refine List.ext_getElem (by simp [preL]) fun j h1 h2 => ?_
 have h3 : j < us.length := by simpa using h2
 obtain ⟨t, e⟩ := zGQ (us := us) (x := x) (us.length - j) j (by omega);rw [show j + (us.length - j) = us.length by omega] at e;have hok := h j h3;rw [getElem!_pos us j h3] at hok;simp only [preL, List.getElem_map, List.getElem_range, getElem!_pos us j h3];have q := evQ_pre (x := valsN us x j) (y := t) (by rw [zDG j (by omega)]; omega) hok;rw [← e] at q;exact q.symm
def sumF (κ : Nat → Nat) : Nat → Nat → Nat
 | _, 0 => 0
 | a, n + 1 => κ a + sumF κ (a + 1) n
theorem zM3 (κ : Nat → Nat) : ∀ (m a n : Nat), sumF κ a (m + n) = sumF κ a m + sumF κ (a + m) n
 | 0, a, n => by simp [sumF]
 | m + 1, a, n => by
   rw [show m + 1 + n = (m + n) + 1 by omega, sumF, sumF, zM3 κ m (a + 1) n, show a + 1 + m = a + (m + 1) by omega]; omega
theorem sum_terms (κ : Nat → Nat) : ∀ (l : List QT) (a n : Nat), l.Pairwise (fun p q => p.1 < q.1) → (∀ t ∈ l, (a : Int) ≤ t.1 ∧ t.1 < (a + n : Nat)) → (l.map fun t => κ t.1.toNat).sum ≤ sumF κ a n
 | [], _, _, _, _ => by simp
 | t :: l, a, n, hp, h => by
   obtain ⟨h1, h2⟩ := h t (by simp);rw [List.pairwise_cons] at hp;obtain ⟨v, hv⟩ : ∃ v : Nat, t.1 = v := ⟨t.1.toNat, by omega⟩;obtain ⟨d, rfl⟩ : ∃ d, v = a + d := ⟨v - a, by omega⟩;obtain ⟨m, rfl⟩ : ∃ m, n = d + (m + 1) := ⟨n - d - 1, by omega⟩
   have ih := sum_terms κ l (a + d + 1) m hp.2 fun q hq => by
    have e1 := hp.1 q hq;have e2 := (h q (by simp [hq])).2;omega
   rw [zM3, sumF, List.map_cons, List.sum_cons, hv];simp only [Int.toNat_natCast];omega
def phase (p : Rat) : Int := if 0 < p then 1 else if p < 0 then 2 else 0
theorem zDP {l : List QT} (n : Nat) (h : l.Pairwise (fun p q => p.1 < q.1)) (hv : ∀ t ∈ l, 0 ≤ t.1 ∧ t.1 < n) : l.length ≤ n := by
 have := sum_terms (fun _ => 1) l 0 n h fun t ht => by have := hv t ht; omega
 have e : ∀ a m, sumF (fun _ => 1) a m = m := by
  intro a m
  induction m generalizing a with
  | zero => rfl
  | succ m ih => rw [sumF, ih]; omega
 rw [e] at this
 have e2 : (l.map fun _ => 1).sum = l.length := by
  clear this h hv
  induction l with
  | nil => rfl
  | cons a l ih => rw [List.map_cons, List.sum_cons, ih, List.length_cons]; omega
 omega
end Go.PI
namespace Go.PI
section
variable {us : List QF} {x : List Rat} {ph : List Int} {n : Nat}
end
end Go.PI
namespace Go.PI
def smG (g : GraL) : Prop := g.ins ≤ 4 ∧ smFs g.units 5 ∧ smFs g.outs 3
theorem ValidF_le {f : AffL} {m n : Int} (h : m ≤ n) (hf : ValidF f m) : ValidF f n := ⟨fun i hi => by
 obtain ⟨h1, h2, h3⟩ := hf.1 i hi
 exact ⟨h1, by omega, h3⟩, hf.2⟩
section
variable {us : List QF} {n : Nat} {p : List Int} {x : List Rat}
end
end Go.PI
namespace Go.PI
structure QryL where
 g : GraL
 r : RegL
 goal : AffL
 deriving Inhabited
def encQry (q : QryL) : PV := .agg [.int .i64 q.g.ins, .imm (q.g.units.map encAff), .imm (q.g.outs.map encAff), .imm (q.r.lo.map encRat), .imm (q.r.hi.map encRat), .imm (q.r.rows.map encAff), .imm (q.goal.terms.map encTerm), .bool q.goal.const.neg, encN q.goal.const.num, encN q.goal.const.den]
structure ScpL where
 q : QryL
 path : List DecL
 lems : List LemL
 deriving Inhabited
def encScp (s : ScpL) : PV := .agg [.int .i64 s.q.g.ins, .imm (s.q.g.units.map encAff), .imm (s.q.g.outs.map encAff), .imm (s.q.r.lo.map encRat), .imm (s.q.r.hi.map encRat), .imm (s.q.r.rows.map encAff), .imm (s.q.goal.terms.map encTerm), .bool s.q.goal.const.neg, encN s.q.goal.const.num, encN s.q.goal.const.den, .imm (s.path.map encDec), .imm (s.lems.map encLem)]
def VaQ (q : QryL) : Prop := VaG q.g ∧ VaR q.r q.g.ins ∧ ValidF q.goal (q.g.ins + q.g.units.length)
def numQ' (c : Rat) : QF := ⟨[], c⟩
def subQ (f g : QF) : QF := mergeQ f g (-1)
def sclQ (f : QF) (c : Rat) : QF := mergeQ zeroQ f c
theorem zLJ {f g : QF} (hf : Srt f.ts) (hg : Srt g.ts) (h : ∀ v, cf f.ts v = cf g.ts v) (hc : f.c = g.c) : f = g := by
 cases f; cases g
 simp only at *
 rw [zLA hf hg h, hc]
theorem zBY {f g : QF} {c : Rat} (hf : Srt f.ts) (hg : Srt g.ts) (v : Int) : cf (mergeQ f g c).ts v = cf f.ts v + cf g.ts v * c := (zFK c _ f.ts g.ts (Nat.le_refl _) hf hg).2 v
theorem zHB (f g : QF) (c : Rat) : (mergeQ f g c).c = f.c + g.c * c := rfl
theorem zH2 (v : Int) : cf zeroQ.ts v = 0 := rfl
theorem zCK : Srt zeroQ.ts := zGB
theorem zDK (c : Rat) : Srt (numQ' c).ts := zGB
theorem zD8 (v : Int) : Srt (varQ v).ts := varQ_srt v
theorem sub_scl {f g : QF} {c : Rat} (hf : Srt f.ts) (hg : Srt g.ts) : subQ f (sclQ g c) = mergeQ f g (-c) := by
 have h0 := zA8 (c := c) zCK hg;refine zLJ (zA8 hf h0) (zA8 hf hg) (fun v => ?_) ?_
 ·unfold subQ sclQ
  rw [zBY hf h0, zBY zCK hg, zBY hf hg, zH2]; grind
 ·simp only [subQ, sclQ, zHB, zeroQ]; grind
theorem scl_sub {f g : QF} (hf : Srt f.ts) (hg : Srt g.ts) : sclQ (subQ f g) (-1) = subQ g f := by
 have h0 := zA8 (c := -1) hf hg;refine zLJ (zA8 zCK h0) (zA8 hg hf) (fun v => ?_) ?_
 ·unfold subQ sclQ
  rw [zBY zCK h0, zBY hf hg, zBY hg hf, zH2]; grind
 ·simp only [subQ, sclQ, zHB, zeroQ]; grind
def RatZ (r : RatL) : Prop := r.neg = false ∧ r.num.length = 0 ∧ r.den.length = 0
def CanR (r : RatL) : Prop := r = cr (qv r)
def fitD (q : QryL) (d : DecL) : Prop := ((d.kind = 1 ∨ d.kind = 2) ∧ 0 ≤ d.index ∧ d.index < q.g.units.length ∧ RatZ d.rat) ∨ ((d.kind = 3 ∨ d.kind = 4) ∧ 0 ≤ d.index ∧ d.index < q.g.ins ∧ CanR d.rat)
def decB (S : ScpL) (k j : Int) : Bool := S.path.any fun d => decide (d.kind = k) && decide (d.index = j)
def bndO (S : ScpL) (n j : Int) (up : Bool) : Option Rat := if 1 ≤ n ∧ n ≤ S.lems.length ∧ S.lems[n.toNat - 1]!.unit = j ∧ S.lems[n.toNat - 1]!.upper = up then some (qv S.lems[n.toNat - 1]!.value) else none
def inO (S : ScpL) (r : RowL) : Option QF :=
 if r.index < 0 ∨ r.lo ≠ 0 ∨ r.hi ≠ 0 then none
 else if r.kind = 1 ∧ r.index < S.q.r.lo.length then some (subQ (varQ r.index) (numQ' (qv S.q.r.lo[r.index.toNat]!)))
 else if r.kind = 2 ∧ r.index < S.q.r.hi.length then some (subQ (numQ' (qv S.q.r.hi[r.index.toNat]!)) (varQ r.index))
 else if r.kind = 3 ∧ r.index < S.q.r.rows.length then some S.q.r.rows[r.index.toNat]!.Q
 else if r.kind = 4 ∧ r.index < S.path.length then
  (if S.path[r.index.toNat]!.kind = 3 then some (subQ (varQ S.path[r.index.toNat]!.index) (numQ' (qv S.path[r.index.toNat]!.rat)))
  else if S.path[r.index.toNat]!.kind = 4 then some (subQ (numQ' (qv S.path[r.index.toNat]!.rat)) (varQ S.path[r.index.toNat]!.index)) else none)
 else none
def geO (o : Option Rat) : Bool := match o with
 | some l => decide (0 ≤ l)
 | none => false
def leO (o : Option Rat) : Bool := match o with
 | some l => decide (l ≤ 0)
 | none => false
def onB (S : ScpL) (r : RowL) : Bool := decide (r.hi = 0) && (decide (r.lo = 0) && decB S 1 r.index || geO (bndO S r.lo r.index false))
def offB (S : ScpL) (r : RowL) : Bool := decide (r.lo = 0) && (decide (r.hi = 0) && decB S 2 r.index || leO (bndO S r.hi r.index true))
def triQ (v p : QF) (l u : Rat) : QF := subQ (sclQ (subQ p (numQ' l)) u) (sclQ v (u - l))
def unO (S : ScpL) (r : RowL) : Option QF :=
 if r.index < 0 ∨ S.q.g.units.length ≤ r.index then none
 else
  if r.kind = 5 then (if r.lo = 0 ∧ r.hi = 0 then some (varQ (S.q.g.ins + r.index)) else none)
  else if r.kind = 6 then (if r.lo = 0 ∧ r.hi = 0 then some (subQ (varQ (S.q.g.ins + r.index)) S.q.g.units[r.index.toNat]!.Q) else none)
  else if r.kind = 7 then (if onB S r = true then some S.q.g.units[r.index.toNat]!.Q else none)
  else if r.kind = 8 then (if onB S r = true then some (subQ S.q.g.units[r.index.toNat]!.Q (varQ (S.q.g.ins + r.index))) else none)
  else if r.kind = 9 then (if offB S r = true then some (sclQ S.q.g.units[r.index.toNat]!.Q (-1)) else none)
  else if r.kind = 10 then (if offB S r = true then some (sclQ (varQ (S.q.g.ins + r.index)) (-1)) else none)
  else if r.kind = 11 then (match bndO S r.lo r.index false with
   | some l => if r.hi = 0 then some (subQ S.q.g.units[r.index.toNat]!.Q (numQ' l)) else none
   | none => none)
  else if r.kind = 12 then (match bndO S r.hi r.index true with
   | some u => if r.lo = 0 then some (subQ (numQ' u) S.q.g.units[r.index.toNat]!.Q) else none
   | none => none)
  else if r.kind = 13 then (match bndO S r.lo r.index false, bndO S r.hi r.index true with
   | some l, some u => if l < 0 ∧ 0 < u then some (triQ (varQ (S.q.g.ins + r.index)) S.q.g.units[r.index.toNat]!.Q l u) else none
   | _, _ => none)
  else none
def rowO (S : ScpL) (r : RowL) : Option QF := if r.kind < 5 then inO S r else unO S r
def okScp (S : ScpL) : Prop := VaQ S.q ∧ ∀ d ∈ S.path, fitD S.q d
def nvar (S : ScpL) : Int := S.q.g.ins + S.q.g.units.length
theorem zK5 {n v : Int} (h0 : 0 ≤ v) (h : v < n) : okF n (varQ v) := ⟨zD8 v, fun t ht => by
 have : t = (v, 1) := List.mem_singleton.1 ht
 subst this; exact ⟨h0, h⟩⟩
theorem zFJ (n : Int) (c : Rat) : okF n (numQ' c) := ⟨zDK c, fun t ht => by cases ht⟩
theorem zIR {n : Int} {f g : QF} {c : Rat} (hf : okF n f) (hg : okF n g) : okF n (mergeQ f g c) := ⟨zA8 hf.1 hg.1, fun t ht => by
 rcases zE4 _ _ _ _ (Nat.le_refl _) t ht with ⟨p, hp, e⟩ | ⟨p, hp, e⟩
 ·have := hf.2 p hp; omega
 ·have := hg.2 p hp; omega⟩
theorem zFH (n : Int) : okF n zeroQ := ⟨zGB, fun t ht => by cases ht⟩
theorem zDZ {n : Int} {f g : QF} (hf : okF n f) (hg : okF n g) : okF n (subQ f g) := zIR hf hg
theorem zJ4 {n : Int} {f : QF} {c : Rat} (hf : okF n f) : okF n (sclQ f c) := zIR (zFH n) hf
theorem okF_le {m n : Int} {f : QF} (h : m ≤ n) (hf : okF m f) : okF n f := ⟨hf.1, fun t ht => by have := hf.2 t ht; omega⟩
theorem zAX {c : Prop} [Decidable c] {a b : Option QF} {f : QF} (h : (if c then a else b) = some f) : (c ∧ a = some f) ∨ (¬ c ∧ b = some f) := by
 by_cases hc : c
 ·rw [if_pos hc] at h; exact Or.inl ⟨hc, h⟩
 ·rw [if_neg hc] at h; exact Or.inr ⟨hc, h⟩
theorem zBD {c : Prop} [Decidable c] {g f : QF} (h : (if c then some g else none) = some f) : c ∧ g = f := by
 rcases zAX h with ⟨hc, e⟩ | ⟨_, e⟩
 ·cases e; exact ⟨hc, rfl⟩
 ·cases e
theorem row_ok {S : ScpL} (hS : okScp S) {r : RowL} {f : QF} (h : rowO S r = some f) : okF (nvar S) f := by
 obtain ⟨⟨hg, hr, _⟩, hp⟩ := hS;have hi := hg.1.1;have hn : S.q.g.ins ≤ nvar S := by unfold nvar; omega
 unfold rowO at h
 split at h
 ·unfold inO at h
  split at h
  ·cases h
  ·rename_i h0
   split at h
   ·rename_i h1; cases h; exact zDZ (zK5 (by omega) (by have := hr.2.1; omega)) (zFJ _ _)
   ·split at h
    ·rename_i h1; cases h; exact zDZ (zFJ _ _) (zK5 (by omega) (by have := hr.2.2.1; omega))
    ·split at h
     ·rename_i h1; cases h
      exact okF_le hn (zD0 (hr.2.2.2.2.2 _ (by omega)))
     ·split at h
      ·rename_i h1
       have hm : S.path[r.index.toNat]! ∈ S.path := by rw [getElem!_pos S.path r.index.toNat (by omega)]; exact List.getElem_mem _
       have hd := hp _ hm
       split at h
       ·rename_i h2; cases h
        rcases hd with ⟨hk, _⟩ | ⟨hk, h3, h4, _⟩
        ·omega
        ·exact zDZ (zK5 h3 (by omega)) (zFJ _ _)
       ·split at h
        ·rename_i h2; cases h
         rcases hd with ⟨hk, _⟩ | ⟨hk, h3, h4, _⟩
         ·omega
         ·exact zDZ (zFJ _ _) (zK5 h3 (by omega))
        ·cases h
      ·cases h
 ·unfold unO at h
  rcases zAX h with ⟨h0, h⟩ | ⟨h0, h⟩
  ·cases h
  have hv : okF (nvar S) (varQ (S.q.g.ins + r.index)) := zK5 (by omega) (by unfold nvar; omega);have hu : okF (nvar S) S.q.g.units[r.index.toNat]!.Q := okF_le (by unfold nvar; omega) (zD0 (hg.2.2.2.1 _ (show r.index.toNat < S.q.g.units.length by omega)));rcases zAX h with ⟨_, h⟩ | ⟨_, h⟩
  ·rw [← (zBD h).2]; exact hv
  rcases zAX h with ⟨_, h⟩ | ⟨_, h⟩
  ·rw [← (zBD h).2]; exact zDZ hv hu
  rcases zAX h with ⟨_, h⟩ | ⟨_, h⟩
  ·rw [← (zBD h).2]; exact hu
  rcases zAX h with ⟨_, h⟩ | ⟨_, h⟩
  ·rw [← (zBD h).2]; exact zDZ hu hv
  rcases zAX h with ⟨_, h⟩ | ⟨_, h⟩
  ·rw [← (zBD h).2]; exact zJ4 hu
  rcases zAX h with ⟨_, h⟩ | ⟨_, h⟩
  ·rw [← (zBD h).2]; exact zJ4 hv
  rcases zAX h with ⟨_, h⟩ | ⟨_, h⟩
  ·cases hb : bndO S r.lo r.index false with
   | none => rw [hb] at h; cases h
   | some l => rw [hb] at h; rw [← (zBD h).2]; exact zDZ hu (zFJ _ _)
  rcases zAX h with ⟨_, h⟩ | ⟨_, h⟩
  ·cases hb : bndO S r.hi r.index true with
   | none => rw [hb] at h; cases h
   | some l => rw [hb] at h; rw [← (zBD h).2]; exact zDZ (zFJ _ _) hu
  rcases zAX h with ⟨_, h⟩ | ⟨_, h⟩
  ·cases hb : bndO S r.lo r.index false with
   | none => rw [hb] at h; cases h
   | some l => cases hb2 : bndO S r.hi r.index true with
     | none => rw [hb, hb2] at h; cases h
     | some u => rw [hb, hb2] at h; rw [← (zBD h).2]; exact zDZ (zJ4 (zDZ hu (zFJ _ _))) (zJ4 hv)
  ·cases h
def lessR (a b : RowL) : Prop := a.kind < b.kind ∨ a.kind = b.kind ∧ (a.index < b.index ∨ a.index = b.index ∧ (a.lo < b.lo ∨ a.lo = b.lo ∧ a.hi < b.hi))
def okM1 (S : ScpL) (l : List MultL) (k : Nat) : Prop := CanR l[k]!.coef ∧ 0 < qv l[k]!.coef ∧ (0 < k → lessR l[k - 1]!.row l[k]!.row) ∧ (rowO S l[k]!.row).isSome = true
def okM (S : ScpL) (l : List MultL) (i : Nat) : Prop := ∀ k, k < i → okM1 S l k
def rw' (S : ScpL) (m : MultL) : QF := (rowO S m.row).getD zeroQ
theorem rw_ok {S : ScpL} (hS : okScp S) (m : MultL) : okF (nvar S) (rw' S m) := by
 unfold rw';cases h : rowO S m.row with
 | none => exact zFH _
 | some f => exact row_ok hS h
def rstN (S : ScpL) (f : QF) (l : List MultL) (i : Nat) : QF := (l.take i).foldl (fun f m => mergeQ f (rw' S m) (- qv m.coef)) f
def sumN (S : ScpL) (l : List MultL) (i : Nat) : QF := (l.take i).foldl (fun f m => mergeQ f (rw' S m) (qv m.coef)) zeroQ
theorem zEZ {S : ScpL} {f : QF} {l : List MultL} {i : Nat} (h : i < l.length) : rstN S f l (i + 1) = mergeQ (rstN S f l i) (rw' S l[i]!) (- qv l[i]!.coef) := by
 unfold rstN; rw [List.take_succ_eq_append_getElem h, List.foldl_append, getElem!_pos l i h]; rfl
theorem zGR {S : ScpL} {l : List MultL} {i : Nat} (h : i < l.length) : sumN S l (i + 1) = mergeQ (sumN S l i) (rw' S l[i]!) (qv l[i]!.coef) := by
 unfold sumN; rw [List.take_succ_eq_append_getElem h, List.foldl_append, getElem!_pos l i h]; rfl
theorem zJD {S : ScpL} (hS : okScp S) {f : QF} (hf : okF (nvar S) f) {l : List MultL} : ∀ {i : Nat}, i ≤ l.length → okF (nvar S) (rstN S f l i)
 | 0, _ => by unfold rstN; simpa using hf
 | i + 1, h => by rw [zEZ (by omega)]; exact zIR (zJD hS hf (by omega)) (rw_ok hS _)
theorem zGS {S : ScpL} (hS : okScp S) {l : List MultL} : ∀ {i : Nat}, i ≤ l.length → okF (nvar S) (sumN S l i)
 | 0, _ => zFH _
 | i + 1, h => by rw [zGR (by omega)]; exact zIR (zGS hS (by omega)) (rw_ok hS _)
theorem rst_sum {S : ScpL} (hS : okScp S) {f : QF} (hf : okF (nvar S) f) {l : List MultL} : ∀ i, i ≤ l.length → rstN S f l i = subQ f (sumN S l i)
 | 0, _ => by
   refine zLJ (zJD (l := l) (i := 0) hS hf (Nat.zero_le _)).1 (zA8 hf.1 (zGS (l := l) (i := 0) hS (Nat.zero_le _)).1) (fun v => ?_) ?_
   ·unfold subQ; rw [zBY hf.1 (zGS (l := l) (i := 0) hS (Nat.zero_le _)).1]; simp only [rstN, sumN, List.take_zero, List.foldl_nil, zH2]; grind
   ·simp only [rstN, sumN, List.take_zero, List.foldl_nil, subQ, zHB, zeroQ]; grind
 | i + 1, h => by
   have ih := rst_sum hS hf (l := l) i (by omega);have hi : i ≤ l.length := by omega
   have h1 := (zGS hS hi).1;have h2 := (zGS hS h).1;have h3 := (rw_ok hS l[i]!).1;have h4 := (zJD hS hf hi).1;refine zLJ (zJD hS hf h).1 (zA8 hf.1 h2) (fun v => ?_) ?_
   ·unfold subQ
    rw [zEZ (by omega), zBY h4 h3, ih, zBY hf.1 h2, zGR (by omega), zBY h1 h3];unfold subQ;rw [zBY hf.1 h1]; grind
   ·rw [zEZ (by omega), ih, zGR (by omega)]
    simp only [subQ, zHB]; grind
def prvP (S : ScpL) (f : QF) (l : List MultL) : Prop := okM S l l.length ∧ (rstN S f l l.length).ts = [] ∧ 0 ≤ (rstN S f l l.length).c
def refP (S : ScpL) (l : List MultL) : Prop := okM S l l.length ∧ (rstN S zeroQ l l.length).ts = [] ∧ 0 < (rstN S zeroQ l l.length).c
def lemF (S : ScpL) (m : LemL) : QF := if m.upper = true then sclQ (subQ S.q.g.units[m.unit.toNat]!.Q (numQ' (qv m.value))) (-1) else subQ S.q.g.units[m.unit.toNat]!.Q (numQ' (qv m.value))
def lemP (S : ScpL) (m : LemL) : Prop := (0 ≤ m.unit ∧ m.unit < S.q.g.units.length) ∧ CanR m.value ∧ prvP S (lemF S m) m.proof
def scpL (S : ScpL) (l : List LemL) : ScpL := ⟨S.q, S.path, S.lems ++ l⟩
def lemsP (S : ScpL) (l : List LemL) : Prop := ∀ i, i < l.length → lemP (scpL S (l.take i)) l[i]!
abbrev opD' (d : DecL) : DecL := opp d
def rightP (S : ScpL) (n : NodeL) : Prop := lemsP S n.lemmas ∧ (if n.kids.length = 0 then (if n.empty = true then refP (scpL S n.lemmas) n.proof else prvP (scpL S n.lemmas) S.q.goal.Q n.proof) else fitD S.q n.split)
def kidS (S : ScpL) (n : NodeL) (d : DecL) : ScpL := ⟨S.q, S.path ++ [d], S.lems ++ n.lemmas⟩
open Classical in
noncomputable def belowO (S : ScpL) (n : NodeL) : Option (List DecL) :=
 if rightP S n then
  match h : n.kids with
  | [a, b] => match belowO (kidS S n n.split) a with
    | some p => some p
    | none => belowO (kidS S n (opD' n.split)) b
  | _ => none
 else some S.path
termination_by SizeOf.sizeOf n
decreasing_by
 ·exact NodeL.sizeOf_kid (by rw [h]; simp)
 ·exact NodeL.sizeOf_kid (by rw [h]; simp)
end Go.PI
