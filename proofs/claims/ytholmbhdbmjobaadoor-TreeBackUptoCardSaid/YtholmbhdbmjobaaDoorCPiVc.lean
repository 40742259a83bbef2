/-
  PI: 'wp' once more, made to be carried out by 'whnf': every value is forced as it arises, what is not known is left as a named residue. 'vc' gives 'wp'.
-/
import Derived.Test.YtholmbhdbmjobaaDoorCPiRun
set_option linter.unusedVariables false
set_option linter.unusedSimpArgs false
namespace Go.PI

/-! Residues. -/
@[reducible] def brB (b : Bool) (A B : Prop) : Prop := match b with
  | true => A
  | false => B
inductive Sd where
  | ok
  | bad
def sdOf (c : Prop) [Decidable c] : Sd := match decide c with
  | true => .ok
  | false => .bad
def sdB (b : Bool) : Sd := match b with
  | true => .ok
  | false => .bad
@[reducible] def brT (b : Bool) (A : Prop) : Prop := match sdB b with
  | .ok => A
  | .bad => False
@[reducible] def sideD (c : Prop) [Decidable c] (A : Prop) : Prop := match sdOf c with
  | .ok => A
  | .bad => False
def sideP (c : Prop) (A : Prop) : Prop := c ∧ A
@[reducible] def oK {α : Type} (o : Option α) (K : α → Prop) : Prop := match o with
  | some a => K a
  | none => False
def ov (k : IntKind) (n : Int) (K : Int → Prop) : Prop := K (k.wrap n)

theorem brB_iff {b : Bool} {A B : Prop} : brB b A B ↔ (b = true → A) ∧ (b = false → B) := by cases b <;> simp [brB]
theorem brB_gen {b : Bool} {A B : Prop} (h1 : b = true → A) (h2 : b = false → B) : brB b A B := brB_iff.2 ⟨h1, h2⟩
theorem brB_t {b : Bool} {A B : Prop} (h : b = true) (h1 : A) : brB b A B := by subst h; exact h1
theorem brB_f {b : Bool} {A B : Prop} (h : b = false) (h1 : B) : brB b A B := by subst h; exact h1
theorem brB_dec {p : Prop} [Decidable p] {A B : Prop} (h1 : p → A) (h2 : ¬ p → B) : brB (decide p) A B := brB_gen (fun h => h1 (of_decide_eq_true h)) (fun h => h2 (of_decide_eq_false h))
theorem brB_beq {α : Type} [BEq α] [LawfulBEq α] {a b : α} {A B : Prop} (h1 : a = b → A) (h2 : a ≠ b → B) : brB (a == b) A B := brB_gen (fun h => h1 (eq_of_beq h)) (fun h => h2 (fun e => by subst e; simp at h))
theorem brB_bne {α : Type} [BEq α] [LawfulBEq α] {a b : α} {A B : Prop} (h1 : a ≠ b → A) (h2 : a = b → B) : brB (a != b) A B := brB_gen (fun h => h1 (by simpa using h)) (fun h => h2 (by simpa using h))
theorem brB_eqI {a b : Int} {A B : Prop} (h1 : a = b → A) (h2 : a ≠ b → B) : brB (a == b) A B := brB_beq h1 h2
theorem brB_neI {a b : Int} {A B : Prop} (h1 : a ≠ b → A) (h2 : a = b → B) : brB (a != b) A B := brB_bne h1 h2
theorem brB_eqB {a b : Bool} {A B : Prop} (h1 : a = b → A) (h2 : a ≠ b → B) : brB (a == b) A B := brB_beq h1 h2
theorem brB_neB {a b : Bool} {A B : Prop} (h1 : a ≠ b → A) (h2 : a = b → B) : brB (a != b) A B := brB_bne h1 h2
theorem brB_not {b : Bool} {A B : Prop} (h : brB b B A) : brB (!b) A B := by cases b <;> exact h
theorem brT_intro {b : Bool} {A : Prop} (h : b = true) (k : A) : brT b A := by subst h; exact k
theorem brT_elim {b : Bool} {A : Prop} (h : brT b A) : b = true ∧ A := by cases b; exact h.elim; exact ⟨rfl, h⟩
theorem sideD_intro {c : Prop} [Decidable c] {A : Prop} (h : c) (k : A) : sideD c A := by unfold sideD sdOf; rw [decide_eq_true h]; exact k
theorem sideD_elim {c : Prop} [Decidable c] {A : Prop} (h : sideD c A) : c ∧ A := by
  unfold sideD sdOf at h
  by_cases hc : c
  · rw [decide_eq_true hc] at h; exact ⟨hc, h⟩
  · rw [decide_eq_false hc] at h; exact h.elim
theorem sideP_intro {c A : Prop} (h : c) (k : A) : sideP c A := ⟨h, k⟩
theorem sideP_elim {c A : Prop} (h : sideP c A) : c ∧ A := h
theorem oK_intro {α : Type} {o : Option α} {K : α → Prop} {a : α} (h : o = some a) (k : K a) : oK o K := by subst h; exact k
theorem oK_elim {α : Type} {o : Option α} {K : α → Prop} (h : oK o K) : ∃ a, o = some a ∧ K a := by
  cases o with
  | none => exact h.elim
  | some a => exact ⟨a, rfl, h⟩
theorem ov_wrap {k : IntKind} {n : Int} {K : Int → Prop} (h : K (k.wrap n)) : ov k n K := h
theorem ov_to {k : IntKind} {n m : Int} {K : Int → Prop} (e : k.wrap n = m) (h : K m) : ov k n K := by subst e; exact h
theorem ov_64 {n : Int} {K : Int → Prop} (h1 : -9223372036854775808 ≤ n ∧ n < 9223372036854775808) (h : K n) : ov .i64 n K := ov_to (wrapI h1.1 h1.2) h
theorem ov_u64 {n : Int} {K : Int → Prop} (h1 : 0 ≤ n ∧ n < 18446744073709551616) (h : K n) : ov .u64 n K := ov_to (wrapU h1.1 h1.2) h
theorem ov_u32 {n : Int} {K : Int → Prop} (h1 : 0 ≤ n ∧ n < 4294967296) (h : K n) : ov .u32 n K := ov_to (wrapW h1.1 h1.2) h
theorem ov_elim {k : IntKind} {n : Int} {K : Int → Prop} (h : ov k n K) : K (k.wrap n) := h
def slK (es : List PV) (a b : Int) (K : List PV → Prop) : Prop := K ((es.take b.toNat).drop a.toNat)
theorem slK_to {es es' : List PV} {a b : Int} {K : List PV → Prop} (e : (es.take b.toNat).drop a.toNat = es') (k : K es') : slK es a b K := by subst e; exact k
theorem slK_elim {es : List PV} {a b : Int} {K : List PV → Prop} (h : slK es a b K) : K ((es.take b.toNat).drop a.toNat) := h
theorem slK_map {α : Type} {f : α → PV} {l l' : List α} {a b : Int} {K : List PV → Prop} (e : (l.take b.toNat).drop a.toNat = l') (k : K (l'.map f)) : slK (l.map f) a b K := slK_to (by rw [← e, List.map_drop, List.map_take]) k
theorem sideP_map {α : Type} {f : α → PV} {l : List α} {n : Nat} {A : Prop} (h : ∀ x, (f x).cells.length = n) (k : A) : sideP (∀ e' ∈ l.map f, e'.cells.length = n) A := ⟨fun e he => by obtain ⟨x, _, rfl⟩ := List.mem_map.1 he; exact h x, k⟩
attribute [irreducible] sideP ov slK

/-! Lists and tables, by numbers. -/
def nth {α : Type} : List α → Nat → Option α
  | [], _ => none
  | a :: _, 0 => some a
  | _ :: l, n + 1 => nth l n
theorem nth_eq {α : Type} : ∀ (l : List α) (i : Nat), nth l i = l[i]?
  | [], _ => by simp [nth]
  | a :: l, 0 => by simp [nth]
  | a :: l, n + 1 => by simp [nth, nth_eq l n]
def ts (t : Tm) (d : Nat) (v : PV) (j : Nat) : PV := match Nat.beq j d with
  | true => v
  | false => t j
def hs (h : Hp) (r : Nat) (b : Option Blk) (j : Nat) : Option Blk := match Nat.beq j r with
  | true => b
  | false => h j
def memN : List Nat → Nat → Bool
  | [], _ => false
  | k :: ks, j => match Nat.beq j k with
    | true => true
    | false => memN ks j
def fs (z : Fz) (ks : List Nat) (j : Nat) : Bool := match memN ks j with
  | true => true
  | false => z j
theorem beq_dec (j d : Nat) : Nat.beq j d = decide (j = d) := by
  by_cases h : j = d
  · subst h; simp
  · rw [decide_eq_false h, Bool.eq_false_iff]; intro e; exact h (Nat.eq_of_beq_eq_true e)
theorem ts_eq {t : Tm} {d : Nat} {v : PV} : ts t d v = tset t d v := by
  funext j
  unfold ts tset
  rw [beq_dec]
  by_cases h : j = d <;> simp [h]
theorem hs_eq {h : Hp} {d : Nat} {v : Option Blk} : hs h d v = hset h d v := by
  funext j
  unfold hs hset
  rw [beq_dec]
  by_cases h : j = d <;> simp [h]
theorem memN_eq : ∀ (ks : List Nat) (j : Nat), memN ks j = ks.contains j
  | [], _ => by simp [memN]
  | k :: ks, j => by
    unfold memN
    rw [beq_dec, memN_eq ks j, List.contains_cons]
    by_cases h : j = k
    · simp [h]
    · simp [h]
theorem fs_eq {z : Fz} {ks : List Nat} : fs z ks = fset z ks := by
  funext j
  unfold fs fset
  rw [memN_eq]
  cases ks.contains j <;> simp
def fN (n : Nat) (K : Nat → Prop) : Prop := match n with
  | 0 => K 0
  | m + 1 => K (m + 1)
theorem fN_eq {n : Nat} {K : Nat → Prop} : fN n K = K n := by cases n <;> rfl
def bq (a b : Bool) : Bool := match a, b with
  | true, true => true
  | false, false => true
  | _, _ => false
theorem bq_iff {a b : Bool} : bq a b = true ↔ a = b := by cases a <;> cases b <;> simp [bq]
def an (a b : Bool) : Bool := match a with
  | true => b
  | false => false
theorem an_iff {a b : Bool} : an a b = true ↔ a = true ∧ b = true := by cases a <;> simp [an]
theorem beq_iff {a b : Nat} : Nat.beq a b = true ↔ a = b := by rw [beq_dec]; simp
theorem ble_iff {a b : Nat} : Nat.ble a b = true ↔ a ≤ b := by rw [Nat.ble_eq]
def nz (n : Nat) : Bool := match n with
  | 0 => false
  | _ + 1 => true
theorem nz_iff {n : Nat} : nz n = true ↔ n ≠ 0 := by cases n <;> simp [nz]
def no (b : Bool) : Bool := match b with
  | true => false
  | false => true
theorem no_iff {b : Bool} : no b = true ↔ b = false := by cases b <;> simp [no]

/-! Values, forced. -/
def fL : List PV → (List PV → Prop) → Prop
  | [], K => K []
  | c :: cs, K => fL cs fun l => K (c :: l)
theorem fL_eq : ∀ {l : List PV} {K : List PV → Prop}, fL l K = K l
  | [], _ => rfl
  | c :: cs, K => by unfold fL; rw [fL_eq]
@[reducible] def force (v : PV) (K : PV → Prop) : Prop := match v with
  | .int k n => K (.int k n)
  | .bool b => K (.bool b)
  | .str s => K (.str s)
  | .agg cs => fL cs fun l => K (.agg l)
  | .imm es => K (.imm es)
  | .nilsl => K .nilsl
  | .own r off len => K (.own r off len)
  | .ptr r i off => K (.ptr r i off)
  | .cptr e off => K (.cptr e off)
  | .func fn f c => K (.func fn f c)
  | .nilfunc => K .nilfunc
  | .tup vs => fL vs fun l => K (.tup l)
  | .anyb => K .anyb
  | .any => K .any
theorem force_eq {v : PV} {K : PV → Prop} : force v K = K v := by cases v <;> simp [force, fL_eq]
theorem force_of {v : PV} {K : PV → Prop} (h : K v) : force v K := by rw [force_eq]; exact h

abbrev KK := PV → Hp → List Nat → List Nat → Prop
abbrev Ti := TypeId → Option TI

section
variable (T : Ti) (G : Gl)

def evs (t : Tm) : List Operand → (List PV → Prop) → Prop
  | [], K => K []
  | x :: xs, K => force (ev G t x) fun v => evs t xs fun vs => K (v :: vs)
theorem evs_eq {t : Tm} : ∀ {l : List Operand} {K : List PV → Prop}, evs G t l K = K (l.map (ev G t))
  | [], _ => rfl
  | x :: xs, K => by unfold evs; rw [force_eq, evs_eq]; rfl
def evp (t : Tm) : List (Nat × Operand) → (List (Nat × PV) → Prop) → Prop
  | [], K => K []
  | (i, x) :: xs, K => force (ev G t x) fun v => evp t xs fun vs => K ((i, v) :: vs)
theorem evp_eq {t : Tm} : ∀ {l : List (Nat × Operand)} {K : List (Nat × PV) → Prop}, evp G t l K = K (l.map fun (j, x) => (j, ev G t x))
  | [], _ => rfl
  | (i, x) :: xs, K => by unfold evp; rw [force_eq, evp_eq]; rfl

def partK (e : PV) (off n : Nat) (agg : Bool) (K : PV → Prop) : Prop :=
  brB (an (Nat.beq off 0) (an (Nat.beq e.cells.length n) (bq e.isAgg agg))) (force e K)
    (brT (Nat.ble (off + n) e.cells.length) (brB agg (fL ((e.cells.drop off).take n) fun l => K (.agg l)) (brT (Nat.beq n 1) (oK (nth e.cells off) fun v => force v K))))
theorem partK_elim {e : PV} {off n : Nat} {agg : Bool} {K : PV → Prop} (h : partK e off n agg K) : ∃ v, part e off n agg = some v ∧ K v := by
  unfold partK at h
  unfold part
  by_cases h1 : off = 0 ∧ e.cells.length = n ∧ e.isAgg = agg
  · have : an (Nat.beq off 0) (an (Nat.beq e.cells.length n) (bq e.isAgg agg)) = true := by simp only [an_iff, beq_iff, bq_iff]; exact h1
    rw [this] at h
    rw [if_pos h1]
    exact ⟨e, rfl, by rw [← force_eq (v := e) (K := K)]; exact h⟩
  · have : an (Nat.beq off 0) (an (Nat.beq e.cells.length n) (bq e.isAgg agg)) = false := by
      rw [Bool.eq_false_iff]; intro h2; simp only [an_iff, beq_iff, bq_iff] at h2; exact h1 h2
    rw [this] at h
    rw [if_neg h1]
    obtain ⟨h2, h⟩ := brT_elim h
    rw [ble_iff] at h2
    rw [if_pos h2]
    cases agg with
    | true => exact ⟨_, rfl, by rw [← fL_eq (l := (e.cells.drop off).take n) (K := fun l => K (.agg l))]; exact h⟩
    | false =>
      obtain ⟨h3, h⟩ := brT_elim h
      obtain ⟨v, h4, h⟩ := oK_elim h
      rw [beq_iff] at h3
      rw [nth_eq] at h4
      refine ⟨v, by simp [h3, h4], by rw [← force_eq (v := v) (K := K)]; exact h⟩

def spliceK (e : PV) (off : Nat) (v : PV) (K : PV → Prop) : Prop :=
  brB (an (Nat.beq off 0) (an (Nat.beq e.cells.length v.cells.length) (bq e.isAgg v.isAgg))) (K v)
    (brT (an (Nat.ble (off + v.cells.length) e.cells.length) e.isAgg) (fL (e.cells.take off ++ v.cells ++ e.cells.drop (off + v.cells.length)) fun l => K (.agg l)))
theorem spliceK_elim {e : PV} {off : Nat} {v : PV} {K : PV → Prop} (h : spliceK e off v K) : ∃ e', splice e off v = some e' ∧ K e' := by
  unfold spliceK at h
  unfold splice
  by_cases h1 : off = 0 ∧ e.cells.length = v.cells.length ∧ e.isAgg = v.isAgg
  · have : an (Nat.beq off 0) (an (Nat.beq e.cells.length v.cells.length) (bq e.isAgg v.isAgg)) = true := by simp only [an_iff, beq_iff, bq_iff]; exact h1
    rw [this] at h
    rw [if_pos h1]
    exact ⟨v, rfl, h⟩
  · have : an (Nat.beq off 0) (an (Nat.beq e.cells.length v.cells.length) (bq e.isAgg v.isAgg)) = false := by
      rw [Bool.eq_false_iff]; intro h2; simp only [an_iff, beq_iff, bq_iff] at h2; exact h1 h2
    rw [this] at h
    rw [if_neg h1]
    obtain ⟨h2, h⟩ := brT_elim h
    rw [an_iff, ble_iff] at h2
    rw [if_pos h2]
    exact ⟨_, rfl, by rw [← fL_eq (l := e.cells.take off ++ v.cells ++ e.cells.drop (off + v.cells.length)) (K := fun l => K (.agg l))]; exact h⟩

def fillFK (fs : List (Nat × Nat × Nat)) : List PV → List (Nat × PV) → (List PV → Prop) → Prop
  | cells, [], K => K cells
  | cells, (i, v) :: rest, K => oK (nth fs i) fun f =>
    brT (an v.storable (an (Nat.beq v.cells.length f.2.2) (Nat.ble (f.1 + f.2.2) cells.length))) (fL (cells.take f.1 ++ v.cells ++ cells.drop (f.1 + f.2.2)) fun cs => fillFK fs cs rest K)
theorem fillFK_elim {fs : List (Nat × Nat × Nat)} : ∀ {parts : List (Nat × PV)} {cells : List PV} {K : List PV → Prop}, fillFK fs cells parts K → ∃ cs, fillF fs cells parts = some cs ∧ K cs
  | [], cells, K, h => ⟨cells, rfl, h⟩
  | (i, v) :: rest, cells, K, h => by
    unfold fillFK at h
    obtain ⟨f, h1, h⟩ := oK_elim h
    obtain ⟨h2, h⟩ := brT_elim h
    rw [fL_eq] at h
    obtain ⟨cs, h3, h4⟩ := fillFK_elim h
    obtain ⟨a, b, c⟩ := f
    simp only [an_iff, beq_iff, ble_iff] at h2
    rw [nth_eq] at h1
    refine ⟨cs, ?_, h4⟩
    unfold fillF
    rw [h1]
    dsimp only
    rw [if_pos h2]
    exact h3

def fillEK (sz : Nat) (agg : Bool) : List PV → List (Nat × PV) → (List PV → Prop) → Prop
  | els, [], K => K els
  | els, (i, v) :: rest, K => brT (an v.storable (an (Nat.beq v.cells.length sz) (an (bq v.isAgg agg) (Nat.ble (i + 1) els.length)))) (fL (els.set i v) fun l => fillEK sz agg l rest K)
theorem fillEK_elim {sz : Nat} {agg : Bool} : ∀ {parts : List (Nat × PV)} {els : List PV} {K : List PV → Prop}, fillEK sz agg els parts K → ∃ cs, fillE sz agg els parts = some cs ∧ K cs
  | [], els, K, h => ⟨els, rfl, h⟩
  | (i, v) :: rest, els, K, h => by
    unfold fillEK at h
    obtain ⟨h2, h⟩ := brT_elim h
    rw [fL_eq] at h
    obtain ⟨cs, h3, h4⟩ := fillEK_elim h
    simp only [an_iff, beq_iff, ble_iff, bq_iff] at h2
    refine ⟨cs, ?_, h4⟩
    unfold fillE
    rw [if_pos ⟨h2.1, h2.2.1, h2.2.2.1, h2.2.2.2⟩]
    exact h3

def allE (sz : Nat) (agg : Bool) : List PV → Bool
  | [] => true
  | e :: es => an (Nat.beq e.cells.length sz) (an (bq e.isAgg agg) (allE sz agg es))
theorem allE_iff {sz : Nat} {agg : Bool} : ∀ {es : List PV}, allE sz agg es = true ↔ ∀ e ∈ es, e.cells.length = sz ∧ e.isAgg = agg
  | [] => by simp [allE]
  | e :: es => by
    unfold allE
    rw [an_iff, an_iff, beq_iff, bq_iff, allE_iff (es := es)]
    simp [and_assoc]
theorem allE_map {α : Type} {sz : Nat} {agg : Bool} {f : α → PV} (h : ∀ x, (f x).cells.length = sz ∧ (f x).isAgg = agg) (l : List α) : allE sz agg (l.map f) = true :=
  allE_iff.2 fun e he => by obtain ⟨x, _, rfl⟩ := List.mem_map.1 he; exact h x

def kk (k k' : IntKind) : Bool := decide (k = k')
def shl2 (k : IntKind) (b : Int) : Int := 2 ^ (min b.toNat k.bits)
def bitF (op : BinOp) (k : IntKind) (x y : Int) : Int := match op with
  | .and => k.wrap (BitVec.ofInt k.bits x &&& BitVec.ofInt k.bits y).toNat
  | .or => k.wrap (BitVec.ofInt k.bits x ||| BitVec.ofInt k.bits y).toNat
  | .xor => k.wrap (BitVec.ofInt k.bits x ^^^ BitVec.ofInt k.bits y).toNat
  | .andNot => k.wrap (BitVec.ofInt k.bits x &&& ~~~BitVec.ofInt k.bits y).toNat
  | _ => 0
attribute [irreducible] bitF shl2
def binI (op : BinOp) (k k' : IntKind) (a b : Int) (K : PV → Prop) : Prop := match op with
  | .add => brT (kk k k') (ov k (a + b) fun m => K (.int k m))
  | .sub => brT (kk k k') (ov k (a - b) fun m => K (.int k m))
  | .mul => brT (kk k k') (ov k (a * b) fun m => K (.int k m))
  | .eql => brT (kk k k') (K (.bool (a == b)))
  | .neq => brT (kk k k') (K (.bool (a != b)))
  | .lss => brT (kk k k') (K (.bool (decide (a < b))))
  | .leq => brT (kk k k') (K (.bool (decide (a ≤ b))))
  | .gtr => brT (kk k k') (K (.bool (decide (a > b))))
  | .geq => brT (kk k k') (K (.bool (decide (a ≥ b))))
  | .quo => brT (kk k k') (sideD (b ≠ 0) (ov k (a.tdiv b) fun m => K (.int k m)))
  | .rem => brT (kk k k') (sideD (b ≠ 0) (K (.int k (a.tmod b))))
  | .shl => sideD (0 ≤ b) (ov k (a * shl2 k b) fun m => K (.int k m))
  | .shr => sideD (0 ≤ b) (K (.int k (a.fdiv (shl2 k b))))
  | .and | .or | .xor | .andNot => brT (kk k k') (K (.int k (bitF op k a b)))
theorem kk_iff {k k' : IntKind} : kk k k' = true ↔ k = k' := by unfold kk; simp

@[reducible] def nilImm (es : List PV) (A B : Prop) : Prop := match es with
  | [] => A
  | _ :: _ => B
@[reducible] def nilOwn (len : Nat) (A B : Prop) : Prop := match len with
  | 0 => A
  | _ + 1 => B
theorem nilImm_map {α : Type} {f : α → PV} {l : List α} {A B : Prop} (h1 : l = [] → A) (h2 : l ≠ [] → B) : nilImm (l.map f) A B := by
  cases l with
  | nil => exact h1 rfl
  | cons => exact h2 (by simp)
theorem nilOwn_of {len : Nat} {A B : Prop} (h1 : len = 0 → A) (h2 : len ≠ 0 → B) : nilOwn len A B := by
  cases len with
  | zero => exact h1 rfl
  | succ => exact h2 (by simp)
def binNil (xt : TypeId) (ng : Bool) (v : PV) (K : PV → Prop) : Prop := oK (T xt) fun i => brT i.isSlice (match v with
  | .nilsl => K (.bool (no ng))
  | .imm es => nilImm es (K .anyb) (K (.bool ng))
  | .own _ _ len => nilOwn len (K .anyb) (K (.bool ng))
  | _ => False)

def binV (op : BinOp) (xt : TypeId) (x y : PV) (K : PV → Prop) : Prop := match x, y with
  | .int k a, .int k' b => binI op k k' a b K
  | .bool a, .bool b => (match op with
    | .eql => oK (T xt) fun i => brT i.isBool (K (.bool (a == b)))
    | .neq => oK (T xt) fun i => brT i.isBool (K (.bool (a != b)))
    | _ => False)
  | .agg as, .agg bs => (match op with
    | .eql => oK (T xt) fun i => brT (an i.eqInts (an (Nat.beq as.length i.fields.length) (Nat.beq bs.length i.fields.length))) (oK (eqCells as bs) fun r => K (.bool r))
    | .neq => oK (T xt) fun i => brT (an i.eqInts (an (Nat.beq as.length i.fields.length) (Nat.beq bs.length i.fields.length))) (oK (eqCells as bs) fun r => K (.bool (!r)))
    | _ => False)
  | .nilsl, .nilsl => (match op with
    | .eql => binNil T xt false .nilsl K
    | .neq => binNil T xt true .nilsl K
    | _ => False)
  | .imm es, .nilsl => (match op with
    | .eql => binNil T xt false (.imm es) K
    | .neq => binNil T xt true (.imm es) K
    | _ => False)
  | .own r off len, .nilsl => (match op with
    | .eql => binNil T xt false (.own r off len) K
    | .neq => binNil T xt true (.own r off len) K
    | _ => False)
  | _, _ => False

def optI (t : Tm) (o : Option Operand) (d : Int) (K : Int → Prop) : Prop := match o with
  | none => K d
  | some o => (match ev G t o with
    | .int _ n => K n
    | _ => False)

def srcK (h : Hp) (v : PV) (K : List PV → List Nat → Prop) : Prop := match v with
  | .imm es => K es []
  | .nilsl => K [] []
  | .own r off len => oK (h r) fun b => sideD (off + len ≤ b.els.length) (K ((b.els.drop off).take len) [r])
  | _ => False

def vOp (z : Fz) (key : Nat) (op : Op) (t : Tm) (h : Hp) (K : KK) : Prop :=
  match op with
  | .move x | .assign x => force (ev G t x) fun v => K v h [] []
  | .pick c a b => (match ev G t c with
    | .bool v => brB v (force (ev G t a) fun v => K v h [] []) (force (ev G t b) fun v => K v h [] [])
    | _ => False)
  | .alloc e => oK (T e) fun i => brT i.zok (K (.ptr key 0 0) (hs h key (some ⟨[i.zero], i.zero.cells.length, i.zero.isAgg⟩)) [] [key])
  | .box _ x => force (ev G t x) fun v => brT v.storable (K (.ptr key 0 0) (hs h key (some ⟨[v], v.cells.length, v.isAgg⟩)) [] [key])
  | .build ty parts => oK (T ty) fun i => (match i.alen with
    | 0 => brT (an i.zok i.isStruct) (evp G t parts.toList fun ps => fillFK i.fields i.zero.cells ps fun cs => K (.agg cs) h [] [])
    | n + 1 => oK (T i.elem) fun e => brT (an i.zok (nz e.size)) (evp G t parts.toList fun ps => fillFK ((List.range (n + 1)).map fun j => (j * e.size, i.elem, e.size)) i.zero.cells ps fun cs => K (.agg cs) h [] []))
  | .buildSlice ty len parts => oK (T ty) fun i => oK (T i.elem) fun e =>
    brT (an (Nat.ble (len * e.size) (2 ^ 24)) (an e.zok (an i.isSlice (an (Nat.beq e.zero.cells.length e.size) (an (bq e.zero.isAgg e.agg) (nz e.size))))))
      (evp G t parts.toList fun ps => fillEK e.size e.agg (List.replicate len e.zero) ps fun els => K (.own key 0 len) (hs h key (some ⟨els, e.size, e.agg⟩)) [] [key])
  | .load ty x => oK (T ty) fun i => (match ev G t x with
    | .ptr r j off => oK (h r) fun b => oK (nth b.els j) fun e => partK e off i.size i.agg fun v => K v h [r] []
    | .cptr e off => partK e off i.size i.agg fun v => K v h [] []
    | _ => False)
  | .store ty x y => force (ev G t y) fun v => oK (T ty) fun i => (match ev G t x with
    | .ptr r j off => oK (h r) fun b => oK (nth b.els j) fun e => brT (an (no (z r)) (an v.storable (an (Nat.beq v.cells.length i.size) (nz i.size)))) <|
        spliceK e off v fun e' => K (.tup []) (hs h r (some { b with els := b.els.set j e' })) [r] [r]
    | _ => False)
  | .nilCheck x => (match ev G t x with
    | .ptr r i off => K (.ptr r i off) h [] []
    | .cptr e off => K (.cptr e off) h [] []
    | _ => False)
  | .binOp op xt x y _ => binV T op xt (ev G t x) (ev G t y) fun v => K v h [] []
  | .unOp op _ x => (match op, ev G t x with
    | .not, .bool b => K (.bool (!b)) h [] []
    | .neg, .int k n => ov k (0 - n) fun m => K (.int k m) h [] []
    | _, _ => False)
  | .convert src dst x => oK (T src) fun i => oK (T dst) fun j => (match i.kind, j.kind, ev G t x with
    | some _, some k, .int _ n => ov k n fun m => K (.int k m) h [] []
    | _, _, _ => False)
  | .makeFunc fn first captured => evs G t first.toList fun f => evs G t captured.toList fun c => K (.func fn f c) h [] []
  | .makeSlice ty l c => oK (T ty) fun i => oK (T i.elem) fun e => (match ev G t l, ev G t c with
    | .int .i64 n, .int .i64 m => brT (an (Nat.ble e.bytes 4096) (an e.zok (an i.isSlice (an (Nat.beq e.zero.cells.length e.size) (an (bq e.zero.isAgg e.agg) (nz e.size)))))) <| sideD (n = m ∧ 0 ≤ n ∧ n ≤ 2 ^ 32) (K (.own key 0 n.toNat) (hs h key (some ⟨List.replicate n.toNat e.zero, e.size, e.agg⟩)) [] [key])
    | _, _ => False)
  | .slice ty x lo hi none => oK (T ty) fun i => oK (T i.elem) fun e => (match ev G t x with
    | .imm es => optI G t lo 0 fun a => optI G t hi es.length fun b => brT (an i.isSlice (nz e.size)) (sideP (∀ e' ∈ es, e'.cells.length = e.size) (sideD (0 ≤ a ∧ a ≤ b ∧ b ≤ es.length) (slK es a b fun l => K (.imm l) h [] [])))
    | .own r off len => optI G t lo 0 fun a => optI G t hi len fun b => oK (h r) fun k => brT (an i.isSlice (an (Nat.beq k.sz e.size) (nz e.size))) (sideD (0 ≤ a ∧ a ≤ b ∧ b ≤ len) (K (.own r (off + a.toNat) (b.toNat - a.toNat)) h [r] []))
    | _ => False)
  | .fieldAddr s x f => oK (T s) fun i => oK (nth i.fields f) fun q => (match ev G t x with
    | .ptr r j off => brT (nz q.2.2) (K (.ptr r j (off + q.1)) h [] [])
    | .cptr e off => brT (nz q.2.2) (K (.cptr e (off + q.1)) h [] [])
    | _ => False)
  | .field s x f => oK (T s) fun i => oK (nth i.fields f) fun q => oK (T q.2.1) fun u => (match ev G t x with
    | .agg cs => partK (.agg cs) q.1 u.size u.agg fun v => K v h [] []
    | _ => False)
  | .indexAddr ty x ix => oK (T ty) fun i => oK (T i.elem) fun e => (match ev G t x, ev G t ix with
    | .imm es, .int _ n => brT (an i.isSlice (nz e.size)) (sideD (0 ≤ n ∧ n < es.length) (oK (nth es n.toNat) fun d => brT (Nat.beq d.cells.length e.size) (force d fun d => K (.cptr d 0) h [] [])))
    | .own r off len, .int _ n => brT (an i.isSlice (nz e.size)) (sideD (0 ≤ n ∧ n < len) (oK (h r) fun b => brT (Nat.beq b.sz e.size) (K (.ptr r (off + n.toNat) 0) h [r] [])))
    | .cptr d off, .int _ n => brT (an (nz i.alen) (nz e.size)) (sideD (0 ≤ n ∧ n < i.alen) (K (.cptr d (off + n.toNat * e.size)) h [] []))
    | .ptr r j off, .int _ n => brT (an (nz i.alen) (nz e.size)) (sideD (0 ≤ n ∧ n < i.alen) (K (.ptr r j (off + n.toNat * e.size)) h [] []))
    | _, _ => False)
  | .index ty x ix => oK (T ty) fun i => (match ev G t x, ev G t ix with
    | .agg cs, .int _ n => oK (T i.elem) fun e => brT (an (nz i.alen) (nz e.size)) (sideD (0 ≤ n ∧ n < i.alen) (partK (.agg cs) (n.toNat * e.size) e.size e.agg fun v => K v h [] []))
    | .str s, .int _ n => brT i.isStr (sideD (0 ≤ n) (oK (s[n.toNat]?) fun b => K (.int .u8 b.toNat) h [] []))
    | _, _ => False)
  | .extract x i => (match ev G t x with
    | .tup vs => oK (nth vs i) fun v => force v fun v => K v h [] []
    | _ => False)
  | .call { callee := .builtin .len, args := ⟨[x]⟩, argTypes := ⟨[ty]⟩ } => oK (T ty) fun i => brT i.isSlice (match ev G t x with
    | .imm es => K (.int .i64 es.length) h [] []
    | .own _ _ len => K (.int .i64 len) h [] []
    | .nilsl => K (.int .i64 0) h [] []
    | _ => False)
  | .call { callee := .builtin .max, args := ⟨[x, y]⟩, argTypes := _ } => (match ev G t x, ev G t y with
    | .int k a, .int _ b => K (.int k (if b > a then b else a)) h [] []
    | _, _ => False)
  | .call { callee := .builtin .min, args := ⟨[x, y]⟩, argTypes := _ } => (match ev G t x, ev G t y with
    | .int k a, .int _ b => K (.int k (if b < a then b else a)) h [] []
    | _, _ => False)
  | .call { callee := .builtin .append, args := ⟨[x, y]⟩, argTypes := ⟨[ty, ty2]⟩ } => oK (T ty) fun i => oK (T ty2) fun i2 => oK (T i.elem) fun e =>
    srcK h (ev G t y) fun es ks => brT (an (allE e.size e.agg es) (an (Nat.ble e.bytes 4096) (an e.zok (an i.isSlice (an i2.isSlice (an (Nat.beq e.zero.cells.length e.size) (nz e.size))))))) (match ev G t x with
      | .nilsl => sideD (es.length ≤ 2 ^ 32) (K (.own key 0 es.length) (hs h key (some ⟨es, e.size, e.agg⟩)) ks [key])
      | .own r off len => oK (h r) fun b => brT (an (Nat.beq b.sz e.size) (an (bq b.agg e.agg) (an (no (z r)) (no (memN ks r))))) (sideD (off = 0 ∧ len = b.els.length ∧ len + es.length ≤ 2 ^ 32)
            (K (.own key 0 (len + es.length)) (hs (hs h r none) key (some ⟨b.els ++ es, e.size, e.agg⟩)) (r :: ks) [r, key]))
      | _ => False)
  | _ => False
end
end Go.PI
