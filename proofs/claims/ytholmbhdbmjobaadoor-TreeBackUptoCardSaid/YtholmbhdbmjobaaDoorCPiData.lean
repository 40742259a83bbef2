/-
  PI: the program's data as Lean structures, and how they lie in cells. No program in sight.
-/
import Derived.Test.YtholmbhdbmjobaaDoorCPiFz
set_option linter.unusedVariables false
set_option linter.unusedSimpArgs false
namespace Go.PI

abbrev encN (ns : List Int) : PV := .imm (ns.map (.int .u32))

structure RatL where
  neg : Bool
  num : List Int
  den : List Int
  deriving DecidableEq, Inhabited
def encRat (r : RatL) : PV := .agg [.bool r.neg, encN r.num, encN r.den]

structure DecL where
  kind : Int
  index : Int
  rat : RatL
  deriving DecidableEq, Inhabited
def encDec (d : DecL) : PV := .agg [.int .i64 d.kind, .int .i64 d.index, .bool d.rat.neg, encN d.rat.num, encN d.rat.den]

structure RowL where
  kind : Int
  index : Int
  lo : Int
  hi : Int
  deriving DecidableEq, Inhabited
def encRow (r : RowL) : PV := .agg [.int .i64 r.kind, .int .i64 r.index, .int .i64 r.lo, .int .i64 r.hi]

structure MultL where
  row : RowL
  coef : RatL
  deriving DecidableEq, Inhabited
def encMult (m : MultL) : PV := .agg [.int .i64 m.row.kind, .int .i64 m.row.index, .int .i64 m.row.lo, .int .i64 m.row.hi, .bool m.coef.neg, encN m.coef.num, encN m.coef.den]

structure LemL where
  unit : Int
  upper : Bool
  value : RatL
  proof : List MultL
  deriving DecidableEq, Inhabited
def encLem (l : LemL) : PV := .agg [.int .i64 l.unit, .bool l.upper, .bool l.value.neg, encN l.value.num, encN l.value.den, .imm (l.proof.map encMult)]

inductive NodeL where
  | mk (lemmas : List LemL) (split : DecL) (kids : List NodeL) (empty : Bool) (proof : List MultL)
instance : Inhabited NodeL := ⟨.mk [] default [] false []⟩
namespace NodeL
def lemmas : NodeL → List LemL | .mk l _ _ _ _ => l
def split : NodeL → DecL | .mk _ s _ _ _ => s
def kids : NodeL → List NodeL | .mk _ _ k _ _ => k
def empty : NodeL → Bool | .mk _ _ _ e _ => e
def proof : NodeL → List MultL | .mk _ _ _ _ p => p
theorem sizeOf_kid {n k : NodeL} (h : k ∈ n.kids) : SizeOf.sizeOf k < SizeOf.sizeOf n := by
  cases n with
  | mk l s ks e p =>
    have := List.sizeOf_lt_of_mem (show k ∈ ks from h)
    simp only [NodeL.mk.sizeOf_spec]
    omega
end NodeL

def encNode (n : NodeL) : PV :=
  .agg [.imm (n.lemmas.map encLem), .int .i64 n.split.kind, .int .i64 n.split.index, .bool n.split.rat.neg, encN n.split.rat.num, encN n.split.rat.den, .imm (n.kids.attach.map fun ⟨k, _⟩ => encNode k), .bool n.empty, .imm (n.proof.map encMult)]
termination_by SizeOf.sizeOf n
decreasing_by exact NodeL.sizeOf_kid ‹_›

theorem encNode_eq (n : NodeL) : encNode n =
    .agg [.imm (n.lemmas.map encLem), .int .i64 n.split.kind, .int .i64 n.split.index, .bool n.split.rat.neg, encN n.split.rat.num, encN n.split.rat.den, .imm (n.kids.map encNode), .bool n.empty, .imm (n.proof.map encMult)] := by
  rw [encNode]
  congr 8
  simp [List.attach_map_val]

/-- A node, opened once. -/
abbrev nodeV (n : NodeL) : PV :=
  .agg [.imm (n.lemmas.map encLem), .int .i64 n.split.kind, .int .i64 n.split.index, .bool n.split.rat.neg, encN n.split.rat.num, encN n.split.rat.den, .imm (n.kids.map encNode), .bool n.empty, .imm (n.proof.map encMult)]
theorem encNode_V (n : NodeL) : encNode n = nodeV n := encNode_eq n
theorem oK_node {l : List NodeL} {i : Int} {K : PV → Prop} {j : Nat} (e : i = (j : Int)) (h : j < l.length) (k : K (nodeV l[j]!)) : oK (nth (l.map encNode) i.toNat) K := oK_map' e h (by rw [encNode_V]; exact k)
theorem oK_at {α : Type} [Inhabited α] {f : α → PV} {l : List α} {i : Int} (j : Nat) {K : PV → Prop} (e : i.toNat = j) (h : j < l.length) (k : K (f l[j]!)) : oK (nth (l.map f) i.toNat) K := by rw [e]; exact oK_map h k
theorem oK_node0 {l : List NodeL} {K : PV → Prop} (h : 0 < l.length) (k : K (nodeV l[0]!)) : oK (nth (l.map encNode) (Int.toNat 0)) K := oK_at 0 rfl h (by rw [encNode_V]; exact k)
theorem oK_node1 {l : List NodeL} {K : PV → Prop} (h : 1 < l.length) (k : K (nodeV l[1]!)) : oK (nth (l.map encNode) (Int.toNat 1)) K := oK_at 1 rfl h (by rw [encNode_V]; exact k)
theorem oK_map0 {α : Type} [Inhabited α] {f : α → PV} {l : List α} {K : PV → Prop} (h : 0 < l.length) (k : K (f l[0]!)) : oK (nth (l.map f) (Int.toNat 0)) K := oK_at 0 rfl h k
theorem oK_nodeN {l : List NodeL} {k : Nat} (j : Nat) {K : PV → Prop} (e : k = j) (h : j < l.length) (q : K (nodeV l[j]!)) : oK (nth (l.map encNode) k) K := oK_atN j e h (by rw [encNode_V]; exact q)
theorem node_shape (x : NodeL) : (encNode x).cells.length = 9 ∧ (encNode x).isAgg = true := by rw [encNode_V]; exact ⟨rfl, rfl⟩
noncomputable instance : DecidableEq NodeL := fun a b => Classical.propDecidable (a = b)

/-- Lengths that a machine's int counts. -/
def RatL.sm (r : RatL) : Prop := r.num.length < 2097152 ∧ r.den.length < 2097152
def MultL.sm (m : MultL) : Prop := m.coef.sm
def smMults (l : List MultL) : Prop := l.length < 2097152 ∧ ∀ m ∈ l, m.sm
def LemL.sm (l : LemL) : Prop := l.value.sm ∧ smMults l.proof
def smLems (l : List LemL) : Prop := l.length < 2097152 ∧ ∀ m ∈ l, m.sm
def DecL.sm (d : DecL) : Prop := d.rat.sm
def smPath (l : List DecL) : Prop := l.length < 2097152 ∧ ∀ d ∈ l, d.sm
inductive NodeL.Sm : NodeL → Prop
  | mk (n : NodeL) (h1 : smLems n.lemmas) (h2 : n.split.sm) (h3 : n.kids.length < 2097152) (h4 : ∀ k ∈ n.kids, NodeL.Sm k) (h5 : smMults n.proof) : NodeL.Sm n
theorem NodeL.Sm.lems {n : NodeL} (h : n.Sm) : smLems n.lemmas := by cases h; assumption
theorem NodeL.Sm.dec {n : NodeL} (h : n.Sm) : n.split.sm := by cases h; assumption
theorem NodeL.Sm.len {n : NodeL} (h : n.Sm) : n.kids.length < 2097152 := by cases h; assumption
theorem NodeL.Sm.kid {n : NodeL} (h : n.Sm) {k : NodeL} (hk : k ∈ n.kids) : k.Sm := by
  cases h with | mk _ _ _ _ h4 _ => exact h4 k hk
theorem NodeL.Sm.prf {n : NodeL} (h : n.Sm) : smMults n.proof := by cases h; assumption

theorem bang_mem {α : Type} [Inhabited α] {l : List α} {i : Nat} (h : i < l.length) : l[i]! ∈ l := by
  rw [getElem!_pos l i h]; exact List.getElem_mem h

section
variable {h : Hp} {n : Nat}
theorem frz_u32 (x : Int) : frz h n (.int .u32 x) = some (.int .u32 x, []) := by cases n <;> rfl
theorem frz_rat (r : RatL) : frz h (n + 1) (encRat r) = some (encRat r, []) := by cases n <;> rfl
theorem frz_dec (r : DecL) : frz h (n + 1) (encDec r) = some (encDec r, []) := by cases n <;> rfl
theorem frz_mult (r : MultL) : frz h (n + 1) (encMult r) = some (encMult r, []) := by cases n <;> rfl
theorem frz_lem (r : LemL) : frz h (n + 1) (encLem r) = some (encLem r, []) := by cases n <;> rfl
theorem frz_node (r : NodeL) : frz h (n + 1) (encNode r) = some (encNode r, []) := by rw [encNode_eq]; cases n <;> rfl
end

theorem mult_ext {x y : MultL} (h : x.row.kind = y.row.kind ∧ x.row.index = y.row.index ∧ x.row.lo = y.row.lo ∧ x.row.hi = y.row.hi) (e : x.coef = y.coef) : x = y := by
  obtain ⟨⟨_, _, _, _⟩, _⟩ := x; obtain ⟨⟨_, _, _, _⟩, _⟩ := y; simp_all
theorem lem_ext {x y : LemL} (h1 : x.unit = y.unit) (h2 : x.upper = y.upper) (h3 : x.value = y.value) (h4 : x.proof = y.proof) : x = y := by
  cases x; cases y; simp_all
theorem node_ext {x y : NodeL} (h1 : x.lemmas = y.lemmas) (h2 : x.split = y.split) (h3 : x.kids = y.kids) (h4 : x.empty = y.empty) (h5 : x.proof = y.proof) : x = y := by
  cases x; cases y
  simp only [NodeL.lemmas, NodeL.split, NodeL.kids, NodeL.empty, NodeL.proof] at *
  subst h1 h2 h3 h4 h5; rfl

/-- How much a tree holds. -/
def lemWt (l : LemL) : Nat := 1 + l.proof.length
def NodeL.wt (n : NodeL) : Nat := 1 + (n.lemmas.map lemWt).sum + n.proof.length + (n.kids.attach.map fun ⟨k, _⟩ => NodeL.wt k).sum
termination_by SizeOf.sizeOf n
decreasing_by exact NodeL.sizeOf_kid ‹_›
theorem NodeL.wt_eq (n : NodeL) : n.wt = 1 + (n.lemmas.map lemWt).sum + n.proof.length + (n.kids.map NodeL.wt).sum := by
  rw [NodeL.wt]
  congr 2
  simp
theorem sum_take_succ {α : Type} [Inhabited α] {f : α → Nat} {l : List α} {i : Nat} (h : i < l.length) : ((l.take (i + 1)).map f).sum = ((l.take i).map f).sum + f l[i]! := by
  rw [List.take_succ_eq_append_getElem h, List.map_append, List.sum_append, getElem!_pos l i h]; simp
theorem sum_take_le {α : Type} {f : α → Nat} {l : List α} {i : Nat} : ((l.take i).map f).sum ≤ (l.map f).sum := by
  conv => rhs; rw [← List.take_append_drop i l, List.map_append, List.sum_append]
  omega
theorem wt_kid {n k : NodeL} (h : k ∈ n.kids) : k.wt < n.wt := by
  rw [NodeL.wt_eq n]
  have : ∀ (l : List NodeL), k ∈ l → k.wt ≤ (l.map NodeL.wt).sum := by
    intro l
    induction l with
    | nil => intro h; cases h
    | cons a l ih =>
      intro h
      simp only [List.map_cons, List.sum_cons]
      rcases List.mem_cons.1 h with rfl | h
      · omega
      · have := ih h; omega
  have := this _ h
  omega
theorem len_le_wt (l : List LemL) : l.length + (l.map fun x => x.proof.length).sum = (l.map lemWt).sum := by
  induction l with
  | nil => rfl
  | cons a l ih => simp only [List.map_cons, List.sum_cons, List.length_cons, lemWt]; simp only [← ih]; omega

/-- The number of nodes. -/
def NodeL.cnt (n : NodeL) : Nat := 1 + (n.kids.attach.map fun ⟨k, _⟩ => NodeL.cnt k).sum
termination_by SizeOf.sizeOf n
decreasing_by exact NodeL.sizeOf_kid ‹_›
theorem NodeL.cnt_eq (n : NodeL) : n.cnt = 1 + (n.kids.map NodeL.cnt).sum := by
  rw [NodeL.cnt]
  congr 1
  simp
def leafOk (x : NodeL) : Bool := decide (x.split = ⟨0, 0, ⟨false, [], []⟩⟩)
def innerOk (x : NodeL) : Bool := decide (x.kids.length = 2 ∧ 1 ≤ x.split.kind ∧ x.split.kind ≤ 4 ∧ x.empty = false ∧ x.proof.length = 0)
/-- A valid form with at most 'd' decisions on a path. -/
def formOk : Nat → NodeL → Bool
  | d, n => if n.kids.length = 0 then leafOk n else innerOk n && decide (d ≠ 0) && (n.kids.attach.all fun ⟨k, _⟩ => formOk (d - 1) k)
termination_by _ n => SizeOf.sizeOf n
decreasing_by exact NodeL.sizeOf_kid ‹_›
theorem formOk_leaf {d : Nat} {n : NodeL} (h : n.kids.length = 0) : formOk d n = leafOk n := by rw [formOk, if_pos h]
theorem formOk_inner {d : Nat} {n : NodeL} (h : n.kids.length ≠ 0) : formOk d n = (innerOk n && decide (d ≠ 0) && n.kids.all fun k => formOk (d - 1) k) := by
  rw [formOk, if_neg h]
  congr 1
  simp
theorem two_of {α : Type} [Inhabited α] {l : List α} (h : l.length = 2) : l = [l[0]!, l[1]!] := by
  match l, h with
  | [a, b], _ => rfl
theorem formOk_two {d : Nat} {n : NodeL} (h : n.kids.length = 2) : formOk d n = (innerOk n && decide (d ≠ 0) && (formOk (d - 1) n.kids[0]! && formOk (d - 1) n.kids[1]!)) := by
  rw [formOk_inner (by omega)]
  congr 1
  have e := two_of h
  generalize n.kids[0]! = a at *
  generalize n.kids[1]! = b at *
  rw [e]
  simp
theorem cnt_two {n : NodeL} (h : n.kids.length = 2) : n.cnt = 1 + n.kids[0]!.cnt + n.kids[1]!.cnt := by
  rw [NodeL.cnt_eq]
  have e := two_of h
  generalize n.kids[0]! = a at *
  generalize n.kids[1]! = b at *
  rw [e]
  simp
  omega
theorem cnt_leaf {n : NodeL} (h : n.kids.length = 0) : n.cnt = 1 := by
  rw [NodeL.cnt_eq, List.length_eq_zero_iff.1 h]; rfl
theorem cnt_pos (n : NodeL) : 1 ≤ n.cnt := by rw [NodeL.cnt_eq]; omega
def NodeL.valid (n : NodeL) : Bool := formOk 2048 n && decide (n.cnt ≤ 65536)

def oppK (k : Int) : Int := if k = 1 then 2 else if k = 2 then 1 else if k = 3 then 4 else if k = 4 then 3 else k
def opp (d : DecL) : DecL := { d with kind := oppK d.kind }
def kidD (n : NodeL) (i : Nat) : DecL := if i = 1 then opp n.split else n.split
theorem zip_mem {α : Type} {l : List α} {k : Nat} {p : α × Nat} (h : p ∈ l.zipIdx k) : p.1 ∈ l := by
  have := List.mem_map_of_mem (f := Prod.fst) h
  rwa [List.zipIdx_map_fst] at this
/-- The nodes of a tree with their paths, in order. -/
def NodeL.all (n : NodeL) : List (List DecL × NodeL) := ([], n) :: (n.kids.zipIdx.attach.flatMap fun ⟨p, _⟩ => (NodeL.all p.1).map fun q => (kidD n p.2 :: q.1, q.2))
termination_by SizeOf.sizeOf n
decreasing_by exact NodeL.sizeOf_kid (zip_mem ‹_›)
def NodeL.upto (n : NodeL) (i : Nat) : List (List DecL × NodeL) := ([], n) :: ((n.kids.zipIdx.take i).flatMap fun p => (NodeL.all p.1).map fun q => (kidD n p.2 :: q.1, q.2))
theorem NodeL.all_eq (n : NodeL) : n.all = n.upto n.kids.length := by
  unfold NodeL.upto
  rw [List.take_of_length_le (by simp)]
  conv => lhs; rw [NodeL.all]
  congr 1
  rw [List.flatMap_subtype (g := fun p : NodeL × Nat => (NodeL.all p.1).map fun q => (kidD n p.2 :: q.1, q.2)) (fun _ _ => rfl)]
  simp
theorem NodeL.upto_zero (n : NodeL) : n.upto 0 = [([], n)] := by simp [NodeL.upto]
theorem NodeL.upto_succ (n : NodeL) {i : Nat} (h : i < n.kids.length) : n.upto (i + 1) = n.upto i ++ (n.kids[i]!.all.map fun q => (kidD n i :: q.1, q.2)) := by
  unfold NodeL.upto
  rw [List.take_succ_eq_append_getElem (by simpa using h), List.flatMap_append, List.cons_append]
  congr 2
  simp [getElem!_pos n.kids i h]

/-- The lists agree from the first element to the i-th. -/
theorem take_all_iff {α : Type} [DecidableEq α] [Inhabited α] {xs ys : List α} (hl : xs.length = ys.length) : xs = ys ↔ ∀ j, j < xs.length → xs[j]! = ys[j]! := by
  constructor
  · rintro rfl _ _; rfl
  · intro h
    refine List.ext_getElem hl fun i h1 h2 => ?_
    have := h i h1
    rwa [getElem!_pos xs i h1, getElem!_pos ys i h2] at this
end Go.PI
