/-
  What is read at the types of trees.
-/
import Derived.Test.YtholmbhdbmjobaaDoorCTi
import Derived.Test.YtholmbhdbmjobaaDoorCPiDoor
set_option linter.unusedVariables false
set_option linter.unusedSimpArgs false
namespace Go.PI.Tryd
open Go Go.Proofs Go.PI

section
variable {H : Type} {enc : TypeId × Value → H} {w : World}

def QNat (xs : List Int) (B : Nat) : Prop := QL (fun x b => (Lit.int .u32 x).wf = true ∧ 1 ≤ b) xs B
theorem r_nat (n : Nat) : Reads enc Tryd.prog w (n + 1) 24 (fun xs : List Int => [encN xs]) QNat :=
  reads_slice Tryd.underlying24 (by kernel_rfl) (by decide) (fun _ => ⟨rfl, rfl⟩) (reads_int Tryd.underlying105)

def QRat (x : RatL) (B : Nat) : Prop := ∃ b c, QNat x.num b ∧ QNat x.den c ∧ b + c + 2 ≤ B
def cRat (x : RatL) : List PV := [.bool x.neg, encN x.num, encN x.den]
theorem r_rat (n : Nat) : Reads enc Tryd.prog w (n + 2) 26 cRat QRat := by
  refine (reads_struct (tot := 3) Tryd.underlying26 (by kernel_rfl) (readsF_cons rfl (k := 1) (by kernel_rfl) (by decide) (reads_bool Tryd.underlying4)
    (readsF_cons rfl (k := 1) (by kernel_rfl) (by decide) (r_nat n) (readsF_cons rfl (k := 1) (by kernel_rfl) (by decide) (r_nat n) (readsF_nil (by decide)))))).to (fun x => (⟨x.1, x.2.1, x.2.2.1⟩ : RatL)) (fun _ => rfl) ?_
  rintro ⟨a, b, c, u⟩ B ⟨b0, ⟨b1, b2, h1, ⟨b3, b4, h3, ⟨b5, b6, h5, _, h6⟩, h4⟩, h2⟩, h0⟩
  exact ⟨b3, b5, h3, h5, by omega⟩
theorem QNat.sm {x : List Int} {B : Nat} (h : QNat x B) : x.length < B := QL.len (fun _ _ h => h.2) h
theorem QRat.sm {x : RatL} {B : Nat} (h : QRat x B) (hB : B ≤ 1048576) : x.sm := by
  obtain ⟨b, c, h1, h2, h3⟩ := h
  have := h1.sm; have := h2.sm
  exact ⟨by omega, by omega⟩

def QDec (x : DecL) (B : Nat) : Prop := ∃ b, QRat x.rat b ∧ b + 3 ≤ B
def cDec (x : DecL) : List PV := [.int .i64 x.kind, .int .i64 x.index, .bool x.rat.neg, encN x.rat.num, encN x.rat.den]
theorem r_dec (m : Nat) : Reads enc Tryd.prog w m 28 cDec QDec := by
  refine ((reads_struct (n := m + 2) (tot := 5) Tryd.underlying28 (by kernel_rfl) (readsF_cons rfl (k := 1) (by kernel_rfl) (by decide) (reads_int Tryd.underlying3)
    (readsF_cons rfl (k := 1) (by kernel_rfl) (by decide) (reads_int Tryd.underlying3) (readsF_cons rfl (k := 3) (by kernel_rfl) (by decide) (r_rat m) (readsF_nil (by decide)))))).le (by omega)).to (fun x => (⟨x.1, x.2.1, x.2.2.1⟩ : DecL)) (fun _ => rfl) ?_
  rintro ⟨a, b, c, u⟩ B ⟨b0, ⟨b1, b2, h1, ⟨b3, b4, h3, ⟨b5, b6, h5, _, h6⟩, h4⟩, h2⟩, h0⟩
  exact ⟨b5, h5, by have := h1.2; have := h3.2; omega⟩
theorem QDec.sm {x : DecL} {B : Nat} (h : QDec x B) (hB : B ≤ 1048576) : x.sm := by
  obtain ⟨b, h1, h3⟩ := h
  exact h1.sm (by omega)
theorem QDec.pos (x : DecL) (B : Nat) (h : QDec x B) : 1 ≤ B := by obtain ⟨b, h1, h3⟩ := h; omega
theorem r_path (m : Nat) : Reads enc Tryd.prog w m 43 (fun xs : List DecL => [.imm (xs.map encDec)]) (QL QDec) :=
  (reads_slice (n := m) (sz := 5) Tryd.underlying43 (by kernel_rfl) (by decide) (fun _ => ⟨rfl, rfl⟩) (r_dec m)).le (by omega)
theorem smPath_of {xs : List DecL} {B : Nat} (h : QL QDec xs B) (hB : B ≤ 1048576) : smPath xs := by
  refine ⟨by have := QL.len QDec.pos h; omega, fun d hd => ?_⟩
  obtain ⟨b, h1, h2⟩ := h.mem d hd
  exact h1.sm (by omega)

def cRow (x : RowL) : List PV := [.int .i64 x.kind, .int .i64 x.index, .int .i64 x.lo, .int .i64 x.hi]
theorem r_row (m : Nat) : Reads enc Tryd.prog w m 97 cRow (fun _ B => 1 ≤ B) := by
  refine ((reads_struct (n := m) (tot := 4) Tryd.underlying97 (by kernel_rfl) (readsF_cons rfl (k := 1) (by kernel_rfl) (by decide) (reads_int Tryd.underlying3)
    (readsF_cons rfl (k := 1) (by kernel_rfl) (by decide) (reads_int Tryd.underlying3) (readsF_cons rfl (k := 1) (by kernel_rfl) (by decide) (reads_int Tryd.underlying3)
    (readsF_cons rfl (k := 1) (by kernel_rfl) (by decide) (reads_int Tryd.underlying3) (readsF_nil (by decide))))))).le (by omega)).to (fun x => (⟨x.1, x.2.1, x.2.2.1, x.2.2.2.1⟩ : RowL)) (fun _ => rfl) ?_
  rintro x B ⟨b0, _, h0⟩
  omega
def QMult (x : MultL) (B : Nat) : Prop := ∃ b, QRat x.coef b ∧ b + 2 ≤ B
def cMult (x : MultL) : List PV := [.int .i64 x.row.kind, .int .i64 x.row.index, .int .i64 x.row.lo, .int .i64 x.row.hi, .bool x.coef.neg, encN x.coef.num, encN x.coef.den]
theorem r_mult (m : Nat) : Reads enc Tryd.prog w m 99 cMult QMult := by
  refine ((reads_struct (n := m + 2) (tot := 7) Tryd.underlying99 (by kernel_rfl) (readsF_cons rfl (k := 4) (by kernel_rfl) (by decide) (r_row _)
    (readsF_cons rfl (k := 3) (by kernel_rfl) (by decide) (r_rat m) (readsF_nil (by decide))))).le (by omega)).to (fun x => (⟨x.1, x.2.1⟩ : MultL)) (fun _ => rfl) ?_
  rintro ⟨a, c, u⟩ B ⟨b0, ⟨b1, b2, h1, ⟨b3, b4, h3, _, h4⟩, h2⟩, h0⟩
  exact ⟨b3, h3, by omega⟩
theorem QMult.pos (x : MultL) (B : Nat) (h : QMult x B) : 1 ≤ B := by obtain ⟨b, h1, h3⟩ := h; omega
theorem r_mults (m : Nat) : Reads enc Tryd.prog w m 30 (fun xs : List MultL => [.imm (xs.map encMult)]) (QL QMult) :=
  (reads_slice (n := m) (sz := 7) Tryd.underlying30 (by kernel_rfl) (by decide) (fun _ => ⟨rfl, rfl⟩) (r_mult m)).le (by omega)
theorem smMults_of {xs : List MultL} {B : Nat} (h : QL QMult xs B) (hB : B ≤ 1048576) : smMults xs := by
  refine ⟨by have := QL.len QMult.pos h; omega, fun d hd => ?_⟩
  obtain ⟨b, ⟨c, h1, h3⟩, h2⟩ := h.mem d hd
  exact h1.sm (by omega)
def QLem (x : LemL) (B : Nat) : Prop := ∃ b c, QRat x.value b ∧ QL QMult x.proof c ∧ b + c + 3 ≤ B
def cLem (l : LemL) : List PV := [.int .i64 l.unit, .bool l.upper, .bool l.value.neg, encN l.value.num, encN l.value.den, .imm (l.proof.map encMult)]
theorem r_lem (m : Nat) : Reads enc Tryd.prog w m 88 cLem QLem := by
  refine ((reads_struct (n := m + 2) (tot := 6) Tryd.underlying88 (by kernel_rfl) (readsF_cons rfl (k := 1) (by kernel_rfl) (by decide) (reads_int Tryd.underlying3)
    (readsF_cons rfl (k := 1) (by kernel_rfl) (by decide) (reads_bool Tryd.underlying4) (readsF_cons rfl (k := 3) (by kernel_rfl) (by decide) (r_rat m)
    (readsF_cons rfl (k := 1) (by kernel_rfl) (by decide) (r_mults _) (readsF_nil (by decide))))))).le (by omega)).to (fun x => (⟨x.1, x.2.1, x.2.2.1, x.2.2.2.1⟩ : LemL)) (fun _ => rfl) ?_
  rintro ⟨a, b, c, d, u⟩ B ⟨b0, ⟨b1, b2, h1, ⟨b3, b4, h3, ⟨b5, b6, h5, ⟨b7, b8, h7, _, h8⟩, h6⟩, h4⟩, h2⟩, h0⟩
  exact ⟨b5, b7, h5, h7, by have := h1.2; omega⟩
theorem QLem.pos (x : LemL) (B : Nat) (h : QLem x B) : 1 ≤ B := by obtain ⟨b, c, h1, h2, h3⟩ := h; omega
theorem r_lems (m : Nat) : Reads enc Tryd.prog w m 22 (fun xs : List LemL => [.imm (xs.map encLem)]) (QL QLem) :=
  (reads_slice (n := m) (sz := 6) Tryd.underlying22 (by kernel_rfl) (by decide) (fun _ => ⟨rfl, rfl⟩) (r_lem m)).le (by omega)
theorem smLems_of {xs : List LemL} {B : Nat} (h : QL QLem xs B) (hB : B ≤ 1048576) : smLems xs := by
  refine ⟨by have := QL.len QLem.pos h; omega, fun d hd => ?_⟩
  obtain ⟨b, ⟨c, e, h1, h3, h4⟩, h2⟩ := h.mem d hd
  exact ⟨h1.sm (by omega), smMults_of h3 (by omega)⟩
theorem lemWt_of (x : LemL) (B : Nat) (h : QLem x B) : lemWt x ≤ B := by
  obtain ⟨c, e, h1, h3, h4⟩ := h
  have := QL.len QMult.pos h3
  unfold lemWt
  omega

def QNode (x : NodeL) (B : Nat) : Prop := x.wt ≤ B ∧ (B ≤ 1048576 → x.Sm)
def cNode (n : NodeL) : List PV := [.imm (n.lemmas.map encLem), .int .i64 n.split.kind, .int .i64 n.split.index, .bool n.split.rat.neg, encN n.split.rat.num, encN n.split.rat.den, .imm (n.kids.map encNode), .bool n.empty, .imm (n.proof.map encMult)]
theorem QNode.pos (x : NodeL) (B : Nat) (h : QNode x B) : 1 ≤ B := by have := x.wt_eq; have := h.1; omega
theorem reads_zero {α : Type} {t : TypeId} {e : α → List PV} {Q : α → Nat → Prop} : Reads enc Tryd.prog w 0 t e Q := by
  intro fuel hf cs d ps h
  obtain rfl : fuel = 0 := by omega
  simp [DataW.trod] at h
theorem r_node_step {n : Nat} (hk : Reads enc Tryd.prog w n 29 (fun xs : List NodeL => [.imm (xs.map encNode)]) (QL QNode)) : Reads enc Tryd.prog w (n + 1) 32 cNode QNode := by
  refine ((reads_struct (n := n) (tot := 9) Tryd.underlying32 (by kernel_rfl) (readsF_cons rfl (k := 1) (by kernel_rfl) (by decide) (r_lems _)
    (readsF_cons rfl (k := 5) (by kernel_rfl) (by decide) (r_dec _) (readsF_cons rfl (k := 1) (by kernel_rfl) (by decide) hk
    (readsF_cons rfl (k := 1) (by kernel_rfl) (by decide) (reads_bool Tryd.underlying4) (readsF_cons rfl (k := 1) (by kernel_rfl) (by decide) (r_mults _) (readsF_nil (by decide))))))))).to (fun x => NodeL.mk x.1 x.2.1 x.2.2.1 x.2.2.2.1 x.2.2.2.2.1) (fun _ => rfl) ?_
  rintro ⟨a, b, c, d, e, u⟩ B ⟨b0, ⟨b1, b2, h1, ⟨b3, b4, h3, ⟨b5, b6, h5, ⟨b7, b8, h7, ⟨b9, b10, h9, _, h10⟩, h8⟩, h6⟩, h4⟩, h2⟩, h0⟩
  refine ⟨?_, fun hB => ?_⟩
  · rw [NodeL.wt_eq]
    have g1 := QL.sum lemWt_of h1
    have g2 := QL.len QMult.pos h9
    have g3 := QL.sum (f := NodeL.wt) (fun _ _ h => h.1) h5
    simp only [NodeL.lemmas, NodeL.proof, NodeL.kids] at *
    omega
  · refine .mk _ (smLems_of h1 (by omega)) (h3.sm (by omega)) (by have : c.length < b5 := QL.len QNode.pos h5; simp only [NodeL.kids]; omega) (fun k hk => ?_) (smMults_of h9 (by omega))
    obtain ⟨q, h11, h12⟩ := h5.mem k hk
    exact h11.2 (by omega)
theorem r_kids_step {n : Nat} (hk : Reads enc Tryd.prog w n 32 cNode QNode) : Reads enc Tryd.prog w (n + 1) 29 (fun xs : List NodeL => [.imm (xs.map encNode)]) (QL QNode) :=
  reads_slice (sz := 9) Tryd.underlying29 (by kernel_rfl) (by decide) (fun x => ⟨by rw [encNode_V]; rfl, rfl⟩) hk
theorem r_node (n : Nat) : Reads enc Tryd.prog w n 32 cNode QNode ∧ Reads enc Tryd.prog w n 29 (fun xs : List NodeL => [.imm (xs.map encNode)]) (QL QNode) := by
  induction n with
  | zero => exact ⟨reads_zero, reads_zero⟩
  | succ n ih => exact ⟨r_node_step ih.2, r_kids_step ih.1⟩
end
end Go.PI.Tryd
