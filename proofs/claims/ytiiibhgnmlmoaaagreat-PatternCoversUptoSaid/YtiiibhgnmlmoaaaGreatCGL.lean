/-
  What is read at the types of numbers, forms and lists; the rows' ends.
-/
import Derived.Test.YtiiibhgnmlmoaaaGreatCNA
import Derived.Test.YtiiibhgnmlmoaaaGreatCPD
import Derived.Test.YtiiibhgnmlmoaaaGreatRows
import Derived.Test.YtiiibhgnmlmoaaaGreatCPE
import Derived.WalkKit
import Derived.ProofKit
import Derived.OpenShut
import Derived.JoinedCond
namespace Go.PI.Tryz
set_option linter.unusedSimpArgs false
set_option linter.unnecessarySimpa false
open Go Go.Proofs Go.PI Go.Proofs.YtiiibhgnmlmoaaaGreat
open Go.ChangeShapes Go.WideShapes Go.ChangeAt Go.RowKit
set_option linter.unusedVariables false
section
variable {H : Type} {enc : TypeId × Value → H} {w : World}
def QNat (xs : List Int) (B : Nat) : Prop := QL (fun x b => (Lit.int .u32 x).wf = true ∧ 1 ≤ b) xs B
theorem r_nat (n : Nat) : Reads enc Tryz.prog w (n + 1) 42 (fun xs : List Int => [encN xs]) QNat :=
  reads_slice Tryz.underlying42 (by kernel_rfl) (by decide) (fun _ => ⟨rfl, rfl⟩) (reads_int Tryz.underlying105)
theorem QNat.ok {x : List Int} {B : Nat} (h : QNat x B) : okN x := fun y hy => by
  obtain ⟨b, ⟨h1, _⟩, _⟩ := QL.mem h y hy
  have : 0 ≤ y ∧ y ≤ 4294967295 := by simpa [Lit.wf, IntKind.min, IntKind.max, IntKind.signed, IntKind.bits] using h1
  omega
theorem QNat.len {x : List Int} {B : Nat} (h : QNat x B) : x.length < B := QL.len (fun _ _ h => h.2) h
def QRat (x : RatL) (B : Nat) : Prop := ∃ b c, QNat x.num b ∧ QNat x.den c ∧ b + c + 2 ≤ B
def cRat (x : RatL) : List PV := [.bool x.neg, encN x.num, encN x.den]
theorem r_rat (n : Nat) : Reads enc Tryz.prog w (n + 2) 44 cRat QRat := by
  refine (reads_struct (tot := 3) Tryz.underlying44 (by kernel_rfl) (readsF_cons rfl (k := 1) (by kernel_rfl) (by decide) (reads_bool Tryz.underlying4)
    (readsF_cons rfl (k := 1) (by kernel_rfl) (by decide) (r_nat n) (readsF_cons rfl (k := 1) (by kernel_rfl) (by decide) (r_nat n) (readsF_nil (by decide)))))).to (fun x => (⟨x.1, x.2.1, x.2.2.1⟩ : RatL)) (fun _ => rfl) ?_
  rintro ⟨a, b, c, u⟩ B ⟨b0, ⟨b1, b2, h1, ⟨b3, b4, h3, ⟨b5, b6, h5, _, h6⟩, h4⟩, h2⟩, h0⟩
  exact ⟨b3, b5, h3, h5, by omega⟩
theorem QRat.ok {x : RatL} {B : Nat} (h : QRat x B) : okQ B x := by
  obtain ⟨b, c, h1, h2, h3⟩ := h
  have := h1.len; have := h2.len
  exact ⟨⟨h1.ok, h2.ok⟩, by omega, by omega⟩
theorem QRat.pos (x : RatL) (B : Nat) (h : QRat x B) : 1 ≤ B := by obtain ⟨b, c, h1, h2, h3⟩ := h; omega
theorem r_rats (m : Nat) : Reads enc Tryz.prog w m 25 (fun xs : List RatL => [.imm (xs.map encRat)]) (QL QRat) :=
  (reads_slice (n := m + 2) (sz := 3) Tryz.underlying25 (by kernel_rfl) (by decide) (fun _ => ⟨rfl, rfl⟩) (r_rat m)).le (by omega)
def cTerm (x : TermL) : List PV := [.int .i64 x.var, .bool x.coef.neg, encN x.coef.num, encN x.coef.den]
def QTerm (x : TermL) (B : Nat) : Prop := ∃ b, QRat x.coef b ∧ b + 2 ≤ B
theorem r_term (m : Nat) : Reads enc Tryz.prog w m 71 cTerm QTerm := by
  refine ((reads_struct (n := m + 2) (tot := 4) Tryz.underlying71 (by kernel_rfl) (readsF_cons rfl (k := 1) (by kernel_rfl) (by decide) (reads_int Tryz.underlying3)
    (readsF_cons rfl (k := 3) (by kernel_rfl) (by decide) (r_rat m) (readsF_nil (by decide))))).le (by omega)).to (fun x => (⟨x.1, x.2.1⟩ : TermL)) (fun _ => rfl) ?_
  rintro ⟨a, c, u⟩ B ⟨b0, ⟨b1, b2, h1, ⟨b3, b4, h3, _, h4⟩, h2⟩, h0⟩
  exact ⟨b3, h3, by have := h1.2; omega⟩
theorem QTerm.pos (x : TermL) (B : Nat) (h : QTerm x B) : 1 ≤ B := by obtain ⟨b, h1, h3⟩ := h; omega
theorem r_terms (m : Nat) : Reads enc Tryz.prog w m 47 (fun xs : List TermL => [.imm (xs.map encTerm)]) (QL QTerm) :=
  (reads_slice (n := m) (sz := 4) Tryz.underlying47 (by kernel_rfl) (by decide) (fun _ => ⟨rfl, rfl⟩) (r_term m)).le (by omega)
def cAff (x : AffL) : List PV := [.imm (x.terms.map encTerm), .bool x.const.neg, encN x.const.num, encN x.const.den]
def QAff (x : AffL) (B : Nat) : Prop := ∃ b c, QL QTerm x.terms b ∧ QRat x.const c ∧ b + c ≤ B
theorem r_aff (m : Nat) : Reads enc Tryz.prog w m 49 cAff QAff := by
  refine ((reads_struct (n := m + 2) (tot := 4) Tryz.underlying49 (by kernel_rfl) (readsF_cons rfl (k := 1) (by kernel_rfl) (by decide) (r_terms (m + 2))
    (readsF_cons rfl (k := 3) (by kernel_rfl) (by decide) (r_rat m) (readsF_nil (by decide))))).le (by omega)).to (fun x => (⟨x.1, x.2.1⟩ : AffL)) (fun _ => rfl) ?_
  rintro ⟨a, c, u⟩ B ⟨b0, ⟨b1, b2, h1, ⟨b3, b4, h3, _, h4⟩, h2⟩, h0⟩
  exact ⟨b1, b3, h1, h3, by omega⟩
theorem QAff.ok {x : AffL} {B : Nat} (h : QAff x B) (hB : B ≤ 1048576) : okA 1048576 x := by
  obtain ⟨b, c, h1, h2, h3⟩ := h
  refine ⟨okQ_le (by omega) h2.ok, fun t ht => ?_, by have := QL.len QTerm.pos h1; omega⟩
  obtain ⟨d, ⟨e, h4, h5⟩, h6⟩ := h1.mem t ht
  exact okQ_le (by omega) h4.ok
theorem QAff.pos (x : AffL) (B : Nat) (h : QAff x B) : 1 ≤ B := by
  obtain ⟨b, c, _, ⟨d, e, _, _, h4⟩, h3⟩ := h; omega
theorem r_rows (m : Nat) : Reads enc Tryz.prog w m 22 (fun xs : List AffL => [.imm (xs.map encAff)]) (QL QAff) :=
  (reads_slice (n := m) (sz := 4) Tryz.underlying22 (by kernel_rfl) (by decide) (fun _ => ⟨rfl, rfl⟩) (r_aff m)).le (by omega)
theorem QInt.pos {k : IntKind} (x : Int) (B : Nat) (h : (Lit.int k x).wf = true ∧ 1 ≤ B) : 1 ≤ B := h.2
theorem okLs_of {xs : List RatL} {B : Nat} (h : QL QRat xs B) (hB : B ≤ 1048576) : okLs 1048576 xs := by
  refine ⟨by have := QL.len QRat.pos h; omega, fun x hx => ?_⟩
  obtain ⟨b, h1, h2⟩ := h.mem x hx
  exact okQ_le (by omega) h1.ok
end
theorem own : ownKnob Tryz.prog.godebug = none := by kernel_rfl
theorem laidOut : laidOutB Tryz.prog = true := by kernel_rfl
theorem gok {W : World} : Gok G0 W (AllB W) := fun g e hg => by simp [G0] at hg
mutual
theorem bulk_eq {H : Type} : ∀ d : DataW H, Rows.uptoBulk d = bulk d
  | .lit l => by cases l <;> rfl
  | .nil => rfl
  | .ptr d => by simp only [Rows.uptoBulk, bulk, bulk_eq d]
  | .slice elems spare => by simp only [Rows.uptoBulk, bulk, bulkAll_eq elems, bulkAll_eq spare]
  | .agg parts => by simp only [Rows.uptoBulk, bulk, bulkAll_eq parts]
  | .iface _ d => by simp only [Rows.uptoBulk, bulk, bulk_eq d]
  | .map entries => by simp only [Rows.uptoBulk, bulk, bulkEntries_eq entries]
  | .held _ => rfl
theorem bulkAll_eq {H : Type} : ∀ d : List (DataW H), Rows.uptoBulkAll d = bulkAll d
  | [] => rfl
  | d :: r => by simp only [Rows.uptoBulkAll, bulkAll, bulk_eq d, bulkAll_eq r]
theorem bulkEntries_eq {H : Type} : ∀ d : List (Lit × DataW H), Rows.uptoBulkEntries d = bulkEntries d
  | [] => rfl
  | x :: r => by simp only [Rows.uptoBulkEntries, bulkEntries, bulkEntry_eq x, bulkEntries_eq r]
theorem bulkEntry_eq {H : Type} : ∀ d : Lit × DataW H, Rows.uptoBulkEntry d = bulkEntry d
  | (l, d) => by cases l <;> simp only [Rows.uptoBulkEntry, bulkEntry, bulk_eq d]
end
end Go.PI.Tryz
