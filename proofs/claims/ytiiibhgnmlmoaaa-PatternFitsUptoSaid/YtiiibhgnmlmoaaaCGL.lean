/-
  What is read at the types of numbers, forms and lists; the rows' ends.
-/
import Derived.Test.YtiiibhgnmlmoaaaCNA
import Derived.Test.YtiiibhgnmlmoaaaCPD
import Derived.Test.YtiiibhgnmlmoaaaRows
import Derived.WalkKit
import Derived.ProofKit
import Derived.OpenShut
import Derived.JoinedCond
namespace Go.PI.Try
set_option linter.unusedSimpArgs false
set_option linter.unnecessarySimpa false
open Go Go.Proofs Go.PI Go.Proofs.Ytiiibhgnmlmoaaa
open Go.ChangeShapes Go.WideShapes Go.ChangeAt Go.RowKit
set_option linter.unusedVariables false
section
variable {H : Type} {enc : TypeId × Value → H} {w : World}
def QNat (xs : List Int) (B : Nat) : Prop := QL (fun x b => (Lit.int .u32 x).wf = true ∧ 1 ≤ b) xs B
theorem QNat.ok {x : List Int} {B : Nat} (h : QNat x B) : okN x := fun y hy => by
  obtain ⟨b, ⟨h1, _⟩, _⟩ := QL.mem h y hy
  have : 0 ≤ y ∧ y ≤ 4294967295 := by simpa [Lit.wf, IntKind.min, IntKind.max, IntKind.signed, IntKind.bits] using h1
  omega
theorem QNat.len {x : List Int} {B : Nat} (h : QNat x B) : x.length < B := QL.len (fun _ _ h => h.2) h
def QRat (x : RatL) (B : Nat) : Prop := ∃ b c, QNat x.num b ∧ QNat x.den c ∧ b + c + 2 ≤ B
theorem QRat.ok {x : RatL} {B : Nat} (h : QRat x B) : okQ B x := by
  obtain ⟨b, c, h1, h2, h3⟩ := h
  have := h1.len; have := h2.len
  exact ⟨⟨h1.ok, h2.ok⟩, by omega, by omega⟩
theorem QRat.pos (x : RatL) (B : Nat) (h : QRat x B) : 1 ≤ B := by obtain ⟨b, c, h1, h2, h3⟩ := h; omega
def QTerm (x : TermL) (B : Nat) : Prop := ∃ b, QRat x.coef b ∧ b + 2 ≤ B
theorem QTerm.pos (x : TermL) (B : Nat) (h : QTerm x B) : 1 ≤ B := by obtain ⟨b, h1, h3⟩ := h; omega
def QAff (x : AffL) (B : Nat) : Prop := ∃ b c, QL QTerm x.terms b ∧ QRat x.const c ∧ b + c ≤ B
theorem QAff.ok {x : AffL} {B : Nat} (h : QAff x B) (hB : B ≤ 1048576) : okA 1048576 x := by
  obtain ⟨b, c, h1, h2, h3⟩ := h
  refine ⟨okQ_le (by omega) h2.ok, fun t ht => ?_, by have := QL.len QTerm.pos h1; omega⟩
  obtain ⟨d, ⟨e, h4, h5⟩, h6⟩ := h1.mem t ht
  exact okQ_le (by omega) h4.ok
theorem QAff.pos (x : AffL) (B : Nat) (h : QAff x B) : 1 ≤ B := by
  obtain ⟨b, c, _, ⟨d, e, _, _, h4⟩, h3⟩ := h; omega
theorem QInt.pos {k : IntKind} (x : Int) (B : Nat) (h : (Lit.int k x).wf = true ∧ 1 ≤ B) : 1 ≤ B := h.2
end
theorem own : ownKnob Try.prog.godebug = none := by kernel_rfl
theorem laidOut : laidOutB Try.prog = true := by kernel_rfl
theorem gok {W : World} : Gok G0 W (AllB W) := fun g e hg => by simp [G0] at hg
mutual
theorem bulk_eq {H : Type} : ∀ d : DataW H, Rows.uptoBulk d = bulk d
  | .lit l => by cases l <;> rfl
  | .nil => rfl
  | .ptr d => by simp only [Rows.uptoBulk, bulk, bulk_eq d]
  | .slice elems spare => by simp only [Rows.uptoBulk, bulk, bulkAll_eq elems, bulkAll_eq spare]
  | .agg parts => by simp only [Rows.uptoBulk, bulk, bulkAll_eq parts]
  | .iface _ d => by simp only [Rows.uptoBulk, bulk, bulk_eq d]
  | .map entries => by simp only [Rows.uptoBulk, bulk, bulkEntries_eq entries]
  | .held _ => rfl
theorem bulkAll_eq {H : Type} : ∀ d : List (DataW H), Rows.uptoBulkAll d = bulkAll d
  | [] => rfl
  | d :: r => by simp only [Rows.uptoBulkAll, bulkAll, bulk_eq d, bulkAll_eq r]
theorem bulkEntries_eq {H : Type} : ∀ d : List (Lit × DataW H), Rows.uptoBulkEntries d = bulkEntries d
  | [] => rfl
  | x :: r => by simp only [Rows.uptoBulkEntries, bulkEntries, bulkEntry_eq x, bulkEntries_eq r]
theorem bulkEntry_eq {H : Type} : ∀ d : Lit × DataW H, Rows.uptoBulkEntry d = bulkEntry d
  | (l, d) => by cases l <;> simp only [Rows.uptoBulkEntry, bulkEntry, bulk_eq d]
end
end Go.PI.Try
