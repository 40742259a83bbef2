/-
  What is read at the type of affine forms.
-/
import Derived.Test.YtholmbhdbmjobaaDoorCDoor
import Derived.Test.YtholmbhdbmjobaaDoorCSc
set_option linter.unusedSimpArgs false
namespace Go.PI.Tryd
open Go Go.Proofs Go.PI
set_option linter.unusedVariables false

section
variable {H : Type} {enc : TypeId × Value → H} {w : World}
def cTerm (x : TermL) : List PV := [.int .i64 x.var, .bool x.coef.neg, encN x.coef.num, encN x.coef.den]
def QTerm (x : TermL) (B : Nat) : Prop := ∃ b, QRat x.coef b ∧ b + 2 ≤ B
theorem r_term (m : Nat) : Reads enc Tryd.prog w m 123 cTerm QTerm := by
  refine ((reads_struct (n := m + 2) (tot := 4) Tryd.underlying123 (by kernel_rfl) (readsF_cons rfl (k := 1) (by kernel_rfl) (by decide) (reads_int Tryd.underlying3)
    (readsF_cons rfl (k := 3) (by kernel_rfl) (by decide) (r_rat m) (readsF_nil (by decide))))).le (by omega)).to (fun x => (⟨x.1, x.2.1⟩ : TermL)) (fun _ => rfl) ?_
  rintro ⟨a, c, u⟩ B ⟨b0, ⟨b1, b2, h1, ⟨b3, b4, h3, _, h4⟩, h2⟩, h0⟩
  exact ⟨b3, h3, by have := h1.2; omega⟩
def cAff (x : AffL) : List PV := [.imm (x.terms.map encTerm), .bool x.const.neg, encN x.const.num, encN x.const.den]
def QAff (x : AffL) (B : Nat) : Prop := ∃ b c, QL QTerm x.terms b ∧ QRat x.const c ∧ b + c ≤ B
theorem QTerm.pos (x : TermL) (B : Nat) (h : QTerm x B) : 1 ≤ B := by obtain ⟨b, h1, h3⟩ := h; omega
theorem r_terms (m : Nat) : Reads enc Tryd.prog w m 52 (fun xs : List TermL => [.imm (xs.map encTerm)]) (QL QTerm) :=
  (reads_slice (n := m) (sz := 4) Tryd.underlying52 (by kernel_rfl) (by decide) (fun _ => ⟨rfl, rfl⟩) (r_term m)).le (by omega)
theorem r_aff (m : Nat) : Reads enc Tryd.prog w m 54 cAff QAff := by
  refine ((reads_struct (n := m + 2) (tot := 4) Tryd.underlying54 (by kernel_rfl) (readsF_cons rfl (k := 1) (by kernel_rfl) (by decide) (r_terms (m + 2))
    (readsF_cons rfl (k := 3) (by kernel_rfl) (by decide) (r_rat m) (readsF_nil (by decide))))).le (by omega)).to (fun x => (⟨x.1, x.2.1⟩ : AffL)) (fun _ => rfl) ?_
  rintro ⟨a, c, u⟩ B ⟨b0, ⟨b1, b2, h1, ⟨b3, b4, h3, _, h4⟩, h2⟩, h0⟩
  exact ⟨b1, b3, h1, h3, by omega⟩
theorem QAff.len {x : AffL} {B : Nat} (h : QAff x B) : x.terms.length ≤ B := by
  obtain ⟨b, c, h1, _, h3⟩ := h
  have := QL.len QTerm.pos h1
  omega
end
end Go.PI.Tryd
