/-
  The laws CheckerTree, CheckerUnchanged.
-/
import Derived.Test.YtcinkbieboiffaaGreatCNA
import Derived.Test.YtcinkbieboiffaaGreatCPD
import Derived.Test.YtcinkbieboiffaaGreatRows
import Derived.WalkKit
import Derived.ProofKit
import Derived.OpenShut
import Derived.JoinedCond
import Derived.Test.YtcinkbieboiffaaGreatCPE
import Derived.Test.YtcinkbieboiffaaGreatCSB
import Derived.Test.YtcinkbieboiffaaGreatCTR
set_option linter.unusedVariables false
set_option linter.unusedSimpArgs false
set_option linter.unnecessarySimpa false
namespace Go.PI.Tryz
open Go Go.Proofs Go.PI Go.Proofs.YtcinkbieboiffaaGreat
open Go.ChangeShapes Go.WideShapes Go.ChangeAt Go.RowKit
section
variable {H : Type} {enc : TypeId × Value → H} {w : World}
def QNat (xs : List Int) (B : Nat) : Prop := QL (fun x b => (Lit.int .u32 x).wf = true ∧ 1 ≤ b) xs B
theorem r_nat (n : Nat) : Reads enc Tryz.prog w (n + 1) 30 (fun xs : List Int => [encN xs]) QNat :=
 zCS Tryz.underlying30 (by kernel_rfl) (by decide) (fun _ => ⟨rfl, rfl⟩) (zB6 Tryz.underlying185)
theorem QNat.ok {x : List Int} {B : Nat} (h : QNat x B) : okN x := fun y hy => by
 obtain ⟨b, ⟨h1, _⟩, _⟩ := QL.mem h y hy;have : 0 ≤ y ∧ y ≤ 4294967295 := by simpa [Lit.wf, IntKind.min, IntKind.max, IntKind.signed, IntKind.bits] using h1
 omega
theorem QNat.len {x : List Int} {B : Nat} (h : QNat x B) : x.length < B := QL.len (fun _ _ h => h.2) h
def QRat (x : RatL) (B : Nat) : Prop := ∃ b c, QNat x.num b ∧ QNat x.den c ∧ b + c + 2 ≤ B
def cRat (x : RatL) : List PV := [.bool x.neg, encN x.num, encN x.den]
theorem r_rat (n : Nat) : Reads enc Tryz.prog w (n + 2) 32 cRat QRat := by
 refine (zBG (tot := 3) Tryz.underlying32 (by kernel_rfl) (zAK rfl (k := 1) (by kernel_rfl) (by decide) (zJG Tryz.underlying4)
  (zAK rfl (k := 1) (by kernel_rfl) (by decide) (r_nat n) (zAK rfl (k := 1) (by kernel_rfl) (by decide) (r_nat n) (zBT (by decide)))))).to (fun x => (⟨x.1, x.2.1, x.2.2.1⟩ : RatL)) (fun _ => rfl) ?_
 rintro ⟨a, b, c, u⟩ B ⟨b0, ⟨b1, b2, h1, ⟨b3, b4, h3, ⟨b5, b6, h5, _, h6⟩, h4⟩, h2⟩, h0⟩
 exact ⟨b3, b5, h3, h5, by omega⟩
theorem QRat.ok {x : RatL} {B : Nat} (h : QRat x B) : okQ B x := by
 obtain ⟨b, c, h1, h2, h3⟩ := h;have := h1.len; have := h2.len;exact ⟨⟨h1.ok, h2.ok⟩, by omega, by omega⟩
theorem QRat.pos (x : RatL) (B : Nat) (h : QRat x B) : 1 ≤ B := by obtain ⟨b, c, h1, h2, h3⟩ := h; omega
theorem r_rats (m : Nat) : Reads enc Tryz.prog w m 25 (fun xs : List RatL => [.imm (xs.map encRat)]) (QL QRat) :=
 (zCS (n := m + 2) (sz := 3) Tryz.underlying25 (by kernel_rfl) (by decide) (fun _ => ⟨rfl, rfl⟩) (r_rat m)).le (by omega)
def cTerm (x : TermL) : List PV := [.int .i64 x.var, .bool x.coef.neg, encN x.coef.num, encN x.coef.den]
def QTerm (x : TermL) (B : Nat) : Prop := ∃ b, QRat x.coef b ∧ b + 2 ≤ B
theorem r_term (m : Nat) : Reads enc Tryz.prog w m 136 cTerm QTerm := by
 refine ((zBG (n := m + 2) (tot := 4) Tryz.underlying136 (by kernel_rfl) (zAK rfl (k := 1) (by kernel_rfl) (by decide) (zB6 Tryz.underlying3)
  (zAK rfl (k := 3) (by kernel_rfl) (by decide) (r_rat m) (zBT (by decide))))).le (by omega)).to (fun x => (⟨x.1, x.2.1⟩ : TermL)) (fun _ => rfl) ?_
 rintro ⟨a, c, u⟩ B ⟨b0, ⟨b1, b2, h1, ⟨b3, b4, h3, _, h4⟩, h2⟩, h0⟩
 exact ⟨b3, h3, by have := h1.2; omega⟩
theorem QTerm.pos (x : TermL) (B : Nat) (h : QTerm x B) : 1 ≤ B := by obtain ⟨b, h1, h3⟩ := h; omega
theorem r_terms (m : Nat) : Reads enc Tryz.prog w m 28 (fun xs : List TermL => [.imm (xs.map encTerm)]) (QL QTerm) :=
 (zCS (n := m) (sz := 4) Tryz.underlying28 (by kernel_rfl) (by decide) (fun _ => ⟨rfl, rfl⟩) (r_term m)).le (by omega)
def cAff (x : AffL) : List PV := [.imm (x.terms.map encTerm), .bool x.const.neg, encN x.const.num, encN x.const.den]
def QAff (x : AffL) (B : Nat) : Prop := ∃ b c, QL QTerm x.terms b ∧ QRat x.const c ∧ b + c ≤ B
theorem r_aff (m : Nat) : Reads enc Tryz.prog w m 34 cAff QAff := by
 refine ((zBG (n := m + 2) (tot := 4) Tryz.underlying34 (by kernel_rfl) (zAK rfl (k := 1) (by kernel_rfl) (by decide) (r_terms (m + 2))
  (zAK rfl (k := 3) (by kernel_rfl) (by decide) (r_rat m) (zBT (by decide))))).le (by omega)).to (fun x => (⟨x.1, x.2.1⟩ : AffL)) (fun _ => rfl) ?_
 rintro ⟨a, c, u⟩ B ⟨b0, ⟨b1, b2, h1, ⟨b3, b4, h3, _, h4⟩, h2⟩, h0⟩
 exact ⟨b1, b3, h1, h3, by omega⟩
theorem QAff.ok {x : AffL} {B : Nat} (h : QAff x B) (hB : B ≤ 1048576) : okA 1048576 x := by
 obtain ⟨b, c, h1, h2, h3⟩ := h;refine ⟨zBU (by omega) h2.ok, fun t ht => ?_, by have := QL.len QTerm.pos h1; omega⟩;obtain ⟨d, ⟨e, h4, h5⟩, h6⟩ := h1.mem t ht;exact zBU (by omega) h4.ok
theorem QAff.pos (x : AffL) (B : Nat) (h : QAff x B) : 1 ≤ B := by
 obtain ⟨b, c, _, ⟨d, e, _, _, h4⟩, h3⟩ := h; omega
theorem r_rows (m : Nat) : Reads enc Tryz.prog w m 22 (fun xs : List AffL => [.imm (xs.map encAff)]) (QL QAff) :=
 (zCS (n := m) (sz := 4) Tryz.underlying22 (by kernel_rfl) (by decide) (fun _ => ⟨rfl, rfl⟩) (r_aff m)).le (by omega)
theorem QInt.pos {k : IntKind} (x : Int) (B : Nat) (h : (Lit.int k x).wf = true ∧ 1 ≤ B) : 1 ≤ B := h.2
theorem r_bytes (m : Nat) : Reads enc Tryz.prog w m 44 (fun xs : List Int => [.imm (xs.map (.int .u8))]) (QL (fun x b => (Lit.int .u8 x).wf = true ∧ 1 ≤ b)) :=
 (zCS (n := m) (sz := 1) Tryz.underlying44 (by kernel_rfl) (by decide) (fun _ => ⟨rfl, rfl⟩) (zB6 Tryz.underlying5)).le (by omega)
theorem okBy_of {xs : List Int} {B : Nat} (h : QL (fun x b => (Lit.int .u8 x).wf = true ∧ 1 ≤ b) xs B) (hB : B ≤ 1048576) : okBy xs := by
 refine ⟨by have := QL.len QInt.pos h; omega, fun x hx => ?_⟩;obtain ⟨b, ⟨h1, _⟩, _⟩ := h.mem x hx;have : 0 ≤ x ∧ x ≤ 255 := by simpa [Lit.wf, IntKind.min, IntKind.max, IntKind.signed, IntKind.bits] using h1
 omega
end
theorem own : ownKnob Tryz.prog.godebug = none := by kernel_rfl
theorem laidOut : laidOutB Tryz.prog = true := by kernel_rfl
theorem gok {W : World} : Gok G0 W (AllB W) := fun g e hg => by simp [G0] at hg
mutual
theorem bulk_eq {H : Type} : ∀ d : DataW H, Rows.uptoBulk d = bulk d
 | .lit l => by cases l <;> rfl
 | .nil => rfl
 | .ptr d => by simp only [Rows.uptoBulk, bulk, bulk_eq d]
 | .slice elems spare => by simp only [Rows.uptoBulk, bulk, zEW elems, zEW spare]
 | .agg parts => by simp only [Rows.uptoBulk, bulk, zEW parts]
 | .iface _ d => by simp only [Rows.uptoBulk, bulk, bulk_eq d]
 | .map entries => by simp only [Rows.uptoBulk, bulk, zHU entries]
 | .held _ => rfl
theorem zEW {H : Type} : ∀ d : List (DataW H), Rows.uptoBulkAll d = bulkAll d
 | [] => rfl
 | d :: r => by simp only [Rows.uptoBulkAll, bulkAll, bulk_eq d, zEW r]
theorem zHU {H : Type} : ∀ d : List (Lit × DataW H), Rows.uptoBulkEntries d = bulkEntries d
 | [] => rfl
 | x :: r => by simp only [Rows.uptoBulkEntries, bulkEntries, bulkEntry_eq x, zHU r]
theorem bulkEntry_eq {H : Type} : ∀ d : Lit × DataW H, Rows.uptoBulkEntry d = bulkEntry d
 | (l, d) => by cases l <;> simp only [Rows.uptoBulkEntry, bulkEntry, bulk_eq d]
end
end Go.PI.Tryz
namespace Go.PI.Tryz
open Go Go.Proofs Go.PI Go.Proofs.YtcinkbieboiffaaGreat
open Go.ChangeShapes Go.WideShapes Go.ChangeAt Go.RowKit
section
variable {H : Type} {enc : TypeId × Value → H} {w : World}
def cReg (x : RegL) : List PV := [.imm (x.lo.map encRat), .imm (x.hi.map encRat), .imm (x.rows.map encAff)]
def QReg (x : RegL) (B : Nat) : Prop := ∃ a b c, QL QRat x.lo a ∧ QL QRat x.hi b ∧ QL QAff x.rows c ∧ a + b + c ≤ B
theorem r_reg (m : Nat) : Reads enc Tryz.prog w m 27 cReg QReg := by
 refine ((zBG (n := m) (tot := 3) Tryz.underlying27 (by kernel_rfl) (zAK rfl (k := 1) (by kernel_rfl) (by decide) (r_rats m)
  (zAK rfl (k := 1) (by kernel_rfl) (by decide) (r_rats m) (zAK rfl (k := 1) (by kernel_rfl) (by decide) (r_rows m) (zBT (by decide)))))).le (by omega)).to (fun x => (⟨x.1, x.2.1, x.2.2.1⟩ : RegL)) (fun _ => rfl) ?_
 rintro ⟨a, b, c, u⟩ B ⟨b0, ⟨b1, b2, h1, ⟨b3, b4, h3, ⟨b5, b6, h5, _, h6⟩, h4⟩, h2⟩, h0⟩
 exact ⟨b1, b3, b5, h1, h3, h5, by omega⟩
def cGra (x : GraL) : List PV := [.int .i64 x.ins, .imm (x.units.map encAff), .imm (x.outs.map encAff)]
def QGra (x : GraL) (B : Nat) : Prop := ∃ b c, QL QAff x.units b ∧ QL QAff x.outs c ∧ b + c ≤ B
theorem r_gra (m : Nat) : Reads enc Tryz.prog w m 24 cGra QGra := by
 refine ((zBG (n := m) (tot := 3) Tryz.underlying24 (by kernel_rfl) (zAK rfl (k := 1) (by kernel_rfl) (by decide) (zB6 Tryz.underlying3)
  (zAK rfl (k := 1) (by kernel_rfl) (by decide) (r_rows m) (zAK rfl (k := 1) (by kernel_rfl) (by decide) (r_rows m) (zBT (by decide)))))).le (by omega)).to (fun x => (⟨x.1, x.2.1, x.2.2.1⟩ : GraL)) (fun _ => rfl) ?_
 rintro ⟨a, b, c, u⟩ B ⟨b0, ⟨b1, b2, h1, ⟨b3, b4, h3, ⟨b5, b6, h5, _, h6⟩, h4⟩, h2⟩, h0⟩
 exact ⟨b3, b5, h3, h5, by omega⟩
theorem QRat.ln {x : RatL} {B : Nat} (h : QRat x B) : lnQ x + 3 ≤ B ∧ okR x := by
 obtain ⟨b, c, h1, h2, h3⟩ := h;have := h1.len; have := h2.len;exact ⟨by unfold lnQ; omega, h1.ok, h2.ok⟩
theorem lsL_of {xs : List RatL} {B : Nat} (h : QL QRat xs B) : lsL xs + 3 * xs.length < B := by
 have := QL.sum (f := fun x => lnQ x + 3) (fun _ _ h => h.ln.1) h
 have e : (xs.map fun x => lnQ x + 3).sum = lsL xs + 3 * xs.length := by
  have g : ∀ l : List RatL, (l.map fun _ => 3).sum = 3 * l.length := fun l => by
   induction l with
   | nil => rfl
   | cons a l ih => rw [List.map_cons, List.sum_cons, ih, List.length_cons]; omega
  rw [zK9 lnQ (fun _ => 3), g]; rfl
 omega
theorem QTerm.ln {x : TermL} {B : Nat} (h : QTerm x B) : lnQ x.coef + 1 ≤ B := by
 obtain ⟨b, h1, h3⟩ := h;have := h1.ln; omega
theorem QAff.ln {x : AffL} {B : Nat} (h : QAff x B) : lnA x ≤ B := by
 obtain ⟨b, c, h1, h2, h3⟩ := h;have := QL.sum (f := fun t : TermL => lnQ t.coef + 1) (fun _ _ h => h.ln) h1;have := h2.ln;unfold lnA tL; omega
theorem gL_of {xs : List AffL} {B : Nat} (h : QL QAff xs B) : gL xs < B := QL.sum (f := lnA) (fun _ _ h => h.ln) h
theorem okA_of {x : AffL} {B : Nat} (h : QAff x B) (hB : B ≤ 1048576) : okA B x := by
 obtain ⟨b, c, h1, h2, h3⟩ := h;refine ⟨zBU (by omega) h2.ok, fun t ht => ?_, by have := QL.len QTerm.pos h1; omega⟩;obtain ⟨d, ⟨e, h4, h5⟩, h6⟩ := h1.mem t ht;exact zBU (by omega) h4.ok
theorem zKO {xs : List AffL} {B : Nat} (h : QL QAff xs B) (hB : B ≤ 1048576) : okFs B xs := by
 refine ⟨by have := QL.len QAff.pos h; omega, fun f hf => ?_⟩;obtain ⟨d, h5, h6⟩ := h.mem f hf;exact zBE h6 (okA_of h5 (by omega))
theorem okLs_of' {xs : List RatL} {B : Nat} (h : QL QRat xs B) (hB : B ≤ 1048576) : okLs B xs := by
 refine ⟨by have := QL.len QRat.pos h; omega, fun x hx => ?_⟩;obtain ⟨b, h1, h2⟩ := h.mem x hx;exact zBU h2 h1.ok
def QQry (q : QryL) (B : Nat) : Prop := ∃ a b c, QGra q.g a ∧ QReg q.r b ∧ QAff q.goal c ∧ a + b + c ≤ B
def cDec (x : DecL) : List PV := [.int .i64 x.kind, .int .i64 x.index, .bool x.rat.neg, encN x.rat.num, encN x.rat.den]
def QDec (x : DecL) (B : Nat) : Prop := ∃ b, QRat x.rat b ∧ b + 3 ≤ B
theorem r_dec (m : Nat) : Reads enc Tryz.prog w m 39 cDec QDec := by
 refine ((zBG (n := m + 2) (tot := 5) Tryz.underlying39 (by kernel_rfl) (zAK rfl (k := 1) (by kernel_rfl) (by decide) (zB6 Tryz.underlying3)
  (zAK rfl (k := 1) (by kernel_rfl) (by decide) (zB6 Tryz.underlying3) (zAK rfl (k := 3) (by kernel_rfl) (by decide) (r_rat m) (zBT (by decide)))))).le (by omega)).to (fun x => (⟨x.1, x.2.1, x.2.2.1⟩ : DecL)) (fun _ => rfl) ?_
 rintro ⟨a, b, c, u⟩ B ⟨b0, ⟨b1, b2, h1, ⟨b3, b4, h3, ⟨b5, b6, h5, _, h6⟩, h4⟩, h2⟩, h0⟩
 exact ⟨b5, h5, by have := h1.2; have := h3.2; omega⟩
def cRow (x : RowL) : List PV := [.int .i64 x.kind, .int .i64 x.index, .int .i64 x.lo, .int .i64 x.hi]
theorem r_row (m : Nat) : Reads enc Tryz.prog w m 103 cRow (fun _ B => 1 ≤ B) := by
 refine ((zBG (n := m) (tot := 4) Tryz.underlying103 (by kernel_rfl) (zAK rfl (k := 1) (by kernel_rfl) (by decide) (zB6 Tryz.underlying3)
  (zAK rfl (k := 1) (by kernel_rfl) (by decide) (zB6 Tryz.underlying3) (zAK rfl (k := 1) (by kernel_rfl) (by decide) (zB6 Tryz.underlying3)
  (zAK rfl (k := 1) (by kernel_rfl) (by decide) (zB6 Tryz.underlying3) (zBT (by decide))))))).le (by omega)).to (fun x => (⟨x.1, x.2.1, x.2.2.1, x.2.2.2.1⟩ : RowL)) (fun _ => rfl) ?_
 rintro x B ⟨b0, _, h0⟩
 omega
def QMult (x : MultL) (B : Nat) : Prop := ∃ b, QRat x.coef b ∧ b + 2 ≤ B
def cMult (x : MultL) : List PV := [.int .i64 x.row.kind, .int .i64 x.row.index, .int .i64 x.row.lo, .int .i64 x.row.hi, .bool x.coef.neg, encN x.coef.num, encN x.coef.den]
theorem r_mult (m : Nat) : Reads enc Tryz.prog w m 105 cMult QMult := by
 refine ((zBG (n := m + 2) (tot := 7) Tryz.underlying105 (by kernel_rfl) (zAK rfl (k := 4) (by kernel_rfl) (by decide) (r_row _)
  (zAK rfl (k := 3) (by kernel_rfl) (by decide) (r_rat m) (zBT (by decide))))).le (by omega)).to (fun x => (⟨x.1, x.2.1⟩ : MultL)) (fun _ => rfl) ?_
 rintro ⟨a, c, u⟩ B ⟨b0, ⟨b1, b2, h1, ⟨b3, b4, h3, _, h4⟩, h2⟩, h0⟩
 exact ⟨b3, h3, by omega⟩
theorem QMult.pos (x : MultL) (B : Nat) (h : QMult x B) : 1 ≤ B := by obtain ⟨b, h1, h3⟩ := h; omega
theorem QMult.ln (x : MultL) (B : Nat) (h : QMult x B) : lQ x.coef + 1 ≤ B := by
 obtain ⟨b, h1, h3⟩ := h;have := h1.ln.1;unfold lnQ at this; unfold lQ; omega
theorem r_mults (m : Nat) : Reads enc Tryz.prog w m 41 (fun xs : List MultL => [.imm (xs.map encMult)]) (QL QMult) :=
 (zCS (n := m) (sz := 7) Tryz.underlying41 (by kernel_rfl) (by decide) (fun _ => ⟨rfl, rfl⟩) (r_mult m)).le (by omega)
theorem rat_sm {x : RatL} {B : Nat} (h : QRat x B) (hB : B ≤ 1048576) : x.sm := by
 have := h.ok.2.1; have := h.ok.2.2;exact ⟨by omega, by omega⟩
theorem zM4 {xs : List MultL} {B : Nat} (h : QL QMult xs B) (hB : B ≤ 1048576) : smMults xs := by
 refine ⟨by have := QL.len QMult.pos h; omega, fun d hd => ?_⟩;obtain ⟨b, ⟨c, h1, h3⟩, h2⟩ := h.mem d hd;exact rat_sm h1 (by omega)
theorem okMs_of {xs : List MultL} {B : Nat} (h : QL QMult xs B) : ∀ p ∈ xs, okR p.coef := fun p hp => by
 obtain ⟨b, ⟨c, h1, h3⟩, h2⟩ := h.mem p hp;exact h1.ln.2
def QLem (x : LemL) (B : Nat) : Prop := ∃ b c, QRat x.value b ∧ QL QMult x.proof c ∧ b + c + 3 ≤ B
def cLem (l : LemL) : List PV := [.int .i64 l.unit, .bool l.upper, .bool l.value.neg, encN l.value.num, encN l.value.den, .imm (l.proof.map encMult)]
theorem r_lem (m : Nat) : Reads enc Tryz.prog w m 80 cLem QLem := by
 refine ((zBG (n := m + 2) (tot := 6) Tryz.underlying80 (by kernel_rfl) (zAK rfl (k := 1) (by kernel_rfl) (by decide) (zB6 Tryz.underlying3)
  (zAK rfl (k := 1) (by kernel_rfl) (by decide) (zJG Tryz.underlying4) (zAK rfl (k := 3) (by kernel_rfl) (by decide) (r_rat m)
  (zAK rfl (k := 1) (by kernel_rfl) (by decide) (r_mults _) (zBT (by decide))))))).le (by omega)).to (fun x => (⟨x.1, x.2.1, x.2.2.1, x.2.2.2.1⟩ : LemL)) (fun _ => rfl) ?_
 rintro ⟨a, b, c, d, u⟩ B ⟨b0, ⟨b1, b2, h1, ⟨b3, b4, h3, ⟨b5, b6, h5, ⟨b7, b8, h7, _, h8⟩, h6⟩, h4⟩, h2⟩, h0⟩
 exact ⟨b5, b7, h5, h7, by have := h1.2; omega⟩
theorem QLem.pos (x : LemL) (B : Nat) (h : QLem x B) : 1 ≤ B := by obtain ⟨b, c, h1, h2, h3⟩ := h; omega
theorem QLem.ln (x : LemL) (B : Nat) (h : QLem x B) : lQ x.value + sC x.proof ≤ B := by
 obtain ⟨b, c, h1, h2, h3⟩ := h;have := h1.ln.1;have h4 := QL.sum (f := fun p : MultL => lQ p.coef + 1) QMult.ln h2;unfold lnQ at this; unfold lQ sC; omega
theorem r_lems (m : Nat) : Reads enc Tryz.prog w m 37 (fun xs : List LemL => [.imm (xs.map encLem)]) (QL QLem) :=
 (zCS (n := m) (sz := 6) Tryz.underlying37 (by kernel_rfl) (by decide) (fun _ => ⟨rfl, rfl⟩) (r_lem m)).le (by omega)
theorem smLems_of {xs : List LemL} {B : Nat} (h : QL QLem xs B) (hB : B ≤ 1048576) : smLems xs := by
 refine ⟨by have := QL.len QLem.pos h; omega, fun d hd => ?_⟩;obtain ⟨b, ⟨c, e, h1, h3, h4⟩, h2⟩ := h.mem d hd;exact ⟨rat_sm h1 (by omega), zM4 h3 (by omega)⟩
theorem lemWt_of (x : LemL) (B : Nat) (h : QLem x B) : lemWt x ≤ B := by
 obtain ⟨c, e, h1, h3, h4⟩ := h;have := QL.len QMult.pos h3;unfold lemWt;omega
def QNode (x : NodeL) (B : Nat) : Prop := (x.wt ≤ B ∧ x.bk ≤ B) ∧ x.NOk ∧ (B ≤ 1048576 → x.Sm)
def cNode (n : NodeL) : List PV := [.imm (n.lemmas.map encLem), .int .i64 n.split.kind, .int .i64 n.split.index, .bool n.split.rat.neg, encN n.split.rat.num, encN n.split.rat.den, .imm (n.kids.map encNode), .bool n.empty, .imm (n.proof.map encMult)]
theorem QNode.pos (x : NodeL) (B : Nat) (h : QNode x B) : 1 ≤ B := by have := x.wt_eq; have := h.1.1; omega
theorem zM7 {α : Type} {t : TypeId} {e : α → List PV} {Q : α → Nat → Prop} : Reads enc Tryz.prog w 0 t e Q := by
 intro fuel hf cs d ps h;obtain rfl : fuel = 0 := by omega
 simp [DataW.trod] at h
theorem r_node_step {n : Nat} (hk : Reads enc Tryz.prog w n 40 (fun xs : List NodeL => [.imm (xs.map encNode)]) (QL QNode)) : Reads enc Tryz.prog w (n + 1) 43 cNode QNode := by
 refine ((zBG (n := n) (tot := 9) Tryz.underlying43 (by kernel_rfl) (zAK rfl (k := 1) (by kernel_rfl) (by decide) (r_lems _)
  (zAK rfl (k := 5) (by kernel_rfl) (by decide) (r_dec _) (zAK rfl (k := 1) (by kernel_rfl) (by decide) hk
  (zAK rfl (k := 1) (by kernel_rfl) (by decide) (zJG Tryz.underlying4) (zAK rfl (k := 1) (by kernel_rfl) (by decide) (r_mults _) (zBT (by decide))))))))).to (fun x => NodeL.mk x.1 x.2.1 x.2.2.1 x.2.2.2.1 x.2.2.2.2.1) (fun _ => rfl) ?_
 rintro ⟨a, b, c, d, e, u⟩ B ⟨b0, ⟨b1, b2, h1, ⟨b3, b4, h3, ⟨b5, b6, h5, ⟨b7, b8, h7, ⟨b9, b10, h9, _, h10⟩, h8⟩, h6⟩, h4⟩, h2⟩, h0⟩
 refine ⟨⟨?_, ?_⟩, ?_, fun hB => ?_⟩
 ·rw [NodeL.wt_eq]
  have g1 := QL.sum lemWt_of h1;have g2 := QL.len QMult.pos h9;have g3 := QL.sum (f := NodeL.wt) (fun _ _ h => h.1.1) h5;simp only [NodeL.lemmas, NodeL.proof, NodeL.kids] at *
  omega
 ·unfold NodeL.bk
  rw [NodeL.tot_eq];have g1 := QL.sum (f := fun m : LemL => lQ m.value + sC m.proof) QLem.ln h1;rw [zK9 (fun m : LemL => lQ m.value) (fun m => sC m.proof)] at g1;have g2 := QL.sum (f := fun p : MultL => lQ p.coef + 1) QMult.ln h9;have g3 := QL.sum (f := NodeL.bk) (fun _ _ h => h.1.2) h5;obtain ⟨f, h11, h12⟩ := h3;have g4 := h11.ln.1;have g5 : (c.map (NodeL.tot fun x => spF x + vlF x + coF x)).sum < b5 := g3;unfold lnQ at g4;simp only [spF, vlF, coF, vL, sC, lQ, NodeL.lemmas, NodeL.proof, NodeL.kids, NodeL.split] at *
  omega
 ·refine .mk _ (fun m hm => ?_) ?_ (okMs_of h9) (fun k hk => ?_)
  ·obtain ⟨q, ⟨f, g, h11, h12, h13⟩, _⟩ := h1.mem m hm
   exact ⟨h11.ln.2, okMs_of h12⟩
  ·obtain ⟨f, h11, _⟩ := h3
   exact h11.ln.2
  ·obtain ⟨q, h11, h12⟩ := h5.mem k hk
   exact h11.2.1
 ·refine .mk _ (smLems_of h1 (by omega)) (by obtain ⟨f, h11, h12⟩ := h3; exact rat_sm h11 (by omega)) (by have : c.length < b5 := QL.len QNode.pos h5; simp only [NodeL.kids]; omega) (fun k hk => ?_) (zM4 h9 (by omega))
  obtain ⟨q, h11, h12⟩ := h5.mem k hk;exact h11.2.2 (by omega)
theorem r_kids_step {n : Nat} (hk : Reads enc Tryz.prog w n 43 cNode QNode) : Reads enc Tryz.prog w (n + 1) 40 (fun xs : List NodeL => [.imm (xs.map encNode)]) (QL QNode) :=
 zCS (sz := 9) Tryz.underlying40 (by kernel_rfl) (by decide) (fun x => ⟨by rw [zE9]; rfl, rfl⟩) hk
theorem r_nodes (n : Nat) : Reads enc Tryz.prog w n 43 cNode QNode ∧ Reads enc Tryz.prog w n 40 (fun xs : List NodeL => [.imm (xs.map encNode)]) (QL QNode) := by
 induction n with
 | zero => exact ⟨zM7, zM7⟩
 | succ n ih => exact ⟨r_node_step ih.2, r_kids_step ih.1⟩
end
end Go.PI.Tryz
namespace Go.PI.Tryz
open Go.Proofs Go.PI
end Go.PI.Tryz
