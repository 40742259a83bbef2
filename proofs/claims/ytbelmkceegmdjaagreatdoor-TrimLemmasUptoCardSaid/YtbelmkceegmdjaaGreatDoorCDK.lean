/-
  What is read at the types of queries, trees, cases.
-/
import Derived.Test.YtbelmkceegmdjaaGreatDoorCDJ
import Derived.Test.YtbelmkceegmdjaaGreatDoorCTM
import Derived.Test.YtbelmkceegmdjaaGreatDoorCSB
import Derived.Test.YtbelmkceegmdjaaGreatDoorCPE
set_option linter.unusedVariables false
set_option linter.unusedSimpArgs false
set_option linter.unnecessarySimpa false
namespace Go.PI.Tryz
open Go Go.Proofs Go.PI Go.Proofs.YtbelmkceegmdjaaGreatDoor
open Go.ChangeShapes Go.WideShapes Go.ChangeAt Go.RowKit
section
variable {H : Type} {enc : TypeId × Value → H} {w : World}
def QReg (x : RegL) (B : Nat) : Prop := ∃ a b c, QL QRat x.lo a ∧ QL QRat x.hi b ∧ QL QAff x.rows c ∧ a + b + c ≤ B
def QGra (x : GraL) (B : Nat) : Prop := ∃ b c, QL QAff x.units b ∧ QL QAff x.outs c ∧ b + c ≤ B
theorem QRat.ln {x : RatL} {B : Nat} (h : QRat x B) : lnQ x + 3 ≤ B ∧ okR x := by
 obtain ⟨b, c, h1, h2, h3⟩ := h;have := h1.len; have := h2.len;exact ⟨by unfold lnQ; omega, h1.ok, h2.ok⟩
theorem QTerm.ln {x : TermL} {B : Nat} (h : QTerm x B) : lnQ x.coef + 1 ≤ B := by
 obtain ⟨b, h1, h3⟩ := h;have := h1.ln; omega
theorem QAff.ln {x : AffL} {B : Nat} (h : QAff x B) : lnA x ≤ B := by
 obtain ⟨b, c, h1, h2, h3⟩ := h;have := QL.sum (f := fun t : TermL => lnQ t.coef + 1) (fun _ _ h => h.ln) h1;have := h2.ln;unfold lnA tL; omega
theorem uGF {x : AffL} {B : Nat} (h : QAff x B) (hB : B ≤ 1048576) : okA B x := by
 obtain ⟨b, c, h1, h2, h3⟩ := h;refine ⟨zDS (by omega) h2.ok, fun t ht => ?_, by have := QL.len QTerm.pos h1; omega⟩;obtain ⟨d, ⟨e, h4, h5⟩, h6⟩ := h1.mem t ht;exact zDS (by omega) h4.ok
theorem vGP {xs : List AffL} {B : Nat} (h : QL QAff xs B) (hB : B ≤ 1048576) : uEO B xs := by
 refine ⟨by have := QL.len QAff.pos h; omega, fun f hf => ?_⟩;obtain ⟨d, h5, h6⟩ := h.mem f hf;exact zEF h6 (uGF h5 (by omega))
theorem vNB {xs : List RatL} {B : Nat} (h : QL QRat xs B) (hB : B ≤ 1048576) : vV1 B xs := by
 refine ⟨by have := QL.len QRat.pos h; omega, fun x hx => ?_⟩;obtain ⟨b, h1, h2⟩ := h.mem x hx;exact zDS h2 h1.ok
def uKL (x : DecL) : List PV := [.int .i64 x.kind, .int .i64 x.index, .bool x.rat.neg, vBK x.rat.num, vBK x.rat.den]
def uKR (x : DecL) (B : Nat) : Prop := ∃ b, QRat x.rat b ∧ b + 3 ≤ B
theorem uIZ (m : Nat) : Reads enc Tryz.prog w m 28 uKL uKR := by
 refine ((zCU (n := m + 2) (tot := 5) Tryz.underlying28 (by kernel_rfl) (zAZ rfl (k := 1) (by kernel_rfl) (by decide) (zDN Tryz.underlying3)
  (zAZ rfl (k := 1) (by kernel_rfl) (by decide) (zDN Tryz.underlying3) (zAZ rfl (k := 3) (by kernel_rfl) (by decide) (uBT m) (zEC (by decide)))))).le (by omega)).to (fun x => (⟨x.1, x.2.1, x.2.2.1⟩ : DecL)) (fun _ => rfl) ?_
 rintro ⟨a, b, c, u⟩ B ⟨b0, ⟨b1, b2, h1, ⟨b3, b4, h3, ⟨b5, b6, h5, _, h6⟩, h4⟩, h2⟩, h0⟩
 exact ⟨b5, h5, by have := h1.2; have := h3.2; omega⟩
def uKI (x : RowL) : List PV := [.int .i64 x.kind, .int .i64 x.index, .int .i64 x.lo, .int .i64 x.hi]
theorem vUA {x : Int} (h : (Lit.int .i64 x).wf = true) : -9223372036854775808 ≤ x ∧ x < 9223372036854775808 := by
 have : -9223372036854775808 ≤ x ∧ x ≤ 9223372036854775807 := by simpa [Lit.wf, IntKind.min, IntKind.max, IntKind.signed, IntKind.bits] using h
 omega
theorem uIX (m : Nat) : Reads enc Tryz.prog w m 70 uKI (fun x B => (vKS x ∧ vPZ x) ∧ 1 ≤ B) := by
 refine ((zCU (n := m) (tot := 4) Tryz.underlying70 (by kernel_rfl) (zAZ rfl (k := 1) (by kernel_rfl) (by decide) (zDN Tryz.underlying3)
  (zAZ rfl (k := 1) (by kernel_rfl) (by decide) (zDN Tryz.underlying3) (zAZ rfl (k := 1) (by kernel_rfl) (by decide) (zDN Tryz.underlying3)
  (zAZ rfl (k := 1) (by kernel_rfl) (by decide) (zDN Tryz.underlying3) (zEC (by decide))))))).le (by omega)).to (fun x => (⟨x.1, x.2.1, x.2.2.1, x.2.2.2.1⟩ : RowL)) (fun _ => rfl) ?_
 rintro ⟨k, i, l, h, u⟩ B ⟨b0, ⟨b1, b2, h1, ⟨b3, b4, h3, ⟨b5, b6, h5, ⟨b7, b8, h7, _, h8⟩, h6⟩, h4⟩, h2⟩, h0⟩
 exact ⟨⟨⟨vUA h5.1, vUA h7.1⟩, vUA h3.1⟩, by omega⟩
def QMult (x : MultL) (B : Nat) : Prop := (vKS x.row ∧ vPZ x.row) ∧ ∃ b, QRat x.coef b ∧ b + 2 ≤ B
def uJQ (x : MultL) : List PV := [.int .i64 x.row.kind, .int .i64 x.row.index, .int .i64 x.row.lo, .int .i64 x.row.hi, .bool x.coef.neg, vBK x.coef.num, vBK x.coef.den]
theorem uFR (m : Nat) : Reads enc Tryz.prog w m 72 uJQ QMult := by
 refine ((zCU (n := m + 2) (tot := 7) Tryz.underlying72 (by kernel_rfl) (zAZ rfl (k := 4) (by kernel_rfl) (by decide) (uIX _)
  (zAZ rfl (k := 3) (by kernel_rfl) (by decide) (uBT m) (zEC (by decide))))).le (by omega)).to (fun x => (⟨x.1, x.2.1⟩ : MultL)) (fun _ => rfl) ?_
 rintro ⟨a, c, u⟩ B ⟨b0, ⟨b1, b2, h1, ⟨b3, b4, h3, _, h4⟩, h2⟩, h0⟩
 exact ⟨h1.1, b3, h3, by have := h1.2; omega⟩
theorem QMult.pos (x : MultL) (B : Nat) (h : QMult x B) : 1 ≤ B := by obtain ⟨_, b, h1, h3⟩ := h; omega
theorem QMult.ln (x : MultL) (B : Nat) (h : QMult x B) : lQ x.coef + 1 ≤ B := by
 obtain ⟨_, b, h1, h3⟩ := h;have := h1.ln.1;unfold lnQ at this; unfold lQ; omega
theorem vSE (m : Nat) : Reads enc Tryz.prog w m 30 (fun xs : List MultL => [.imm (xs.map vBA)]) (QL QMult) :=
 (zFM (n := m) (sz := 7) Tryz.underlying30 (by kernel_rfl) (by decide) (fun _ => ⟨rfl, rfl⟩) (uFR m)).le (by omega)
theorem vSD {x : RatL} {B : Nat} (h : QRat x B) (hB : B ≤ 1048576) : x.sm := by
 have := h.ok.2.1; have := h.ok.2.2;exact ⟨by omega, by omega⟩
theorem zMT {xs : List MultL} {B : Nat} (h : QL QMult xs B) (hB : B ≤ 1048576) : vCH xs := by
 refine ⟨by have := QL.len QMult.pos h; omega, fun d hd => ?_⟩;obtain ⟨b, ⟨_, c, h1, h3⟩, h2⟩ := h.mem d hd;exact vSD h1 (by omega)
theorem vIJ {xs : List MultL} {B : Nat} (h : QL QMult xs B) (hB : B ≤ 1048576) : vCG xs := by
 refine ⟨by have := QL.len QMult.pos h; omega, fun d hd => ?_⟩;obtain ⟨b, ⟨g, _⟩, _⟩ := h.mem d hd;exact g
theorem vTM {xs : List MultL} {B : Nat} (h : QL QMult xs B) : ∀ p ∈ xs, okR p.coef := fun p hp => by
 obtain ⟨b, ⟨_, c, h1, h3⟩, h2⟩ := h.mem p hp;exact h1.ln.2
def QLem (x : LemL) (B : Nat) : Prop := ∃ b c, QRat x.value b ∧ QL QMult x.proof c ∧ b + c + 3 ≤ B
def uKK (l : LemL) : List PV := [.int .i64 l.unit, .bool l.upper, .bool l.value.neg, vBK l.value.num, vBK l.value.den, .imm (l.proof.map vBA)]
theorem uIY (m : Nat) : Reads enc Tryz.prog w m 65 uKK QLem := by
 refine ((zCU (n := m + 2) (tot := 6) Tryz.underlying65 (by kernel_rfl) (zAZ rfl (k := 1) (by kernel_rfl) (by decide) (zDN Tryz.underlying3)
  (zAZ rfl (k := 1) (by kernel_rfl) (by decide) (zJL Tryz.underlying4) (zAZ rfl (k := 3) (by kernel_rfl) (by decide) (uBT m)
  (zAZ rfl (k := 1) (by kernel_rfl) (by decide) (vSE _) (zEC (by decide))))))).le (by omega)).to (fun x => (⟨x.1, x.2.1, x.2.2.1, x.2.2.2.1⟩ : LemL)) (fun _ => rfl) ?_
 rintro ⟨a, b, c, d, u⟩ B ⟨b0, ⟨b1, b2, h1, ⟨b3, b4, h3, ⟨b5, b6, h5, ⟨b7, b8, h7, _, h8⟩, h6⟩, h4⟩, h2⟩, h0⟩
 exact ⟨b5, b7, h5, h7, by have := h1.2; omega⟩
theorem QLem.pos (x : LemL) (B : Nat) (h : QLem x B) : 1 ≤ B := by obtain ⟨b, c, h1, h2, h3⟩ := h; omega
theorem QLem.ln (x : LemL) (B : Nat) (h : QLem x B) : lQ x.value + sC x.proof ≤ B := by
 obtain ⟨b, c, h1, h2, h3⟩ := h;have := h1.ln.1;have h4 := QL.sum (f := fun p : MultL => lQ p.coef + 1) QMult.ln h2;unfold lnQ at this; unfold lQ sC; omega
theorem uFS (m : Nat) : Reads enc Tryz.prog w m 22 (fun xs : List LemL => [.imm (xs.map vBB)]) (QL QLem) :=
 (zFM (n := m) (sz := 6) Tryz.underlying22 (by kernel_rfl) (by decide) (fun _ => ⟨rfl, rfl⟩) (uIY m)).le (by omega)
theorem vRO {xs : List LemL} {B : Nat} (h : QL QLem xs B) (hB : B ≤ 1048576) : vMM xs := by
 refine ⟨by have := QL.len QLem.pos h; omega, fun d hd => ?_⟩;obtain ⟨b, ⟨c, e, h1, h3, h4⟩, h2⟩ := h.mem d hd;exact ⟨vSD h1 (by omega), zMT h3 (by omega)⟩
theorem vYB (x : LemL) (B : Nat) (h : QLem x B) : vDI x ≤ B := by
 obtain ⟨c, e, h1, h3, h4⟩ := h;have := QL.len QMult.pos h3;unfold vDI;omega
def QNode (x : NodeL) (B : Nat) : Prop := (x.wt ≤ B ∧ x.bk ≤ B) ∧ x.NOk ∧ (B ≤ 1048576 → x.Sm ∧ NodeRg x)
def vZJ (n : NodeL) : List PV := [.imm (n.lemmas.map vBB), .int .i64 n.split.kind, .int .i64 n.split.index, .bool n.split.rat.neg, vBK n.split.rat.num, vBK n.split.rat.den, .imm (n.kids.map vBD), .bool n.empty, .imm (n.proof.map vBA)]
theorem QNode.pos (x : NodeL) (B : Nat) (h : QNode x B) : 1 ≤ B := by have := x.wt_eq; have := h.1.1; omega
theorem zMW {α : Type} {t : TypeId} {e : α → List PV} {Q : α → Nat → Prop} : Reads enc Tryz.prog w 0 t e Q := by
 intro fuel hf cs d ps h;obtain rfl : fuel = 0 := by omega
 simp [DataW.trod] at h
theorem vK0 {n : Nat} (hk : Reads enc Tryz.prog w n 29 (fun xs : List NodeL => [.imm (xs.map vBD)]) (QL QNode)) : Reads enc Tryz.prog w (n + 1) 32 vZJ QNode := by
 refine ((zCU (n := n) (tot := 9) Tryz.underlying32 (by kernel_rfl) (zAZ rfl (k := 1) (by kernel_rfl) (by decide) (uFS _)
  (zAZ rfl (k := 5) (by kernel_rfl) (by decide) (uIZ _) (zAZ rfl (k := 1) (by kernel_rfl) (by decide) hk
  (zAZ rfl (k := 1) (by kernel_rfl) (by decide) (zJL Tryz.underlying4) (zAZ rfl (k := 1) (by kernel_rfl) (by decide) (vSE _) (zEC (by decide))))))))).to (fun x => NodeL.mk x.1 x.2.1 x.2.2.1 x.2.2.2.1 x.2.2.2.2.1) (fun _ => rfl) ?_
 rintro ⟨a, b, c, d, e, u⟩ B ⟨b0, ⟨b1, b2, h1, ⟨b3, b4, h3, ⟨b5, b6, h5, ⟨b7, b8, h7, ⟨b9, b10, h9, _, h10⟩, h8⟩, h6⟩, h4⟩, h2⟩, h0⟩
 refine ⟨⟨?_, ?_⟩, ?_, fun hB => ?_⟩
 ·rw [NodeL.wt_eq]
  have g1 := QL.sum vYB h1;have g2 := QL.len QMult.pos h9;have g3 := QL.sum (f := NodeL.wt) (fun _ _ h => h.1.1) h5;simp only [NodeL.lemmas, NodeL.proof, NodeL.kids] at *
  omega
 ·unfold NodeL.bk
  rw [NodeL.tot_eq];have g1 := QL.sum (f := fun m : LemL => lQ m.value + sC m.proof) QLem.ln h1;rw [vFT (fun m : LemL => lQ m.value) (fun m => sC m.proof)] at g1;have g2 := QL.sum (f := fun p : MultL => lQ p.coef + 1) QMult.ln h9;have g3 := QL.sum (f := NodeL.bk) (fun _ _ h => h.1.2) h5;obtain ⟨f, h11, h12⟩ := h3;have g4 := h11.ln.1;have g5 : (c.map (NodeL.tot fun x => spF x + vlF x + coF x)).sum < b5 := g3;unfold lnQ at g4;simp only [spF, vlF, coF, vL, sC, lQ, NodeL.lemmas, NodeL.proof, NodeL.kids, NodeL.split] at *
  omega
 ·refine .mk _ (fun m hm => ?_) ?_ (vTM h9) (fun k hk => ?_)
  ·obtain ⟨q, ⟨f, g, h11, h12, h13⟩, _⟩ := h1.mem m hm
   exact ⟨h11.ln.2, vTM h12⟩
  ·obtain ⟨f, h11, _⟩ := h3
   exact h11.ln.2
  ·obtain ⟨q, h11, h12⟩ := h5.mem k hk
   exact h11.2.1
 ·have hk : ∀ k ∈ c, k.Sm ∧ NodeRg k := fun k hk => by
   obtain ⟨q, h11, h12⟩ := h5.mem k hk;exact h11.2.2 (by omega)
  have hcl : c.length < 2097152 := by have : c.length < b5 := QL.len QNode.pos h5; omega
  exact ⟨.mk _ (vRO h1 (by omega)) (by obtain ⟨f, h11, h12⟩ := h3; exact vSD h11 (by omega)) hcl (fun k h => (hk k h).1) (zMT h9 (by omega)),
   .mk _ (by have : a.length < b1 := QL.len QLem.pos h1; simp only [NodeL.lemmas]; omega) (fun m hm => by
    obtain ⟨q, ⟨f, g, h11, h12, h13⟩, h14⟩ := h1.mem m hm
    exact vIJ h12 (by omega)) (vIJ h9 (by omega)) hcl (fun k h => (hk k h).2)⟩
theorem vK1 {n : Nat} (hk : Reads enc Tryz.prog w n 32 vZJ QNode) : Reads enc Tryz.prog w (n + 1) 29 (fun xs : List NodeL => [.imm (xs.map vBD)]) (QL QNode) :=
 zFM (sz := 9) Tryz.underlying29 (by kernel_rfl) (by decide) (fun x => ⟨by rw [zBJ]; rfl, rfl⟩) hk
theorem uBU (n : Nat) : Reads enc Tryz.prog w n 32 vZJ QNode ∧ Reads enc Tryz.prog w n 29 (fun xs : List NodeL => [.imm (xs.map vBD)]) (QL QNode) := by
 induction n with
 | zero => exact ⟨zMW, zMW⟩
 | succ n ih => exact ⟨vK0 ih.2, vK1 ih.1⟩
theorem uFP (n : Nat) : Reads enc Tryz.prog w n 32 vZJ QNode := (uBU n).1
theorem QGra.okB {x : GraL} {B : Nat} (h : QGra x B) (hB : B ≤ 1048576) : vTN B x := by
 obtain ⟨b, c, h1, h2, h3⟩ := h;have g1 := vGP h1 (by omega);have g2 := vGP h2 (by omega);exact ⟨⟨g1.1, fun f hf => zEF (by omega) (g1.2 f hf)⟩, ⟨g2.1, fun f hf => zEF (by omega) (g2.2 f hf)⟩⟩
theorem QReg.okB {x : RegL} {B : Nat} (h : QReg x B) (hB : B ≤ 1048576) : vTL B x := by
 obtain ⟨a, b, c, h1, h2, h3, h4⟩ := h;have g3 := vGP h3 (by omega);exact ⟨zJO (by omega) (vNB h1 (by omega)), zJO (by omega) (vNB h2 (by omega)), fun f hf => zEF (by omega) (g3.2 f hf), g3.1⟩
end
end Go.PI.Tryz
