/-
  What is read at the types of the laws of chapter 43.
-/
import Derived.Test.YtdgckinmcnjheaaGreatCNA
import Derived.Test.YtdgckinmcnjheaaGreatCPD
import Derived.Test.YtdgckinmcnjheaaGreatRows
import Derived.WalkKit
import Derived.ProofKit
import Derived.OpenShut
import Derived.JoinedCond
import Derived.Test.YtdgckinmcnjheaaGreatCWC
import Derived.Test.YtdgckinmcnjheaaGreatCWB
import Derived.Test.YtdgckinmcnjheaaGreatCPE
import Derived.Test.YtdgckinmcnjheaaGreatCGB
import Derived.Test.YtdgckinmcnjheaaGreatCSA
set_option linter.unusedVariables false
set_option linter.unusedSimpArgs false
set_option linter.unnecessarySimpa false
namespace Go.PI.Tryz
open Go Go.Proofs Go.PI Go.Proofs.YtdgckinmcnjheaaGreat
open Go.ChangeShapes Go.WideShapes Go.ChangeAt Go.RowKit
section
variable {H : Type} {enc : TypeId × Value → H} {w : World}
def QNat (xs : List Int) (B : Nat) : Prop := QL (fun x b => (Lit.int .u32 x).wf = true ∧ 1 ≤ b) xs B
theorem QNat.ok {x : List Int} {B : Nat} (h : QNat x B) : okN x := fun y hy => by
 obtain ⟨b, ⟨h1, _⟩, _⟩ := QL.mem h y hy;have : 0 ≤ y ∧ y ≤ 4294967295 := by simpa [Lit.wf, IntKind.min, IntKind.max, IntKind.signed, IntKind.bits] using h1
 omega
theorem QNat.len {x : List Int} {B : Nat} (h : QNat x B) : x.length < B := QL.len (fun _ _ h => h.2) h
def QRat (x : RatL) (B : Nat) : Prop := ∃ b c, QNat x.num b ∧ QNat x.den c ∧ b + c + 2 ≤ B
theorem QRat.ok {x : RatL} {B : Nat} (h : QRat x B) : okQ B x := by
 obtain ⟨b, c, h1, h2, h3⟩ := h;have := h1.len; have := h2.len;exact ⟨⟨h1.ok, h2.ok⟩, by omega, by omega⟩
theorem QRat.pos (x : RatL) (B : Nat) (h : QRat x B) : 1 ≤ B := by obtain ⟨b, c, h1, h2, h3⟩ := h; omega
def QTerm (x : TermL) (B : Nat) : Prop := ∃ b, QRat x.coef b ∧ b + 2 ≤ B
theorem QTerm.pos (x : TermL) (B : Nat) (h : QTerm x B) : 1 ≤ B := by obtain ⟨b, h1, h3⟩ := h; omega
def QAff (x : AffL) (B : Nat) : Prop := ∃ b c, QL QTerm x.terms b ∧ QRat x.const c ∧ b + c ≤ B
theorem QAff.ok {x : AffL} {B : Nat} (h : QAff x B) (hB : B ≤ 1048576) : okA 1048576 x := by
 obtain ⟨b, c, h1, h2, h3⟩ := h;refine ⟨zLW (by omega) h2.ok, fun t ht => ?_, by have := QL.len QTerm.pos h1; omega⟩;obtain ⟨d, ⟨e, h4, h5⟩, h6⟩ := h1.mem t ht;exact zLW (by omega) h4.ok
theorem QAff.pos (x : AffL) (B : Nat) (h : QAff x B) : 1 ≤ B := by
 obtain ⟨b, c, _, ⟨d, e, _, _, h4⟩, h3⟩ := h; omega
theorem QInt.pos {k : IntKind} (x : Int) (B : Nat) (h : (Lit.int k x).wf = true ∧ 1 ≤ B) : 1 ≤ B := h.2
theorem vRK (m : Nat) : Reads enc Tryz.prog w m 22 (fun xs : List Int => [.imm (xs.map (.int .u8))]) (QL (fun x b => (Lit.int .u8 x).wf = true ∧ 1 ≤ b)) :=
 (vJ8 (n := m) (sz := 1) Tryz.underlying22 (by kernel_rfl) (by decide) (fun _ => ⟨rfl, rfl⟩) (vRH Tryz.underlying5)).le (by omega)
theorem vS6 {xs : List Int} {B : Nat} (h : QL (fun x b => (Lit.int .u8 x).wf = true ∧ 1 ≤ b) xs B) (hB : B ≤ 1048576) : vMN xs := by
 refine ⟨by have := QL.len QInt.pos h; omega, fun x hx => ?_⟩;obtain ⟨b, ⟨h1, _⟩, _⟩ := h.mem x hx;have : 0 ≤ x ∧ x ≤ 255 := by simpa [Lit.wf, IntKind.min, IntKind.max, IntKind.signed, IntKind.bits] using h1
 omega
end
theorem own : ownKnob Tryz.prog.godebug = none := by kernel_rfl
theorem laidOut : laidOutB Tryz.prog = true := by kernel_rfl
theorem gok {W : World} : Gok G0 W (vP7 W) := fun g e hg => by simp [G0] at hg
mutual
theorem vG2 {H : Type} : ∀ d : DataW H, Rows.uptoBulk d = vJR d
 | .lit l => by cases l <;> rfl
 | .nil => rfl
 | .ptr d => by simp only [Rows.uptoBulk, vJR, vG2 d]
 | .slice elems spare => by simp only [Rows.uptoBulk, vJR, zFK elems, zFK spare]
 | .agg parts => by simp only [Rows.uptoBulk, vJR, zFK parts]
 | .iface _ d => by simp only [Rows.uptoBulk, vJR, vG2 d]
 | .map entries => by simp only [Rows.uptoBulk, vJR, zHD entries]
 | .held _ => rfl
theorem zFK {H : Type} : ∀ d : List (DataW H), Rows.uptoBulkAll d = vB9 d
 | [] => rfl
 | d :: r => by simp only [Rows.uptoBulkAll, vB9, vG2 d, zFK r]
theorem zHD {H : Type} : ∀ d : List (Lit × DataW H), Rows.uptoBulkEntries d = vCM d
 | [] => rfl
 | x :: r => by simp only [Rows.uptoBulkEntries, vCM, vJG x, zHD r]
theorem vJG {H : Type} : ∀ d : Lit × DataW H, Rows.uptoBulkEntry d = vD9 d
 | (l, d) => by cases l <;> simp only [Rows.uptoBulkEntry, vD9, vG2 d]
end
open Go.Proofs Go.PI
theorem uKI : vA7 qW = .agg [.int .i64 1, .imm [vA5 unW], .imm [vA5 unW], .imm [vAZ (cr 0)], .imm [vAZ (cr 3)], .imm [], .imm (goW.ts.map vDA), .bool (cr goW.c).neg, vA9 (cr goW.c).num, vA9 (cr goW.c).den] := by
 have e1 := zJM unW
 have e3 : goW.L.terms.map vBW = goW.ts.map vDA := by
  unfold QF.L; simp only [List.map_map]; rfl
 rw [e1, ← e3];rfl
theorem vID : FO 33 Tryz.f33 [.cell 0 39] 29 := mkO Tryz.func33 Tryz.ntmps33 Tryz.results33
theorem vLH : Fn 33 [] (.data (vA7 qW)) := by
 have c1 := zF2 1 (by decide);have c2 := zF2 (-1) (by decide);have c3 := zF2 3 (by decide);rw [show (((1 : Int)) : Rat) = 1 by rfl] at c1;rw [show (((-1 : Int)) : Rat) = -1 by rfl] at c2;rw [show (((3 : Int)) : Rat) = 3 by rfl] at c3;have ch := zIO 1 2 (by decide) (by decide);rw [show mkRat 1 (Int.natAbs 2) = vB2 by decide +kernel] at ch;rw [uKI, zC1];refine zAN vA6 hT vID (by simp) ?_;refine sus ?_
 (refine zAX ?_; refine sus ?_)
 refine zAA ch rfl ?_;refine sus ?_
 (refine zAX ?_; refine sus ?_)
 refine zAA c1 rfl ?_;refine sus ?_;refine zAA c2 rfl ?_;refine sus ?_
 refine vB7 [] [(0, .ptr 0 0 0), (1, .ptr 1 0 0), (3, .ptr 2 0 0)] [(0, ⟨[.agg [.int .i64 0, .nilsl, .nilsl, .nilsl, .nilsl, .nilsl, .nilsl, .bool false, .nilsl, .nilsl]], 10, true⟩), (1, ⟨[vAZ (cr vB2)], 3, true⟩), (2, ⟨[vA5 unW], 4, true⟩)] [] 3 (by decide) (by simp) trivial
  ⟨[0, 5, 13], [10], [], [(13, [vA5 unW])], ⟨⟨⟨_, rfl⟩, trivial⟩, trivial, ⟨⟨_, 6, _, rfl, rfl, rfl⟩, trivial⟩⟩, ⟨apx, apx, apx, trivial⟩, ⟨bbx, bbx, bbx, trivial⟩, by simp [ren]⟩ ?_
 refine sts ?_;refine zAA c3 rfl ?_;refine sts ?_;refine zAA c2 rfl ?_;refine sts ?_;exact zAB rfl rfl
theorem vPA : FO 10 Tryz.f10 [.tmp 0] 67 := mkO Tryz.func10 Tryz.ntmps10 Tryz.results10
theorem vV4 : Fn 10 [] (.data (.bool true)) := by
 have ce := vLH;have c1 := zF2 1 (by decide);have c2 := zF2 2 (by decide);have c3 := zF2 3 (by decide);rw [show (((1 : Int)) : Rat) = 1 by rfl] at c1;rw [show (((2 : Int)) : Rat) = 2 by rfl] at c2;rw [show (((3 : Int)) : Rat) = 3 by rfl] at c3;have cf := zIO 8 5 (by decide) (by decide);rw [show mkRat 8 (Int.natAbs 5) = vCC from rfl] at cf;have s85 : sz 2 vCC := ⟨by decide +kernel, by decide +kernel⟩;have s1 : sz 2 (1 : Rat) := sz1 1 (by decide);have hx := uG4 vCC s85;have h1 := uG4 1 s1;have w85 : vEE qW [vCC] := ⟨rfl, zJ9 _ (by decide +kernel), v85⟩;have w1 : ¬ vEE qW [1] := fun e => v1 e.2.2
 have k1 := zE1 qW 199 [vCC] qW_ok (by decide) (by decide) hx;rw [dB_true.2 w85] at k1;have k2 := zE1 qW 199 [1] qW_ok (by decide) (by decide) h1;rw [dB_false.2 w1] at k2
 have k3 := uE6 qW 199 1 [vCC] qW_ok (by decide) rfl hx (fun i hi => by
  have : i = 0 := by omega
  subst this; exact Nat.lt_of_lt_of_le s85.2 (zD2 (by decide))) w85
 rw [uGP] at k3;have k4 := vJB qW 199 1 qW_ok (by decide) rfl
 have eX : vWO qW 1 2 = [3] := by
  unfold vWO; rw [uB0, vU3]; exact uG0 4
 have eO : uAH qW 1 2 = some [3] := by
  rw [vG7 ⟨by rw [uB0], by rw [eX]; exact ⟨rfl, zJ9 3 (by decide +kernel), by rw [v3]; decide +kernel⟩⟩, eX]
 rw [show 2 ^ 1 = 2 from rfl, eO] at k4;have l2 := zAL (sz1 2 (by decide));rw [show (((2 : Int)) : Rat) = 2 by rfl] at l2;have l3 := zAL (sz1 3 (by decide));rw [show (((3 : Int)) : Rat) = 3 by rfl] at l3;have m2 := zEP (cr 2) (cr 2) (zAI _) (zAI _) (by omega) (by omega) (by omega) (by omega);have m3 := zEP (cr 3) (cr 3) (zAI _) (zAI _) (by omega) (by omega) (by omega) (by omega);rw [zAQ, show vBS ((2 : Rat) - 2) = 0 by decide +kernel] at m2;rw [zAQ, show vBS ((3 : Rat) - 3) = 0 by decide +kernel] at m3;refine zAN vA6 hT vPA (by simp) ?_;refine sts ?_;refine zAA cf rfl ?_;refine sts ?_;refine zAA ce rfl ?_;refine sts ?_;refine zAA k3 rfl ?_;refine sts ?_;refine zAA ce rfl ?_;refine sts ?_;refine zAA k4 rfl ?_;refine sts ?_;refine zAA ce rfl ?_;refine sts ?_;refine zAA k1 rfl ?_;refine sts ?_;refine zAA ce rfl ?_;refine sts ?_;refine zAA c1 rfl ?_;refine sts ?_;refine zAA k2 rfl ?_;refine sts ?_;refine zAA c2 rfl ?_;refine sts ?_;refine zAA m2 rfl ?_;refine sts ?_;refine zAA c3 rfl ?_;refine sts ?_;refine zAA m3 rfl ?_;refine sts ?_;exact zAB rfl rfl
set_option maxHeartbeats 2000000
structure BegP (raw at_ : List Int) (n : Nat) (x : List Rat) : Prop where
 sm : smQ (vCL raw) 199
 hn : (vCL raw).g.ins = (n : Int)
 hx : vY0 (vCL raw).r at_ = x
 len : x.length = n
 sz : ∀ r ∈ x, sz 200 r
 den : ∀ i, i < n → x[i]!.den < pw 140
 n3 : n ≤ 3
 ins : Fn 12 [vBG (vCL raw).r, .imm (at_.map (.int .u8))] (.data (.imm (x.map vBF)))
theorem uIT (raw at_ : List Int) (h2 : vMN at_) : ∃ n x, BegP raw at_ n x := by
 have h := uEJ raw;obtain ⟨n, hn, n1, n2, n3, n4⟩ := h.n;obtain ⟨s1, s2⟩ := uHV raw at_;refine ⟨n, _, h, hn, rfl, by omega, fun r hr => zBE (by decide) (s2 r hr), fun i hi => Nat.lt_of_lt_of_le (s2 _ (get_mem (by omega))).2 (zD2 (by decide)), n2, uFA _ _ (zDV (by decide) h.r) (by omega) h2⟩
theorem uIU {q : QryL} {kg n m : Nat} (h : smQ q kg) (hn : q.g.ins = (n : Int)) {y : List Rat} (hy : uAH q n m = some y) : ptW q n y ∧ vEE q y ∧ (∀ z ∈ vBN q m, vEE q z → vBX q y ≤ vBX q z) := by
 obtain ⟨n1, n2, n3, n4⟩ := h.nn hn;by_cases hc : (vBY q (vBN q m) (vBN q m).length).2.2 = true ∧ vEE q (vWO q n m)
 ·rw [vG7 hc] at hy
  cases hy
  obtain ⟨c1, c2⟩ := vU4 h hn hc.1;obtain ⟨r1, r2⟩ := uAZ h n3 4 _ c2;obtain ⟨a1, a2, a3, a4⟩ := (zIT q (vBN q m) _ (Nat.le_refl _)).1 hc.1;refine ⟨r1, hc.2, fun z hz hwz => ?_⟩;obtain ⟨j, hj, rfl⟩ := List.getElem_of_mem hz;have := a4 j hj (by rw [getElem!_pos _ j hj]; exact hwz.2.1);rw [getElem!_pos _ j hj, a3] at this;exact Rat.le_trans r2 this
 ·rw [vWA hc] at hy; cases hy
set_option maxHeartbeats 2000000
open Go Go.Proofs Go.PI Go.Proofs.YtdgckinmcnjheaaGreat
open Go.ChangeShapes Go.WideShapes Go.ChangeAt Go.RowKit
section
variable {H : Type} {enc : TypeId × Value → H} {w : World}
end
end Go.PI.Tryz
