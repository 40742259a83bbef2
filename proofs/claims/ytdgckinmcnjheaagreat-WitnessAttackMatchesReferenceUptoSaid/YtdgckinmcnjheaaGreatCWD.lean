/-
  What is read at the types of the laws of chapter 43.
-/
import Derived.Test.YtdgckinmcnjheaaGreatCNA
import Derived.Test.YtdgckinmcnjheaaGreatCPD
import Derived.Test.YtdgckinmcnjheaaGreatRows
import Derived.WalkKit
import Derived.ProofKit
import Derived.OpenShut
import Derived.JoinedCond
import Derived.Test.YtdgckinmcnjheaaGreatCWC
import Derived.Test.YtdgckinmcnjheaaGreatCWB
import Derived.Test.YtdgckinmcnjheaaGreatCPE
import Derived.Test.YtdgckinmcnjheaaGreatCGB
import Derived.Test.YtdgckinmcnjheaaGreatCSA
set_option linter.unusedVariables false
set_option linter.unusedSimpArgs false
set_option linter.unnecessarySimpa false
namespace Go.PI.Tryz
open Go Go.Proofs Go.PI Go.Proofs.YtdgckinmcnjheaaGreat
open Go.ChangeShapes Go.WideShapes Go.ChangeAt Go.RowKit
section
variable {H : Type} {enc : TypeId × Value → H} {w : World}
def QNat (xs : List Int) (B : Nat) : Prop := QL (fun x b => (Lit.int .u32 x).wf = true ∧ 1 ≤ b) xs B
theorem QNat.ok {x : List Int} {B : Nat} (h : QNat x B) : okN x := fun y hy => by
 obtain ⟨b, ⟨h1, _⟩, _⟩ := QL.mem h y hy;have : 0 ≤ y ∧ y ≤ 4294967295 := by simpa [Lit.wf, IntKind.min, IntKind.max, IntKind.signed, IntKind.bits] using h1
 omega
theorem QNat.len {x : List Int} {B : Nat} (h : QNat x B) : x.length < B := QL.len (fun _ _ h => h.2) h
def QRat (x : RatL) (B : Nat) : Prop := ∃ b c, QNat x.num b ∧ QNat x.den c ∧ b + c + 2 ≤ B
theorem QRat.ok {x : RatL} {B : Nat} (h : QRat x B) : okQ B x := by
 obtain ⟨b, c, h1, h2, h3⟩ := h;have := h1.len; have := h2.len;exact ⟨⟨h1.ok, h2.ok⟩, by omega, by omega⟩
theorem QRat.pos (x : RatL) (B : Nat) (h : QRat x B) : 1 ≤ B := by obtain ⟨b, c, h1, h2, h3⟩ := h; omega
def QTerm (x : TermL) (B : Nat) : Prop := ∃ b, QRat x.coef b ∧ b + 2 ≤ B
theorem QTerm.pos (x : TermL) (B : Nat) (h : QTerm x B) : 1 ≤ B := by obtain ⟨b, h1, h3⟩ := h; omega
def QAff (x : AffL) (B : Nat) : Prop := ∃ b c, QL QTerm x.terms b ∧ QRat x.const c ∧ b + c ≤ B
theorem QAff.ok {x : AffL} {B : Nat} (h : QAff x B) (hB : B ≤ 1048576) : okA 1048576 x := by
 obtain ⟨b, c, h1, h2, h3⟩ := h;refine ⟨zKV (by omega) h2.ok, fun t ht => ?_, by have := QL.len QTerm.pos h1; omega⟩;obtain ⟨d, ⟨e, h4, h5⟩, h6⟩ := h1.mem t ht;exact zKV (by omega) h4.ok
theorem QAff.pos (x : AffL) (B : Nat) (h : QAff x B) : 1 ≤ B := by
 obtain ⟨b, c, _, ⟨d, e, _, _, h4⟩, h3⟩ := h; omega
theorem QInt.pos {k : IntKind} (x : Int) (B : Nat) (h : (Lit.int k x).wf = true ∧ 1 ≤ B) : 1 ≤ B := h.2
theorem zFA (m : Nat) : Reads enc Tryz.prog w m 22 (fun xs : List Int => [.imm (xs.map (.int .u8))]) (QL (fun x b => (Lit.int .u8 x).wf = true ∧ 1 ≤ b)) :=
 (zMB (n := m) (sz := 1) Tryz.underlying22 (by kernel_rfl) (by decide) (fun _ => ⟨rfl, rfl⟩) (zIL Tryz.underlying5)).le (by omega)
theorem zFC {xs : List Int} {B : Nat} (h : QL (fun x b => (Lit.int .u8 x).wf = true ∧ 1 ≤ b) xs B) (hB : B ≤ 1048576) : okBy xs := by
 refine ⟨by have := QL.len QInt.pos h; omega, fun x hx => ?_⟩;obtain ⟨b, ⟨h1, _⟩, _⟩ := h.mem x hx;have : 0 ≤ x ∧ x ≤ 255 := by simpa [Lit.wf, IntKind.min, IntKind.max, IntKind.signed, IntKind.bits] using h1
 omega
end
theorem own : ownKnob Tryz.prog.godebug = none := by kernel_rfl
theorem laidOut : laidOutB Tryz.prog = true := by kernel_rfl
theorem gok {W : World} : Gok G0 W (AllB W) := fun g e hg => by simp [G0] at hg
mutual
theorem bulk_eq {H : Type} : ∀ d : DataW H, Rows.uptoBulk d = bulk d
 | .lit l => by cases l <;> rfl
 | .nil => rfl
 | .ptr d => by simp only [Rows.uptoBulk, bulk, bulk_eq d]
 | .slice elems spare => by simp only [Rows.uptoBulk, bulk, zCN elems, zCN spare]
 | .agg parts => by simp only [Rows.uptoBulk, bulk, zCN parts]
 | .iface _ d => by simp only [Rows.uptoBulk, bulk, bulk_eq d]
 | .map entries => by simp only [Rows.uptoBulk, bulk, zHU entries]
 | .held _ => rfl
theorem zCN {H : Type} : ∀ d : List (DataW H), Rows.uptoBulkAll d = bulkAll d
 | [] => rfl
 | d :: r => by simp only [Rows.uptoBulkAll, bulkAll, bulk_eq d, zCN r]
theorem zHU {H : Type} : ∀ d : List (Lit × DataW H), Rows.uptoBulkEntries d = bulkEntries d
 | [] => rfl
 | x :: r => by simp only [Rows.uptoBulkEntries, bulkEntries, bulkEntry_eq x, zHU r]
theorem bulkEntry_eq {H : Type} : ∀ d : Lit × DataW H, Rows.uptoBulkEntry d = bulkEntry d
 | (l, d) => by cases l <;> simp only [Rows.uptoBulkEntry, bulkEntry, bulk_eq d]
end
end Go.PI.Tryz
namespace Go.PI.Tryz
open Go.Proofs Go.PI
theorem qW_V : encQry qW = .agg [.int .i64 1, .imm [encF unW], .imm [encF unW], .imm [encRat (cr 0)], .imm [encRat (cr 3)], .imm [], .imm (goW.ts.map encQ), .bool (cr goW.c).neg, encN (cr goW.c).num, encN (cr goW.c).den] := by
 have e1 := zKF unW
 have e3 : goW.L.terms.map encTerm = goW.ts.map encQ := by
  unfold QF.L; simp only [List.map_map]; rfl
 rw [e1, ← e3];rfl
theorem ok_example43 : FO 33 Tryz.f33 [.cell 0 39] 29 := mkO Tryz.func33 Tryz.ntmps33 Tryz.results33
theorem c_example43 : Fn 33 [] (.data (encQry qW)) := by
 have c1 := zFY 1 (by decide);have c2 := zFY (-1) (by decide);have c3 := zFY 3 (by decide);rw [show (((1 : Int)) : Rat) = 1 by rfl] at c1;rw [show (((-1 : Int)) : Rat) = -1 by rfl] at c2;rw [show (((3 : Int)) : Rat) = 3 by rfl] at c3;have ch := zHH 1 2 (by decide) (by decide);rw [show mkRat 1 (Int.natAbs 2) = halfQ by decide +kernel] at ch;rw [qW_V, zGB];refine zAM hmix hT ok_example43 (by simp) ?_;refine sus ?_
 (refine zA5 ?_; refine sus ?_)
 refine zAA ch rfl ?_;refine sus ?_
 (refine zA5 ?_; refine sus ?_)
 refine zAA c1 rfl ?_;refine sus ?_;refine zAA c2 rfl ?_;refine sus ?_
 refine tellV [] [(0, .ptr 0 0 0), (1, .ptr 1 0 0), (3, .ptr 2 0 0)] [(0, ⟨[.agg [.int .i64 0, .nilsl, .nilsl, .nilsl, .nilsl, .nilsl, .nilsl, .bool false, .nilsl, .nilsl]], 10, true⟩), (1, ⟨[encRat (cr halfQ)], 3, true⟩), (2, ⟨[encF unW], 4, true⟩)] [] 3 (by decide) (by simp) trivial
  ⟨[0, 5, 13], [10], [], [(13, [encF unW])], ⟨⟨⟨_, rfl⟩, trivial⟩, trivial, ⟨⟨_, 6, _, rfl, rfl, rfl⟩, trivial⟩⟩, ⟨apx, apx, apx, trivial⟩, ⟨bbx, bbx, bbx, trivial⟩, by simp [ren]⟩ ?_
 refine sts ?_;refine zAA c3 rfl ?_;refine sts ?_;refine zAA c2 rfl ?_;refine sts ?_;exact zAB rfl rfl
theorem ok_awake43 : FO 10 Tryz.f10 [.tmp 0] 67 := mkO Tryz.func10 Tryz.ntmps10 Tryz.results10
theorem zE0 : Fn 10 [] (.data (.bool true)) := by
 have ce := c_example43;have c1 := zFY 1 (by decide);have c2 := zFY 2 (by decide);have c3 := zFY 3 (by decide);rw [show (((1 : Int)) : Rat) = 1 by rfl] at c1;rw [show (((2 : Int)) : Rat) = 2 by rfl] at c2;rw [show (((3 : Int)) : Rat) = 3 by rfl] at c3;have cf := zHH 8 5 (by decide) (by decide);rw [show mkRat 8 (Int.natAbs 5) = half85 from rfl] at cf;have s85 : sz 2 half85 := ⟨by decide +kernel, by decide +kernel⟩;have s1 : sz 2 (1 : Rat) := sz1 1 (by decide);have hx := pt_sz half85 s85;have h1 := pt_sz 1 s1;have w85 : witP qW [half85] := ⟨rfl, zK3 _ (by decide +kernel), v85⟩;have w1 : ¬ witP qW [1] := fun e => v1 e.2.2
 have k1 := zC4 qW 199 [half85] qW_ok (by decide) (by decide) hx;rw [dB_true.2 w85] at k1;have k2 := zC4 qW 199 [1] qW_ok (by decide) (by decide) h1;rw [dB_false.2 w1] at k2
 have k3 := c_wsimp qW 199 1 [half85] qW_ok (by decide) rfl hx (fun i hi => by
  have : i = 0 := by omega
  subst this; exact Nat.lt_of_lt_of_le s85.2 (zEC (by decide))) w85
 rw [sim_qW] at k3;have k4 := zNF qW 199 1 qW_ok (by decide) rfl
 have eX : attX qW 1 2 = [3] := by
  unfold attX; rw [bst_qW, cand_qW]; exact rds_qW 4
 have eO : attO qW 1 2 = some [3] := by
  rw [zJL ⟨by rw [bst_qW], by rw [eX]; exact ⟨rfl, zK3 3 (by decide +kernel), by rw [v3]; decide +kernel⟩⟩, eX]
 rw [show 2 ^ 1 = 2 from rfl, eO] at k4;have l2 := zAJ (sz1 2 (by decide));rw [show (((2 : Int)) : Rat) = 2 by rfl] at l2;have l3 := zAJ (sz1 3 (by decide));rw [show (((3 : Int)) : Rat) = 3 by rfl] at l3;have m2 := zDK (cr 2) (cr 2) (zAF _) (zAF _) (by omega) (by omega) (by omega) (by omega);have m3 := zDK (cr 3) (cr 3) (zAF _) (zAF _) (by omega) (by omega) (by omega) (by omega);rw [zAL, show sgnQ ((2 : Rat) - 2) = 0 by decide +kernel] at m2;rw [zAL, show sgnQ ((3 : Rat) - 3) = 0 by decide +kernel] at m3;refine zAM hmix hT ok_awake43 (by simp) ?_;refine sts ?_;refine zAA cf rfl ?_;refine sts ?_;refine zAA ce rfl ?_;refine sts ?_;refine zAA k3 rfl ?_;refine sts ?_;refine zAA ce rfl ?_;refine sts ?_;refine zAA k4 rfl ?_;refine sts ?_;refine zAA ce rfl ?_;refine sts ?_;refine zAA k1 rfl ?_;refine sts ?_;refine zAA ce rfl ?_;refine sts ?_;refine zAA c1 rfl ?_;refine sts ?_;refine zAA k2 rfl ?_;refine sts ?_;refine zAA c2 rfl ?_;refine sts ?_;refine zAA m2 rfl ?_;refine sts ?_;refine zAA c3 rfl ?_;refine sts ?_;refine zAA m3 rfl ?_;refine sts ?_;exact zAB rfl rfl
end Go.PI.Tryz
namespace Go.PI.Tryz
open Go.Proofs Go.PI
set_option maxHeartbeats 2000000
theorem ok_same43 : FO 18 Tryz.f18 [.tmp 4] 27 := mkO Tryz.func18 Tryz.ntmps18 Tryz.results18
theorem zLP (a : List Rat) (k : Nat) (ha : ∀ r ∈ a, sz k r) (hk : k ≤ 900000) (hal : a.length ≤ 1048576) : Fn 18 [.imm (a.map encX), .imm (a.map encX)] (.data (.bool true)) := by
 refine zAM hmix hT ok_same43 (by simp) ?_
 (repeat' (first|refine stp ?_|with_reducible(refine brr ?_ ?_<;>intro h)));all_goals try(conv=>whnf)
 all_goals try (exfalso; omega)
 refine zA6 hT (fun (i : Nat) => [(0, .imm (a.map encX)), (1, .imm (a.map encX)), (5, .int .i64 i)]) (fun i => i ≤ a.length) (fun i => a.length - i) 0 (Nat.zero_le _) ?_ ?_
 ·exact ⟨zAD rfl rfl, zAD rfl rfl, zAC rfl rfl, trivial⟩
 intro i i1;by_cases hi : i < a.length
 ·have q1 := zAJ (ha _ (get_mem hi))
  have cc := zDK (cr a[i]!) (cr a[i]!) (zAF _) (zAF _) (by omega) (by omega) (by omega) (by omega);rw [show sgnQ (qv (cr a[i]!) - qv (cr a[i]!)) = 0 from sgnQ_zero.2 (by grind)] at cc
  (repeat' (first|refine stp ?_|with_reducible(refine brr ?_ ?_<;>intro h)));all_goals try(conv=>whnf)
  all_goals try (exfalso; omega)
  refine zAA cc rfl ?_;refine sts ?_;exact ⟨i + 1, ⟨by omega, by show a.length - (i + 1) < a.length - i; omega⟩, zAD rfl rfl, zAD rfl rfl, zAC rfl rfl, trivial⟩
 ·(repeat' (first|refine stp ?_|with_reducible(refine brr ?_ ?_<;>intro h)));all_goals try(conv=>whnf)
  all_goals try (exfalso; omega)
  exact zAB rfl rfl
def qN : QryL := ⟨⟨-1, [], []⟩, ⟨[], [], []⟩, ⟨[], ⟨false, [], []⟩⟩⟩
theorem qN_ok : okQr qN := ⟨⟨⟨by decide, fun f hf => by cases hf⟩, ⟨by decide, fun f hf => by cases hf⟩⟩, ⟨⟨by decide, fun f hf => by cases hf⟩, ⟨by decide, fun f hf => by cases hf⟩, (fun f hf => by cases hf), by decide⟩, ⟨⟨⟨zED, zED⟩, by decide, by decide⟩, (fun t ht => by cases ht), by decide⟩⟩
theorem qN_no : ¬ VaQ qN := by decide
structure BegP (raw at_ : List Int) (n : Nat) (x : List Rat) : Prop where
 sm : smQ (insQ raw) 199
 hn : (insQ raw).g.ins = (n : Int)
 hx : insR (insQ raw).r at_ = x
 len : x.length = n
 sz : ∀ r ∈ x, sz 200 r
 den : ∀ i, i < n → x[i]!.den < pw 140
 n3 : n ≤ 3
 ins : Fn 12 [encReg (insQ raw).r, .imm (at_.map (.int .u8))] (.data (.imm (x.map encX)))
theorem beg_of (raw at_ : List Int) (h2 : okBy at_) : ∃ n x, BegP raw at_ n x := by
 have h := insQ_ok raw;obtain ⟨n, hn, n1, n2, n3, n4⟩ := h.n;obtain ⟨s1, s2⟩ := ins_sz raw at_;refine ⟨n, _, h, hn, rfl, by omega, fun r hr => zA4 (by decide) (s2 r hr), fun i hi => Nat.lt_of_lt_of_le (s2 _ (get_mem (by omega))).2 (zEC (by decide)), n2, c_sgins _ _ (zCE (by decide) h.r) (by omega) h2⟩
theorem att_pt {q : QryL} {kg n m : Nat} (h : smQ q kg) (hn : q.g.ins = (n : Int)) {y : List Rat} (hy : attO q n m = some y) : ptW q n y ∧ witP q y ∧ (∀ z ∈ candL q m, witP q z → wval q y ≤ wval q z) := by
 obtain ⟨n1, n2, n3, n4⟩ := h.nn hn;by_cases hc : (bstN q (candL q m) (candL q m).length).2.2 = true ∧ witP q (attX q n m)
 ·rw [zJL hc] at hy
  cases hy
  obtain ⟨c1, c2⟩ := cand_ok h hn hc.1;obtain ⟨r1, r2⟩ := rds_ok h n3 4 _ c2;obtain ⟨a1, a2, a3, a4⟩ := (zHJ q (candL q m) _ (Nat.le_refl _)).1 hc.1;refine ⟨r1, hc.2, fun z hz hwz => ?_⟩;obtain ⟨j, hj, rfl⟩ := List.getElem_of_mem hz;have := a4 j hj (by rw [getElem!_pos _ j hj]; exact hwz.2.1);rw [getElem!_pos _ j hj, a3] at this;exact Rat.le_trans r2 this
 ·rw [attO_no hc] at hy; cases hy
theorem att_no {q : QryL} {kg n m : Nat} (h : smQ q kg) (hn : q.g.ins = (n : Int)) (hy : attO q n m = none) : ∀ z ∈ candL q m, ¬ witP q z := fun z hz hwz => by
 obtain ⟨n1, n2, n3, n4⟩ := h.nn hn;obtain ⟨j, hj, rfl⟩ := List.getElem_of_mem hz;obtain ⟨s1, s2⟩ := zHJ q (candL q m) _ (Nat.le_refl _);cases hb : (bstN q (candL q m) (candL q m).length).2.2 with
 | false => exact (s2 hb).2.2 j hj (by rw [getElem!_pos _ j hj]; exact hwz.2.1)
 | true =>
   obtain ⟨c1, c2⟩ := cand_ok h hn hb;obtain ⟨r1, r2⟩ := rds_ok h n3 4 _ c2;obtain ⟨a1, a2, a3, a4⟩ := s1 hb;have := a4 j hj (by rw [getElem!_pos _ j hj]; exact hwz.2.1);rw [getElem!_pos _ j hj, a3] at this;have hv : wval q (attX q n m) < 0 := by have h1 := Rat.le_trans r2 this; have h2 := hwz.2.2; unfold attX; grind
   have := zJL (q := q) (n := n) (m := m) ⟨hb, by have := r1.len; have h2 : (attX q n m).length = n := r1.len; omega, r1.con, hv⟩;rw [this] at hy; cases hy
theorem zMP : FO 3 Tryz.f3 [.tmp 6] 64 := mkO Tryz.func3 Tryz.ntmps3 Tryz.results3
theorem zN0 (raw at_ other : List Int) (h1 : okBy raw) (h2 : okBy at_) (h3 : other.length ≤ 1048576 ∧ ∀ z ∈ other, -128 ≤ z ∧ z < 128) : Fn 3 [.imm (raw.map (.int .u8)), .imm (at_.map (.int .u8)), .imm (other.map (.int .i8))] (.data (.bool true)) := by
 obtain ⟨n, x, hB⟩ := beg_of raw at_ h2;have l1 := h1.1;have l3 := h3.1;have ca := zE0;have ci := zEO raw h1;have cx := hB.ins;have hxl := hB.len;have hn3 := hB.n3;have k1 := zC4 (insQ raw) 199 x hB.sm (by decide) (by omega) hB.sz;have k2 := zCK (insQ raw) 199 x hB.sm (by decide) (by omega) hB.sz;have kN := c_wcheckN qN [] qN_ok qN_no;obtain ⟨Y, hY⟩ : ∃ Y : List Rat, Y = other.map fun (z : Int) => (z : Rat) := ⟨_, rfl⟩
 have hYl : Y.length = other.length := by rw [hY]; simp
 have hYg : ∀ i, i < other.length → Y[i]! = ((other[i]! : Int) : Rat) := fun i hi => by
  rw [hY, getElem!_pos _ i (by simpa using hi), getElem!_pos other i hi]; simp
 have hYs : ∀ r ∈ Y, sz 200 r := fun r hr => by
  rw [hY] at hr;obtain ⟨z, hz, rfl⟩ := List.mem_map.1 hr;have := h3.2 z hz;exact zA4 (by decide) (zGI (by omega))
 by_cases hlen : raw.length ≤ 200 ∧ other.length ≤ 6
 ·have k3 := zC4 (insQ raw) 199 Y hB.sm (by decide) (by omega) hYs
  have k4 := zCK (insQ raw) 199 Y hB.sm (by decide) (by omega) hYs;generalize dB (witP (insQ raw) x) = B1 at *
  generalize dB (witP (insQ raw) Y) = B2 at *
  refine zAM hmix hT zMP (by simp) ?_;refine sts ?_;refine zAA ca rfl ?_
  (repeat' (first|refine stp ?_|with_reducible(refine brr ?_ ?_<;>intro h)));all_goals try(conv=>whnf)
  all_goals try (exfalso; omega)
  refine zAA ci rfl ?_;refine sts ?_;refine zAA cx rfl ?_;refine sts ?_;generalize insQ raw = q at *
  refine zBV hT [(.sl 9, 3, true)] (fun (i : Nat) => [(2, .imm (other.map (.int .i8))), (7, .ptr 0 0 0), (8, .imm (x.map encX)), (9, .own 1 0 i), (10, .int .i64 i)]) (fun i => [(0, ⟨[encQry q], 10, true⟩), (1, rowX (Y.take i))]) [] 2
   (fun i => i ≤ other.length) (fun i => other.length - i) 0 (Nat.zero_le _) (by decide) (by simp) ⟨rfl, trivial⟩ ?_ ?_
  ·exact ⟨[13, _], [], [], [], ttt, ⟨zAD rfl rfl, (apy rfl), zAD rfl rfl, zAH (by decide) rfl rfl, zAC rfl rfl, trivial⟩, ⟨bbx, zAE (by decide) rfl rfl (zAN []) rfl, trivial⟩, by simp [ren]⟩
  intro i i1;have hYt : (Y.take i).length = i := by rw [List.length_take]; omega
  by_cases hi : i < other.length
  ·have hz := h3.2 _ (get_mem hi)
   have co := zFY other[i]! (by omega);rw [← hYg i hi] at co
   (repeat' (first|refine stp ?_|with_reducible(refine brr ?_ ?_<;>intro h)));all_goals try(conv=>whnf)
   all_goals try (exfalso; omega)
   refine zAA co rfl ?_;refine sts ?_;exact ⟨i + 1, ⟨by omega, by show other.length - (i + 1) < other.length - i; omega⟩, [0, _], [], [], [], ttt, ⟨zAD rfl rfl, (apy rfl), zAD rfl rfl, zAH (by decide) rfl rfl, zAC rfl rfl, trivial⟩, ⟨bbx, zAE (by decide) rfl (X_snoc (by omega) rfl) (zAN _) rfl, trivial⟩, by simp [ren]⟩
  have ei : i = other.length := by omega
  rw [ei, ← hYl, List.take_length];refine sus ?_;refine zA5 ?_
  (repeat' (first|refine stu ?_|with_reducible(refine brr ?_ ?_<;>intro h)));all_goals try(conv=>whnf)
  all_goals try (exfalso; omega)
  refine tellV [] [(7, .ptr 0 0 0), (8, .imm (x.map encX)), (9, .imm (Y.map encX))] [(0, ⟨[encQry q], 10, true⟩)] [] 1 (by decide) (by simp) trivial
   ⟨[0], [1], [(9, .imm (Y.map encX))], [], ⟨⟨⟨_, rfl⟩, trivial⟩, ⟨⟨6, _, zAI rfl rfl rfl fun q => zCH (cr q), rfl⟩, trivial⟩, trivial⟩, ⟨apx, zAD rfl rfl, zAD rfl rfl, trivial⟩, ⟨bbx, trivial⟩, by simp [ren]⟩ ?_
  refine sts ?_;refine zAA k1 rfl ?_;refine sts ?_;refine zAA k2 rfl ?_
  (repeat' (first|refine stp ?_|with_reducible(refine brr ?_ ?_<;>intro h)));all_goals try(conv=>whnf)
  all_goals try exact absurd trivial (by assumption : ¬ True)
  refine zAA k3 rfl ?_;refine sts ?_;refine zAA k4 rfl ?_
  (repeat' (first|refine stp ?_|with_reducible(refine brr ?_ ?_<;>intro h)));all_goals try(conv=>whnf)
  all_goals try exact absurd trivial (by assumption : ¬ True)
  refine zAA kN rfl ?_;refine sts ?_;exact zAB rfl rfl
 ·refine zAM hmix hT zMP (by simp) ?_
  refine sts ?_;refine zAA ca rfl ?_
  (repeat' (first|refine stp ?_|with_reducible(refine brr ?_ ?_<;>intro h)));all_goals try(conv=>whnf)
  all_goals first | exact zAB rfl rfl | (exfalso; omega)
theorem zJ2 : FO 4 Tryz.f4 [.tmp 4] 42 := mkO Tryz.func4 Tryz.ntmps4 Tryz.results4
theorem zDT (raw at_ : List Int) (h1 : okBy raw) (h2 : okBy at_) : Fn 4 [.imm (raw.map (.int .u8)), .imm (at_.map (.int .u8))] (.data (.bool true)) := by
 obtain ⟨n, x, hB⟩ := beg_of raw at_ h2;have l1 := h1.1;have ca := zE0;have ci := zEO raw h1;have cx := hB.ins;have hxl := hB.len;have hn3 := hB.n3;have hsm := hB.sm;have hnn := hB.hn;have hsz := hB.sz;have hden := hB.den;have k1 := zC4 (insQ raw) 199 x hB.sm (by decide) (by omega) hB.sz;have k2 := zCK (insQ raw) 199 x hB.sm (by decide) (by omega) hB.sz;by_cases hlen : raw.length ≤ 200
 ·by_cases hw : witP (insQ raw) x
  ·have k3 := c_wsimp (insQ raw) 199 n x hsm (by decide) hnn hsz hden hw
   have k4 := c_rsimp (insQ raw) 199 n x hsm (by decide) hnn hsz hden hw;obtain ⟨hin, hv⟩ := (wit_in hsm).1 hw;have hp := sim_ok hsm hnn hin hv n (Nat.le_refl _);have hps := sim_sz hsm hnn hp hden;have hpl : (simI (insQ raw) n x n).length = n := by have := hp.inp.1; omega
   have k5 := zLP (simI (insQ raw) n x n) 200 hps (by decide) (by omega);generalize simI (insQ raw) n x n = y at *
   refine zAM hmix hT zJ2 (by simp) ?_;refine sts ?_;refine zAA ca rfl ?_
   (repeat' (first|refine stp ?_|with_reducible(refine brr ?_ ?_<;>intro h)));all_goals try(conv=>whnf)
   all_goals try (exfalso; omega)
   refine zAA ci rfl ?_;refine sts ?_;refine zAA cx rfl ?_;refine sts ?_;refine zAA k3 rfl ?_;refine sts ?_;refine zAA k4 rfl ?_;refine sts ?_;refine zAA k5 rfl ?_;refine sts ?_;exact zAB rfl rfl
  ·have k3 := c_wsimpN (insQ raw) 199 x hsm (by decide) (by omega) hsz hw
   have k4 := c_rsimpN (insQ raw) 199 x hsm (by decide) (by omega) hsz hw;have k5 := zLP [] 200 (fun r hr => by cases hr) (by decide) (by decide);refine zAM hmix hT zJ2 (by simp) ?_;refine sts ?_;refine zAA ca rfl ?_
   (repeat' (first|refine stp ?_|with_reducible(refine brr ?_ ?_<;>intro h)));all_goals try(conv=>whnf)
   all_goals try (exfalso; omega)
   refine zAA ci rfl ?_;refine sts ?_;refine zAA cx rfl ?_;refine sts ?_;refine zAA k3 rfl ?_;refine sts ?_;refine zAA k4 rfl ?_;refine sts ?_;refine zAA k5 rfl ?_;refine sts ?_;exact zAB rfl rfl
 ·refine zAM hmix hT zJ2 (by simp) ?_
  refine sts ?_;refine zAA ca rfl ?_
  (repeat' (first|refine stp ?_|with_reducible(refine brr ?_ ?_<;>intro h)));all_goals try(conv=>whnf)
  all_goals first | exact zAB rfl rfl | (exfalso; omega)
theorem zMQ : FO 6 Tryz.f6 [.tmp 2] 45 := mkO Tryz.func6 Tryz.ntmps6 Tryz.results6
theorem zD0 (raw : List Int) (h1 : okBy raw) : Fn 6 [.imm (raw.map (.int .u8))] (.data (.bool true)) := by
 have hsm := insQ_ok raw;obtain ⟨n, hnn, n1, n2, n3, n4⟩ := hsm.n;have l1 := h1.1;have ca := zE0;have ci := zEO raw h1;have k1 := zNF (insQ raw) 199 n hsm (by decide) hnn;have k2 := c_rattack (insQ raw) 199 n hsm (by decide) hnn;have kN := c_wattackN qN qN_ok qN_no
 have ho : ∀ y, attO (insQ raw) n (2 ^ n) = some y → y.length = n ∧ ∀ r ∈ y, sz 200 r := fun y hy => by
  have hpt := att_pt hsm hnn (m := 2 ^ n) hy;exact ⟨hpt.1.len, hpt.1.sz⟩
 by_cases hlen : raw.length ≤ 200
 ·cases hO : attO (insQ raw) n (2 ^ n) with
  | none =>
    rw [hO] at k1 k2;have k5 := zLP [] 200 (fun r hr => by cases hr) (by decide) (by decide);refine zAM hmix hT zMQ (by simp) ?_;refine sts ?_;refine zAA ca rfl ?_
    (repeat' (first|refine stp ?_|with_reducible(refine brr ?_ ?_<;>intro h)));all_goals try(conv=>whnf)
    all_goals try (exfalso; omega)
    refine zAA ci rfl ?_;refine sts ?_;refine zAA k1 rfl ?_;refine sts ?_;refine zAA k2 rfl ?_;refine sts ?_;refine zAA kN rfl ?_;refine sts ?_;refine zAA k5 rfl ?_;refine sts ?_;exact zAB rfl rfl
  | some y =>
    rw [hO] at k1 k2;obtain ⟨y1, y2⟩ := ho y hO;have k5 := zLP y 200 y2 (by decide) (by omega);refine zAM hmix hT zMQ (by simp) ?_;refine sts ?_;refine zAA ca rfl ?_
    (repeat' (first|refine stp ?_|with_reducible(refine brr ?_ ?_<;>intro h)));all_goals try(conv=>whnf)
    all_goals try (exfalso; omega)
    refine zAA ci rfl ?_;refine sts ?_;refine zAA k1 rfl ?_;refine sts ?_;refine zAA k2 rfl ?_;refine sts ?_;refine zAA kN rfl ?_;refine sts ?_;refine zAA k5 rfl ?_;refine sts ?_;exact zAB rfl rfl
 ·refine zAM hmix hT zMQ (by simp) ?_
  refine sts ?_;refine zAA ca rfl ?_
  (repeat' (first|refine stp ?_|with_reducible(refine brr ?_ ?_<;>intro h)));all_goals try(conv=>whnf)
  all_goals first | exact zAB rfl rfl | (exfalso; omega)
end Go.PI.Tryz
namespace Go.PI.Tryz
open Go.Proofs Go.PI
set_option maxHeartbeats 2000000
theorem okN_limsW (n : Nat) : okN (lims n) := (zFU _ n (Nat.lt_succ_self _)).1
theorem zJ3 : FO 5 Tryz.f5 [.tmp 4] 62 := mkO Tryz.func5 Tryz.ntmps5 Tryz.results5
theorem zGH (raw at_ : List Int) (h1 : okBy raw) (h2 : okBy at_) : Fn 5 [.imm (raw.map (.int .u8)), .imm (at_.map (.int .u8))] (.data (.bool true)) := by
 obtain ⟨n, x, hB⟩ := beg_of raw at_ h2;have l1 := h1.1;have ca := zE0;have ci := zEO raw h1;have cx := hB.ins;have hxl := hB.len;have hn3 := hB.n3;have hsm := hB.sm;have hnn := hB.hn;have hsz := hB.sz;have hden := hB.den;have k1 := zC4 (insQ raw) 199 x hB.sm (by decide) (by omega) hB.sz;by_cases hlen : raw.length ≤ 200
 ·by_cases hw : witP (insQ raw) x
  ·have k3 := c_wsimp (insQ raw) 199 n x hsm (by decide) hnn hsz hden hw
   obtain ⟨hin, hv⟩ := (wit_in hsm).1 hw;have hp := sim_ok hsm hnn hin hv n (Nat.le_refl _);have hps := sim_sz hsm hnn hp hden;have hpl : (simI (insQ raw) n x n).length = n := by have := hp.inp.1; omega
   have hpd := hp.den;have k4 := zCK (insQ raw) 199 (simI (insQ raw) n x n) hsm (by decide) (by omega) hps;rw [dB_true.2 ((wit_in hsm).2 ⟨hp.inp, hp.val⟩)] at k4;generalize simI (insQ raw) n x n = y at *
   refine zAM hmix hT zJ3 (by simp) ?_;refine sts ?_;refine zAA ca rfl ?_
   (repeat' (first|refine stp ?_|with_reducible(refine brr ?_ ?_<;>intro h)));all_goals try(conv=>whnf)
   all_goals try (exfalso; omega)
   refine zAA ci rfl ?_;refine sts ?_;refine zAA cx rfl ?_;refine sts ?_;refine zAA k3 rfl ?_;refine sts ?_;refine zAA k4 rfl ?_
   (repeat' (first|refine stp ?_|with_reducible(refine brr ?_ ?_<;>intro h)));all_goals try(conv=>whnf)
   all_goals try (exfalso; (try simp only [List.length_map] at *); omega)
   refine zAG hT (fun (i : Nat) => [(6, .imm (x.map encX)), (7, .imm (y.map encX)), (9, .int .i64 i)]) (fun i => []) [] 0
    (fun i => i ≤ n) (fun i => n - i) 0 (Nat.zero_le _) (by decide) (by simp) ?_ ?_
   ·exact ⟨[], [], [], [], ttt, ⟨zAD rfl rfl, zAD rfl rfl, zAC rfl rfl, trivial⟩, trivial, by simp [ren]⟩
   intro i i1;by_cases hi : i < n
   ·have d1 := c_rqden y[i]! 200 (hps _ (get_mem (by omega))) (by decide)
    have d2 := c_rqden x[i]! 200 (hsz _ (get_mem (by omega))) (by decide);have z1 := zBC (hps _ (get_mem (l := y) (i := i) (by omega))).2;have z2 := zBC (hsz _ (get_mem (l := x) (i := i) (by omega))).2;have d3 := c_rncmp (lims y[i]!.den) (lims x[i]!.den) (okN_limsW _) (okN_limsW _) (by omega) (by omega);rw [zAP, zAP] at d3
    have hc : ¬ cmpI (y[i]!.den : Int) (x[i]!.den : Int) > 0 := by
     have := hpd i hi;unfold cmpI; split <;> (try split) <;> omega
    generalize cmpI (y[i]!.den : Int) (x[i]!.den : Int) = C at *
    (repeat' (first|refine stp ?_|with_reducible(refine brr ?_ ?_<;>intro h)));all_goals try(conv=>whnf)
    all_goals try (exfalso; omega)
    refine zAA d1 rfl ?_;refine sts ?_;refine zAA d2 rfl ?_;refine sts ?_;refine zAA d3 rfl ?_
    (repeat' (first|refine stp ?_|with_reducible(refine brr ?_ ?_<;>intro h)));all_goals try(conv=>whnf)
    all_goals try (exfalso; omega)
    exact ⟨i + 1, ⟨by omega, by show n - (i + 1) < n - i; omega⟩, [], [], [], [], ttt, ⟨zAD rfl rfl, zAD rfl rfl, zAC rfl rfl, trivial⟩, trivial, by simp [ren]⟩
   ·(repeat' (first|refine stp ?_|with_reducible(refine brr ?_ ?_<;>intro h)));all_goals try(conv=>whnf)
    all_goals try (exfalso; omega)
    exact zAB rfl rfl
  ·have k3 := c_wsimpN (insQ raw) 199 x hsm (by decide) (by omega) hsz hw
   rw [dB_false.2 hw] at k1;refine zAM hmix hT zJ3 (by simp) ?_;refine sts ?_;refine zAA ca rfl ?_
   (repeat' (first|refine stp ?_|with_reducible(refine brr ?_ ?_<;>intro h)));all_goals try(conv=>whnf)
   all_goals try (exfalso; omega)
   refine zAA ci rfl ?_;refine sts ?_;refine zAA cx rfl ?_;refine sts ?_;refine zAA k3 rfl ?_;refine sts ?_;refine zAA k1 rfl ?_;refine sts ?_;exact zAB rfl rfl
 ·refine zAM hmix hT zJ3 (by simp) ?_
  refine sts ?_;refine zAA ca rfl ?_
  (repeat' (first|refine stp ?_|with_reducible(refine brr ?_ ?_<;>intro h)));all_goals try(conv=>whnf)
  all_goals first | exact zAB rfl rfl | (exfalso; omega)
theorem zFO : FO 8 Tryz.f8 [.tmp 4] 83 := mkO Tryz.func8 Tryz.ntmps8 Tryz.results8
theorem find_core (raw : List Int) (n : Nat) (x : List Rat) (c : Int) (hc : 0 ≤ c ∧ c < 256) (h1 : okBy raw) (hlen : raw.length ≤ 200) (hnn : (insQ raw).g.ins = (n : Int)) (hx : x ∈ candL (insQ raw) (2 ^ n)) (hcc : if c < 8 then x = coR (insQ raw).r c.toNat else x = ceR (insQ raw).r) : Fn 8 [.imm (raw.map (.int .u8)), .int .u8 c] (.data (.bool true)) := by
 have hsm := insQ_ok raw;obtain ⟨n1, n2, n3, n4⟩ := hsm.nn hnn;have l1 := h1.1;have ca := zE0;have ci := zEO raw h1;have c0 := zOV (insQ raw).r (zCE (by decide) hsm.r);have c8 := zOU (insQ raw).r c.toNat (zCE (by decide) hsm.r) (by omega);rw [show ((c.toNat : Nat) : Int) = c by omega] at c8;obtain ⟨hxl, hsz⟩ := cand_sz hsm hnn _ x hx;have k0 := zCK (insQ raw) 199 x hsm (by decide) (by omega) hsz;by_cases hw : witP (insQ raw) x
 ·rw [dB_true.2 hw] at k0
  have k1 := zNF (insQ raw) 199 n hsm (by decide) hnn;cases hO : attO (insQ raw) n (2 ^ n) with
  | none => exact absurd hw (att_no hsm hnn hO x hx)
  | some y =>
    obtain ⟨p1, p2, p3⟩ := att_pt hsm hnn hO;have hle := p3 x hx hw;rw [hO] at k1;have hys := p1.sz;have hyl := p1.len;have k2 := zCK (insQ raw) 199 y hsm (by decide) (by omega) hys;rw [dB_true.2 p2] at k2;have v1 := w_rvals hsm hnn hxl hsz;have v2 := w_rvals hsm hnn hyl hys;have e1 := w_reval hsm (by decide) hnn hxl hsz;have e2 := w_reval hsm (by decide) hnn hyl hys;have z1 := zAJ (zHV hsm (by decide) hnn hxl hsz);have z2 := zAJ (zHV hsm (by decide) hnn hyl hys);have d1 := zDK (cr (wval (insQ raw) y)) (cr (wval (insQ raw) x)) (zAF _) (zAF _) (by omega) (by omega) (by omega) (by omega);rw [zAL, zAL] at d1;have hD := sgn_np.2 hle;generalize sgnQ (wval (insQ raw) y - wval (insQ raw) x) = D at *
    generalize wval (insQ raw) y = w at *
    generalize wval (insQ raw) x = v at *
    generalize vlQ (insQ raw) y = V2 at *
    generalize vlQ (insQ raw) x = V1 at *
    by_cases h8 : c < 8
    ·rw [if_pos h8] at hcc
     rw [← hcc] at c8;refine zAM hmix hT zFO (by simp) ?_;refine sts ?_;refine zAA ca rfl ?_
     (repeat' (first|refine stp ?_|with_reducible(refine brr ?_ ?_<;>intro h)));all_goals try(conv=>whnf)
     all_goals try (exfalso; omega)
     refine zAA ci rfl ?_;refine sts ?_;refine zAA c0 rfl ?_
     (repeat' (first|refine stp ?_|with_reducible(refine brr ?_ ?_<;>intro h)));all_goals try(conv=>whnf)
     all_goals try (exfalso; omega)
     refine zAA c8 rfl ?_;refine sts ?_;refine zAA k0 rfl ?_;refine sts ?_;refine zAA k1 rfl ?_;refine sts ?_;refine zAA k2 rfl ?_;refine sts ?_;refine zAA v1 rfl ?_;refine sts ?_;refine zAA v2 rfl ?_;refine sts ?_;refine zAA e1 rfl ?_;refine sts ?_;refine zAA e2 rfl ?_;refine sts ?_;refine zAA d1 rfl ?_;refine sts ?_;exact zAB rfl (congrArg PV.bool (decide_eq_true hD))
    ·rw [if_neg h8] at hcc
     rw [← hcc] at c0;refine zAM hmix hT zFO (by simp) ?_;refine sts ?_;refine zAA ca rfl ?_
     (repeat' (first|refine stp ?_|with_reducible(refine brr ?_ ?_<;>intro h)));all_goals try(conv=>whnf)
     all_goals try (exfalso; omega)
     refine zAA ci rfl ?_;refine sts ?_;refine zAA c0 rfl ?_
     (repeat' (first|refine stp ?_|with_reducible(refine brr ?_ ?_<;>intro h)));all_goals try(conv=>whnf)
     all_goals try (exfalso; omega)
     refine zAA k0 rfl ?_;refine sts ?_;refine zAA k1 rfl ?_;refine sts ?_;refine zAA k2 rfl ?_;refine sts ?_;refine zAA v1 rfl ?_;refine sts ?_;refine zAA v2 rfl ?_;refine sts ?_;refine zAA e1 rfl ?_;refine sts ?_;refine zAA e2 rfl ?_;refine sts ?_;refine zAA d1 rfl ?_;refine sts ?_;exact zAB rfl (congrArg PV.bool (decide_eq_true hD))
 ·rw [dB_false.2 hw] at k0
  by_cases h8 : c < 8
  ·rw [if_pos h8] at hcc
   rw [← hcc] at c8;refine zAM hmix hT zFO (by simp) ?_;refine sts ?_;refine zAA ca rfl ?_
   (repeat' (first|refine stp ?_|with_reducible(refine brr ?_ ?_<;>intro h)));all_goals try(conv=>whnf)
   all_goals try (exfalso; omega)
   refine zAA ci rfl ?_;refine sts ?_;refine zAA c0 rfl ?_
   (repeat' (first|refine stp ?_|with_reducible(refine brr ?_ ?_<;>intro h)));all_goals try(conv=>whnf)
   all_goals try (exfalso; omega)
   refine zAA c8 rfl ?_;refine sts ?_;refine zAA k0 rfl ?_;refine sts ?_;exact zAB rfl rfl
  ·rw [if_neg h8] at hcc
   rw [← hcc] at c0;refine zAM hmix hT zFO (by simp) ?_;refine sts ?_;refine zAA ca rfl ?_
   (repeat' (first|refine stp ?_|with_reducible(refine brr ?_ ?_<;>intro h)));all_goals try(conv=>whnf)
   all_goals try (exfalso; omega)
   refine zAA ci rfl ?_;refine sts ?_;refine zAA c0 rfl ?_
   (repeat' (first|refine stp ?_|with_reducible(refine brr ?_ ?_<;>intro h)));all_goals try(conv=>whnf)
   all_goals try (exfalso; omega)
   refine zAA k0 rfl ?_;refine sts ?_;exact zAB rfl rfl
theorem zHM (raw : List Int) (c : Int) (h1 : okBy raw) (hc : 0 ≤ c ∧ c < 256) : Fn 8 [.imm (raw.map (.int .u8)), .int .u8 c] (.data (.bool true)) := by
 have hsm := insQ_ok raw;obtain ⟨n, hnn, n1, n2, n3, n4⟩ := hsm.n;by_cases hlen : raw.length ≤ 200
 ·by_cases h8 : c < 8
  ·exact find_core raw n _ c hc h1 hlen hnn (cand_cor hsm hnn (b := c.toNat) (by omega)) (by rw [if_pos h8])
  ·exact find_core raw n _ c hc h1 hlen hnn (cand_cen _ _) (by rw [if_neg h8])
 have l1 := h1.1;have ca := zE0;refine zAM hmix hT zFO (by simp) ?_;refine sts ?_;refine zAA ca rfl ?_
 (repeat' (first|refine stp ?_|with_reducible(refine brr ?_ ?_<;>intro h)));all_goals try(conv=>whnf)
 all_goals first | exact zAB rfl rfl | (exfalso; omega)
theorem zH2 : FO 9 Tryz.f9 [.tmp 6] 60 := mkO Tryz.func9 Tryz.ntmps9 Tryz.results9
theorem zNZ (raw at_ : List Int) (v : Int) (h1 : okBy raw) (h2 : okBy at_) (h3 : -128 ≤ v ∧ v < 128) : Fn 9 [.imm (raw.map (.int .u8)), .imm (at_.map (.int .u8)), .int .i8 v] (.data (.bool true)) := by
 obtain ⟨n, x, hB⟩ := beg_of raw at_ h2;have l1 := h1.1;have ca := zE0;have ci := zEO raw h1;have cx := hB.ins;have hxl := hB.len;have hn3 := hB.n3;have hsm := hB.sm;have hnn := hB.hn;have hsz := hB.sz;have hden := hB.den;have kv := w_rvals hsm hnn hxl hsz;have ke := w_reval hsm (by decide) hnn hxl hsz;have z1 := wval_sz1 hsm hnn hxl hsz;have zl : sz 2 (v : Rat) := sz1 v (by omega);have l2 := zAJ z1;have l3 := zAJ zl;have co := zFY v (by omega);have cs := zNH (cr (v : Rat)) (cr (wval (insQ raw) x)) (zAF _) (zAF _) (by omega) (by omega) (by omega) (by omega);rw [zAL, zAL] at cs;have zd := zA4 (k := 300000) (by decide) (sz_sub zl z1);have hlo := lev_ok hsm zd;have hlv := lev_val (insQ raw) ((v : Rat) - wval (insQ raw) x) x;have hlv2 : wval (levQ (insQ raw) ((v : Rat) - wval (insQ raw) x)) x = (v : Rat) := by rw [hlv]; grind
 have hgo := zCC hsm.va.2.2;have hgt := (zE8 hsm).2.2;have cad := c_radd5 (insQ raw).goal.Q ⟨[], (v : Rat) - wval (insQ raw) x⟩ 199 300000 (zBT hsm.goal (by decide)) ⟨zd, fun p hp => by cases hp⟩ hgo.1 zC5 (by decide) (by decide) (by decide) (by rw [zE1]; show (insQ raw).goal.terms.length + 0 ≤ _; omega);rw [mov_add hgo.1, zE6 hsm.va.2.2] at cad;have kc := w_scon hsm (x := x) (by omega) hsz;have k1 := zC4 (levQ (insQ raw) ((v : Rat) - wval (insQ raw) x)) 300210 x hlo (by decide) (by omega) hsz
 have eQ : encQry (levQ (insQ raw) ((v : Rat) - wval (insQ raw) x)) = .agg [.int .i64 (insQ raw).g.ins, .imm ((insQ raw).g.units.map encAff), .imm ((insQ raw).g.outs.map encAff), .imm ((insQ raw).r.lo.map encRat), .imm ((insQ raw).r.hi.map encRat), .imm ((insQ raw).r.rows.map encAff), .imm ((movG (insQ raw).goal.Q ((v : Rat) - wval (insQ raw) x)).ts.map encQ), .bool (cr (movG (insQ raw).goal.Q ((v : Rat) - wval (insQ raw) x)).c).neg, encN (cr (movG (insQ raw).goal.Q ((v : Rat) - wval (insQ raw) x)).c).num, encN (cr (movG (insQ raw).goal.Q ((v : Rat) - wval (insQ raw) x)).c).den] := by
  have e3 : (movG (insQ raw).goal.Q ((v : Rat) - wval (insQ raw) x)).L.terms.map encTerm = (movG (insQ raw).goal.Q ((v : Rat) - wval (insQ raw) x)).ts.map encQ := by
   unfold QF.L; simp only [List.map_map]; rfl
  rw [← e3]; rfl
 rw [eQ] at k1
 have hcast : (v : Rat) < 0 ↔ v < 0 := by
  have := Rat.intCast_lt_intCast (a := v) (b := 0)
  simpa using this
 have hP : dB (witP (levQ (insQ raw) ((v : Rat) - wval (insQ raw) x)) x) = (decide (v < 0) && dB (conR (insQ raw).r (x.map cr))) := by
  rw [Bool.eq_iff_iff, dB_true, Bool.and_eq_true, decide_eq_true_eq, dB_true];unfold witP;rw [hlv2, hcast];exact ⟨fun h => ⟨h.2.2, h.2.1⟩, fun h => ⟨by show (x.length : Int) = (insQ raw).g.ins; omega, h.2, h.1⟩⟩
 rw [hP] at k1;by_cases hlen : raw.length ≤ 200
 ·generalize dB (conR (insQ raw).r (x.map cr)) = C at *
  clear hP hlv hlv2 hlo eQ zd;generalize movG (insQ raw).goal.Q ((v : Rat) - wval (insQ raw) x) = G at *
  generalize (v : Rat) - wval (insQ raw) x = d at *
  generalize wval (insQ raw) x = w at *
  generalize vlQ (insQ raw) x = V1 at *
  by_cases h0 : v < 0
  ·rw [decide_eq_true h0, Bool.true_and] at k1
   refine zAM hmix hT zH2 (by simp) ?_;refine sts ?_;refine zAA ca rfl ?_
   (repeat' (first|refine stp ?_|with_reducible(refine brr ?_ ?_<;>intro h)));all_goals try(conv=>whnf)
   all_goals try (exfalso; omega)
   refine zAA ci rfl ?_;refine sts ?_;refine zAA cx rfl ?_;refine sts ?_;refine zAA kv rfl ?_;refine sts ?_;refine zAA ke rfl ?_;refine sts ?_;refine zAA co rfl ?_;refine sts ?_;refine zAA cs rfl ?_;refine sts ?_;refine zAA cad rfl ?_;refine sts ?_;refine zAA k1 rfl ?_
   (repeat' (first|refine stp ?_|with_reducible(refine brr ?_ ?_<;>intro h)));all_goals try(conv=>whnf)
   refine zAA kc rfl ?_;refine sts ?_
   all_goals try (exfalso; omega)
   exact zAB rfl (by cases C <;> rfl)
  ·rw [decide_eq_false h0, Bool.false_and] at k1
   refine zAM hmix hT zH2 (by simp) ?_;refine sts ?_;refine zAA ca rfl ?_
   (repeat' (first|refine stp ?_|with_reducible(refine brr ?_ ?_<;>intro h)));all_goals try(conv=>whnf)
   all_goals try (exfalso; omega)
   refine zAA ci rfl ?_;refine sts ?_;refine zAA cx rfl ?_;refine sts ?_;refine zAA kv rfl ?_;refine sts ?_;refine zAA ke rfl ?_;refine sts ?_;refine zAA co rfl ?_;refine sts ?_;refine zAA cs rfl ?_;refine sts ?_;refine zAA cad rfl ?_;refine sts ?_;refine zAA k1 rfl ?_
   (repeat' (first|refine stp ?_|with_reducible(refine brr ?_ ?_<;>intro h)));all_goals try(conv=>whnf)
   all_goals try (exfalso; omega)
   exact zAB rfl rfl
 ·refine zAM hmix hT zH2 (by simp) ?_
  refine sts ?_;refine zAA ca rfl ?_
  (repeat' (first|refine stp ?_|with_reducible(refine brr ?_ ?_<;>intro h)));all_goals try(conv=>whnf)
  all_goals first | exact zAB rfl rfl | (exfalso; omega)
end Go.PI.Tryz
namespace Go.PI.Tryz
open Go Go.Proofs Go.PI Go.Proofs.YtdgckinmcnjheaaGreat
open Go.ChangeShapes Go.WideShapes Go.ChangeAt Go.RowKit
section
variable {H : Type} {enc : TypeId × Value → H} {w : World}
theorem r_i8s (m : Nat) : Reads enc Tryz.prog w m 23 (fun xs : List Int => [.imm (xs.map (.int .i8))]) (QL (fun x b => (Lit.int .i8 x).wf = true ∧ 1 ≤ b)) :=
 (zMB (n := m) (sz := 1) Tryz.underlying23 (by kernel_rfl) (by decide) (fun _ => ⟨rfl, rfl⟩) (zIL Tryz.underlying43)).le (by omega)
theorem i8_of {x : Int} (h : (Lit.int .i8 x).wf = true) : -128 ≤ x ∧ x < 128 := by
 have : -128 ≤ x ∧ x ≤ 127 := by simpa [Lit.wf, IntKind.min, IntKind.max, IntKind.signed, IntKind.bits] using h
 omega
theorem byte_of {x : Int} (h : (Lit.int .u8 x).wf = true) : 0 ≤ x ∧ x < 256 := by
 have : 0 ≤ x ∧ x ≤ 255 := by simpa [Lit.wf, IntKind.min, IntKind.max, IntKind.signed, IntKind.bits] using h
 omega
theorem i8s_of {xs : List Int} {B : Nat} (h : QL (fun x b => (Lit.int .i8 x).wf = true ∧ 1 ≤ b) xs B) (hB : B ≤ 1048576) : xs.length ≤ 1048576 ∧ ∀ z ∈ xs, -128 ≤ z ∧ z < 128 := by
 have := QL.len (fun _ _ h => h.2) h;exact ⟨by omega, fun z hz => by obtain ⟨b, h1, _⟩ := QL.mem h z hz; exact i8_of h1.1⟩
end
end Go.PI.Tryz
