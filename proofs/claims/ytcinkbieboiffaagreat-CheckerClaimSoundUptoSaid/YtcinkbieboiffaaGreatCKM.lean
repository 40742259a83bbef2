/-
  What is read at the types of cases.
-/
import Derived.Test.YtcinkbieboiffaaGreatCKL
import Derived.Test.YtcinkbieboiffaaGreatCSA
set_option linter.unusedVariables false
set_option linter.unusedSimpArgs false
set_option linter.unnecessarySimpa false
namespace Go.PI.Tryz
open Go.Proofs Go.PI
def qS (q : QryL) : Nat := 2 * lsL q.r.lo + lsL q.r.hi + 4 * q.r.lo.length + gL q.g.units + gL q.g.outs + lnA q.goal + 1
theorem zMX {f : AffL} {n : Int} (h : ValidF f n) : ∀ t ∈ f.terms, 0 ≤ t.var ∧ t.var < n := fun t ht => by
 obtain ⟨i, hi, rfl⟩ := List.getElem_of_mem ht;have := h.1 i hi;rw [← getElem!_pos f.terms i hi];exact ⟨this.1, this.2.1⟩
theorem zK6 {f : AffL} {n : Int} {m : Nat} (h : ValidF f n) (hn : n ≤ m) : f.terms.length ≤ m := by
 have h1 := zD0 h;have h2 := zDP m h1.1.1 fun t ht => by have := h1.2 t ht; omega
 simpa [AffL.Q] using h2
structure ptOk (g : GraL) (x : List Rat) (e : Nat) : Prop where
 len : (x.length : Int) = g.ins
 bd : ∃ E M, E < pw e ∧ M < pw e ∧ BdL E M x
theorem pt_ins {q : QryL} {P : Nat} (hva : VaQ q) (hz : szQ q P) (l : List Int) : ptOk q.g (insR q.r l) (2 * lsL q.r.lo + lsL q.r.hi + 4 * q.r.lo.length + 1) := by
 have h1 := hva.2.1.2.1;have h2 := hva.2.1.2.2.1;exact ⟨by simp [insR]; omega, ins_bd hz.r.1 hz.r.2.1 (by omega)⟩
section
variable {g : GraL} {x : List Rat} {P e : Nat}
theorem gv_vars (hv : VaG g) (hx : ptOk g x e) : ∀ j, j < g.units.length → ∀ t ∈ g.units[j]!.terms, 0 ≤ t.var ∧ t.var < (x.length + j : Nat) := fun j hj t ht => by
 have := zMX (hv.2.2.2.1 j hj) t ht;have := hx.len; omega
theorem gv_sz (hv : VaG g) (hg : okGra P g) (hx : ptOk g x e) : (∀ j, j ≤ g.units.length → ∀ v ∈ valsN g.us x j, sz (2 * (e + gL g.units)) v) ∧ (∀ j, j < g.units.length → sz (2 * (e + gL g.units)) (preL g.us x)[j]!) := by
 obtain ⟨h1, h2⟩ := vals_sz hg.1.2 hx.bd (gv_vars hv hx);refine ⟨h1, fun j hj => ?_⟩;rw [preL_get (by rw [zM0]; exact hj)];exact h2 j hj
end
theorem zNE (x : List Rat) : (x.map cr).map encRat = x.map encX := by rw [List.map_map]; rfl
theorem zJS (x : List Rat) : (x.map cr).map qv = x := by
 rw [List.map_map]; conv => rhs; rw [← List.map_id x]
 exact List.map_congr_left fun q _ => by simp [zBA]
theorem reg_con {q : QryL} {P : Nat} (hva : VaQ q) (hz : szQ q P) (hP : P ≤ 2000000) {x : List Rat} {e : Nat} (hx : ptOk q.g x e) (he1 : 1 ≤ e) (he : e ≤ 8000000) (hn : q.g.ins ≤ 8) : Fn 36 [encReg q.r, .imm (x.map encX)] (.data (.bool (dB (conR q.r (x.map cr))))) := by
 have hl : x.length ≤ 8 := by have := hx.len; omega
 have hP1 := hz.P1;obtain ⟨E, M, g1, g2, g3⟩ := hx.bd
 have := c_sgcont q.r (x.map cr) P (2 * e) hz.r hP1 (by omega) ⟨by simp; omega, fun y hy => by
  obtain ⟨q, hq, rfl⟩ := List.mem_map.1 hy
  exact zBU (by omega) (zIN (g3.sz g1 g2 q hq))⟩ (fun f hf => by
   obtain ⟨j, hj, rfl⟩ := List.getElem_of_mem hf;have h4 := hva.2.1.2.2.2.2.2 j hj;rw [getElem!_pos q.r.rows j hj] at h4;have h5 := zK6 (m := 16) h4 (by omega);have := Nat.mul_le_mul_right (P + 2 * e + 1) h5
   omega) (by omega) (by omega)
 rw [zNE] at this;exact this
theorem in_of_con {q : QryL} (hva : VaQ q) {x : List Rat} (h : conR q.r (x.map cr)) : inQ q x := by
 obtain ⟨h1, h2, h3, h4⟩ := h;rw [zJS] at h4;have h5 := hva.2.1.2.1;rw [List.length_map] at h2 h3;refine ⟨by omega, fun i hi => ?_, h4⟩;have := h3 i hi;rw [getD_map_cr hi, zBA] at this;exact this
theorem bin_of : ∀ (k : Nat) (n : NodeL) (d : Nat), SizeOf.sizeOf n < k → formOk d n = true → n.Bin := by
 intro k
 induction k with
 | zero => intro n d h; omega
 | succ k ih =>
   intro n d h hf;by_cases h0 : n.kids.length = 0
   ·exact .mk n (Or.inl h0) fun x hx => by rw [List.length_eq_zero_iff.1 h0] at hx; cases hx
   ·have hfo := hf
    rw [zB8 h0] at hfo;simp only [Bool.and_eq_true, decide_eq_true_eq] at hfo;have h5 := hfo.1.1;unfold innerOk at h5;obtain ⟨e1, _⟩ := of_decide_eq_true h5;refine .mk n (Or.inr e1) fun x hx => ih x (d - 1) (by have := NodeL.sizeOf_kid hx; omega) ?_
    exact List.all_eq_true.1 hfo.2 x hx
theorem tree_sound {q : QryL} {n : NodeL} (h : (treeR q n).2 = 0) {x : List Rat} (hx : inQ q x) : 0 ≤ evQ q.goal.Q (vlQ q x) := by
 unfold treeR at h
 split at h
 ·rename_i hv
  split at h
  ·rename_i hb
   have hf : formOk 2048 n = true := by have := hv.1; unfold NodeL.valid at this; simp only [Bool.and_eq_true] at this; exact this.1
   exact below_sound _ n ⟨q, [], []⟩ (Nat.lt_succ_self _) (bin_of _ n _ (Nat.lt_succ_self _) hf) ⟨hv.2, fun d hd => by cases hd⟩ ⟨hx, (fun d hd => by cases hd), (fun m hm => by cases hm)⟩ hb
  ·cases h
 ·cases h
end Go.PI.Tryz
namespace Go.PI.Tryz
open Go Go.Proofs Go.PI Go.Proofs.YtcinkbieboiffaaGreat
open Go.ChangeShapes Go.WideShapes Go.ChangeAt Go.RowKit
section
variable {H : Type} {enc : TypeId × Value → H} {w : World}
theorem QGra.okB {x : GraL} {B : Nat} (h : QGra x B) (hB : B ≤ 1048576) : okGra B x := by
 obtain ⟨b, c, h1, h2, h3⟩ := h;have g1 := zKO h1 (by omega);have g2 := zKO h2 (by omega);exact ⟨⟨g1.1, fun f hf => zBE (by omega) (g1.2 f hf)⟩, ⟨g2.1, fun f hf => zBE (by omega) (g2.2 f hf)⟩⟩
theorem QReg.okB {x : RegL} {B : Nat} (h : QReg x B) (hB : B ≤ 1048576) : okReg B x := by
 obtain ⟨a, b, c, h1, h2, h3, h4⟩ := h;have g3 := zKO h3 (by omega);exact ⟨zFR (by omega) (okLs_of' h1 (by omega)), zFR (by omega) (okLs_of' h2 (by omega)), fun f hf => zBE (by omega) (g3.2 f hf), g3.1⟩
theorem QQry.szB {q : QryL} {B : Nat} (h : QQry q B) (hB : B ≤ 1048576) : szQ q B := by
 obtain ⟨a, b, c, h1, h2, h3, h4⟩ := h;have hp := QAff.pos _ _ h3;have g1 := h1.okB (by omega);have g2 := h2.okB (by omega);exact ⟨by omega, ⟨⟨g1.1.1, fun f hf => zBE (by omega) (g1.1.2 f hf)⟩, ⟨g1.2.1, fun f hf => zBE (by omega) (g1.2.2 f hf)⟩⟩, zEJ (by omega) g2, zBE (by omega) (okA_of h3 (by omega))⟩
structure CaseL where
 q : QryL
 n : NodeL
 x : List Int
def QCase (c : CaseL) (B : Nat) : Prop := ∃ a b d, QQry c.q a ∧ QNode c.n b ∧ QL (fun x b => (Lit.int .u8 x).wf = true ∧ 1 ≤ b) c.x d ∧ a + b + d ≤ B
theorem QQry.qS {q : QryL} {B : Nat} (h : QQry q B) : qS q ≤ 3 * B := by
 obtain ⟨a, b, c, ⟨a1, a2, g1, g2, g3⟩, ⟨b1, b2, b3, h1, h2, h3, h4⟩, h5, h6⟩ := h;have e1 := gL_of g1;have e2 := gL_of g2;have e3 := lsL_of h1;have e4 := lsL_of h2;have e5 := h5.ln;unfold Tryz.qS;omega
theorem QCase.more {c : CaseL} {B : Nat} (h : QCase c B) (hB : B ≤ 1048576) : Tryz.qS c.q ≤ 8000000 ∧ okBy c.x := by
 obtain ⟨a, b, d, h1, h2, h3, h4⟩ := h;exact ⟨by have := h1.qS; omega, okBy_of h3 (by omega)⟩
theorem QCase.goal {c : CaseL} {B : Nat} (h : QCase c B) (hB : B ≤ 1048576) : ∃ Bq Bn, inB c.q c.n Bq Bn ∧ okA Bq c.q.goal ∧ Bq + Bn ≤ B := by
 obtain ⟨a, b, d, h1, h2, h3, h4⟩ := h;obtain ⟨a1, b1, c1, g1, g2, g3, g4⟩ := id h1;exact ⟨a, b, ⟨h1.szB (by omega), by omega, h2.2.1, h2.2.2 (by omega), h2.1.2, h2.1.1⟩, zBE (by omega) (okA_of g3 (by omega)), by omega⟩
theorem QCase.inB {c : CaseL} {B : Nat} (h : QCase c B) (hB : B ≤ 1048576) : ∃ Bq Bn, inB c.q c.n Bq Bn ∧ Bq + Bn ≤ B := by
 obtain ⟨a, b, d, h1, h2, h3, h4⟩ := h;exact ⟨a, b, ⟨h1.szB (by omega), by omega, h2.2.1, h2.2.2 (by omega), h2.1.2, h2.1.1⟩, by omega⟩
end
end Go.PI.Tryz
