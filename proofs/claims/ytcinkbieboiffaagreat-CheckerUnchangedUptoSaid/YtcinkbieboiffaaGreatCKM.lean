/-
  What is read at the types of cases.
-/
import Derived.Test.YtcinkbieboiffaaGreatCKL
import Derived.Test.YtcinkbieboiffaaGreatCSA
set_option linter.unusedVariables false
set_option linter.unusedSimpArgs false
set_option linter.unnecessarySimpa false
namespace Go.PI.Tryz
open Go.Proofs Go.PI
def qS (q : QryL) : Nat := 2 * lsL q.r.lo + lsL q.r.hi + 4 * q.r.lo.length + gL q.g.units + gL q.g.outs + lnA q.goal + 1
theorem zNL {f : AffL} {n : Int} (h : ValidF f n) : ∀ t ∈ f.terms, 0 ≤ t.var ∧ t.var < n := fun t ht => by
 obtain ⟨i, hi, rfl⟩ := List.getElem_of_mem ht;have := h.1 i hi;rw [← getElem!_pos f.terms i hi];exact ⟨this.1, this.2.1⟩
theorem zIC {f : AffL} {n : Int} {m : Nat} (h : ValidF f n) (hn : n ≤ m) : f.terms.length ≤ m := by
 have h1 := zEB h;have h2 := srt_len m h1.1.1 fun t ht => by have := h1.2 t ht; omega
 simpa [AffL.Q] using h2
structure ptOk (g : GraL) (x : List Rat) (e : Nat) : Prop where
 len : (x.length : Int) = g.ins
 bd : ∃ E M, E < pw e ∧ M < pw e ∧ BdL E M x
theorem pt_ins {q : QryL} {P : Nat} (hva : VaQ q) (hz : szQ q P) (l : List Int) : ptOk q.g (insR q.r l) (2 * lsL q.r.lo + lsL q.r.hi + 4 * q.r.lo.length + 1) := by
 have h1 := hva.2.1.2.1;have h2 := hva.2.1.2.2.1;exact ⟨by simp [insR]; omega, ins_bd hz.r.1 hz.r.2.1 (by omega)⟩
section
variable {g : GraL} {x : List Rat} {P e : Nat}
theorem gv_vars (hv : VaG g) (hx : ptOk g x e) : ∀ j, j < g.units.length → ∀ t ∈ g.units[j]!.terms, 0 ≤ t.var ∧ t.var < (x.length + j : Nat) := fun j hj t ht => by
 have := zNL (hv.2.2.2.1 j hj) t ht;have := hx.len; omega
theorem gv_sz (hv : VaG g) (hg : okGra P g) (hx : ptOk g x e) : (∀ j, j ≤ g.units.length → ∀ v ∈ valsN g.us x j, sz (2 * (e + gL g.units)) v) ∧ (∀ j, j < g.units.length → sz (2 * (e + gL g.units)) (preL g.us x)[j]!) := by
 obtain ⟨h1, h2⟩ := vals_sz hg.1.2 hx.bd (gv_vars hv hx);refine ⟨h1, fun j hj => ?_⟩;rw [preL_get (by rw [us_len]; exact hj)];exact h2 j hj
theorem gv_vals (hv : VaG g) (hg : okGra P g) (hx : ptOk g x e) (hP1 : 1 ≤ P) (hP : P ≤ 2000000) (he1 : 1 ≤ e) (he : e + gL g.units ≤ 8000000) (hn : g.ins ≤ 8 ∧ g.units.length ≤ 8) : Fn 55 [encGra g, .imm (x.map encX)] (.data (.tup [.imm ((valsN g.us x g.us.length).map encX), .int .i64 0])) := by
 obtain ⟨h1, h2⟩ := gv_sz hv hg hx;have hl : x.length ≤ 8 := by have := hx.len; omega
 have e1 : (x.map cr).map qv = x := by rw [List.map_map]; conv => rhs; rw [← List.map_id x]
                                       exact List.map_congr_left fun q _ => by simp [zBD]
 have := c_rgvalues g (x.map cr) P (2 * (e + gL g.units)) hg (by omega) hP1 (by omega) (by omega) hv ⟨by simp; omega, fun y hy => by
  obtain ⟨q, hq, rfl⟩ := List.mem_map.1 hy;have h3 := h1 0 (Nat.zero_le _) q (by rw [zEU]; exact hq)
  exact zCB (by omega) (zKR h3)⟩ (by simpa using hx.len) (by rw [e1]; exact fun j hj => ⟨h1 j (by omega), h2 j hj⟩) (fun f hf => by
   obtain ⟨j, hj, rfl⟩ := List.getElem_of_mem hf;have h4 := hv.2.2.2.1 j hj;rw [getElem!_pos g.units j hj] at h4;have h5 := zIC (m := 16) h4 (by omega);have := Nat.mul_le_mul_right (P + 2 * (e + gL g.units) + 1) h5
   omega)
 rw [e1, List.map_map] at this;exact this
end
theorem map_cr_enc (x : List Rat) : (x.map cr).map encRat = x.map encX := by rw [List.map_map]; rfl
theorem map_cr_qv' (x : List Rat) : (x.map cr).map qv = x := by
 rw [List.map_map]; conv => rhs; rw [← List.map_id x]
 exact List.map_congr_left fun q _ => by simp [zBD]
theorem reg_con {q : QryL} {P : Nat} (hva : VaQ q) (hz : szQ q P) (hP : P ≤ 2000000) {x : List Rat} {e : Nat} (hx : ptOk q.g x e) (he1 : 1 ≤ e) (he : e ≤ 8000000) (hn : q.g.ins ≤ 8) : Fn 36 [encReg q.r, .imm (x.map encX)] (.data (.bool (dB (conR q.r (x.map cr))))) := by
 have hl : x.length ≤ 8 := by have := hx.len; omega
 have hP1 := hz.P1;obtain ⟨E, M, g1, g2, g3⟩ := hx.bd
 have := c_sgcont q.r (x.map cr) P (2 * e) hz.r hP1 (by omega) ⟨by simp; omega, fun y hy => by
  obtain ⟨q, hq, rfl⟩ := List.mem_map.1 hy
  exact zCB (by omega) (zKR (g3.sz g1 g2 q hq))⟩ (fun f hf => by
   obtain ⟨j, hj, rfl⟩ := List.getElem_of_mem hf;have h4 := hva.2.1.2.2.2.2.2 j hj;rw [getElem!_pos q.r.rows j hj] at h4;have h5 := zIC (m := 16) h4 (by omega);have := Nat.mul_le_mul_right (P + 2 * e + 1) h5
   omega) (by omega) (by omega)
 rw [map_cr_enc] at this;exact this
theorem gv_eval {g : GraL} {x : List Rat} {P e : Nat} (hv : VaG g) (hg : okGra P g) (hx : ptOk g x e) (hP1 : 1 ≤ P) (hP : P ≤ 2000000) (he1 : 1 ≤ e) (he : e + gL g.units ≤ 8000000) (hn : g.ins ≤ 8 ∧ g.units.length ≤ 8) {f : AffL} (hf : okA 8000000 f) (hfv : ValidF f (g.ins + g.units.length)) : Fn 56 [encAff f, .imm ((valsN g.us x g.us.length).map encX)] (.data (.tup [encRat (cr (evQ f.Q (valsN g.us x g.us.length))), .int .i64 0])) := by
 obtain ⟨h1, h2⟩ := gv_sz hv hg hx;have hl : x.length ≤ 8 := by have := hx.len; omega
 have hlen : (valsN g.us x g.us.length).length = x.length + g.units.length := by rw [zD9 _ (Nat.le_refl _), us_len]
 have h5 := zIC (m := 16) hfv (by omega);have e5 : f.Q.ts.length = f.terms.length := by simp [AffL.Q]
 have hmul := Nat.mul_le_mul_right (8000000 + 2 * (e + gL g.units) + 1) h5;have hok := zEB hfv
 have := c_rleval f.Q (valsN g.us x g.us.length) 8000000 (2 * (e + gL g.units)) (zDX hf (by decide)) (fun q hq => h1 _ (Nat.le_refl _) q (by rw [us_len] at hq; exact hq)) (fun p hp => by
  have := hok.2 p hp;have := hx.len
  rw [hlen]; omega) (by rw [e5]; omega) (by omega) (by omega)
 rw [zH8 hfv] at this;exact this
theorem zNY : FO 17 Tryz.f17 [.cell 4 32, .tmp 5] 41 := mkO Tryz.func17 Tryz.ntmps17 Tryz.results17
theorem c_value48 (q : QryL) (l : List Int) (P : Nat) (hva : VaQ q) (hz : szQ q P) (hgo : okA 8000000 q.goal) (hP : P ≤ 2000000) (hS : qS q ≤ 8000000) (hn : q.g.ins ≤ 8 ∧ q.g.units.length ≤ 8) (hl : okBy l) : Fn 17 [encQry q, .imm (l.map (.int .u8))]
 (.data (if dB (conR q.r ((insR q.r l).map cr)) = true then .tup [encRat (cr (evQ q.goal.Q (vlQ q (insR q.r l)))), .bool true] else .tup [encRat ⟨false, [], []⟩, .bool false])) := by
 have hx := pt_ins hva hz l;unfold qS at hS;have h1 := hva.2.1.2.1;have h2 := hva.2.1.2.2.1;have c1 := c_sgins q.r l (zLB (by omega) hz.r) (by omega) hl;have c2 := reg_con hva hz hP hx (by omega) (by omega) hn.1;have c3 := gv_vals hva.1 hz.g hx hz.P1 hP (by omega) (by omega) hn;have c4 := gv_eval hva.1 hz.g hx hz.P1 hP (by omega) (by omega) hn hgo hva.2.2;have e4 : valsN q.g.us (insR q.r l) q.g.us.length = vlQ q (insR q.r l) := rfl;rw [e4] at c3 c4;generalize insR q.r l = X at *
 by_cases hc : conR q.r (X.map cr)
 ·rw [dB_true.2 hc] at c2
  rw [if_pos (dB_true.2 hc)];generalize vlQ q X = Y at *
  refine zAJ hmix hT zNY (by simp [encQry]) ?_;refine sns ?_;refine zAA c1 rfl ?_;refine sns ?_;refine zAA c2 rfl ?_;refine sns ?_;refine zAA c3 rfl ?_;refine sns ?_;refine zAA c4 rfl ?_;refine sns ?_;exact zAB rfl rfl
 ·rw [dB_false.2 hc] at c2
  rw [if_neg (by rw [dB_false.2 hc]; decide)];refine zAJ hmix hT zNY (by simp [encQry]) ?_;refine sns ?_;refine zAA c1 rfl ?_;refine sns ?_;refine zAA c2 rfl ?_;refine sns ?_;exact zAB rfl rfl
theorem in_of_con {q : QryL} (hva : VaQ q) {x : List Rat} (h : conR q.r (x.map cr)) : inQ q x := by
 obtain ⟨h1, h2, h3, h4⟩ := h;rw [map_cr_qv'] at h4;have h5 := hva.2.1.2.1;rw [List.length_map] at h2 h3;refine ⟨by omega, fun i hi => ?_, h4⟩;have := h3 i hi;rw [getD_map_cr hi, zBD] at this;exact this
theorem bin_of : ∀ (k : Nat) (n : NodeL) (d : Nat), SizeOf.sizeOf n < k → formOk d n = true → n.Bin := by
 intro k
 induction k with
 | zero => intro n d h; omega
 | succ k ih =>
   intro n d h hf;by_cases h0 : n.kids.length = 0
   ·exact .mk n (Or.inl h0) fun x hx => by rw [List.length_eq_zero_iff.1 h0] at hx; cases hx
   ·have hfo := hf
    rw [zBW h0] at hfo;simp only [Bool.and_eq_true, decide_eq_true_eq] at hfo;have h5 := hfo.1.1;unfold innerOk at h5;obtain ⟨e1, _⟩ := of_decide_eq_true h5;refine .mk n (Or.inr e1) fun x hx => ih x (d - 1) (by have := NodeL.sizeOf_kid hx; omega) ?_
    exact List.all_eq_true.1 hfo.2 x hx
theorem tree_sound {q : QryL} {n : NodeL} (h : (treeR q n).2 = 0) {x : List Rat} (hx : inQ q x) : 0 ≤ evQ q.goal.Q (vlQ q x) := by
 unfold treeR at h
 split at h
 ·rename_i hv
  split at h
  ·rename_i hb
   have hf : formOk 2048 n = true := by have := hv.1; unfold NodeL.valid at this; simp only [Bool.and_eq_true] at this; exact this.1
   exact below_sound _ n ⟨q, [], []⟩ (Nat.lt_succ_self _) (bin_of _ n _ (Nat.lt_succ_self _) hf) ⟨hv.2, fun d hd => by cases hd⟩ ⟨hx, (fun d hd => by cases hd), (fun m hm => by cases hm)⟩ hb
  ·cases h
 ·cases h
theorem zEQ : FO 4 Tryz.f4 [.tmp 2] 57 := mkO Tryz.func4 Tryz.ntmps4 Tryz.results4
theorem zNI (q : QryL) (n : NodeL) (x : List Int) (Bq Bn : Nat) (hi : inB q n Bq Bn) (hgo : okA 8000000 q.goal) (hS : qS q ≤ 8000000) (hx : okBy x) : Fn 4 [encCase q n x] (.data (.bool true)) := by
 obtain ⟨b, hb, cf⟩ := zKB hi;have hP : Bq ≤ 2000000 := by have := hi.B; omega
 have hlx := hx.1
 have other : ∀ b' : Bool, Fn 12 [encQry q, nodeV n] (.data (.bool false)) → Fn 4 [encCase q n x] (.data (.bool true)) := fun _ cf => by
  refine zAJ hmix hT zEQ (by simp [encCase]) ?_;refine sns ?_;refine zAA zAX rfl ?_;refine sns ?_;refine zAA cf rfl ?_;refine sns ?_;refine zAA zAX rfl ?_;refine sns ?_;exact zAB rfl rfl
 cases b with
 | false => exact other true cf
 | true =>
   obtain ⟨f1, f2, f3, f4⟩ := hb rfl;have cv := zE0 q Bq hi.q (by omega);by_cases hva : VaQ q
   ·rw [dB_true.2 hva] at cv
    obtain ⟨t1, _⟩ := zD5 hi f4 (by omega);have cw := c_value48 q x Bq hva hi.q hgo hP hS ⟨f2, f1⟩ hx;have hsnd := fun (h0 : (treeR q n).2 = 0) => tree_sound (x := insR q.r x) h0
    generalize treeR q n = R at *
    by_cases hc : conR q.r ((insR q.r x).map cr)
    ·rw [if_pos (dB_true.2 hc)] at cw
     have hin := in_of_con hva hc;have hpt := pt_ins hva hi.q x
     have hsz : sz (2 * (2 * lsL q.r.lo + lsL q.r.hi + 4 * q.r.lo.length + 1 + gL q.g.units + lnA q.goal)) (evQ q.goal.Q (vlQ q (insR q.r x))) := by
      have := form_sz hi.q.g.1.2 hpt.bd (gv_vars hva.1 hpt) hgo (fun t ht => by
       have := zNL hva.2.2 t ht
       have := hpt.len; omega)
      rw [← us_len q.g] at this;exact this
     have hlen := (zBA hsz).1;unfold qS at hS;obtain ⟨y, hy⟩ : ∃ y, evQ q.goal.Q (vlQ q (insR q.r x)) = y := ⟨_, rfl⟩;have hsn := fun h0 => hsnd h0 hin
     rw [hy] at cw hsn hlen;clear hsnd;have cs := zDT (cr y) (zA4 y) (by omega);rw [zBD] at cs;refine zAJ hmix hT zEQ (by simp [encCase]) ?_;refine sns ?_;refine zAA zAX rfl ?_;refine sns ?_;refine zAA cf rfl ?_
     (repeat' (first|refine stn ?_|(with_reducible refine brr ?_ ?_<;>intro h)|(with_reducible refine zAF ?_ ?_<;>intro h)|with_reducible refine zAL ?_ ?_)); all_goals try (conv=>whnf)
     ·refine zAA zAX rfl ?_
      refine sns ?_;exact zAB rfl rfl
     refine zAA cv rfl ?_;refine sns ?_;refine zAA t1 rfl ?_;refine sns ?_;refine zAA cw rfl ?_
     (repeat' (first|refine stn ?_|(with_reducible refine brr ?_ ?_<;>intro h)|(with_reducible refine zAF ?_ ?_<;>intro h)|with_reducible refine zAL ?_ ?_)); all_goals try (conv=>whnf)
     ·exact zAB rfl rfl
     refine zAA cs rfl ?_;refine sns ?_;have h0 : ¬ sgnQ y < 0 := fun e => absurd (sgnQ_neg.1 e) (Rat.not_lt.2 (hsn h))
     exact zAB rfl (congrArg PV.bool (decide_eq_true (show 0 ≤ sgnQ y by omega)))
    ·rw [if_neg (by rw [dB_false.2 hc]; decide)] at cw
     refine zAJ hmix hT zEQ (by simp [encCase]) ?_;refine sns ?_;refine zAA zAX rfl ?_;refine sns ?_;refine zAA cf rfl ?_
     (repeat' (first|refine stn ?_|(with_reducible refine brr ?_ ?_<;>intro h)|(with_reducible refine zAF ?_ ?_<;>intro h)|with_reducible refine zAL ?_ ?_)); all_goals try (conv=>whnf)
     ·refine zAA zAX rfl ?_
      refine sns ?_;exact zAB rfl rfl
     refine zAA cv rfl ?_;refine sns ?_;refine zAA t1 rfl ?_;refine sns ?_;refine zAA cw rfl ?_
     (repeat' (first|refine stn ?_|(with_reducible refine brr ?_ ?_<;>intro h)|(with_reducible refine zAF ?_ ?_<;>intro h)|with_reducible refine zAL ?_ ?_)); all_goals try (conv=>whnf)
     all_goals exact zAB rfl rfl
   ·rw [dB_false.2 hva] at cv
    refine zAJ hmix hT zEQ (by simp [encCase]) ?_;refine sns ?_;refine zAA zAX rfl ?_;refine sns ?_;refine zAA cf rfl ?_
    (repeat' (first|refine stn ?_|(with_reducible refine brr ?_ ?_<;>intro h)|(with_reducible refine zAF ?_ ?_<;>intro h)|with_reducible refine zAL ?_ ?_)); all_goals try (conv=>whnf)
    ·refine zAA zAX rfl ?_
     refine sns ?_;exact zAB rfl rfl
    refine zAA cv rfl ?_;refine sns ?_;refine zAA zAX rfl ?_;refine sns ?_;exact zAB rfl rfl
end Go.PI.Tryz
namespace Go.PI.Tryz
open Go Go.Proofs Go.PI Go.Proofs.YtcinkbieboiffaaGreat
open Go.ChangeShapes Go.WideShapes Go.ChangeAt Go.RowKit
section
variable {H : Type} {enc : TypeId × Value → H} {w : World}
theorem QGra.okB {x : GraL} {B : Nat} (h : QGra x B) (hB : B ≤ 1048576) : okGra B x := by
 obtain ⟨b, c, h1, h2, h3⟩ := h;have g1 := okFs_of' h1 (by omega);have g2 := okFs_of' h2 (by omega);exact ⟨⟨g1.1, fun f hf => zBM (by omega) (g1.2 f hf)⟩, ⟨g2.1, fun f hf => zBM (by omega) (g2.2 f hf)⟩⟩
theorem QReg.okB {x : RegL} {B : Nat} (h : QReg x B) (hB : B ≤ 1048576) : okReg B x := by
 obtain ⟨a, b, c, h1, h2, h3, h4⟩ := h;have g3 := okFs_of' h3 (by omega);exact ⟨zDR (by omega) (okLs_of' h1 (by omega)), zDR (by omega) (okLs_of' h2 (by omega)), fun f hf => zBM (by omega) (g3.2 f hf), g3.1⟩
theorem QQry.szB {q : QryL} {B : Nat} (h : QQry q B) (hB : B ≤ 1048576) : szQ q B := by
 obtain ⟨a, b, c, h1, h2, h3, h4⟩ := h;have hp := QAff.pos _ _ h3;have g1 := h1.okB (by omega);have g2 := h2.okB (by omega);exact ⟨by omega, ⟨⟨g1.1.1, fun f hf => zBM (by omega) (g1.1.2 f hf)⟩, ⟨g1.2.1, fun f hf => zBM (by omega) (g1.2.2 f hf)⟩⟩, zLB (by omega) g2, zBM (by omega) (okA_of h3 (by omega))⟩
structure CaseL where
 q : QryL
 n : NodeL
 x : List Int
def cCase (c : CaseL) : List PV := [.int .i64 c.q.g.ins, .imm (c.q.g.units.map encAff), .imm (c.q.g.outs.map encAff), .imm (c.q.r.lo.map encRat), .imm (c.q.r.hi.map encRat), .imm (c.q.r.rows.map encAff), .imm (c.q.goal.terms.map encTerm), .bool c.q.goal.const.neg, encN c.q.goal.const.num, encN c.q.goal.const.den, .imm (c.n.lemmas.map encLem), .int .i64 c.n.split.kind, .int .i64 c.n.split.index, .bool c.n.split.rat.neg, encN c.n.split.rat.num, encN c.n.split.rat.den, .imm (c.n.kids.map encNode), .bool c.n.empty, .imm (c.n.proof.map encMult), .imm (c.x.map (.int .u8))]
def QCase (c : CaseL) (B : Nat) : Prop := ∃ a b d, QQry c.q a ∧ QNode c.n b ∧ QL (fun x b => (Lit.int .u8 x).wf = true ∧ 1 ≤ b) c.x d ∧ a + b + d ≤ B
theorem zNV (m : Nat) : Reads enc Tryz.prog w m 46 cCase QCase := by
 refine ((zBL (n := m) (tot := 20) Tryz.underlying46 (by kernel_rfl) (zAR rfl (k := 10) (by kernel_rfl) (by decide) (r_qry m)
  (zAR rfl (k := 9) (by kernel_rfl) (by decide) (r_node m) (zAR rfl (k := 1) (by kernel_rfl) (by decide) (r_bytes m) (zB3 (by decide)))))).le (by omega)).to (fun x => (⟨x.1, x.2.1, x.2.2.1⟩ : CaseL)) (fun _ => rfl) ?_
 rintro ⟨a, b, c, u⟩ B ⟨b0, ⟨b1, b2, h1, ⟨b3, b4, h3, ⟨b5, b6, h5, _, h6⟩, h4⟩, h2⟩, h0⟩
 exact ⟨b1, b3, b5, h1, h3, h5, by omega⟩
theorem QQry.qS {q : QryL} {B : Nat} (h : QQry q B) : qS q ≤ 3 * B := by
 obtain ⟨a, b, c, ⟨a1, a2, g1, g2, g3⟩, ⟨b1, b2, b3, h1, h2, h3, h4⟩, h5, h6⟩ := h;have e1 := gL_of g1;have e2 := gL_of g2;have e3 := lsL_of h1;have e4 := lsL_of h2;have e5 := h5.ln;unfold Tryz.qS;omega
theorem QCase.more {c : CaseL} {B : Nat} (h : QCase c B) (hB : B ≤ 1048576) : Tryz.qS c.q ≤ 8000000 ∧ okBy c.x := by
 obtain ⟨a, b, d, h1, h2, h3, h4⟩ := h;exact ⟨by have := h1.qS; omega, okBy_of h3 (by omega)⟩
theorem QCase.goal {c : CaseL} {B : Nat} (h : QCase c B) (hB : B ≤ 1048576) : ∃ Bq Bn, inB c.q c.n Bq Bn ∧ okA Bq c.q.goal ∧ Bq + Bn ≤ B := by
 obtain ⟨a, b, d, h1, h2, h3, h4⟩ := h;obtain ⟨a1, b1, c1, g1, g2, g3, g4⟩ := id h1;exact ⟨a, b, ⟨h1.szB (by omega), by omega, h2.2.1, h2.2.2 (by omega), h2.1.2, h2.1.1⟩, zBM (by omega) (okA_of g3 (by omega)), by omega⟩
theorem QCase.inB {c : CaseL} {B : Nat} (h : QCase c B) (hB : B ≤ 1048576) : ∃ Bq Bn, inB c.q c.n Bq Bn ∧ Bq + Bn ≤ B := by
 obtain ⟨a, b, d, h1, h2, h3, h4⟩ := h;exact ⟨a, b, ⟨h1.szB (by omega), by omega, h2.2.1, h2.2.2 (by omega), h2.1.2, h2.1.1⟩, by omega⟩
end
end Go.PI.Tryz
