/-
  What is read at the types of proposals.
-/
import Derived.Test.YtcinkbieboiffaaGreatCKT
import Derived.Test.YtcinkbieboiffaaGreatCKL
import Derived.Test.YtcinkbieboiffaaGreatCKM
set_option linter.unusedVariables false
set_option linter.unusedSimpArgs false
set_option linter.unnecessarySimpa false
namespace Go.PI.Tryz
open Go.Proofs Go.PI
def encProp (g : GraL) (r : RegL) (c : ClaL) (d : Nat → Int) (ts : List NodeL) (x : List Int) : PV := .agg ([.int .i64 g.ins, .imm (g.units.map encAff), .imm (g.outs.map encAff), .imm (r.lo.map encRat), .imm (r.hi.map encRat), .imm (r.rows.map encAff), .int .i64 c.kind, .int .i64 c.target, .bool c.margin.neg, encN c.margin.num, encN c.margin.den, .imm (c.rows.map encAff)] ++ (digV d ++ [.imm (ts.map encNode), .imm (x.map (.int .u8))]))
def fewP (g : GraL) (r : RegL) (c : ClaL) (ts : List NodeL) : Prop := ts.length ≤ 5 ∧ g.outs.length ≤ 6 ∧ c.rows.length ≤ 5 ∧ (∀ t ∈ ts, t.wt ≤ 400) ∧ g.units.length ≤ 8 ∧ g.ins ≤ 8 ∧ r.rows.length ≤ 8
theorem sum_mem_i {l : List NodeL} {t : NodeL} (h : t ∈ l) : lsz 400 t ≤ (l.map (lsz 400)).sum := by
 have pos : ∀ l : List NodeL, 0 ≤ (l.map (lsz 400)).sum := fun l => by
  induction l with
  | nil => simp
  | cons a l ih => have := zD5 400 _ a (Nat.lt_succ_self _); simp only [List.map_cons, List.sum_cons]; omega
 induction l with
 | nil => cases h
 | cons a l ih =>
   simp only [List.map_cons, List.sum_cons];rcases List.mem_cons.1 h with rfl | h
   ·have := pos l; omega
   ·have := ih h; have := zD5 400 _ a (Nat.lt_succ_self _); omega
theorem sum_i (l : List NodeL) (hs : ∀ t ∈ l, t.wt ≤ 2097152) : ∀ i, 0 ≤ ((l.take i).map (lsz 400)).sum ∧ ((l.take i).map (lsz 400)).sum ≤ 2097152 * i := by
 intro i
 induction i with
 | zero => simp
 | succ i ih =>
   by_cases h : i < l.length
   ·have h1 := zD5 400 _ l[i] (Nat.lt_succ_self _)
    have h2 := hs l[i] (List.getElem_mem _);rw [List.take_succ_eq_append_getElem h, List.map_append, List.sum_append];simp only [List.map_cons, List.map_nil, List.sum_cons, List.sum_nil];omega
   ·rw [List.take_of_length_le (by omega)] at ih ⊢
    omega
theorem ok_few48 : FO 30 Tryz.f30 [.tmp 2] 63 := mkO Tryz.func30 Tryz.ntmps30 Tryz.results30
theorem c_few48 (g : GraL) (r : RegL) (c : ClaL) (d : Nat → Int) (ts : List NodeL) (x : List Int) (hs : ∀ t ∈ ts, t.wt ≤ 2097152) (hu : g.units.length ≤ 1048576) (ho : g.outs.length ≤ 1048576) (hr : r.rows.length ≤ 1048576) (hc : c.rows.length ≤ 1048576) (ht : ts.length ≤ 1048576) : ∃ b, (b = true → fewP g r c ts) ∧ Fn 30 [encProp g r c d ts x] (.data (.bool b)) := by
 by_cases hb : ts.length ≤ 5 ∧ g.outs.length ≤ 6 ∧ c.rows.length ≤ 5
 ·obtain ⟨h1, h2, h3⟩ := hb
  refine ⟨decide ((ts.map (lsz 400)).sum ≤ 400 ∧ g.units.length ≤ 8 ∧ g.ins ≤ 8 ∧ r.rows.length ≤ 8), fun h => ?_, ?_⟩
  ·obtain ⟨a1, a2, a3, a4⟩ := of_decide_eq_true h
   refine ⟨h1, h2, h3, fun t ht => ?_, a2, a3, a4⟩;have h5 := sum_mem_i ht;have := lsz_wt 400 _ t (Nat.lt_succ_self _) (by omega);omega
  refine zAJ hmix hT ok_few48 (by simp [encProp]) ?_
  (repeat' (first|refine stn ?_|(with_reducible refine brr ?_ ?_<;>intro h)|(with_reducible refine zAI ?_ ?_<;>intro h)|with_reducible refine zAW ?_ ?_)); all_goals try (conv=>whnf)
  all_goals try (exfalso; omega)
  refine zAL hT (fun (i : Nat) => [(1, .ptr 0 0 0), (3, .int .i64 ((ts.take i).map (lsz 400)).sum), (4, .int .i64 i)])
   (fun _ => [(0, ⟨[encProp g r c d ts x], 46, true⟩)]) [] 1 (fun i => i ≤ ts.length) (fun i => ts.length - i) 0 (Nat.zero_le _) (by decide) (by simp) ?_ ?_
  ·exact ⟨[0], [], [], [], ttt, ⟨apx, zAC rfl rfl, zAC rfl rfl, trivial⟩, ⟨bbx, trivial⟩, by simp [ren]⟩
  intro i i1;have si := sum_i ts hs i;by_cases hi : i < ts.length
  ·have hw := hs _ (get_mem hi)
   have cz := c_lsize48 _ ts[i]! 400 (Nat.lt_succ_self _) hw;have hb := zD5 400 _ ts[i]! (Nat.lt_succ_self _)
   have e : ((ts.take (i + 1)).map (lsz 400)).sum = ((ts.take i).map (lsz 400)).sum + lsz 400 ts[i]! := by
    rw [List.take_succ_eq_append_getElem hi, List.map_append, List.sum_append, getElem!_pos ts i hi]; simp
   (repeat' (first|refine stn ?_|(with_reducible refine brr ?_ ?_<;>intro h)|(with_reducible refine zAI ?_ ?_<;>intro h)|with_reducible refine zAW ?_ ?_)); all_goals try (conv=>whnf)
   all_goals try (exfalso; omega)
   refine zAA cz rfl ?_;refine sns ?_;exact ⟨i + 1, ⟨by omega, by show ts.length - (i + 1) < ts.length - i; omega⟩, [0], [], [], [], ttt, ⟨apx, zAC rfl e.symm, zAC rfl rfl, trivial⟩, ⟨bbx, trivial⟩, by simp [ren]⟩
  ·obtain rfl : i = ts.length := by omega
   rw [List.take_length]
   (repeat' (first|refine stn ?_|(with_reducible refine brr ?_ ?_<;>intro h)|(with_reducible refine zAI ?_ ?_<;>intro h)|with_reducible refine zAW ?_ ?_)); all_goals try (conv=>whnf)
   all_goals try (exfalso; omega)
   all_goals refine zAB rfl (congrArg PV.bool ?_)
   all_goals rw [Bool.eq_iff_iff]
   all_goals simp only [decide_eq_true_eq, List.length_map, Bool.false_eq_true, false_iff]
   all_goals omega
 ·refine ⟨false, fun h => absurd h (by decide), ?_⟩
  refine zAJ hmix hT ok_few48 (by simp [encProp]) ?_
  (repeat' (first|refine stn ?_|(with_reducible refine brr ?_ ?_<;>intro h)|(with_reducible refine zAI ?_ ?_<;>intro h)|with_reducible refine zAW ?_ ?_)); all_goals try (conv=>whnf)
  all_goals try (exfalso; omega)
  all_goals exact zAB rfl rfl
end Go.PI.Tryz
namespace Go.PI.Tryz
open Go.Proofs Go.PI
structure inP (g : GraL) (r : RegL) (c : ClaL) (ts : List NodeL) (B Bn : Nat) : Prop where
 B1 : 1 ≤ B
 hg : okGra B g
 hr : okReg B r
 hc : okC B c
 sum : B + Bn ≤ 1048590
 gl : gL c.rows + lnQ c.margin + gL g.outs ≤ 2000000
 pS : 2 * lsL r.lo + lsL r.hi + 4 * r.lo.length + gL g.units ≤ 7000000
 hts : ∀ t ∈ ts, t.NOk ∧ t.Sm ∧ t.bk ≤ Bn ∧ t.wt ≤ Bn
 tl : ts.length ≤ 1048576
theorem inP.goals {g : GraL} {r : RegL} {c : ClaL} {ts : List NodeL} {B Bn : Nat} (h : inP g r c ts B Bn) (ho : g.outs.length ≤ 6) (v1 : VaG g) (v3 : VaC c g.outs.length) :
 ∀ i, i < (goalsC c g.outs.length).length → (∀ j, j ≤ (goalsC c g.outs.length)[i]!.ts.length → szF 30000000 (goA g (goalsC c g.outs.length)[i]! j)) ∧ szF 30000000 (goalsC c g.outs.length)[i]! := by
 intro i hi;have hm := get_mem hi;have hl := low_goal h.hc.m.1 (m := g.outs.length) h.hc.r.2 _ hm;have hok := zHH v3 _ hm;generalize (goalsC c g.outs.length)[i]! = f at *
 have hgl := h.gl;have htl := zDP g.outs.length hok.1.1 (fun t ht => by have := hok.2 t ht; omega);have e : clS c = gL c.rows + lnQ c.margin + 10 := rfl;refine ⟨fun j hj => ?_, zFY (by omega) hl.sz⟩;have h1 := low_goA h.hg.2.2 hl (fun t ht => by have := hok.2 t ht; omega) j hj;have h2 : j * (clS c + gL g.outs + 4) ≤ 6 * (clS c + gL g.outs + 4) := Nat.mul_le_mul_right _ (by omega);exact zFY (by omega) h1.sz
theorem inP.trees {g : GraL} {r : RegL} {c : ClaL} {ts : List NodeL} {B Bn : Nat} (h : inP g r c ts B Bn) (hf : fewP g r c ts) (v1 : VaG g) (v3 : VaC c g.outs.length) (hl : ts.length = (goalsC c g.outs.length).length) {i : Nat} (hi : i < ts.length) :
 inB (qG g r (goalsC c g.outs.length)[i]!) ts[i]! B Bn := by
 obtain ⟨h1, h2, h3, h4, h5, h6, h7⟩ := hf;obtain ⟨t1, t2, t3, t4⟩ := h.hts _ (get_mem hi);have hg := (h.goals h2 v1 v3 i (by omega)).1 _ (Nat.le_refl _);have hok := zHH v3 _ (get_mem (show i < (goalsC c g.outs.length).length by omega));have h0 := goA_ok v1 hok _ (Nat.le_refl _)
 have hgal : (goalG g (goalsC c g.outs.length)[i]!).ts.length ≤ 1280 := by
  have h1 := zDP (g.ins + g.units.length).toNat h0.1.1 (fun t ht => by have := h0.2 t ht; omega);have := v1.1; have := v1.2.1;unfold goalG;omega
 exact ⟨⟨h.B1, h.hg, h.hr, zBE (by decide) (okA_L hg (by omega))⟩, h.sum, t1, t2, t3, t4⟩
theorem zIM : FO 9 Tryz.f9 [.tmp 2] 47 := mkO Tryz.func9 Tryz.ntmps9 Tryz.results9
theorem zMV (g : GraL) (r : RegL) (c : ClaL) (d : Nat → Int) (ts : List NodeL) (x : List Int) (B Bn : Nat) (hi : inP g r c ts B Bn) : Fn 9 [encProp g r c d ts x] (.data (.bool true)) := by
 have hS := hi.sum;obtain ⟨b, hb, cf⟩ := c_few48 g r c d ts x (fun t ht => by have := (hi.hts t ht).2.2.2; omega) hi.hg.1.1 hi.hg.2.1 hi.hr.2.2.2 hi.hc.r.1 hi.tl;cases b with
 | true =>
   have hf := hb rfl;have hu := hf.2.2.2.2.1;have hin := hf.2.2.2.2.2.1;have tr := fun (hv : VaG g ∧ VaR r g.ins ∧ VaC c g.outs.length) (hl : ts.length = (goalsC c g.outs.length).length) (i : Nat) (hlt : i < ts.length) => zKJ (hi.trees hf hv.1 hv.2.2 hl hlt) (hf.2.2.2.1 _ (get_mem hlt)) (by show g.ins + g.units.length ≤ 16; omega)
   have ca := c_kclaim g r c d ts B hi.hg hi.hr hi.hc (by omega) hi.B1 hi.tl (fun v1 v3 => hi.goals hf.2.1 v1 v3) (fun hv hl i hlt => (tr hv hl i hlt).1);have cb := c_rclaim g r c d ts B hi.hg hi.hr hi.hc (by omega) hi.B1 hi.tl (fun v1 v3 => hi.goals hf.2.1 v1 v3) (fun hv hl i hlt => (tr hv hl i hlt).2);generalize claimR g r c ts = R at *
   refine zAJ hmix hT zIM (by simp [encProp]) ?_;refine sns ?_;refine zAA zB3 rfl ?_;refine sns ?_;refine zAA cf rfl ?_;refine sns ?_;refine zAA ca rfl ?_;refine sns ?_;refine zAA cb rfl ?_
   (repeat' (first|refine stn ?_|(with_reducible refine brr ?_ ?_<;>intro h)|(with_reducible refine zAI ?_ ?_<;>intro h)|with_reducible refine zAW ?_ ?_)); all_goals try (conv=>whnf)
   all_goals first | exact absurd rfl (by assumption) | exact absurd trivial (by assumption) | exact zAB rfl (by simp)
 | false =>
   refine zAJ hmix hT zIM (by simp [encProp]) ?_;refine sns ?_;refine zAA zB3 rfl ?_;refine sns ?_;refine zAA cf rfl ?_;refine sns ?_;refine zAA zB3 rfl ?_;refine sns ?_;exact zAB rfl rfl
end Go.PI.Tryz
namespace Go.PI.Tryz
open Go Go.Proofs Go.PI Go.Proofs.YtcinkbieboiffaaGreat
open Go.ChangeShapes Go.WideShapes Go.ChangeAt Go.RowKit
section
variable {H : Type} {enc : TypeId × Value → H} {w : World}
theorem reads_ints {P : Program} {n : Nat} {t e : TypeId} {N : Nat} {k : IntKind} (ht : P.underlying t = some (.array N e)) (he : P.underlying e = some (.int k)) (hc : P.cellsOf t = N) (hce : P.cellsOf e = 1) :
 Reads enc P w n t (fun d : Nat → Int => (List.range N).map fun i => PV.int k (d i)) (fun _ B => 1 ≤ B) := by
 intro fuel hf cs d ps h;obtain ⟨xs, m, rfl, he2, hl, hn, hx⟩ := DataW.trod_array ht h;cases he2
 have key : ∀ i, i < N → ∃ x, cs[i]? = some (.int k x) := fun i hi => by
  have h1 := hx i hi;rw [hce, Nat.mul_one, List.getElem?_eq_getElem (by omega : i < xs.length)] at h1;obtain ⟨x, hxx, _⟩ := DataW.trod_int he h1;refine ⟨x, ?_⟩;have : ((cs.drop i).take 1)[0]? = cs[i]? := by simp
  rw [← this, hxx]; rfl
 refine ⟨fun i => match cs[i]? with | some (.int _ x) => x | _ => 0, ⟨by simp; omega, fun i v hv => ?_⟩, by simp [bulk]⟩;have hi : i < N := by simpa using (List.getElem?_eq_some_iff.1 hv).1
 obtain ⟨x, hxi⟩ := key i hi;rw [List.getElem?_map, List.getElem?_range hi] at hv;simp only [Option.map_some, hxi, Option.some.injEq] at hv;subst hv;rw [List.getD_eq_getElem?_getD, hxi];exact ⟨.int k x, rfl⟩
def cCert (x : (Nat → Int) × List NodeL) : List PV := digV x.1 ++ [.imm (x.2.map encNode)]
theorem r_cert (m : Nat) : Reads enc Tryz.prog w m 86 cCert (fun x B => QL QNode x.2 B) := by
 refine ((zBG (n := m) (tot := 33) Tryz.underlying86 (by kernel_rfl) (zAK rfl (k := 32) (by kernel_rfl) (by decide) (reads_ints Tryz.underlying84 Tryz.underlying5 (by kernel_rfl) (by kernel_rfl))
  (zAK rfl (k := 1) (by kernel_rfl) (by decide) (r_nodes m).2 (zBT (by decide))))).le (by omega)).to (fun x => (x.1, x.2.1)) (fun _ => rfl) ?_
 rintro ⟨a, b, u⟩ B ⟨b0, ⟨b1, b2, h1, ⟨b3, b4, h3, _, h6⟩, h4⟩, h2⟩
 exact QL.mono h3 (by omega)
def cCla (c : ClaL) : List PV := [.int .i64 c.kind, .int .i64 c.target, .bool c.margin.neg, encN c.margin.num, encN c.margin.den, .imm (c.rows.map encAff)]
def QCla (c : ClaL) (B : Nat) : Prop := ∃ a b, QRat c.margin a ∧ QL QAff c.rows b ∧ a + b ≤ B
theorem r_cla (m : Nat) : Reads enc Tryz.prog w m 83 cCla QCla := by
 refine ((zBG (n := m + 2) (tot := 6) Tryz.underlying83 (by kernel_rfl) (zAK rfl (k := 1) (by kernel_rfl) (by decide) (zB6 Tryz.underlying3)
  (zAK rfl (k := 1) (by kernel_rfl) (by decide) (zB6 Tryz.underlying3) (zAK rfl (k := 3) (by kernel_rfl) (by decide) (r_rat m)
  (zAK rfl (k := 1) (by kernel_rfl) (by decide) (r_rows _) (zBT (by decide))))))).le (by omega)).to (fun x => (⟨x.1, x.2.1, x.2.2.1, x.2.2.2.1⟩ : ClaL)) (fun _ => rfl) ?_
 rintro ⟨a, b, c, d, u⟩ B ⟨b0, ⟨b1, b2, h1, ⟨b3, b4, h3, ⟨b5, b6, h5, ⟨b7, b8, h7, _, h8⟩, h6⟩, h4⟩, h2⟩, h0⟩
 exact ⟨b5, b7, h5, h7, by omega⟩
structure PropL where
 g : GraL
 r : RegL
 c : ClaL
 d : Nat → Int
 n : List NodeL
 x : List Int
def cProp (p : PropL) : List PV := [.int .i64 p.g.ins, .imm (p.g.units.map encAff), .imm (p.g.outs.map encAff), .imm (p.r.lo.map encRat), .imm (p.r.hi.map encRat), .imm (p.r.rows.map encAff), .int .i64 p.c.kind, .int .i64 p.c.target, .bool p.c.margin.neg, encN p.c.margin.num, encN p.c.margin.den, .imm (p.c.rows.map encAff)] ++ (digV p.d ++ [.imm (p.n.map encNode), .imm (p.x.map (.int .u8))])
def QProp (p : PropL) (B : Nat) : Prop := ∃ a b c d e, QGra p.g a ∧ QReg p.r b ∧ QCla p.c c ∧ QL QNode p.n d ∧ QL (fun x b => (Lit.int .u8 x).wf = true ∧ 1 ≤ b) p.x e ∧ a + b + c + d + e ≤ B
theorem r_prop (m : Nat) : Reads enc Tryz.prog w m 88 cProp QProp := by
 refine ((zBG (n := m) (tot := 46) Tryz.underlying88 (by kernel_rfl) (zAK rfl (k := 3) (by kernel_rfl) (by decide) (r_gra m)
  (zAK rfl (k := 3) (by kernel_rfl) (by decide) (r_reg m) (zAK rfl (k := 6) (by kernel_rfl) (by decide) (r_cla m) (zAK rfl (k := 33) (by kernel_rfl) (by decide) (r_cert m)
  (zAK rfl (k := 1) (by kernel_rfl) (by decide) (r_bytes m) (zBT (by decide)))))))).le (by omega)).to (fun x => (⟨x.1, x.2.1, x.2.2.1, x.2.2.2.1.1, x.2.2.2.1.2, x.2.2.2.2.1⟩ : PropL)) (fun _ => rfl) ?_
 rintro ⟨a, b, c, d, e, u⟩ B ⟨b0, ⟨b1, b2, h1, ⟨b3, b4, h3, ⟨b5, b6, h5, ⟨b7, b8, h7, ⟨b9, b10, h9, _, h10⟩, h8⟩, h6⟩, h4⟩, h2⟩, h0⟩
 exact ⟨b1, b3, b5, b7, b9, h1, h3, h5, h7, h9, by omega⟩
theorem QProp.inP {p : PropL} {B : Nat} (h : QProp p B) (hB : B ≤ 1048576) : ∃ Bq Bn, inP p.g p.r p.c p.n Bq Bn := by
 obtain ⟨a, b, c, d, e, h1, h2, h3, h4, h5, h6⟩ := h;have g1 := h1.okB (by omega);have g2 := h2.okB (by omega);obtain ⟨c1, c2, h7, h8, h9⟩ := h3;obtain ⟨a1, a2, h10, h11, h12⟩ := h1;have g3 := gL_of h8;have g4 := gL_of h11;have g5 := h7.ln.1;have g8 := zKO h8 (by omega);obtain ⟨b1, b2, b3, h13, h14, h15, h16⟩ := h2;have g10 := gL_of h10;have g13 := lsL_of h13;have g14 := lsL_of h14;refine ⟨a + b + c + 1, d, by omega, ⟨⟨g1.1.1, fun f hf => zBE (by omega) (g1.1.2 f hf)⟩, ⟨g1.2.1, fun f hf => zBE (by omega) (g1.2.2 f hf)⟩⟩, zEJ (by omega) g2, ⟨zBU (by omega) h7.ok, ⟨g8.1, fun f hf => zBE (by omega) (g8.2 f hf)⟩⟩, by omega, by omega, by omega, fun t ht => ?_, by have := QL.len QNode.pos h4; omega⟩;obtain ⟨q, hq, hq2⟩ := h4.mem t ht;exact ⟨hq.2.1, hq.2.2 (by omega), by have := hq.1.2; omega, by have := hq.1.1; omega⟩
theorem QProp.byt {p : PropL} {B : Nat} (h : QProp p B) (hB : B ≤ 1048576) : okBy p.x := by
 obtain ⟨a, b, c, d, e, h1, h2, h3, h4, h5, h6⟩ := h;exact okBy_of h5 (by omega)
end
end Go.PI.Tryz
