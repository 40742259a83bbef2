/-
  The law CheckerGreater.
-/
import Derived.Test.YtcinkbieboiffaaGreatCKM
set_option linter.unusedVariables false
set_option linter.unusedSimpArgs false
set_option linter.unnecessarySimpa false
namespace Go.PI.Tryz
open Go.Proofs Go.PI
theorem terms_L (F : QF) : F.L.terms.map encTerm = F.ts.map encQ := by unfold QF.L; simp only [List.map_map]; rfl
def qF (q : QryL) (l : List AffL) (F : QF) : QryL := ⟨q.g, ⟨q.r.lo, q.r.hi, l⟩, F.L⟩
theorem qF_V (q : QryL) (l : List AffL) (F : QF) : encQry (qF q l F) = .agg [.int .i64 q.g.ins, .imm (q.g.units.map encAff), .imm (q.g.outs.map encAff), .imm (q.r.lo.map encRat), .imm (q.r.hi.map encRat), .imm (l.map encAff), .imm (F.ts.map encQ), .bool (cr F.c).neg, encN (cr F.c).num, encN (cr F.c).den] := by
 rw [← terms_L]; rfl
theorem frz_q2 {h : Hp} {n b m : Nat} {q : QryL} {F : QF} {els : List PV} {l : List AffL} (hb : h b = some ⟨els, 4, true⟩) (he : els = l.map encAff) (hm : m = l.length) : frz h (n + 3) (.agg [.int .i64 q.g.ins, .imm (q.g.units.map encAff), .imm (q.g.outs.map encAff), .imm (q.r.lo.map encRat), .imm (q.r.hi.map encRat), .own b 0 m, .imm (F.ts.map encQ), .bool (cr F.c).neg, encN (cr F.c).num, encN (cr F.c).den]) = some (encQry (qF q l F), [b]) := by
 rw [qF_V];refine zCT ?_;exact zAD (ks := []) rfl (zAD (ks := []) rfl (zAD (ks := []) rfl (zAD (ks := []) rfl (zAD (ks := []) rfl (zAD (ks := [b]) (zAK hb he hm fun x => by cases n <;> rfl) (zAD (ks := []) rfl (zAD (ks := []) rfl (zAD (ks := []) rfl (zAD (ks := []) rfl rfl)))))))))
theorem tree_le {q t : QryL} {c : Rat} {n : NodeL} (hl : QryLe q t c) (ht : VaQ t) (h : (treeR q n).2 = 0) : treeR t n = ([], 0) := by
 unfold treeR at h
 split at h
 ·rename_i hv
  split at h
  ·rename_i hb
   have hf : formOk 2048 n = true := by have := hv.1; unfold NodeL.valid at this; simp only [Bool.and_eq_true] at this; exact this.1
   unfold treeR;rw [if_pos ⟨hv.1, ht⟩, below_le hl _ n [] [] (Nat.lt_succ_self _) (bin_of _ n _ (Nat.lt_succ_self _) hf) ⟨hv.2, fun d hd => by cases hd⟩ hb]
  ·cases h
 ·cases h
theorem tree_va {q : QryL} {n : NodeL} (h : (treeR q n).2 = 0) : VaQ q := by
 unfold treeR at h
 split at h
 ·rename_i hv; exact hv.2
 ·cases h
theorem goalS {q : QryL} (hva : VaQ q) (c : Rat) : okF (q.g.ins + q.g.units.length) (mergeQ q.goal.Q (numQ' c) 1) := zI0 (zEB hva.2.2) (zGQ _ c)
theorem va1 {q : QryL} (hva : VaQ q) (c : Rat) : VaQ (qF q q.r.rows (mergeQ q.goal.Q (numQ' c) 1)) := ⟨hva.1, hva.2.1, valid_of (goalS hva c)⟩
theorem va2 {q : QryL} (hva : VaQ q) (c : Rat) {row : AffL} (hr : ValidF row q.g.ins) (hl : q.r.rows.length < 256) : VaQ (qF q (q.r.rows ++ [row]) (mergeQ q.goal.Q (numQ' c) 1)) := by
 obtain ⟨h1, ⟨g1, g2, g3, g4, g5, g6⟩, h3⟩ := hva;refine ⟨h1, ⟨g1, g2, g3, ?_, g5, fun i hi => ?_⟩, valid_of (goalS ⟨h1, ⟨g1, g2, g3, g4, g5, g6⟩, h3⟩ c)⟩
 ·show (q.r.rows ++ [row]).length ≤ 256
  rw [List.length_append, List.length_singleton]; omega
 ·show ValidF (q.r.rows ++ [row])[i]! q.g.ins
  by_cases e : i < q.r.rows.length
  ·rw [get_app e]; exact g6 i e
  ·have hi : i < (q.r.rows ++ [row]).length := hi
   have e2 : i = q.r.rows.length := by rw [List.length_append, List.length_singleton] at hi; omega
   subst e2;rw [getElem!_pos (q.r.rows ++ [row]) q.r.rows.length hi]
   simpa using hr
theorem le1 {q : QryL} {c : Rat} (hc : 0 ≤ c) (l : List AffL) : QryLe q (qF q (q.r.rows ++ l) (mergeQ q.goal.Q (numQ' c) 1)) c := ⟨rfl, rfl, rfl, ⟨l, rfl⟩, Q_L _, hc⟩
theorem szq1 {q : QryL} {P R : Nat} (hz : szQ q P) (hgo : okA P q.goal) (hP : P ≤ 1048576) {c : Rat} (hc : sz 2 c) {l : List AffL} (hl : ∀ f ∈ l, okA R f) (hll : q.r.rows.length + l.length ≤ 1048576) (hgl : q.goal.terms.length ≤ 1048575) : szQ (qF q (q.r.rows ++ l) (mergeQ q.goal.Q (numQ' c) 1)) (P + R + 4) := by
 have h1 := hz.P1;refine ⟨by omega, ⟨⟨hz.g.1.1, fun f hf => zBM (by omega) (hz.g.1.2 f hf)⟩, ⟨hz.g.2.1, fun f hf => zBM (by omega) (hz.g.2.2 f hf)⟩⟩, ⟨zDR (by omega) hz.r.1, zDR (by omega) hz.r.2.1, fun f hf => ?_, by show (q.r.rows ++ l).length ≤ _; rw [List.length_append]; omega⟩, ?_⟩
 ·rcases List.mem_append.1 hf with hf | hf
  ·exact zBM (by omega) (hz.r.2.2.1 f hf)
  ·exact zBM (by omega) (hl f hf)
 ·refine zBM (show P + 5 ≤ 40000000 by omega) (okA_L ?_ ?_)
  ·have hn : szF 2 (numQ' c) := ⟨hc, fun p hp => by cases hp⟩
   exact zG9 (zDX hgo h1) hn (zDU (z := 1) (by decide)) (by omega)
  ·have := zJ6 (f := q.goal.Q) (g := numQ' c) (c := 1)
   have e : q.goal.Q.ts.length = q.goal.terms.length := by simp [AffL.Q]
   have e2 : (numQ' c).ts.length = 0 := rfl;omega
theorem zE5 : FO 6 Tryz.f6 [.tmp 6] 111 := mkO Tryz.func6 Tryz.ntmps6 Tryz.results6
theorem zK5 (q : QryL) (n : NodeL) (x : List Int) (more : RatL) (row : AffL) (Bq Bn Br : Nat) (hi : inB q n Bq Bn) (hgo : okA Bq q.goal) (hB : Bq + Bn + Br ≤ 1048576) (hm : okQ 1048576 more) (hrow : okA Br row) : Fn 6 [encCase q n x, encRat more, encAff row] (.data (.bool true)) := by
 obtain ⟨b, hb, cf⟩ := zKB hi;have hm1 := hm.2.1;have hm2 := hm.2.2;have hr2 := hrow.2.2;have cm := zFE more hm.1 (by omega) (by omega);cases b with
 | false =>
   refine zAJ hmix hT zE5 (by simp [encCase]) ?_;refine sns ?_;refine zAA zAX rfl ?_;refine sns ?_;refine zAA cf rfl ?_;refine sns ?_;refine zAA zAX rfl ?_;refine sns ?_;exact zAB rfl rfl
 | true =>
   obtain ⟨f1, f2, f3, f4⟩ := hb rfl;obtain ⟨_, t0⟩ := zD5 hi f4 (by omega);have hBq := hi.B;by_cases hg : more = cr (qv more) ∧ more.num.length ≤ 2 ∧ more.den.length ≤ 1 ∧ more.neg = false ∧ (treeR q n).2 = 0
   ·obtain ⟨g1, g2, g3, g4, g5⟩ := hg
    have hva := tree_va g5;have hsz : sz 2 (qv more) := zJQ hm.1 (by omega) (by omega) (by decide)
    have hc : 0 ≤ qv more := by
     have : 0 ≤ sgnQ (qv more) := by
      rw [sgnQ_qv, g4];show 0 ≤ (((nv more.num : Nat) : Int)).sign
      exact Int.sign_nonneg_iff.2 (by omega)
     rcases Int.lt_or_eq_of_le this with h | h
     ·exact Rat.le_of_lt (sgnQ_pos.1 h)
     ·rw [sgnQ_zero.1 h.symm]; exact Rat.le_refl
    have cn := zEE more g1;have hgt := hi.q.goal.2.2;have hgl : q.goal.terms.length ≤ 16 := zIC hva.2.2 (by omega);have hrl := hi.q.r.2.2.2
    have eg : q.goal.Q.ts.length + (numQ' (qv more)).ts.length = q.goal.terms.length + 0 := by
     have e : q.goal.Q.ts.length = q.goal.terms.length := by simp [AffL.Q]
     rw [e]; rfl
    have ca := c_radd' q.goal.Q (numQ' (qv more)) Bq 2 (zDX hgo hi.q.P1) ⟨hsz, fun p hp => by cases hp⟩ (zEB hva.2.2).1 (zCC _) (by omega) (by omega) hi.q.P1;rw [zH8 hva.2.2] at ca
    have t1 : Fn 13 [encQry (qF q (q.r.rows ++ []) (mergeQ q.goal.Q (numQ' (qv more)) 1)), nodeV n] (.data (.tup [.imm [], .int .i64 0])) := by
     have h1 := (zD5 (q := qF q (q.r.rows ++ []) (mergeQ q.goal.Q (numQ' (qv more)) 1)) (n := n) (Bq := Bq + 0 + 4) (Bn := Bn) ⟨szq1 hi.q hgo (by omega) hsz (R := 0) (fun f hf => by cases hf) (by simp; omega) (by omega), by omega, hi.ok, hi.sm, hi.bk, hi.wt⟩ f4 (by show q.g.ins + q.g.units.length ≤ 16; omega)).1;rw [tree_le (le1 hc []) (by rw [List.append_nil]; exact va1 hva _) g5] at h1;exact h1
    rw [List.append_nil, qF_V] at t1;have cv := zHG row q.g.ins (zBM (by omega) hrow)
    have t2 : validB row q.g.ins = true → q.r.rows.length < 256 → Fn 13 [encQry (qF q (q.r.rows ++ [row]) (mergeQ q.goal.Q (numQ' (qv more)) 1)), nodeV n] (.data (.tup [.imm [], .int .i64 0])) := fun v1 v2 => by
     have h1 := (zD5 (q := qF q (q.r.rows ++ [row]) (mergeQ q.goal.Q (numQ' (qv more)) 1)) (n := n) (Bq := Bq + Br + 4) (Bn := Bn) ⟨szq1 hi.q hgo (by omega) hsz (R := Br) (fun f hf => by rw [List.mem_singleton.1 hf]; exact hrow) (by simp; omega) (by omega), by omega, hi.ok, hi.sm, hi.bk, hi.wt⟩ f4 (by show q.g.ins + q.g.units.length ≤ 16; omega)).1;rw [tree_le (le1 hc [row]) (va2 hva _ (validB_true.1 v1) v2) g5] at h1;exact h1
    rw [decide_eq_true g1] at cm;generalize treeR q n = R at *
    generalize hF : mergeQ q.goal.Q (numQ' (qv more)) 1 = F at *
    refine zAJ hmix hT zE5 (by simp [encCase]) ?_;refine sns ?_;refine zAA zAX rfl ?_;refine sns ?_;refine zAA cf rfl ?_
    (repeat' (first|refine stn ?_|(with_reducible refine brr ?_ ?_<;>intro h)|(with_reducible refine zAF ?_ ?_<;>intro h)|with_reducible refine zAL ?_ ?_)); all_goals try (conv=>whnf)
    all_goals try (exfalso; omega)
    refine zAA cm rfl ?_
    (repeat' (first|refine stn ?_|(with_reducible refine brr ?_ ?_<;>intro h)|(with_reducible refine zAF ?_ ?_<;>intro h)|with_reducible refine zAL ?_ ?_)); all_goals try (conv=>whnf)
    ·exact absurd (g4.symm.trans h) (by decide)
    ·refine zAA zAX rfl ?_
     refine sns ?_;exact zAB rfl rfl
    refine zAA t0 rfl ?_
    (repeat' (first|refine stn ?_|(with_reducible refine brr ?_ ?_<;>intro h)|(with_reducible refine zAF ?_ ?_<;>intro h)|with_reducible refine zAL ?_ ?_)); all_goals try (conv=>whnf)
    all_goals try (exfalso; omega)
    refine zAA cn rfl ?_;refine sns ?_;refine zAA ca rfl ?_;refine sns ?_;refine zAA t1 rfl ?_;refine sns ?_;refine zAA cv rfl ?_
    (repeat' (first|refine stn ?_|(with_reducible refine brr ?_ ?_<;>intro h)|(with_reducible refine zAF ?_ ?_<;>intro h)|with_reducible refine zAL ?_ ?_)); all_goals try (conv=>whnf)
    ·exact zAB rfl rfl
    ·refine zAA (t2 (by assumption) (by omega)) (zAD (ks := [_]) (frz_q2 (q := q) (F := F) (l := q.r.rows ++ [row]) rfl (by show [] ++ List.map encAff q.r.rows ++ [encAff row] = _; simp) (by show 0 + (List.map encAff q.r.rows).length + 1 = _; simp)) (zAD (ks := []) rfl rfl)) ?_
     refine sns ?_;exact zAB rfl rfl
    ·exact zAB rfl rfl
   ·have hg' : more = cr (qv more) → more.num.length ≤ 2 → more.den.length ≤ 1 → more.neg = false → ¬ (treeR q n).2 = 0 := fun h1 h2 h3 h4 h5 => hg ⟨h1, h2, h3, h4, h5⟩
    generalize treeR q n = R at *
    generalize hcan : decide (more = cr (qv more)) = can at *
    refine zAJ hmix hT zE5 (by simp [encCase]) ?_;refine sns ?_;refine zAA zAX rfl ?_;refine sns ?_;refine zAA cf rfl ?_
    (repeat' (first|refine stn ?_|(with_reducible refine brr ?_ ?_<;>intro h)|(with_reducible refine zAF ?_ ?_<;>intro h)|with_reducible refine zAL ?_ ?_)); all_goals try (conv=>whnf)
    ·refine zAA zAX rfl ?_
     refine sns ?_;exact zAB rfl rfl
    ·refine zAA zAX rfl ?_
     refine sns ?_;exact zAB rfl rfl
    refine zAA cm rfl ?_
    (repeat' (first|refine stn ?_|(with_reducible refine brr ?_ ?_<;>intro h)|(with_reducible refine zAF ?_ ?_<;>intro h)|with_reducible refine zAL ?_ ?_)); all_goals try (conv=>whnf)
    ·refine zAA zAX rfl ?_
     refine sns ?_;exact zAB rfl rfl
    ·refine zAA zAX rfl ?_
     refine sns ?_;exact zAB rfl rfl
    ·refine zAA t0 rfl ?_
     (repeat' (first|refine stn ?_|(with_reducible refine brr ?_ ?_<;>intro h)|(with_reducible refine zAF ?_ ?_<;>intro h)|with_reducible refine zAL ?_ ?_)); all_goals try (conv=>whnf)
     ·exact zAB rfl rfl
     ·have h0 : R.2 = 0 := by omega
      exact absurd h0 (hg' (of_decide_eq_true (hcan.trans (by assumption))) (by omega) (by omega) (by first | assumption | (cases hh : more.neg <;> simp_all)))
    ·refine zAA zAX rfl ?_
     refine sns ?_;exact zAB rfl rfl
end Go.PI.Tryz
