/-
  Simplify and the search of the reference.
-/
import Derived.Test.YtdgckinmcnjheaaGreatCWA
import Derived.Test.YtdgckinmcnjheaaGreatCGA
import Derived.Test.YtdgckinmcnjheaaGreatCHA
import Derived.Test.YtdgckinmcnjheaaGreatCWB
import Derived.Test.YtdgckinmcnjheaaGreatCGB
set_option linter.unusedVariables false
set_option linter.unusedSimpArgs false
set_option linter.unnecessarySimpa false
namespace Go.PI.Tryz
open Go.Proofs Go.PI
set_option maxHeartbeats 2000000
theorem ok_rwith : FO 45 Tryz.f45 [.tmp 6] 16 := mkO Tryz.func45 Tryz.ntmps45 Tryz.results45
theorem c_rwith (x : List Rat) (i : Nat) (e : Rat) (hi : i < x.length) (hl : x.length ≤ 1048576) : Fn 45 [.imm (x.map encX), .int .i64 i, encRat (cr e)] (.data (.imm ((x.set i e).map encX))) := by
 refine zAM hmix hT ok_rwith (by simp [encRat]) ?_;refine sus ?_
 (refine zA5 ?_; refine sus ?_)
 refine tellV [] [(1, .int .i64 i), (5, .ptr 0 0 0), (7, .own 1 0 x.length)] [(0, ⟨[encRat (cr e)], 3, true⟩), (1, rowX x)] [] 2 (by decide) (by simp) trivial
  ⟨[0, 4], [], [], [], ttt, ⟨zAC rfl rfl, apx, zAH (by decide) rfl (by simp), trivial⟩, ⟨bbx, zAE (by decide) rfl rfl (zAN x) rfl, trivial⟩, by simp [ren]⟩ ?_
 refine sus ?_;refine zA0 i (Nat.zero_add _) hi ?_;refine sts ?_;exact zAB (zAI rfl (zBJ (Nat.zero_add _) rfl) (by simp) fun q => zCH (cr q)) rfl
theorem ok_rhalf : FO 104 Tryz.f104 [.cell 4 35] 16 := mkO Tryz.func104 Tryz.ntmps104 Tryz.results104
theorem c_rhalf43 (a b : Rat) (k : Nat) (ha : sz k a) (hb : sz k b) (hk : k ≤ 100000000) : Fn 104 [encRat (cr a), encRat (cr b)] (.data (encRat (cr (halfQ * (a + b))))) := by
 have hsum := zBR ha hb;have l1 := zAJ ha;have l2 := zAJ hb;have l4 := zAJ hsum;have l5 := zAJ zHX;have c1 := zHH 1 2 (by decide) (by decide);have c3 := zC9 (cr a) (cr b) (zAF _) (zAF _) (by omega) (by omega) (by omega) (by omega);rw [zAL, zAL] at c3;have c4 := zG1 (cr halfQ) (cr (a + b)) (zAF _) (zAF _) (by omega) (by omega) (by omega) (by omega);rw [zAL, zAL] at c4;rw [show mkRat 1 (Int.natAbs 2) = halfQ by decide +kernel] at c1;generalize halfQ * (a + b) = H at *
 refine zAM hmix hT ok_rhalf (by simp [encRat]) ?_;refine sts ?_;refine zAA c1 rfl ?_;refine sts ?_;refine zAA c3 rfl ?_;refine sts ?_;refine zAA c4 rfl ?_;refine sts ?_;exact zAB rfl rfl
theorem w_finO {q : QryL} {kg : Nat} (h : smQ q kg) : ∀ f ∈ q.g.outs, 200 + f.terms.length * (200 + 40000 + 1) + 200 + 40000 ≤ 949999990 := fun f hf => by
 obtain ⟨j, hj, rfl⟩ := List.getElem_of_mem hf;have h1 := zCC (h.va.1.2.2.2.2 j hj);rw [getElem!_pos _ j hj] at h1;have h3 := h.ins;have h4 := h.un;have h2 := zLX 7 h1.1.1 fun t ht => by have := h1.2 t ht; omega
 rw [zE1] at h2;have := Nat.mul_le_mul_right (200 + 40000 + 1) h2;omega
theorem w_szR {q : QryL} {kg n : Nat} (h : smQ q kg) (hn : q.g.ins = (n : Int)) (p : List Int) : szR q.g p n 200 (kapW n) := fun j hj => by
 have hl : (usQ q).length = q.g.units.length := zB6 q;exact ⟨zGU (h.us hn) j (by omega), Nat.le_trans (zHE (h.us hn) (by omega)) (by decide)⟩
theorem sgn_one {q : Rat} (h : 0 < q) : sgnQ q = 1 := Int.sign_eq_one_of_pos (zET h)
theorem sgn_mone {q : Rat} (h : q < 0) : sgnQ q = -1 := by
 have := sgnQ_neg.2 h
 have h2 : sgnQ q = -1 ∨ sgnQ q = 0 ∨ sgnQ q = 1 := by
  rcases Int.lt_trichotomy q.num 0 with e | e | e
  ·exact Or.inl (Int.sign_eq_neg_one_of_neg e)
  ·exact Or.inr (Or.inl (by unfold sgnQ; rw [e]; rfl))
  ·exact Or.inr (Or.inr (Int.sign_eq_one_of_pos e))
 omega
theorem sgn_nn {a b : Rat} : 0 ≤ sgnQ (a - b) ↔ b ≤ a := by
 have h : sgnQ (a - b) < 0 ↔ a - b < 0 := sgnQ_neg;constructor
 ·intro h2
  refine Rat.not_lt.1 fun h3 => ?_
  have := h.2 (by grind);omega
 ·intro h2
  refine Int.not_lt.1 fun h3 => ?_
  have := h.1 h3
  grind
theorem sgn_np {a b : Rat} : sgnQ (a - b) ≤ 0 ↔ a ≤ b := by
 have h : 0 < sgnQ (a - b) ↔ 0 < a - b := sgnQ_pos;constructor
 ·intro h2
  refine Rat.not_lt.1 fun h3 => ?_
  have := h.2 (by grind);omega
 ·intro h2
  refine Int.not_lt.1 fun h3 => ?_
  have := h.1 h3
  grind
theorem ok_rcoord : FO 46 Tryz.f46 [.cell 6 35] 173 := mkO Tryz.func46 Tryz.ntmps46 Tryz.results46
theorem c_rcoord (q : QryL) (kg n : Nat) (x : List Rat) (i : Nat) (hQ : smQ q kg) (hkg : kg ≤ 200) (hn : q.g.ins = (n : Int)) (hin : inQ q x) (hv : wval q x < 0) (hs : ∀ r ∈ x, sz 200 r) (hi : i < n) : Fn 46 [encQry q, .imm (x.map encX), .int .i64 i] (.data (encRat (cr (crdQ q n x i)))) := by
 have hx : x.length = n := by have := hin.1; omega
 obtain ⟨n1, n2, n3, n4⟩ := hQ.nn hn;have hun := hQ.un;have hul := zB6 q;have hwv := zKP hQ hn hx hs;have hpl := zB9 (usQ q) x;have hla := zMF (x := x) (by omega) hs;have hva : okLs 950000000 (x.map cr) := zH3 (by decide) hla;have c1 := c_rof18O q.g (x.map cr) 200 40000 (zCF (by decide) hQ.g) (by decide) (by decide) (by decide) (by decide) hQ.va.1 hva (by simp; omega) (by rw [zJB]; exact ⟨fun j hj => ⟨hwv.1 j (by omega), hwv.2 j (by omega)⟩, hwv.1 _ (Nat.le_refl _), w_fin hQ, w_finO hQ⟩);rw [zH6, zJB, show preL q.g.us x = preL (usQ q) x from rfl, opnI_zero] at c1;have hall := opnI_all (q := q) (x := x);generalize preL (usQ q) x = pre at *
 have c2 := c_rforms18 q.g (phO q x) n 200 (kapW n) (zCF (by decide) hQ.g) (by decide) (by decide) (w_com hQ x) (by rw [zF6]; omega) hn (w_szR hQ hn _);have c3 := c_rpiece18O q.g (phO q x) n 200 (kapW n) (zCF (by decide) hQ.g) (by decide) (by decide) (w_com hQ x) (by rw [zF6]; omega) hn (w_szR hQ hn _);rw [show pieL q.g.us n (phO q x) = rowsP q n (phO q x) from pieL_rows q n _] at c3;have hphl : (phO q x).length = pre.length := by rw [zF6]; omega
 rw [show rowF (rowsP q n (phO q x)) = ⟨(rowsP q n (phO q x)).map encF, 4, true⟩ from rfl] at c3;have hrw := rowsW_sz hQ hn hx hs;obtain ⟨_, _, _, b4, b5⟩ := hQ.bnd (i := i) (by omega);have hb0 := lohi_sz hQ (i := i) (by omega);obtain ⟨g1, g2, g3⟩ := goalP_sz hQ hkg hn (phO q x);have hgn := goalM_szN hQ hkg hn hx hs (phO q x);rw [show goalP q n (phO q x) = goalW q n x from rfl] at g1 g2 g3 hgn;have hl1 : (rowsP q n (phO q x)).length ≤ 4 := by simp [rowsP, zB6]; omega
 have hl2 : q.r.rows.length ≤ 8 := hQ.rows
 have eR2 : q.r.rows.map encAff = (q.r.rows.map AffL.Q).map encF := by
  rw [List.map_map];refine List.map_congr_left fun a ha => ?_
  obtain ⟨j, hj, rfl⟩ := List.getElem_of_mem ha;have h1 := hQ.va.2.1.2.2.2.2.2 j hj;rw [getElem!_pos _ j hj] at h1;exact (zE6 h1).symm
 have hF : szF 200 q.goal.Q := zBT (zB0 hkg hQ.goal) (by decide);have hfl := zBZ (usQ q) n (phO q x) (usQ q).length;have hgoal := zCC hQ.va.2.2;rw [hn] at hgoal
 have hfo : okF (frmN q.g.us n (phO q x) q.g.us.length).length q.goal.Q := by
  rw [show frmN q.g.us n (phO q x) q.g.us.length = frmN (usQ q) n (phO q x) (usQ q).length from rfl, hfl, zB6]; exact_mod_cast hgoal
 have hS := zHE (n := n) (hQ.us hn) (j := (usQ q).length) (Nat.le_refl _);rw [← hfl] at hS;have hft := Nat.le_trans (Nat.le_of_eq (zE1 q.goal)) (zE8 hQ).2.2;have c4 := c_rinsertD q.goal.Q (frmN q.g.us n (phO q x) q.g.us.length) n 200 (kapW n) (zGU (hQ.us hn) _ (Nat.le_refl _)) (by omega) hF hfo (by omega) (Nat.le_trans hS (by decide)) (by rw [show frmN q.g.us n (phO q x) q.g.us.length = frmN (usQ q) n (phO q x) (usQ q).length from rfl, hfl]; omega);rw [zE6 hQ.va.2.2, show applyQ q.goal.Q (frmN q.g.us n (phO q x) q.g.us.length) = goalW q n x from rfl] at c4;have co := zFY (-1) (by decide);rw [show (((-1 : Int)) : Rat) = -1 by rfl] at co;have c5 := zJE (goalW q n x) (-1) 40000 1 g2 (zGI (z := -1) (by decide)) (by omega) (by omega);rw [zN8 g1.1] at c5;have hgx : evQ (goalW q n x) x < 0 := by unfold goalW; rw [goal_at hQ hn hx (zHZ (q := q) (x := x)) (phO_ag q x)]; exact hv
 have hbi := hin.2.1 i (by omega);have hends := ends_ok (i := i) (rows := rowsW q n x) (g := goalW q n x) (by omega) (zLA hQ hn hx hin) (zLJ hQ hn _) hgx hbi.1 hbi.2;have hRE := ref_ends (i := i) (rows := rowsW q n x) (g := goalW q n x) (by omega) (zLA hQ hn hx hin) (zLJ hQ hn _) hgx hbi.1 hbi.2;have hle := Rat.le_trans hends.c hends.d;have eC : crdQ q n x i = simp2 (insW (goalW q n x) x i (bndW (rowsW q n x) (goalW q n x) x i (qv q.r.lo[i]!) (qv q.r.hi[i]!)).1) (insW (goalW q n x) x i (bndW (rowsW q n x) (goalW q n x) x i (qv q.r.lo[i]!) (qv q.r.hi[i]!)).2) := rfl;have hzb := hgn.nar (i := i) (by decide) (by decide) (by omega) (zJ8 (i := i) (by omega) _ (qv q.r.lo[i]!, qv q.r.hi[i]!) hrw hb0);rw [show nar x i (List.foldl (nar x i) (qv q.r.lo[i]!, qv q.r.hi[i]!) (rowsW q n x)) (mergeQ zeroQ (goalW q n x) (-1)) = bndW (rowsW q n x) (goalW q n x) x i (qv q.r.lo[i]!) (qv q.r.hi[i]!) from rfl] at hzb;have hzE1 := insW_sz (g := goalW q n x) (i := i) (by omega) hs hzb.1;have hzE2 := insW_sz (g := goalW q n x) (i := i) (by omega) hs hzb.2;clear hends hgx hzb;generalize insW (goalW q n x) x i (bndW (rowsW q n x) (goalW q n x) x i (qv q.r.lo[i]!) (qv q.r.hi[i]!)).1 = E1 at *
 generalize insW (goalW q n x) x i (bndW (rowsW q n x) (goalW q n x) x i (qv q.r.lo[i]!) (qv q.r.hi[i]!)).2 = E2 at *
 generalize goalW q n x = g at *
 obtain ⟨RR, hRR⟩ : ∃ RR, RR = rowsW q n x ++ [mergeQ zeroQ g (-1)] := ⟨_, rfl⟩;refine zAM hmix hT ok_rcoord (by simp [encQry]) ?_;refine sts ?_;refine zBD c1 rfl ?_;refine sts ?_
 refine zAG hT (fun (j : Nat) => [(1, .imm (x.map encX)), (2, .int .i64 i), (3, .ptr 0 0 0), (6, .ptr 1 0 0), (7, .own 2 0 pre.length), (9, .int .i64 j)]) (fun j => [(0, ⟨[encQry q], 10, true⟩), (1, ⟨[.agg [.bool false, .nilsl, .nilsl]], 3, true⟩), (2, ⟨(opnI pre j).map (.int .i64), 1, false⟩)]) [] 3
  (fun j => j ≤ pre.length) (fun j => pre.length - j) 0 (Nat.zero_le _) (by decide) (by simp) ?_ ?_
 ·exact ⟨[0, 1, 5], [], [], [], ttt, ⟨zAD rfl rfl, zAC rfl rfl, apx, apx, zAH (by decide) rfl rfl, zAC rfl rfl, trivial⟩, ⟨bbx, bbx, zAE (by decide) rfl rfl (zDH _) rfl, trivial⟩, by simp [ren]⟩
 intro j j1;have hil := opnI_len pre j;by_cases hj : j < pre.length
 ·have hgt := opnI_get hj
  (repeat' (first|refine stp ?_|with_reducible(refine brr ?_ ?_<;>intro h)));all_goals try(conv=>whnf)
  all_goals try (exfalso; omega)
  refine zA0 j (Nat.zero_add _) (by omega) ?_;rw [hgt]
  (repeat' (first|refine stp ?_|with_reducible(refine brr ?_ ?_<;>intro h)));all_goals try(conv=>whnf)
  ·refine zA0 j (Nat.zero_add _) (by omega) ?_
   refine sts ?_;exact ⟨j + 1, ⟨by omega, by show pre.length - (j + 1) < pre.length - j; omega⟩, [0, 1, 2], [], [], [], ttt, ⟨zAD rfl rfl, zAC rfl rfl, apx, apx, zAH (by decide) rfl rfl, zAC rfl rfl, trivial⟩, ⟨bbx, bbx, zAE (by decide) rfl (by rw [← opnI_set hj (by assumption)]; exact zBJ (by omega) rfl) (zDH _) rfl, trivial⟩, by simp [ren]⟩
  ·exact ⟨j + 1, ⟨by omega, by show pre.length - (j + 1) < pre.length - j; omega⟩, [0, 1, 2], [], [], [], ttt, ⟨zAD rfl rfl, zAC rfl rfl, apx, apx, zAH (by decide) rfl rfl, zAC rfl rfl, trivial⟩, ⟨bbx, bbx, zAE (by decide) rfl (congrArg (List.map (PV.int .i64)) (opnI_keep (by assumption))) (zDH _) rfl, trivial⟩, by simp [ren]⟩
 have ej : j = pre.length := by omega
 rw [ej, hall];refine sus ?_;refine zA5 ?_
 (repeat' (first|refine stu ?_|with_reducible(refine brr ?_ ?_<;>intro h)));all_goals try(conv=>whnf)
 all_goals try (exfalso; omega)
 refine tellV [] [(1, .imm (x.map encX)), (2, .int .i64 i), (3, .ptr 0 0 0), (6, .ptr 1 0 0), (7, ints (phO q x))] [(0, ⟨[encQry q], 10, true⟩), (1, ⟨[.agg [.bool false, .nilsl, .nilsl]], 3, true⟩)] [] 2 (by decide) (by simp) trivial
  ⟨[0, 1], [2], [(7, ints (phO q x))], [], ⟨⟨⟨_, rfl⟩, trivial⟩, ⟨⟨6, _, zAI rfl rfl (by omega) fun _ => rfl, rfl⟩, trivial⟩, trivial⟩, ⟨zAD rfl rfl, zAC rfl rfl, apx, apx, zAD rfl rfl, trivial⟩, ⟨bbx, bbx, trivial⟩, by simp [ren]⟩ ?_
 refine sts ?_;refine zAA c2 rfl ?_;refine sts ?_;refine zBD c3 rfl ?_;refine sts ?_;refine zAA c4 rfl ?_;refine sts ?_;refine zAA co rfl ?_;refine sts ?_;refine zAA c5 rfl ?_;refine sus ?_
 refine tellV [] [(1, .imm (x.map encX)), (2, .int .i64 i), (3, .ptr 0 0 0), (6, .ptr 1 0 0), (13, .imm (RR.map encF))] [(0, ⟨[encQry q], 10, true⟩), (1, ⟨[.agg [.bool false, .nilsl, .nilsl]], 3, true⟩)] [] 2 (by decide) (by simp) trivial
  ⟨[0, 1], [36], [(13, .imm (RR.map encF))], [], ⟨⟨⟨_, rfl⟩, trivial⟩, ⟨⟨6, _, zAI rfl (by rw [hRR]; show (List.map encF (rowsP q n (phO q x)) ++ q.r.rows.map encAff) ++ [encF (mergeQ zeroQ g (-1))] = _; rw [eR2]; simp [rowsW]) (by rw [hRR]; simp [rowsW]; omega) zNY, rfl⟩, trivial⟩, trivial⟩, ⟨zAD rfl rfl, zAC rfl rfl, apx, apx, zAD rfl rfl, trivial⟩, ⟨bbx, bbx, trivial⟩, by simp [ren]⟩ ?_
 refine sts ?_
 all_goals try (exfalso; omega)
 have hRl : RR.length = (rowsW q n x).length + 1 := by rw [hRR]; simp
 have hRl2 : RR.length ≤ 13 := by rw [hRl]; simp [rowsW]; omega
 have hRg : ∀ k, k < (rowsW q n x).length → RR[k]! = (rowsW q n x)[k]! := fun k hk => by
  rw [hRR, getElem!_pos _ k (by simp; omega), getElem!_pos _ k hk, List.getElem_append_left hk]
 have hRL : RR[(rowsW q n x).length]! = mergeQ zeroQ g (-1) := by
  rw [hRR, getElem!_pos _ _ (by simp), List.getElem_append_right (Nat.le_refl _)]; simp
 have hRs : ∀ k, k < RR.length → szN RR[k]! x 40001 := fun k hk => by
  by_cases e : k < (rowsW q n x).length
  ·rw [hRg k e]; exact hrw _ (w_get e)
  ·rw [show k = (rowsW q n x).length by omega, hRL]; exact hgn
 refine zAG hT (fun (k : Nat) => [(1, .imm (x.map encX)), (2, .int .i64 i), (3, .ptr 0 0 0), (6, .ptr 1 0 0), (13, .imm (RR.map encF)), (15, .ptr 2 0 0), (16, .ptr 3 0 0), (17, .int .i64 k)]) (fun k => [(0, ⟨[encQry q], 10, true⟩), (1, ⟨[.agg [.bool false, .nilsl, .nilsl]], 3, true⟩), (2, ⟨[encRat (cr (refI (rowsW q n x) (mergeQ zeroQ g (-1)) x i (qv q.r.lo[i]!, qv q.r.hi[i]!) k).1)], 3, true⟩), (3, ⟨[encRat (cr (refI (rowsW q n x) (mergeQ zeroQ g (-1)) x i (qv q.r.lo[i]!, qv q.r.hi[i]!) k).2)], 3, true⟩)]) [] 4
  (fun k => k ≤ RR.length) (fun k => RR.length - k) 0 (Nat.zero_le _) (by decide) (by simp) ?_ ?_
 ·exact ⟨[0, 1, 14, 15], [], [], [], ttt, ⟨zAD rfl rfl, zAC rfl rfl, apx, apx, zAD rfl rfl, apx, apx, zAC rfl rfl, trivial⟩, ⟨bbx, bbx, zBF (by decide) rfl (by rw [refI_zero]; exact congrArg encRat b4) rfl rfl rfl, zBF (by decide) rfl (by rw [refI_zero]; exact congrArg encRat b5) rfl rfl rfl, trivial⟩, by simp [ren]⟩
 intro k k1;by_cases hk : k < RR.length
 ·have hf := hRs k hk
  have hbz := refI_sz (x := x) (i := i) (b := (qv q.r.lo[i]!, qv q.r.hi[i]!)) (g := mergeQ zeroQ g (-1)) (k := k) (by omega) hrw hb0 (by omega);have hxi := hs _ (get_mem (l := x) (i := i) (by omega));have hx0 : ∀ r ∈ x.set i 0, sz 200 r := set_sz hs (sz_0 (by decide)) i;have hx0l : (x.set i 0).length = x.length := by simp
  have hfo2 : ∀ t ∈ RR[k]!.ts, 0 ≤ t.1 ∧ t.1 < (x.set i 0).length := fun t ht => by rw [hx0l]; exact hf.ok.2 t ht
  have hfl := hf.len;have hmul := Nat.mul_le_mul_right (40001 + 200 + 1) hfl;have zc := cf_sz (v := (i : Int)) (by decide) hf.ok.1.1 hf.ff.2;have ze := zA4 (k := 160607) (by omega) (zM3 hf.ff hx0 hfo2);have lc := zAJ zc;have le' := zAJ ze;have ln := zAJ (zGE ze);have d1 := c_rlcoef RR[k]! i 40001 hf.ff (by decide) hf.ok.1.1 (by omega);have d2 := c_rwith x i 0 (by omega) (by omega);rw [zGB] at d2;have d3 := c_rleval RR[k]! (x.set i 0) 40001 200 hf.ff hx0 hfo2 (by omega) (by omega) (by omega);have d4 := zNI (cr (evQ RR[k]! (x.set i 0))) (zAF _) (by omega) (by omega);rw [zAL] at d4;have d6 := zDG (cr (cf RR[k]!.ts i)) (zAF _) (by omega);rw [zAL] at d6;have hlast : (k : Int) = (RR.length : Int) - 1 ↔ k = (rowsW q n x).length := by omega
  by_cases h0 : cf RR[k]!.ts i = 0
  ·have d5 := c_rqdiv0 (cr (- evQ RR[k]! (x.set i 0))) (cr (cf RR[k]!.ts i)) (zAF _) (by omega) (by rw [zAL]; exact h0)
   have eK : refI (rowsW q n x) (mergeQ zeroQ g (-1)) x i (qv q.r.lo[i]!, qv q.r.hi[i]!) (k + 1) = refI (rowsW q n x) (mergeQ zeroQ g (-1)) x i (qv q.r.lo[i]!, qv q.r.hi[i]!) k := by
    by_cases e : k < (rowsW q n x).length
    ·rw [hRg k e] at h0
     rw [zMA e]; unfold nar; rw [if_pos h0]
    ·have e : k = (rowsW q n x).length := by omega
     rw [e, hRL] at h0;rw [e, zIK]; unfold refB; rw [if_pos h0]
   have e0 := sgnQ_zero.2 h0;generalize sgnQ (cf RR[k]!.ts i) = S at *
   by_cases e : k < (rowsW q n x).length
   ·(repeat' (first|refine stp ?_|with_reducible(refine brr ?_ ?_<;>intro h)));all_goals try(conv=>whnf)
    all_goals try (exfalso; omega)
    refine zAA d1 rfl ?_;refine sts ?_;refine zAA d2 rfl ?_;refine sts ?_;refine zAA d3 rfl ?_;refine sts ?_;refine zAA d4 rfl ?_;refine sts ?_;refine zAA d5 rfl ?_
    (repeat' (first|refine stp ?_|with_reducible(refine brr ?_ ?_<;>intro h)));all_goals try(conv=>whnf)
    all_goals try (exfalso; omega)
    refine zAA d6 rfl ?_
    (repeat' (first|refine stp ?_|with_reducible(refine brr ?_ ?_<;>intro h)));all_goals try(conv=>whnf)
    all_goals try (exfalso; omega)
    exact ⟨k + 1, ⟨by omega, by show RR.length - (k + 1) < RR.length - k; omega⟩, [0, 1, 2, 3], [], [], [], ttt, ⟨zAD rfl rfl, zAC rfl rfl, apx, apx, zAD rfl rfl, apx, apx, zAC rfl rfl, trivial⟩, ⟨bbx, bbx, zBF (by decide) rfl (by rw [eK] <;> rfl) rfl rfl rfl, zBF (by decide) rfl (by rw [eK] <;> rfl) rfl rfl rfl, trivial⟩, by simp [ren]⟩
   ·(repeat' (first|refine stp ?_|with_reducible(refine brr ?_ ?_<;>intro h)));all_goals try(conv=>whnf)
    all_goals try (exfalso; omega)
    refine zAA d1 rfl ?_;refine sts ?_;refine zAA d2 rfl ?_;refine sts ?_;refine zAA d3 rfl ?_;refine sts ?_;refine zAA d4 rfl ?_;refine sts ?_;refine zAA d5 rfl ?_
    (repeat' (first|refine stp ?_|with_reducible(refine brr ?_ ?_<;>intro h)));all_goals try(conv=>whnf)
    all_goals try (exfalso; omega)
    refine zAA d6 rfl ?_
    (repeat' (first|refine stp ?_|with_reducible(refine brr ?_ ?_<;>intro h)));all_goals try(conv=>whnf)
    all_goals try (exfalso; omega)
    refine zAA d6 rfl ?_
    (repeat' (first|refine stp ?_|with_reducible(refine brr ?_ ?_<;>intro h)));all_goals try(conv=>whnf)
    all_goals try (exfalso; omega)
    exact ⟨k + 1, ⟨by omega, by show RR.length - (k + 1) < RR.length - k; omega⟩, [0, 1, 2, 3], [], [], [], ttt, ⟨zAD rfl rfl, zAC rfl rfl, apx, apx, zAD rfl rfl, apx, apx, zAC rfl rfl, trivial⟩, ⟨bbx, bbx, zBF (by decide) rfl (by rw [eK] <;> rfl) rfl rfl rfl, zBF (by decide) rfl (by rw [eK] <;> rfl) rfl rfl rfl, trivial⟩, by simp [ren]⟩
  ·obtain ⟨z1, z2⟩ := hf.zer (by decide) (i := i) (by omega) h0
   have hzz : sz 20000000 (zer x i RR[k]!) := zA4 (by decide) z2;have d5 := c_rqdiv (cr (- evQ RR[k]! (x.set i 0))) (cr (cf RR[k]!.ts i)) (zAF _) (zAF _) (by omega) (by omega) (by omega) (by omega) (by rw [zAL]; exact h0);rw [zAL, zAL, ev_out (by omega) (fun t ht => (hf.ok.2 t ht).1) h0] at d5;obtain ⟨Z, hzr⟩ : ∃ Z, zer x i RR[k]! = Z := ⟨_, rfl⟩;rw [hzr] at d5 hzz;rcases hB : refI (rowsW q n x) (mergeQ zeroQ g (-1)) x i (qv q.r.lo[i]!, qv q.r.hi[i]!) k with ⟨Lo, Hi⟩
   rw [hB] at hbz;dsimp only at hbz;have lZ := zAJ hzz;have lLo := zAJ hbz.1;have lHi := zAJ hbz.2;have d7 := zDK (cr Z) (cr Lo) (zAF _) (zAF _) (by omega) (by omega) (by omega) (by omega);rw [zAL, zAL] at d7;have d8 := zDK (cr Z) (cr Hi) (zAF _) (zAF _) (by omega) (by omega) (by omega) (by omega);rw [zAL, zAL] at d8;have hzh : sz 20000300 (halfQ * (Z + x[i]!)) := zA4 (by omega) (zB2 zHX (zBR hzz hxi));have d9 := c_rhalf43 Z x[i]! 20000000 hzz (zA4 (by decide) hxi) (by decide);by_cases hp : 0 < cf RR[k]!.ts i
   ·have eS : sgnQ (cf RR[k]!.ts i) = 1 := sgn_one hp
    by_cases e : k < (rowsW q n x).length
    ·have eK : refI (rowsW q n x) (mergeQ zeroQ g (-1)) x i (qv q.r.lo[i]!, qv q.r.hi[i]!) (k + 1) = (maxQ Lo Z, Hi) := by
      rw [zMA e, hB, ← hRg k e]; unfold nar; rw [if_neg h0, if_pos hp, hzr]
     have d10 := c_rqmax (cr Lo) (cr Z) 20000000 (zB7 hbz.1) (zB7 hzz) (by decide);rw [zAL, zAL] at d10;simp only [hB];clear hp h0 hzr hx0 hfo2 hin hv;generalize sgnQ (cf RR[k]!.ts i) = S at *
     generalize cf RR[k]!.ts i = C at *
     (repeat' (first|refine stp ?_|with_reducible(refine brr ?_ ?_<;>intro h)));all_goals try(conv=>whnf)
     all_goals try (exfalso; omega)
     refine zAA d1 rfl ?_;refine sts ?_;refine zAA d2 rfl ?_;refine sts ?_;refine zAA d3 rfl ?_;refine sts ?_;refine zAA d4 rfl ?_;refine sts ?_;refine zAA d5 rfl ?_
     (repeat' (first|refine stp ?_|with_reducible(refine brr ?_ ?_<;>intro h)));all_goals try(conv=>whnf)
     all_goals try (exfalso; omega)
     refine zAA d6 rfl ?_
     (repeat' (first|refine stp ?_|with_reducible(refine brr ?_ ?_<;>intro h)));all_goals try(conv=>whnf)
     all_goals try (exfalso; omega)
     refine zAA d10 rfl ?_;refine sts ?_;exact ⟨k + 1, ⟨by omega, by show RR.length - (k + 1) < RR.length - k; omega⟩, [0, 1, 2, 3], [], [], [], ttt, ⟨zAD rfl rfl, zAC rfl rfl, apx, apx, zAD rfl rfl, apx, apx, zAC rfl rfl, trivial⟩, ⟨bbx, bbx, zBF (by decide) rfl (by rw [eK] <;> rfl) rfl rfl rfl, zBF (by decide) rfl (by rw [eK] <;> rfl) rfl rfl rfl, trivial⟩, by simp [ren]⟩
    have e : k = (rowsW q n x).length := by omega
    have eL : refI (rowsW q n x) (mergeQ zeroQ g (-1)) x i (qv q.r.lo[i]!, qv q.r.hi[i]!) (k + 1) = refB x i (Lo, Hi) RR[k]! := by rw [e, hRL, zIK, ← e, hB]
    by_cases hc : Lo ≤ Z
    ·have eK : refI (rowsW q n x) (mergeQ zeroQ g (-1)) x i (qv q.r.lo[i]!, qv q.r.hi[i]!) (k + 1) = (maxQ Lo (halfQ * (Z + x[i]!)), Hi) := by
      rw [eL]; unfold refB refE; rw [if_neg h0, if_pos hp, hzr, if_pos (Or.inl ⟨hp, hc⟩)]
     have hc2 : 0 ≤ sgnQ (Z - Lo) := sgn_nn.2 hc;have d10 := c_rqmax (cr Lo) (cr (halfQ * (Z + x[i]!))) 20000300 (zB7 (zA4 (by decide) hbz.1)) (zB7 hzh) (by decide);rw [zAL, zAL] at d10;simp only [hB];clear hp h0 hzr hx0 hfo2 hin hv eL hc;generalize sgnQ (Z - Lo) = D at *
     generalize halfQ * (Z + x[i]!) = H at *
     generalize sgnQ (cf RR[k]!.ts i) = S at *
     generalize cf RR[k]!.ts i = C at *
     (repeat' (first|refine stp ?_|with_reducible(refine brr ?_ ?_<;>intro h)));all_goals try(conv=>whnf)
     all_goals try (exfalso; omega)
     refine zAA d1 rfl ?_;refine sts ?_;refine zAA d2 rfl ?_;refine sts ?_;refine zAA d3 rfl ?_;refine sts ?_;refine zAA d4 rfl ?_;refine sts ?_;refine zAA d5 rfl ?_
     (repeat' (first|refine stp ?_|with_reducible(refine brr ?_ ?_<;>intro h)));all_goals try(conv=>whnf)
     all_goals try (exfalso; omega)
     refine zAA d6 rfl ?_
     (repeat' (first|refine stp ?_|with_reducible(refine brr ?_ ?_<;>intro h)));all_goals try(conv=>whnf)
     all_goals try (exfalso; omega)
     refine zAA d6 rfl ?_
     (repeat' (first|refine stp ?_|with_reducible(refine brr ?_ ?_<;>intro h)));all_goals try(conv=>whnf)
     all_goals try (exfalso; omega)
     refine zAA d7 rfl ?_
     (repeat' (first|refine stp ?_|with_reducible(refine brr ?_ ?_<;>intro h)));all_goals try(conv=>whnf)
     all_goals try (exfalso; omega)
     refine zAA d9 rfl ?_;refine sts ?_;refine zAA d6 rfl ?_
     (repeat' (first|refine stp ?_|with_reducible(refine brr ?_ ?_<;>intro h)));all_goals try(conv=>whnf)
     all_goals try (exfalso; omega)
     refine zAA d10 rfl ?_;refine sts ?_;exact ⟨k + 1, ⟨by omega, by show RR.length - (k + 1) < RR.length - k; omega⟩, [0, 1, 2, 3], [], [], [], ttt, ⟨zAD rfl rfl, zAC rfl rfl, apx, apx, zAD rfl rfl, apx, apx, zAC rfl rfl, trivial⟩, ⟨bbx, bbx, zBF (by decide) rfl (by rw [eK] <;> rfl) rfl rfl rfl, zBF (by decide) rfl (by rw [eK] <;> rfl) rfl rfl rfl, trivial⟩, by simp [ren]⟩
    ·have eK : refI (rowsW q n x) (mergeQ zeroQ g (-1)) x i (qv q.r.lo[i]!, qv q.r.hi[i]!) (k + 1) = (maxQ Lo Z, Hi) := by
      rw [eL]; unfold refB refE; rw [if_neg h0, if_pos hp, hzr, if_neg (by rintro (⟨_, h⟩ | ⟨h, _⟩); exact hc h; grind)]
     have hc2 : ¬ 0 ≤ sgnQ (Z - Lo) := fun e => hc (sgn_nn.1 e)
     have d10 := c_rqmax (cr Lo) (cr Z) 20000300 (zB7 (zA4 (by decide) hbz.1)) (zB7 (zA4 (by decide) hzz)) (by decide);rw [zAL, zAL] at d10;simp only [hB];clear hp h0 hzr hx0 hfo2 hin hv eL hc;generalize sgnQ (Z - Lo) = D at *
     generalize halfQ * (Z + x[i]!) = H at *
     generalize sgnQ (cf RR[k]!.ts i) = S at *
     generalize cf RR[k]!.ts i = C at *
     (repeat' (first|refine stp ?_|with_reducible(refine brr ?_ ?_<;>intro h)));all_goals try(conv=>whnf)
     all_goals try (exfalso; omega)
     refine zAA d1 rfl ?_;refine sts ?_;refine zAA d2 rfl ?_;refine sts ?_;refine zAA d3 rfl ?_;refine sts ?_;refine zAA d4 rfl ?_;refine sts ?_;refine zAA d5 rfl ?_
     (repeat' (first|refine stp ?_|with_reducible(refine brr ?_ ?_<;>intro h)));all_goals try(conv=>whnf)
     all_goals try (exfalso; omega)
     refine zAA d6 rfl ?_
     (repeat' (first|refine stp ?_|with_reducible(refine brr ?_ ?_<;>intro h)));all_goals try(conv=>whnf)
     all_goals try (exfalso; omega)
     refine zAA d6 rfl ?_
     (repeat' (first|refine stp ?_|with_reducible(refine brr ?_ ?_<;>intro h)));all_goals try(conv=>whnf)
     all_goals try (exfalso; omega)
     refine zAA d7 rfl ?_
     (repeat' (first|refine stp ?_|with_reducible(refine brr ?_ ?_<;>intro h)));all_goals try(conv=>whnf)
     all_goals try (exfalso; omega)
     refine zAA d6 rfl ?_
     (repeat' (first|refine stp ?_|with_reducible(refine brr ?_ ?_<;>intro h)));all_goals try(conv=>whnf)
     all_goals try (exfalso; omega)
     refine zAA d6 rfl ?_
     (repeat' (first|refine stp ?_|with_reducible(refine brr ?_ ?_<;>intro h)));all_goals try(conv=>whnf)
     all_goals try (exfalso; omega)
     refine zAA d10 rfl ?_;refine sts ?_;exact ⟨k + 1, ⟨by omega, by show RR.length - (k + 1) < RR.length - k; omega⟩, [0, 1, 2, 3], [], [], [], ttt, ⟨zAD rfl rfl, zAC rfl rfl, apx, apx, zAD rfl rfl, apx, apx, zAC rfl rfl, trivial⟩, ⟨bbx, bbx, zBF (by decide) rfl (by rw [eK] <;> rfl) rfl rfl rfl, zBF (by decide) rfl (by rw [eK] <;> rfl) rfl rfl rfl, trivial⟩, by simp [ren]⟩
   have hp : cf RR[k]!.ts i < 0 := by grind
   have eS : sgnQ (cf RR[k]!.ts i) = -1 := sgn_mone hp;by_cases e : k < (rowsW q n x).length
   ·have eK : refI (rowsW q n x) (mergeQ zeroQ g (-1)) x i (qv q.r.lo[i]!, qv q.r.hi[i]!) (k + 1) = (Lo, minQ Hi Z) := by
     rw [zMA e, hB, ← hRg k e]; unfold nar; rw [if_neg h0, if_neg (by grind), hzr]
    have d10 := c_rqmin (cr Hi) (cr Z) 20000000 (zB7 hbz.2) (zB7 hzz) (by decide);rw [zAL, zAL] at d10;simp only [hB];clear hp h0 hzr hx0 hfo2 hin hv;generalize sgnQ (cf RR[k]!.ts i) = S at *
    generalize cf RR[k]!.ts i = C at *
    (repeat' (first|refine stp ?_|with_reducible(refine brr ?_ ?_<;>intro h)));all_goals try(conv=>whnf)
    all_goals try (exfalso; omega)
    refine zAA d1 rfl ?_;refine sts ?_;refine zAA d2 rfl ?_;refine sts ?_;refine zAA d3 rfl ?_;refine sts ?_;refine zAA d4 rfl ?_;refine sts ?_;refine zAA d5 rfl ?_
    (repeat' (first|refine stp ?_|with_reducible(refine brr ?_ ?_<;>intro h)));all_goals try(conv=>whnf)
    all_goals try (exfalso; omega)
    refine zAA d6 rfl ?_
    (repeat' (first|refine stp ?_|with_reducible(refine brr ?_ ?_<;>intro h)));all_goals try(conv=>whnf)
    all_goals try (exfalso; omega)
    refine zAA d10 rfl ?_;refine sts ?_;exact ⟨k + 1, ⟨by omega, by show RR.length - (k + 1) < RR.length - k; omega⟩, [0, 1, 2, 3], [], [], [], ttt, ⟨zAD rfl rfl, zAC rfl rfl, apx, apx, zAD rfl rfl, apx, apx, zAC rfl rfl, trivial⟩, ⟨bbx, bbx, zBF (by decide) rfl (by rw [eK] <;> rfl) rfl rfl rfl, zBF (by decide) rfl (by rw [eK] <;> rfl) rfl rfl rfl, trivial⟩, by simp [ren]⟩
   have e : k = (rowsW q n x).length := by omega
   have eL : refI (rowsW q n x) (mergeQ zeroQ g (-1)) x i (qv q.r.lo[i]!, qv q.r.hi[i]!) (k + 1) = refB x i (Lo, Hi) RR[k]! := by rw [e, hRL, zIK, ← e, hB]
   by_cases hc : Z ≤ Hi
   ·have eK : refI (rowsW q n x) (mergeQ zeroQ g (-1)) x i (qv q.r.lo[i]!, qv q.r.hi[i]!) (k + 1) = (Lo, minQ Hi (halfQ * (Z + x[i]!))) := by
     rw [eL]; unfold refB refE; rw [if_neg h0, if_neg (by grind), hzr, if_pos (Or.inr ⟨hp, hc⟩)]
    have hc2 : sgnQ (Z - Hi) ≤ 0 := sgn_np.2 hc;have d10 := c_rqmin (cr Hi) (cr (halfQ * (Z + x[i]!))) 20000300 (zB7 (zA4 (by decide) hbz.2)) (zB7 hzh) (by decide);rw [zAL, zAL] at d10;simp only [hB];clear hp h0 hzr hx0 hfo2 hin hv eL hc;generalize sgnQ (Z - Hi) = D at *
    generalize halfQ * (Z + x[i]!) = H at *
    generalize sgnQ (cf RR[k]!.ts i) = S at *
    generalize cf RR[k]!.ts i = C at *
    (repeat' (first|refine stp ?_|with_reducible(refine brr ?_ ?_<;>intro h)));all_goals try(conv=>whnf)
    all_goals try (exfalso; omega)
    refine zAA d1 rfl ?_;refine sts ?_;refine zAA d2 rfl ?_;refine sts ?_;refine zAA d3 rfl ?_;refine sts ?_;refine zAA d4 rfl ?_;refine sts ?_;refine zAA d5 rfl ?_
    (repeat' (first|refine stp ?_|with_reducible(refine brr ?_ ?_<;>intro h)));all_goals try(conv=>whnf)
    all_goals try (exfalso; omega)
    refine zAA d6 rfl ?_
    (repeat' (first|refine stp ?_|with_reducible(refine brr ?_ ?_<;>intro h)));all_goals try(conv=>whnf)
    all_goals try (exfalso; omega)
    refine zAA d6 rfl ?_
    (repeat' (first|refine stp ?_|with_reducible(refine brr ?_ ?_<;>intro h)));all_goals try(conv=>whnf)
    all_goals try (exfalso; omega)
    refine zAA d6 rfl ?_
    (repeat' (first|refine stp ?_|with_reducible(refine brr ?_ ?_<;>intro h)));all_goals try(conv=>whnf)
    all_goals try (exfalso; omega)
    refine zAA d8 rfl ?_
    (repeat' (first|refine stp ?_|with_reducible(refine brr ?_ ?_<;>intro h)));all_goals try(conv=>whnf)
    all_goals try (exfalso; omega)
    refine zAA d9 rfl ?_;refine sts ?_;refine zAA d6 rfl ?_
    (repeat' (first|refine stp ?_|with_reducible(refine brr ?_ ?_<;>intro h)));all_goals try(conv=>whnf)
    all_goals try (exfalso; omega)
    refine zAA d10 rfl ?_;refine sts ?_;exact ⟨k + 1, ⟨by omega, by show RR.length - (k + 1) < RR.length - k; omega⟩, [0, 1, 2, 3], [], [], [], ttt, ⟨zAD rfl rfl, zAC rfl rfl, apx, apx, zAD rfl rfl, apx, apx, zAC rfl rfl, trivial⟩, ⟨bbx, bbx, zBF (by decide) rfl (by rw [eK] <;> rfl) rfl rfl rfl, zBF (by decide) rfl (by rw [eK] <;> rfl) rfl rfl rfl, trivial⟩, by simp [ren]⟩
   ·have eK : refI (rowsW q n x) (mergeQ zeroQ g (-1)) x i (qv q.r.lo[i]!, qv q.r.hi[i]!) (k + 1) = (Lo, minQ Hi Z) := by
     rw [eL]; unfold refB refE; rw [if_neg h0, if_neg (by grind), hzr, if_neg (by rintro (⟨h, _⟩ | ⟨_, h⟩); grind; exact hc h)]
    have hc2 : ¬ sgnQ (Z - Hi) ≤ 0 := fun e => hc (sgn_np.1 e)
    have d10 := c_rqmin (cr Hi) (cr Z) 20000300 (zB7 (zA4 (by decide) hbz.2)) (zB7 (zA4 (by decide) hzz)) (by decide);rw [zAL, zAL] at d10;simp only [hB];clear hp h0 hzr hx0 hfo2 hin hv eL hc;generalize sgnQ (Z - Hi) = D at *
    generalize halfQ * (Z + x[i]!) = H at *
    generalize sgnQ (cf RR[k]!.ts i) = S at *
    generalize cf RR[k]!.ts i = C at *
    (repeat' (first|refine stp ?_|with_reducible(refine brr ?_ ?_<;>intro h)));all_goals try(conv=>whnf)
    all_goals try (exfalso; omega)
    refine zAA d1 rfl ?_;refine sts ?_;refine zAA d2 rfl ?_;refine sts ?_;refine zAA d3 rfl ?_;refine sts ?_;refine zAA d4 rfl ?_;refine sts ?_;refine zAA d5 rfl ?_
    (repeat' (first|refine stp ?_|with_reducible(refine brr ?_ ?_<;>intro h)));all_goals try(conv=>whnf)
    all_goals try (exfalso; omega)
    refine zAA d6 rfl ?_
    (repeat' (first|refine stp ?_|with_reducible(refine brr ?_ ?_<;>intro h)));all_goals try(conv=>whnf)
    all_goals try (exfalso; omega)
    refine zAA d6 rfl ?_
    (repeat' (first|refine stp ?_|with_reducible(refine brr ?_ ?_<;>intro h)));all_goals try(conv=>whnf)
    all_goals try (exfalso; omega)
    refine zAA d6 rfl ?_
    (repeat' (first|refine stp ?_|with_reducible(refine brr ?_ ?_<;>intro h)));all_goals try(conv=>whnf)
    all_goals try (exfalso; omega)
    refine zAA d8 rfl ?_
    (repeat' (first|refine stp ?_|with_reducible(refine brr ?_ ?_<;>intro h)));all_goals try(conv=>whnf)
    all_goals try (exfalso; omega)
    refine zAA d6 rfl ?_
    (repeat' (first|refine stp ?_|with_reducible(refine brr ?_ ?_<;>intro h)));all_goals try(conv=>whnf)
    all_goals try (exfalso; omega)
    refine zAA d10 rfl ?_;refine sts ?_;exact ⟨k + 1, ⟨by omega, by show RR.length - (k + 1) < RR.length - k; omega⟩, [0, 1, 2, 3], [], [], [], ttt, ⟨zAD rfl rfl, zAC rfl rfl, apx, apx, zAD rfl rfl, apx, apx, zAC rfl rfl, trivial⟩, ⟨bbx, bbx, zBF (by decide) rfl (by rw [eK] <;> rfl) rfl rfl rfl, zBF (by decide) rfl (by rw [eK] <;> rfl) rfl rfl rfl, trivial⟩, by simp [ren]⟩
 ·have ek : k = (rowsW q n x).length + 1 := by omega
  have hfin : refI (rowsW q n x) (mergeQ zeroQ g (-1)) x i (qv q.r.lo[i]!, qv q.r.hi[i]!) k = (E1, E2) := by
   rw [ek, zIK]; unfold refI; rw [if_pos (Nat.le_refl _), List.take_length]; exact hRE
  have cq := c_rqsimplest E1 E2 20000300 (by decide) (by decide) hzE1 hzE2 hle;simp only [hfin];rw [eC];generalize simp2 E1 E2 = e3 at *
  (repeat' (first|refine stp ?_|with_reducible(refine brr ?_ ?_<;>intro h)));all_goals try(conv=>whnf)
  all_goals try (exfalso; omega)
  refine zAA cq rfl ?_;refine sts ?_;exact zAB rfl rfl
end Go.PI.Tryz
namespace Go.PI.Tryz
open Go.Proofs Go.PI
set_option maxHeartbeats 2000000
theorem ok_rsimp : FO 17 Tryz.f17 [.tmp 4, .tmp 5] 27 := mkO Tryz.func17 Tryz.ntmps17 Tryz.results17
theorem c_rsimp (q : QryL) (kg n : Nat) (x : List Rat) (h : smQ q kg) (hkg : kg ≤ 200) (hn : q.g.ins = (n : Int)) (hs : ∀ r ∈ x, sz 200 r) (hd : ∀ i, i < n → x[i]!.den < pw 140) (hw : witP q x) : Fn 17 [encQry q, .imm (x.map encX)] (.data (.tup [.imm ((simI q n x n).map encX), .int .i64 0])) := by
 obtain ⟨hin, hv⟩ := (wit_in h).1 hw;have hx : x.length = n := by have := hin.1; omega
 obtain ⟨n1, n2, n3, n4⟩ := h.nn hn;have cc := zCK q kg x h (by omega) (by omega) hs;rw [dB_true.2 hw] at cc;refine zAM hmix hT ok_rsimp (by simp [encQry]) ?_;refine sts ?_;refine zAA cc rfl ?_;refine sts ?_
 refine zAG hT (fun (i : Nat) => [(1, .imm ((simI q n x i).map encX)), (2, .ptr 0 0 0), (6, .int .i64 i)]) (fun i => [(0, ⟨[encQry q], 10, true⟩)]) [] 1
  (fun i => i ≤ n) (fun i => n - i) 0 (Nat.zero_le _) (by decide) (by simp) ?_ ?_
 ·exact ⟨[0], [], [], [], ttt, ⟨zAD rfl rfl, apx, zAC rfl rfl, trivial⟩, ⟨bbx, trivial⟩, by simp [ren]⟩
 intro i i1;have hsim := sim_ok h hn hin hv i i1;have hss := sim_sz h hn hsim hd;have hlen : (simI q n x i).length = n := by have := hsim.inp.1; omega
 by_cases hi : i < n
 ·have cw := c_rcoord q kg n (simI q n x i) i h hkg hn hsim.inp hsim.val hss hi
  have cv := c_rwith (simI q n x i) i (crdQ q n (simI q n x i) i) (by omega) (by omega);have es : simI q n x (i + 1) = (simI q n x i).set i (crdQ q n (simI q n x i) i) := rfl;generalize simI q n x i = y at *
  generalize crdQ q n y i = e at *
  (repeat' (first|refine stp ?_|with_reducible(refine brr ?_ ?_<;>intro h)));all_goals try(conv=>whnf)
  all_goals try (exfalso; omega)
  refine zAA cw rfl ?_;refine sts ?_;refine zAA cv rfl ?_;refine sts ?_;exact ⟨i + 1, ⟨by omega, by show n - (i + 1) < n - i; omega⟩, [0], [], [], [], ttt, ⟨zAD rfl (by rw [es]), apx, zAC rfl rfl, trivial⟩, ⟨bbx, trivial⟩, by simp [ren]⟩
 ·have ei : i = n := by omega
  subst ei;have X_all : ∀ (y : List Rat), List.take y.length (y.map encX) = y.map encX := fun y => List.take_of_length_le (by simp)
  (repeat' (first|refine stp ?_|with_reducible(refine brr ?_ ?_<;>intro h)));all_goals try(conv=>whnf)
  all_goals try (exfalso; omega)
  exact zAB (zF8 (zAR (zAI rfl (by simp <;> (intro a _; rfl)) (by simp) fun q => zCH (cr q)) rfl)) rfl
theorem c_rsimpN (q : QryL) (kg : Nat) (x : List Rat) (h : smQ q kg) (hkg : kg ≤ 200) (hxl : x.length ≤ 1048576) (hs : ∀ r ∈ x, sz 200 r) (hw : ¬ witP q x) : Fn 17 [encQry q, .imm (x.map encX)] (.data (.tup [.imm [], .int .i64 1])) := by
 have cc := zCK q kg x h (by omega) hxl hs;rw [dB_false.2 hw] at cc;refine zAM hmix hT ok_rsimp (by simp [encQry]) ?_;refine sts ?_;refine zAA cc rfl ?_;refine sts ?_;exact zAB rfl rfl
theorem w_sameall (a b : List Rat) (k : Nat) (ha : ∀ r ∈ a, sz k r) (hb : ∀ r ∈ b, sz k r) (hk : k ≤ 900000) (hal : a.length ≤ 1048576) (hbl : b.length ≤ 1048576) : Fn 56 [.imm (a.map encX), .imm (b.map encX)] (.data (.bool (decide (a = b)))) := by
 have ok : ∀ {l : List Rat}, l.length ≤ 1048576 → (∀ r ∈ l, sz k r) → okLs 2147483596 (l.map cr) := fun h1 h2 => ⟨by simpa using h1, fun y hy => by
  obtain ⟨r, hr, rfl⟩ := List.mem_map.1 hy
  exact zKV (by omega) (zB7 (h2 r hr))⟩
 have := c_sameall (a.map cr) (b.map cr) (ok hal ha) (ok hbl hb);rw [zH6, zH6] at this
 rw [show decide (a = b) = decide (a.map cr = b.map cr) from decide_eq_decide.2 ⟨fun e => by rw [e], fun e => by
  have := congrArg (List.map qv) e
  rwa [zJB, zJB] at this⟩]
 exact this
theorem ok_rattack : FO 22 Tryz.f22 [.tmp 2, .tmp 3] 103 := mkO Tryz.func22 Tryz.ntmps22 Tryz.results22
theorem c_rattack (q : QryL) (kg n : Nat) (hQ : smQ q kg) (hkg : kg ≤ 200) (hn : q.g.ins = (n : Int)) : Fn 22 [encQry q] (.data (encO (attO q n (2 ^ n)))) := by
 obtain ⟨n1, n2, n3, n4⟩ := hQ.nn hn;have c0 := zNE q (hQ.okQ (by omega));rw [dB_true.2 hQ.va] at c0;have c1 := zOV q.r (zCE (by decide) hQ.r);refine zAM hmix hT ok_rattack (by simp [encQry]) ?_;refine sts ?_;refine zAA c0 rfl ?_;refine sts ?_;refine zAA c1 rfl ?_;refine sts ?_
 refine zAG hT (fun (i : Nat) => [(1, .ptr 0 0 0), (4, .own 1 0 1), (5, .int .i64 ((2 ^ i : Nat) : Int)), (6, .int .i64 i)]) (fun i => [(0, ⟨[encQry q], 10, true⟩), (1, rowL (candL q 0))]) [] 2
  (fun i => i ≤ n) (fun i => n - i) 0 (Nat.zero_le _) (by decide) (by simp) ?_ ?_
 ·exact ⟨[0, 9], [], [], [], ttt, ⟨apx, zAH (by decide) rfl rfl, zAC rfl rfl, zAC rfl rfl, trivial⟩, ⟨bbx, zAE (by decide) rfl rfl (zJP _) rfl, trivial⟩, by simp [ren]⟩
 intro i i1;by_cases hi : i < n
 ·obtain ⟨M, hM, hM2, hM3⟩ : ∃ M : Nat, M = 2 ^ i ∧ 1 ≤ M ∧ M ≤ 8 := ⟨_, rfl, Nat.one_le_two_pow, by
   have : i = 0 ∨ i = 1 ∨ i = 2 := by omega
   rcases this with rfl | rfl | rfl <;> decide⟩
  have hM4 : ((2 ^ (i + 1) : Nat) : Int) = 2 * (M : Int) := by rw [Nat.pow_succ, ← hM]; omega
  rw [← hM];clear hM
  (repeat' (first|refine stp ?_|with_reducible(refine brr ?_ ?_<;>intro h)));all_goals try(conv=>whnf)
  all_goals try (exfalso; omega)
  exact ⟨i + 1, ⟨by omega, by show n - (i + 1) < n - i; omega⟩, [0, 1], [], [], [], ttt, ⟨apx, zAH (by decide) rfl rfl, zAC rfl (by rw [hM4]), zAC rfl rfl, trivial⟩, ⟨bbx, zAE (by decide) rfl rfl (zJP _) rfl, trivial⟩, by simp [ren]⟩
 have ei : i = n := by omega
 rw [ei];clear ei hi i1
 obtain ⟨M, hM, hM2, hM3⟩ : ∃ M : Nat, M = 2 ^ n ∧ 1 ≤ M ∧ M ≤ 8 := ⟨_, rfl, Nat.one_le_two_pow, by
  have : n = 1 ∨ n = 2 ∨ n = 3 := by omega
  rcases this with rfl | rfl | rfl <;> decide⟩
 rw [← hM];clear hM
 (repeat' (first|refine stp ?_|with_reducible(refine brr ?_ ?_<;>intro h)));all_goals try(conv=>whnf)
 all_goals try (exfalso; omega)
 refine zAG hT (fun (i : Nat) => [(1, .ptr 0 0 0), (4, .own 1 0 (1 + i)), (5, .int .i64 M), (7, .int .i64 i)]) (fun i => [(0, ⟨[encQry q], 10, true⟩), (1, rowL (candL q i))]) [] 2
  (fun i => i ≤ M) (fun i => M - i) 0 (Nat.zero_le _) (by decide) (by simp) ?_ ?_
 ·exact ⟨[0, 1], [], [], [], ttt, ⟨apx, zAH (by decide) rfl rfl, zAC rfl rfl, zAC rfl rfl, trivial⟩, ⟨bbx, zAE (by decide) rfl rfl (zJP _) rfl, trivial⟩, by simp [ren]⟩
 intro i i1;have hcl := candL_len q i;by_cases hi : i < M
 ·have cc := zOU q.r i (zCE (by decide) hQ.r) (by omega)
  (repeat' (first|refine stp ?_|with_reducible(refine brr ?_ ?_<;>intro h)));all_goals try(conv=>whnf)
  all_goals try (exfalso; omega)
  refine zAA cc rfl ?_;refine sts ?_;exact ⟨i + 1, ⟨by omega, by show M - (i + 1) < M - i; omega⟩, [0, _], [], [], [], ttt, ⟨(apy rfl), zAH (by decide) rfl (by first | omega | (simp; omega) | rfl), zAC rfl rfl, zAC rfl rfl, trivial⟩, ⟨bbx, zAE (by decide) rfl (by rw [zOR, List.map_append]; rfl) (zJP _) rfl, trivial⟩, by simp [ren]⟩
 have ei : i = M := by omega
 subst ei;have cb := c_rbest q kg n (candL q i) hQ (by omega) hn (cand_sz hQ hn i) (by omega);refine sus ?_;refine zA5 ?_
 (repeat' (first|refine stu ?_|with_reducible(refine brr ?_ ?_<;>intro h)));all_goals try(conv=>whnf)
 all_goals try (exfalso; omega)
 refine tellV [] [(1, .ptr 0 0 0), (4, .imm ((candL q i).map encPt))] [(0, ⟨[encQry q], 10, true⟩)] [] 1 (by decide) (by simp) trivial
  ⟨[0], [1], [(4, .imm ((candL q i).map encPt))], [], ⟨⟨⟨_, rfl⟩, trivial⟩, ⟨⟨6, _, zAI rfl rfl (by omega) fun _ => rfl, rfl⟩, trivial⟩, trivial⟩, ⟨apx, zAD rfl rfl, trivial⟩, ⟨bbx, trivial⟩, by simp [ren]⟩ ?_
 have ha0 := attO_no (q := q) (n := n) (m := i);have ha1 := zJL (q := q) (n := n) (m := i);have hx : attX q n i = rdsW q n 4 (candL q i)[(bstN q (candL q i) (candL q i).length).1]! := rfl;have hco := cand_ok hQ hn (m := i);generalize attX q n i = X at *
 generalize attO q n i = O at *
 rcases hb : bstN q (candL q i) (candL q i).length with ⟨I, L, F⟩
 rw [hb] at cb ha0 ha1 hx hco;dsimp only at cb ha0 ha1 hx hco;cases F with
 | false =>
   rw [ha0 (by rintro ⟨h, _⟩; cases h)];refine sts ?_;refine zAA cb rfl ?_;refine sts ?_
   refine zAG hT (fun (_ : Nat) => [(1, .ptr 0 0 0), (8, .imm []), (9, .bool false), (10, .int .i64 0)]) (fun _ => [(0, ⟨[encQry q], 10, true⟩)]) [] 1
    (fun _ => True) (fun i => i) 0 trivial (by decide) (by simp) ?_ ?_
   ·exact ⟨[0], [], [], [], ttt, ⟨apx, zAD rfl rfl, zBP rfl rfl, zAC rfl rfl, trivial⟩, ⟨bbx, trivial⟩, by simp [ren]⟩
   intro _ _;refine sts ?_;exact zAB rfl rfl
 | true =>
   obtain ⟨hI, hpt⟩ := hco rfl;rw [show bstO q (candL q i) (I, L, true) = (candL q i)[I]!.map encX from rfl] at cb;refine sts ?_;refine zAA cb rfl ?_;refine sts ?_
   all_goals try (exfalso; omega)
   generalize (candL q i)[I]! = x0 at *
   refine zAG hT (fun ((r, x) : Nat × List Rat) => [(1, .ptr 0 0 0), (8, .imm (x.map encX)), (9, .bool true), (10, .int .i64 r)]) (fun _ => [(0, ⟨[encQry q], 10, true⟩)]) [] 1
    (fun (r, x) => r ≤ 4 ∧ ptW q n x ∧ X = rdsW q n (4 - r) x) (fun (r, _) => 4 - r) (0, x0) ⟨Nat.zero_le _, hpt, hx⟩ (by decide) (by simp) ?_ ?_
   ·exact ⟨[0], [], [], [], ttt, ⟨apx, zAD rfl rfl, zBP rfl rfl, zAC rfl rfl, trivial⟩, ⟨bbx, trivial⟩, by simp [ren]⟩
   intro ⟨r, x⟩ ⟨r1, hp, hX⟩;by_cases hr : r < 4
   ·have hxl := hp.len
    have hrd : rdsW q n (4 - r) x = if rndI q x n = x then x else rdsW q n (4 - (r + 1)) (rndI q x n) := by
     rw [show 4 - r = (4 - (r + 1)) + 1 by omega]; rfl
    (repeat' (first|refine stp ?_|with_reducible(refine brr ?_ ?_<;>intro h)));all_goals try(conv=>whnf)
    all_goals try (exfalso; omega)
    refine zAG hT (fun (i : Nat) => [(1, .ptr 0 0 0), (8, .imm ((rndI q x i).map encX)), (9, .bool true), (10, .int .i64 r), (11, .imm (x.map encX)), (12, .int .i64 i)]) (fun _ => [(0, ⟨[encQry q], 10, true⟩)]) [] 1
     (fun i => i ≤ n) (fun i => n - i) 0 (Nat.zero_le _) (by decide) (by simp) ?_ ?_
    ·exact ⟨[0], [], [], [], ttt, ⟨apx, zAD rfl rfl, zBP rfl rfl, zAC rfl rfl, zAD rfl rfl, zAC rfl rfl, trivial⟩, ⟨bbx, trivial⟩, by simp [ren]⟩
    intro j j1;obtain ⟨hpj, _⟩ := rnd_ok hQ hp j (by omega);have hyl := hpj.len;by_cases hj : j < n
    ·have es : rndI q x (j + 1) = impW q (rndI q x j) j := rfl
     have et : impW q (rndI q x j) j = (triL q (rndI q x j) j)[(bstN q (triL q (rndI q x j) j) 3).1]! := rfl;have htz := tri_sz hQ hpj.sz (i := j) (by omega);have hib := imp_ok hQ hpj (i := j) (by omega);have cb := c_rbest q kg n (triL q (rndI q x j) j) hQ (by omega) hn (fun y hy => by have := htz y hy; exact ⟨by rw [this.1, hpj.len], this.2⟩) (by simp [triL]);rw [show (triL q (rndI q x j) j).length = 3 from rfl, show bstO q (triL q (rndI q x j) j) (bstN q (triL q (rndI q x j) j) 3) = (impW q (rndI q x j) j).map encX by unfold bstO; rw [if_pos hib.2.2.1]; rfl] at cb;obtain ⟨_, _, _, b4, b5⟩ := hQ.bnd (i := j) (by omega);have w1 := c_rwith (rndI q x j) j (qv q.r.lo[j]!) (by omega) (by omega);have w2 := c_rwith (rndI q x j) j (qv q.r.hi[j]!) (by omega) (by omega);rw [← b4] at w1;rw [← b5] at w2;generalize rndI q x j = y at *
     (repeat' (first|refine stp ?_|with_reducible(refine brr ?_ ?_<;>intro h)));all_goals try(conv=>whnf)
     all_goals try (exfalso; omega)
     refine zAA w1 rfl ?_;refine sts ?_;refine zAA w2 rfl ?_;refine sts ?_;refine zAA cb rfl ?_;refine sts ?_;exact ⟨j + 1, ⟨by omega, by show n - (j + 1) < n - j; omega⟩, [0], [], [], [], ttt, ⟨apx, zAD rfl (by rw [es]), zBP rfl rfl, zAC rfl rfl, zAD rfl rfl, zAC rfl rfl, trivial⟩, ⟨bbx, trivial⟩, by simp [ren]⟩
    have ej : j = n := by omega
    subst ej;have cs := w_sameall x (rndI q x j) 200 hp.sz hpj.sz (by decide) (by omega) (by omega)
    (repeat' (first|refine stp ?_|with_reducible(refine brr ?_ ?_<;>intro h)));all_goals try(conv=>whnf)
    all_goals try (exfalso; omega)
    refine zAA cs rfl ?_
    (repeat' (first|refine stp ?_|with_reducible(refine brr ?_ ?_<;>intro h)));all_goals try(conv=>whnf)
    ·have eX : X = rndI q x j := by rw [hX, hrd, if_pos (by assumption : x = _).symm]; assumption
     have hXs : ∀ r ∈ X, sz 200 r := by rw [eX]; exact hpj.sz
     have hXl : X.length = j := by rw [eX]; exact hpj.len
     rw [← eX];by_cases hw : witP q X
     ·have cw := zCK q kg X hQ (by omega) (by omega) hXs
      rw [dB_true.2 hw] at cw;rw [ha1 ⟨rfl, hw⟩];refine zAA cw rfl ?_;refine sts ?_;exact zAB rfl rfl
     ·have cw := zCK q kg X hQ (by omega) (by omega) hXs
      rw [dB_false.2 hw] at cw;rw [ha0 fun e => hw e.2];refine zAA cw rfl ?_;refine sts ?_;exact zAB rfl rfl
    ·have hne : ¬ rndI q x j = x := fun e => absurd e.symm (by assumption)
     rw [if_neg hne] at hrd;exact ⟨(r + 1, rndI q x j), ⟨⟨by omega, hpj, by rw [hX, hrd]⟩, by show 4 - (r + 1) < 4 - r; omega⟩, [0], [], [], [], ttt, ⟨apx, zAD rfl rfl, zBP rfl rfl, zAC rfl rfl, trivial⟩, ⟨bbx, trivial⟩, by simp [ren]⟩
   ·have er : r = 4 := by omega
    subst er;have eX : X = x := hX;have hXs : ∀ r ∈ X, sz 200 r := by rw [eX]; exact hp.sz
    have hXl : X.length = n := by rw [eX]; exact hp.len
    rw [← eX];refine sts ?_
    all_goals try (exfalso; omega)
    by_cases hw : witP q X
    ·have cw := zCK q kg X hQ (by omega) (by omega) hXs
     rw [dB_true.2 hw] at cw;rw [ha1 ⟨rfl, hw⟩];refine zAA cw rfl ?_;refine sts ?_;exact zAB rfl rfl
    ·have cw := zCK q kg X hQ (by omega) (by omega) hXs
     rw [dB_false.2 hw] at cw;rw [ha0 fun e => hw e.2];refine zAA cw rfl ?_;refine sts ?_;exact zAB rfl rfl
end Go.PI.Tryz
