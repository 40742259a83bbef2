/-
  Small graphs and queries that bytes describe.
-/
import Derived.Test.YtdgckinmcnjheaaGreatCWA
import Derived.Test.YtdgckinmcnjheaaGreatCGA
import Derived.Test.YtdgckinmcnjheaaGreatCPE
import Derived.Test.YtdgckinmcnjheaaGreatCGB
set_option linter.unusedVariables false
set_option linter.unusedSimpArgs false
set_option linter.unnecessarySimpa false
namespace Go.PI.Tryz
open Go.Proofs Go.PI
theorem con_in {q : QryL} {kg : Nat} {x : List Rat} (h : smQ q kg) (hx : (x.length : Int) = q.g.ins) : conR q.r (x.map cr) ↔ inQ q x := by
 obtain ⟨n, hn, n1, n2, n3, n4⟩ := h.n;have hl : x.length = n := by omega
 have gx : ∀ i, i < x.length → qv (x.map cr)[i]! = x[i]! := fun i hi => by
  rw [getElem!_pos _ i (by simpa using hi), getElem!_pos x i hi, List.getElem_map, zAL]
 unfold conR inQ;rw [zJB, List.length_map];constructor
 ·rintro ⟨_, h2, h3, h4⟩
  exact ⟨hx, fun i hi => by have := h3 i hi; rwa [gx i hi] at this, h4⟩
 ·rintro ⟨_, h3, h4⟩
  exact ⟨VaR_own h.va.2.1, by omega, fun i hi => by rw [gx i hi]; exact h3 i hi, h4⟩
theorem wit_in {q : QryL} {kg : Nat} {x : List Rat} (h : smQ q kg) : witP q x ↔ inQ q x ∧ wval q x < 0 :=
 ⟨fun ⟨h1, h2, h3⟩ => ⟨(con_in h h1).1 h2, h3⟩, fun ⟨h1, h2⟩ => ⟨h1.1, (con_in h h1.1).2 h1, h2⟩⟩
theorem ok_wsimp : FO 16 Tryz.f16 [.tmp 4, .tmp 5] 29 := mkO Tryz.func16 Tryz.ntmps16 Tryz.results16
theorem c_wsimp (q : QryL) (kg n : Nat) (x : List Rat) (h : smQ q kg) (hkg : kg ≤ 200) (hn : q.g.ins = (n : Int)) (hs : ∀ r ∈ x, sz 200 r) (hd : ∀ i, i < n → x[i]!.den < pw 140) (hw : witP q x) : Fn 16 [encQry q, .imm (x.map encX)] (.data (.tup [.imm ((simI q n x n).map encX), .int .i64 0])) := by
 obtain ⟨hin, hv⟩ := (wit_in h).1 hw;have hx : x.length = n := by have := hin.1; omega
 obtain ⟨n1, n2, n3, n4⟩ := h.nn hn;have cc := zC4 q kg x h (by omega) (by omega) hs;rw [dB_true.2 hw] at cc;have X_all : List.take x.length (x.map encX) = x.map encX := List.take_of_length_le (by simp);refine zAM hmix hT ok_wsimp (by simp [encQry]) ?_;refine sts ?_;refine zAA cc rfl ?_;refine sts ?_
 refine zAG hT (fun (i : Nat) => [(2, .ptr 0 0 0), (6, .own 1 0 n), (16, .int .i64 n), (17, .int .i64 i)]) (fun i => [(0, ⟨[encQry q], 10, true⟩), (1, rowX (simI q n x i))]) [] 2
  (fun i => i ≤ n) (fun i => n - i) 0 (Nat.zero_le _) (by decide) (by simp) ?_ ?_
 ·exact ⟨[0, 9], [], [], [], ttt, ⟨apx, zAH (by decide) rfl (by simpa using hx), zAC rfl (by simp [hx]), zAC rfl rfl, trivial⟩, ⟨bbx, zAE (by decide) rfl rfl (zAN x) rfl, trivial⟩, by simp [ren]⟩
 intro i i1;have hsim := sim_ok h hn hin hv i i1;have hss := sim_sz h hn hsim hd;have hlen : (simI q n x i).length = n := by have := hsim.inp.1; omega
 by_cases hi : i < n
 ·have cw := c_wcoord q kg n (simI q n x i) i h hkg hn hsim.inp hsim.val hss hi
  rw [hlen] at cw;have es : simI q n x (i + 1) = (simI q n x i).set i (crdQ q n (simI q n x i) i) := rfl;generalize simI q n x i = y at *
  generalize crdQ q n y i = e at *
  (repeat' (first|refine stp ?_|with_reducible(refine brr ?_ ?_<;>intro h)));all_goals try(conv=>whnf)
  all_goals try (exfalso; omega)
  refine zB5 (r := 1) cw rfl rfl rfl rfl (zBA (zAN _)) ?_;refine sts ?_;refine zA0 i (Nat.zero_add _) (by omega) ?_;refine sts ?_;exact ⟨i + 1, ⟨by omega, by show n - (i + 1) < n - i; omega⟩, [0, 1], [], [], [], ttt, ⟨apx, zAH (by decide) rfl rfl, zAC rfl rfl, zAC rfl rfl, trivial⟩, ⟨bbx, zAE (by decide) rfl (by rw [es]; exact zBJ (Nat.zero_add _) rfl) (zAN _) rfl, trivial⟩, by simp [ren]⟩
 ·have ei : i = n := by omega
  (repeat' (first|refine stp ?_|with_reducible(refine brr ?_ ?_<;>intro h)));all_goals try(conv=>whnf)
  all_goals try (exfalso; omega)
  subst ei;exact zAB (zF8 (zAR (zAI rfl rfl (by omega) fun q => zCH (cr q)) rfl)) rfl
theorem c_wsimpN (q : QryL) (kg : Nat) (x : List Rat) (h : smQ q kg) (hkg : kg ≤ 200) (hxl : x.length ≤ 1048576) (hs : ∀ r ∈ x, sz 200 r) (hw : ¬ witP q x) : Fn 16 [encQry q, .imm (x.map encX)] (.data (.tup [.imm [], .int .i64 1])) := by
 have cc := zC4 q kg x h (by omega) hxl hs;rw [dB_false.2 hw] at cc;refine zAM hmix hT ok_wsimp (by simp [encQry]) ?_;refine sts ?_;refine zAA cc rfl ?_;refine sts ?_;exact zAB rfl rfl
end Go.PI.Tryz
namespace Go.PI.Tryz
open Go.Proofs Go.PI
theorem ok_wsame : FO 53 Tryz.f53 [.tmp 4] 22 := mkO Tryz.func53 Tryz.ntmps53 Tryz.results53
theorem c_wsame (a b : List Rat) (k : Nat) (ha : ∀ r ∈ a, sz k r) (hb : ∀ r ∈ b, sz k r) (hk : k ≤ 900000) (hl : a.length = b.length) (hal : a.length ≤ 1048576) : Fn 53 [.imm (a.map encX), .imm (b.map encX)] (.data (.bool (decide (a = b)))) := by
 refine zAM hmix hT ok_wsame (by simp) ?_;refine sts ?_;refine zA6 hT (fun (i : Nat) => [(0, .imm (a.map encX)), (1, .imm (b.map encX)), (7, .int .i64 a.length), (8, .int .i64 i)]) (fun i => i ≤ a.length ∧ ∀ j, j < i → a[j]! = b[j]!) (fun i => a.length - i) 0 ⟨Nat.zero_le _, fun j h => by omega⟩ ?_ ?_
 ·exact ⟨zAD rfl rfl, zAD rfl rfl, zAC rfl (by simp), zAC rfl rfl, trivial⟩
 intro i ⟨i1, i2⟩;by_cases hi : i < a.length
 ·have q1 := zAJ (ha _ (get_mem hi))
  have q2 := zAJ (hb b[i]! (get_mem (by omega)));have cc := zHT (cr a[i]!) (cr b[i]!) (zAF _) (zAF _) (by omega) (by omega) (by omega) (by omega);rw [zAL, zAL] at cc;have ez : sgnQ (a[i]! - b[i]!) = 0 ↔ a[i]! = b[i]! := ⟨fun e => by have := sgnQ_zero.1 e; grind, fun e => sgnQ_zero.2 (by grind)⟩;generalize sgnQ (a[i]! - b[i]!) = C at *
  (repeat' (first|refine stp ?_|with_reducible(refine brr ?_ ?_<;>intro h)));all_goals try(conv=>whnf)
  all_goals try (exfalso; omega)
  refine zAA cc rfl ?_
  (repeat' (first|refine stp ?_|with_reducible(refine brr ?_ ?_<;>intro h)));all_goals try(conv=>whnf)
  ·refine zAB rfl (congrArg PV.bool ?_)
   refine (decide_eq_false fun e => ?_).symm;subst e;exact absurd (ez.2 rfl) (by assumption)
  ·have e := ez.1 (by omega)
   exact ⟨i + 1, ⟨⟨by omega, fun j hj => zA2 (p := fun j => a[j]! = b[j]!) i2 e hj⟩, by show a.length - (i + 1) < a.length - i; omega⟩, zAD rfl rfl, zAD rfl rfl, zAC rfl rfl, zAC rfl rfl, trivial⟩
 ·have e : a = b := by
   refine List.ext_getElem hl fun j h1 h2 => ?_
   have := i2 j (by omega)
   rwa [getElem!_pos a j h1, getElem!_pos b j h2] at this
  (repeat' (first|refine stp ?_|with_reducible(refine brr ?_ ?_<;>intro h)));all_goals try(conv=>whnf)
  all_goals try (exfalso; omega)
  exact zAB rfl (by rw [decide_eq_true e])
noncomputable def attX (q : QryL) (n m : Nat) : List Rat := rdsW q n 4 (candL q m)[(bstN q (candL q m) (candL q m).length).1]!
open Classical in
noncomputable def attO (q : QryL) (n m : Nat) : Option (List Rat) := if (bstN q (candL q m) (candL q m).length).2.2 = true ∧ witP q (attX q n m) then some (attX q n m) else none
theorem attO_no {q : QryL} {n m : Nat} (h : ¬ ((bstN q (candL q m) (candL q m).length).2.2 = true ∧ witP q (attX q n m))) : attO q n m = none := by unfold attO; rw [if_neg h]
theorem zJL {q : QryL} {n m : Nat} (h : (bstN q (candL q m) (candL q m).length).2.2 = true ∧ witP q (attX q n m)) : attO q n m = some (attX q n m) := by unfold attO; rw [if_pos h]
def encO : Option (List Rat) → PV
 | some x => .tup [.imm (x.map encX), .bool true]
 | none => .tup [.imm [], .bool false]
abbrev rowL (l : List (List Rat)) : Blk := ⟨l.map encPt, 1, false⟩
theorem zJP (l : List (List Rat)) : ∀ e ∈ l.map encPt, nr 3 e = true ∧ e ≠ .any := zAV fun _ => ⟨rfl, by simp [encPt]⟩
theorem zOH : FO 21 Tryz.f21 [.tmp 2, .tmp 3] 113 := mkO Tryz.func21 Tryz.ntmps21 Tryz.results21
theorem c_wattackN (q : QryL) (hq : okQr q) (h : ¬ VaQ q) : Fn 21 [encQry q] (.data (.tup [.imm [], .bool false])) := by
 have c0 := zJD q hq;rw [dB_false.2 h] at c0;refine zAM hmix hT zOH (by simp [encQry]) ?_;refine sts ?_;refine zAA c0 rfl ?_;refine sts ?_;exact zAB rfl rfl
theorem zNF (q : QryL) (kg n : Nat) (hQ : smQ q kg) (hkg : kg ≤ 200) (hn : q.g.ins = (n : Int)) : Fn 21 [encQry q] (.data (encO (attO q n (2 ^ n)))) := by
 obtain ⟨n1, n2, n3, n4⟩ := hQ.nn hn;have c0 := zJD q (hQ.okQ (by omega));rw [dB_true.2 hQ.va] at c0;have c1 := c_rgcenter q.r (zCE (by decide) hQ.r)
 obtain ⟨M, hM, hM2, hM3⟩ : ∃ M : Nat, M = 2 ^ n ∧ 1 ≤ M ∧ M ≤ 8 := ⟨_, rfl, Nat.one_le_two_pow, by
  have : n = 1 ∨ n = 2 ∨ n = 3 := by omega
  rcases this with rfl | rfl | rfl <;> decide⟩
 have hsh : 1 * shl2 .i64 q.g.ins = (M : Int) := by rw [hn, shl2_i64 (by omega), hM, Int.one_mul, Int.toNat_natCast]; simp
 rw [← hM];clear hM;refine zAM hmix hT zOH (by simp [encQry]) ?_;refine sts ?_;refine zAA c0 rfl ?_;refine sts ?_;refine zAA c1 rfl ?_
 (repeat' (first|refine stp ?_|with_reducible(refine brr ?_ ?_<;>intro h)));all_goals try(conv=>whnf)
 all_goals try (exfalso; omega)
 refine zAG hT (fun (i : Nat) => [(1, .ptr 0 0 0), (4, .own 1 0 (1 + i)), (32, .int .i64 M), (33, .int .i64 i)]) (fun i => [(0, ⟨[encQry q], 10, true⟩), (1, rowL (candL q i))]) [] 2
  (fun i => i ≤ M) (fun i => M - i) 0 (Nat.zero_le _) (by decide) (by simp) ?_ ?_
 ·exact ⟨[0, 9], [], [], [], ttt, ⟨apx, zAH (by decide) rfl rfl, zAC rfl hsh, zAC rfl rfl, trivial⟩, ⟨bbx, zAE (by decide) rfl rfl (zJP _) rfl, trivial⟩, by simp [ren]⟩
 intro i i1;have hcl := candL_len q i;by_cases hi : i < M
 ·have cc := c_rgcorner q.r i (zCE (by decide) hQ.r) (by omega)
  (repeat' (first|refine stp ?_|with_reducible(refine brr ?_ ?_<;>intro h)));all_goals try(conv=>whnf)
  all_goals try (exfalso; omega)
  refine zAA cc rfl ?_;refine sts ?_;exact ⟨i + 1, ⟨by omega, by show M - (i + 1) < M - i; omega⟩, [0, _], [], [], [], ttt, ⟨(apy rfl), zAH (by decide) rfl (by first | omega | (simp; omega) | rfl), zAC rfl rfl, zAC rfl rfl, trivial⟩, ⟨bbx, zAE (by decide) rfl (by rw [zOR, List.map_append]; rfl) (zJP _) rfl, trivial⟩, by simp [ren]⟩
 have ei : i = M := by omega
 subst ei;have cb := c_wbetter q kg n (candL q i) hQ (by omega) hn (cand_sz hQ hn i) (by omega);refine sus ?_;refine zA5 ?_
 (repeat' (first|refine stu ?_|with_reducible(refine brr ?_ ?_<;>intro h)));all_goals try(conv=>whnf)
 all_goals try (exfalso; omega)
 refine tellV [] [(1, .ptr 0 0 0), (4, .imm ((candL q i).map encPt))] [(0, ⟨[encQry q], 10, true⟩)] [] 1 (by decide) (by simp) trivial
  ⟨[0], [1], [(4, .imm ((candL q i).map encPt))], [], ⟨⟨⟨_, rfl⟩, trivial⟩, ⟨⟨6, _, zAI rfl rfl (by omega) fun _ => rfl, rfl⟩, trivial⟩, trivial⟩, ⟨apx, zAD rfl rfl, trivial⟩, ⟨bbx, trivial⟩, by simp [ren]⟩ ?_
 have ha0 := attO_no (q := q) (n := n) (m := i);have ha1 := zJL (q := q) (n := n) (m := i);have hx : attX q n i = rdsW q n 4 (candL q i)[(bstN q (candL q i) (candL q i).length).1]! := rfl;have hco := cand_ok hQ hn (m := i);generalize attX q n i = X at *
 generalize attO q n i = O at *
 rcases hb : bstN q (candL q i) (candL q i).length with ⟨I, L, F⟩
 rw [hb] at cb ha0 ha1 hx hco;dsimp only at cb ha0 ha1 hx hco;cases F with
 | false =>
   rw [ha0 (by rintro ⟨h, _⟩; cases h)];refine sts ?_;refine zAA cb rfl ?_;refine sts ?_;exact zAB rfl rfl
 | true =>
   obtain ⟨hI, hpt⟩ := hco rfl;refine sts ?_;refine zAA cb rfl ?_;refine sts ?_
   all_goals try (exfalso; omega)
   generalize (candL q i)[I]! = x0 at *
   refine zAG hT (fun ((r, x) : Nat × List Rat) => [(1, .ptr 0 0 0), (9, .imm (x.map encX)), (57, .int .i64 r)]) (fun _ => [(0, ⟨[encQry q], 10, true⟩)]) [] 1
    (fun (r, x) => r ≤ 4 ∧ ptW q n x ∧ X = rdsW q n (4 - r) x) (fun (r, _) => 4 - r) (0, x0) ⟨Nat.zero_le _, hpt, hx⟩ (by decide) (by simp) ?_ ?_
   ·exact ⟨[0], [], [], [], ttt, ⟨apx, zAD rfl rfl, zAC rfl rfl, trivial⟩, ⟨bbx, trivial⟩, by simp [ren]⟩
   intro ⟨r, x⟩ ⟨r1, hp, hX⟩;by_cases hr : r < 4
   ·have hxl := hp.len
    have hrd : rdsW q n (4 - r) x = if rndI q x n = x then x else rdsW q n (4 - (r + 1)) (rndI q x n) := by
     rw [show 4 - r = (4 - (r + 1)) + 1 by omega]; rfl
    (repeat' (first|refine stp ?_|with_reducible(refine brr ?_ ?_<;>intro h)));all_goals try(conv=>whnf)
    all_goals try (exfalso; omega)
    refine zAG hT (fun (i : Nat) => [(1, .ptr 0 0 0), (9, .imm ((rndI q x i).map encX)), (10, .imm (x.map encX)), (57, .int .i64 r), (61, .int .i64 n), (62, .int .i64 i)]) (fun _ => [(0, ⟨[encQry q], 10, true⟩)]) [] 1
     (fun i => i ≤ n) (fun i => n - i) 0 (Nat.zero_le _) (by decide) (by simp) ?_ ?_
    ·exact ⟨[0], [], [], [], ttt, ⟨apx, zAD rfl rfl, zAD rfl rfl, zAC rfl rfl, zAC rfl (by simp [hxl]), zAC rfl rfl, trivial⟩, ⟨bbx, trivial⟩, by simp [ren]⟩
    intro j j1;obtain ⟨hpj, _⟩ := rnd_ok hQ hp j (by omega);by_cases hj : j < n
    ·have es : rndI q x (j + 1) = impW q (rndI q x j) j := rfl
     have et : impW q (rndI q x j) j = (triL q (rndI q x j) j)[(bstN q (triL q (rndI q x j) j) 3).1]! := rfl;have htz := tri_sz hQ hpj.sz (i := j) (by omega);have hib := imp_ok hQ hpj (i := j) (by omega);have cb := c_wbetter q kg n (triL q (rndI q x j) j) hQ (by omega) hn (fun y hy => by have := htz y hy; exact ⟨by rw [this.1, hpj.len], this.2⟩) (by simp [triL]);rw [show (triL q (rndI q x j) j).length = 3 from rfl] at cb;generalize rndI q x j = y at *
     have hyl := hpj.len;obtain ⟨_, _, _, b4, b5⟩ := hQ.bnd (i := j) (by omega);refine sus ?_;refine zA5 ?_; (repeat' (first|refine stu ?_|with_reducible(refine brr ?_ ?_<;>intro h)));all_goals try(conv=>whnf)
     all_goals try (exfalso; omega)
     (refine zA5 ?_; refine sus ?_)
     (refine zA5 ?_; refine sus ?_)
     refine tellV [] [(1, .ptr 0 0 0), (9, .imm (y.map encX)), (10, .imm (x.map encX)), (11, .int .i64 j), (12, .own 1 0 n), (13, .own 2 0 n), (57, .int .i64 r), (61, .int .i64 n), (62, .int .i64 j)] [(0, ⟨[encQry q], 10, true⟩), (1, rowX y), (2, rowX y)] [] 3 (by decide) (by simp) trivial
      ⟨[0, 6, 9], [], [], [], ttt, ⟨apx, zAD rfl rfl, zAD rfl rfl, zAC rfl rfl, zAH (by decide) rfl (by simp [hyl]), zAH (by decide) rfl (by simp [hyl]), zAC rfl rfl, zAC rfl rfl, zAC rfl rfl, trivial⟩, ⟨bbx, zAE (by decide) rfl rfl (zAN y) rfl, zAE (by decide) rfl rfl (zAN y) rfl, trivial⟩, by simp [ren]⟩ ?_
     refine sus ?_
     all_goals try (exfalso; omega)
     refine zA0 j (Nat.zero_add _) (by omega) ?_;refine sus ?_;refine zA0 j (Nat.zero_add _) (by omega) ?_;refine sus ?_
     refine tellV [] [(1, .ptr 0 0 0), (9, .imm (y.map encX)), (10, .imm (x.map encX)), (12, .imm ((y.set j (qv q.r.lo[j]!)).map encX)), (13, .imm ((y.set j (qv q.r.hi[j]!)).map encX)), (57, .int .i64 r), (61, .int .i64 n), (62, .int .i64 j)] [(0, ⟨[encQry q], 10, true⟩)] [] 1 (by decide) (by simp) trivial
      ⟨[0], [1, 2], [(12, .imm ((y.set j (qv q.r.lo[j]!)).map encX)), (13, .imm ((y.set j (qv q.r.hi[j]!)).map encX))], [], ⟨⟨⟨_, rfl⟩, ⟨_, rfl⟩, trivial⟩, ⟨⟨6, _, zAI rfl (by show List.set _ _ (encRat q.r.lo[j]!) = _; rw [show encRat q.r.lo[j]! = encX (qv q.r.lo[j]!) from congrArg encRat b4]; exact zBJ (Nat.zero_add _) rfl) (by simp; omega) fun q => zCH (cr q), rfl⟩, ⟨6, _, zAI rfl (by show List.set _ _ (encRat q.r.hi[j]!) = _; rw [show encRat q.r.hi[j]! = encX (qv q.r.hi[j]!) from congrArg encRat b5]; exact zBJ (Nat.zero_add _) rfl) (by simp; omega) fun q => zCH (cr q), rfl⟩, trivial⟩, trivial⟩, ⟨apx, zAD rfl rfl, zAD rfl rfl, zAD rfl rfl, zAD rfl rfl, zAC rfl rfl, zAC rfl rfl, zAC rfl rfl, trivial⟩, ⟨bbx, trivial⟩, by simp [ren]⟩ ?_
     refine sts ?_;refine zAA cb rfl ?_;refine sts ?_
     all_goals try (exfalso; omega)
     obtain ⟨hpt1, _, hfo, hlt3⟩ := hib;refine zA0 (f := encPt) (l := triL q y j) (bstN q (triL q y j) 3).1 (by omega) (by show _ < 3; exact hlt3) ?_;rw [← et];refine sts ?_;exact ⟨j + 1, ⟨by omega, by show n - (j + 1) < n - j; omega⟩, [0], [], [], [], ttt, ⟨apx, zAD rfl (by rw [es]), zAD rfl rfl, zAC rfl rfl, zAC rfl rfl, zAC rfl rfl, trivial⟩, ⟨bbx, trivial⟩, by simp [ren]⟩
    have ej : j = n := by omega
    subst ej;have cs := c_wsame x (rndI q x j) 200 hp.sz hpj.sz (by decide) (by rw [hpj.len, hxl]) (by omega)
    (repeat' (first|refine stp ?_|with_reducible(refine brr ?_ ?_<;>intro h)));all_goals try(conv=>whnf)
    all_goals try (exfalso; omega)
    refine zAA cs rfl ?_
    (repeat' (first|refine stp ?_|with_reducible(refine brr ?_ ?_<;>intro h)));all_goals try(conv=>whnf)
    ·have eX : X = rndI q x j := by rw [hX, hrd, if_pos (by assumption : x = _).symm]; assumption
     have hXs : ∀ r ∈ X, sz 200 r := by rw [eX]; exact hpj.sz
     have hXl : X.length = j := by rw [eX]; exact hpj.len
     rw [← eX];by_cases hw : witP q X
     ·have cw := zC4 q kg X hQ (by omega) (by omega) hXs
      rw [dB_true.2 hw] at cw;rw [ha1 ⟨rfl, hw⟩];refine zAA cw rfl ?_;refine sts ?_;exact zAB rfl rfl
     ·have cw := zC4 q kg X hQ (by omega) (by omega) hXs
      rw [dB_false.2 hw] at cw;rw [ha0 fun e => hw e.2];refine zAA cw rfl ?_;refine sts ?_;exact zAB rfl rfl
    ·have hne : ¬ rndI q x j = x := fun e => absurd e.symm (by assumption)
     rw [if_neg hne] at hrd;exact ⟨(r + 1, rndI q x j), ⟨⟨by omega, hpj, by rw [hX, hrd]⟩, by show 4 - (r + 1) < 4 - r; omega⟩, [0], [], [], [], ttt, ⟨apx, zAD rfl rfl, zAC rfl rfl, trivial⟩, ⟨bbx, trivial⟩, by simp [ren]⟩
   ·have er : r = 4 := by omega
    subst er;have eX : X = x := hX;have hXs : ∀ r ∈ X, sz 200 r := by rw [eX]; exact hp.sz
    have hXl : X.length = n := by rw [eX]; exact hp.len
    rw [← eX];refine sts ?_
    all_goals try (exfalso; omega)
    by_cases hw : witP q X
    ·have cw := zC4 q kg X hQ (by omega) (by omega) hXs
     rw [dB_true.2 hw] at cw;rw [ha1 ⟨rfl, hw⟩];refine zAA cw rfl ?_;refine sts ?_;exact zAB rfl rfl
    ·have cw := zC4 q kg X hQ (by omega) (by omega) hXs
     rw [dB_false.2 hw] at cw;rw [ha0 fun e => hw e.2];refine zAA cw rfl ?_;refine sts ?_;exact zAB rfl rfl
end Go.PI.Tryz
namespace Go.PI.Tryz
open Go.Proofs Go.PI
theorem rn_own2 {k a' b' n1 n2 : Nat} {i j : Int} {ρ : Nat → Nat} {a b : Nat} (h1 : a = ρ a') (h2 : b = ρ b') (g1 : a' < k) (g2 : b' < k) (e : j = i := by rfl) : rn ρ k 3 (.agg [.int .i64 i, .own a' 0 n1, .own b' 0 n2]) (.agg [.int .i64 j, .own a 0 n1, .own b 0 n2]) := by
 subst h1 h2 e; exact ⟨rfl, ⟨g1, rfl⟩, ⟨g2, rfl⟩, trivial⟩
theorem F_snocW {R : List QF} {j : Nat} (hj : j < R.length) : (R.take j).map encF ++ [encF R[j]!] = (R.take (j + 1)).map encF := by
 rw [List.take_succ_eq_append_getElem hj, List.map_append, getElem!_pos R j hj]; rfl
theorem zF3 (R : List QF) : ∀ e ∈ R.map encF, nr 3 e = true ∧ e ≠ .any := zAV fun _ => ⟨rfl, by simp [encF]⟩
theorem ok_fgraph : FO 69 Tryz.f69 [.cell 2 27] 50 := mkO Tryz.func69 Tryz.ntmps69 Tryz.results69
theorem c_fgraph (l : List Int) (a : Nat) (hl : okBy l) (ha : a ≤ l.length) : Fn 69 [.ptr 0 0 0] (.wrt (fdB l a) (encGra (gfG l a)) (fdB l (gfE l a))) := by
 obtain ⟨U, hU⟩ : ∃ U, guI l (gfS l a) (gfN l a) (gfU l a) = U := ⟨_, rfl⟩;obtain ⟨O, hO⟩ : ∃ O, rwI l (gfM l a) (gfN l a + gfU l a) (gfO l a) = O := ⟨_, rfl⟩;have lU : U.length = gfU l a := by rw [← hU, guI_len]
 have lO : O.length = gfO l a := by rw [← hO]; simp [rwI]
 have gU : ∀ j, j < gfU l a → (frmI l (guA l (gfS l a) (gfN l a) j) (gfN l a + j)).1 = U[j]! := fun j hj => by rw [← hU, guI_get hj]
 have gO : ∀ j, j < gfO l a → (frmI l (rwA l (gfM l a) (gfN l a + gfU l a) j) (gfN l a + gfU l a)).1 = O[j]! := fun j hj => by rw [← hO]; unfold rwI; rw [zBK hj]
 have hg : encGra (gfG l a) = .agg [.int .i64 (gfN l a : Nat), .imm (U.map encF), .imm (O.map encF)] := by
  unfold encGra gfG;rw [hU, hO];simp only [List.map_map];rw [show (encAff ∘ QF.L) = encF from funext fun f => (zKF f).symm]
 have hE : gfE l a = rwA l (gfM l a) (gfN l a + gfU l a) (gfO l a) := rfl;have hM : gfM l a = guA l (gfS l a) (gfN l a) (gfU l a) := rfl;have hMl := gfM_le ha;have hSl := gfS_le ha;rw [hg, hE];have c1 := zIB l a 3 hl ha (by decide);have c2 := zIB l (nx2 l a) 5 hl (zEF ha) (by decide);have c3 := zIB l (nx2 l (nx2 l a)) 3 hl (zEF (zEF ha)) (by decide);rw [show nx2 l (nx2 l (nx2 l a)) = gfS l a from rfl] at c3;rw [show nx1 l (nx2 l a) 5 = gfU l a from rfl] at c2;have e1 : 1 + ((nx1 l a 3 : Nat) : Int) = ((gfN l a : Nat) : Int) := by unfold gfN; omega
 have e3 : 1 + ((nx1 l (nx2 l (nx2 l a)) 3 : Nat) : Int) = ((gfO l a : Nat) : Int) := by unfold gfO; omega
 obtain ⟨g1, g2, g3, g4, g5⟩ := gr_lt l a;have b1 := zHP (l := l) (a := a) (n := 3) (by decide);have b3 := zHP (l := l) (a := nx2 l (nx2 l a)) (n := 3) (by decide);generalize nx1 l a 3 = n0 at *
 generalize nx1 l (nx2 l (nx2 l a)) 3 = o0 at *
 generalize gfM l a = M at *
 generalize gfS l a = S at *
 generalize gfN l a = n at *
 generalize gfU l a = u at *
 generalize gfO l a = o at *
 refine zCT hmix hT ok_fgraph (by simp) ?_;refine sts ?_;refine zBG (r := 0) c1 rfl rfl rfl rfl (zEB _ _) (zGW _ _) ?_;refine sts ?_;refine zBG (r := 0) c2 rfl rfl rfl rfl (zEB _ _) (zGW _ _) ?_;refine sts ?_;refine zBG (r := 0) c3 rfl rfl rfl rfl (zEB _ _) (zGW _ _) ?_;refine sts ?_
 refine zBV hT [(.cl 6 0 1, 4, true), (.cl 6 0 2, 4, true)] (fun (j : Nat) => [(0, .ptr 0 0 0), (2, .ptr 1 0 0), (3, .ptr 2 0 0), (4, .int .i64 u), (5, .int .i64 o), (6, .int .i64 j)])
  (fun j => [(0, fdB l (guA l S n j)), (1, ⟨[.agg [.int .i64 0, .nilsl, .nilsl]], 3, true⟩), (2, ⟨[.agg [.int .i64 n, .own 3 0 j, .own 4 0 0]], 3, true⟩), (3, ⟨(U.take j).map encF, 4, true⟩), (4, ⟨[], 4, true⟩)]) [] 5
  (fun j => j ≤ u) (fun j => u - j) 0 (Nat.zero_le _) (by decide) (by simp) ⟨_, _, rfl, rfl, rfl, _, _, rfl, rfl, rfl, trivial⟩ ?_ ?_
 ·exact ⟨[1, 6, _, _], [], [], [], ttt, ⟨(apy rfl), (apy rfl), (apy rfl), zAC rfl rfl, zAC rfl e3, zAC rfl rfl, trivial⟩,
   ⟨bbx, bbx, zA8 (by decide) rfl (rn_own2 rfl rfl (by decide) (by decide) e1) rfl rfl, zAE (by decide) rfl rfl (zF3 []) rfl, zAE (by decide) rfl rfl (zF3 []) rfl, trivial⟩, by simp [ren]⟩
 intro j j1;have hU' : (U.take j).length = j := by rw [List.length_take]; omega
 by_cases hj : j < u
 ·have cf := c_fform l (guA l S n j) (n + j) hl (guA_le hSl j) (by omega)
  rw [gU j hj] at cf;rw [show (((n + j : Nat) : Nat) : Int) = (n : Int) + (j : Int) by omega] at cf;have sU := F_snocW (R := U) (j := j) (by omega);have eA : guA l S n (j + 1) = (frmI l (guA l S n j) (n + j)).2 := rfl
  (repeat' (first|refine stp ?_|with_reducible(refine brr ?_ ?_<;>intro h)));all_goals try(conv=>whnf)
  all_goals try (exfalso; omega)
  refine zBG (r := 0) cf rfl rfl rfl rfl (zEB _ _) (zGW _ _) ?_;refine sts ?_
  exact ⟨j + 1, ⟨by omega, by show u - (j + 1) < u - j; omega⟩, [1, 2, 17, 4], [], [], [], ttt, ⟨apx, apx, apx, zAC rfl rfl, zAC rfl rfl, zAC rfl rfl, trivial⟩,
   ⟨bbx, bbx, zA8 (by decide) rfl (rn_own2 rfl rfl (by decide) (by decide)) rfl rfl, zAE (by decide) rfl sU (zF3 _) rfl, zAE (by decide) rfl rfl (fun e he => by cases he) rfl, trivial⟩, by simp [ren]⟩
 have ej : j = u := by omega
 rw [List.take_of_length_le (by omega)];rw [ej] at *
 rw [← hM]
 (repeat' (first|refine stp ?_|with_reducible(refine brr ?_ ?_<;>intro h)));all_goals try(conv=>whnf)
 all_goals try (exfalso; omega)
 refine zAG hT (fun (j : Nat) => [(0, .ptr 0 0 0), (2, .ptr 1 0 0), (3, .ptr 2 0 0), (4, .int .i64 u), (5, .int .i64 o), (7, .int .i64 j)])
  (fun j => [(0, fdB l (rwA l M (n + u) j)), (1, ⟨[.agg [.int .i64 0, .nilsl, .nilsl]], 3, true⟩), (2, ⟨[.agg [.int .i64 n, .own 3 0 u, .own 4 0 j]], 3, true⟩), (3, ⟨U.map encF, 4, true⟩), (4, ⟨(O.take j).map encF, 4, true⟩)]) [] 5
  (fun j => j ≤ o) (fun j => o - j) 0 (Nat.zero_le _) (by decide) (by simp) ?_ ?_
 ·exact ⟨[1, 2, 3, 4], [], [], [], ttt, ⟨apx, apx, apx, zAC rfl rfl, zAC rfl rfl, zAC rfl rfl, trivial⟩,
   ⟨bbx, bbx, zA8 (by decide) rfl (rn_own2 rfl rfl (by decide) (by decide)) rfl rfl, zAE (by decide) rfl rfl (zF3 _) rfl, zAE (by decide) rfl rfl (zF3 _) rfl, trivial⟩, by simp [ren]⟩
 intro j j1;have hO' : (O.take j).length = j := by rw [List.length_take]; omega
 by_cases hj : j < o
 ·have cf := c_fform l (rwA l M (n + u) j) (n + u) hl (zL5 hMl j) (by omega)
  rw [gO j hj] at cf;rw [show (((n + u : Nat) : Nat) : Int) = (n : Int) + (u : Int) by omega] at cf;have sO := F_snocW (R := O) (j := j) (by omega)
  (repeat' (first|refine stp ?_|with_reducible(refine brr ?_ ?_<;>intro h)));all_goals try(conv=>whnf)
  all_goals try (exfalso; omega)
  refine zBG (r := 0) cf rfl rfl rfl rfl (zEB _ _) (zGW _ _) ?_;refine sts ?_
  exact ⟨j + 1, ⟨by omega, by show o - (j + 1) < o - j; omega⟩, [1, 2, 3, 17], [], [], [], ttt, ⟨apx, apx, apx, zAC rfl rfl, zAC rfl rfl, zAC rfl rfl, trivial⟩,
   ⟨bbx, bbx, zA8 (by decide) rfl (rn_own2 rfl rfl (by decide) (by decide)) rfl rfl, zAE (by decide) rfl rfl (zF3 _) rfl, zAE (by decide) rfl sO (zF3 _) rfl, trivial⟩, by simp [ren]⟩
 have ej2 : j = o := by omega
 subst ej2;rw [List.take_of_length_le (by omega)];refine sus ?_;refine zA5 ?_
 (repeat' (first|refine stu ?_|with_reducible(refine brr ?_ ?_<;>intro h)));all_goals try(conv=>whnf)
 all_goals try (exfalso; omega)
 refine tellV [] [(2, .ptr 1 0 0), (3, .ptr 2 0 0)] [(0, fdB l (rwA l M (n + u) j)), (1, ⟨[.agg [.int .i64 0, .nilsl, .nilsl]], 3, true⟩), (2, ⟨[.agg [.int .i64 n, .imm (U.map encF), .imm (O.map encF)]], 3, true⟩)] [] 3 (by decide) (by simp) trivial
  ⟨[1, 2], [3, 4], [], [(2, [.agg [.int .i64 n, .imm (U.map encF), .imm (O.map encF)]])], ⟨⟨⟨_, rfl⟩, ⟨_, rfl⟩, trivial⟩, trivial, ⟨⟨_, 6, _, rfl, zAR (zD4 (zAR rfl (zAR (zAI (f := encF) (l := U) rfl rfl lU.symm frz_form) (zAR (zAI (f := encF) (l := O) rfl rfl lO.symm frz_form) rfl)))) rfl, rfl⟩, trivial⟩⟩,
    ⟨apx, apx, trivial⟩, ⟨bbx, bbx, bbx, trivial⟩, by simp [ren]⟩ ?_
 refine sts ?_;exact zCP rfl rfl rfl rfl rfl (zEB _ _)
theorem ok_iquery : FO 34 Tryz.f34 [.cell 2 39] 22 := mkO Tryz.func34 Tryz.ntmps34 Tryz.results34
theorem c_iquery (l : List Int) (hl : okBy l) : Fn 34 [.ptr 0 0 0] (.wrt (fdB l 0) (encQry (insQ l)) (fdB l (frmI l (smRA l (gfE l 0) (gfN l 0)) (gfN l 0 + gfU l 0)).2)) := by
 have c1 := c_fgraph l 0 hl (Nat.zero_le _);obtain ⟨g1, g2, g3, g4, g5⟩ := gr_lt l 0;have c2 := c_fsmall l (gfE l 0) (gfN l 0) hl (gfE_le (Nat.zero_le _)) (by omega) (by omega);have c3 := c_fform l (smRA l (gfE l 0) (gfN l 0)) (gfN l 0 + gfU l 0) hl (smRA_le (gfE_le (Nat.zero_le _))) (by omega);rw [show (((gfN l 0 + gfU l 0 : Nat) : Nat) : Int) = (gfN l 0 : Int) + (gfU l 0 : Int) by omega] at c3;have hU : (gfG l 0).units.length = gfU l 0 := (gfG_ok (Nat.zero_le _)).2.2;have eI : (gfG l 0).ins = (gfN l 0 : Int) := rfl;have eq : encQry (insQ l) = encQry ⟨gfG l 0, smR' l (gfE l 0) (gfN l 0), (frmI l (smRA l (gfE l 0) (gfN l 0)) (gfN l 0 + gfU l 0)).1.L⟩ := rfl;rw [zKF] at c3;rw [eq];refine zCT hmix hT ok_iquery (by simp) ?_;refine sts ?_;refine zBG (r := 0) c1 rfl rfl rfl rfl (zEB _ _) (zGW _ _) ?_;refine sts ?_;rw [eI];refine zBG (r := 0) c2 rfl rfl rfl rfl (zEB _ _) (zGW _ _) ?_;refine sts ?_
 all_goals try (exfalso; omega)
 rw [show ((List.map encAff (gfG l 0).units).length : Int) = (gfU l 0 : Int) by rw [List.length_map, hU]];refine zBG (r := 0) c3 rfl rfl rfl rfl (zEB _ _) (zGW _ _) ?_;refine sts ?_;exact zCP rfl rfl rfl rfl rfl (zEB _ _)
theorem ok_instance21 : FO 11 Tryz.f11 [.cell 2 39] 6 := mkO Tryz.func11 Tryz.ntmps11 Tryz.results11
theorem zEO (l : List Int) (hl : okBy l) : Fn 11 [.imm (l.map (.int .u8))] (.data (encQry (insQ l))) := by
 have c1 := c_fnew l hl;have c2 := c_iquery l hl;refine zAM hmix hT ok_instance21 (by simp) ?_;refine sts ?_;refine zBD c1 rfl ?_;refine sts ?_;refine callV_mut (r := 2) c2 rfl rfl rfl rfl (zEB _ _) (by decide) ?_;refine sts ?_;exact zAB rfl rfl
end Go.PI.Tryz
