/-
  Small graphs and queries that bytes describe.
-/
import Derived.Test.YtdgckinmcnjheaaGreatCWA
import Derived.Test.YtdgckinmcnjheaaGreatCGA
import Derived.Test.YtdgckinmcnjheaaGreatCPE
import Derived.Test.YtdgckinmcnjheaaGreatCGB
set_option linter.unusedVariables false
set_option linter.unusedSimpArgs false
set_option linter.unnecessarySimpa false
namespace Go.PI.Tryz
open Go.Proofs Go.PI
theorem uBT {q : QryL} {kg : Nat} {x : List Rat} (h : smQ q kg) (hx : (x.length : Int) = q.g.ins) : vDT q.r (x.map cr) ↔ inQ q x := by
 obtain ⟨n, hn, n1, n2, n3, n4⟩ := h.n;have hl : x.length = n := by omega
 have gx : ∀ i, i < x.length → qv (x.map cr)[i]! = x[i]! := fun i hi => by
  rw [getElem!_pos _ i (by simpa using hi), getElem!_pos x i hi, List.getElem_map, zAQ]
 unfold vDT inQ;rw [vI6, List.length_map];constructor
 ·rintro ⟨_, h2, h3, h4⟩
  exact ⟨hx, fun i hi => by have := h3 i hi; rwa [gx i hi] at this, h4⟩
 ·rintro ⟨_, h3, h4⟩
  exact ⟨vHC h.va.2.1, by omega, fun i hi => by rw [gx i hi]; exact h3 i hi, h4⟩
theorem uAN {q : QryL} {kg : Nat} {x : List Rat} (h : smQ q kg) : vEE q x ↔ inQ q x ∧ vBX q x < 0 :=
 ⟨fun ⟨h1, h2, h3⟩ => ⟨(uBT h h1).1 h2, h3⟩, fun ⟨h1, h2⟩ => ⟨h1.1, (uBT h h1.1).2 h1, h2⟩⟩
theorem vXM : FO 16 Tryz.f16 [.tmp 4, .tmp 5] 29 := mkO Tryz.func16 Tryz.ntmps16 Tryz.results16
theorem uE6 (q : QryL) (kg n : Nat) (x : List Rat) (h : smQ q kg) (hkg : kg ≤ 200) (hn : q.g.ins = (n : Int)) (hs : ∀ r ∈ x, sz 200 r) (hd : ∀ i, i < n → x[i]!.den < pw 140) (hw : vEE q x) : Fn 16 [vA7 q, .imm (x.map vBF)] (.data (.tup [.imm ((vES q n x n).map vBF), .int .i64 0])) := by
 obtain ⟨hin, hv⟩ := (uAN h).1 hw;have hx : x.length = n := by have := hin.1; omega
 obtain ⟨n1, n2, n3, n4⟩ := h.nn hn;have cc := zE1 q kg x h (by omega) (by omega) hs;rw [dB_true.2 hw] at cc;have X_all : List.take x.length (x.map vBF) = x.map vBF := List.take_of_length_le (by simp);refine zAN vA6 hT vXM (by simp [vA7]) ?_;refine sts ?_;refine zAA cc rfl ?_;refine sts ?_
 refine zAG hT (fun (i : Nat) => [(2, .ptr 0 0 0), (6, .own 1 0 n), (16, .int .i64 n), (17, .int .i64 i)]) (fun i => [(0, ⟨[vA7 q], 10, true⟩), (1, vCN (vES q n x i))]) [] 2
  (fun i => i ≤ n) (fun i => n - i) 0 (Nat.zero_le _) (by decide) (by simp) ?_ ?_
 ·exact ⟨[0, 9], [], [], [], ttt, ⟨apx, zAF (by decide) rfl (by simpa using hx), zAC rfl (by simp [hx]), zAC rfl rfl, trivial⟩, ⟨bbx, zAD (by decide) rfl rfl (zAK x) rfl, trivial⟩, by simp [ren]⟩
 intro i i1;have hsim := uAU h hn hin hv i i1;have hss := uGO h hn hsim hd;have hlen : (vES q n x i).length = n := by have := hsim.inp.1; omega
 by_cases hi : i < n
 ·have cw := vZV q kg n (vES q n x i) i h hkg hn hsim.inp hsim.val hss hi
  rw [hlen] at cw;have es : vES q n x (i + 1) = (vES q n x i).set i (vGW q n (vES q n x i) i) := rfl;generalize vES q n x i = y at *
  generalize vGW q n y i = e at *
  (repeat' (first|refine stp ?_|with_reducible(refine brr ?_ ?_<;>intro h)));all_goals try(conv=>whnf)
  all_goals try (exfalso; omega)
  refine zB5 (r := 1) cw rfl rfl rfl rfl (zA7 (zAK _)) ?_;refine sts ?_;refine zAU i (Nat.zero_add _) (by omega) ?_;refine sts ?_;exact ⟨i + 1, ⟨by omega, by show n - (i + 1) < n - i; omega⟩, [0, 1], [], [], [], ttt, ⟨apx, zAF (by decide) rfl rfl, zAC rfl rfl, zAC rfl rfl, trivial⟩, ⟨bbx, zAD (by decide) rfl (by rw [es]; exact zBB (Nat.zero_add _) rfl) (zAK _) rfl, trivial⟩, by simp [ren]⟩
 ·have ei : i = n := by omega
  (repeat' (first|refine stp ?_|with_reducible(refine brr ?_ ?_<;>intro h)));all_goals try(conv=>whnf)
  all_goals try (exfalso; omega)
  subst ei;exact zAB (zE0 (zAP (zAH rfl rfl (by omega) fun q => zD4 (cr q)) rfl)) rfl
theorem vXN : FO 53 Tryz.f53 [.tmp 4] 22 := mkO Tryz.func53 Tryz.ntmps53 Tryz.results53
theorem uE7 (a b : List Rat) (k : Nat) (ha : ∀ r ∈ a, sz k r) (hb : ∀ r ∈ b, sz k r) (hk : k ≤ 900000) (hl : a.length = b.length) (hal : a.length ≤ 1048576) : Fn 53 [.imm (a.map vBF), .imm (b.map vBF)] (.data (.bool (decide (a = b)))) := by
 refine zAN vA6 hT vXN (by simp) ?_;refine sts ?_;refine zA6 hT (fun (i : Nat) => [(0, .imm (a.map vBF)), (1, .imm (b.map vBF)), (7, .int .i64 a.length), (8, .int .i64 i)]) (fun i => i ≤ a.length ∧ ∀ j, j < i → a[j]! = b[j]!) (fun i => a.length - i) 0 ⟨Nat.zero_le _, fun j h => by omega⟩ ?_ ?_
 ·exact ⟨zAE rfl rfl, zAE rfl rfl, zAC rfl (by simp), zAC rfl rfl, trivial⟩
 intro i ⟨i1, i2⟩;by_cases hi : i < a.length
 ·have q1 := zAL (ha _ (get_mem hi))
  have q2 := zAL (hb b[i]! (get_mem (by omega)));have cc := zHC (cr a[i]!) (cr b[i]!) (zAI _) (zAI _) (by omega) (by omega) (by omega) (by omega);rw [zAQ, zAQ] at cc;have ez : vBS (a[i]! - b[i]!) = 0 ↔ a[i]! = b[i]! := ⟨fun e => by have := sgnQ_zero.1 e; grind, fun e => sgnQ_zero.2 (by grind)⟩;generalize vBS (a[i]! - b[i]!) = C at *
  (repeat' (first|refine stp ?_|with_reducible(refine brr ?_ ?_<;>intro h)));all_goals try(conv=>whnf)
  all_goals try (exfalso; omega)
  refine zAA cc rfl ?_
  (repeat' (first|refine stp ?_|with_reducible(refine brr ?_ ?_<;>intro h)));all_goals try(conv=>whnf)
  ·refine zAB rfl (congrArg PV.bool ?_)
   refine (decide_eq_false fun e => ?_).symm;subst e;exact absurd (ez.2 rfl) (by assumption)
  ·have e := ez.1 (by omega)
   exact ⟨i + 1, ⟨⟨by omega, fun j hj => zA2 (p := fun j => a[j]! = b[j]!) i2 e hj⟩, by show a.length - (i + 1) < a.length - i; omega⟩, zAE rfl rfl, zAE rfl rfl, zAC rfl rfl, zAC rfl rfl, trivial⟩
 ·have e : a = b := by
   refine List.ext_getElem hl fun j h1 h2 => ?_
   have := i2 j (by omega)
   rwa [getElem!_pos a j h1, getElem!_pos b j h2] at this
  (repeat' (first|refine stp ?_|with_reducible(refine brr ?_ ?_<;>intro h)));all_goals try(conv=>whnf)
  all_goals try (exfalso; omega)
  exact zAB rfl (by rw [decide_eq_true e])
noncomputable def vWO (q : QryL) (n m : Nat) : List Rat := vRI q n 4 (vBN q m)[(vBY q (vBN q m) (vBN q m).length).1]!
open Classical in
noncomputable def uAH (q : QryL) (n m : Nat) : Option (List Rat) := if (vBY q (vBN q m) (vBN q m).length).2.2 = true ∧ vEE q (vWO q n m) then some (vWO q n m) else none
theorem vWA {q : QryL} {n m : Nat} (h : ¬ ((vBY q (vBN q m) (vBN q m).length).2.2 = true ∧ vEE q (vWO q n m))) : uAH q n m = none := by unfold uAH; rw [if_neg h]
theorem vG7 {q : QryL} {n m : Nat} (h : (vBY q (vBN q m) (vBN q m).length).2.2 = true ∧ vEE q (vWO q n m)) : uAH q n m = some (vWO q n m) := by unfold uAH; rw [if_pos h]
def uKL : Option (List Rat) → PV
 | some x => .tup [.imm (x.map vBF), .bool true]
 | none => .tup [.imm [], .bool false]
abbrev uKH (l : List (List Rat)) : Blk := ⟨l.map vIY, 1, false⟩
theorem vQ9 (l : List (List Rat)) : ∀ e ∈ l.map vIY, nr 3 e = true ∧ e ≠ .any := zAW fun _ => ⟨rfl, by simp [vIY]⟩
theorem vOR : FO 21 Tryz.f21 [.tmp 2, .tmp 3] 113 := mkO Tryz.func21 Tryz.ntmps21 Tryz.results21
theorem vJB (q : QryL) (kg n : Nat) (hQ : smQ q kg) (hkg : kg ≤ 200) (hn : q.g.ins = (n : Int)) : Fn 21 [vA7 q] (.data (uKL (uAH q n (2 ^ n)))) := by
 obtain ⟨n1, n2, n3, n4⟩ := hQ.nn hn;have c0 := vI9 q (hQ.okQ (by omega));rw [dB_true.2 hQ.va] at c0;have c1 := vPS q.r (zDV (by decide) hQ.r)
 obtain ⟨M, hM, hM2, hM3⟩ : ∃ M : Nat, M = 2 ^ n ∧ 1 ≤ M ∧ M ≤ 8 := ⟨_, rfl, Nat.one_le_two_pow, by
  have : n = 1 ∨ n = 2 ∨ n = 3 := by omega
  rcases this with rfl | rfl | rfl <;> decide⟩
 have hsh : 1 * vCW .i64 q.g.ins = (M : Int) := by rw [hn, vW4 (by omega), hM, Int.one_mul, Int.toNat_natCast]; simp
 rw [← hM];clear hM;refine zAN vA6 hT vOR (by simp [vA7]) ?_;refine sts ?_;refine zAA c0 rfl ?_;refine sts ?_;refine zAA c1 rfl ?_
 (repeat' (first|refine stp ?_|with_reducible(refine brr ?_ ?_<;>intro h)));all_goals try(conv=>whnf)
 all_goals try (exfalso; omega)
 refine zAG hT (fun (i : Nat) => [(1, .ptr 0 0 0), (4, .own 1 0 (1 + i)), (32, .int .i64 M), (33, .int .i64 i)]) (fun i => [(0, ⟨[vA7 q], 10, true⟩), (1, uKH (vBN q i))]) [] 2
  (fun i => i ≤ M) (fun i => M - i) 0 (Nat.zero_le _) (by decide) (by simp) ?_ ?_
 ·exact ⟨[0, 9], [], [], [], ttt, ⟨apx, zAF (by decide) rfl rfl, zAC rfl hsh, zAC rfl rfl, trivial⟩, ⟨bbx, zAD (by decide) rfl rfl (vQ9 _) rfl, trivial⟩, by simp [ren]⟩
 intro i i1;have hcl := vU5 q i;by_cases hi : i < M
 ·have cc := vPR q.r i (zDV (by decide) hQ.r) (by omega)
  (repeat' (first|refine stp ?_|with_reducible(refine brr ?_ ?_<;>intro h)));all_goals try(conv=>whnf)
  all_goals try (exfalso; omega)
  refine zAA cc rfl ?_;refine sts ?_;exact ⟨i + 1, ⟨by omega, by show M - (i + 1) < M - i; omega⟩, [0, _], [], [], [], ttt, ⟨(apy rfl), zAF (by decide) rfl (by first | omega | (simp; omega) | rfl), zAC rfl rfl, zAC rfl rfl, trivial⟩, ⟨bbx, zAD (by decide) rfl (by rw [vPM, List.map_append]; rfl) (vQ9 _) rfl, trivial⟩, by simp [ren]⟩
 have ei : i = M := by omega
 subst ei;have cb := vJA q kg n (vBN q i) hQ (by omega) hn (vU2 hQ hn i) (by omega);refine sus ?_;refine zAX ?_
 (repeat' (first|refine stu ?_|with_reducible(refine brr ?_ ?_<;>intro h)));all_goals try(conv=>whnf)
 all_goals try (exfalso; omega)
 refine vB7 [] [(1, .ptr 0 0 0), (4, .imm ((vBN q i).map vIY))] [(0, ⟨[vA7 q], 10, true⟩)] [] 1 (by decide) (by simp) trivial
  ⟨[0], [1], [(4, .imm ((vBN q i).map vIY))], [], ⟨⟨⟨_, rfl⟩, trivial⟩, ⟨⟨6, _, zAH rfl rfl (by omega) fun _ => rfl, rfl⟩, trivial⟩, trivial⟩, ⟨apx, zAE rfl rfl, trivial⟩, ⟨bbx, trivial⟩, by simp [ren]⟩ ?_
 have ha0 := vWA (q := q) (n := n) (m := i);have ha1 := vG7 (q := q) (n := n) (m := i);have hx : vWO q n i = vRI q n 4 (vBN q i)[(vBY q (vBN q i) (vBN q i).length).1]! := rfl;have hco := vU4 hQ hn (m := i);generalize vWO q n i = X at *
 generalize uAH q n i = O at *
 rcases hb : vBY q (vBN q i) (vBN q i).length with ⟨I, L, F⟩
 rw [hb] at cb ha0 ha1 hx hco;dsimp only at cb ha0 ha1 hx hco;cases F with
 | false =>
   rw [ha0 (by rintro ⟨h, _⟩; cases h)];refine sts ?_;refine zAA cb rfl ?_;refine sts ?_;exact zAB rfl rfl
 | true =>
   obtain ⟨hI, hpt⟩ := hco rfl;refine sts ?_;refine zAA cb rfl ?_;refine sts ?_
   all_goals try (exfalso; omega)
   generalize (vBN q i)[I]! = x0 at *
   refine zAG hT (fun ((r, x) : Nat × List Rat) => [(1, .ptr 0 0 0), (9, .imm (x.map vBF)), (57, .int .i64 r)]) (fun _ => [(0, ⟨[vA7 q], 10, true⟩)]) [] 1
    (fun (r, x) => r ≤ 4 ∧ ptW q n x ∧ X = vRI q n (4 - r) x) (fun (r, _) => 4 - r) (0, x0) ⟨Nat.zero_le _, hpt, hx⟩ (by decide) (by simp) ?_ ?_
   ·exact ⟨[0], [], [], [], ttt, ⟨apx, zAE rfl rfl, zAC rfl rfl, trivial⟩, ⟨bbx, trivial⟩, by simp [ren]⟩
   intro ⟨r, x⟩ ⟨r1, hp, hX⟩;by_cases hr : r < 4
   ·have hxl := hp.len
    have hrd : vRI q n (4 - r) x = if vEM q x n = x then x else vRI q n (4 - (r + 1)) (vEM q x n) := by
     rw [show 4 - r = (4 - (r + 1)) + 1 by omega]; rfl
    (repeat' (first|refine stp ?_|with_reducible(refine brr ?_ ?_<;>intro h)));all_goals try(conv=>whnf)
    all_goals try (exfalso; omega)
    refine zAG hT (fun (i : Nat) => [(1, .ptr 0 0 0), (9, .imm ((vEM q x i).map vBF)), (10, .imm (x.map vBF)), (57, .int .i64 r), (61, .int .i64 n), (62, .int .i64 i)]) (fun _ => [(0, ⟨[vA7 q], 10, true⟩)]) [] 1
     (fun i => i ≤ n) (fun i => n - i) 0 (Nat.zero_le _) (by decide) (by simp) ?_ ?_
    ·exact ⟨[0], [], [], [], ttt, ⟨apx, zAE rfl rfl, zAE rfl rfl, zAC rfl rfl, zAC rfl (by simp [hxl]), zAC rfl rfl, trivial⟩, ⟨bbx, trivial⟩, by simp [ren]⟩
    intro j j1;obtain ⟨hpj, _⟩ := vRA hQ hp j (by omega);by_cases hj : j < n
    ·have es : vEM q x (j + 1) = vY1 q (vEM q x j) j := rfl
     have et : vY1 q (vEM q x j) j = (vEK q (vEM q x j) j)[(vBY q (vEK q (vEM q x j) j) 3).1]! := rfl;have htz := uAP hQ hpj.sz (i := j) (by omega);have hib := uBI hQ hpj (i := j) (by omega);have cb := vJA q kg n (vEK q (vEM q x j) j) hQ (by omega) hn (fun y hy => by have := htz y hy; exact ⟨by rw [this.1, hpj.len], this.2⟩) (by simp [vEK]);rw [show (vEK q (vEM q x j) j).length = 3 from rfl] at cb;generalize vEM q x j = y at *
     have hyl := hpj.len;obtain ⟨_, _, _, b4, b5⟩ := hQ.bnd (i := j) (by omega);refine sus ?_;refine zAX ?_; (repeat' (first|refine stu ?_|with_reducible(refine brr ?_ ?_<;>intro h)));all_goals try(conv=>whnf)
     all_goals try (exfalso; omega)
     (refine zAX ?_; refine sus ?_)
     (refine zAX ?_; refine sus ?_)
     refine vB7 [] [(1, .ptr 0 0 0), (9, .imm (y.map vBF)), (10, .imm (x.map vBF)), (11, .int .i64 j), (12, .own 1 0 n), (13, .own 2 0 n), (57, .int .i64 r), (61, .int .i64 n), (62, .int .i64 j)] [(0, ⟨[vA7 q], 10, true⟩), (1, vCN y), (2, vCN y)] [] 3 (by decide) (by simp) trivial
      ⟨[0, 6, 9], [], [], [], ttt, ⟨apx, zAE rfl rfl, zAE rfl rfl, zAC rfl rfl, zAF (by decide) rfl (by simp [hyl]), zAF (by decide) rfl (by simp [hyl]), zAC rfl rfl, zAC rfl rfl, zAC rfl rfl, trivial⟩, ⟨bbx, zAD (by decide) rfl rfl (zAK y) rfl, zAD (by decide) rfl rfl (zAK y) rfl, trivial⟩, by simp [ren]⟩ ?_
     refine sus ?_
     all_goals try (exfalso; omega)
     refine zAU j (Nat.zero_add _) (by omega) ?_;refine sus ?_;refine zAU j (Nat.zero_add _) (by omega) ?_;refine sus ?_
     refine vB7 [] [(1, .ptr 0 0 0), (9, .imm (y.map vBF)), (10, .imm (x.map vBF)), (12, .imm ((y.set j (qv q.r.lo[j]!)).map vBF)), (13, .imm ((y.set j (qv q.r.hi[j]!)).map vBF)), (57, .int .i64 r), (61, .int .i64 n), (62, .int .i64 j)] [(0, ⟨[vA7 q], 10, true⟩)] [] 1 (by decide) (by simp) trivial
      ⟨[0], [1, 2], [(12, .imm ((y.set j (qv q.r.lo[j]!)).map vBF)), (13, .imm ((y.set j (qv q.r.hi[j]!)).map vBF))], [], ⟨⟨⟨_, rfl⟩, ⟨_, rfl⟩, trivial⟩, ⟨⟨6, _, zAH rfl (by show List.set _ _ (vAZ q.r.lo[j]!) = _; rw [show vAZ q.r.lo[j]! = vBF (qv q.r.lo[j]!) from congrArg vAZ b4]; exact zBB (Nat.zero_add _) rfl) (by simp; omega) fun q => zD4 (cr q), rfl⟩, ⟨6, _, zAH rfl (by show List.set _ _ (vAZ q.r.hi[j]!) = _; rw [show vAZ q.r.hi[j]! = vBF (qv q.r.hi[j]!) from congrArg vAZ b5]; exact zBB (Nat.zero_add _) rfl) (by simp; omega) fun q => zD4 (cr q), rfl⟩, trivial⟩, trivial⟩, ⟨apx, zAE rfl rfl, zAE rfl rfl, zAE rfl rfl, zAE rfl rfl, zAC rfl rfl, zAC rfl rfl, zAC rfl rfl, trivial⟩, ⟨bbx, trivial⟩, by simp [ren]⟩ ?_
     refine sts ?_;refine zAA cb rfl ?_;refine sts ?_
     all_goals try (exfalso; omega)
     obtain ⟨hpt1, _, hfo, hlt3⟩ := hib;refine zAU (f := vIY) (l := vEK q y j) (vBY q (vEK q y j) 3).1 (by omega) (by show _ < 3; exact hlt3) ?_;rw [← et];refine sts ?_;exact ⟨j + 1, ⟨by omega, by show n - (j + 1) < n - j; omega⟩, [0], [], [], [], ttt, ⟨apx, zAE rfl (by rw [es]), zAE rfl rfl, zAC rfl rfl, zAC rfl rfl, zAC rfl rfl, trivial⟩, ⟨bbx, trivial⟩, by simp [ren]⟩
    have ej : j = n := by omega
    subst ej;have cs := uE7 x (vEM q x j) 200 hp.sz hpj.sz (by decide) (by rw [hpj.len, hxl]) (by omega)
    (repeat' (first|refine stp ?_|with_reducible(refine brr ?_ ?_<;>intro h)));all_goals try(conv=>whnf)
    all_goals try (exfalso; omega)
    refine zAA cs rfl ?_
    (repeat' (first|refine stp ?_|with_reducible(refine brr ?_ ?_<;>intro h)));all_goals try(conv=>whnf)
    ·have eX : X = vEM q x j := by rw [hX, hrd, if_pos (by assumption : x = _).symm]; assumption
     have hXs : ∀ r ∈ X, sz 200 r := by rw [eX]; exact hpj.sz
     have hXl : X.length = j := by rw [eX]; exact hpj.len
     rw [← eX];by_cases hw : vEE q X
     ·have cw := zE1 q kg X hQ (by omega) (by omega) hXs
      rw [dB_true.2 hw] at cw;rw [ha1 ⟨rfl, hw⟩];refine zAA cw rfl ?_;refine sts ?_;exact zAB rfl rfl
     ·have cw := zE1 q kg X hQ (by omega) (by omega) hXs
      rw [dB_false.2 hw] at cw;rw [ha0 fun e => hw e.2];refine zAA cw rfl ?_;refine sts ?_;exact zAB rfl rfl
    ·have hne : ¬ vEM q x j = x := fun e => absurd e.symm (by assumption)
     rw [if_neg hne] at hrd;exact ⟨(r + 1, vEM q x j), ⟨⟨by omega, hpj, by rw [hX, hrd]⟩, by show 4 - (r + 1) < 4 - r; omega⟩, [0], [], [], [], ttt, ⟨apx, zAE rfl rfl, zAC rfl rfl, trivial⟩, ⟨bbx, trivial⟩, by simp [ren]⟩
   ·have er : r = 4 := by omega
    subst er;have eX : X = x := hX;have hXs : ∀ r ∈ X, sz 200 r := by rw [eX]; exact hp.sz
    have hXl : X.length = n := by rw [eX]; exact hp.len
    rw [← eX];refine sts ?_
    all_goals try (exfalso; omega)
    by_cases hw : vEE q X
    ·have cw := zE1 q kg X hQ (by omega) (by omega) hXs
     rw [dB_true.2 hw] at cw;rw [ha1 ⟨rfl, hw⟩];refine zAA cw rfl ?_;refine sts ?_;exact zAB rfl rfl
    ·have cw := zE1 q kg X hQ (by omega) (by omega) hXs
     rw [dB_false.2 hw] at cw;rw [ha0 fun e => hw e.2];refine zAA cw rfl ?_;refine sts ?_;exact zAB rfl rfl
theorem vFG {k a' b' n1 n2 : Nat} {i j : Int} {ρ : Nat → Nat} {a b : Nat} (h1 : a = ρ a') (h2 : b = ρ b') (g1 : a' < k) (g2 : b' < k) (e : j = i := by rfl) : rn ρ k 3 (.agg [.int .i64 i, .own a' 0 n1, .own b' 0 n2]) (.agg [.int .i64 j, .own a 0 n1, .own b 0 n2]) := by
 subst h1 h2 e; exact ⟨rfl, ⟨g1, rfl⟩, ⟨g2, rfl⟩, trivial⟩
theorem vWJ {R : List QF} {j : Nat} (hj : j < R.length) : (R.take j).map vA5 ++ [vA5 R[j]!] = (R.take (j + 1)).map vA5 := by
 rw [List.take_succ_eq_append_getElem hj, List.map_append, getElem!_pos R j hj]; rfl
theorem zFQ (R : List QF) : ∀ e ∈ R.map vA5, nr 3 e = true ∧ e ≠ .any := zAW fun _ => ⟨rfl, by simp [vA5]⟩
theorem vS1 : FO 69 Tryz.f69 [.cell 2 27] 50 := mkO Tryz.func69 Tryz.ntmps69 Tryz.results69
theorem uAC (l : List Int) (a : Nat) (hl : vMN l) (ha : a ≤ l.length) : Fn 69 [.ptr 0 0 0] (.wrt (fdB l a) (vA8 (gfG l a)) (fdB l (gfE l a))) := by
 obtain ⟨U, hU⟩ : ∃ U, guI l (gfS l a) (gfN l a) (gfU l a) = U := ⟨_, rfl⟩;obtain ⟨O, hO⟩ : ∃ O, rwI l (gfM l a) (gfN l a + gfU l a) (gfO l a) = O := ⟨_, rfl⟩;have lU : U.length = gfU l a := by rw [← hU, vKX]
 have lO : O.length = gfO l a := by rw [← hO]; simp [rwI]
 have gU : ∀ j, j < gfU l a → (vCG l (guA l (gfS l a) (gfN l a) j) (gfN l a + j)).1 = U[j]! := fun j hj => by rw [← hU, vTU hj]
 have gO : ∀ j, j < gfO l a → (vCG l (rwA l (gfM l a) (gfN l a + gfU l a) j) (gfN l a + gfU l a)).1 = O[j]! := fun j hj => by rw [← hO]; unfold rwI; rw [zBV hj]
 have hg : vA8 (gfG l a) = .agg [.int .i64 (gfN l a : Nat), .imm (U.map vA5), .imm (O.map vA5)] := by
  unfold vA8 gfG;rw [hU, hO];simp only [List.map_map];rw [show (vBD ∘ QF.L) = vA5 from funext fun f => (zJM f).symm]
 have hE : gfE l a = rwA l (gfM l a) (gfN l a + gfU l a) (gfO l a) := rfl;have hM : gfM l a = guA l (gfS l a) (gfN l a) (gfU l a) := rfl;have hMl := vMZ ha;have hSl := vMY ha;rw [hg, hE];have c1 := zHR l a 3 hl ha (by decide);have c2 := zHR l (nx2 l a) 5 hl (zD8 ha) (by decide);have c3 := zHR l (nx2 l (nx2 l a)) 3 hl (zD8 (zD8 ha)) (by decide);rw [show nx2 l (nx2 l (nx2 l a)) = gfS l a from rfl] at c3;rw [show nx1 l (nx2 l a) 5 = gfU l a from rfl] at c2;have e1 : 1 + ((nx1 l a 3 : Nat) : Int) = ((gfN l a : Nat) : Int) := by unfold gfN; omega
 have e3 : 1 + ((nx1 l (nx2 l (nx2 l a)) 3 : Nat) : Int) = ((gfO l a : Nat) : Int) := by unfold gfO; omega
 obtain ⟨g1, g2, g3, g4, g5⟩ := vTV l a;have b1 := zG8 (l := l) (a := a) (n := 3) (by decide);have b3 := zG8 (l := l) (a := nx2 l (nx2 l a)) (n := 3) (by decide);generalize nx1 l a 3 = n0 at *
 generalize nx1 l (nx2 l (nx2 l a)) 3 = o0 at *
 generalize gfM l a = M at *
 generalize gfS l a = S at *
 generalize gfN l a = n at *
 generalize gfU l a = u at *
 generalize gfO l a = o at *
 refine zCF vA6 hT vS1 (by simp) ?_;refine sts ?_;refine zBH (r := 0) c1 rfl rfl rfl rfl (zD1 _ _) (zGL _ _) ?_;refine sts ?_;refine zBH (r := 0) c2 rfl rfl rfl rfl (zD1 _ _) (zGL _ _) ?_;refine sts ?_;refine zBH (r := 0) c3 rfl rfl rfl rfl (zD1 _ _) (zGL _ _) ?_;refine sts ?_
 refine zBP hT [(.cl 6 0 1, 4, true), (.cl 6 0 2, 4, true)] (fun (j : Nat) => [(0, .ptr 0 0 0), (2, .ptr 1 0 0), (3, .ptr 2 0 0), (4, .int .i64 u), (5, .int .i64 o), (6, .int .i64 j)])
  (fun j => [(0, fdB l (guA l S n j)), (1, ⟨[.agg [.int .i64 0, .nilsl, .nilsl]], 3, true⟩), (2, ⟨[.agg [.int .i64 n, .own 3 0 j, .own 4 0 0]], 3, true⟩), (3, ⟨(U.take j).map vA5, 4, true⟩), (4, ⟨[], 4, true⟩)]) [] 5
  (fun j => j ≤ u) (fun j => u - j) 0 (Nat.zero_le _) (by decide) (by simp) ⟨_, _, rfl, rfl, rfl, _, _, rfl, rfl, rfl, trivial⟩ ?_ ?_
 ·exact ⟨[1, 6, _, _], [], [], [], ttt, ⟨(apy rfl), (apy rfl), (apy rfl), zAC rfl rfl, zAC rfl e3, zAC rfl rfl, trivial⟩,
   ⟨bbx, bbx, zA8 (by decide) rfl (vFG rfl rfl (by decide) (by decide) e1) rfl rfl, zAD (by decide) rfl rfl (zFQ []) rfl, zAD (by decide) rfl rfl (zFQ []) rfl, trivial⟩, by simp [ren]⟩
 intro j j1;have hU' : (U.take j).length = j := by rw [List.length_take]; omega
 by_cases hj : j < u
 ·have cf := vG1 l (guA l S n j) (n + j) hl (vIN hSl j) (by omega)
  rw [gU j hj] at cf;rw [show (((n + j : Nat) : Nat) : Int) = (n : Int) + (j : Int) by omega] at cf;have sU := vWJ (R := U) (j := j) (by omega);have eA : guA l S n (j + 1) = (vCG l (guA l S n j) (n + j)).2 := rfl
  (repeat' (first|refine stp ?_|with_reducible(refine brr ?_ ?_<;>intro h)));all_goals try(conv=>whnf)
  all_goals try (exfalso; omega)
  refine zBH (r := 0) cf rfl rfl rfl rfl (zD1 _ _) (zGL _ _) ?_;refine sts ?_
  exact ⟨j + 1, ⟨by omega, by show u - (j + 1) < u - j; omega⟩, [1, 2, 17, 4], [], [], [], ttt, ⟨apx, apx, apx, zAC rfl rfl, zAC rfl rfl, zAC rfl rfl, trivial⟩,
   ⟨bbx, bbx, zA8 (by decide) rfl (vFG rfl rfl (by decide) (by decide)) rfl rfl, zAD (by decide) rfl sU (zFQ _) rfl, zAD (by decide) rfl rfl (fun e he => by cases he) rfl, trivial⟩, by simp [ren]⟩
 have ej : j = u := by omega
 rw [List.take_of_length_le (by omega)];rw [ej] at *
 rw [← hM]
 (repeat' (first|refine stp ?_|with_reducible(refine brr ?_ ?_<;>intro h)));all_goals try(conv=>whnf)
 all_goals try (exfalso; omega)
 refine zAG hT (fun (j : Nat) => [(0, .ptr 0 0 0), (2, .ptr 1 0 0), (3, .ptr 2 0 0), (4, .int .i64 u), (5, .int .i64 o), (7, .int .i64 j)])
  (fun j => [(0, fdB l (rwA l M (n + u) j)), (1, ⟨[.agg [.int .i64 0, .nilsl, .nilsl]], 3, true⟩), (2, ⟨[.agg [.int .i64 n, .own 3 0 u, .own 4 0 j]], 3, true⟩), (3, ⟨U.map vA5, 4, true⟩), (4, ⟨(O.take j).map vA5, 4, true⟩)]) [] 5
  (fun j => j ≤ o) (fun j => o - j) 0 (Nat.zero_le _) (by decide) (by simp) ?_ ?_
 ·exact ⟨[1, 2, 3, 4], [], [], [], ttt, ⟨apx, apx, apx, zAC rfl rfl, zAC rfl rfl, zAC rfl rfl, trivial⟩,
   ⟨bbx, bbx, zA8 (by decide) rfl (vFG rfl rfl (by decide) (by decide)) rfl rfl, zAD (by decide) rfl rfl (zFQ _) rfl, zAD (by decide) rfl rfl (zFQ _) rfl, trivial⟩, by simp [ren]⟩
 intro j j1;have hO' : (O.take j).length = j := by rw [List.length_take]; omega
 by_cases hj : j < o
 ·have cf := vG1 l (rwA l M (n + u) j) (n + u) hl (zLE hMl j) (by omega)
  rw [gO j hj] at cf;rw [show (((n + u : Nat) : Nat) : Int) = (n : Int) + (u : Int) by omega] at cf;have sO := vWJ (R := O) (j := j) (by omega)
  (repeat' (first|refine stp ?_|with_reducible(refine brr ?_ ?_<;>intro h)));all_goals try(conv=>whnf)
  all_goals try (exfalso; omega)
  refine zBH (r := 0) cf rfl rfl rfl rfl (zD1 _ _) (zGL _ _) ?_;refine sts ?_
  exact ⟨j + 1, ⟨by omega, by show o - (j + 1) < o - j; omega⟩, [1, 2, 3, 17], [], [], [], ttt, ⟨apx, apx, apx, zAC rfl rfl, zAC rfl rfl, zAC rfl rfl, trivial⟩,
   ⟨bbx, bbx, zA8 (by decide) rfl (vFG rfl rfl (by decide) (by decide)) rfl rfl, zAD (by decide) rfl rfl (zFQ _) rfl, zAD (by decide) rfl sO (zFQ _) rfl, trivial⟩, by simp [ren]⟩
 have ej2 : j = o := by omega
 subst ej2;rw [List.take_of_length_le (by omega)];refine sus ?_;refine zAX ?_
 (repeat' (first|refine stu ?_|with_reducible(refine brr ?_ ?_<;>intro h)));all_goals try(conv=>whnf)
 all_goals try (exfalso; omega)
 refine vB7 [] [(2, .ptr 1 0 0), (3, .ptr 2 0 0)] [(0, fdB l (rwA l M (n + u) j)), (1, ⟨[.agg [.int .i64 0, .nilsl, .nilsl]], 3, true⟩), (2, ⟨[.agg [.int .i64 n, .imm (U.map vA5), .imm (O.map vA5)]], 3, true⟩)] [] 3 (by decide) (by simp) trivial
  ⟨[1, 2], [3, 4], [], [(2, [.agg [.int .i64 n, .imm (U.map vA5), .imm (O.map vA5)]])], ⟨⟨⟨_, rfl⟩, ⟨_, rfl⟩, trivial⟩, trivial, ⟨⟨_, 6, _, rfl, zAP (zC7 (zAP rfl (zAP (zAH (f := vA5) (l := U) rfl rfl lU.symm vGJ) (zAP (zAH (f := vA5) (l := O) rfl rfl lO.symm vGJ) rfl)))) rfl, rfl⟩, trivial⟩⟩,
    ⟨apx, apx, trivial⟩, ⟨bbx, bbx, bbx, trivial⟩, by simp [ren]⟩ ?_
 refine sts ?_;exact zBU rfl rfl rfl rfl rfl (zD1 _ _)
theorem vSW : FO 34 Tryz.f34 [.cell 2 39] 22 := mkO Tryz.func34 Tryz.ntmps34 Tryz.results34
theorem vZ8 (l : List Int) (hl : vMN l) : Fn 34 [.ptr 0 0 0] (.wrt (fdB l 0) (vA7 (vCL l)) (fdB l (vCG l (uCQ l (gfE l 0) (gfN l 0)) (gfN l 0 + gfU l 0)).2)) := by
 have c1 := uAC l 0 hl (Nat.zero_le _);obtain ⟨g1, g2, g3, g4, g5⟩ := vTV l 0;have c2 := uAB l (gfE l 0) (gfN l 0) hl (vIP (Nat.zero_le _)) (by omega) (by omega);have c3 := vG1 l (uCQ l (gfE l 0) (gfN l 0)) (gfN l 0 + gfU l 0) hl (vQY (vIP (Nat.zero_le _))) (by omega);rw [show (((gfN l 0 + gfU l 0 : Nat) : Nat) : Int) = (gfN l 0 : Int) + (gfU l 0 : Int) by omega] at c3;have hU : (gfG l 0).units.length = gfU l 0 := (uBK (Nat.zero_le _)).2.2;have eI : (gfG l 0).ins = (gfN l 0 : Int) := rfl;have eq : vA7 (vCL l) = vA7 ⟨gfG l 0, vDW l (gfE l 0) (gfN l 0), (vCG l (uCQ l (gfE l 0) (gfN l 0)) (gfN l 0 + gfU l 0)).1.L⟩ := rfl;rw [zJM] at c3;rw [eq];refine zCF vA6 hT vSW (by simp) ?_;refine sts ?_;refine zBH (r := 0) c1 rfl rfl rfl rfl (zD1 _ _) (zGL _ _) ?_;refine sts ?_;rw [eI];refine zBH (r := 0) c2 rfl rfl rfl rfl (zD1 _ _) (zGL _ _) ?_;refine sts ?_
 all_goals try (exfalso; omega)
 rw [show ((List.map vBD (gfG l 0).units).length : Int) = (gfU l 0 : Int) by rw [List.length_map, hU]];refine zBH (r := 0) c3 rfl rfl rfl rfl (zD1 _ _) (zGL _ _) ?_;refine sts ?_;exact zBU rfl rfl rfl rfl rfl (zD1 _ _)
theorem vFZ : FO 11 Tryz.f11 [.cell 2 39] 6 := mkO Tryz.func11 Tryz.ntmps11 Tryz.results11
theorem vPU (l : List Int) (hl : vMN l) : Fn 11 [.imm (l.map (.int .u8))] (.data (vA7 (vCL l))) := by
 have c1 := uIO l hl;have c2 := vZ8 l hl;refine zAN vA6 hT vFZ (by simp) ?_;refine sts ?_;refine zBI c1 rfl ?_;refine sts ?_;refine zIN (r := 2) c2 rfl rfl rfl rfl (zD1 _ _) (by decide) ?_;refine sts ?_;exact zAB rfl rfl
end Go.PI.Tryz
