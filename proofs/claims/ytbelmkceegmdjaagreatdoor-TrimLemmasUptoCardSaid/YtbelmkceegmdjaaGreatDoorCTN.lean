/-
  The program's shift and lift.
-/
import Derived.Test.YtbelmkceegmdjaaGreatDoorCTM
import Derived.Test.YtbelmkceegmdjaaGreatDoorCTR
set_option linter.unusedVariables false
set_option linter.unusedSimpArgs false
set_option linter.unnecessarySimpa false
namespace Go.PI.Tryz
open Go.Proofs Go.PI
def vCE (K D : Int) (r : RowL) : RowL := ⟨r.kind, if 0 ≤ D ∧ r.kind = 4 then vC5 r.index D else r.index, if 0 ≤ K then vC5 r.lo (K + 1) else r.lo, if 0 ≤ K then vC5 r.hi (K + 1) else r.hi⟩
theorem vY5 {K : Int} (h : 0 ≤ K) : vCE K (-1) = vQN K := by
 funext r
 unfold vCE vQN;rw [if_neg (by omega), if_pos h, if_pos h]
abbrev vD5 (K D : Int) : PV := .agg [.int .i64 K, .int .i64 D]
def vFG (K : Int) : Prop := -1 ≤ K ∧ K < 4611686018427387904
theorem vTF : FO 150 Tryz.f150 [.tmp 4] 11 := mkO Tryz.func150 Tryz.ntmps150 Tryz.results150
theorem zKY (n t : Int) (h1 : -9223372036854775808 ≤ n) (h2 : n < 9223372036854775808) (ht : 0 ≤ t) : Fn 150 [.int .i64 n, .int .i64 t] (.data (.int .i64 (vC5 n t))) := by
 refine zAO vBC hT vTF (by simp) ?_
 (repeat' (first|refine stp ?_|with_reducible(refine brr ?_ ?_<;>intro h)));all_goals try(conv=>whnf)
 ·exact zAB rfl (by unfold vC5; rw [if_pos (by assumption)])
 ·exact zAB rfl (by unfold vC5; rw [if_neg (by assumption)])
theorem vTK : FO 122 Tryz.f122 [.cell 4 70] 37 := mkO Tryz.func122 Tryz.ntmps122 Tryz.results122
theorem vZI (K D : Int) (r : RowL) (hK : vFG K) (hD : vFG D) (hr : vKS r) (hi : vPZ r) : Fn 122 [vD5 K D, vBJ r] (.data (vBJ (vCE K D r))) := by
 obtain ⟨k1, k2⟩ := hK;obtain ⟨d1, d2⟩ := hD;have e1 : ∀ {v : Int}, 0 ≤ K → (if 0 ≤ K then vC5 v (K + 1) else v) = vC5 v (K + 1) := fun h => if_pos h
 have e2 : ∀ {v : Int}, ¬ 0 ≤ K → (if 0 ≤ K then vC5 v (K + 1) else v) = v := fun h => if_neg h
 refine zAO vBC hT vTK (by simp) ?_;by_cases hk : 0 ≤ K
 ·have c1 := zKY r.lo (K + 1) hr.1.1 hr.1.2 (by omega)
  have c2 := zKY r.hi (K + 1) hr.2.1 hr.2.2 (by omega);by_cases hd : 0 ≤ D
  ·have c3 := zKY r.index D hi.1 hi.2 hd
   (repeat' (first|refine stp ?_|with_reducible(refine brr ?_ ?_<;>intro h)));all_goals try(conv=>whnf)
   all_goals try (exfalso; omega)
   refine zAA c1 rfl ?_;refine sts ?_;refine zAA c2 rfl ?_
   (repeat' (first|refine stp ?_|with_reducible(refine brr ?_ ?_<;>intro h)));all_goals try(conv=>whnf)
   all_goals try (exfalso; omega)
   ·refine zAA c3 rfl ?_
    refine sts ?_;refine zAB rfl ?_;unfold vCE;simp only [vBJ];rw [e1 hk, e1 hk, if_pos ⟨hd, by assumption⟩]
   ·refine zAB rfl ?_
    unfold vCE;simp only [vBJ];rw [e1 hk, e1 hk, if_neg (fun h => by simp_all)]
  ·(repeat' (first|refine stp ?_|with_reducible(refine brr ?_ ?_<;>intro h)));all_goals try(conv=>whnf)
   all_goals try (exfalso; omega)
   refine zAA c1 rfl ?_;refine sts ?_;refine zAA c2 rfl ?_
   (repeat' (first|refine stp ?_|with_reducible(refine brr ?_ ?_<;>intro h)));all_goals try(conv=>whnf)
   all_goals try (exfalso; omega)
   refine zAB rfl ?_;unfold vCE;simp only [vBJ];rw [e1 hk, e1 hk, if_neg (fun h => hd h.1)]
 ·by_cases hd : 0 ≤ D
  ·have c3 := zKY r.index D hi.1 hi.2 hd
   (repeat' (first|refine stp ?_|with_reducible(refine brr ?_ ?_<;>intro h)));all_goals try(conv=>whnf)
   all_goals try (exfalso; omega)
   ·refine zAA c3 rfl ?_
    refine sts ?_;refine zAB rfl ?_;unfold vCE;simp only [vBJ];rw [e2 hk, e2 hk, if_pos ⟨hd, by assumption⟩]
   ·refine zAB rfl ?_
    unfold vCE;simp only [vBJ];rw [e2 hk, e2 hk, if_neg (fun h => by simp_all)]
  ·(repeat' (first|refine stp ?_|with_reducible(refine brr ?_ ?_<;>intro h)));all_goals try(conv=>whnf)
   all_goals try (exfalso; omega)
   refine zAB rfl ?_;unfold vCE;simp only [vBJ];rw [e2 hk, e2 hk, if_neg (fun h => hd h.1)]
theorem vLD : FO 88 Tryz.f88 [.tmp 4] 30 := mkO Tryz.func88 Tryz.ntmps88 Tryz.results88
theorem zNH (K D : Int) (l : List MultL) (hK : vFG K) (hD : vFG D) (hl : vCG l) : Fn 88 [vD5 K D, .imm (l.map vBA)] (.fresh ((vBM (vCE K D) l).map vBA) 7 true) := by
 have hln := hl.1;refine zD6 vBC hT vLD (by simp) ?_;refine sts ?_
 refine zB8 hT [(.sl 5, 7, true)] (fun (i : Nat) => [(1, .imm (l.map vBA)), (2, .ptr 0 0 0), (5, .own 1 0 i), (6, .int .i64 i)]) (fun i => [(0, ⟨[vD5 K D], 2, true⟩), (1, ⟨(vBM (vCE K D) (l.take i)).map vBA, 7, true⟩)]) [] 2
  (fun i => i ≤ l.length) (fun i => l.length - i) 0 (Nat.zero_le _) (by decide) (by simp) ⟨rfl, trivial⟩ ?_ ?_
 ·exact ⟨[0, _], [], [], [], ttt, ⟨zAE rfl rfl, (apy rfl), zBA (by decide) rfl rfl, zAC rfl rfl, trivial⟩, ⟨bbx, zAF (by decide) rfl rfl (zBZ _) rfl, trivial⟩, by simp [ren]⟩
 intro i hi;have hlen : (vBM (vCE K D) (l.take i)).length = i := by simp [vBM]; omega
 by_cases h0 : i < l.length
 ·have hm := hl.2 _ (zA1 h0)
  have c1 := vZI K D l[i]!.row hK hD hm.1 hm.2
  (repeat' (first|refine stp ?_|with_reducible(refine brr ?_ ?_<;>intro h)));all_goals try(conv=>whnf)
  ·refine zAA c1 rfl ?_
   refine sts ?_;exact ⟨i + 1, ⟨by omega, by show l.length - (i + 1) < l.length - i; omega⟩, [0, _], [], [], [], ttt, ⟨zAE rfl rfl, (apy rfl), zBA (by decide) rfl rfl, zAC rfl (by omega), trivial⟩, ⟨bbx, zAF (by decide) rfl (zJH h0) (zBZ _) rfl, trivial⟩, by simp [ren]⟩
  all_goals (exfalso; omega)
 ·obtain rfl : i = l.length := by omega
  rw [List.take_length]
  (repeat' (first|refine stp ?_|with_reducible(refine brr ?_ ?_<;>intro h)));all_goals try(conv=>whnf)
  all_goals try (exfalso; omega)
  refine zBI rfl rfl (by simp [vBM]) rfl (zDY (fun x => zIX x) _)
theorem vYQ {h : Hp} {m r q p la a pa sz sz2 sz3 : Nat} {g1 g2 g3 : Bool} {n : NodeL} {L : List LemL} {K : List NodeL} {P : List MultL} (h1 : h r = some ⟨L.map vBB, sz, g1⟩) (h2 : h q = some ⟨K.map vBD, sz2, g2⟩) (h3 : h p = some ⟨P.map vBA, sz3, g3⟩) (hl : la = L.length) (ha : a = K.length) (hp : pa = P.length) :
 frz h (m + 4) (vHX n (.own r 0 la) (.own q 0 a) (.own p 0 pa)) = some (vA7 (.mk L n.split K n.empty P), [r, q, p]) := by
 subst hl hp;exact vUG h1 h2 h3 ha
theorem vN5 (f : RowL → RowL) : ∀ ks : List NodeL, vHM f ks = ks.map (vCF f)
 | [] => rfl
 | k :: ks => by simp only [vHM, List.map_cons, vN5 f ks]
theorem zDZ (f : RowL → RowL) (n : NodeL) : vCF f n = .mk (n.lemmas.map (vDB f)) n.split (n.kids.map (vCF f)) n.empty (vBM f n.proof) := by
 cases n
 rw [← vN5];rfl
theorem zIV {α β : Type} [Inhabited α] {f : α → β} {l : List α} {i : Nat} (h : i < l.length) : (l.take i).map f ++ [f l[i]!] = (l.take (i + 1)).map f := by
 rw [List.take_succ_eq_append_getElem h, getElem!_pos l i h, List.map_append]; rfl
theorem vPO : FO 49 Tryz.f49 [.cell 4 32] 61 := mkO Tryz.func49 Tryz.ntmps49 Tryz.results49
theorem vVJ (K D : Int) (hK : vFG K) (hD : vFG D) : ∀ (sz : Nat) (n : NodeL), SizeOf.sizeOf n < sz → NodeRg n → Fn 49 [vD5 K D, vA7 n] (.data (vA7 (vCF (vCE K D) n))) := by
 intro sz
 induction sz with
 | zero => intro n h; omega
 | succ sz ih =>
   intro n hsz hn;have hln := hn.ln;have hkn := hn.kn;have cp := zNH K D n.proof hK hD hn.prf;obtain ⟨PF, hPF⟩ : ∃ PF, vBM (vCE K D) n.proof = PF := ⟨_, rfl⟩;rw [zDZ, hPF];rw [hPF] at cp;refine zAO vBC hT vPO (by simp) ?_;refine sus ?_
   (refine zAS ?_; refine sus ?_)
   refine zA5 cp rfl ?_;refine sus ?_;refine vB0 [] [(2, .cptr (vD5 K D) 0), (3, .cptr (vA7 n) 0), (4, .ptr 0 0 0), (5, .ptr 1 0 0)] [(0, ⟨[.agg [.nilsl, .int .i64 0, .int .i64 0, .bool false, .nilsl, .nilsl, .nilsl, .bool false, .nilsl]], 9, true⟩), (1, ⟨[vHX n .nilsl .nilsl (.own 2 0 PF.length)], 9, true⟩), (2, ⟨PF.map vBA, 7, true⟩)] [] 3 (by decide) (by simp) trivial ?_ ?_
   ·exact ⟨[2, 12, 10], [0, 1], [(2, .cptr (vD5 K D) 0), (3, .cptr (vA7 n) 0)], [], ⟨⟨⟨_, rfl⟩, ⟨_, rfl⟩, trivial⟩, ⟨⟨6, [0], rfl, rfl⟩, ⟨6, [1], zC6 rfl, rfl⟩, trivial⟩, trivial⟩, ⟨zAH rfl, zAH rfl, apx, apx, trivial⟩,
     ⟨bbx, zAI (by decide) rfl (zBW vKT vKT (zGC (by decide) rfl (by simp))) rfl rfl, zAF (by decide) rfl rfl (zBZ _) rfl, trivial⟩, by simp [ren]⟩
   refine sts ?_
   refine zB8 hT [(.cl 1 0 0, 6, true)] (fun (i : Nat) => [(2, .cptr (vD5 K D) 0), (3, .cptr (vA7 n) 0), (4, .ptr 0 0 0), (5, .ptr 1 0 0), (6, .int .i64 i)])
    (fun i => [(0, ⟨[.agg [.nilsl, .int .i64 0, .int .i64 0, .bool false, .nilsl, .nilsl, .nilsl, .bool false, .nilsl]], 9, true⟩), (1, ⟨[vHX n (.own 3 0 i) .nilsl (.own 2 0 PF.length)], 9, true⟩), (2, ⟨PF.map vBA, 7, true⟩), (3, ⟨((n.lemmas.take i).map (vDB (vCE K D))).map vBB, 6, true⟩)]) [] 4
    (fun i => i ≤ n.lemmas.length) (fun i => n.lemmas.length - i) 0 (Nat.zero_le _) (by decide) (by simp) ⟨_, _, rfl, rfl, rfl, trivial⟩ ?_ ?_
   ·exact ⟨[0, 1, 2, _], [], [], [], ttt, ⟨zAH rfl, zAH rfl, (apy rfl), (apy rfl), zAC rfl rfl, trivial⟩,
     ⟨bbx, zAI (by decide) rfl (zBW (zGC (by decide) rfl rfl) vKT (zGC (by decide) rfl rfl)) rfl rfl, zAF (by decide) rfl rfl (zBZ _) rfl, zAF (by decide) rfl rfl (zEH _) rfl, trivial⟩, by simp [ren]⟩
   intro i hi;by_cases hi' : i < n.lemmas.length
   ·have hlm : n.lemmas[i]! ∈ n.lemmas := zA1 hi'
    have hlI : ((n.lemmas.take i).map (vDB (vCE K D))).length = i := by simp; omega
    have cl := zNH K D n.lemmas[i]!.proof hK hD (hn.lem _ hlm);refine sus ?_;refine zAS ?_; (repeat' (first|refine stu ?_|with_reducible(refine brr ?_ ?_<;>intro h)));all_goals try(conv=>whnf)
    ·(refine zAS ?_; refine sus ?_)
     (refine zAS ?_; refine sus ?_)
     refine zA5 cl rfl ?_;refine sus ?_
     refine vB0 [] [(2, .cptr (vD5 K D) 0), (3, .cptr (vA7 n) 0), (4, .ptr 0 0 0), (5, .ptr 1 0 0), (6, .int .i64 i), (7, .ptr 4 0 0)]
      [(0, ⟨[.agg [.nilsl, .int .i64 0, .int .i64 0, .bool false, .nilsl, .nilsl, .nilsl, .bool false, .nilsl]], 9, true⟩), (1, ⟨[vHX n (.own 3 0 i) .nilsl (.own 2 0 PF.length)], 9, true⟩), (2, ⟨PF.map vBA, 7, true⟩), (3, ⟨((n.lemmas.take i).map (vDB (vCE K D))).map vBB, 6, true⟩), (4, ⟨[vBB (vDB (vCE K D) n.lemmas[i]!)], 6, true⟩)] [] 5 (by decide) (by simp) trivial ?_ ?_
     ·exact ⟨[0, 1, 2, 3, 14], [19], [], [(14, [vBB (vDB (vCE K D) n.lemmas[i]!)])], ⟨⟨⟨_, rfl⟩, trivial⟩, trivial, ⟨⟨_, 6, [19], rfl, zAG (ks := [19]) (ls := []) (vNU rfl (List.length_map _)) rfl, rfl⟩, trivial⟩⟩, ⟨zAH rfl, zAH rfl, apx, apx, zAC rfl rfl, apx, trivial⟩,
       ⟨bbx, zAI (by decide) rfl (zBW (zGC (by decide) rfl rfl) vKT (zGC (by decide) rfl rfl)) rfl rfl, zAF (by decide) rfl rfl (zBZ _) rfl, zAF (by decide) rfl rfl (zEH _) rfl, bbx, trivial⟩, by simp [ren]⟩
     refine sts ?_
     exact ⟨i + 1, ⟨by omega, by omega⟩, [0, 1, 2, _], [], [], [], ttt, ⟨zAH rfl, zAH rfl, (apy rfl), (apy rfl), zAC rfl (by omega), trivial⟩,
      ⟨bbx, zAI (by decide) rfl (zBW (zGC (by decide) rfl rfl) vKT (zGC (by decide) rfl rfl)) rfl rfl, zAF (by decide) rfl rfl (zBZ _) rfl, zAF (by decide) rfl (by rw [← zIV hi', List.map_append]; rfl) (zEH _) rfl, trivial⟩, by simp [ren]⟩
    ·exfalso; omega
   ·obtain rfl : i = n.lemmas.length := by omega
    rw [List.take_length];obtain ⟨LM, hLM⟩ : ∃ LM, n.lemmas.map (vDB (vCE K D)) = LM := ⟨_, rfl⟩;have hLl : LM.length = n.lemmas.length := by rw [← hLM]; simp
    rw [hLM]
    (repeat' (first|refine stp ?_|with_reducible(refine brr ?_ ?_<;>intro h)));all_goals try(conv=>whnf)
    all_goals try (exfalso; omega)
    refine zB8 hT [(.cl 1 0 6, 9, true)] (fun (i : Nat) => [(2, .cptr (vD5 K D) 0), (3, .cptr (vA7 n) 0), (4, .ptr 0 0 0), (5, .ptr 1 0 0), (8, .int .i64 i)])
     (fun i => [(0, ⟨[.agg [.nilsl, .int .i64 0, .int .i64 0, .bool false, .nilsl, .nilsl, .nilsl, .bool false, .nilsl]], 9, true⟩), (1, ⟨[vHX n (.own 3 0 n.lemmas.length) (.own 4 0 i) (.own 2 0 PF.length)], 9, true⟩), (2, ⟨PF.map vBA, 7, true⟩), (3, ⟨LM.map vBB, 6, true⟩), (4, ⟨((n.kids.take i).map (vCF (vCE K D))).map vBD, 9, true⟩)]) [] 5
     (fun i => i ≤ n.kids.length) (fun i => n.kids.length - i) 0 (Nat.zero_le _) (by decide) (by simp) ⟨_, _, rfl, rfl, rfl, trivial⟩ ?_ ?_
    ·exact ⟨[0, 1, 2, 3, _], [], [], [], ttt, ⟨zAH rfl, zAH rfl, (apy rfl), (apy rfl), zAC rfl rfl, trivial⟩,
      ⟨bbx, zAI (by decide) rfl (zBW (zGC (by decide) rfl rfl) (zGC (by decide) rfl rfl) (zGC (by decide) rfl rfl)) rfl rfl, zAF (by decide) rfl rfl (zBZ _) rfl, zAF (by decide) rfl rfl (zEH _) rfl, zAF (by decide) rfl rfl (zGL _) rfl, trivial⟩, by simp [ren]⟩
    intro i hi;by_cases hi' : i < n.kids.length
    ·have hkm : n.kids[i]! ∈ n.kids := zA1 hi'
     have hkl : ((n.kids.take i).map (vCF (vCE K D))).length = i := by simp; omega
     have ck := ih n.kids[i]! (by have := NodeL.sizeOf_kid hkm; omega) (hn.kid _ hkm)
     (repeat' (first|refine stn ?_|(with_reducible refine brr ?_ ?_<;>intro h)|(with_reducible refine zAD ?_ ?_<;>intro h)|with_reducible refine zAK ?_ ?_)); all_goals try (conv=>whnf)
     ·refine zAA ck rfl ?_
      refine sns ?_
      refine ⟨i + 1, ⟨by omega, by omega⟩, [0, 1, 2, 3, _], [], [], [], ttt, ⟨zAH rfl, zAH rfl, (apy rfl), (apy rfl), zAC rfl (by omega), trivial⟩,
       ⟨bbx, zAI (by decide) rfl (zBW (zGC (by decide) rfl rfl) (zGC (by decide) rfl rfl) (zGC (by decide) rfl rfl)) rfl rfl, zAF (by decide) rfl rfl (zBZ _) rfl, zAF (by decide) rfl rfl (zEH _) rfl, zAF (by decide) rfl ?_ (zGL _) rfl, trivial⟩, by simp [ren]⟩
      rw [← zIV hi', List.map_append];show _ ++ [vA7 _] = _ ++ [vBD _]
      rw [zBJ]
     all_goals (exfalso; omega)
    ·obtain rfl : i = n.kids.length := by omega
     rw [List.take_length];have hkl : (n.kids.map (vCF (vCE K D))).length = n.kids.length := by simp
     obtain ⟨KD, hKD⟩ : ∃ KD, n.kids.map (vCF (vCE K D)) = KD := ⟨_, rfl⟩;rw [hKD] at hkl ⊢
     (repeat' (first|refine stn ?_|(with_reducible refine brr ?_ ?_<;>intro h)|(with_reducible refine zAD ?_ ?_<;>intro h)|with_reducible refine zAK ?_ ?_)); all_goals try (conv=>whnf)
     all_goals try (exfalso; omega)
     exact zAB (vYQ (m := 0) (n := n) rfl rfl rfl hLl.symm hkl.symm rfl) rfl
def uE2 (r : RowL) (k : Int) : Prop := r.lo = k + 1 ∨ r.hi = k + 1
theorem vH5 {l : List MultL} {k : Int} {i : Nat} (h : i < l.length) (hu : uE2 l[i]!.row k) : vE2 l k = true := by
 unfold vE2;rw [List.any_eq_true];exact ⟨_, zA1 h, by simpa [uE2] using hu⟩
theorem vQ2 {l : List MultL} {k : Int} (h : ∀ j, j < l.length → ¬ uE2 l[j]!.row k) : vE2 l k = false := by
 unfold vE2;rw [List.any_eq_false];intro m hm;obtain ⟨j, hj, rfl⟩ := List.getElem_of_mem hm;have := h j hj;rw [getElem!_pos l j hj] at this
 simpa [uE2] using this
theorem vSU : FO 92 Tryz.f92 [.tmp 4] 32 := mkO Tryz.func92 Tryz.ntmps92 Tryz.results92
theorem vN9 (l : List MultL) (k : Int) (hl : vCG l) (h1 : 0 ≤ k) (h2 : k < 4611686018427387904) : Fn 92 [.imm (l.map vBA), .int .i64 k] (.data (.bool (vE2 l k))) := by
 have hln := hl.1;refine zAO vBC hT vSU (by simp) ?_;refine sts ?_;refine zBB hT (fun i : Nat => [(0, .imm (l.map vBA)), (1, .int .i64 k), (5, .int .i64 i)]) (fun i => i ≤ l.length ∧ ∀ j, j < i → ¬ uE2 l[j]!.row k) (fun i => l.length - i) 0 ⟨Nat.zero_le _, fun j hj => by omega⟩ ⟨zAE rfl rfl, zAC rfl rfl, zAC rfl rfl, trivial⟩ ?_;intro i ⟨hi, hno⟩;by_cases h0 : i < l.length
 ·(repeat' (first|refine stp ?_|with_reducible(refine brr ?_ ?_<;>intro h)));all_goals try(conv=>whnf)
  ·exact zAB rfl (congrArg PV.bool (vH5 h0 (Or.inl (by assumption))).symm)
  ·exact zAB rfl (congrArg PV.bool (vH5 h0 (Or.inr (by assumption))).symm)
  ·refine ⟨i + 1, ⟨⟨by omega, fun j hj => ?_⟩, by omega⟩, zAE rfl rfl, zAC rfl rfl, zAC rfl (by omega), trivial⟩
   rcases Nat.lt_or_eq_of_le (Nat.le_of_lt_succ hj) with h | rfl
   ·exact hno j h
   ·rintro (h | h) <;> simp_all
  all_goals (exfalso; omega)
 ·obtain rfl : i = l.length := by omega
  (repeat' (first|refine stp ?_|with_reducible(refine brr ?_ ?_<;>intro h)));all_goals try(conv=>whnf)
  all_goals try (exfalso; omega)
  exact zAB rfl (congrArg PV.bool (vQ2 hno).symm)
theorem vH2 (k : Int) : ∀ ks : List NodeL, vE1 ks k = ks.any (fun n => vDC n k)
 | [] => rfl
 | n :: ks => by simp only [vE1, List.any_cons, vH2 k ks]
theorem vFQ (n : NodeL) (k : Int) : vDC n k = (n.lemmas.any (fun m => vE2 m.proof k) || n.kids.any (fun n => vDC n k) || vE2 n.proof k) := by
 cases n
 simp only [vDC, vH2];rfl
theorem vOP {α : Type} [Inhabited α] {f : α → Bool} {l : List α} (h : ∀ j, j < l.length → f l[j]! = false) : l.any f = false := by
 rw [List.any_eq_false];intro m hm;obtain ⟨j, hj, rfl⟩ := List.getElem_of_mem hm;have := h j hj;rw [getElem!_pos l j hj] at this;simp [this]
theorem any_some {α : Type} [Inhabited α] {f : α → Bool} {l : List α} {i : Nat} (h : i < l.length) (hf : f l[i]! = true) : l.any f = true := List.any_eq_true.2 ⟨_, zA1 h, hf⟩
theorem vSV : FO 58 Tryz.f58 [.tmp 4] 40 := mkO Tryz.func58 Tryz.ntmps58 Tryz.results58
theorem vY7 (k : Int) (h1 : 0 ≤ k) (h2 : k < 4611686018427387904) : ∀ (sz : Nat) (n : NodeL), SizeOf.sizeOf n < sz → NodeRg n → Fn 58 [vA7 n, .int .i64 k] (.data (.bool (vDC n k))) := by
 intro sz
 induction sz with
 | zero => intro n h; omega
 | succ sz ih =>
   intro n hsz hn;have hln := hn.ln;have hkn := hn.kn;have cp := vN9 n.proof k hn.prf h1 h2;refine zAO vBC hT vSV (by simp) ?_;refine sns ?_;refine zA0 hT (fun i : Nat => [(1, .int .i64 k), (2, .cptr (vA7 n) 0), (5, .int .i64 i)]) (fun _ => []) [] 0 (fun i => i ≤ n.lemmas.length ∧ ∀ j, j < i → vE2 n.lemmas[j]!.proof k = false) (fun i => n.lemmas.length - i) 0 ⟨Nat.zero_le _, fun j hj => by omega⟩ (by decide) (by simp) ?_ ?_
   ·exact ⟨[], [0], [(2, .cptr (vA7 n) 0)], [], ⟨⟨⟨_, rfl⟩, trivial⟩, ⟨⟨6, [0], zC6 rfl, rfl⟩, trivial⟩, trivial⟩, ⟨zAC rfl rfl, zAH rfl, zAC rfl rfl, trivial⟩, trivial, by simp [ren]⟩
   intro i ⟨hi, hno⟩;by_cases h0 : i < n.lemmas.length
   ·have hlm : n.lemmas[i]! ∈ n.lemmas := zA1 h0
    have cu := vN9 n.lemmas[i]!.proof k (hn.lem _ hlm) h1 h2
    (repeat' (first|refine stn ?_|(with_reducible refine brr ?_ ?_<;>intro h)|(with_reducible refine zAD ?_ ?_<;>intro h)|with_reducible refine zAK ?_ ?_)); all_goals try (conv=>whnf)
    ·refine zAA cu rfl ?_
     (repeat' (first|refine stn ?_|(with_reducible refine brr ?_ ?_<;>intro h)|(with_reducible refine zAD ?_ ?_<;>intro h)|with_reducible refine zAK ?_ ?_)); all_goals try (conv=>whnf)
     ·refine zAB rfl (congrArg PV.bool ?_)
      rw [vFQ, any_some (f := fun m => vE2 m.proof k) h0 (by assumption)];rfl
     ·refine ⟨i + 1, ⟨⟨by omega, fun j hj => ?_⟩, by show n.lemmas.length - (i + 1) < n.lemmas.length - i; omega⟩, [], [], [], [], ttt, ⟨zAC rfl rfl, zAH rfl, zAC rfl (by omega), trivial⟩, trivial, by simp [ren]⟩
      rcases Nat.lt_or_eq_of_le (Nat.le_of_lt_succ hj) with h | rfl
      ·exact hno j h
      ·assumption
    all_goals (exfalso; omega)
   ·obtain rfl : i = n.lemmas.length := by omega
    have e1 : n.lemmas.any (fun m => vE2 m.proof k) = false := vOP hno
    (repeat' (first|refine stn ?_|(with_reducible refine brr ?_ ?_<;>intro h)|(with_reducible refine zAD ?_ ?_<;>intro h)|with_reducible refine zAK ?_ ?_)); all_goals try (conv=>whnf)
    all_goals try (exfalso; omega)
    refine zA0 hT (fun i : Nat => [(1, .int .i64 k), (2, .cptr (vA7 n) 0), (6, .int .i64 i)]) (fun _ => []) [] 0 (fun i => i ≤ n.kids.length ∧ ∀ j, j < i → vDC n.kids[j]! k = false) (fun i => n.kids.length - i) 0 ⟨Nat.zero_le _, fun j hj => by omega⟩ (by decide) (by simp) ?_ ?_
    ·exact ⟨[], [], [], [], ttt, ⟨zAC rfl rfl, zAH rfl, zAC rfl rfl, trivial⟩, trivial, by simp [ren]⟩
    intro i ⟨hi, hno2⟩;by_cases h0 : i < n.kids.length
    ·have hkm : n.kids[i]! ∈ n.kids := zA1 h0
     have cu := ih n.kids[i]! (by have := NodeL.sizeOf_kid hkm; omega) (hn.kid _ hkm)
     (repeat' (first|refine stn ?_|(with_reducible refine brr ?_ ?_<;>intro h)|(with_reducible refine zAD ?_ ?_<;>intro h)|with_reducible refine zAK ?_ ?_)); all_goals try (conv=>whnf)
     ·refine zAA cu rfl ?_
      (repeat' (first|refine stn ?_|(with_reducible refine brr ?_ ?_<;>intro h)|(with_reducible refine zAD ?_ ?_<;>intro h)|with_reducible refine zAK ?_ ?_)); all_goals try (conv=>whnf)
      ·refine zAB rfl (congrArg PV.bool ?_)
       rw [vFQ, any_some (f := fun m => vDC m k) h0 (by assumption)]
       simp
      ·refine ⟨i + 1, ⟨⟨by omega, fun j hj => ?_⟩, by show n.kids.length - (i + 1) < n.kids.length - i; omega⟩, [], [], [], [], ttt, ⟨zAC rfl rfl, zAH rfl, zAC rfl (by omega), trivial⟩, trivial, by simp [ren]⟩
       rcases Nat.lt_or_eq_of_le (Nat.le_of_lt_succ hj) with h | rfl
       ·exact hno2 j h
       ·assumption
     all_goals (exfalso; omega)
    ·obtain rfl : i = n.kids.length := by omega
     have e2 : n.kids.any (fun m => vDC m k) = false := vOP hno2
     (repeat' (first|refine stn ?_|(with_reducible refine brr ?_ ?_<;>intro h)|(with_reducible refine zAD ?_ ?_<;>intro h)|with_reducible refine zAK ?_ ?_)); all_goals try (conv=>whnf)
     all_goals try (exfalso; omega)
     refine zAA cp rfl ?_;refine sns ?_;refine zAB rfl (congrArg PV.bool ?_);rw [vFQ, e1, e2];rfl
def vFJ (n : NodeL) (i : Nat) : NodeL := .mk (n.lemmas.take i ++ n.lemmas.drop (i + 1)) n.split n.kids n.empty n.proof
theorem vIW : FO 59 Tryz.f59 [.cell 6 32] 24 := mkO Tryz.func59 Tryz.ntmps59 Tryz.results59
theorem vL2 (n : NodeL) (i : Nat) (k : Int) (hi : i < n.lemmas.length) (h1 : 0 ≤ k) (h2 : k < 4611686018427387904) (hn : NodeRg n) : Fn 59 [vA7 n, .int .i64 i, .int .i64 k] (.data (vA7 (vCF (vQN k) (vFJ n i)))) := by
 have hln := hn.ln
 have hd : NodeRg (vFJ n i) := ⟨_, by show (n.lemmas.take i ++ n.lemmas.drop (i + 1)).length < _; simp; omega, fun m hm => by
  rcases List.mem_append.1 (show m ∈ n.lemmas.take i ++ n.lemmas.drop (i + 1) from hm) with h | h
  ·exact hn.lem m (List.mem_of_mem_take h)
  ·exact hn.lem m (List.mem_of_mem_drop h), hn.prf, hn.kn, hn.kid⟩
 have ck := vVJ k (-1) ⟨by omega, h2⟩ ⟨by omega, by omega⟩ _ (vFJ n i) (Nat.lt_succ_self _) hd;rw [vY5 h1] at ck;refine zAO vBC hT vIW (by simp) ?_;refine sts ?_;refine zBP (l' := n.lemmas.take i) (by simp) ?_;refine sts ?_;refine zBP (l' := n.lemmas.drop (i + 1)) (by rw [List.take_of_length_le (by simp)]; congr 1) ?_;refine sts ?_;refine zAA ck (zAG (ks := []) rfl (zAG (zD5 (zAG (zAM (f := vBB) (l := n.lemmas.take i ++ n.lemmas.drop (i + 1)) rfl (by rw [List.map_append]; rfl) (by simp) (fun x => zLW x)) rfl)) rfl)) ?_;refine sts ?_;exact zAB rfl rfl
theorem vNL {v k : Int} (hk : 0 ≤ k) (h1 : -9223372036854775808 ≤ v) (h2 : v < 9223372036854775808) : -9223372036854775808 ≤ vC5 v (k + 1) ∧ vC5 v (k + 1) < 9223372036854775808 := by
 unfold vC5; split <;> omega
theorem zMU {l : List MultL} {k : Int} (hk : 0 ≤ k) (h : vCG l) : vCG (vBM (vQN k) l) := by
 refine ⟨by simpa [vBM] using h.1, fun m hm => ?_⟩;obtain ⟨x, hx, rfl⟩ := List.mem_map.1 hm;obtain ⟨⟨h1, h2⟩, h3⟩ := h.2 x hx;exact ⟨⟨vNL hk h1.1 h1.2, vNL hk h2.1 h2.2⟩, h3⟩
theorem vZZ {k : Int} (hk : 0 ≤ k) : ∀ (sz : Nat) (n : NodeL), SizeOf.sizeOf n < sz → NodeRg n → NodeRg (vCF (vQN k) n) := by
 intro sz
 induction sz with
 | zero => intro n h; omega
 | succ sz ih =>
   intro n hsz hn;rw [zDZ];refine ⟨_, by show (n.lemmas.map _).length < _; simpa using hn.ln, fun m hm => ?_, zMU hk hn.prf, by show (n.kids.map _).length < _; simpa using hn.kn, fun x hx => ?_⟩
   ·obtain ⟨y, hy, rfl⟩ := List.mem_map.1 (show m ∈ n.lemmas.map _ from hm)
    exact zMU hk (hn.lem y hy)
   ·obtain ⟨y, hy, rfl⟩ := List.mem_map.1 (show x ∈ n.kids.map _ from hx)
    exact ih y (by have := NodeL.sizeOf_kid hy; omega) (hn.kid y hy)
theorem vIL {n : NodeL} (hn : NodeRg n) (i : Nat) : NodeRg (vFJ n i) := ⟨_, by have := hn.ln; show (n.lemmas.take i ++ n.lemmas.drop (i + 1)).length < _; simp; omega, fun m hm => by
 rcases List.mem_append.1 (show m ∈ n.lemmas.take i ++ n.lemmas.drop (i + 1) from hm) with h | h
 ·exact hn.lem m (List.mem_of_mem_take h)
 ·exact hn.lem m (List.mem_of_mem_drop h), hn.prf, hn.kn, hn.kid⟩
def uBR (n : NodeL) (i : Nat) : NodeL := .mk (n.lemmas.drop i) n.split n.kids n.empty n.proof
theorem vWZ {n : NodeL} (hn : NodeRg n) (i : Nat) : NodeRg (uBR n i) := ⟨_, by have := hn.ln; show (n.lemmas.drop i).length < _; simp; omega, fun m hm => hn.lem m (List.mem_of_mem_drop hm), hn.prf, hn.kn, hn.kid⟩
theorem vHG (b : Int) (i : Nat) (c : NodeL) : vEE b (i + 1) c = vEE b i (if vDC (uBR c (i + 1)) (b + i) = true then c else vCF (vQN (b + i)) (vFJ c i)) := by
 cases c; rfl
theorem vMS {b : Int} (hb : 0 ≤ b) : ∀ (i : Nat) (c : NodeL), NodeRg c → NodeRg (vEE b i c)
 | 0, c, h => by unfold vEE; exact h
 | i + 1, c, h => by
   rw [vHG];refine vMS hb i _ ?_
   split
   ·exact h
   ·exact vZZ (by omega) _ _ (Nat.lt_succ_self _) (vIL h i)
theorem vIT (b : Int) : ∀ ks : List NodeL, vK5 ks b = ks.map (fun k => vDW k b)
 | [] => rfl
 | k :: ks => by simp only [vK5, List.map_cons, vIT b ks]
theorem vM3 (n : NodeL) (b : Int) : vDW n b = vEE b n.lemmas.length (.mk n.lemmas n.split (n.kids.map (fun k => vDW k (b + n.lemmas.length))) n.empty n.proof) := by
 cases n
 rw [← vIT];rfl
theorem uBP : ∀ (sz : Nat) (n : NodeL) (b : Int), SizeOf.sizeOf n < sz → 0 ≤ b → NodeRg n → NodeRg (vDW n b) := by
 intro sz
 induction sz with
 | zero => intro n b h; omega
 | succ sz ih =>
   intro n b hsz hb hn;rw [vM3];refine vMS hb _ _ ⟨_, hn.ln, hn.lem, hn.prf, by show (n.kids.map _).length < _; simpa using hn.kn, fun x hx => ?_⟩;obtain ⟨y, hy, rfl⟩ := List.mem_map.1 (show x ∈ n.kids.map _ from hx);exact ih y _ (by have := NodeL.sizeOf_kid hy; omega) (by omega) (hn.kid y hy)
theorem vYR {h : Hp} {m q a sz2 : Nat} {g2 : Bool} {n : NodeL} {L : List LemL} {K : List NodeL} {P : List MultL} (h2 : h q = some ⟨K.map vBD, sz2, g2⟩) (ha : a = K.length) :
 frz h (m + 4) (vHX n (.imm (L.map vBB)) (.own q 0 a) (.imm (P.map vBA))) = some (vA7 (.mk L n.split K n.empty P), [q]) :=
 zD5 (zAG (ks := []) rfl (zAG (ks := []) rfl (zAG (ks := []) rfl (zAG (ks := []) rfl (zAG (ks := []) rfl (zAG (ks := []) rfl (zAG (zAM h2 rfl ha (fun x => zG8 x)) (zAG (ks := []) rfl (zAG (ks := []) rfl rfl)))))))))
theorem vWW {ρ : Nat → Nat} {k : Nat} {es : List PV} : rn ρ k 2 (.imm es) (.imm es) := by rw [vR1]
theorem vS8 : FO 37 Tryz.f37 [.cell 4 32] 62 := mkO Tryz.func37 Tryz.ntmps37 Tryz.results37
theorem vZC : ∀ (sz : Nat) (n : NodeL) (b : Int), SizeOf.sizeOf n < sz → NodeRg n → 0 ≤ b → b + n.wt ≤ 2305843009213693952 → Fn 37 [vA7 n, .int .i64 b] (.data (vA7 (vDW n b))) := by
 intro sz
 induction sz with
 | zero => intro n b h; omega
 | succ sz ih =>
   intro n b hsz hn hb hbw;have hwt := n.wt_eq;have hll := zKQ n.lemmas;have hln := hn.ln;have hkn := hn.kn;rw [vM3];refine zAO vBC hT vS8 (by simp) ?_;refine sns ?_
   refine zB8 hT [(.cl 3 0 6, 9, true)] (fun (i : Nat) => [(1, .int .i64 b), (2, .cptr (vA7 n) 0), (4, .ptr 0 0 0), (5, .ptr 1 0 0), (6, .int .i64 i)])
    (fun i => [(0, ⟨[.agg [.nilsl, .int .i64 0, .int .i64 0, .bool false, .nilsl, .nilsl, .nilsl, .bool false, .nilsl]], 9, true⟩), (1, ⟨[vHX n (.imm (n.lemmas.map vBB)) (.own 2 0 i) (.imm (n.proof.map vBA))], 9, true⟩), (2, ⟨((n.kids.take i).map (fun k => vDW k (b + n.lemmas.length))).map vBD, 9, true⟩)]) [] 3
    (fun i => i ≤ n.kids.length) (fun i => n.kids.length - i) 0 (Nat.zero_le _) (by decide) (by simp) ⟨_, _, rfl, rfl, rfl, trivial⟩ ?_ ?_
   ·exact ⟨[1, 3, _], [0], [(2, .cptr (vA7 n) 0)], [], ⟨⟨⟨_, rfl⟩, trivial⟩, ⟨⟨6, [0], zC6 rfl, rfl⟩, trivial⟩, trivial⟩, ⟨zAC rfl rfl, zAH rfl, (apy rfl), (apy rfl), zAC rfl rfl, trivial⟩,
     ⟨bbx, zAI (by decide) rfl (zBW vWW (zGC (by decide) rfl rfl) vWW) rfl rfl, zAF (by decide) rfl rfl (zGL _) rfl, trivial⟩, by simp [ren]⟩
   intro i hi;by_cases hi' : i < n.kids.length
   ·have hkm : n.kids[i]! ∈ n.kids := zA1 hi'
    have hks1 := vG6 hi';have hkl : ((n.kids.take i).map (fun k => vDW k (b + n.lemmas.length))).length = i := by simp; omega
    have ck : Fn 37 [vA7 n.kids[i]!, .int .i64 (b + ((n.lemmas.map vBB).length : Nat))] (.data (vA7 (vDW n.kids[i]! (b + n.lemmas.length)))) := by
     rw [List.length_map];exact ih n.kids[i]! _ (by have := NodeL.sizeOf_kid hkm; omega) (hn.kid _ hkm) (by omega) (by omega)
    (repeat' (first|refine stn ?_|(with_reducible refine brr ?_ ?_<;>intro h)|(with_reducible refine zAD ?_ ?_<;>intro h)|with_reducible refine zAK ?_ ?_)); all_goals try (conv=>whnf)
    ·refine zAA ck rfl ?_
     refine sns ?_
     refine ⟨i + 1, ⟨by omega, by omega⟩, [0, 1, _], [], [], [], ttt, ⟨zAC rfl rfl, zAH rfl, (apy rfl), (apy rfl), zAC rfl (by omega), trivial⟩,
      ⟨bbx, zAI (by decide) rfl (zBW vWW (zGC (by decide) rfl rfl) vWW) rfl rfl, zAF (by decide) rfl ?_ (zGL _) rfl, trivial⟩, by simp [ren]⟩
     rw [← zIV hi', List.map_append];show _ ++ [vA7 _] = _ ++ [vBD _]
     rw [zBJ]
    all_goals (exfalso; omega)
   ·obtain rfl : i = n.kids.length := by omega
    rw [List.take_length];have hkl : (n.kids.map (fun k => vDW k (b + n.lemmas.length))).length = n.kids.length := by simp
    have hKR : ∀ x ∈ n.kids.map (fun k => vDW k (b + n.lemmas.length)), NodeRg x := fun x hx => by
     obtain ⟨y, hy, rfl⟩ := List.mem_map.1 hx;exact uBP _ y _ (Nat.lt_succ_self _) (by omega) (hn.kid y hy)
    obtain ⟨KD, hKD⟩ : ∃ KD, n.kids.map (fun k => vDW k (b + n.lemmas.length)) = KD := ⟨_, rfl⟩;rw [hKD] at hkl hKR ⊢;refine sus ?_;refine zAS ?_; (repeat' (first|refine stu ?_|with_reducible(refine brr ?_ ?_<;>intro h)));all_goals try(conv=>whnf)
    ·exfalso; omega
    refine vB0 [] [(1, .int .i64 b), (2, .cptr (vA7 n) 0), (4, .ptr 0 0 0), (5, .ptr 1 0 0)] [(0, ⟨[.agg [.nilsl, .int .i64 0, .int .i64 0, .bool false, .nilsl, .nilsl, .nilsl, .bool false, .nilsl]], 9, true⟩), (1, ⟨[vA7 (.mk n.lemmas n.split KD n.empty n.proof)], 9, true⟩)] [] 2 (by decide) (by simp) trivial ?_ ?_
    ·exact ⟨[0, 1], [2], [], [(1, [vA7 (.mk n.lemmas n.split KD n.empty n.proof)])], ⟨⟨⟨_, rfl⟩, trivial⟩, trivial, ⟨⟨_, 6, [2], rfl, zAG (ks := [2]) (ls := []) (vYR rfl hkl.symm) rfl, rfl⟩, trivial⟩⟩, ⟨zAC rfl rfl, zAH rfl, apx, apx, trivial⟩,
      ⟨bbx, bbx, trivial⟩, by simp [ren]⟩
    obtain ⟨c0, hc0⟩ : ∃ c0, (NodeL.mk n.lemmas n.split KD n.empty n.proof) = c0 := ⟨_, rfl⟩;have hl0 : c0.lemmas.length = n.lemmas.length := by rw [← hc0]; rfl
    have hr0 : NodeRg c0 := by rw [← hc0]; exact ⟨_, hn.ln, hn.lem, hn.prf, by show KD.length < _; omega, hKR⟩
    rw [hc0, ← hl0];refine sns ?_
    refine zA0 hT (fun ((j, c) : Nat × NodeL) => [(1, .int .i64 b), (4, .ptr 0 0 0), (5, .ptr 1 0 0), (7, .int .i64 ((j : Int) - 1))]) (fun ((j, c) : Nat × NodeL) => [(0, ⟨[.agg [.nilsl, .int .i64 0, .int .i64 0, .bool false, .nilsl, .nilsl, .nilsl, .bool false, .nilsl]], 9, true⟩), (1, ⟨[vA7 c], 9, true⟩)]) [] 2
     (fun ((j, c) : Nat × NodeL) => j ≤ c.lemmas.length ∧ NodeRg c ∧ vEE b j c = vEE b c0.lemmas.length c0 ∧ j ≤ n.lemmas.length) (fun ((j, c) : Nat × NodeL) => j) (c0.lemmas.length, c0) ⟨Nat.le_refl _, hr0, rfl, by omega⟩ (by decide) (by simp) ?_ ?_
    ·exact ⟨[0, 1], [], [], [], ttt, ⟨zAC rfl rfl, apx, apx, zAC rfl (by simp), trivial⟩, ⟨bbx, bbx, trivial⟩, by simp [ren]⟩
    rintro ⟨j, c⟩ ⟨hj, hc, hd, hjn⟩
    dsimp only at hj hc hd hjn ⊢;have hcl := hc.ln;by_cases h0 : j = 0
    ·subst h0
     rw [← hd];refine sns ?_
     all_goals try (exfalso; omega)
     exact zAB rfl (by unfold vEE; rfl)
    ·obtain ⟨i, rfl⟩ : ∃ i, j = i + 1 := ⟨j - 1, by omega⟩
     have cu := vY7 (b + i) (by omega) (by omega) _ (uBR c (i + 1)) (Nat.lt_succ_self _) (vWZ hc _);have cw := vL2 c i (b + i) (by omega) (by omega) (by omega) hc;have hj1 : ((i + 1 : Nat) : Int) - 1 = i := by omega
     rw [hj1];refine sns ?_
     ·refine zBP (l' := c.lemmas.drop (i + 1)) (by rw [List.take_of_length_le (by simp)]; congr 1) ?_
      refine sns ?_;refine zAA cu rfl ?_
      (repeat' (first|refine stn ?_|(with_reducible refine brr ?_ ?_<;>intro h)|(with_reducible refine zAD ?_ ?_<;>intro h)|with_reducible refine zAK ?_ ?_)); all_goals try (conv=>whnf)
      ·refine ⟨(i, c), ⟨⟨by show i ≤ c.lemmas.length; omega, hc, ?_, by show i ≤ n.lemmas.length; omega⟩, Nat.lt_succ_self i⟩, [0, 1], [], [], [], ttt, ⟨zAC rfl rfl, apx, apx, zAC rfl rfl, trivial⟩, ⟨bbx, bbx, trivial⟩, by simp [ren]⟩
       rw [← hd, vHG, if_pos (by simp_all)]
      ·refine zAA cw rfl ?_
       refine sns ?_;refine ⟨(i, vCF (vQN (b + i)) (vFJ c i)), ⟨⟨?_, vZZ (by omega) _ _ (Nat.lt_succ_self _) (vIL hc i), ?_, by show i ≤ n.lemmas.length; omega⟩, Nat.lt_succ_self i⟩, [0, 1], [], [], [], ttt, ⟨zAC rfl rfl, apx, apx, zAC rfl rfl, trivial⟩, ⟨bbx, bbx, trivial⟩, by simp [ren]⟩
       ·rw [zDZ]
        show i ≤ ((c.lemmas.take i ++ c.lemmas.drop (i + 1)).map _).length
        simp
        omega
       ·rw [← hd, vHG, if_neg (by simp_all)]
     all_goals (exfalso; omega)
theorem vJE (n : NodeL) : vB9 n = if n.valid = true then vDW n 0 else zeroN := by
 unfold vB9;rw [vM1 n 0 (by omega)]
theorem zMJ : FO 14 Tryz.f14 [.cell 2 32] 9 := mkO Tryz.func14 Tryz.ntmps14 Tryz.results14
theorem vL3 (n : NodeL) (hs : n.Sm) (hn : NodeRg n) (hw : n.wt ≤ 536870912) : Fn 14 [vA7 n] (.data (vA7 (vB9 n))) := by
 have cv := vP8 n hs;have cp := vZC _ n 0 (Nat.lt_succ_self _) hn (by omega) (by omega);rw [vJE];refine zAO vBC hT zMJ (by simp) ?_;refine sns ?_;refine zAA cv rfl ?_
 (repeat' (first|refine stn ?_|(with_reducible refine brr ?_ ?_<;>intro h)|(with_reducible refine zAD ?_ ?_<;>intro h)|with_reducible refine zAK ?_ ?_)); all_goals try (conv=>whnf)
 ·refine zAA cp rfl ?_
  refine sns ?_;rw [if_pos (by simp_all)];exact zAB rfl rfl
 ·rw [if_neg (by simp_all)]
  exact zAB rfl rfl
def isP (p : Int) (r : RowL) : Bool := decide (r.kind = 4 ∧ r.index = p)
def vDH (l : List MultL) (p : Int) : Bool := l.any fun m => isP p m.row
mutual
def onN : NodeL → Int → Bool
 | .mk l _ ks _ pr, p => l.any (fun m => vDH m.proof p) || onK ks p || vDH pr p
def onK : List NodeL → Int → Bool
 | [], _ => false
 | k :: ks, p => onN k p || onK ks p
end
theorem vST (p : Int) : ∀ ks : List NodeL, onK ks p = ks.any (fun n => onN n p)
 | [] => rfl
 | n :: ks => by simp only [onK, List.any_cons, vST p ks]
theorem vZ4 (n : NodeL) (p : Int) : onN n p = (n.lemmas.any (fun m => vDH m.proof p) || n.kids.any (fun n => onN n p) || vDH n.proof p) := by
 cases n
 simp only [onN, vST];rfl
abbrev okB (o : Bool) : Blk := ⟨[.bool o], 1, false⟩
abbrev uJX (p : Int) : PV := .func (.func 139) [] [.ptr 0 0 0, .cptr (.int .i64 p) 0]
theorem zIO : FO 139 Tryz.f139 [.cell 4 70] 24 := mkO Tryz.func139 Tryz.ntmps139 Tryz.results139
theorem vY9 (r : RowL) (p : Int) (o : Bool) (hp : vFG p) (h0 : 0 ≤ p) (hi : vPZ r) : Fn 139 [vBJ r, .ptr 0 0 0, .cptr (.int .i64 p) 0] (.wrt (okB o) (vBJ (vCE (-1) p r)) (okB (o && !isP p r))) := by
 obtain ⟨kind, index, lo, hi'⟩ := r;obtain ⟨hi1, hi2⟩ := hi;dsimp only at hi1 hi2;have hp2 := hp.2;have e1 : ∀ i : Int, (if 0 ≤ p ∧ kind = 4 then vC5 index p else index) = i → vCE (-1) p ⟨kind, index, lo, hi'⟩ = ⟨kind, i, lo, hi'⟩ := fun i h => by unfold vCE; rw [h]; rfl
 have e2 : isP p ⟨kind, index, lo, hi'⟩ = decide (kind = 4 ∧ index = p) := rfl;by_cases hk : kind = 4
 ·subst hk
  simp only [h0, true_and, and_self, if_true] at e1;unfold vC5 at e1;by_cases hlt : p < index
  ·rw [e1 (index - 1) (by rw [if_pos hlt]), show isP p ⟨4, index, lo, hi'⟩ = false by rw [e2]; exact decide_eq_false (by omega)]
   cases o
   all_goals
    refine zHB vBC hT zIO (by simp [vBJ]) ?_
    (repeat' (first|refine stp ?_|with_reducible(refine brr ?_ ?_<;>intro h)));all_goals try(conv=>whnf)
    all_goals try (exfalso; omega)
    all_goals try (exfalso; simp_all; done)
    all_goals exact zJQ rfl rfl rfl (by first | rfl | (simp_all; done) | (simp_all; omega)) rfl (fun e he => by simp at he; subst he; rfl)
  ·rw [e1 index (by rw [if_neg hlt])]
   by_cases heq : index = p
   ·rw [show isP p ⟨4, index, lo, hi'⟩ = true by rw [e2]; exact decide_eq_true ⟨rfl, heq⟩]
    cases o
    all_goals
     refine zHB vBC hT zIO (by simp [vBJ]) ?_
     (repeat' (first|refine stp ?_|with_reducible(refine brr ?_ ?_<;>intro h)));all_goals try(conv=>whnf)
     all_goals try (exfalso; omega)
     all_goals try (exfalso; simp_all; done)
     all_goals exact zJQ rfl rfl rfl (by first | rfl | (simp_all; done) | (simp_all; omega)) rfl (fun e he => by simp at he; subst he; rfl)
   ·rw [show isP p ⟨4, index, lo, hi'⟩ = false by rw [e2]; exact decide_eq_false (fun h => heq h.2)]
    cases o
    all_goals
     refine zHB vBC hT zIO (by simp [vBJ]) ?_
     (repeat' (first|refine stp ?_|with_reducible(refine brr ?_ ?_<;>intro h)));all_goals try(conv=>whnf)
     all_goals try (exfalso; omega)
     all_goals try (exfalso; simp_all; done)
     all_goals exact zJQ rfl rfl rfl (by first | rfl | (simp_all; done) | (simp_all; omega)) rfl (fun e he => by simp at he; subst he; rfl)
 ·rw [e2, e1 index (by rw [if_neg (fun h : 0 ≤ p ∧ kind = 4 => hk h.2)]), decide_eq_false (fun h => hk h.1)]
  refine zHB vBC hT zIO (by simp [vBJ]) ?_
  (repeat' (first|refine stp ?_|with_reducible(refine brr ?_ ?_<;>intro h)));all_goals try(conv=>whnf)
  all_goals try (exfalso; omega)
  exact zJQ rfl rfl rfl (by simp) rfl (fun e he => by simp at he; subst he; rfl)
theorem zMF {ρ : Nat → Nat} {k : Nat} {t : Tm} {j : Nat} {fn : Go.Fn} {e : PV} {o : Nat} {r r' : Nat} (hr : r < k) (h : t j = .func fn [] [.ptr r' 0 0, .cptr e o]) (e2 : r' = ρ r) : at' ρ k t j (.func fn [] [.ptr r 0 0, .cptr e o]) := by subst e2; unfold at'; rw [h]; exact ⟨rfl, trivial, ⟨hr, rfl⟩, rfl, trivial⟩
theorem vPB {l : List MultL} {i : Nat} (h : i < l.length) (p : Int) : vDH (l.take (i + 1)) p = (vDH (l.take i) p || isP p l[i]!.row) := by
 rw [List.take_succ_eq_append_getElem h, getElem!_pos l i h];unfold vDH;rw [List.any_append]
 simp
theorem vOA (l : List MultL) (p : Int) (o : Bool) (hp : vFG p) (h0 : 0 ≤ p) (hl : vCG l) : Fn 57 [.imm (l.map vBA), uJX p] (.wrt (okB o) (.imm ((vBM (vCE (-1) p) l).map vBA)) (okB (o && !vDH l p))) := by
 have hln := hl.1;refine zHB vBC hT vM9 (by simp) ?_;refine sts ?_
 refine zB8 hT [(.sl 5, 7, true)] (fun (i : Nat) => [(1, uJX p), (5, .own 1 0 i), (8, .imm (l.map vBA)), (9, .int .i64 l.length), (10, .int .i64 i)]) (fun i => [(0, okB (o && !vDH (l.take i) p)), (1, ⟨(vBM (vCE (-1) p) (l.take i)).map vBA, 7, true⟩)]) [] 2
  (fun i => i ≤ l.length) (fun i => l.length - i) 0 (Nat.zero_le _) (by decide) (by simp) ⟨rfl, trivial⟩ ?_ ?_
 ·exact ⟨[_], [], [], [], ttt, ⟨zMF (by decide) rfl rfl, zBA (by decide) rfl rfl, zAE rfl rfl, zAC rfl (by simp), zAC rfl rfl, trivial⟩, ⟨zE4 (by decide) rfl (by simp [vDH]) rfl rfl rfl, zAF (by decide) rfl rfl (zBZ _) rfl, trivial⟩, by simp [ren]⟩
 intro i hi;have hlen : (vBM (vCE (-1) p) (l.take i)).length = i := by simp [vBM]; omega
 by_cases h0' : i < l.length
 ·have c1 := vY9 l[i]!.row p (o && !vDH (l.take i) p) hp h0 (hl.2 _ (zA1 h0')).2
  (repeat' (first|refine stp ?_|with_reducible(refine brr ?_ ?_<;>intro h)));all_goals try(conv=>whnf)
  ·refine zJW (r := 0) (ks := []) c1 rfl rfl rfl rfl (fun e he => by simp at he; subst he; rfl) (fun i => by simp [vCK]) ?_
   refine sts ?_
   exact ⟨i + 1, ⟨by omega, by omega⟩, [_], [], [], [], ttt, ⟨zMF (by decide) rfl rfl, zBA (by decide) rfl rfl, zAE rfl rfl, zAC rfl rfl, zAC rfl (by omega), trivial⟩,
    ⟨zE4 (by decide) rfl (by rw [vPB h0']; simp [Bool.not_or, Bool.and_assoc]) rfl rfl rfl, zAF (by decide) rfl (zJH h0') (zBZ _) rfl, trivial⟩, by simp [ren]⟩
  all_goals (exfalso; omega)
 ·obtain rfl : i = l.length := by omega
  rw [List.take_length];refine sus ?_;refine zAS ?_; (repeat' (first|refine stu ?_|with_reducible(refine brr ?_ ?_<;>intro h)));all_goals try(conv=>whnf)
  ·exfalso; omega
  refine vB0 [] [(5, .imm ((vBM (vCE (-1) p) l).map vBA))] [(0, okB (o && !vDH l p))] [] 1 (by decide) (by simp) trivial ?_ ?_
  ·exact ⟨[], [1], [(5, .imm ((vBM (vCE (-1) p) l).map vBA))], [], ⟨⟨⟨_, rfl⟩, trivial⟩, ⟨⟨6, [1], zAM rfl rfl (by simp [vBM]) (fun x => zIX x), rfl⟩, trivial⟩, trivial⟩, ⟨zAE rfl rfl, trivial⟩, ⟨bbx, trivial⟩, by simp [ren]⟩
  refine sts ?_;exact zJQ rfl rfl rfl rfl rfl (fun e he => by simp at he; subst he; rfl)
open Go.Proofs Go.PI
theorem vYT {h : Hp} {n r sz : Nat} {ag : Bool} {v : Int} (hr : h r = some ⟨[.int .i64 v], sz, ag⟩) : frz h (n + 4) (.ptr r 0 0) = some (.cptr (.int .i64 v) 0, [r]) := by
 show frz h (n + 3 + 1) (.ptr r 0 0) = _
 unfold frz;simp only [hr, List.getElem?_cons_zero];rfl
theorem vYP {h : Hp} {m r q a sz sz2 : Nat} {g1 g2 : Bool} {n : NodeL} {L : List LemL} {K : List NodeL} {P : List MultL} (h1 : h r = some ⟨L.map vBB, sz, g1⟩) (h2 : h q = some ⟨K.map vBD, sz2, g2⟩) (ha : a = K.length) :
 frz h (m + 4) (vHX n (.own r 0 L.length) (.own q 0 a) (.imm (P.map vBA))) = some (vA7 (.mk L n.split K n.empty P), [r, q]) :=
 zD5 (zAG (zAM h1 rfl rfl (fun x => zLW x)) (zAG (ks := []) rfl (zAG (ks := []) rfl (zAG (ks := []) rfl (zAG (ks := []) rfl (zAG (ks := []) rfl (zAG (zAM h2 rfl ha (fun x => zG8 x)) (zAG (ks := []) rfl (zAG (ks := []) rfl rfl)))))))))
abbrev uIS (p : Int) (r : Nat) : PV := .func (.func 139) [] [.ptr r 0 0, .cptr (.int .i64 p) 0]
theorem vXK : FO 104 Tryz.f104 [.cell 4 32, .tmp 5] 70 := mkO Tryz.func104 Tryz.ntmps104 Tryz.results104
theorem uD3 (p : Int) (hp : vFG p) (h0 : 0 ≤ p) : ∀ (sz : Nat) (n : NodeL), SizeOf.sizeOf n < sz → NodeRg n → Fn 104 [vA7 n, .int .i64 p] (.data (.tup [vA7 (vCF (vCE (-1) p) n), .bool (!onN n p)])) := by
 intro sz
 induction sz with
 | zero => intro n h; omega
 | succ sz ih =>
   intro n hsz hn;have hln := hn.ln;have hkn := hn.kn;rw [zDZ, vZ4];refine zAO vBC hT vXK (by simp) ?_;refine sus ?_;refine vB0 [] [(2, .cptr (vA7 n) 0), (3, .cptr (.int .i64 p) 0), (4, .ptr 0 0 0)] [(0, ⟨[.agg [.nilsl, .int .i64 0, .int .i64 0, .bool false, .nilsl, .nilsl, .nilsl, .bool false, .nilsl]], 9, true⟩)] [] 1 (by decide) (by simp) trivial ?_ ?_
   ·exact ⟨[2], [0, 1], [(2, .cptr (vA7 n) 0), (3, .cptr (.int .i64 p) 0)], [], ⟨⟨⟨_, rfl⟩, ⟨_, rfl⟩, trivial⟩, ⟨⟨6, [0], zC6 rfl, rfl⟩, ⟨6, [1], vYT rfl, rfl⟩, trivial⟩, trivial⟩, ⟨zAH rfl, zAH rfl, apx, trivial⟩,
     ⟨bbx, trivial⟩, by simp [ren]⟩
   refine sus ?_
   (refine zAS ?_; refine sus ?_)
   (refine zAS ?_; refine sus ?_)
   refine vJV (r := 1) (vOA n.proof p true hp h0 hn.prf) rfl rfl rfl rfl (fun e he => by simp at he; subst he; rfl) (by decide) ?_;refine sus ?_
   (refine zAS ?_; refine sus ?_)
   obtain ⟨PF, hPF⟩ : ∃ PF, vBM (vCE (-1) p) n.proof = PF := ⟨_, rfl⟩;obtain ⟨po, hpo⟩ : ∃ po, vDH n.proof p = po := ⟨_, rfl⟩;rw [hPF, hpo]
   refine vB0 [] [(2, .cptr (vA7 n) 0), (3, .cptr (.int .i64 p) 0), (4, .ptr 0 0 0), (6, .ptr 1 0 0), (7, uIS p 1), (8, .ptr 2 0 0), (26, .imm (n.lemmas.map vBB)), (27, .int .i64 n.lemmas.length), (28, .int .i64 0)]
    [(0, ⟨[.agg [.nilsl, .int .i64 0, .int .i64 0, .bool false, .nilsl, .nilsl, .nilsl, .bool false, .nilsl]], 9, true⟩), (1, okB (!po)), (2, ⟨[vHX n .nilsl .nilsl (.imm (PF.map vBA))], 9, true⟩)] [] 3 (by decide) (by simp) trivial ?_ ?_
   ·exact ⟨[0, 1, 14], [], [], [], ttt, ⟨zAH rfl, zAH rfl, apx, apx, zMF (by decide) rfl rfl, apx, zAE rfl rfl, zAC rfl (by simp), zAC rfl rfl, trivial⟩,
     ⟨bbx, bbx, zAI (by decide) rfl (zBW vKT vKT vWW) rfl rfl, trivial⟩, by simp [ren]⟩
   refine sts ?_
   refine zB8 hT [(.cl 2 0 0, 6, true)] (fun (i : Nat) => [(2, .cptr (vA7 n) 0), (3, .cptr (.int .i64 p) 0), (4, .ptr 0 0 0), (6, .ptr 1 0 0), (7, uIS p 1), (8, .ptr 2 0 0), (26, .imm (n.lemmas.map vBB)), (27, .int .i64 n.lemmas.length), (28, .int .i64 i)])
    (fun i => [(0, ⟨[.agg [.nilsl, .int .i64 0, .int .i64 0, .bool false, .nilsl, .nilsl, .nilsl, .bool false, .nilsl]], 9, true⟩), (1, okB (!po && !(n.lemmas.take i).any fun m => vDH m.proof p)), (2, ⟨[vHX n (.own 3 0 i) .nilsl (.imm (PF.map vBA))], 9, true⟩), (3, ⟨((n.lemmas.take i).map (vDB (vCE (-1) p))).map vBB, 6, true⟩)]) [] 4
    (fun i => i ≤ n.lemmas.length) (fun i => n.lemmas.length - i) 0 (Nat.zero_le _) (by decide) (by simp) ⟨_, _, rfl, rfl, rfl, trivial⟩ ?_ ?_
   ·exact ⟨[0, 1, 2, _], [], [], [], ttt, ⟨zAH rfl, zAH rfl, (apy rfl), (apy rfl), zMF (by decide) rfl rfl, (apy rfl), zAE rfl rfl, zAC rfl rfl, zAC rfl rfl, trivial⟩,
     ⟨bbx, zE4 (by decide) rfl (by simp) rfl rfl rfl, zAI (by decide) rfl (zBW (zGC (by decide) rfl rfl) vKT vWW) rfl rfl, zAF (by decide) rfl rfl (zEH _) rfl, trivial⟩, by simp [ren]⟩
   intro i hi;by_cases hi' : i < n.lemmas.length
   ·have hlm : n.lemmas[i]! ∈ n.lemmas := zA1 hi'
    have hlen : ((n.lemmas.take i).map (vDB (vCE (-1) p))).length = i := by simp; omega
    have eany : (n.lemmas.take (i + 1)).any (fun m => vDH m.proof p) = ((n.lemmas.take i).any (fun m => vDH m.proof p) || vDH n.lemmas[i]!.proof p) := by
     rw [List.take_succ_eq_append_getElem hi', getElem!_pos n.lemmas i hi', List.any_append]; simp
    have cr := vOA n.lemmas[i]!.proof p (!po && !(n.lemmas.take i).any fun m => vDH m.proof p) hp h0 (hn.lem _ hlm)
    (repeat' (first|refine stp ?_|with_reducible(refine brr ?_ ?_<;>intro h)));all_goals try(conv=>whnf)
    ·refine vJV (r := 1) cr rfl rfl rfl rfl (fun e he => by simp at he; subst he; rfl) (by decide) ?_
     refine sts ?_
     refine ⟨i + 1, ⟨by omega, by omega⟩, [0, 1, 2, _], [], [], [], ttt, ⟨zAH rfl, zAH rfl, (apy rfl), (apy rfl), zMF (by decide) rfl rfl, (apy rfl), zAE rfl rfl, zAC rfl rfl, zAC rfl (by omega), trivial⟩,
      ⟨bbx, zE4 (by decide) rfl (by rw [eany, Bool.not_or, Bool.and_assoc]) rfl rfl rfl, zAI (by decide) rfl (zBW (zGC (by decide) rfl rfl) vKT vWW) rfl rfl, zAF (by decide) rfl ?_ (zEH _) rfl, trivial⟩, by simp [ren]⟩
     rw [← zIV hi', List.map_append];rfl
    all_goals (exfalso; omega)
   ·obtain rfl : i = n.lemmas.length := by omega
    obtain ⟨LM, hLM⟩ : ∃ LM, n.lemmas.map (vDB (vCE (-1) p)) = LM := ⟨_, rfl⟩;have hll : LM.length = n.lemmas.length := by rw [← hLM]; simp
    obtain ⟨pl, hpl⟩ : ∃ pl, (n.lemmas.any fun m => vDH m.proof p) = pl := ⟨_, rfl⟩;rw [List.take_length, hLM, hpl, ← hll]
    (repeat' (first|refine stp ?_|with_reducible(refine brr ?_ ?_<;>intro h)));all_goals try(conv=>whnf)
    all_goals try (exfalso; omega)
    refine zB8 hT [(.cl 2 0 6, 9, true)] (fun (i : Nat) => [(2, .cptr (vA7 n) 0), (3, .cptr (.int .i64 p) 0), (4, .ptr 0 0 0), (6, .ptr 1 0 0), (7, uIS p 1), (8, .ptr 2 0 0), (45, .imm (n.kids.map vBD)), (46, .int .i64 n.kids.length), (47, .int .i64 i)])
     (fun i => [(0, ⟨[.agg [.nilsl, .int .i64 0, .int .i64 0, .bool false, .nilsl, .nilsl, .nilsl, .bool false, .nilsl]], 9, true⟩), (1, okB (!po && !pl && !(n.kids.take i).any fun m => onN m p)), (2, ⟨[vHX n (.own 3 0 LM.length) (.own 4 0 i) (.imm (PF.map vBA))], 9, true⟩), (3, ⟨LM.map vBB, 6, true⟩), (4, ⟨((n.kids.take i).map (vCF (vCE (-1) p))).map vBD, 9, true⟩)]) [] 5
     (fun i => i ≤ n.kids.length) (fun i => n.kids.length - i) 0 (Nat.zero_le _) (by decide) (by simp) ⟨_, _, rfl, rfl, rfl, trivial⟩ ?_ ?_
    ·exact ⟨[0, 1, 2, 3, _], [], [], [], ttt, ⟨zAH rfl, zAH rfl, (apy rfl), (apy rfl), zMF (by decide) rfl rfl, (apy rfl), zAE rfl rfl, zAC rfl (by simp), zAC rfl rfl, trivial⟩,
      ⟨bbx, zE4 (by decide) rfl (by simp) rfl rfl rfl, zAI (by decide) rfl (zBW (zGC (by decide) rfl rfl) (zGC (by decide) rfl rfl) vWW) rfl rfl, zAF (by decide) rfl rfl (zEH _) rfl, zAF (by decide) rfl rfl (zGL _) rfl, trivial⟩, by simp [ren]⟩
    intro i hi;by_cases hi' : i < n.kids.length
    ·have hkm : n.kids[i]! ∈ n.kids := zA1 hi'
     have hlen : ((n.kids.take i).map (vCF (vCE (-1) p))).length = i := by simp; omega
     have eany : (n.kids.take (i + 1)).any (fun m => onN m p) = ((n.kids.take i).any (fun m => onN m p) || onN n.kids[i]! p) := by
      rw [List.take_succ_eq_append_getElem hi', getElem!_pos n.kids i hi', List.any_append]; simp
     have ck := ih n.kids[i]! (by have := NodeL.sizeOf_kid hkm; omega) (hn.kid _ hkm)
     (repeat' (first|refine stn ?_|(with_reducible refine brr ?_ ?_<;>intro h)|(with_reducible refine zAD ?_ ?_<;>intro h)|with_reducible refine zAK ?_ ?_)); all_goals try (conv=>whnf)
     ·refine zAA ck rfl ?_
      (repeat' (first|refine stn ?_|(with_reducible refine brr ?_ ?_<;>intro h)|(with_reducible refine zAD ?_ ?_<;>intro h)|with_reducible refine zAK ?_ ?_)); all_goals try (conv=>whnf)
      all_goals
       refine ⟨i + 1, ⟨by omega, by omega⟩, [0, 1, 2, 3, _], [], [], [], ttt, ⟨zAH rfl, zAH rfl, (apy rfl), (apy rfl), zMF (by decide) rfl rfl, (apy rfl), zAE rfl rfl, zAC rfl rfl, zAC rfl (by omega), trivial⟩,
        ⟨bbx, zE4 (by decide) rfl (by rw [eany]; revert h; cases po <;> cases pl <;> cases ((n.kids.take i).any fun m => onN m p) <;> simp) rfl rfl rfl, zAI (by decide) rfl (zBW (zGC (by decide) rfl rfl) (zGC (by decide) rfl rfl) vWW) rfl rfl, zAF (by decide) rfl rfl (zEH _) rfl, zAF (by decide) rfl ?_ (zGL _) rfl, trivial⟩, by simp [ren]⟩
       rw [← zIV hi', List.map_append];show _ ++ [vA7 _] = _ ++ [vBD _]
       rw [zBJ]
     all_goals (exfalso; omega)
    ·obtain rfl : i = n.kids.length := by omega
     obtain ⟨KD, hKD⟩ : ∃ KD, n.kids.map (vCF (vCE (-1) p)) = KD := ⟨_, rfl⟩;have hkl : KD.length = n.kids.length := by rw [← hKD]; simp
     obtain ⟨pk, hpk⟩ : ∃ pk, (n.kids.any fun m => onN m p) = pk := ⟨_, rfl⟩;rw [List.take_length, hKD, hpk];refine sus ?_;refine zAS ?_; (repeat' (first|refine stu ?_|with_reducible(refine brr ?_ ?_<;>intro h)));all_goals try(conv=>whnf)
     ·exfalso; omega
     refine vB0 [] [(4, .ptr 0 0 0), (6, .ptr 1 0 0), (8, .ptr 2 0 0)] [(0, ⟨[.agg [.nilsl, .int .i64 0, .int .i64 0, .bool false, .nilsl, .nilsl, .nilsl, .bool false, .nilsl]], 9, true⟩), (1, okB (!po && !pl && !pk)), (2, ⟨[vA7 (.mk LM n.split KD n.empty PF)], 9, true⟩)] [] 3 (by decide) (by simp) trivial ?_ ?_
     ·exact ⟨[0, 1, 2], [3, 4], [], [(2, [vA7 (.mk LM n.split KD n.empty PF)])], ⟨⟨⟨_, rfl⟩, ⟨_, rfl⟩, trivial⟩, trivial, ⟨⟨_, 6, [3, 4], rfl, zAG (ks := [3, 4]) (ls := []) (vYP rfl rfl hkl.symm) rfl, rfl⟩, trivial⟩⟩, ⟨apx, apx, apx, trivial⟩,
       ⟨bbx, bbx, bbx, trivial⟩, by simp [ren]⟩
     refine sns ?_;refine zAB rfl (congrArg (fun b => PV.tup [vA7 (.mk LM n.split KD n.empty PF), .bool b]) ?_);cases po <;> cases pl <;> cases pk <;> rfl
def vB6 (n : NodeL) (i : Nat) (p : Int) : NodeL := .mk (n.lemmas ++ (vCF (vCE (-1) p) n.kids[i]!).lemmas) (vCF (vCE (-1) p) n.kids[i]!).split (vCF (vCE (-1) p) n.kids[i]!).kids (vCF (vCE (-1) p) n.kids[i]!).empty (vCF (vCE (-1) p) n.kids[i]!).proof
theorem uCR : FO 71 Tryz.f71 [.cell 6 32, .tmp 7] 29 := mkO Tryz.func71 Tryz.ntmps71 Tryz.results71
theorem uHK (n : NodeL) (i : Nat) (p : Int) (hp : vFG p) (h0 : 0 ≤ p) (hn : NodeRg n) (hi : i < n.kids.length) : Fn 71 [vA7 n, .int .i64 i, .int .i64 p] (.data (.tup [vA7 (vB6 n i p), .bool (!onN n.kids[i]! p)])) := by
 have hln := hn.ln;have hkn := hn.kn;have hkm : n.kids[i]! ∈ n.kids := zA1 hi;have cs := uD3 p hp h0 _ n.kids[i]! (Nat.lt_succ_self _) (hn.kid _ hkm);have cc := vQB vBB (fun h n x => zLW x) (fun x => ⟨rfl, rfl⟩) n.lemmas hln
 have hkl : (vCF (vCE (-1) p) n.kids[i]!).lemmas.length < 2097152 := by
  rw [zDZ];show ((n.kids[i]!).lemmas.map _).length < _
  rw [List.length_map];exact (hn.kid _ hkm).ln
 refine zAO vBC hT uCR (by simp) ?_;unfold vB6;generalize vCF (vCE (-1) p) n.kids[i]! = K at *
 refine sns ?_
 ·refine zAA cs rfl ?_
  refine sns ?_;refine zA5 cc rfl ?_;refine sns ?_;exact zAB (vHD (zAG (zD5 (zAG (zAM (f := vBB) (l := n.lemmas ++ K.lemmas) rfl (by rw [List.map_append]) (by simp) (fun x => zLW x)) rfl)) rfl)) rfl
 all_goals (exfalso; omega)
end Go.PI.Tryz
