/-
  The reference's elimination: the least value of a program.
-/
import Derived.Test.YtigeioodiljlaaaGreatCFA
import Derived.Test.YtigeioodiljlaaaGreatCSA
import Derived.Test.YtigeioodiljlaaaGreatCGB
import Derived.Test.YtigeioodiljlaaaGreatCPE
set_option linter.unusedVariables false
set_option linter.unusedSimpArgs false
set_option linter.unnecessarySimpa false
namespace Go.PI.Tryz
open Go.Proofs Go.PI
set_option maxHeartbeats 2000000
def prgV (n : Nat) (R : List QF) (O : QF) : PV := .agg [.int .i64 n, .imm (R.map encF), .imm (O.ts.map encQ), .bool (cr O.c).neg, encN (cr O.c).num, encN (cr O.c).den]
def tgtQ (n : Nat) (O : QF) : QF := mergeQ (varQ n) O (-1)
def prgA (n : Nat) (R : List QF) (O : QF) : List QF := [tgtQ n O, mergeQ zeroQ (tgtQ n O) (-1)] ++ R
def bstZ (o : Option Nat) : Int := match o with
 | none => -1
 | some b => b
abbrev rowT (d : List Bool) : Blk := ⟨d.map (.bool), 1, false⟩
theorem zFM (d : List Bool) : ∀ e ∈ d.map (PV.bool), nr 3 e = true ∧ e ≠ .any := zAW fun _ => ⟨rfl, by simp⟩
theorem ok_least27 : FO 32 Tryz.f32 [.tmp 2, .cell 3 27] 115 := mkO Tryz.func32 Tryz.ntmps32 Tryz.results32
theorem c_least27 (n : Nat) (R : List QF) (O : QF) (k : Nat) (hn : n ≤ 20) (hk : k ≤ 100000000) (hk1 : 2 ≤ k) (hO : szF k O) (hOs : okF n O) (hR : ∀ f ∈ R, szF k f ∧ okF n f) (hRl : R.length ≤ 1000) : Fn 32 [prgV n R O] (.data (.tup [.int .i64 (lstV (prgA n R O) n).1, encRat (cr (lstV (prgA n R O) n).2)])) := by
 have hol := srt_len n hOs.1.1 hOs.2;have hvs : Srt (varQ n).ts := ⟨List.pairwise_singleton _ _, fun p hp => by rw [List.mem_singleton.1 hp]; show (1 : Rat) ≠ 0; decide⟩;have hvz : szF 1 (varQ n) := ⟨(⟨by decide, by decide⟩ : sz 1 (0 : Rat)), fun p hp => by rw [List.mem_singleton.1 hp]; exact (⟨by decide +kernel, by decide +kernel⟩ : sz 1 (1 : Rat))⟩;have d1 := c_rvar (n : Int);have d2 := c_rsub5 (varQ n) O 1 k hvz hO hvs hOs.1 (by decide) (by omega) (by show 1 + O.ts.length ≤ _; omega);rw [add_scale hvs hOs.1, show mergeQ (varQ n) O (-1) = tgtQ n O from rfl] at d2;have hTs : Srt (tgtQ n O).ts := zHA hvs hOs.1;have hTz : szF (k + 3) (tgtQ n O) := zD7 hvz hO (kc := 1) ⟨by decide +kernel, by decide +kernel⟩ (by omega);have hTl : (tgtQ n O).ts.length ≤ 1 + O.ts.length := zD8;have d3 := zHY (-1) (by decide);rw [show (((-1 : Int)) : Rat) = -1 by rfl] at d3;have d4 := c_rscale (tgtQ n O) (-1) (k + 3) 1 hTz (zFU (z := -1) (by decide)) (by omega) (by omega);rw [scale_zero hTs] at d4;have hAl : (prgA n R O).length = 2 + R.length := by simp [prgA]; omega
 have hA : ∀ i, i < (prgA n R O).length → szF (k + 6) (prgA n R O)[i]! ∧ Srt (prgA n R O)[i]!.ts ∧ (prgA n R O)[i]!.ts.length ≤ 1048576 := fun i hi => by
  have hm := get_mem hi;generalize (prgA n R O)[i]! = f at *
  unfold prgA at hm;rcases List.mem_append.1 hm with h | h
  ·rcases List.mem_cons.1 h with rfl | h
   ·exact ⟨zFE (by omega) hTz, hTs, by omega⟩
   ·rw [List.mem_singleton.1 h]
    have : (mergeQ zeroQ (tgtQ n O) (-1)).ts.length ≤ 0 + (tgtQ n O).ts.length := zD8;exact ⟨zD7 (zCM 1 (by decide)) hTz (kc := 1) ⟨by decide +kernel, by decide +kernel⟩ (by omega), zHA zFK hTs, by omega⟩
  ·obtain ⟨h1, h2⟩ := hR f h
   have := srt_len n h2.1.1 h2.2;exact ⟨zFE (by omega) h1, h2.1, by omega⟩
 have hAe : (List.map encF (prgA n R O)) = [encF (tgtQ n O), encF (mergeQ zeroQ (tgtQ n O) (-1))] ++ R.map encF := by simp [prgA]
 have hno : ¬ ((prgA n R O).length ≤ 62 ∧ rw0B (prgA n R O) n (prgA n R O).length) → lstV (prgA n R O) n = (0, 0) := fun h => by unfold lstV; rw [if_neg h]
 have hyes : ((prgA n R O).length ≤ 62 ∧ rw0B (prgA n R O) n (prgA n R O).length) → lstV (prgA n R O) n = feV n (rw0 (prgA n R O) n (prgA n R O).length) := fun h => by unfold lstV; rw [if_pos h]
 generalize prgA n R O = A at *
 generalize lstV A n = LV at *
 generalize mergeQ zeroQ (tgtQ n O) (-1) = T2 at *
 generalize tgtQ n O = T1 at *
 refine zAO hmix hT ok_least27 (by simp [prgV]) ?_;refine sts ?_;refine zAA d1 rfl ?_;refine sts ?_;refine zAA d2 rfl ?_;refine sts ?_;refine zAA d3 rfl ?_;refine sts ?_;refine zAA d4 rfl ?_;refine sus ?_
 refine tellV [] [(3, .ptr 0 0 0), (4, .int .i64 n), (6, .imm (A.map encF))] [(0, ⟨[.agg [.bool false, .nilsl, .nilsl]], 3, true⟩)] [] 1 (by decide) (by simp) trivial
  ⟨[2], [20], [(6, .imm (A.map encF))], [], ⟨⟨⟨_, rfl⟩, trivial⟩, ⟨⟨6, _, zAN rfl (by rw [hAe]; rfl) (by rw [hAl]; simp) frz_F, rfl⟩, trivial⟩, trivial⟩, ⟨apx, zAC rfl rfl, zAD rfl rfl, trivial⟩, ⟨bbx, trivial⟩, by simp [ren]⟩ ?_
 by_cases h62 : A.length ≤ 62
 rotate_left
 ·rw [hno fun e => h62 e.1]
  (repeat' (first|refine stp ?_|with_reducible(refine brr ?_ ?_<;>intro h)));all_goals try(conv=>whnf)
  all_goals try (exfalso; omega)
  exact zAB rfl (by rw [zCU]; rfl)
 (repeat' (first|refine stp ?_|with_reducible(refine brr ?_ ?_<;>intro h)));all_goals try(conv=>whnf)
 all_goals try (exfalso; omega)
 refine zKR hT [(.sl 7, 2, true)] (fun (i : Nat) => [(3, .ptr 0 0 0), (4, .int .i64 n), (6, .imm (A.map encF)), (7, .own 1 0 i), (8, .int .i64 i)]) (fun i => [(0, ⟨[.agg [.bool false, .nilsl, .nilsl]], 3, true⟩), (1, rowR (rw0 A n i))]) [] 2
  (fun i => i ≤ A.length ∧ rw0B A n i) (fun i => A.length - i) 0 ⟨Nat.zero_le _, fun j h => by omega⟩ (by decide) (by simp) ⟨rfl, trivial⟩ ?_ ?_
 ·exact ⟨[0, _], [], [], [], ttt, ⟨(apy rfl), zAC rfl rfl, zAD rfl rfl, zAG (by decide) rfl rfl, zAC rfl rfl, trivial⟩, ⟨bbx, zAE (by decide) rfl rfl (zCN []) rfl, trivial⟩, by simp [ren]⟩
 intro i ⟨i1, i2⟩;have hrl := rw0_len A n i;by_cases hi : i < A.length
 ·obtain ⟨a1, a2, a3⟩ := hA i hi
  have dd := c_dense27 A[i]! (n + 1) (k + 6) a1 (by omega) a2.1 a3 (by omega) (by omega);rw [show (((n + 1 : Nat) : Nat) : Int) = (n : Int) + 1 by omega] at dd;have hsu := rw0_succ A n i;have hpw : (1 : Int) * shl2 .u64 (i : Int) = ((2 ^ i : Nat) : Int) := by rw [zGS (by omega), Int.one_mul, Int.toNat_natCast]; simp
  have hpb : 2 ^ i < 18446744073709551616 := Nat.lt_of_lt_of_le (Nat.pow_lt_pow_right (by decide) (show i < 64 by omega)) (by decide);cases hB : (denV (frX A[i]! (n + 1))).2 with
  | false =>
    rw [hno fun e => absurd (e.2 i hi) (by rw [hB]; decide)];rw [hB] at dd
    (repeat' (first|refine stp ?_|with_reducible(refine brr ?_ ?_<;>intro h)));all_goals try(conv=>whnf)
    all_goals try (exfalso; omega)
    refine zAA dd rfl ?_;refine sts ?_;exact zAB rfl (by rw [zCU]; rfl)
  | true =>
    rw [hB] at dd;have hst : rw0B A n (i + 1) := fun j hj => zDA (p := fun j => (denV (frX A[j]! (n + 1))).2 = true) i2 hB hj
    generalize (denV (frX A[i]! (n + 1))).1 = C at *
    generalize 2 ^ i = P2 at *
    (repeat' (first|refine stp ?_|with_reducible(refine brr ?_ ?_<;>intro h)));all_goals try(conv=>whnf)
    all_goals try (exfalso; omega)
    refine zAA dd rfl ?_;refine sts ?_
    all_goals try (exfalso; omega)
    exact ⟨i + 1, ⟨⟨by omega, hst⟩, by show A.length - (i + 1) < A.length - i; omega⟩, [0, _], [], [], [], ttt, ⟨(apy rfl), zAC rfl rfl, zAD rfl rfl, zAG (by decide) rfl (by first | rfl | simp | omega), zAC rfl rfl, trivial⟩, ⟨bbx, zAE (by decide) rfl (by rw [hsu, List.map_append, hpw]; rfl) (zCN _) rfl, trivial⟩, by simp [ren]⟩
 have ei : i = A.length := by omega
 subst ei;have hrw := rw0_ok i2 h62;rw [hyes ⟨h62, i2⟩];generalize rw0 A n A.length = l0 at *
 have hf0 : List.replicate n false = List.replicate n false := rfl;refine sus ?_;refine zBF ?_
 (repeat' (first|refine stu ?_|with_reducible(refine brr ?_ ?_<;>intro h)));all_goals try(conv=>whnf)
 all_goals try (exfalso; omega)
 refine tellV [] [(3, .ptr 0 0 0), (4, .int .i64 n), (7, .imm (l0.map encFR))] [(0, ⟨[.agg [.bool false, .nilsl, .nilsl]], 3, true⟩)] [] 1 (by decide) (by simp) trivial
  ⟨[0], [1], [(7, .imm (l0.map encFR))], [], ⟨⟨⟨_, rfl⟩, trivial⟩, ⟨⟨6, _, zAN rfl rfl hrl.symm frz_FR, rfl⟩, trivial⟩, trivial⟩, ⟨apx, zAC rfl rfl, zAD rfl rfl, trivial⟩, ⟨bbx, trivial⟩, by simp [ren]⟩ ?_
 refine sts ?_
 all_goals try (exfalso; omega)
 have hl62 : l0.length ≤ 62 := by omega
 refine zAH hT (fun ((j, s) : Nat × FeS) => [(3, .ptr 0 0 0), (4, .int .i64 n), (7, .imm (s.l.map encFR)), (11, .own 1 0 n), (12, .int .i64 ((j : Int) + 1))]) (fun (_, s) => [(0, ⟨[.agg [.bool false, .nilsl, .nilsl]], 3, true⟩), (1, rowT s.done)]) [] 2
  (fun (j, s) => j ≤ n ∧ feI n l0 j = some s ∧ FeP n (n + 2) j s) (fun (j, _) => n - j) (0, ⟨l0, List.replicate n false⟩) ⟨Nat.zero_le _, rfl, feI_ok hrw (by omega) 0 (Nat.zero_le _) _ rfl⟩ (by decide) (by simp) ?_ ?_
 ·exact ⟨[0, 2], [], [], [], ttt, ⟨apx, zAC rfl rfl, zAD rfl rfl, zAG (by decide) rfl (by omega), zAC rfl rfl, trivial⟩, ⟨bbx, zAE (by decide) rfl (by rw [Int.toNat_natCast]; exact zFY (f := PV.bool) (x := false) (by first | rfl | omega | simp)) (zFM _) rfl, trivial⟩, by simp [ren]⟩
 intro ⟨j, s⟩ ⟨j1, j2, j3⟩;have hsl := feI_len j s j2;have hsl2 : s.l.length ≤ 1000000 := by omega
 have hdl := j3.dl;by_cases hj : j < n
 ·obtain ⟨⟨b, hb, hbn⟩, hst⟩ := j3.step hj (by omega)
  have hnext : feI n l0 (j + 1) = feS n (j + 1) s := by
   conv => lhs; unfold feI
   rw [j2]
  have hfe : feS n (j + 1) s = if 20000 < pairsN s.l b then none else match elmO s.l b (j + 1) with
   | none => none
   | some l' => some ⟨l', s.done.set b true⟩ := by unfold feS; rw [hb]; rfl
  have hnone : feS n (j + 1) s = none → feV n l0 = (0, 0) := fun h => by
   unfold feV; rw [feI_none (hnext.trans h) n (by omega)]
  have hpc : ∀ v, v < n → Fn 68 [.imm (s.l.map encFR), .int .i64 v] (.data (.int .i64 (pairsN s.l v : Nat))) := fun v hv => c_pairs27 s.l v (n + 2) hsl2 j3.rw (by omega)
  (repeat' (first|refine stp ?_|with_reducible(refine brr ?_ ?_<;>intro h)));all_goals try(conv=>whnf)
  all_goals try (exfalso; omega)
  refine zAH hT (fun (v : Nat) => [(3, .ptr 0 0 0), (4, .int .i64 n), (7, .imm (s.l.map encFR)), (11, .own 1 0 n), (12, .int .i64 ((j : Int) + 1)), (13, .int .i64 (bstZ (bestI s.l s.done v))), (14, .int .i64 v)]) (fun _ => [(0, ⟨[.agg [.bool false, .nilsl, .nilsl]], 3, true⟩), (1, rowT s.done)]) [] 2
   (fun v => v ≤ n) (fun v => n - v) 0 (Nat.zero_le _) (by decide) (by simp) ?_ ?_
  ·exact ⟨[0, 1], [], [], [], ttt, ⟨apx, zAC rfl rfl, zAD rfl rfl, zAG (by decide) rfl rfl, zAC rfl rfl, zAC rfl rfl, zAC rfl rfl, trivial⟩, ⟨bbx, zAE (by decide) rfl rfl (zFM _) rfl, trivial⟩, by simp [ren]⟩
  intro v v1;obtain ⟨q1, q2⟩ := zGQ s.l s.done v;by_cases hv : v < n
  ·have hbs : bestI s.l s.done (v + 1) = if s.done[v]! = false ∧ bestC s.l v (bestI s.l s.done v) = true then some v else bestI s.l s.done v := rfl
   cases hd : s.done[v]! with
   | true =>
     rw [if_neg (by rw [hd]; rintro ⟨h, _⟩; cases h)] at hbs
     (repeat' (first|refine stp ?_|with_reducible(refine brr ?_ ?_<;>intro h)));all_goals try(conv=>whnf)
     all_goals try (exfalso; omega)
     refine zAU v (Nat.zero_add _) (by omega) ?_;rw [hd];refine sts ?_
     all_goals try (exfalso; omega)
     exact ⟨v + 1, ⟨by omega, by show n - (v + 1) < n - v; omega⟩, [0, 1], [], [], [], ttt, ⟨apx, zAC rfl rfl, zAD rfl rfl, zAG (by decide) rfl rfl, zAC rfl rfl, zAC rfl (by rw [hbs] <;> rfl), zAC rfl rfl, trivial⟩, ⟨bbx, zAE (by decide) rfl rfl (zFM _) rfl, trivial⟩, by simp [ren]⟩
   | false =>
     cases hbv : bestI s.l s.done v with
     | none =>
       rw [hbv, if_pos ⟨hd, rfl⟩] at hbs;rw [show bstZ none = -1 from rfl]
       (repeat' (first|refine stp ?_|with_reducible(refine brr ?_ ?_<;>intro h)));all_goals try(conv=>whnf)
       all_goals try (exfalso; omega)
       refine zAU v (Nat.zero_add _) (by omega) ?_;rw [hd];refine sts ?_
       all_goals try (exfalso; omega)
       exact ⟨v + 1, ⟨by omega, by show n - (v + 1) < n - v; omega⟩, [0, 1], [], [], [], ttt, ⟨apx, zAC rfl rfl, zAD rfl rfl, zAG (by decide) rfl rfl, zAC rfl rfl, zAC rfl (by rw [hbs] <;> rfl), zAC rfl rfl, trivial⟩, ⟨bbx, zAE (by decide) rfl rfl (zFM _) rfl, trivial⟩, by simp [ren]⟩
     | some u =>
       have hu := (q1 u hbv).1;have p1 := hpc v hv;have p2 := hpc u (by omega);rw [show bstZ (some u) = (u : Int) from rfl];by_cases hlt : pairsN s.l v < pairsN s.l u
       ·rw [hbv, if_pos ⟨hd, decide_eq_true hlt⟩] at hbs
        generalize pairsN s.l v = pv at *
        generalize pairsN s.l u = pu at *
        (repeat' (first|refine stp ?_|with_reducible(refine brr ?_ ?_<;>intro h)));all_goals try(conv=>whnf)
        all_goals try (exfalso; omega)
        refine zAU v (Nat.zero_add _) (by omega) ?_;rw [hd];refine sts ?_
        all_goals try (exfalso; omega)
        refine zAA p1 rfl ?_;refine sts ?_;refine zAA p2 rfl ?_
        (repeat' (first|refine stp ?_|with_reducible(refine brr ?_ ?_<;>intro h)));all_goals try(conv=>whnf)
        all_goals try (exfalso; omega)
        exact ⟨v + 1, ⟨by omega, by show n - (v + 1) < n - v; omega⟩, [0, 1], [], [], [], ttt, ⟨apx, zAC rfl rfl, zAD rfl rfl, zAG (by decide) rfl rfl, zAC rfl rfl, zAC rfl (by rw [hbs] <;> rfl), zAC rfl rfl, trivial⟩, ⟨bbx, zAE (by decide) rfl rfl (zFM _) rfl, trivial⟩, by simp [ren]⟩
       ·rw [hbv, if_neg (fun e => hlt (of_decide_eq_true e.2))] at hbs
        generalize pairsN s.l v = pv at *
        generalize pairsN s.l u = pu at *
        (repeat' (first|refine stp ?_|with_reducible(refine brr ?_ ?_<;>intro h)));all_goals try(conv=>whnf)
        all_goals try (exfalso; omega)
        refine zAU v (Nat.zero_add _) (by omega) ?_;rw [hd];refine sts ?_
        all_goals try (exfalso; omega)
        refine zAA p1 rfl ?_;refine sts ?_;refine zAA p2 rfl ?_
        (repeat' (first|refine stp ?_|with_reducible(refine brr ?_ ?_<;>intro h)));all_goals try(conv=>whnf)
        all_goals try (exfalso; omega)
        exact ⟨v + 1, ⟨by omega, by show n - (v + 1) < n - v; omega⟩, [0, 1], [], [], [], ttt, ⟨apx, zAC rfl rfl, zAD rfl rfl, zAG (by decide) rfl rfl, zAC rfl rfl, zAC rfl (by rw [hbs] <;> rfl), zAC rfl rfl, trivial⟩, ⟨bbx, zAE (by decide) rfl rfl (zFM _) rfl, trivial⟩, by simp [ren]⟩
  have ev : v = n := by omega
  rw [ev, hb, show bstZ (some b) = (b : Int) from rfl];have p1 := hpc b hbn;by_cases hbig : 20000 < pairsN s.l b
  ·rw [if_pos hbig] at hfe
   rw [hnone hfe]
   (repeat' (first|refine stp ?_|with_reducible(refine brr ?_ ?_<;>intro h)));all_goals try(conv=>whnf)
   all_goals try (exfalso; omega)
   refine zAA p1 rfl ?_
   (repeat' (first|refine stp ?_|with_reducible(refine brr ?_ ?_<;>intro h)));all_goals try(conv=>whnf)
   all_goals try (exfalso; omega)
   exact zAB rfl (by rw [zCU]; rfl)
  rw [if_neg hbig] at hfe;have ce := c_elim27 s.l b (j + 1) (n + 2) hsl2 j3.rw (by omega) (by omega) (by omega) (by omega);rw [show (((j + 1 : Nat) : Nat) : Int) = (j : Int) + 1 by omega] at ce;cases hE : elmO s.l b (j + 1) with
  | none =>
    rw [hE] at hfe ce;dsimp only at hfe ce;rw [hnone hfe]
    (repeat' (first|refine stp ?_|with_reducible(refine brr ?_ ?_<;>intro h)));all_goals try(conv=>whnf)
    all_goals try (exfalso; omega)
    refine zAA p1 rfl ?_
    (repeat' (first|refine stp ?_|with_reducible(refine brr ?_ ?_<;>intro h)));all_goals try(conv=>whnf)
    all_goals try (exfalso; omega)
    refine zAA ce rfl ?_;refine sts ?_;exact zAB rfl (by rw [zCU]; rfl)
  | some l' =>
    rw [hE] at hfe ce;dsimp only at hfe ce;have hP := hst _ hfe;rw [hfe] at hnext
    (repeat' (first|refine stp ?_|with_reducible(refine brr ?_ ?_<;>intro h)));all_goals try(conv=>whnf)
    all_goals try (exfalso; omega)
    refine zAA p1 rfl ?_
    (repeat' (first|refine stp ?_|with_reducible(refine brr ?_ ?_<;>intro h)));all_goals try(conv=>whnf)
    all_goals try (exfalso; omega)
    refine zAA ce rfl ?_;refine sts ?_;refine zAU b (Nat.zero_add _) (by omega) ?_;refine sts ?_;exact ⟨(j + 1, ⟨l', s.done.set b true⟩), ⟨⟨by omega, hnext, hP⟩, by show n - (j + 1) < n - j; omega⟩, [0, 1], [], [], [], ttt, ⟨apx, zAC rfl rfl, zAD rfl rfl, zAG (by decide) rfl rfl, zAC rfl (by omega), trivial⟩, ⟨bbx, zAE (by decide) rfl (zBB (Nat.zero_add _) rfl) (zFM _) rfl, trivial⟩, by simp [ren]⟩
 have ej : j = n := by omega
 rw [ej] at j2;have hfv : feV n l0 = endV s.l n := by unfold feV; rw [j2]
 have ce := c_ends27 s.l n (n + 2) hsl2 j3.rw (by omega) (by omega);rw [hfv]
 (repeat' (first|refine stp ?_|with_reducible(refine brr ?_ ?_<;>intro h)));all_goals try(conv=>whnf)
 all_goals try (exfalso; omega)
 refine zAA ce rfl ?_;refine sts ?_;exact zAB rfl rfl
end Go.PI.Tryz
