/-
  The law WitnessBreaks.
-/
import Derived.Test.YtdgckinmcnjheaaGreatCFA
import Derived.Test.YtdgckinmcnjheaaGreatCSA
import Derived.Test.YtdgckinmcnjheaaGreatCGB
import Derived.Test.YtdgckinmcnjheaaGreatCHA
import Derived.Test.YtdgckinmcnjheaaGreatCPE
import Derived.Test.YtdgckinmcnjheaaGreatCWD
set_option linter.unusedVariables false
set_option linter.unusedSimpArgs false
set_option linter.unnecessarySimpa false
namespace Go.PI.Tryz
open Go.Proofs Go.PI
set_option maxHeartbeats 2000000
def uJ5 (n : Nat) (R : List QF) (O : QF) : PV := .agg [.int .i64 n, .imm (R.map vA5), .imm (O.ts.map vDA), .bool (cr O.c).neg, vA9 (cr O.c).num, vA9 (cr O.c).den]
def vN4 (n : Nat) (O : QF) : QF := vA3 (vB6 n) O (-1)
def vDY (n : Nat) (R : List QF) (O : QF) : List QF := [vN4 n O, vA3 zeroQ (vN4 n O) (-1)] ++ R
def uJA (o : Option Nat) : Int := match o with
 | none => -1
 | some b => b
abbrev uJ2 (d : List Bool) : Blk := ⟨d.map (.bool), 1, false⟩
theorem zHG (d : List Bool) : ∀ e ∈ d.map (PV.bool), nr 3 e = true ∧ e ≠ .any := zAW fun _ => ⟨rfl, by simp⟩
theorem vO5 : FO 64 Tryz.f64 [.tmp 2, .cell 3 35] 115 := mkO Tryz.func64 Tryz.ntmps64 Tryz.results64
theorem vVX (n : Nat) (R : List QF) (O : QF) (k : Nat) (hn : n ≤ 20) (hk : k ≤ 100000000) (hk1 : 2 ≤ k) (hO : szF k O) (hOs : okF n O) (hR : ∀ f ∈ R, szF k f ∧ okF n f) (hRl : R.length ≤ 1000) : Fn 64 [uJ5 n R O] (.data (.tup [.int .i64 (vEU (vDY n R O) n).1, vAZ (cr (vEU (vDY n R O) n).2)])) := by
 have hol := zIV n hOs.1.1 hOs.2;have hvs : Srt (vB6 n).ts := ⟨List.pairwise_singleton _ _, fun p hp => by rw [List.mem_singleton.1 hp]; show (1 : Rat) ≠ 0; decide⟩;have hvz : szF 1 (vB6 n) := ⟨(⟨by decide, by decide⟩ : sz 1 (0 : Rat)), fun p hp => by rw [List.mem_singleton.1 hp]; exact (⟨by decide +kernel, by decide +kernel⟩ : sz 1 (1 : Rat))⟩;have d1 := uBV (n : Int);have d2 := vLB (vB6 n) O 1 k hvz hO hvs hOs.1 (by decide) (by omega) (by show 1 + O.ts.length ≤ _; omega);rw [zFN hvs hOs.1, show vA3 (vB6 n) O (-1) = vN4 n O from rfl] at d2;have hTs : Srt (vN4 n O).ts := zCW hvs hOs.1;have hTz : szF (k + 3) (vN4 n O) := zDJ hvz hO (kc := 1) ⟨by decide +kernel, by decide +kernel⟩ (by omega);have hTl : (vN4 n O).ts.length ≤ 1 + O.ts.length := zFE;have d3 := zF2 (-1) (by decide);rw [show (((-1 : Int)) : Rat) = -1 by rfl] at d3;have d4 := zG1 (vN4 n O) (-1) (k + 3) 1 hTz (zF6 (z := -1) (by decide)) (by omega) (by omega);rw [zM9 hTs] at d4;have hAl : (vDY n R O).length = 2 + R.length := by simp [vDY]; omega
 have hA : ∀ i, i < (vDY n R O).length → szF (k + 6) (vDY n R O)[i]! ∧ Srt (vDY n R O)[i]!.ts ∧ (vDY n R O)[i]!.ts.length ≤ 1048576 := fun i hi => by
  have hm := get_mem hi;generalize (vDY n R O)[i]! = f at *
  unfold vDY at hm;rcases List.mem_append.1 hm with h | h
  ·rcases List.mem_cons.1 h with rfl | h
   ·exact ⟨zD7 (by omega) hTz, hTs, by omega⟩
   ·rw [List.mem_singleton.1 h]
    have : (vA3 zeroQ (vN4 n O) (-1)).ts.length ≤ 0 + (vN4 n O).ts.length := zFE;exact ⟨zDJ (zDT 1 (by decide)) hTz (kc := 1) ⟨by decide +kernel, by decide +kernel⟩ (by omega), zCW zCD hTs, by omega⟩
  ·obtain ⟨h1, h2⟩ := hR f h
   have := zIV n h2.1.1 h2.2;exact ⟨zD7 (by omega) h1, h2.1, by omega⟩
 have hAe : (List.map vA5 (vDY n R O)) = [vA5 (vN4 n O), vA5 (vA3 zeroQ (vN4 n O) (-1))] ++ R.map vA5 := by simp [vDY]
 have hno : ¬ ((vDY n R O).length ≤ 62 ∧ uCX (vDY n R O) n (vDY n R O).length) → vEU (vDY n R O) n = (0, 0) := fun h => by unfold vEU; rw [if_neg h]
 have hyes : ((vDY n R O).length ≤ 62 ∧ uCX (vDY n R O) n (vDY n R O).length) → vEU (vDY n R O) n = feV n (rw0 (vDY n R O) n (vDY n R O).length) := fun h => by unfold vEU; rw [if_pos h]
 generalize vDY n R O = A at *
 generalize vEU A n = LV at *
 generalize vA3 zeroQ (vN4 n O) (-1) = T2 at *
 generalize vN4 n O = T1 at *
 refine zAN vA6 hT vO5 (by simp [uJ5]) ?_;refine sts ?_;refine zAA d1 rfl ?_;refine sts ?_;refine zAA d2 rfl ?_;refine sts ?_;refine zAA d3 rfl ?_;refine sts ?_;refine zAA d4 rfl ?_;refine sus ?_
 refine vB7 [] [(3, .ptr 0 0 0), (4, .int .i64 n), (6, .imm (A.map vA5))] [(0, ⟨[.agg [.bool false, .nilsl, .nilsl]], 3, true⟩)] [] 1 (by decide) (by simp) trivial
  ⟨[2], [20], [(6, .imm (A.map vA5))], [], ⟨⟨⟨_, rfl⟩, trivial⟩, ⟨⟨6, _, zAH rfl (by rw [hAe]; rfl) (by rw [hAl]; simp) zJL, rfl⟩, trivial⟩, trivial⟩, ⟨apx, zAC rfl rfl, zAE rfl rfl, trivial⟩, ⟨bbx, trivial⟩, by simp [ren]⟩ ?_
 by_cases h62 : A.length ≤ 62
 rotate_left
 ·rw [hno fun e => h62 e.1]
  (repeat' (first|refine stp ?_|with_reducible(refine brr ?_ ?_<;>intro h)));all_goals try(conv=>whnf)
  all_goals try (exfalso; omega)
  exact zAB rfl (by rw [zC1]; rfl)
 (repeat' (first|refine stp ?_|with_reducible(refine brr ?_ ?_<;>intro h)));all_goals try(conv=>whnf)
 all_goals try (exfalso; omega)
 refine zBP hT [(.sl 7, 2, true)] (fun (i : Nat) => [(3, .ptr 0 0 0), (4, .int .i64 n), (6, .imm (A.map vA5)), (7, .own 1 0 i), (8, .int .i64 i)]) (fun i => [(0, ⟨[.agg [.bool false, .nilsl, .nilsl]], 3, true⟩), (1, uGT (rw0 A n i))]) [] 2
  (fun i => i ≤ A.length ∧ uCX A n i) (fun i => A.length - i) 0 ⟨Nat.zero_le _, fun j h => by omega⟩ (by decide) (by simp) ⟨rfl, trivial⟩ ?_ ?_
 ·exact ⟨[0, _], [], [], [], ttt, ⟨(apy rfl), zAC rfl rfl, zAE rfl rfl, zAF (by decide) rfl rfl, zAC rfl rfl, trivial⟩, ⟨bbx, zAD (by decide) rfl rfl (zDH []) rfl, trivial⟩, by simp [ren]⟩
 intro i ⟨i1, i2⟩;have hrl := uCW A n i;by_cases hi : i < A.length
 ·obtain ⟨a1, a2, a3⟩ := hA i hi
  have dd := vV2 A[i]! (n + 1) (k + 6) a1 (by omega) a2.1 a3 (by omega) (by omega);rw [show (((n + 1 : Nat) : Nat) : Int) = (n : Int) + 1 by omega] at dd;have hsu := vW7 A n i;have hpw : (1 : Int) * vCW .u64 (i : Int) = ((2 ^ i : Nat) : Int) := by rw [zIW (by omega), Int.one_mul, Int.toNat_natCast]; simp
  have hpb : 2 ^ i < 18446744073709551616 := Nat.lt_of_lt_of_le (Nat.pow_lt_pow_right (by decide) (show i < 64 by omega)) (by decide);cases hB : (vEH (frX A[i]! (n + 1))).2 with
  | false =>
    rw [hno fun e => absurd (e.2 i hi) (by rw [hB]; decide)];rw [hB] at dd
    (repeat' (first|refine stp ?_|with_reducible(refine brr ?_ ?_<;>intro h)));all_goals try(conv=>whnf)
    all_goals try (exfalso; omega)
    refine zAA dd rfl ?_;refine sts ?_;exact zAB rfl (by rw [zC1]; rfl)
  | true =>
    rw [hB] at dd;have hst : uCX A n (i + 1) := fun j hj => zA2 (p := fun j => (vEH (frX A[j]! (n + 1))).2 = true) i2 hB hj
    generalize (vEH (frX A[i]! (n + 1))).1 = C at *
    generalize 2 ^ i = P2 at *
    (repeat' (first|refine stp ?_|with_reducible(refine brr ?_ ?_<;>intro h)));all_goals try(conv=>whnf)
    all_goals try (exfalso; omega)
    refine zAA dd rfl ?_;refine sts ?_
    all_goals try (exfalso; omega)
    exact ⟨i + 1, ⟨⟨by omega, hst⟩, by show A.length - (i + 1) < A.length - i; omega⟩, [0, _], [], [], [], ttt, ⟨(apy rfl), zAC rfl rfl, zAE rfl rfl, zAF (by decide) rfl (by first | rfl | simp | omega), zAC rfl rfl, trivial⟩, ⟨bbx, zAD (by decide) rfl (by rw [hsu, List.map_append, hpw]; rfl) (zDH _) rfl, trivial⟩, by simp [ren]⟩
 have ei : i = A.length := by omega
 subst ei;have hrw := vQ7 i2 h62;rw [hyes ⟨h62, i2⟩];generalize rw0 A n A.length = l0 at *
 have hf0 : List.replicate n false = List.replicate n false := rfl;refine sus ?_;refine zAX ?_
 (repeat' (first|refine stu ?_|with_reducible(refine brr ?_ ?_<;>intro h)));all_goals try(conv=>whnf)
 all_goals try (exfalso; omega)
 refine vB7 [] [(3, .ptr 0 0 0), (4, .int .i64 n), (7, .imm (l0.map vCH))] [(0, ⟨[.agg [.bool false, .nilsl, .nilsl]], 3, true⟩)] [] 1 (by decide) (by simp) trivial
  ⟨[0], [1], [(7, .imm (l0.map vCH))], [], ⟨⟨⟨_, rfl⟩, trivial⟩, ⟨⟨6, _, zAH rfl rfl hrl.symm vT4, rfl⟩, trivial⟩, trivial⟩, ⟨apx, zAC rfl rfl, zAE rfl rfl, trivial⟩, ⟨bbx, trivial⟩, by simp [ren]⟩ ?_
 refine sts ?_
 all_goals try (exfalso; omega)
 have hl62 : l0.length ≤ 62 := by omega
 refine zAG hT (fun ((j, s) : Nat × FeS) => [(3, .ptr 0 0 0), (4, .int .i64 n), (7, .imm (s.l.map vCH)), (11, .own 1 0 n), (12, .int .i64 ((j : Int) + 1))]) (fun (_, s) => [(0, ⟨[.agg [.bool false, .nilsl, .nilsl]], 3, true⟩), (1, uJ2 s.done)]) [] 2
  (fun (j, s) => j ≤ n ∧ feI n l0 j = some s ∧ FeP n (n + 2) j s) (fun (j, _) => n - j) (0, ⟨l0, List.replicate n false⟩) ⟨Nat.zero_le _, rfl, vIT hrw (by omega) 0 (Nat.zero_le _) _ rfl⟩ (by decide) (by simp) ?_ ?_
 ·exact ⟨[0, 2], [], [], [], ttt, ⟨apx, zAC rfl rfl, zAE rfl rfl, zAF (by decide) rfl (by omega), zAC rfl rfl, trivial⟩, ⟨bbx, zAD (by decide) rfl (by rw [Int.toNat_natCast]; exact zG6 (f := PV.bool) (x := false) (by first | rfl | omega | simp)) (zHG _) rfl, trivial⟩, by simp [ren]⟩
 intro ⟨j, s⟩ ⟨j1, j2, j3⟩;have hsl := vT9 j s j2;have hsl2 : s.l.length ≤ 1000000 := by omega
 have hdl := j3.dl;by_cases hj : j < n
 ·obtain ⟨⟨b, hb, hbn⟩, hst⟩ := j3.step hj (by omega)
  have hnext : feI n l0 (j + 1) = feS n (j + 1) s := by
   conv => lhs; unfold feI
   rw [j2]
  have hfe : feS n (j + 1) s = if 20000 < vB1 s.l b then none else match vWM s.l b (j + 1) with
   | none => none
   | some l' => some ⟨l', s.done.set b true⟩ := by unfold feS; rw [hb]; rfl
  have hnone : feS n (j + 1) s = none → feV n l0 = (0, 0) := fun h => by
   unfold feV; rw [vM1 (hnext.trans h) n (by omega)]
  have hpc : ∀ v, v < n → Fn 123 [.imm (s.l.map vCH), .int .i64 v] (.data (.int .i64 (vB1 s.l v : Nat))) := fun v hv => vVS s.l v (n + 2) hsl2 j3.rw (by omega)
  (repeat' (first|refine stp ?_|with_reducible(refine brr ?_ ?_<;>intro h)));all_goals try(conv=>whnf)
  all_goals try (exfalso; omega)
  refine zAG hT (fun (v : Nat) => [(3, .ptr 0 0 0), (4, .int .i64 n), (7, .imm (s.l.map vCH)), (11, .own 1 0 n), (12, .int .i64 ((j : Int) + 1)), (13, .int .i64 (uJA (vDG s.l s.done v))), (14, .int .i64 v)]) (fun _ => [(0, ⟨[.agg [.bool false, .nilsl, .nilsl]], 3, true⟩), (1, uJ2 s.done)]) [] 2
   (fun v => v ≤ n) (fun v => n - v) 0 (Nat.zero_le _) (by decide) (by simp) ?_ ?_
  ·exact ⟨[0, 1], [], [], [], ttt, ⟨apx, zAC rfl rfl, zAE rfl rfl, zAF (by decide) rfl rfl, zAC rfl rfl, zAC rfl rfl, zAC rfl rfl, trivial⟩, ⟨bbx, zAD (by decide) rfl rfl (zHG _) rfl, trivial⟩, by simp [ren]⟩
  intro v v1;obtain ⟨q1, q2⟩ := zMT s.l s.done v;by_cases hv : v < n
  ·have hbs : vDG s.l s.done (v + 1) = if s.done[v]! = false ∧ uIS s.l v (vDG s.l s.done v) = true then some v else vDG s.l s.done v := rfl
   cases hd : s.done[v]! with
   | true =>
     rw [if_neg (by rw [hd]; rintro ⟨h, _⟩; cases h)] at hbs
     (repeat' (first|refine stp ?_|with_reducible(refine brr ?_ ?_<;>intro h)));all_goals try(conv=>whnf)
     all_goals try (exfalso; omega)
     refine zAU v (Nat.zero_add _) (by omega) ?_;rw [hd];refine sts ?_
     all_goals try (exfalso; omega)
     exact ⟨v + 1, ⟨by omega, by show n - (v + 1) < n - v; omega⟩, [0, 1], [], [], [], ttt, ⟨apx, zAC rfl rfl, zAE rfl rfl, zAF (by decide) rfl rfl, zAC rfl rfl, zAC rfl (by rw [hbs] <;> rfl), zAC rfl rfl, trivial⟩, ⟨bbx, zAD (by decide) rfl rfl (zHG _) rfl, trivial⟩, by simp [ren]⟩
   | false =>
     cases hbv : vDG s.l s.done v with
     | none =>
       rw [hbv, if_pos ⟨hd, rfl⟩] at hbs;rw [show uJA none = -1 from rfl]
       (repeat' (first|refine stp ?_|with_reducible(refine brr ?_ ?_<;>intro h)));all_goals try(conv=>whnf)
       all_goals try (exfalso; omega)
       refine zAU v (Nat.zero_add _) (by omega) ?_;rw [hd];refine sts ?_
       all_goals try (exfalso; omega)
       exact ⟨v + 1, ⟨by omega, by show n - (v + 1) < n - v; omega⟩, [0, 1], [], [], [], ttt, ⟨apx, zAC rfl rfl, zAE rfl rfl, zAF (by decide) rfl rfl, zAC rfl rfl, zAC rfl (by rw [hbs] <;> rfl), zAC rfl rfl, trivial⟩, ⟨bbx, zAD (by decide) rfl rfl (zHG _) rfl, trivial⟩, by simp [ren]⟩
     | some u =>
       have hu := (q1 u hbv).1;have p1 := hpc v hv;have p2 := hpc u (by omega);rw [show uJA (some u) = (u : Int) from rfl];by_cases hlt : vB1 s.l v < vB1 s.l u
       ·rw [hbv, if_pos ⟨hd, decide_eq_true hlt⟩] at hbs
        generalize vB1 s.l v = pv at *
        generalize vB1 s.l u = pu at *
        (repeat' (first|refine stp ?_|with_reducible(refine brr ?_ ?_<;>intro h)));all_goals try(conv=>whnf)
        all_goals try (exfalso; omega)
        refine zAU v (Nat.zero_add _) (by omega) ?_;rw [hd];refine sts ?_
        all_goals try (exfalso; omega)
        refine zAA p1 rfl ?_;refine sts ?_;refine zAA p2 rfl ?_
        (repeat' (first|refine stp ?_|with_reducible(refine brr ?_ ?_<;>intro h)));all_goals try(conv=>whnf)
        all_goals try (exfalso; omega)
        exact ⟨v + 1, ⟨by omega, by show n - (v + 1) < n - v; omega⟩, [0, 1], [], [], [], ttt, ⟨apx, zAC rfl rfl, zAE rfl rfl, zAF (by decide) rfl rfl, zAC rfl rfl, zAC rfl (by rw [hbs] <;> rfl), zAC rfl rfl, trivial⟩, ⟨bbx, zAD (by decide) rfl rfl (zHG _) rfl, trivial⟩, by simp [ren]⟩
       ·rw [hbv, if_neg (fun e => hlt (of_decide_eq_true e.2))] at hbs
        generalize vB1 s.l v = pv at *
        generalize vB1 s.l u = pu at *
        (repeat' (first|refine stp ?_|with_reducible(refine brr ?_ ?_<;>intro h)));all_goals try(conv=>whnf)
        all_goals try (exfalso; omega)
        refine zAU v (Nat.zero_add _) (by omega) ?_;rw [hd];refine sts ?_
        all_goals try (exfalso; omega)
        refine zAA p1 rfl ?_;refine sts ?_;refine zAA p2 rfl ?_
        (repeat' (first|refine stp ?_|with_reducible(refine brr ?_ ?_<;>intro h)));all_goals try(conv=>whnf)
        all_goals try (exfalso; omega)
        exact ⟨v + 1, ⟨by omega, by show n - (v + 1) < n - v; omega⟩, [0, 1], [], [], [], ttt, ⟨apx, zAC rfl rfl, zAE rfl rfl, zAF (by decide) rfl rfl, zAC rfl rfl, zAC rfl (by rw [hbs] <;> rfl), zAC rfl rfl, trivial⟩, ⟨bbx, zAD (by decide) rfl rfl (zHG _) rfl, trivial⟩, by simp [ren]⟩
  have ev : v = n := by omega
  rw [ev, hb, show uJA (some b) = (b : Int) from rfl];have p1 := hpc b hbn;by_cases hbig : 20000 < vB1 s.l b
  ·rw [if_pos hbig] at hfe
   rw [hnone hfe]
   (repeat' (first|refine stp ?_|with_reducible(refine brr ?_ ?_<;>intro h)));all_goals try(conv=>whnf)
   all_goals try (exfalso; omega)
   refine zAA p1 rfl ?_
   (repeat' (first|refine stp ?_|with_reducible(refine brr ?_ ?_<;>intro h)));all_goals try(conv=>whnf)
   all_goals try (exfalso; omega)
   exact zAB rfl (by rw [zC1]; rfl)
  rw [if_neg hbig] at hfe;have ce := uAE s.l b (j + 1) (n + 2) hsl2 j3.rw (by omega) (by omega) (by omega) (by omega);rw [show (((j + 1 : Nat) : Nat) : Int) = (j : Int) + 1 by omega] at ce;cases hE : vWM s.l b (j + 1) with
  | none =>
    rw [hE] at hfe ce;dsimp only at hfe ce;rw [hnone hfe]
    (repeat' (first|refine stp ?_|with_reducible(refine brr ?_ ?_<;>intro h)));all_goals try(conv=>whnf)
    all_goals try (exfalso; omega)
    refine zAA p1 rfl ?_
    (repeat' (first|refine stp ?_|with_reducible(refine brr ?_ ?_<;>intro h)));all_goals try(conv=>whnf)
    all_goals try (exfalso; omega)
    refine zAA ce rfl ?_;refine sts ?_;exact zAB rfl (by rw [zC1]; rfl)
  | some l' =>
    rw [hE] at hfe ce;dsimp only at hfe ce;have hP := hst _ hfe;rw [hfe] at hnext
    (repeat' (first|refine stp ?_|with_reducible(refine brr ?_ ?_<;>intro h)));all_goals try(conv=>whnf)
    all_goals try (exfalso; omega)
    refine zAA p1 rfl ?_
    (repeat' (first|refine stp ?_|with_reducible(refine brr ?_ ?_<;>intro h)));all_goals try(conv=>whnf)
    all_goals try (exfalso; omega)
    refine zAA ce rfl ?_;refine sts ?_;refine zAU b (Nat.zero_add _) (by omega) ?_;refine sts ?_;exact ⟨(j + 1, ⟨l', s.done.set b true⟩), ⟨⟨by omega, hnext, hP⟩, by show n - (j + 1) < n - j; omega⟩, [0, 1], [], [], [], ttt, ⟨apx, zAC rfl rfl, zAE rfl rfl, zAF (by decide) rfl rfl, zAC rfl (by omega), trivial⟩, ⟨bbx, zAD (by decide) rfl (zBB (Nat.zero_add _) rfl) (zHG _) rfl, trivial⟩, by simp [ren]⟩
 have ej : j = n := by omega
 rw [ej] at j2;have hfv : feV n l0 = vM4 s.l n := by unfold feV; rw [j2]
 have ce := uAD s.l n (n + 2) hsl2 j3.rw (by omega) (by omega);rw [hfv]
 (repeat' (first|refine stp ?_|with_reducible(refine brr ?_ ?_<;>intro h)));all_goals try(conv=>whnf)
 all_goals try (exfalso; omega)
 refine zAA ce rfl ?_;refine sts ?_;exact zAB rfl rfl
set_option maxHeartbeats 2000000
theorem zEW : ∀ (m : Nat) (p : List Int), (vCJ m p).length = 2 ^ m
 | 0, p => rfl
 | m + 1, p => by simp only [vCJ, List.length_append, zEW m]; omega
theorem vFP : ∀ (m : Nat) (p : List Int), ∀ q ∈ vCJ m p, q.length = p.length + m
 | 0, p, q, h => by rw [List.mem_singleton.1 h]; rfl
 | m + 1, p, q, h => by
   rcases List.mem_append.1 h with h | h
   ·rw [vFP m _ q h]; simp; omega
   ·rw [vFP m _ q h]; simp; omega
theorem vFQ : ∀ (m : Nat) (p : List Int), (∀ a ∈ p, a = 1 ∨ a = 2) → ∀ q ∈ vCJ m p, ∀ a ∈ q, a = 1 ∨ a = 2
 | 0, p, hp, q, h => by rw [List.mem_singleton.1 h]; exact hp
 | m + 1, p, hp, q, h => by
   rcases List.mem_append.1 h with h | h
   ·exact vFQ m _ (fun a ha => by rcases List.mem_append.1 ha with ha | ha; exact hp a ha; exact Or.inl (List.mem_singleton.1 ha)) q h
   ·exact vFQ m _ (fun a ha => by rcases List.mem_append.1 ha with ha | ha; exact hp a ha; exact Or.inr (List.mem_singleton.1 ha)) q h
theorem zHK : ∀ (m : Nat) (p : List Int), vCJ m p = (vCJ m []).map (p ++ ·)
 | 0, p => by simp [vCJ]
 | m + 1, p => by
   rw [vCJ, vCJ, List.map_append, zHK m (p ++ [1]), zHK m (p ++ [2]), List.nil_append, List.nil_append, zHK m [1], zHK m [2], List.map_map, List.map_map]
   congr 1 <;> exact List.map_congr_left fun q _ => by simp
theorem uG7 {m i : Nat} {ph : Nat} (h1 : ph = 1 ∨ ph = 2) (hi : i < 2 ^ m) : (vCJ (m + 1) [])[(ph - 1) * 2 ^ m + i]! = (ph : Int) :: (vCJ m [])[i]! := by
 have l := zEW m [];have e := zEW (m + 1) [];have l1 := zEW m [1];have l2 := zEW m [2];rw [getElem!_pos _ i (by omega)];rcases h1 with rfl | rfl
 ·rw [getElem!_pos _ _ (by omega)]
  simp only [vCJ, List.nil_append, show (1 - 1) * 2 ^ m + i = i by omega];rw [List.getElem_append_left (by omega)];simp only [zHK m [1], List.getElem_map]; rfl
 ·rw [getElem!_pos _ _ (by omega)]
  simp only [vCJ, List.nil_append];rw [List.getElem_append_right (by omega)];simp only [zHK m [2], List.getElem_map, l1, zHK m [1], List.length_map, l, show (2 - 1) * 2 ^ m + i - 2 ^ m = i by omega]; rfl
theorem vXF {l : List (List Int)} {j : Nat} {q : List Int} (h : j < l.length) (e : l[j]! = q) : (l.take j).map ints ++ [ints q] = (l.take (j + 1)).map ints := by
 rw [List.take_succ_eq_append_getElem h, List.map_append, ← getElem!_pos l j h, e]; rfl
theorem vT3 {h : Hp} {n : Nat} (p : List Int) : frz h (n + 1) (ints p) = some (ints p, []) := by cases n <;> rfl
theorem vMC (l : List (List Int)) : ∀ e ∈ l.map (fun p => ints p), nr 3 e = true ∧ e ≠ .any := zAW fun _ => ⟨rfl, by simp⟩
theorem vMK : FO 59 Tryz.f59 [.tmp 2] 37 := mkO Tryz.func59 Tryz.ntmps59 Tryz.results59
theorem uFQ : ∀ (m : Nat), m ≤ 6 → Fn 59 [.int .i64 m] (.data (.imm ((vCJ m []).map (fun p => ints p)))) := by
 intro m
 induction m with
 | zero =>
   intro _;refine zAN vA6 hT vMK (by simp) ?_;refine sts ?_
   all_goals try (exfalso; omega)
   exact zAB rfl rfl
 | succ m ih =>
   intro hm;have ih := ih (by omega);have hl := zEW m [];have hL := zEW (m + 1) [];have hp : 2 ^ m ≤ 2 ^ 6 := Nat.pow_le_pow_right (by decide) (by omega);have ea : ((m + 1 : Nat) : Int) - 1 = (m : Nat) := by omega
   refine zAN vA6 hT vMK (by simp) ?_;refine sts ?_
   all_goals try (exfalso; omega)
   rw [ea];refine zAA ih rfl ?_;refine sts ?_
   refine zBP hT [(.sl 4, 1, false)] (fun (ph : Nat) => [(3, .imm ((vCJ m []).map (fun p => ints p))), (4, .own 0 0 ((ph - 1) * 2 ^ m)), (5, .int .i64 ph)]) (fun ph => [(0, ⟨((vCJ (m + 1) []).take ((ph - 1) * 2 ^ m)).map (fun p => ints p), 1, false⟩)]) [] 1
    (fun ph => 1 ≤ ph ∧ ph ≤ 3) (fun ph => 3 - ph) 1 ⟨Nat.le_refl _, by decide⟩ (by decide) (by simp) ⟨rfl, trivial⟩ ?_ ?_
   ·exact ⟨[_], [], [], [], ttt, ⟨zAE rfl rfl, zAF (by decide) rfl (by simp), zAC rfl rfl, trivial⟩, ⟨zAD (by decide) rfl (by simp) (vMC _) rfl, trivial⟩, by simp [ren]⟩
   rintro ph ⟨h1, h3⟩
   by_cases hph : ph ≤ 2
   ·have hpc : ph = 1 ∨ ph = 2 := by omega
    (repeat' (first|refine stp ?_|with_reducible(refine brr ?_ ?_<;>intro h)));all_goals try(conv=>whnf)
    all_goals try (exfalso; omega)
    refine zAG hT (fun (i : Nat) => [(3, .imm ((vCJ m []).map (fun p => ints p))), (4, .own 0 0 ((ph - 1) * 2 ^ m + i)), (5, .int .i64 ph), (6, .int .i64 i)]) (fun i => [(0, ⟨((vCJ (m + 1) []).take ((ph - 1) * 2 ^ m + i)).map (fun p => ints p), 1, false⟩)]) [] 1
     (fun i => i ≤ 2 ^ m) (fun i => 2 ^ m - i) 0 (Nat.zero_le _) (by decide) (by simp) ?_ ?_
    ·exact ⟨[_], [], [], [], ttt, ⟨zAE rfl rfl, zAF (by decide) rfl rfl, zAC rfl rfl, zAC rfl rfl, trivial⟩, ⟨zAD (by decide) rfl rfl (vMC _) rfl, trivial⟩, by simp [ren]⟩
    intro i i1;have hmul : (ph - 1) * 2 ^ m ≤ 2 ^ m := by rcases hpc with rfl | rfl <;> omega
    have hlen : ((vCJ (m + 1) []).take ((ph - 1) * 2 ^ m + i)).length = (ph - 1) * 2 ^ m + i := by rw [List.length_take]; omega
    by_cases hi : i < 2 ^ m
    ·have hat := uG7 (m := m) (i := i) hpc hi
     have hsn := vXF (l := vCJ (m + 1) []) (j := (ph - 1) * 2 ^ m + i) (by omega) hat;have hq := vFP m [] _ (get_mem (l := vCJ m []) (i := i) (by omega));simp only [List.length_nil] at hq
     (repeat' (first|refine stp ?_|with_reducible(refine brr ?_ ?_<;>intro h)));all_goals try(conv=>whnf)
     all_goals try (exfalso; omega)
     have eo : (ph - 1) * 2 ^ m + i + 1 = (ph - 1) * 2 ^ m + (i + 1) := by omega
     rw [eo] at hsn
     exact ⟨i + 1, ⟨by omega, by show 2 ^ m - (i + 1) < 2 ^ m - i; omega⟩, [14], [12], [], [(14, ((vCJ (m + 1) []).take ((ph - 1) * 2 ^ m + i)).map (fun p => ints p) ++ [ints ((ph : Int) :: (vCJ m [])[i]!)])],
      ⟨⟨⟨_, rfl⟩, trivial⟩, trivial, ⟨⟨_, 6, _, rfl, zEK (zAH (f := PV.int .i64) (l := (ph : Int) :: (vCJ m [])[i]!) rfl rfl (by simp [Nat.add_comm]) fun _ => rfl) (zHN vT3 _), rfl⟩, trivial⟩⟩,
      ⟨zAE rfl rfl, zAF (by decide) rfl eo, zAC rfl rfl, zAC rfl (by omega), trivial⟩, ⟨zAD (by decide) rfl hsn (vMC _) rfl, trivial⟩, by simp [ren]⟩
    ·(repeat' (first|refine stp ?_|with_reducible(refine brr ?_ ?_<;>intro h)));all_goals try(conv=>whnf)
     all_goals try (exfalso; omega)
     have e1 : (ph - 1) * 2 ^ m + i = (ph + 1 - 1) * 2 ^ m := by rcases hpc with rfl | rfl <;> omega
     exact ⟨ph + 1, ⟨⟨by omega, by omega⟩, by omega⟩, [0], [], [], [], ttt, ⟨zAE rfl rfl, zAF (by decide) rfl e1, zAC rfl (by omega), trivial⟩, ⟨zAD (by decide) rfl (by rw [e1]) (vMC _) rfl, trivial⟩, by simp [ren]⟩
   ·have e3 : ph = 3 := by omega
    subst e3;refine sts ?_
    all_goals try (exfalso; omega)
    have et : (vCJ (m + 1) []).take ((3 - 1) * 2 ^ m) = vCJ (m + 1) [] := List.take_of_length_le (by omega);exact zAB (zAH (f := fun p => ints p) rfl (by rw [et]) (by omega) fun p => vT3 p) rfl
theorem vR0 : FO 120 Tryz.f120 [.cell 2 37] 8 := mkO Tryz.func120 Tryz.ntmps120 Tryz.results120
theorem vZW (v : Int) : Fn 120 [.int .i64 v] (.data (vA5 (vB6 v))) := by
 have c1 := zF2 1 (by decide);rw [show ((1 : Int) : Rat) = 1 by rfl] at c1;rw [vIZ];refine zAN vA6 hT vR0 (by simp) ?_;refine sts ?_;refine zAA c1 rfl ?_;refine sts ?_;exact zAB rfl rfl
theorem vYQ : FO 62 Tryz.f62 [.tmp 2] 37 := mkO Tryz.func62 Tryz.ntmps62 Tryz.results62
theorem uFP (r : RegL) (hl : r.lo.length ≤ 20) (hh : r.hi.length = r.lo.length) (hb : ∀ i, i < r.lo.length → (sz 60 (qv r.lo[i]!) ∧ r.lo[i]! = cr (qv r.lo[i]!)) ∧ sz 60 (qv r.hi[i]!) ∧ r.hi[i]! = cr (qv r.hi[i]!)) (hr : r.rows.map vBD = (r.rows.map AffL.Q).map vA5) (hrl : r.rows.length ≤ 1000) : Fn 62 [vBG r] (.fresh ((uB3 r).map vA5) 4 true) := by
 refine vGN vA6 hT vYQ (by simp [vBG]) ?_;refine sts ?_
 refine zBP hT [(.sl 3, 4, true)] (fun (i : Nat) => [(1, .ptr 0 0 0), (3, .own 1 0 (2 * i)), (4, .int .i64 i)]) (fun i => [(0, ⟨[vBG r], 3, true⟩), (1, vDC (uB4 r i))]) [] 2
  (fun i => i ≤ r.lo.length) (fun i => r.lo.length - i) 0 (Nat.zero_le _) (by decide) (by simp) ⟨rfl, trivial⟩ ?_ ?_
 ·exact ⟨[0, _], [], [], [], ttt, ⟨(apy rfl), zAF (by decide) rfl rfl, zAC rfl rfl, trivial⟩, ⟨bbx, zAD (by decide) rfl rfl (zAZ []) rfl, trivial⟩, by simp [ren]⟩
 intro i i1;have hil := zK2 r i;by_cases hi : i < r.lo.length
 ·obtain ⟨⟨b1, b2⟩, b3, b4⟩ := hb i hi
  have hsu := vJI r i;have hvs : Srt (vB6 i).ts := ⟨List.pairwise_singleton _ _, fun p hp => by rw [List.mem_singleton.1 hp]; show (1 : Rat) ≠ 0; decide⟩;have hvz : szF 1 (vB6 i) := ⟨(⟨by decide, by decide⟩ : sz 1 (0 : Rat)), fun p hp => by rw [List.mem_singleton.1 hp]; exact (⟨by decide +kernel, by decide +kernel⟩ : sz 1 (1 : Rat))⟩;generalize qv r.lo[i]! = a at *
  generalize qv r.hi[i]! = b at *
  have d1 := vZW (i : Int);have d2 := vLB (vB6 i) ⟨[], a⟩ 1 60 hvz ⟨b1, fun p hp => by cases hp⟩ hvs zCD (by decide) (by omega) (show 1 + 0 ≤ 2097140 by decide);rw [zFN hvs zCD] at d2;have d3 := vLB ⟨[], b⟩ (vB6 i) 60 1 ⟨b3, fun p hp => by cases hp⟩ hvz zCD hvs (by decide) (by omega) (show 0 + 1 ≤ 2097140 by decide);rw [zFN zCD hvs] at d3
  (repeat' (first|refine stp ?_|with_reducible(refine brr ?_ ?_<;>intro h)));all_goals try(conv=>whnf)
  all_goals try (exfalso; omega)
  refine zAA d1 rfl ?_;refine sts ?_;rw [b2];refine zAA d2 rfl ?_;refine sts ?_;rw [b4];refine zAA d1 rfl ?_;refine sts ?_;refine zAA d3 rfl ?_;refine sts ?_;exact ⟨i + 1, ⟨by omega, by show r.lo.length - (i + 1) < r.lo.length - i; omega⟩, [0, _], [], [], [], ttt, ⟨(apy rfl), zAF (by decide) rfl (by first | rfl | simp | omega), zAC rfl rfl, trivial⟩, ⟨bbx, zAD (by decide) rfl (by rw [hsu, List.map_append]; rfl) (zAZ _) rfl, trivial⟩, by simp [ren]⟩
 ·have ei : i = r.lo.length := by omega
  subst ei
  (repeat' (first|refine stp ?_|with_reducible(refine brr ?_ ?_<;>intro h)));all_goals try(conv=>whnf)
  all_goals try (exfalso; omega)
  have el : (uB3 r).length = 2 * r.lo.length + r.rows.length := by simp [uB3, zK2]
  refine zGH rfl ?_ ?_ rfl (zL5 (fun x => zJL x) _)
  ·rw [hr]; simp [uB3]
  ·simp [el]
set_option maxHeartbeats 4000000
theorem vOK (q : QryL) (n : Nat) (p : List Int) : uA5 (usQ q) n p = vCK q n p := by
 unfold uA5 vEN vCK;refine List.map_congr_left fun j hj => ?_
 rw [if_pos (List.mem_range.1 hj)]
theorem vKM : FO 25 Tryz.f25 [.tmp 2, .cell 3 35] 96 := mkO Tryz.func25 Tryz.ntmps25 Tryz.results25
theorem vPW (q : QryL) (kg n : Nat) (h : smQ q kg) (hkg : kg ≤ 200) (hn : q.g.ins = (n : Int)) : Fn 25 [vA7 q] (.data (.tup [.int .i64 (vK6 q n).1, vAZ (cr (vK6 q n).2)])) := by
 obtain ⟨n1, n2, n3, n4⟩ := h.nn hn;have hul := zCJ q;have hun := h.un;have hu := h.us hn;have hrl := h.rows
 have eR2 : q.r.rows.map vBD = (q.r.rows.map AffL.Q).map vA5 := by
  rw [List.map_map];refine List.map_congr_left fun a ha => ?_
  obtain ⟨j, hj, rfl⟩ := List.getElem_of_mem ha;have h1 := h.va.2.1.2.2.2.2.2 j hj;rw [getElem!_pos _ j hj] at h1;exact (zGM h1).symm
 have eT : q.goal.terms.map vBW = q.goal.Q.ts.map vDA := by
  conv => lhs; rw [← uI9 h.va.2.2]
  show (q.goal.Q.ts.map tQ).map vBW = _
  rw [List.map_map]; rfl
 have ec : q.goal.const = cr q.goal.Q.c := h.va.2.2.2;have hgoal := zCX h.va.2.2;rw [hn] at hgoal;have hgz : szF 200 q.goal.Q := zB0 (zBZ hkg h.goal) (by decide);have hft := Nat.le_trans (Nat.le_of_eq (zF4 q.goal)) (zF5 h).2.2;have ca := uFQ (usQ q).length (by omega);have hAl := zEW (usQ q).length [];have hAln := vFP (usQ q).length [];have hAd := vFQ (usQ q).length [] (by simp);have cb := uFP q.r (by omega) (by omega) (fun i hi => by obtain ⟨b1, b2, _, b4, b5⟩ := h.bnd hi; exact ⟨⟨b1, b4⟩, b2, b5⟩) eR2 (by omega);have hbl : (uB3 q.r).length ≤ 14 := by simp [uB3, zK2]; omega
 have hz : ∀ j, sz 2 (pP q n j).2 := fun j => uBF _ _
 have hpw : 2 ^ (usQ q).length ≤ 2 ^ 4 := Nat.pow_le_pow_right (by decide) (by omega);refine zAN vA6 hT vKM (by simp [vA7]) ?_;rw [hul] at ca;refine sts ?_;refine zAA ca (by rw [List.length_map]; rfl) ?_;rw [show ((vCJ q.g.units.length []).map fun p => ints p) = (vCJ (usQ q).length []).map (fun p => ints p) by rw [hul]];refine sts ?_
 refine zAG hT (fun ((j, s) : Nat × (Int × Rat)) => [(1, .ptr 0 0 0), (3, .ptr 1 0 0), (4, .int .i64 s.1), (5, .ptr 2 0 0), (6, .imm ((vCJ (usQ q).length []).map (fun p => ints p))), (7, .int .i64 j)]) (fun (_, s) => [(0, ⟨[vA7 q], 10, true⟩), (1, ⟨[.agg [.bool false, .nilsl, .nilsl]], 3, true⟩), (2, ⟨[vAZ (cr s.2)], 3, true⟩)]) [] 3
  (fun (j, s) => j ≤ 2 ^ (usQ q).length ∧ vEI (pP q n) j = some s) (fun (j, _) => 2 ^ (usQ q).length - j) (0, (2, 0)) ⟨Nat.zero_le _, rfl⟩ (by decide) (by simp) ?_ ?_
 ·exact ⟨[_, _, 4], [], [], [(4, [vAZ (cr 0)])], ⟨trivial, trivial, ⟨⟨_, 6, _, rfl, rfl, rfl⟩, trivial⟩⟩, ⟨(apy rfl), (apy rfl), zAC rfl rfl, (apy rfl), zAE rfl rfl, zAC rfl rfl, trivial⟩, ⟨bbx, bbx, bbx, trivial⟩, by simp [ren]⟩
 intro ⟨j, s⟩ ⟨j1, j2⟩;have hsz := vK7 hz j s j2;by_cases hj : j < 2 ^ (usQ q).length
 ·have hm := get_mem (l := vCJ (usQ q).length []) (i := j) (by omega)
  have ep : vDQ q j = (vCJ (usQ q).length [])[j]! := rfl;have hpl := hAln _ hm;have hpd := hAd _ hm;rw [← ep] at hpl hpd;have e1 : (vCJ (usQ q).length [])[j]! = vDQ q j := rfl;have hPj : pP q n j = vEU (vDY n (vFD q n (vDQ q j)) (vCF q n (vDQ q j))) n := rfl;have hgo := zKR h hkg hn (vDQ q j);have hro := vLZ h hn (vDQ q j);have hzj := hz j;have hc : vWN q.g (vDQ q j) := ⟨h.va.1, by rw [hpl, hul]; simp, fun i hi => hpd _ (get_mem hi)⟩;have hsR : szR q.g (vDQ q j) n 200 (vDN n) := fun i hi => ⟨zGI hu i (by omega), Nat.le_trans (zGX hu (by omega)) (by decide)⟩
  have c1 := vPT q.g (vDQ q j) n 200 (vDN n) (zCV (by decide) h.g) (by decide) (by decide) hc (by simp at hpl; omega) hn hsR;have c2 := vPO q.g (vDQ q j) n 200 (vDN n) (zCV (by decide) h.g) (by decide) (by decide) hc (by simp at hpl; omega) hn hsR;have hfl := zBX (usQ q) n (vDQ q j) (usQ q).length;have hS := zGX (n := n) hu (j := (usQ q).length) (Nat.le_refl _);rw [← hfl] at hS;have c3 := vPP q.goal.Q (vBH (usQ q) n (vDQ q j) (usQ q).length) n 200 (vDN n) (zGI hu _ (Nat.le_refl _)) (by omega) hgz (by rw [hfl, hul]; exact_mod_cast hgoal) (by omega) (by omega) (by omega);rw [show vBE q.goal.Q (vBH (usQ q) n (vDQ q j) (usQ q).length) = vCF q n (vDQ q j) from rfl] at c3;rw [show uA5 q.g.us n (vDQ q j) = vCK q n (vDQ q j) from vOK q n _] at c2;have hpl2 : (vCK q n (vDQ q j)).length = (usQ q).length := by simp [vCK]
  have c4 := vVX n (vFD q n (vDQ q j)) (vCF q n (vDQ q j)) 40001 (by omega) (by decide) (by decide) (zD7 (by decide) hgo.2.1) hgo.1 hro (by simp [vFD]; omega);rw [← hPj] at c4;have hds := vUR j2;have hcmp := zEP (cr (pP q n j).2) (cr s.2) (zAI _) (zAI _) (by have := zAL hzj; omega) (by have := zAL hzj; omega) (by have := zAL hsz; omega) (by have := zAL hsz; omega);rw [zAQ, zAQ] at hcmp;rw [show q.g.us = usQ q from rfl] at c1
  (repeat' (first|refine stp ?_|with_reducible(refine brr ?_ ?_<;>intro h)));all_goals try(conv=>whnf)
  all_goals try (exfalso; omega)
  rw [e1];refine zAA c1 rfl ?_;refine sts ?_;rw [e1];refine zAA c2 rfl ?_;refine sts ?_
  all_goals try (exfalso; omega)
  refine zFY cb rfl ?_;refine sts ?_;rw [eT, ec];refine zAA c3 rfl ?_;refine sts ?_;rw [hn];refine zAA c4 (zAP (zC7 (zAP (ks := []) rfl (zAP (zAH (f := vA5) (l := vFD q n (vDQ q j)) rfl (by simp [vFD]) (by simp [vFD]) zJL) rfl))) rfl) ?_;have hdj : vK6 q n = vPJ (pP q n) (2 ^ (usQ q).length) := rfl;clear c1 c2 c3 c4 cb;generalize pP q n j = P at *
  (repeat' (first|refine stp ?_|with_reducible(refine brr ?_ ?_<;>intro h)));all_goals try(conv=>whnf)
  all_goals try (exfalso; omega)
  ·rw [hdj, vI3 (j := j + 1) (by rw [hds, if_pos (by omega)]) (by omega)]
   exact zAB rfl (by rw [zC1]; rfl)
  ·rw [hdj, vI3 (j := j + 1) (by rw [hds, if_pos (by omega)]) (by omega)]
   exact zAB rfl (by rw [zC1]; rfl)
  ·exact ⟨(j + 1, P), ⟨⟨by omega, by rw [hds, if_neg (by omega), if_pos ⟨by omega, Or.inl (by omega)⟩]⟩, by show 2 ^ (usQ q).length - (j + 1) < 2 ^ (usQ q).length - j; omega⟩, [0, 1, 2], [], [], [], ttt, ⟨apx, apx, zAC rfl rfl, apx, zAE rfl rfl, zAC rfl rfl, trivial⟩, ⟨bbx, bbx, bbx, trivial⟩, by simp [ren]⟩
  ·refine zAA hcmp rfl ?_
   (repeat' (first|refine stp ?_|with_reducible(refine brr ?_ ?_<;>intro h)));all_goals try(conv=>whnf)
   ·exact ⟨(j + 1, P), ⟨⟨by omega, by rw [hds, if_neg (by omega), if_pos ⟨by omega, Or.inr (by have := sgnQ_neg.1 (show vBS (P.2 - s.2) < 0 by assumption); grind)⟩]⟩, by show 2 ^ (usQ q).length - (j + 1) < 2 ^ (usQ q).length - j; omega⟩, [0, 1, 2], [], [], [], ttt, ⟨apx, apx, zAC rfl rfl, apx, zAE rfl rfl, zAC rfl rfl, trivial⟩, ⟨bbx, bbx, bbx, trivial⟩, by simp [ren]⟩
   ·exact ⟨(j + 1, s), ⟨⟨by omega, by rw [hds, if_neg (by omega), if_neg (by rintro ⟨_, e | e⟩; omega; exact absurd (sgnQ_neg.2 (show P.2 - s.2 < 0 by grind)) (by assumption))]⟩, by show 2 ^ (usQ q).length - (j + 1) < 2 ^ (usQ q).length - j; omega⟩, [0, 1, 2], [], [], [], ttt, ⟨apx, apx, zAC rfl rfl, apx, zAE rfl rfl, zAC rfl rfl, trivial⟩, ⟨bbx, bbx, bbx, trivial⟩, by simp [ren]⟩
  ·exact ⟨(j + 1, s), ⟨⟨by omega, by rw [hds, if_neg (by omega), if_neg (by omega)]⟩, by show 2 ^ (usQ q).length - (j + 1) < 2 ^ (usQ q).length - j; omega⟩, [0, 1, 2], [], [], [], ttt, ⟨apx, apx, zAC rfl rfl, apx, zAE rfl rfl, zAC rfl rfl, trivial⟩, ⟨bbx, bbx, bbx, trivial⟩, by simp [ren]⟩
 ·have ej : j = 2 ^ (usQ q).length := by omega
  rw [show vK6 q n = vPJ (pP q n) (2 ^ (usQ q).length) from rfl, vUQ (by rw [← ej]; exact j2)]
  (repeat' (first|refine stp ?_|with_reducible(refine brr ?_ ?_<;>intro h)));all_goals try(conv=>whnf)
  all_goals try (exfalso; omega)
  exact zAB rfl rfl
set_option maxHeartbeats 4000000
theorem zEX : FO 7 Tryz.f7 [.tmp 4] 71 := mkO Tryz.func7 Tryz.ntmps7 Tryz.results7
theorem zMK (raw at_ : List Int) (h1 : vMN raw) (h2 : vMN at_) : Fn 7 [.imm (raw.map (.int .u8)), .imm (at_.map (.int .u8))] (.data (.bool true)) := by
 obtain ⟨n, x, hB⟩ := uIT raw at_ h2;have l1 := h1.1;have ca := vV4;have ci := vPU raw h1;have cx := hB.ins;have hsm := hB.sm;have hnn := hB.hn;by_cases hlen : raw.length ≤ 200
 rotate_left
 ·refine zAN vA6 hT zEX (by simp) ?_
  refine sts ?_;refine zAA ca rfl ?_
  (repeat' (first|refine stp ?_|with_reducible(refine brr ?_ ?_<;>intro h)));all_goals try(conv=>whnf)
  all_goals first | exact zAB rfl rfl | (exfalso; omega)
 have kA := vJB (vCL raw) 199 n hsm (by decide) hnn;have kD := vPW (vCL raw) 199 n hsm (by decide) hnn;have hdz : sz 2 (vK6 (vCL raw) n).2 := uEY (fun j => uBF _ _) _;have lD := zAL hdz
 have key : ∀ y : List Rat, y.length = n → (∀ r ∈ y, sz 200 r) → vEE (vCL raw) y →
  Fn 15 [vA7 (vCL raw), .imm (y.map vBF)] (.data (.bool true)) ∧
  Fn 23 [vA8 (vCL raw).g, .imm (y.map vBF)] (.data (.tup [.imm ((vlQ (vCL raw) y).map vBF), .int .i64 0])) ∧
  Fn 24 [vBD (vCL raw).goal, .imm ((vlQ (vCL raw) y).map vBF)] (.data (.tup [vAZ (cr (vBX (vCL raw) y)), .int .i64 0])) ∧
  (∃ z, vBS ((vK6 (vCL raw) n).2 - vBX (vCL raw) y) = z ∧ ((vK6 (vCL raw) n).1 = 0 ∨ (vK6 (vCL raw) n).1 = 1 ∧ z ≤ 0) ∧
    Fn 26 [vAZ (cr (vK6 (vCL raw) n).2), vAZ (cr (vBX (vCL raw) y))] (.data (.int .i64 z))) := by
  intro y hyl hys hyw;obtain ⟨hin, hv⟩ := (uAN hsm).1 hyw;have k2 := vVA (vCL raw) 199 y hsm (by decide) (by have := hB.n3; omega) hys;rw [dB_true.2 hyw] at k2;have z1 := zAL (vWQ hsm hnn hyl hys);have kc := zEP (cr (vK6 (vCL raw) n).2) (cr (vBX (vCL raw) y)) (zAI _) (zAI _) (by omega) (by omega) (by omega) (by omega);rw [zAQ, zAQ] at kc;refine ⟨k2, vQE hsm hnn hyl hys, vQF hsm (by decide) hnn hyl hys, _, rfl, ?_, kc⟩;rcases vPK hsm (by decide) hnn hyl hin with e | ⟨e1, e2⟩
  ·exact Or.inl e
  ·refine Or.inr ⟨e1, Int.not_lt.1 fun e => ?_⟩
   have := sgnQ_pos.1 e
   grind
 generalize (vK6 (vCL raw) n).2 = DV at *
 generalize (vK6 (vCL raw) n).1 = DS at *
 cases hA : uAH (vCL raw) n (2 ^ n) with
 | some y =>
   rw [hA] at kA;obtain ⟨p1, p2, _⟩ := uIU hsm hnn hA;obtain ⟨k1, k2, k3, z, hz, hd, k4⟩ := key y p1.len p1.sz p2;clear hz;generalize vBX (vCL raw) y = WV at *
   generalize vlQ (vCL raw) y = VL at *
   refine zAN vA6 hT zEX (by simp) ?_;refine sts ?_;refine zAA ca rfl ?_
   (repeat' (first|refine stp ?_|with_reducible(refine brr ?_ ?_<;>intro h)));all_goals try(conv=>whnf)
   all_goals try (exfalso; omega)
   refine zAA ci rfl ?_;refine sts ?_;refine zAA kA rfl ?_;refine sts ?_;refine zAA k1 rfl ?_;refine sts ?_;refine zAA k2 rfl ?_;refine sts ?_;refine zAA k3 rfl ?_;refine sts ?_;refine zAA kD rfl ?_
   (repeat' (first|refine stp ?_|with_reducible(refine brr ?_ ?_<;>intro h)));all_goals try(conv=>whnf)
   all_goals try (exfalso; omega)
   ·exact zAB rfl rfl
   ·refine zAA k4 rfl ?_
    refine sts ?_;exact zAB rfl (congrArg PV.bool (decide_eq_true (by omega)))
 | none =>
   rw [hA] at kA;have hxl := hB.len;have k0 := zE1 (vCL raw) 199 x hsm (by decide) (by have := hB.n3; omega) hB.sz;by_cases hw : vEE (vCL raw) x
   ·rw [dB_true.2 hw] at k0
    obtain ⟨k1, k2, k3, z, hz, hd, k4⟩ := key x hxl hB.sz hw;clear hz;generalize vBX (vCL raw) x = WV at *
    generalize vlQ (vCL raw) x = VL at *
    refine zAN vA6 hT zEX (by simp) ?_;refine sts ?_;refine zAA ca rfl ?_
    (repeat' (first|refine stp ?_|with_reducible(refine brr ?_ ?_<;>intro h)));all_goals try(conv=>whnf)
    all_goals try (exfalso; omega)
    refine zAA ci rfl ?_;refine sts ?_;refine zAA kA rfl ?_;refine sts ?_;refine zAA cx rfl ?_;refine sts ?_;refine zAA k0 rfl ?_;refine sts ?_;refine zAA k1 rfl ?_;refine sts ?_;refine zAA k2 rfl ?_;refine sts ?_;refine zAA k3 rfl ?_;refine sts ?_;refine zAA kD rfl ?_
    (repeat' (first|refine stp ?_|with_reducible(refine brr ?_ ?_<;>intro h)));all_goals try(conv=>whnf)
    all_goals try (exfalso; omega)
    ·exact zAB rfl rfl
    ·refine zAA k4 rfl ?_
     refine sts ?_;exact zAB rfl (congrArg PV.bool (decide_eq_true (by omega)))
   ·rw [dB_false.2 hw] at k0
    refine zAN vA6 hT zEX (by simp) ?_;refine sts ?_;refine zAA ca rfl ?_
    (repeat' (first|refine stp ?_|with_reducible(refine brr ?_ ?_<;>intro h)));all_goals try(conv=>whnf)
    all_goals try (exfalso; omega)
    refine zAA ci rfl ?_;refine sts ?_;refine zAA kA rfl ?_;refine sts ?_;refine zAA cx rfl ?_;refine sts ?_;refine zAA k0 rfl ?_;refine sts ?_;exact zAB rfl rfl
end Go.PI.Tryz
