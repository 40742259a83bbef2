/-
  The law CheckerUnchanged.
-/
import Derived.Test.YtcinkbieboiffaaGreatCKL
import Derived.Test.YtcinkbieboiffaaGreatCKC
set_option linter.unusedVariables false
set_option linter.unusedSimpArgs false
set_option linter.unnecessarySimpa false
namespace Go.PI.Tryz
open Go.Proofs Go.PI
def zDecV : PV := .agg [.int .i64 0, .int .i64 0, .bool false, .nilsl, .nilsl]
def wiped (p : List DecL) (i : Nat) : List PV := List.replicate i zDecV ++ (p.map encDec).drop i
theorem wiped_len {p : List DecL} {i : Nat} (h : i ≤ p.length) : (wiped p i).length = p.length := by unfold wiped; simp; omega
theorem wiped_set {p : List DecL} {i : Nat} (h : i < p.length) : (wiped p i).set i zDecV = wiped p (i + 1) := by
 unfold wiped;have h2 : i < (p.map encDec).length := by simpa using h
 rw [List.set_append_right _ _ (by simp), List.length_replicate, Nat.sub_self, List.drop_eq_getElem_cons h2, List.set_cons_zero, List.replicate_succ']
 simp
theorem wiped_get {p : List DecL} {i k : Nat} (h : i < p.length) (e : k = (i : Int).toNat) : nth (wiped p i) k = some (encDec p[i]!) := by
 have e : k = i := by omega
 subst e;rw [zDV];unfold wiped;rw [List.getElem?_append_right (by simp), List.length_replicate, Nat.sub_self, List.getElem?_drop, Nat.add_zero, List.getElem?_map, List.getElem?_eq_getElem h, getElem!_pos p k h]; rfl
theorem wiped_nr (p : List DecL) (i : Nat) : ∀ e ∈ wiped p i, nr 3 e = true ∧ e ≠ .any := by
 intro e he;unfold wiped at he;rcases List.mem_append.1 he with he | he
 ·rw [List.eq_of_mem_replicate he]; exact ⟨rfl, by simp [zDecV]⟩
 ·obtain ⟨d, hd, rfl⟩ := List.mem_map.1 (List.mem_of_mem_drop he)
  exact ⟨rfl, by simp [encDec]⟩
theorem zF6 : FO 8 Tryz.f8 [.tmp 2] 90 := mkO Tryz.func8 Tryz.ntmps8 Tryz.results8
theorem zJL (q : QryL) (n : NodeL) (x : List Int) (Bq Bn : Nat) (hi : inB q n Bq Bn) : Fn 8 [encCase q n x] (.data (.bool true)) := by
 obtain ⟨b, hb, cf⟩ := zKB hi;have hnw := hi.wt;have hBB := hi.B;cases b with
 | false =>
   refine zAJ hmix hT zF6 (by simp [encCase]) ?_;refine sns ?_;refine zAA zAX rfl ?_;refine sns ?_;refine zAA cf rfl ?_;refine sns ?_;refine zAA zAX rfl ?_;refine sns ?_;exact zAB rfl rfl
 | true =>
   obtain ⟨f1, f2, f3, f4⟩ := hb rfl;obtain ⟨t1, t0⟩ := zD5 hi f4 (by omega);have crep := zHH n n [] hi.sm hi.sm (by omega) ⟨by decide, fun d hd => by cases hd⟩;have cv := zD2 n hi.sm;have ceq := fun y => zOD _ n y (Nat.lt_succ_self _) hi.sm
   have hrv : n.valid = true → repV n n [] = (n, 0) := fun h => by
    unfold repV;rw [h];simp [repF, h]
   have hps := tree_sm (q := q) hi.sm;have cs := zHQ (treeR q n).1 (treeR q n).1 hps;rw [decide_eq_true rfl] at cs;have ceq2 := zOD _ n n (Nat.lt_succ_self _) hi.sm;rw [decide_eq_true rfl] at ceq2;obtain ⟨R, hR⟩ : ∃ R, treeR q n = R := ⟨_, rfl⟩;obtain ⟨W, hW⟩ : ∃ W, repV n n [] = W := ⟨_, rfl⟩;have hz := hi.z f4;have hO := fun t p hp => h_ktreeO q n _ _ _ hz.hv hz.q hz.sm hz.cnt hz.z (by have := hz.B; omega) t p hp
   rw [hR] at t1 t0 cs hps hO;rw [hW] at crep hrv;obtain ⟨p, e⟩ := R;dsimp only at t1 t0 cs hps;have hpl : p.length < 2097152 := hps.1;refine zAJ hmix hT zF6 (by simp [encCase]) ?_;refine sus ?_
   (refine zA1 ?_; refine sus ?_)
   refine zAA zAX rfl ?_;refine sus ?_;refine zAA cf rfl ?_;refine sus ?_
   (refine zA1 ?_; refine sus ?_)
   (refine zA1 ?_; refine sus ?_)
   refine zAA crep rfl ?_;refine sus ?_;by_cases h12 : e = 12
   ·subst h12
    refine tellV [] [(1, .cptr (encCase q n x) 0), (3, .cptr (nodeV W.1) 0)] [(0, ⟨[encCase q n x], 20, true⟩)] [0] 1 (by decide) (by simp) trivial ⟨[0], [0, 20], [(1, .cptr (encCase q n x) 0), (3, .cptr (nodeV W.1) 0)], [], ⟨⟨⟨_, rfl⟩, ⟨_, rfl⟩, trivial⟩, ⟨⟨6, [0], zH5 rfl rfl, rfl⟩, ⟨6, [20], zH5 rfl rfl, rfl⟩, trivial⟩, trivial⟩, ⟨zBH rfl, zBH rfl, trivial⟩, ⟨bbx, trivial⟩, by simp [ren]⟩ ?_;refine sus ?_;refine zD1 (tree_inl (fun t => hO t p rfl (encCase q n x) ⟨rfl, rfl⟩) rfl rfl rfl fun t k hk => ?_);refine sus ?_;refine tellV [] [(1, .cptr (encCase q n x) 0), (3, .cptr (nodeV W.1) 0), (5, .own 0 0 p.length), (6, .int .i64 12)] [(0, ⟨p.map encDec, 5, true⟩)] [] 1 (by decide) (by simp) trivial ⟨[5], [], [], [], ttt, ⟨zBH rfl, zBH rfl, zAY (by decide) rfl rfl, zAC rfl rfl, trivial⟩, ⟨zAG (by decide) rfl rfl (zAM fun _ => ⟨rfl, by simp [encDec]⟩) rfl, trivial⟩, by simp [ren]⟩ ?_;refine sus ?_
    (refine zA1 ?_; refine sus ?_)
    refine zAN hT (fun (i : Nat) => [(1, .cptr (encCase q n x) 0), (3, .cptr (nodeV W.1) 0), (5, .own 0 0 p.length), (6, .int .i64 12), (7, .int .i64 i)])
     (fun i => [(0, ⟨wiped p i, 5, true⟩)]) [] 1 (fun i => i ≤ p.length) (fun i => p.length - i) 0 (Nat.zero_le _) (by decide) (by simp) ?_ ?_
    ·exact ⟨[0], [], [], [], ttt, ⟨zBH rfl, zBH rfl, zAY (by decide) rfl rfl, zAC rfl rfl, zAC rfl rfl, trivial⟩, ⟨zAG (by decide) rfl (by simp [wiped]) (wiped_nr p 0) rfl, trivial⟩, by simp [ren]⟩
    intro i i1;have hwl := wiped_len (p := p) i1;by_cases hip : i < p.length
    ·(repeat' (first|refine stn ?_|(with_reducible refine brr ?_ ?_<;>intro h)|(with_reducible refine zAF ?_ ?_<;>intro h)|with_reducible refine zAL ?_ ?_)); all_goals try (conv=>whnf)
     all_goals try (exfalso; omega)
     refine zLD (wiped_get hip (Nat.zero_add _)) ?_;refine sns ?_;exact ⟨i + 1, ⟨by omega, by show p.length - (i + 1) < p.length - i; omega⟩, [0], [], [], [], ttt, ⟨zBH rfl, zBH rfl, zAY (by decide) rfl rfl, zAC rfl rfl, zAC rfl rfl, trivial⟩, ⟨zAG (by decide) rfl (by rw [← wiped_set hip]; show (wiped p i).set (0 + (i : Int).toNat) _ = _; rw [Nat.zero_add, Int.toNat_natCast]; rfl) (wiped_nr p _) rfl, trivial⟩, by simp [ren]⟩
    ·obtain rfl : i = p.length := by omega
     (repeat' (first|refine stn ?_|(with_reducible refine brr ?_ ?_<;>intro h)|(with_reducible refine zAF ?_ ?_<;>intro h)|with_reducible refine zAL ?_ ?_)); all_goals try (conv=>whnf)
     all_goals try (exfalso; omega)
     refine zAA t1 rfl ?_;refine sns ?_;refine zAA t0 rfl ?_;refine sns ?_;refine zAA cs rfl ?_;refine sns ?_;refine zAA cv rfl ?_
     (repeat' (first|refine stn ?_|(with_reducible refine brr ?_ ?_<;>intro h)|(with_reducible refine zAF ?_ ?_<;>intro h)|with_reducible refine zAL ?_ ?_)); all_goals try (conv=>whnf)
     ·have hwn := hrv (by assumption)
      rw [hwn];refine zAA ceq2 rfl ?_;refine sns ?_;exact zAB rfl rfl
     ·exact zAB rfl rfl
   ·have hl0 : p.length = 0 := by
     unfold treeR at hR
     split at hR
     ·split at hR
      ·cases hR; rfl
      ·cases hR; exact absurd rfl h12
     ·cases hR; rfl
    have hp0 : p = [] := List.length_eq_zero_iff.1 hl0;subst hp0
    (refine zA1 ?_; refine sus ?_)
    refine zAA t1 rfl ?_;refine sus ?_
    (refine zA1 ?_; refine sus ?_)
    (refine zA1 ?_; refine sus ?_)
    refine zAN hT (fun (_ : Nat) => [(1, .ptr 0 0 0), (3, .ptr 1 0 0), (5, .imm []), (6, .int .i64 e), (7, .int .i64 0)])
     (fun _ => [(0, ⟨[encCase q n x], 20, true⟩), (1, ⟨[nodeV W.1], 9, true⟩)]) [] 2 (fun i : Nat => i ≤ 0) (fun i => 0 - i) 0 (Nat.zero_le _) (by decide) (by simp) ?_ ?_
    ·exact ⟨[0, 20], [], [], [], ttt, ⟨apx, apx, zAE rfl rfl, zAC rfl rfl, zAC rfl rfl, trivial⟩, ⟨bbx, bbx, trivial⟩, by simp [ren]⟩
    intro i i1;refine sns ?_;refine zAA t1 rfl ?_;refine sns ?_;refine zAA t0 rfl ?_
    (repeat' (first|refine stn ?_|(with_reducible refine brr ?_ ?_<;>intro h)|(with_reducible refine zAF ?_ ?_<;>intro h)|with_reducible refine zAL ?_ ?_)); all_goals try (conv=>whnf)
    all_goals try (exact absurd trivial (by assumption))
    refine zAA cs rfl ?_;refine sns ?_;refine zAA cv rfl ?_
    (repeat' (first|refine stn ?_|(with_reducible refine brr ?_ ?_<;>intro h)|(with_reducible refine zAF ?_ ?_<;>intro h)|with_reducible refine zAL ?_ ?_)); all_goals try (conv=>whnf)
    ·have hwn := hrv (by assumption)
     rw [hwn];refine zAA ceq2 rfl ?_;refine sns ?_;exact zAB rfl (by simp)
    ·exact zAB rfl (by simp)
end Go.PI.Tryz
