/-
  Forms of the reference: Add and Sub of sorted forms, whose coefficients grow but once.
-/
import Derived.Test.YtigeioodiljlaaaGreatCRC
import Derived.Test.YtigeioodiljlaaaGreatCPE
set_option linter.unusedVariables false
set_option linter.unusedSimpArgs false
set_option linter.unnecessarySimpa false
namespace Go.PI.Tryz
open Go.Proofs Go.PI
set_option maxHeartbeats 0
theorem cf_mem : ∀ {l : List QT} {p : QT}, Srt l → p ∈ l → cf l p.1 = p.2
 | q :: l, p, h, hp => by
   have h' := srt_cons.1 h;simp only [cf];rcases List.mem_cons.1 hp with rfl | hp
   ·rw [if_pos rfl, zHX (fun r hr => by have := h'.1 r hr; omega)]; grind
   ·have := h'.1 p hp
    rw [if_neg (by omega), cf_mem h'.2.2 hp]; grind
theorem cf_sz {k : Nat} : ∀ {l : List QT} (v : Int), Srt l → (∀ p ∈ l, sz k p.2) → 1 ≤ k → sz k (cf l v)
 | [], v, _, _, hk => zC5 hk (zCM 1 (by decide)).1
 | q :: l, v, h, hl, hk => by
   have h' := srt_cons.1 h;by_cases e : v = q.1
   ·rw [e, cf_mem h (List.mem_cons_self ..)]; exact hl q (List.mem_cons_self ..)
   ·have ih := cf_sz v h'.2.2 (fun p hp => hl p (List.mem_cons_of_mem _ hp)) hk
    have e2 : cf (q :: l) v = cf l v := by simp only [cf]; rw [if_neg (fun x => e x.symm)]; grind
    rw [e2]; exact ih
theorem srt_take {l : List QT} (h : Srt l) (i : Nat) : Srt (l.take i) := ⟨h.1.sublist (List.take_sublist _ _), fun p hp => h.2 p (List.mem_of_mem_take hp)⟩
theorem addL_sz2 {l g : List QT} {kf kg : Nat} (hl : Srt l) (hg : Srt g) (h1 : ∀ p ∈ l, sz kf p.2) (h2 : ∀ p ∈ g, sz kg p.2) (hkf : 1 ≤ kf) (hkg : 1 ≤ kg) : ∀ p ∈ addL l g, sz (kf + kg + 1) p.2 := fun p hp => by
 obtain ⟨h3, h4⟩ := zJ0 (g := g) hl;rw [← cf_mem h3 hp, h4];exact zDQ (cf_sz _ hl h1 hkf) (cf_sz _ hg h2 hkg)
theorem ok_radd5 : FO 83 Tryz.f83 [.cell 4 29] 43 := mkO Tryz.func83 Tryz.ntmps83 Tryz.results83
theorem c_radd5 (f g : QF) (kf kg : Nat) (hf : szF kf f) (hg : szF kg g) (hsf : Srt f.ts) (hsg : Srt g.ts) (hkf : 1 ≤ kf) (hkg : 1 ≤ kg) (hk : kf + kg + 10 ≤ 949999980) (hl : f.ts.length + g.ts.length ≤ 2097140) : Fn 83 [encF f, encF g] (.data (encF (addR f g))) := by
 have lf := zAY hf.1;have lg := zAY hg.1;have hs0 := zDQ hf.1 hg.1;have ca := zHF (cr f.c) (cr g.c) (zAR _) (zAR _) (by omega) (by omega) (by omega) (by omega);rw [zA3, zA3] at ca;unfold addR;obtain ⟨C, hC⟩ : ∃ C, f.c + g.c = C := ⟨_, rfl⟩;rw [hC] at ca hs0;rw [hC];refine zAO hmix hT ok_radd5 (by simp [encF]) ?_;refine sts ?_;refine zAA ca rfl ?_;refine sts ?_
 refine zAH hT (fun ((i, l) : Nat × List QT) => [(3, .ptr 0 0 0), (4, .ptr 1 0 0), (5, .ptr 2 0 0), (6, .int .i64 i)])
  (fun (i, l) => [(0, ⟨[encF g], 4, true⟩), (1, ⟨[zeroF], 4, true⟩), (2, ⟨[encF ⟨l, C⟩], 4, true⟩)]) [] 3
  (fun (i, l) => l = addL f.ts (g.ts.take i) ∧ i ≤ g.ts.length ∧ l.length ≤ f.ts.length + i)
  (fun (i, _) => g.ts.length - i) (0, f.ts) ⟨rfl, Nat.zero_le _, Nat.le_refl _⟩ (by decide) (by simp) ?_ ?_
 ·exact ⟨[_, _, _], [], [], [], ttt, ⟨(apy rfl), (apy rfl), (apy rfl), zAC rfl rfl, trivial⟩,
   ⟨bbx, bbx, bbx, trivial⟩, by simp [ren]⟩
 intro ⟨i, l⟩ ⟨i1, i2, i3⟩;by_cases hi : i < g.ts.length
 ·have hp := hg.2 g.ts[i]! (by rw [getElem!_pos g.ts i hi]; exact List.getElem_mem hi)
  have i4 : ∀ p ∈ l, sz (kf + kg + 1) p.2 := by rw [i1]; exact addL_sz2 hsf (srt_take hsg i) hf.2 (fun p hp => hg.2 p (List.mem_of_mem_take hp)) hkf hkg
  have cp := c_rplus ⟨l, C⟩ g.ts[i]!.1 g.ts[i]!.2 (kf + kg + 1) kg ⟨zC5 (by omega) hs0, i4⟩ hp (by omega) (by show l.length ≤ _; omega);have hln := zI0 (v := g.ts[i]!.1) (c := g.ts[i]!.2) (l := l) (d := false)
  have hn : plusL g.ts[i]!.1 g.ts[i]!.2 l false = addL f.ts (g.ts.take (i + 1)) := by
   rw [i1]; unfold addL; rw [List.take_succ_eq_append_getElem hi, List.foldl_append, getElem!_pos g.ts i hi]; rfl
  simp only [Bool.false_eq_true, if_false] at hln
  (repeat' (first|refine stp ?_|with_reducible(refine brr ?_ ?_<;>intro h)));all_goals try(conv=>whnf)
  ·refine zAA cp rfl ?_
   refine sts ?_
   exact ⟨(i + 1, plusL g.ts[i]!.1 g.ts[i]!.2 l false), ⟨⟨hn, by omega, by omega⟩, by show g.ts.length - (i + 1) < g.ts.length - i; omega⟩, [0, 1, 2], [], [], [], ttt,
    ⟨apx, apx, apx, zAC rfl (by omega), trivial⟩,
    ⟨bbx, bbx, bbx, trivial⟩, by simp [ren]⟩
  all_goals (exfalso; omega)
 ·rw [List.take_of_length_le (by omega)] at i1
  subst i1
  (repeat' (first|refine stp ?_|with_reducible(refine brr ?_ ?_<;>intro h)));all_goals try(conv=>whnf)
  all_goals try (exfalso; omega)
  exact zAB (zEO (zAV (zAN rfl (by simp) (by simp) (fun x => zFA x)) rfl)) rfl
theorem ok_rsub5 : FO 44 Tryz.f44 [.cell 4 29] 10 := mkO Tryz.func44 Tryz.ntmps44 Tryz.results44
theorem c_rsub5 (f g : QF) (kf kg : Nat) (hf : szF kf f) (hg : szF kg g) (hsf : Srt f.ts) (hsg : Srt g.ts) (hkf : 1 ≤ kf) (hk : kf + kg + 11 ≤ 949999980) (hl : f.ts.length + g.ts.length ≤ 2097140) : Fn 44 [encF f, encF g] (.data (encF (addR f (scaleR g (-1))))) := by
 have co := zHY (-1) (by decide);rw [show ((-1 : Int) : Rat) = -1 by rfl] at co;have h1 : sz 1 (-1 : Rat) := zFU (z := -1) (by decide);have cs := c_rscale g (-1) kg 1 hg h1 (by omega) (by omega);have hln := sclL_len (c := (-1 : Rat)) (l := g.ts);have ca := c_radd5 f (scaleR g (-1)) kf (kg + 1) hf (scaleR_sz hg h1) hsf (zFX _ hsg).1 hkf (by omega) (by omega) (by show _ + (sclL _ _).length ≤ _; omega);refine zAO hmix hT ok_rsub5 (by simp [encF]) ?_;refine sts ?_;refine zAA co rfl ?_;refine sts ?_;refine zAA cs rfl ?_;refine sts ?_;refine zAA ca rfl ?_;refine sts ?_;exact zAB rfl rfl
end Go.PI.Tryz
