/-
  Forms of the reference: Add and Sub of sorted forms, whose coefficients grow but once.
-/
import Derived.Test.YtdgckinmcnjheaaGreatCRC
import Derived.Test.YtdgckinmcnjheaaGreatCPE
set_option linter.unusedVariables false
set_option linter.unusedSimpArgs false
set_option linter.unnecessarySimpa false
namespace Go.PI.Tryz
open Go.Proofs Go.PI
set_option maxHeartbeats 0
theorem vU0 : ∀ {l : List QT} {p : QT}, Srt l → p ∈ l → cf l p.1 = p.2
 | q :: l, p, h, hp => by
   have h' := srt_cons.1 h;simp only [cf];rcases List.mem_cons.1 hp with rfl | hp
   ·rw [if_pos rfl, zKB (fun r hr => by have := h'.1 r hr; omega)]; grind
   ·have := h'.1 p hp
    rw [if_neg (by omega), vU0 h'.2.2 hp]; grind
theorem vK9 {k : Nat} : ∀ {l : List QT} (v : Int), Srt l → (∀ p ∈ l, sz k p.2) → 1 ≤ k → sz k (cf l v)
 | [], v, _, _, hk => zBE hk (zDT 1 (by decide)).1
 | q :: l, v, h, hl, hk => by
   have h' := srt_cons.1 h;by_cases e : v = q.1
   ·rw [e, vU0 h (List.mem_cons_self ..)]; exact hl q (List.mem_cons_self ..)
   ·have ih := vK9 v h'.2.2 (fun p hp => hl p (List.mem_cons_of_mem _ hp)) hk
    have e2 : cf (q :: l) v = cf l v := by simp only [cf]; rw [if_neg (fun x => e x.symm)]; grind
    rw [e2]; exact ih
theorem vWW {l : List QT} (h : Srt l) (i : Nat) : Srt (l.take i) := ⟨h.1.sublist (List.take_sublist _ _), fun p hp => h.2 p (List.mem_of_mem_take hp)⟩
theorem uAI {l g : List QT} {kf kg : Nat} (hl : Srt l) (hg : Srt g) (h1 : ∀ p ∈ l, sz kf p.2) (h2 : ∀ p ∈ g, sz kg p.2) (hkf : 1 ≤ kf) (hkg : 1 ≤ kg) : ∀ p ∈ addL l g, sz (kf + kg + 1) p.2 := fun p hp => by
 obtain ⟨h3, h4⟩ := zMV (g := g) hl;rw [← vU0 h3 hp, h4];exact zBY (vK9 _ hl h1 hkf) (vK9 _ hg h2 hkg)
theorem vYA : FO 29 Tryz.f29 [.cell 4 37] 43 := mkO Tryz.func29 Tryz.ntmps29 Tryz.results29
theorem uFI (f g : QF) (kf kg : Nat) (hf : szF kf f) (hg : szF kg g) (hsf : Srt f.ts) (hsg : Srt g.ts) (hkf : 1 ≤ kf) (hkg : 1 ≤ kg) (hk : kf + kg + 10 ≤ 949999980) (hl : f.ts.length + g.ts.length ≤ 2097140) : Fn 29 [vA5 f, vA5 g] (.data (vA5 (uB8 f g))) := by
 have lf := zAL hf.1;have lg := zAL hg.1;have hs0 := zBY hf.1 hg.1;have ca := zD5 (cr f.c) (cr g.c) (zAI _) (zAI _) (by omega) (by omega) (by omega) (by omega);rw [zAQ, zAQ] at ca;unfold uB8;obtain ⟨C, hC⟩ : ∃ C, f.c + g.c = C := ⟨_, rfl⟩;rw [hC] at ca hs0;rw [hC];refine zAN vA6 hT vYA (by simp [vA5]) ?_;refine sts ?_;refine zAA ca rfl ?_;refine sts ?_
 refine zAG hT (fun ((i, l) : Nat × List QT) => [(3, .ptr 0 0 0), (4, .ptr 1 0 0), (5, .ptr 2 0 0), (6, .int .i64 i)])
  (fun (i, l) => [(0, ⟨[vA5 g], 4, true⟩), (1, ⟨[vP9], 4, true⟩), (2, ⟨[vA5 ⟨l, C⟩], 4, true⟩)]) [] 3
  (fun (i, l) => l = addL f.ts (g.ts.take i) ∧ i ≤ g.ts.length ∧ l.length ≤ f.ts.length + i)
  (fun (i, _) => g.ts.length - i) (0, f.ts) ⟨rfl, Nat.zero_le _, Nat.le_refl _⟩ (by decide) (by simp) ?_ ?_
 ·exact ⟨[_, _, _], [], [], [], ttt, ⟨(apy rfl), (apy rfl), (apy rfl), zAC rfl rfl, trivial⟩,
   ⟨bbx, bbx, bbx, trivial⟩, by simp [ren]⟩
 intro ⟨i, l⟩ ⟨i1, i2, i3⟩;by_cases hi : i < g.ts.length
 ·have hp := hg.2 g.ts[i]! (by rw [getElem!_pos g.ts i hi]; exact List.getElem_mem hi)
  have i4 : ∀ p ∈ l, sz (kf + kg + 1) p.2 := by rw [i1]; exact uAI hsf (vWW hsg i) hf.2 (fun p hp => hg.2 p (List.mem_of_mem_take hp)) hkf hkg
  have cp := vVE ⟨l, C⟩ g.ts[i]!.1 g.ts[i]!.2 (kf + kg + 1) kg ⟨zBE (by omega) hs0, i4⟩ hp (by omega) (by show l.length ≤ _; omega);have hln := zLM (v := g.ts[i]!.1) (c := g.ts[i]!.2) (l := l) (d := false)
  have hn : vBP g.ts[i]!.1 g.ts[i]!.2 l false = addL f.ts (g.ts.take (i + 1)) := by
   rw [i1]; unfold addL; rw [List.take_succ_eq_append_getElem hi, List.foldl_append, getElem!_pos g.ts i hi]; rfl
  simp only [Bool.false_eq_true, if_false] at hln
  (repeat' (first|refine stp ?_|with_reducible(refine brr ?_ ?_<;>intro h)));all_goals try(conv=>whnf)
  ·refine zAA cp rfl ?_
   refine sts ?_
   exact ⟨(i + 1, vBP g.ts[i]!.1 g.ts[i]!.2 l false), ⟨⟨hn, by omega, by omega⟩, by show g.ts.length - (i + 1) < g.ts.length - i; omega⟩, [0, 1, 2], [], [], [], ttt,
    ⟨apx, apx, apx, zAC rfl (by omega), trivial⟩,
    ⟨bbx, bbx, bbx, trivial⟩, by simp [ren]⟩
  all_goals (exfalso; omega)
 ·rw [List.take_of_length_le (by omega)] at i1
  subst i1
  (repeat' (first|refine stp ?_|with_reducible(refine brr ?_ ?_<;>intro h)));all_goals try(conv=>whnf)
  all_goals try (exfalso; omega)
  exact zAB (zC7 (zAP (zAH rfl (by simp) (by simp) (fun x => zFX x)) rfl)) rfl
theorem vXR : FO 119 Tryz.f119 [.cell 4 37] 10 := mkO Tryz.func119 Tryz.ntmps119 Tryz.results119
theorem vLB (f g : QF) (kf kg : Nat) (hf : szF kf f) (hg : szF kg g) (hsf : Srt f.ts) (hsg : Srt g.ts) (hkf : 1 ≤ kf) (hk : kf + kg + 11 ≤ 949999980) (hl : f.ts.length + g.ts.length ≤ 2097140) : Fn 119 [vA5 f, vA5 g] (.data (vA5 (uB8 f (vBT g (-1))))) := by
 have co := zF2 (-1) (by decide);rw [show ((-1 : Int) : Rat) = -1 by rfl] at co;have h1 : sz 1 (-1 : Rat) := zF6 (z := -1) (by decide);have cs := zG1 g (-1) kg 1 hg h1 (by omega) (by omega);have hln := zKI (c := (-1 : Rat)) (l := g.ts);have ca := uFI f (vBT g (-1)) kf (kg + 1) hf (zLD hg h1) hsf (zHZ _ hsg).1 hkf (by omega) (by omega) (by show _ + (vD2 _ _).length ≤ _; omega);refine zAN vA6 hT vXR (by simp [vA5]) ?_;refine sts ?_;refine zAA co rfl ?_;refine sts ?_;refine zAA cs rfl ?_;refine sts ?_;refine zAA ca rfl ?_;refine sts ?_;exact zAB rfl rfl
end Go.PI.Tryz
