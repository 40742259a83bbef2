/-
  The law CheckerClaimSound.
-/
import Derived.Test.YtcinkbieboiffaaGreatCKU
import Derived.Test.YtcinkbieboiffaaGreatCKM
set_option linter.unusedVariables false
set_option linter.unusedSimpArgs false
set_option linter.unnecessarySimpa false
namespace Go.PI.Tryz
open Go.Proofs Go.PI
theorem zNN {g : GraL} {r : RegL} {c : ClaL} {ts : List NodeL} (h : (claimR g r c ts).2 = 0) : (VaG g ∧ VaR r g.ins ∧ VaC c g.outs.length) ∧ ts.length = (goalsC c g.outs.length).length ∧ ∀ i, i < ts.length → (treeR (qG g r (goalsC c g.outs.length)[i]!) ts[i]!).2 = 0 := by
 unfold claimR at h
 split at h
 ·rename_i hv
  split at h
  ·rename_i hl
   refine ⟨hv, hl, fun i hi => ?_⟩
   split at h
   ·rename_i j hj
    have := List.find?_some hj;exact absurd h (of_decide_eq_true this)
   ·rename_i hn
    have := List.find?_eq_none.1 hn i (List.mem_range.2 hi)
    simpa using this
  ·cases h
 ·cases h
theorem ok_rholds : FO 38 Tryz.f38 [.tmp 4, .tmp 5, .tmp 6] 41 := mkO Tryz.func38 Tryz.ntmps38 Tryz.results38
theorem c_rholds (c : ClaL) (y : List Rat) (k kx : Nat) (hc : okC k c) (hk : k ≤ 400000000) (hk1 : 1 ≤ k) (hv : VaC c y.length) (hG : ∀ f ∈ goalsC c y.length, szF 30000000 f) (hx : ∀ q ∈ y, sz kx q) (hkx : kx ≤ 40000000) (hl : y.length ≤ 6) (hpos : ∀ f ∈ goalsC c y.length, 0 ≤ evQ f y) : Fn 38 [encCla c, .imm (y.map encX)] (.data (.tup [.int .i64 0, .bool true, .int .i64 0])) := by
 have c3 := c_rcgoals c y.length k hc hk hk1 hv;have hgl := zIX hv;have hgo := zHH hv;generalize goalsC c y.length = gs at *
 refine zAJ hmix hT ok_rholds (by simp [encCla]) ?_;refine sts ?_;rw [List.length_map];refine zAA c3 rfl ?_;refine sts ?_
 refine zAL hT (fun (i : Nat) => [(1, .imm (y.map encX)), (7, .imm (gs.map encF)), (9, .int .i64 i)])
  (fun _ => []) [] 0 (fun i => i ≤ gs.length) (fun i => gs.length - i) 0 (Nat.zero_le _) (by decide) (by simp) ?_ ?_
 ·exact ⟨[], [], [], [], ttt, ⟨zAD rfl rfl, zAD rfl rfl, zAC rfl rfl, trivial⟩, trivial, by simp [ren]⟩
 intro i i1;by_cases hi : i < gs.length
 ·have hm := get_mem hi
  have hok := hgo _ hm;have hs := hG _ hm;have hp := hpos _ hm;have htl := zDP y.length hok.1.1 (fun t ht => by have := hok.2 t ht; omega);have hmul := Nat.mul_le_mul_right (30000000 + kx + 1) (show gs[i]!.ts.length ≤ 6 by omega);have ce := c_rleval gs[i]! y 30000000 kx hs hx hok.2 (by omega) (by omega) (by omega);have hse := (zA6 (evQ_sz hs hx hok.2)).1;generalize evQ gs[i]! y = v at *
  have cs := zC7 (cr v) (zA1 v) (by omega);rw [zBA] at cs;have h0 : ¬ sgnQ v < 0 := fun e => absurd (sgnQ_neg.1 e) (Rat.not_lt.2 hp)
  (repeat' (first|refine stp ?_|with_reducible(refine brr ?_ ?_<;>intro h)));all_goals try(conv=>whnf)
  all_goals try (exfalso; omega)
  refine zAA ce rfl ?_;refine sts ?_;refine zAA cs rfl ?_
  (repeat' (first|refine stp ?_|with_reducible(refine brr ?_ ?_<;>intro h)));all_goals try(conv=>whnf)
  all_goals try (exfalso; omega)
  exact ⟨i + 1, ⟨by omega, by show gs.length - (i + 1) < gs.length - i; omega⟩, [], [], [], [], ttt, ⟨zAD rfl rfl, zAD rfl rfl, zAC rfl rfl, trivial⟩, trivial, by simp [ren]⟩
 ·obtain rfl : i = gs.length := by omega
  (repeat' (first|refine stp ?_|with_reducible(refine brr ?_ ?_<;>intro h)));all_goals try(conv=>whnf)
  all_goals try (exfalso; omega)
  exact zAB rfl rfl
theorem lnA_mem {l : List AffL} {f : AffL} (h : f ∈ l) : lnA f ≤ gL l := by
 unfold gL
 induction l with
 | nil => cases h
 | cons a l ih =>
   simp only [List.map_cons, List.sum_cons];rcases List.mem_cons.1 h with rfl | h
   ·omega
   ·have := ih h; omega
theorem claim_sound {g : GraL} {r : RegL} {c : ClaL} {ts : List NodeL} (h : (claimR g r c ts).2 = 0) {x : List Rat} (hx : inQ ⟨g, r, (⟨[], 0⟩ : QF).L⟩ x) : ∀ f ∈ goalsC c g.outs.length, 0 ≤ evQ f (outL g x) := by
 obtain ⟨⟨v1, v2, v3⟩, hl, ht⟩ := zNN h;intro f hf;obtain ⟨i, hi, rfl⟩ := List.getElem_of_mem hf;have h1 := tree_sound (ht i (by omega)) (x := x) hx;rw [getElem!_pos (goalsC c g.outs.length) i hi] at h1;have e : (qG g r (goalsC c g.outs.length)[i]).goal.Q = goalG g (goalsC c g.outs.length)[i] := Q_L _;rw [e, goal_ev (zHH v3 _ hf)] at h1;exact h1
theorem zB4 : FO 10 Tryz.f10 [.tmp 2] 90 := mkO Tryz.func10 Tryz.ntmps10 Tryz.results10
theorem zH4 (g : GraL) (r : RegL) (c : ClaL) (d : Nat → Int) (ts : List NodeL) (x : List Int) (B Bn : Nat) (hi : inP g r c ts B Bn) (hx : okBy x) : Fn 10 [encProp g r c d ts x] (.data (.bool true)) := by
 have hS := hi.sum;have hB1 := hi.B1;have hp := hi.pS;have hgl := hi.gl;have hlx := hx.1;obtain ⟨b, hb, cf⟩ := c_few48 g r c d ts x (fun t ht => by have := (hi.hts t ht).2.2.2; omega) hi.hg.1.1 hi.hg.2.1 hi.hr.2.2.2 hi.hc.r.1 hi.tl;have cv := zDB g (okGra_le (by omega) hi.hg);have cr1 := zG8 r g.ins (zEJ (by omega) hi.hr);by_cases hall : b = true ∧ x.length ≤ 60 ∧ VaG g ∧ VaR r g.ins
 ·obtain ⟨rfl, h60, v1, v2⟩ := hall
  rw [dB_true.2 v1] at cv;rw [dB_true.2 v2] at cr1;have hf := hb rfl;have hu := hf.2.2.2.2.1;have hin := hf.2.2.2.2.2.1;have ho := hf.2.1;have tr := fun (hv : VaG g ∧ VaR r g.ins ∧ VaC c g.outs.length) (hl : ts.length = (goalsC c g.outs.length).length) (i : Nat) (hlt : i < ts.length) => zKJ (hi.trees hf hv.1 hv.2.2 hl hlt) (hf.2.2.2.1 _ (get_mem hlt)) (by show g.ins + g.units.length ≤ 16; omega)
  have ca := c_kclaim g r c d ts B hi.hg hi.hr hi.hc (by omega) hi.B1 hi.tl (fun v1 v3 => hi.goals hf.2.1 v1 v3) (fun hv hl i hlt => (tr hv hl i hlt).1);have hva : VaQ ⟨g, r, (⟨[], 0⟩ : QF).L⟩ := ⟨v1, v2, valid_of ⟨⟨List.Pairwise.nil, fun _ h => (by cases h)⟩, fun _ h => (by cases h)⟩⟩;have hz : szQ ⟨g, r, (⟨[], 0⟩ : QF).L⟩ B := ⟨hB1, hi.hg, hi.hr, okA_L ⟨zC9 (by decide : 1 ≤ 40000000) (⟨by decide, by decide⟩ : sz 1 (0 : Rat)), fun _ h => (by cases h)⟩ (by decide)⟩;have c1 := c_sgins r x (zEJ (by omega) hi.hr) (by have := v2.2.1; have := v2.2.2.1; omega) hx;have hpt := pt_ins hva hz x;have c2 := reg_con hva hz (by omega) hpt (by omega) (by show 2 * lsL r.lo + lsL r.hi + 4 * r.lo.length + 1 ≤ 8000000; omega) hin;have e0 : (⟨g, r, (⟨[], 0⟩ : QF).L⟩ : QryL).r = r := rfl;have e00 : (⟨g, r, (⟨[], 0⟩ : QF).L⟩ : QryL).g = g := rfl;rw [e0] at c2 hpt;rw [e00] at hpt;obtain ⟨hsv, hsp⟩ := gv_sz v1 hi.hg hpt;have hlen : (valsN g.us (insR r x) g.us.length).length = (insR r x).length + g.units.length := by rw [zDG _ (Nat.le_refl _), zM0]
  have hpl := hpt.len
  have hmul : ∀ f ∈ g.units ++ g.outs, f.terms.length ≤ 16 := fun f hf => by
   rcases List.mem_append.1 hf with hf | hf
   ·obtain ⟨j, hj, rfl⟩ := List.getElem_of_mem hf
    have h4 := v1.2.2.2.1 j hj;rw [getElem!_pos g.units j hj] at h4;exact zK6 (m := 16) h4 (by omega)
   ·obtain ⟨j, hj, rfl⟩ := List.getElem_of_mem hf
    have h4 := v1.2.2.2.2 j hj;rw [getElem!_pos g.outs j hj] at h4;exact zK6 (m := 16) h4 (by omega)
  have hfin : ∀ f ∈ g.units ++ g.outs, B + f.terms.length * (B + 14000002 + 1) + B + 14000002 ≤ 949999990 := fun f hf => by
   have := Nat.mul_le_mul_right (B + 14000002 + 1) (hmul f hf);omega
  have c3 := c_rgouts g ((insR r x).map cr) B 14000002 hi.hg (by omega) hB1 (by omega) (by omega) v1 ⟨by simp; omega, fun y hy => by
   obtain ⟨q, hq, rfl⟩ := List.mem_map.1 hy;have h3 := hsv 0 (Nat.zero_le _) q (by rw [zEO]; exact hq)
   exact zBU (by omega) (zIN h3)⟩ (by simpa using hpl) (by
   rw [zJS]
   exact ⟨fun j hj => ⟨fun q hq => zC9 (by omega) (hsv j (by omega) q hq), zC9 (by omega) (hsp j hj)⟩, fun q hq => zC9 (by omega) (hsv _ (Nat.le_refl _) q (by rw [zM0] at hq; exact hq)), fun f hf => hfin f (List.mem_append_left _ hf), fun f hf => hfin f (List.mem_append_right _ hf)⟩)
  rw [zNE, zJS] at c3;by_cases hc : conR r ((insR r x).map cr)
  ·rw [dB_true.2 hc] at c2
   have hinq := in_of_con hva hc
   have hout : ∀ q ∈ outL g (insR r x), sz 18000010 q := fun q hq => by
    obtain ⟨f, hf, rfl⟩ := List.mem_map.1 hq;have hfo := hf;obtain ⟨j, hj, rfl⟩ := List.getElem_of_mem hf;have h4 := v1.2.2.2.2 j hj;rw [getElem!_pos g.outs j hj] at h4
    have := form_sz hi.hg.1.2 hpt.bd (gv_vars v1 hpt) (hi.hg.2.2 _ hfo) (fun t ht => by
     have := zMX h4 t ht
     omega)
    rw [← zM0 g] at this;have h6 := lnA_mem hfo;exact zC9 (by omega) this
   have hol : (outL g (insR r x)).length = g.outs.length := by simp [outL]
   have snd := fun h0 => claim_sound (ts := ts) (c := c) h0 hinq
   have ch := fun (v3 : VaC c g.outs.length) (hpos : ∀ f ∈ goalsC c g.outs.length, 0 ≤ evQ f (outL g (insR r x))) => c_rholds c (outL g (insR r x)) B 18000010 hi.hc (by omega) hB1 (by rw [hol]; exact v3) (by
    rw [hol];intro f hf;obtain ⟨i, hi', rfl⟩ := List.getElem_of_mem hf;have := (hi.goals ho v1 v3 i hi').2;rw [getElem!_pos _ i hi'] at this
    exact this) hout (by omega) (by omega) (by rw [hol]; exact hpos)
   have hv3 := fun h0 => (zNN (g := g) (r := r) (c := c) (ts := ts) h0).1.2.2
   generalize claimR g r c ts = R at *
   generalize outL g (insR r x) = Y at *
   generalize insR r x = X at *
   by_cases h0 : R.2 = 0
   ·have ch' := ch (hv3 h0) (snd h0)
    refine zAJ hmix hT zB4 (by simp [encProp]) ?_;refine sns ?_;refine zAA zB3 rfl ?_;refine sns ?_;refine zAA cf rfl ?_
    (repeat' (first|refine stn ?_|(with_reducible refine brr ?_ ?_<;>intro h)|(with_reducible refine zAI ?_ ?_<;>intro h)|with_reducible refine zAW ?_ ?_)); all_goals try (conv=>whnf)
    all_goals try (exfalso; omega)
    refine zAA cv rfl ?_;refine sns ?_;refine zAA cr1 rfl ?_;refine sns ?_;refine zAA ca rfl ?_;refine sns ?_;refine zAA c1 rfl ?_
    (repeat' (first|refine stn ?_|(with_reducible refine brr ?_ ?_<;>intro h)|(with_reducible refine zAI ?_ ?_<;>intro h)|with_reducible refine zAW ?_ ?_)); all_goals try (conv=>whnf)
    all_goals try exact absurd h0 (by assumption)
    refine zAA c2 rfl ?_;refine sns ?_;refine zAA c3 rfl ?_;refine sns ?_;refine zAA ch' rfl ?_;refine sns ?_;exact zAB rfl rfl
   ·refine zAJ hmix hT zB4 (by simp [encProp]) ?_
    refine sns ?_;refine zAA zB3 rfl ?_;refine sns ?_;refine zAA cf rfl ?_
    (repeat' (first|refine stn ?_|(with_reducible refine brr ?_ ?_<;>intro h)|(with_reducible refine zAI ?_ ?_<;>intro h)|with_reducible refine zAW ?_ ?_)); all_goals try (conv=>whnf)
    all_goals try (exfalso; omega)
    refine zAA cv rfl ?_;refine sns ?_;refine zAA cr1 rfl ?_;refine sns ?_;refine zAA ca rfl ?_;refine sns ?_;refine zAA c1 rfl ?_
    (repeat' (first|refine stn ?_|(with_reducible refine brr ?_ ?_<;>intro h)|(with_reducible refine zAI ?_ ?_<;>intro h)|with_reducible refine zAW ?_ ?_)); all_goals try (conv=>whnf)
    all_goals first | exact absurd (by assumption) h0 | exact zAB rfl rfl
  ·rw [dB_false.2 hc] at c2
   generalize claimR g r c ts = R at *
   generalize insR r x = X at *
   refine zAJ hmix hT zB4 (by simp [encProp]) ?_;refine sns ?_;refine zAA zB3 rfl ?_;refine sns ?_;refine zAA cf rfl ?_
   (repeat' (first|refine stn ?_|(with_reducible refine brr ?_ ?_<;>intro h)|(with_reducible refine zAI ?_ ?_<;>intro h)|with_reducible refine zAW ?_ ?_)); all_goals try (conv=>whnf)
   all_goals try (exfalso; omega)
   refine zAA cv rfl ?_;refine sns ?_;refine zAA cr1 rfl ?_;refine sns ?_;refine zAA ca rfl ?_;refine sns ?_;refine zAA c1 rfl ?_
   (repeat' (first|refine stn ?_|(with_reducible refine brr ?_ ?_<;>intro h)|(with_reducible refine zAI ?_ ?_<;>intro h)|with_reducible refine zAW ?_ ?_)); all_goals try (conv=>whnf)
   ·exact zAB rfl rfl
   refine zAA c2 rfl ?_;refine sns ?_;exact zAB rfl rfl
 ·cases b with
  | false =>
    refine zAJ hmix hT zB4 (by simp [encProp]) ?_;refine sns ?_;refine zAA zB3 rfl ?_;refine sns ?_;refine zAA cf rfl ?_;refine sns ?_
    all_goals try (exfalso; omega)
    refine zAA zB3 rfl ?_;refine sns ?_;exact zAB rfl rfl
  | true =>
    by_cases h60 : x.length ≤ 60
    ·by_cases v1 : VaG g
     ·rw [dB_true.2 v1] at cv
      rw [dB_false.2 (fun v2 => hall ⟨rfl, h60, v1, v2⟩)] at cr1;refine zAJ hmix hT zB4 (by simp [encProp]) ?_;refine sns ?_;refine zAA zB3 rfl ?_;refine sns ?_;refine zAA cf rfl ?_
      (repeat' (first|refine stn ?_|(with_reducible refine brr ?_ ?_<;>intro h)|(with_reducible refine zAI ?_ ?_<;>intro h)|with_reducible refine zAW ?_ ?_)); all_goals try (conv=>whnf)
      all_goals try (exfalso; omega)
      refine zAA cv rfl ?_;refine sns ?_;refine zAA cr1 rfl ?_;refine sns ?_;refine zAA zB3 rfl ?_;refine sns ?_;exact zAB rfl rfl
     ·rw [dB_false.2 v1] at cv
      refine zAJ hmix hT zB4 (by simp [encProp]) ?_;refine sns ?_;refine zAA zB3 rfl ?_;refine sns ?_;refine zAA cf rfl ?_
      (repeat' (first|refine stn ?_|(with_reducible refine brr ?_ ?_<;>intro h)|(with_reducible refine zAI ?_ ?_<;>intro h)|with_reducible refine zAW ?_ ?_)); all_goals try (conv=>whnf)
      all_goals try (exfalso; omega)
      refine zAA cv rfl ?_;refine sns ?_;refine zAA zB3 rfl ?_;refine sns ?_;exact zAB rfl rfl
    ·refine zAJ hmix hT zB4 (by simp [encProp]) ?_
     refine sns ?_;refine zAA zB3 rfl ?_;refine sns ?_;refine zAA cf rfl ?_
     (repeat' (first|refine stn ?_|(with_reducible refine brr ?_ ?_<;>intro h)|(with_reducible refine zAI ?_ ?_<;>intro h)|with_reducible refine zAW ?_ ?_)); all_goals try (conv=>whnf)
     all_goals try (exfalso; omega)
     refine zAA zB3 rfl ?_;refine sns ?_;exact zAB rfl rfl
end Go.PI.Tryz
