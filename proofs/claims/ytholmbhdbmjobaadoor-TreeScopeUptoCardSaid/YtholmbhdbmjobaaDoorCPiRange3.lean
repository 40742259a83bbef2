/-
  PI: a range over a function, in the model: the rounds, the whole.
-/
import Derived.Test.YtholmbhdbmjobaaDoorCPiRange2
set_option linter.unusedVariables false
set_option linter.unusedSimpArgs false
namespace Go.PI
open Go.RowKit

def jumpOf : Exit → Option Code
  | .ret => some .ret
  | .exit id => some (.exit id)
  | _ => none

section
variable {P : Program} {G : Gl} {C : Contracts} {X : Env → Prop} {N : Nat}

/-- What 'wp_sound' says of a piece of code. -/
def SoundAt (P : Program) (G : Gl) (C : Contracts) (N : Nat) (c : Code) : Prop :=
  ∀ (X : Env → Prop) (_ : XOk P G C X) (ro : Option Nat) (n : Nat) (F : Env) (n0 : Nat) (_ : F.n0 = n0) (df : List Deferred) (Q : Exit → St → Prop) (s : St) (a : Act) (w : World) (A : Nat → Prop) (κ : Ka),
    RelX X F G N df s a w A κ → wp P G C (FnH P G) (LeS G, n0) c Q s → c.wpIn (Wd ro) n P (fun e a' w' => ∃ s' A' κ', RelX X F G N df s' a' w' A' κ' ∧ Q e s') a w

theorem XOk.inM (hC : XOk P G C X) (M : List Nat) : XOk P G C (fun E => X E ∧ E.M = M) :=
  ⟨fun E F h hg => ⟨hC.anch E F h.1 hg, h.2⟩, hC.call, fun f ds i j b hc hd => by
    obtain ⟨h1, h2⟩ := hC.prod f ds i j b hc hd
    refine ⟨h1, fun E w A κ h z vs hX H h0 hv => (h2 E w A κ h z vs hX.1 H h0 hv).mono fun e w' ⟨E', ⟨q1, q2, q3⟩, q4⟩ => ⟨E', ⟨⟨q1, q3.trans hX.2⟩, q2, q3⟩, q4⟩⟩,
   fun l ds i j b hc E w A κ h z vs hX H h0 hv => by
    obtain ⟨f, t, a, c, h1, h2⟩ := hC.yld l ds i j b hc E w A κ h z vs hX.1 H h0 hv
    exact ⟨f, t, a, c, h1, fun ro n => (h2 ro n).mono fun e w' ⟨E', ⟨q1, q2, q3⟩, q4⟩ => ⟨E', ⟨⟨q1, q3.trans hX.2⟩, q2, q3⟩, q4⟩⟩⟩

/-- A ROUND. -/
theorem Run.round (hC : XOk P G C X) {F1 : Env} {n1 : Nat} (hn1 : F1.n0 = n1) {l : Nat} {S Wr : Nat → Prop} {W : World} {fn : FuncId} {T : Array Value} {ps : Array Tmp} {assign body : Code} {D : Nat} {E : Env} {A : Nat → Prop} {κ : Ka} {s : St} {t : Tm}
    (h : Run G X F1 l S Wr W { state := .ready, pending := none, fn, tmps := T, params := ps, assign, body, defers := D } E A κ s)
    (hT : T.size = N) (ht : ∀ i, i < N → RV F1.w1 F1.A0 F1.κ0 (t i) (T.getD i undef)) (hk0 : ∀ r x, F1.κ0 r = some x → r < F1.n0)
    (ha : SoundAt P G C N assign) (hb : SoundAt P G C N body) (h1 : F1.B ≤ F1.w1.heap.size) {Q : Exit → St → Prop} {x : List PV} {xs : List (List PV)} {k : Nat} (hx : x.length = ps.size)
    (hw : restW P G C (LeS G) n1 assign body ps.toList Q t (x :: xs) k s)
    {Ay : Nat → Prop} (hy : ∀ b, Ay b → b < W.heap.size ∧ ¬ Wr b) {vs : List Value} (hv : RDs W Ay x vs) :
    YieldRuns P l vs.toArray W fun e W' => ∃ S' Wr', e = .returned (.bool (decide (k ≠ 0))) ∧ (∃ ex E' A' κ' s', Run G X F1 l S' Wr' W' { state := if k = 0 then .done else .ready, pending := jumpOf ex, fn, tmps := T, params := ps, assign, body, defers := D } E' A' κ' s' ∧
        (k = 0 → (jumpOf ex).isSome = true ∧ Q ex { s' with t := t }) ∧ (∀ k', k = k' + 1 → ex = .normal ∧ restW P G C (LeS G) n1 assign body ps.toList Q t xs k' s')) ∧ Below 0 W W' ∧
      (∀ b, b < W.heap.size → ¬ Wr b → W'.heap[b]? = W.heap[b]?) ∧ (∀ b, Wr' b → Wr b ∨ W.heap.size ≤ b) ∧ ∀ b, S' b → S b ∨ Ay b ∨ W.heap.size ≤ b := by
  obtain ⟨fK, fZ, fkw, fB, fA0, fw1, fκ0, fM0, fn0, fgh⟩ := re_K h.re
  obtain ⟨E', hX', hre', hM', H'⟩ := h.enter hC hy h1
  obtain ⟨gK, gZ, gkw, gB, gA0, gw1, gκ0, gM0, gn0, ggh⟩ := re_K hre'
  have hvl : vs.length = ps.size := by rw [← hv.1]; exact hx
  refine ⟨fn, _, assign, body, run_yield h.rc (by simpa using hvl), fun ro n => roundIn_of_wpIn trivial ?_⟩
  have hmono : ∀ {d u}, RV F1.w1 F1.A0 F1.κ0 d u → RV W (fun b => A b ∨ Ay b) κ d u := fun hr => hr.mono (fun b hb => Or.inl (h.hr.a0 b (fA0 ▸ hb))) (fun b o hb => by
      have := h.hr.acell b o (fA0 ▸ hb); rw [fw1] at this; exact this) (fun r y hr => by
      rw [← hr, ← fκ0]; exact h.hr.k0 r (by rw [fn0]; exact hk0 r y hr))
  have hset := setPs_tm (w := W) (A := fun b => A b ∨ Ay b) (κ := κ) ps.toList x vs t T ⟨hv.1, fun i d hd => .data _ _ ((hv.2 i d hd).mono (fun b hb => Or.inr hb) (fun _ _ _ => rfl))⟩ hT (fun i hi => hmono (ht i hi)) (by simpa using hx)
  have hfold : (ps.zip vs.toArray).foldl (fun tmps (t, a) => tmps.setIfInBounds t a) T = (ps.toList.zip vs).foldl (fun tmps (t, a) => tmps.setIfInBounds t a) T := by
    rw [← Array.foldl_toList, Array.toList_zip]
  rw [hfold]
  have hR : RelX (fun E => X E ∧ E.M = F1.M0) (F1.round l S Wr W A Ay) G N [] { s with t := setPs t ps.toList x } { tmps := (ps.toList.zip vs).foldl (fun tmps (t, a) => tmps.setIfInBounds t a) T, defers := [] } W (fun b => A b ∨ Ay b) κ :=
    ⟨E', ⟨hX', hM'⟩, hre', H', h.fresh, by rw [gn0]; exact h.n0, hset.2, hset.1, [], by rw [hM', gM0]; rfl, rfl⟩
  refine wpIn_mono (ha _ (hC.inM F1.M0) (some l) n (F1.round l S Wr W A Ay) n1 hn1 [] _ _ _ _ _ _ hR hw) fun e a1 w1 ⟨s1, A1, κ1, ⟨E1, ⟨hX1, hM1⟩, hre1, hR1⟩, hq⟩ => ?_
  cases e <;> try exact hq.elim
  obtain ⟨iK, iZ, ikw, iB, iA0, iw1, iκ0, iM0, in0, igh⟩ := re_K hre1
  have hl1 : w1.heap[l]? = some (.loop { state := .ready, pending := none, fn, tmps := T, params := ps, assign, body, defers := D }) := by
    have := (hR1.hr.kp.kk l (by rw [iK]; exact Or.inr (Or.inr rfl))).2.1
    rw [this, ikw]; exact h.rc
  have hZ1 : E1.Z l := by rw [iZ]; exact Or.inr (Or.inr rfl)
  have hT1 := hR1.hr.turn (.loop { state := .busy, pending := none, fn, tmps := T, params := ps, assign, body, defers := D }) hl1 (by rw [iB]; exact h.lp.1) hZ1
  refine ⟨_, run_beginRound hl1 rfl, ?_⟩
  have hcell1 : ∀ b o, A1 b → (w1.putObj l (.loop { state := .busy, pending := none, fn, tmps := T, params := ps, assign, body, defers := D })).cell? ⟨b, o, none⟩ = w1.cell? ⟨b, o, none⟩ := fun b o hA =>
    cell?_of_heap (World.putObj_heap_other (r := l) (k := b) (fun e => by subst e; exact (hR1.hr.kp.zk _ hZ1).2.1 hA)) o
  have hRb : RelX (fun E => X E ∧ E.M = F1.M0) { F1.round l S Wr W A Ay with kw := w1.putObj l (.loop { state := .busy, pending := none, fn, tmps := T, params := ps, assign, body, defers := D }) } G N [] s1 a1
      (w1.putObj l (.loop { state := .busy, pending := none, fn, tmps := T, params := ps, assign, body, defers := D })) A1 κ1 :=
    ⟨{ E1 with kw := w1.putObj l (.loop { state := .busy, pending := none, fn, tmps := T, params := ps, assign, body, defers := D }) }, ⟨hC.anch E1 { E1 with kw := w1.putObj l (.loop { state := .busy, pending := none, fn, tmps := T, params := ps, assign, body, defers := D }) } hX1 rfl, hM1⟩, by
      rw [← hre1]; rfl, hT1, hR1.fresh, hR1.n0, fun i hi => (hR1.tm i hi).mono (fun _ h => h) hcell1 (fun _ _ h => h), hR1.size, hR1.df⟩
  have hb1 : Below 0 W (w1.putObj l (.loop { state := .busy, pending := none, fn, tmps := T, params := ps, assign, body, defers := D })) := by
    have := hR1.hr.kp.kb; rw [ikw] at this
    exact Below.trans this ⟨rfl, rfl, rfl, by simp, fun k hk => by omega⟩
  have hkw1 : ∀ b, (F1.round l S Wr W A Ay).K b → b ≠ l → (w1.putObj l (.loop { state := .busy, pending := none, fn, tmps := T, params := ps, assign, body, defers := D })).heap[b]? = W.heap[b]? := fun b hb hne => by
    have := (hR1.hr.kp.kk b (by rw [iK]; exact hb)).2.1
    rw [World.putObj_heap_other hne, this, ikw]; rfl
  refine wpIn_mono (hb _ (hC.inM F1.M0) (some l) n { F1.round l S Wr W A Ay with kw := _ } n1 hn1 [] _ _ _ _ _ _ hRb hq) fun e a2 w2 ⟨s2, A2, κ2, ⟨E2, ⟨hX2, hM2⟩, hre2, hR2⟩, hq2⟩ => ?_
  obtain ⟨jK, jZ, jkw, jB, jA0, jw1, jκ0, jM0, jn0, jgh⟩ := re_K hre2
  have hl2 : w2.heap[l]? = some (.loop { state := .busy, pending := none, fn, tmps := T, params := ps, assign, body, defers := D }) := by
    have := (hR2.hr.kp.kk l (by rw [jK]; exact Or.inr (Or.inr rfl))).2.1
    rw [this, jkw]; exact World.putObj_heap_same (Array.getElem?_eq_some_iff.1 hl1).1
  have hn2 : F1.n0 ≤ s2.nx := by have := hR2.n0; rw [jn0] at this; exact this
  cases k with
  | zero =>
    cases e with
    | ret =>
      obtain ⟨S', Wr', E'', q1, q2, q3, q4, q5⟩ := h.leave hC hy h1 (r' := { state := .done, pending := some .ret, fn, tmps := T, params := ps, assign, body, defers := D }) hX2 hre2 hM2 hR2.hr hR2.fresh hn2 hb1 hkw1 hl2
      exact ⟨_, _, run_endRound (some .ret) hl2, S', Wr', rfl, ⟨.ret, E'', A2, κ2, s2, q1, fun _ => ⟨rfl, hq2⟩, fun k' e => by omega⟩, q2, q3, q4, q5⟩
    | exit id =>
      obtain ⟨S', Wr', E'', q1, q2, q3, q4, q5⟩ := h.leave hC hy h1 (r' := { state := .done, pending := some (.exit id), fn, tmps := T, params := ps, assign, body, defers := D }) hX2 hre2 hM2 hR2.hr hR2.fresh hn2 hb1 hkw1 hl2
      exact ⟨_, _, run_endRound (some (.exit id)) hl2, S', Wr', rfl, ⟨.exit id, E'', A2, κ2, s2, q1, fun _ => ⟨rfl, hq2⟩, fun k' e => by omega⟩, q2, q3, q4, q5⟩
    | _ => exact hq2.elim
  | succ k =>
    cases e with
    | normal =>
      obtain ⟨s3, hle, hq3⟩ := hq2
      obtain ⟨A3, κ3, hR3⟩ := hle E2 N [] a2 w2 A2 κ2 (jn0.trans hn1) hR2
      have hn3 : F1.n0 ≤ s3.nx := by have := hR3.n0; rw [jn0] at this; exact this
      obtain ⟨S', Wr', E'', q1, q2, q3, q4, q5⟩ := h.leave hC hy h1 (r' := { state := .ready, pending := none, fn, tmps := T, params := ps, assign, body, defers := D }) hX2 hre2 hM2 hR3.hr hR3.fresh hn3 hb1 hkw1 hl2
      exact ⟨_, _, run_endRound none hl2, S', Wr', by simp, ⟨.normal, E'', A3, κ3, s3, q1, fun e => by omega, fun k' e => ⟨rfl, by rw [← Nat.succ.inj e]; exact hq3⟩⟩, q2, q3, q4, q5⟩
    | _ => exact hq2.elim

theorem HR.mark {E : Env} {w : World} {A : Nat → Prop} {κ : Ka} {h : Hp} {z : Fz} (H : HR E G w A κ h z) {D : Nat} (hD : w.heap[D]? = some (.deferred (some []))) (d1 : E.B ≤ D) (d2 : ¬ E.S D) (d3 : ¬ A D) (d4 : D ∉ E.M) (d5 : ¬ E.K D) : HR { E with M := D :: E.M } G w A κ h z :=
  ⟨H.bel, H.hB, H.alt, H.a0, H.a1, H.acell, H.k0, H.glob, H.klt, ⟨H.kp.base, H.kp.keep, H.kp.wr, H.kp.own, fun D' hD' => by
    rcases List.mem_cons.1 hD' with e | e
    · subst e; exact ⟨d1, ⟨d2, d3⟩, hD⟩
    · exact H.kp.mks D' e, List.nodup_cons.2 ⟨d4, H.kp.nd⟩, H.kp.kb, H.kp.kk, H.kp.zk, fun D' hD' => by
    rcases List.mem_cons.1 hD' with e | e
    · subst e; exact Or.inr d5
    · exact H.kp.mk0 D' e, H.kp.gk⟩, H.blk, H.excl⟩

/-- The surroundings while one ranges. -/
def Env.range (E : Env) (W1 : World) (A1 : Nat → Prop) (nx : Nat) (κ : Ka) (D : Nat) : Env := { E with w1 := W1, A0 := A1, n0 := nx, κ0 := κ, M0 := D :: E.M }

/-- A RANGE ENDS. -/
theorem Run.done (hC : XOk P G C X) {E F : Env} {df : List Deferred} {s : St} {a : Act} {w : World} {A : Nat → Prop} {κ : Ka} (hF : E.re F = E) (hR : Rel E G N df s a w A κ) {A1 : Nat → Prop} {z1 : Fz} {W1 : World} (H1 : HR E G w A1 κ s.h z1) (hAA : ∀ b, A b → A1 b)
    (hW1 : Below w.heap.size w W1) {S Wr : Nat → Prop} {W : World} {r : Loop} {E' : Env} {A' : Nat → Prop} {κ' : Ka} {s' : St}
    (h : Run G X (E.range W1 A1 s.nx κ w.heap.size) (w.heap.size + 1) S Wr W r E' A' κ' s') (o : Obj) :
    RelX X F G N df { s' with t := s.t } { a with defers := mkD w.heap.size :: a.defers } (W.putObj (w.heap.size + 1) o) A' κ' := by
  obtain ⟨fK, fZ, fkw, fB, fA0, fw1, fκ0, fM0, fn0, fgh⟩ := re_K hF
  obtain ⟨gK, gZ, gkw, gB, gA0, gw1, gκ0, gM0, gn0, ggh⟩ := re_K h.re
  have HL := h.hr.putL o h.rc (by rw [gB]; exact h.lp.1) h.lp.2.1 h.lp.2.2.1 (by rw [gK]; exact h.lK)
  have hA : ∀ b, A1 b → A' b := fun b hb => h.hr.a0 b (by rw [gA0]; exact hb)
  have hcell : ∀ b o', A1 b → (W.putObj (w.heap.size + 1) o).cell? ⟨b, o', none⟩ = w.cell? ⟨b, o', none⟩ := fun b o' hb => by
    have := HL.acell b o' (by rw [gA0]; exact hb)
    rw [this, gw1]; exact cell?_of_heap (hW1.block b (H1.alt b hb)) o'
  have hκ : ∀ r, r < s.nx → κ' r = κ r := fun r hr => by
    have := h.hr.k0 r (by rw [gn0]; exact hr)
    rw [gκ0] at this; exact this
  have hn := hR.n0
  have HA := HL.anchor F (fun b hb => hA b (hAA b (hR.hr.a0 b (fA0 ▸ hb)))) (fun b hb => by
      rcases HL.a1 b hb with q | q
      · rw [gA0] at q
        rcases H1.a1 b q with q | q
        · exact Or.inl (fA0 ▸ q)
        · exact Or.inr (by rw [gB]; exact q)
      · exact Or.inr q) (fun b o' hb => by
      rw [hcell b o' (hAA b (hR.hr.a0 b (fA0 ▸ hb))), ← fw1]; exact hR.hr.acell b o' (fA0 ▸ hb)) (fun r hr => by
      rw [hκ r (by rw [← fn0] at hr; omega), ← fκ0]; exact hR.hr.k0 r (by rw [fn0]; exact hr)) (fun hg => by
      have := (hR.hr.kp.gk (by rw [ggh] at hg; exact hg)).1
      rw [fn0] at this; exact this) (by rw [gB]; exact fB.symm) (by have := HL.kp.kb; rw [gkw] at this; rw [← fkw]; exact this) (fun b hb => by
      have q := HL.kp.kk b (by rw [gK]; show E.K b; rw [fK]; exact hb)
      rw [gkw] at q; rw [← fkw]; exact q) (fun b hb => by
      have q := HL.kp.zk b (by rw [gZ]; show E.Z b; rw [fZ]; exact hb)
      rw [gK] at q; rw [← fK]; exact q) (fun D hD => by
      rw [h.m] at hD
      rcases List.mem_cons.1 hD with e | e
      · subst e; right; intro hK; rw [← fK] at hK
        exact Nat.lt_irrefl _ (hR.hr.kp.kk _ hK).1
      · rw [← fM0, ← fK]; exact hR.hr.kp.mk0 D e) (fun r b m sz cap hb hk hc hz => by
      have := (HL.kp.own r b m sz cap hb hk hc hz).2
      rw [gK] at this; rw [← fK]; exact this) (by rw [ggh]; exact fgh.symm)
  refine ⟨_, hC.anch E' F h.x (by rw [ggh]; exact fgh.symm), rfl, HA, h.fresh, ?_, fun i hi => ?_, hR.size, ?_⟩
  · show F.n0 ≤ _
    have := h.n0
    have e : (E.range W1 A1 s.nx κ w.heap.size).n0 = s.nx := rfl
    rw [e] at this
    show F.n0 ≤ s'.nx
    omega
  · exact (hR.tm i hi).mono (fun b hb => hA b (hAA b hb)) (fun b o' hb => hcell b o' (hAA b hb)) (fun r x hr => by
      have hlt : r < s.nx := Nat.lt_of_not_le fun q => by rw [(hR.fresh r q).2.2] at hr; cases hr
      rw [hκ r hlt]; exact hr)
  · obtain ⟨Ms, q1, q2⟩ := hR.df
    exact ⟨w.heap.size :: Ms, by show E'.M = _ ++ F.M0; rw [h.m, ← fM0]; show w.heap.size :: E.M = _; rw [q1]; rfl, by show _ :: a.defers = _; rw [q2]; rfl⟩

/-- A RANGE OVER A FUNCTION, out of 'wp'. -/
theorem range_sound (hC : XOk P G C X) (hmk : ∀ E M, X E → X { E with M := M }) {n : Nat} {F : Env} {n0 : Nat} (hn : F.n0 = n0) {df : List Deferred} {g : Operand} {ps : Array Tmp} {assign body : Code} (hg : operandFits N g = true)
    (ha : SoundAt P G C N assign) (hb : SoundAt P G C N body) (Q : Exit → St → Prop) (s1 : St) (a : Act) (w : World) (A : Nat → Prop) (κ : Ka)
    (hR1 : RelX X F G N df s1 a w A κ) (h : wp P G C (FnH P G) (LeS G, n0) (.rangeFunc g ps assign body) Q s1) :
    (Code.rangeFunc g ps assign body).wpIn (Wd none) n P (fun e a' w' => ∃ s' A' κ', RelX X F G N df s' a' w' A' κ' ∧ Q e s') a w := by
  unfold wp at h
  obtain ⟨s, hle, h⟩ := h
  obtain ⟨A, κ, hR⟩ : ∃ A' κ', RelX X F G N df s a w A' κ' := by
    obtain ⟨E, hX, hF, hR⟩ := hR1
    obtain ⟨A', κ', hR'⟩ := hle E N df a w A κ ((re_n0 hF).trans hn) hR
    exact ⟨A', κ', E, hX, hF, hR'⟩
  clear hR1 hle
  split at h
  case h_2 => exact h.elim
  rename_i f captured hev
  obtain ⟨m, ds, ks, xs, k, hfr, hCf, hlen, hrest⟩ := h
  obtain ⟨E, hX, hF, hR⟩ := hR
  have hgv : RV w A κ (.func (.func f) [] captured) (a.eval g) := hev ▸ eval_rel hR.hr hR.tm hg
  obtain ⟨fs, cs, hρ, hl1, hl2, _, hf2⟩ := hgv.func_inv
  have e1 : fs = #[] := Array.eq_empty_of_size_eq_zero (by simpa using hl1)
  subst e1
  have hRD := frz_args hR.hr hfr (rvs_array hl2 hf2)
  have hHf := hR.hr.freeze (mapF_frz_keys hfr)
  obtain ⟨hcal, hseq⟩ := hC.call f ds (.seq xs) rfl hCf
  refine wpIn_rangeFunc fun fn _ => ?_
  obtain ⟨rec, hrec⟩ : ∃ rec : LoopState → Option Code → Loop, rec = fun st pe => { state := st, pending := pe, fn, tmps := a.tmps, params := ps, assign, body, defers := w.heap.size } := ⟨_, rfl⟩
  obtain ⟨W1, hW1⟩ : ∃ W1, (w.alloc (.deferred (some []))).alloc (.loop (rec .ready none)) = W1 := ⟨_, rfl⟩
  have hL1 : W1.heap[w.heap.size + 1]? = some (.loop (rec .ready none)) := by
    rw [← hW1]; have := World.alloc_heap_new (w.alloc (.deferred (some []))) (.loop (rec .ready none)); rwa [World.size_alloc] at this
  have hD1 : W1.heap[w.heap.size]? = some (.deferred (some [])) := by
    rw [← hW1]; exact (Below.heap_alloc _ _ _ (by simp)).trans (World.alloc_heap_new w _)
  have hbel : Below w.heap.size w W1 := by rw [← hW1]; exact ((Below.refl _ w).alloc (Nat.le_refl _) _).alloc (by simp) _
  have hsz : W1.heap.size = w.heap.size + 2 := by rw [← hW1]; simp
  refine ⟨w.heap.size + 1, [{ target := .collected w.heap.size, args := #[] }], W1, { target := .fn (.func f) cs, args := #[.func (.yield (w.heap.size + 1)) #[] #[]] }, W1, f,
    #[.func (.yield (w.heap.size + 1)) #[] #[]] ++ cs, W1, ?_, ?_, fun _ _ => trivial, ?_, fun hh => (by cases hh), ?_⟩
  · rw [← hW1, hrec]; exact run_enterLoop_outer _ _ _ _ _
  · simp only [resolve, hρ]
    simp [go_sem]
  · unfold callable at hcal
    cases hfn : P.funcs[f]? with
    | none => simp [hfn] at hcal
    | some fn' =>
      simp only [hfn, Bool.and_eq_true, bne_iff_ne, ne_eq] at hcal
      obtain ⟨c, hc⟩ := Option.isSome_iff_exists.1 hcal.1
      simp [invoke, callFunc, hfn, hcal.2, hc]
  have hCov : Cov (fun b => b < w.heap.size) E (fun b => A b ∨ blocksOf κ ks b) κ s.h :=
    ⟨fun b hb => Nat.lt_of_lt_of_le hb hHf.hB, hHf.alt, fun b hb => (hHf.kp.keep b hb).1, fun D hD => (Array.getElem?_eq_some_iff.1 (hHf.kp.mks D hD).2.2).1, fun b hb => (hHf.kp.kk b hb).1, fun r b m sz cap hr hk hc => (hHf.klt r m sz cap hk).resolve_left hc⟩
  have H1 := hHf.same (w' := W1) hCov (hbel.mono (Nat.zero_le _)) (fun b hb => hbel.block b hb)
  have hDM : w.heap.size ∉ E.M := fun hD => Nat.lt_irrefl _ (hCov.m _ hD)
  have H2 := H1.mark hD1 hHf.hB (fun hS => Nat.lt_irrefl _ (hCov.s _ hS)) (fun hA => Nat.lt_irrefl _ (hCov.a _ hA)) hDM (fun hK => Nat.lt_irrefl _ (hCov.k _ hK))
  obtain ⟨A1, hA1⟩ : ∃ A1 : Nat → Prop, (fun b => A b ∨ blocksOf κ ks b) = A1 := ⟨_, rfl⟩
  rw [hA1] at hRD hHf H1 H2 hCov
  have H3 := H2.anchor (E.range W1 A1 s.nx κ w.heap.size) (fun b hb => hb) (fun b hb => Or.inl hb) (fun b o _ => rfl) (fun r _ => rfl) (fun hg => Nat.lt_of_lt_of_le (hR.hr.kp.gk hg).1 hR.n0) rfl H2.kp.kb H2.kp.kk H2.kp.zk (fun D hD => Or.inl hD) (fun r b m sz cap hb hk hc hz => (H2.kp.own r b m sz cap hb hk hc hz).2) rfl
  have hfresh : Fresh s.nx κ s.h (fset s.z ks) := fun r hr => by
    refine ⟨(hR.fresh r hr).1, ?_, (hR.fresh r hr).2.2⟩
    simp only [fset, Bool.or_eq_false_iff]
    refine ⟨?_, (hR.fresh r hr).2.1⟩
    simp only [List.contains_eq_mem, decide_eq_false_iff_not]
    intro hm
    obtain ⟨b, hb⟩ := mapF_frz_keys hfr r hm
    rw [(hR.fresh r hr).1] at hb; cases hb
  have lt1 : ∀ b, b < w.heap.size → b < W1.heap.size := fun b hb => by omega
  have run0 : Run G X (E.range W1 A1 s.nx κ w.heap.size) (w.heap.size + 1) (fun b => b < W1.heap.size) (fun b => b < W1.heap.size ∧ ¬ A1 b) W1 (rec .ready none) (({ E with M := w.heap.size :: E.M } : Env).re (E.range W1 A1 s.nx κ w.heap.size)) A1 κ { s with z := fset s.z ks } :=
    ⟨fun b hb => hb, fun b hb => hb.1, fun b hb => hb, hC.anch _ _ (hmk E _ hX) rfl, rfl, rfl, H3, hfresh, Nat.le_refl _,
      ⟨fun b hb => lt1 b (hCov.base b hb), fun b hb => lt1 b (hCov.a b hb), fun b hb => lt1 b (hCov.s b hb), fun D hD => by
        rcases List.mem_cons.1 hD with e | e
        · subst e; omega
        · exact lt1 D (hCov.m D e), fun b hb => lt1 b (hCov.k b hb), fun r b m sz cap hr hk hc => lt1 m (hCov.o r b m sz cap hr hk hc)⟩,
      fun b hb hA => ⟨hb, hA⟩, ⟨by have := hHf.hB; show E.B ≤ _; omega, fun hS => by have := hCov.s _ hS; omega, fun hA => by have := hCov.a _ hA; omega, by omega⟩, fun hK => by have := hCov.k _ hK; omega, hL1⟩
  have htm : ∀ i, i < N → RV (E.range W1 A1 s.nx κ w.heap.size).w1 (E.range W1 A1 s.nx κ w.heap.size).A0 (E.range W1 A1 s.nx κ w.heap.size).κ0 (s.t i) (a.tmps.getD i undef) := fun i hi =>
    (hR.tm i hi).mono (fun b hb => hA1 ▸ Or.inl hb) (fun b o hb => cell?_of_heap (hbel.block b (hR.hr.alt b hb)) o) (fun _ _ h => h)
  have hk0 : ∀ r x, (E.range W1 A1 s.nx κ w.heap.size).κ0 r = some x → r < (E.range W1 A1 s.nx κ w.heap.size).n0 := fun r x hr => Nat.lt_of_not_le fun q => by
    have : κ r = none := (hR.fresh r q).2.2
    have hr' : κ r = some x := hr
    rw [this] at hr'; cases hr'
  have hB1 : (E.range W1 A1 s.nx κ w.heap.size).B ≤ (E.range W1 A1 s.nx κ w.heap.size).w1.heap.size := Nat.le_trans hHf.hB hbel.size
  let Y : Cons P xs k :=
    { l := w.heap.size + 1
      J := fun i S Wr W => (i ≤ k ∧ ∃ E' A' κ' s', Run G X (E.range W1 A1 s.nx κ w.heap.size) (w.heap.size + 1) S Wr W (rec .ready none) E' A' κ' s' ∧ restW P G C (LeS G) s.nx assign body ps.toList Q s.t (xs.drop i) (k - i) s') ∨
        (i = k + 1 ∧ ∃ ex c E' A' κ' s', jumpOf ex = some c ∧ Run G X (E.range W1 A1 s.nx κ w.heap.size) (w.heap.size + 1) S Wr W (rec .done (some c)) E' A' κ' s' ∧ Q ex { s' with t := s.t })
      lt := by
        rintro i S Wr W (⟨_, E', A', κ', s', q, _⟩ | ⟨_, ex, c, E', A', κ', s', _, q, _⟩)
        · exact ⟨q.lt, q.wrS⟩
        · exact ⟨q.lt, q.wrS⟩
      stable := by
        rintro i S Wr W W' (⟨hi, E', A', κ', s', q, q2⟩ | ⟨hi, ex, c, E', A', κ', s', q1, q, q2⟩) hb hS
        · exact Or.inl ⟨hi, E', A', κ', s', q.stable hb hS, q2⟩
        · exact Or.inr ⟨hi, ex, c, E', A', κ', s', q1, q.stable hb hS, q2⟩
      yield := by
        rintro i S Wr W Ay x vs hJ hx hi hv hy
        rcases hJ with ⟨_, E', A', κ', s', q, q2⟩ | ⟨hi', _⟩
        · have hdrop : xs.drop i = x :: xs.drop (i + 1) := by
            obtain ⟨hlt, hxe⟩ := List.getElem?_eq_some_iff.1 hx
            rw [List.drop_eq_getElem_cons hlt, hxe]
          rw [hdrop] at q2
          rw [hrec] at q
          obtain ⟨f', t', as', b', h1, h2⟩ := q.round hC rfl hR.size htm hk0 ha hb hB1 (hlen x (List.mem_of_getElem? hx)) q2 hy hv
          refine ⟨f', t', as', b', h1, fun ro n => (h2 ro n).mono fun e W' ⟨S', Wr', p1, ⟨ex, E'', A'', κ'', s'', p2, p3, p4⟩, p5, p6, p7, p8⟩ => ⟨S', Wr', ?_, ?_, p5, p6, p7, p8⟩⟩
          · rw [p1]
            congr 2
            by_cases hik : i = k
            · simp [hik]
            · have : k - i ≠ 0 := by omega
              simp [hik, this]
          · by_cases hik : i = k
            · have e0 : k - i = 0 := by omega
              obtain ⟨p9, p10⟩ := p3 e0
              obtain ⟨c, hc⟩ := Option.isSome_iff_exists.1 p9
              rw [if_pos e0, hc] at p2
              exact Or.inr ⟨by omega, ex, c, E'', A'', κ'', s'', hc, by rw [hrec]; exact p2, p10⟩
            · have e0 : k - i ≠ 0 := by omega
              obtain ⟨p9, p10⟩ := p4 (k - (i + 1)) (by omega)
              subst p9
              rw [if_neg e0] at p2
              exact Or.inl ⟨by omega, E'', A'', κ'', s'', by rw [hrec]; exact p2, p10⟩
        · omega }
  have hA1W : ∀ b, A1 b → b < W1.heap.size ∧ ¬ (b < W1.heap.size ∧ ¬ A1 b) := fun b hb => ⟨lt1 b (hCov.a b hb), fun q => q.2 hb⟩
  have hcall := hseq k Y W1 A1 _ _ cs.toList hA1W H1.gok ⟨hRD.1, fun i d hd => (hRD.2 i d hd).mono (fun _ h => h) (fun b o hb => cell?_of_heap (hbel.block b (hCov.a b hb)) o)⟩
    (Or.inl ⟨Nat.zero_le _, _, _, _, _, run0, hrest⟩)
  rw [Array.toArray_toList] at hcall
  refine callsIn_wd.2 (hcall.mono fun e w' ⟨v, S', Wr', he, hJ⟩ => ?_)
  subst he
  rcases hJ with ⟨hi, E', A', κ', s', q, q2⟩ | ⟨hi, ex, c, E', A', κ', s', q1, q, q2⟩
  · have hi' : min xs.length (k + 1) = xs.length := by omega
    rw [hi', List.drop_eq_nil_of_le (Nat.le_refl _)] at q2
    refine ⟨none, _, run_endLoop q.rc (by rw [hrec]; simp) |>.trans (by rw [hrec]), ?_⟩
    exact ⟨_, _, _, q.done hC hF hR hHf (fun b hb => hA1 ▸ Or.inl hb) hbel _, q2⟩
  · refine ⟨some c, _, run_endLoop q.rc (by rw [hrec]; simp) |>.trans (by rw [hrec]), ?_⟩
    have hfin := q.done hC hF hR hHf (fun b hb => hA1 ▸ Or.inl hb) hbel (.loop { rec .done (some c) with state := .exhausted })
    cases ex with
    | ret => cases q1; exact wpIn_ret ⟨_, _, _, by rw [hrec] at hfin; exact hfin, q2⟩
    | exit id => cases q1; exact wpIn_exit ⟨_, _, _, by rw [hrec] at hfin; exact hfin, q2⟩
    | _ => cases q1

end
end Go.PI
