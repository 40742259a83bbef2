/-
  PI: functions that yield: their contracts; what a range over a function runs through, out of 'wp'.
-/
import Derived.Test.YtholmbhdbmjobaaDoorCPiFunc
set_option linter.unusedVariables false
set_option linter.unusedSimpArgs false
namespace Go.PI
open Go.RowKit

section
variable {P : Program} {G : Gl} {xs : List (List PV)} {k : Nat}

/-- The surroundings of a call that yields to 'Y'. -/
def yX (Y : Cons P xs k) : Env → Prop := fun E => E.gh = true ∧ Y.J E.gi E.S E.Wr E.ws

/-- A function that yields to 'Y' from the i-th element on to the j-th. -/
def ProdS (P : Program) (G : Gl) (Y : Cons P xs k) (f : FuncId) (ds : List PV) (i j : Nat) (b : Bool) : Prop :=
  ∀ (E : Env) (w : World) (A : Nat → Prop) (κ : Ka) (h : Hp) (z : Fz) (vs : List Value), yX Y E → HR E G w A κ h z → h 0 = some (gblk i) → RDs w A ds vs →
    Calls P f vs.toArray w fun e w' => ∃ E', (yX Y E' ∧ E'.re E = E' ∧ E'.M = E.M) ∧ e = .returned (.bool b) ∧ HR E' G w' A κ (hset h 0 (some (gblk j))) z ∧ ∀ b o, A b → w'.cell? ⟨b, o, none⟩ = w.cell? ⟨b, o, none⟩

/-- The contracts of one who yields to 'Y'. -/
def FnY (P : Program) (G : Gl) (Y : Cons P xs k) : Contracts := fun f ds r => match r with
  | .gh i j b => (∃ ds', ds = .anyb :: ds' ∧ f = Y.l ∧ xs[i]? = some ds' ∧ i ≤ k ∧ j = i + 1 ∧ b = decide (i ≠ k)) ∨ ((∀ ds', ds ≠ .anyb :: ds') ∧ callable P f = true ∧ ProdS P G Y f ds i j b)
  | r => FnC P G f ds r

theorem gblk_inj {i j : Nat} (h : gblk i = gblk j) : i = j := by
  simp only [gblk, Blk.mk.injEq, List.cons.injEq, PV.int.injEq, and_true, true_and] at h
  omega

theorem yX_ok (Y : Cons P xs k) : XOk P G (FnY P G Y) (yX Y) := by
  refine ⟨fun E F h hg => ⟨by show F.gh = true; rw [hg]; exact h.1, h.2⟩, fun f ds r hr h => ?_, fun f ds i j b h hd => ?_, fun l ds i j b h => ?_⟩
  · cases r <;> first | exact h | cases hr
  · rcases h with ⟨ds', e, _⟩ | h
    · exact absurd e (hd ds')
    · exact h.2
  · rcases h with ⟨ds', e, rfl, hx, hk, rfl, rfl⟩ | h
    · cases e
      intro E w A κ h z vs hX H h0 hv
      obtain ⟨hg, hJ⟩ := hX
      obtain ⟨g1, g2, g3⟩ := H.kp.gk hg
      have hi := gblk_inj (g3 _ h0)
      subst hi
      have hJ' := Y.stable hJ H.kp.base (fun b hb => (H.kp.keep b hb).2)
      obtain ⟨f, t, a, c, q1, q2⟩ := Y.yield hJ' hx hk hv (fun b hb => ⟨H.alt b hb, fun hw => (H.kp.wr b hw).2 hb⟩)
      refine ⟨f, t, a, c, q1, fun ro n => (q2 ro n).mono fun e W' ⟨S', Wr', p1, p2, p3, p4, p5, p6⟩ => ?_⟩
      have hA : ∀ b, A b → W'.heap[b]? = w.heap[b]? := fun b hb => p4 b (H.alt b hb) fun hw => (H.kp.wr b hw).2 hb
      have hcell : ∀ b o, A b → W'.cell? ⟨b, o, none⟩ = w.cell? ⟨b, o, none⟩ := fun b o hb => cell?_of_heap (hA b hb) o
      have mono : ∀ {d v}, RV w A κ d v → RV W' A κ d v := fun hv => hv.mono (fun _ h => h) hcell (fun _ _ h => h)
      obtain ⟨l1, l2⟩ := Y.lt p2
      have ne0 : ∀ r x, κ r = some x → r ≠ 0 := fun r x hr e => by subst e; rw [g2] at hr; cases hr
      have hh : ∀ r x b', κ r = some x → hset h 0 (some (gblk (E.gi + 1))) r = some b' → h r = some b' := fun r x b' hr hb => by
        simpa only [hset, if_neg (ne0 r x hr)] using hb
      refine ⟨{ E with w0 := W', S := S', Wr := Wr', ws := W', gi := E.gi + 1 }, ⟨⟨hg, p2⟩, rfl, rfl⟩, p1, ?_, hcell⟩
      refine ⟨Below.refl _ _, Nat.le_trans H.hB p3.size, fun b hb => Nat.lt_of_lt_of_le (H.alt b hb) p3.size, H.a0, H.a1, fun b o hb => (hcell b o (H.a0 b hb)).trans (H.acell b o hb), H.k0, fun g e hg => mono (H.glob g e hg), fun r m sz cap hr => ?_, ⟨Below.refl _ _, fun b hb => ⟨l1 b hb, rfl⟩, fun b hb => ⟨l2 b hb, fun hA => ?_⟩, fun r b' m sz cap hb hr hc hz => ?_, fun D hD => ?_, H.kp.nd, H.kp.kb.trans p3, fun b hb => ?_, fun b hb => ?_, H.kp.mk0, fun _ => ⟨g1, g2, fun b' hb => ?_⟩⟩, fun r b' hb hκ => ?_, fun r r' b1 b2 m m' s1 s2 c1 c2 hne hr hr' h1 h2 => ?_⟩
      · rcases H.klt r m sz cap hr with q | q
        · exact Or.inl q
        · exact Or.inr (Nat.lt_of_lt_of_le q p3.size)
      · rcases p5 b hb with q | q
        · exact (H.kp.wr b q).2 hA
        · have := H.alt b hA; omega
      · have hb' := hh r _ b' hr hb
        have q := H.kp.own r b' m sz cap hb' hr hc hz
        refine ⟨fun hS => ?_, q.2⟩
        rcases p6 m hS with s | s | s
        · exact q.1 s
        · obtain ⟨m0, cap0, e1, _, _, e4⟩ := H.blk r b' hb' (by rw [hr]; simp)
          rw [hr] at e1; cases e1
          obtain ⟨c, ty, g1, g2, g3, g4, g5, g6, g7⟩ := e4.resolve_left hc
          exact g6 hz s
        · have := (H.klt r m sz cap hr).resolve_left hc; omega
      · have q := H.kp.mks D hD
        have hlt := (Array.getElem?_eq_some_iff.1 q.2.2).1
        refine ⟨q.1, ⟨fun hS => ?_, q.2.1.2⟩, (p4 D hlt fun hw => q.2.1.1 (H.kp.wr D hw).1).trans q.2.2⟩
        rcases p6 D hS with s | s | s
        · exact q.2.1.1 s
        · exact q.2.1.2 s
        · omega
      · have q := H.kp.kk b hb
        refine ⟨Nat.lt_of_lt_of_le q.1 p3.size, (p4 b q.1 q.2.2).trans q.2.1, fun hw => ?_⟩
        rcases p5 b hw with s | s
        · exact q.2.2 s
        · have := q.1; omega
      · have q := H.kp.zk b hb
        refine ⟨q.1, q.2.1, fun hS => ?_⟩
        rcases p6 b hS with s | s | s
        · exact q.2.2 s
        · exact q.2.1 s
        · have := (H.kp.kk b q.1).1; omega
      · simp only [hset, if_true] at hb
        cases hb; rfl
      · obtain ⟨x, hx'⟩ := Option.ne_none_iff_exists'.1 hκ
        have hb' := hh r _ b' hx' hb
        obtain ⟨m, cap, e1, e2, e3, e4⟩ := H.blk r b' hb' hκ
        refine ⟨m, cap, e1, e2, e3, ?_⟩
        by_cases hc : cap = 0
        · exact Or.inl hc
        obtain ⟨c, ty, r1, r2, r3, r4, r5, r6, r7⟩ := e4.resolve_left hc
        have hlt := (Array.getElem?_eq_some_iff.1 r2).1
        refine Or.inr ⟨c, ty, r1, (p4 m hlt fun hw => ?_).trans r2, r3, r4, fun i e he => (r5 i e he).mono (fun _ h => h) hcell (fun _ _ h => h), r6, r7⟩
        cases hz : z r with
        | false => exact (H.kp.own r b' m _ cap hb' e1 hc hz).1 (H.kp.wr m hw).1
        | true => exact (H.kp.wr m hw).2 (r7 hz)
      · exact H.excl r r' b1 b2 m m' s1 s2 c1 c2 hne (hh r _ b1 h1 hr) (hh r' _ b2 h2 hr') h1 h2
    · exact absurd rfl (h.1 ds)

/-- The state at the beginning of a function that yields. -/
def startY (ds : List PV) (i : Nat) : St := { t := argTm ds, h := fun r => if r = 0 then some (gblk i) else none, z := fun _ => false, nx := 1 }

theorem freshY (i : Nat) : Fresh 1 (fun _ => none) (startY [] i).h (startY [] i).z := fun r hr => ⟨by show (if r = 0 then _ else none) = none; rw [if_neg (by omega)], rfl, rfl⟩

/-- A FUNCTION THAT YIELDS, out of 'wp'. -/
theorem ProdS_of_wp (hm : P.follows .mixedOrders = true) {f : FuncId} {fn : Func} {c : Code} {rs : List ResultVar} {nt : Nat} (ok : FnOk P f fn c rs nt) {ds : List PV} (hl : ds.length ≤ nt) (Y : Cons P xs k) {i j : Nat} {b : Bool}
    (h : wp P G (FnY P G Y) (FnH P G) (LeS G, 1) c (atEnd P rs fun v s => v = .bool b ∧ s.h 0 = some (gblk j)) (startY ds i)) : ProdS P G Y f ds i j b := by
  intro E w A κ hh z vs hX H h0 hv
  obtain ⟨hg, hJ⟩ := hX
  obtain ⟨g1, g2, g3⟩ := H.kp.gk hg
  have hi := gblk_inj (g3 _ h0)
  subst hi
  have ownB : ∀ r b' m sz cap, hh r = some b' → κ r = some (m, sz, cap) → cap ≠ 0 → z r = false → m < w.heap.size ∧ ¬ E.S m ∧ ¬ A m := fun r b' m sz cap hb hr hc hz => by
    obtain ⟨m0, cap0, e1, _, _, e4⟩ := H.blk r b' hb (by rw [hr]; simp)
    rw [hr] at e1; cases e1
    obtain ⟨c, ty, r1, r2, r3, r4, r5, r6, r7⟩ := e4.resolve_left hc
    exact ⟨(Array.getElem?_eq_some_iff.1 r2).1, (H.kp.own r b' m _ cap hb hr hc hz).1, r6 hz⟩
  let Ec : Env := { E with n0 := 1, κ0 := fun _ => none, A0 := A, w1 := w, M0 := E.M, kw := w, K := fun b => b < w.heap.size ∧ ¬ E.Wr b, Z := fun b => b < w.heap.size ∧ ¬ E.S b ∧ ¬ A b }
  have HC : HR Ec G w A (fun _ => none) (startY ds E.gi).h (startY ds E.gi).z := by
    refine ⟨H.bel, H.hB, H.alt, fun _ h => h, fun _ h => Or.inl h, fun _ _ _ => rfl, fun _ _ => rfl, fun g e hg => ?_, fun r m sz cap hr => (by cases hr), ⟨H.kp.base, H.kp.keep, H.kp.wr, fun r b m sz cap _ hr => (by cases hr), H.kp.mks, H.kp.nd, Below.refl _ _, fun b hb => ⟨hb.1, rfl, hb.2⟩, fun b hb => ⟨⟨hb.1, fun hw => hb.2.1 (H.kp.wr b hw).1⟩, hb.2.2, hb.2.1⟩, fun D hD => Or.inl hD, fun _ => ⟨Nat.lt_succ_self _, rfl, fun b hb => ?_⟩⟩, fun r b _ hr => absurd rfl hr, fun r r' b b' m m' s s' c c' _ _ _ hr => (by cases hr)⟩
    · obtain ⟨b, o, val, hv, hA, hc, hd⟩ := (H.glob g e hg).cptr_inv
      rw [hv]; exact .data _ _ (.cptr e 0 b o val hA hc hd)
    · have e : (startY ds E.gi).h 0 = some (gblk E.gi) := rfl
      rw [e] at hb; cases hb; rfl
  have hcall := calls_of_wpX (E := Ec) (X := yX Y) (s := startY ds E.gi) hm ok (yX_ok Y) (fun E M h => h) rfl ⟨hg, hJ⟩ rfl hl h (Nat.le_refl _) HC (freshY E.gi) ⟨hv.1, fun i d hd => .data _ _ (hv.2 i d hd)⟩
  refine hcall.mono fun e w' ⟨E', v, pv, A', κ', s', ⟨hX', hre⟩, he, H', hf', hn', hpv, hpe, hgj⟩ => ?_
  subst hpe
  have eK : E'.K = Ec.K := by rw [← hre]; rfl
  have eZ : E'.Z = Ec.Z := by rw [← hre]; rfl
  have ekw : E'.kw = w := by rw [← hre]; rfl
  have eB : E'.B = E.B := by rw [← hre]; rfl
  have eA0 : E'.A0 = A := by rw [← hre]; rfl
  have ew1 : E'.w1 = w := by rw [← hre]; rfl
  have egh : E'.gh = E.gh := by rw [← hre]; rfl
  have kb : Below 0 w w' := by have := H'.kp.kb; rwa [show ({ E' with M := E'.M0 } : Env).kw = w from ekw] at this
  have keep : ∀ b, b < w.heap.size → ¬ E.Wr b → w'.heap[b]? = w.heap[b]? ∧ ¬ E'.Wr b := fun b hb hw => by
    have q := H'.kp.kk b (by show E'.K b; rw [eK]; exact ⟨hb, hw⟩)
    rw [show ({ E' with M := E'.M0 } : Env).kw = w from ekw] at q
    exact q.2
  have zed : ∀ b, b < w.heap.size → ¬ E.S b → ¬ A b → ¬ A' b ∧ ¬ E'.S b := fun b h1 h2 h3 => (H'.kp.zk b (by show E'.Z b; rw [eZ]; exact ⟨h1, h2, h3⟩)).2
  have hAA : ∀ b, A b → A' b := fun b hb => H'.a0 b (by show E'.A0 b; rw [eA0]; exact hb)
  have hcell : ∀ b o, A b → w'.cell? ⟨b, o, none⟩ = w.cell? ⟨b, o, none⟩ := fun b o hb => by
    have := H'.acell b o (by show E'.A0 b; rw [eA0]; exact hb)
    rwa [show ({ E' with M := E'.M0 } : Env).w1 = w from ew1] at this
  have mono : ∀ {d v}, RV w A κ d v → RV w' A κ d v := fun hv => hv.mono (fun _ h => h) hcell (fun _ _ h => h)
  have ne0 : ∀ r x, κ r = some x → r ≠ 0 := fun r x hr e => by subst e; rw [g2] at hr; cases hr
  have hs : ∀ r x b', κ r = some x → hset hh 0 (some (gblk j)) r = some b' → hh r = some b' := fun r x b' hr hb => by
    simpa only [hset, if_neg (ne0 r x hr)] using hb
  have nWr : ∀ b, ¬ E.S b ∨ A b → ¬ E.Wr b := fun b hb hw => hb.elim (fun q => q (H.kp.wr b hw).1) (fun q => (H.kp.wr b hw).2 q)
  refine ⟨({ E' with M := E.M } : Env).re E, ⟨⟨hg, hX'.2⟩, rfl, rfl⟩, by rw [he, hpv.bool_inv], ?_, hcell⟩
  refine ⟨eB ▸ H'.bel, eB ▸ H'.hB, fun b hb => Nat.lt_of_lt_of_le (H.alt b hb) kb.size, H.a0, H.a1, fun b o hb => (hcell b o (H.a0 b hb)).trans (H.acell b o hb), H.k0, fun g e hg => mono (H.glob g e hg), fun r m sz cap hr => ?_, ⟨H'.kp.base, H'.kp.keep, fun b hb => ⟨(H'.kp.wr b hb).1, fun q => (H'.kp.wr b hb).2 (hAA b q)⟩, fun r b' m sz cap hb hr hc hz => ?_, fun D hD => ?_, H.kp.nd, H.kp.kb.trans kb, fun b hb => ?_, fun b hb => ?_, H.kp.mk0, fun _ => ⟨g1, g2, fun b' hb => ?_⟩⟩, fun r b' hb hκ => ?_, fun r r' b1 b2 m m' s1 s2 c1 c2 hne hr hr' h1 h2 => ?_⟩
  · rcases H.klt r m sz cap hr with q | q
    · exact Or.inl q
    · exact Or.inr (Nat.lt_of_lt_of_le q kb.size)
  · have hb' := hs r _ b' hr hb
    obtain ⟨q1, q2, q3⟩ := ownB r b' m sz cap hb' hr hc hz
    exact ⟨(zed m q1 q2 q3).2, (H.kp.own r b' m sz cap hb' hr hc hz).2⟩
  · have q := H.kp.mks D hD
    have hlt := (Array.getElem?_eq_some_iff.1 q.2.2).1
    exact ⟨q.1, ⟨(zed D hlt q.2.1.1 q.2.1.2).2, q.2.1.2⟩, (keep D hlt (nWr D (Or.inl q.2.1.1))).1.trans q.2.2⟩
  · have q := H.kp.kk b hb
    exact ⟨Nat.lt_of_lt_of_le q.1 kb.size, (keep b q.1 q.2.2).1.trans q.2.1, (keep b q.1 q.2.2).2⟩
  · have q := H.kp.zk b hb
    exact ⟨q.1, q.2.1, (zed b (H.kp.kk b q.1).1 q.2.2 q.2.1).2⟩
  · simp only [hset, if_true] at hb
    cases hb
    exact (H'.kp.gk (by show E'.gh = true; rw [egh]; exact hg)).2.2 _ hgj
  · obtain ⟨x, hx'⟩ := Option.ne_none_iff_exists'.1 hκ
    have hb' := hs r _ b' hx' hb
    obtain ⟨m, cap, e1, e2, e3, e4⟩ := H.blk r b' hb' hκ
    refine ⟨m, cap, e1, e2, e3, ?_⟩
    by_cases hc : cap = 0
    · exact Or.inl hc
    obtain ⟨c, ty, r1, r2, r3, r4, r5, r6, r7⟩ := e4.resolve_left hc
    have hlt := (Array.getElem?_eq_some_iff.1 r2).1
    refine Or.inr ⟨c, ty, r1, (keep m hlt (nWr m ?_)).1.trans r2, r3, r4, fun i e he => (r5 i e he).mono (fun _ h => h) hcell (fun _ _ h => h), r6, r7⟩
    cases hz : z r with
    | false => exact Or.inl (H.kp.own r b' m _ cap hb' e1 hc hz).1
    | true => exact Or.inr (r7 hz)
  · exact H.excl r r' b1 b2 m m' s1 s2 c1 c2 hne (hs r _ b1 h1 hr) (hs r' _ b2 h2 hr') h1 h2

/-- WHAT A RANGE OVER A FUNCTION RUNS THROUGH, out of 'wp'. -/
theorem SeqC_of_wp (hm : P.follows .mixedOrders = true) {f : FuncId} {fn : Func} {c : Code} {rs : List ResultVar} {nt : Nat} (ok : FnOk P f fn c rs nt) {ds : List PV} (hl : ds.length + 1 ≤ nt) {xs : List (List PV)}
    (h : ∀ k (Y : Cons P xs k), wp P G (FnY P G Y) (FnH P G) (LeS G, 1) c (atEnd P rs fun _ s => s.h 0 = some (gblk (min xs.length (k + 1)))) (startY (.func (.yield Y.l) [] [] :: ds) 0)) : FnC P G f ds (.seq xs) := by
  refine ⟨ok.callable, fun k Y w A S Wr vs hA hG hv hJ => ?_⟩
  obtain ⟨l1, l2⟩ := Y.lt hJ
  let E : Env := { w0 := w, w1 := w, B := w.heap.size, A0 := A, n0 := 1, κ0 := fun _ => none, S := S, Wr := Wr, ws := w, kw := w, gh := true }
  have HC : HR E G w A (fun _ => none) (startY (.func (.yield Y.l) [] [] :: ds) 0).h (startY (.func (.yield Y.l) [] [] :: ds) 0).z := by
    refine ⟨Below.refl _ _, Nat.le_refl _, fun b hb => (hA b hb).1, fun _ h => h, fun _ h => Or.inl h, fun _ _ _ => rfl, fun _ _ => rfl, hG, fun r m sz cap hr => (by cases hr), ⟨Below.refl _ _, fun b hb => ⟨l1 b hb, rfl⟩, fun b hb => ⟨l2 b hb, fun q => (hA b q).2 hb⟩, fun r b m sz cap _ hr => (by cases hr), fun D hD => (by cases hD), List.nodup_nil, Below.refl _ _, fun b hb => hb.elim, fun b hb => hb.elim, fun D hD => (by cases hD), fun _ => ⟨Nat.lt_succ_self _, rfl, fun b hb => ?_⟩⟩, fun r b _ hr => absurd rfl hr, fun r r' b b' m m' s s' c c' _ _ _ hr => (by cases hr)⟩
    have e : (startY (.func (.yield Y.l) [] [] :: ds) 0).h 0 = some (gblk 0) := rfl
    rw [e] at hb; cases hb; rfl
  have hcall := calls_of_wpX (E := E) (X := yX Y) (s := startY (.func (.yield Y.l) [] [] :: ds) 0) hm ok (yX_ok Y) (fun E M h => h) rfl ⟨rfl, hJ⟩ rfl (ds := .func (.yield Y.l) [] [] :: ds) (by simpa using hl) (h k Y) (Nat.le_refl _) HC (freshY 0) (vs := .func (.yield Y.l) #[] #[] :: vs)
    ⟨by simp [hv.1], fun i d hd => by
      cases i with
      | zero =>
        simp only [List.getElem?_cons_zero, Option.some.injEq] at hd
        subst hd
        exact .func _ [] [] _ _ rfl rfl (fun i d hd => by simp at hd) (fun i d hd => by simp at hd)
      | succ i => exact .data _ _ (by have := hv.2 i d (by simpa using hd); simpa using this)⟩
  have ea : (Value.func (.yield Y.l) #[] #[] :: vs).toArray = #[.func (.yield Y.l) #[] #[]] ++ vs.toArray := by simp
  rw [ea] at hcall
  refine hcall.mono fun e w' ⟨E', v, pv, A', κ', s', ⟨⟨hg, hJ'⟩, hre⟩, he, H', hf', hn', hpv, hgj⟩ => ?_
  have hgi : E'.gi = min xs.length (k + 1) := (gblk_inj ((H'.kp.gk hg).2.2 _ hgj)).symm
  exact ⟨v, E'.S, E'.Wr, he, hgi ▸ Y.stable hJ' H'.kp.base (fun b hb => (H'.kp.keep b hb).2)⟩
end
end Go.PI
