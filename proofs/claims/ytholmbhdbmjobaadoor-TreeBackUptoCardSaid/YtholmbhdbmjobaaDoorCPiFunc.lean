/-
  PI: from 'wp' of a body to the function's contract.
-/
import Derived.Test.YtholmbhdbmjobaaDoorCPiSound
import Derived.RangeFuncRecord
set_option linter.unusedVariables false
set_option linter.unusedSimpArgs false
namespace Go.PI
open Go.RowKit

/-- The slots at a function's beginning. -/
def argTm (ds : List PV) : Tm := fun i => ds.getD i (.tup [])

def resVar (P : Program) (s : St) : ResultVar → Option PV
  | .tmp t => some (s.t t)
  | .cell x ty => match s.t x with
    | .ptr r j off => (match s.h r with
      | some b => (match b.els[j]? with
        | some e => part e off (tinfo P ty).size (tinfo P ty).agg
        | none => none)
      | none => none)
    | _ => none
def resVars (P : Program) (s : St) : List ResultVar → Option (List PV)
  | [] => some []
  | r :: rs => match resVar P s r, resVars P s rs with
    | some v, some vs => some (v :: vs)
    | _, _ => none
/-- What a function hands back. -/
def resOf (P : Program) (rs : List ResultVar) (s : St) : Option PV :=
  match resVars P s rs with
  | some [v] => some v
  | some vs => some (.tup vs)
  | none => none
def resFits (N : Nat) : ResultVar → Bool
  | .tmp t => decide (t < N)
  | .cell x _ => decide (x < N)

/-- At the end of a function: its result. -/
def atEnd (P : Program) (rs : List ResultVar) (K : PV → St → Prop) : Exit → St → Prop
  | .normal, s | .ret, s => ∃ v, resOf P rs s = some v ∧ K v s
  | _, _ => False

section
variable {P : Program} {E : Env} {G : Gl} {N : Nat} {df : List Deferred} {w : World} {A : Nat → Prop} {κ : Ka} {s : St} {a : Act}

theorem resVar_sound (hR : Rel E G N df s a w A κ) {r : ResultVar} {v : PV} (hf : resFits N r = true) (h : resVar P s r = some v) :
    ∃ u, (match r with | .tmp t => (pure (a.tmps.getD t undef) : Sem Value) | .cell x ty => (do loadVar ty (← asAddr (a.tmps.getD x undef)))).run P w = .ok u w ∧ RV w A κ v u := by
  cases r with
  | tmp t =>
    simp only [resVar] at h
    cases h
    exact ⟨_, rfl, hR.tm t (by simpa [resFits] using hf)⟩
  | cell x ty =>
    have hx := hR.tm x (by simpa [resFits] using hf)
    simp only [resVar] at h
    split at h
    · rename_i r j off hev
      rw [hev] at hx
      obtain ⟨m, sz, cap, hρ, hk⟩ := hx.ptr_inv
      split at h
      · rename_i b hb
        split at h
        · rename_i e hel
          obtain ⟨m', cap', hk', _, hc⟩ := hR.hr.read hb (by rw [hk]; simp) hel
          rw [hk] at hk'; cases hk'
          have hz : (tinfo P ty).size ≠ 0 ∨ (tinfo P ty).agg = true := by
            rcases part_spec h with ⟨h, _⟩ | ⟨_, h, _⟩
            · exact Or.inr h
            · left; omega
          obtain ⟨v', h1, h2⟩ := load_cells h hc hz
          exact ⟨v', by simp only [hρ, asAddr, Sem.run_bind]; exact h1, h2⟩
        · cases h
      · cases h
    · cases h
def resSem (tmps : Array Value) : ResultVar → Sem Value
  | .tmp t => pure (tmps.getD t undef)
  | .cell a t => do loadVar t (← asAddr (tmps.getD a undef))

theorem resVars_sound (hR : Rel E G N df s a w A κ) : ∀ (rs : List ResultVar) (vs : List PV), rs.all (resFits N) = true → resVars P s rs = some vs → ∃ us : List Value, (rs.mapM (resSem a.tmps)).run P w = .ok us w ∧ RVs w A κ vs us
  | [], vs, _, h => by simp [resVars] at h; subst h; exact ⟨[], rfl, rfl, fun i d hd => by simp at hd⟩
  | r :: rs, vs, hf, h => by
    simp only [List.all_cons, Bool.and_eq_true] at hf
    simp only [resVars] at h
    split at h
    · rename_i v vs' h1 h2
      cases h
      obtain ⟨u, hu, hru⟩ := resVar_sound hR hf.1 h1
      obtain ⟨us, hus, hrs⟩ := resVars_sound hR rs vs' hf.2 h2
      have hu' : (resSem a.tmps r).run P w = .ok u w := by cases r <;> exact hu
      refine ⟨u :: us, by simp [List.mapM_cons, hu', hus], by simp [hrs.1], fun i d hd => ?_⟩
      cases i with
      | zero => simp at hd; subst hd; simpa using hru
      | succ i => have := hrs.2 i d (by simpa using hd); simpa using this
    · cases h

theorem results_sound {fn : Func} (hR : Rel E G N df s a w A κ) {rs : List ResultVar} (hrs : fn.results = rs.toArray) {v : PV} (hf : rs.all (resFits N) = true) (h : resOf P rs s = some v) : ∃ u, (results fn a.tmps).run P w = .ok u w ∧ RV w A κ v u := by
  have key : ∀ us : List Value, (rs.mapM (resSem a.tmps)).run P w = .ok us w → (results fn a.tmps).run P w = .ok (if h : us.toArray.size = 1 then us.toArray[0] else .tuple us.toArray) w := by
    intro us hus
    have e : results fn a.tmps = (do let vs ← fn.results.mapM (resSem a.tmps); pure (if h : vs.size = 1 then vs[0] else .tuple vs)) := by
      unfold results
      congr 1
    rw [e, hrs]
    simp only [List.mapM_toArray, Sem.run_bind]
    simp [hus]
  unfold resOf at h
  split at h
  · rename_i v' hv
    cases h
    obtain ⟨us, hus, hr⟩ := resVars_sound hR rs _ hf hv
    obtain ⟨u, rfl⟩ : ∃ u, us = [u] := by
      match us, hr.1 with
      | [u], _ => exact ⟨u, rfl⟩
    refine ⟨u, by rw [key _ hus]; simp, ?_⟩
    simpa using hr.2 0 v rfl
  · rename_i vs hne hv
    cases h
    obtain ⟨us, hus, hr⟩ := resVars_sound hR rs _ hf hv
    have hl : us.toArray.size ≠ 1 := by
      intro h1
      have : vs.length = 1 := by have := hr.1; simp at h1; omega
      match vs, this with
      | [x], _ => exact hne x rfl
    refine ⟨.tuple us.toArray, by rw [key _ hus, dif_neg hl], .tup _ _ (by simpa using hr.1.symm) fun i d hd => ?_⟩
    have := hr.2 i d hd
    simpa [Array.getD_eq_getD_getElem?, List.getD] using this
  · cases h

/-- The frame at a function's beginning. -/
theorem enter_tm {ds : List PV} {vs : List Value} (h : RVs w A κ ds vs) {nt : Nat} (hn : ds.length ≤ nt) :
    (vs.toArray ++ Array.replicate (nt - vs.toArray.size) undef).size = nt ∧ ∀ i, i < nt → RV w A κ (argTm ds i) ((vs.toArray ++ Array.replicate (nt - vs.toArray.size) undef).getD i undef) := by
  have hl := h.1
  refine ⟨by simp; omega, fun i hi => ?_⟩
  unfold argTm
  by_cases h1 : i < ds.length
  · have h2 := h.2 i ds[i] (List.getElem?_eq_getElem h1)
    have h3 : i < vs.length := by omega
    have e1 : ds.getD i (.tup []) = ds[i] := by simp [List.getD, h1]
    rw [e1]
    have e2 : (vs.toArray ++ Array.replicate (nt - vs.toArray.size) undef).getD i undef = vs.getD i undef := by
      simp only [Array.getD_eq_getD_getElem?]
      rw [Array.getElem?_append_left (by simpa using h3)]
      simp [List.getD]
    rw [e2]
    exact h2
  · have e1 : ds.getD i (.tup []) = .tup [] := by simp [List.getD, List.getElem?_eq_none (Nat.le_of_not_lt h1)]
    rw [e1]
    have h3 : ¬ i < vs.length := by omega
    have e2 : (vs.toArray ++ Array.replicate (nt - vs.toArray.size) undef).getD i undef = undef := by
      simp only [Array.getD_eq_getD_getElem?]
      rw [Array.getElem?_append_right (by simp; omega)]
      by_cases h4 : i - vs.toArray.size < nt - vs.toArray.size
      · simp only [List.size_toArray] at h4
        simp [Array.getElem?_replicate, h4]
      · simp only [List.size_toArray] at h4
        simp [Array.getElem?_replicate, h4]
    rw [e2]
    exact .tup [] _ rfl (fun i d hd => by simp at hd)

/-- What is asked of a function's text, once: by the kernel. -/
structure FnOk (P : Program) (f : FuncId) (fn : Func) (c : Code) (rs : List ResultVar) (nt : Nat) : Prop where
  hf : P.funcs[f]? = some fn
  hb : fn.body = some c
  hn : fn.name ≠ "runtime.NumGoroutine"
  ht : fn.ntmps = nt
  hr : fn.results = rs.toArray
  fits : codeFits nt c = true
  rfits : rs.all (resFits nt) = true

theorem FnOk.callable {f : FuncId} {fn : Func} {c : Code} {rs : List ResultVar} {nt : Nat} (h : FnOk P f fn c rs nt) : callable P f = true := by
  simp [Go.PI.callable, h.hf, h.hb, h.hn]

theorem HR.m0 {h : Hp} {z : Fz} {M0 : List Nat} (hm : ∀ D, D ∈ E.M → D ∈ E.M0 ∨ ¬ E.K D) (H : HR { E with M0 := M0 } G w A κ h z) : HR E G w A κ h z :=
  ⟨H.bel, H.hB, H.alt, H.a0, H.a1, H.acell, H.k0, H.glob, H.klt, ⟨H.kp.base, H.kp.keep, H.kp.wr, H.kp.own, H.kp.mks, H.kp.nd, H.kp.kb, H.kp.kk, H.kp.zk, hm, H.kp.gk⟩, H.blk, H.excl⟩
theorem HR.m0' {h : Hp} {z : Fz} {M0 : List Nat} (hm : ∀ D, D ∈ E.M → D ∈ M0 ∨ ¬ E.K D) (H : HR E G w A κ h z) : HR { E with M0 := M0 } G w A κ h z :=
  ⟨H.bel, H.hB, H.alt, H.a0, H.a1, H.acell, H.k0, H.glob, H.klt, ⟨H.kp.base, H.kp.keep, H.kp.wr, H.kp.own, H.kp.mks, H.kp.nd, H.kp.kb, H.kp.kk, H.kp.zk, hm, H.kp.gk⟩, H.blk, H.excl⟩

/-- A mark's block is shut. -/
theorem HR.unmark {h : Hp} {z : Fz} {D : Nat} {M : List Nat} (hM : E.M = D :: M) (hK : ¬ E.K D) (H : HR E G w A κ h z) : HR { E with M := M } G (w.putObj D (.deferred none)) A κ h z ∧ ∀ b o, A b → (w.putObj D (.deferred none)).cell? ⟨b, o, none⟩ = w.cell? ⟨b, o, none⟩ := by
  obtain ⟨d1, ⟨d2, d3⟩, d4⟩ := H.kp.mks D (by rw [hM]; simp)
  have hcell : ∀ b o, A b → (w.putObj D (.deferred none)).cell? ⟨b, o, none⟩ = w.cell? ⟨b, o, none⟩ := fun b o hA => cell?_of_heap (World.putObj_heap_other (r := D) (k := b) (fun e => by subst e; exact d3 hA)) o
  have mono : ∀ {d v}, RV w A κ d v → RV (w.putObj D (.deferred none)) A κ d v := fun hv => hv.mono (fun _ h => h) hcell (fun _ _ h => h)
  have hnd := H.kp.nd
  rw [hM, List.nodup_cons] at hnd
  refine ⟨⟨H.bel.trans ⟨rfl, rfl, rfl, by simp, fun k hk => World.putObj_heap_other (by omega)⟩, by simp [H.hB], fun b hb => by simp; exact H.alt b hb, H.a0, H.a1, fun b o hb => (hcell b o (H.a0 b hb)).trans (H.acell b o hb), H.k0, fun g e hg => mono (H.glob g e hg), fun r m sz cap hr => by simpa using H.klt r m sz cap hr, ⟨H.kp.base.trans ⟨rfl, rfl, rfl, by simp, fun k hk => by omega⟩, fun b hb => ⟨by simp; exact (H.kp.keep b hb).1, ?_⟩, H.kp.wr, H.kp.own, fun D' hD' => ?_, hnd.2, H.kp.kb.trans ⟨rfl, rfl, rfl, by simp, fun k hk => by omega⟩, fun b hb => ⟨by simp; exact (H.kp.kk b hb).1, (World.putObj_heap_other (r := D) (k := b) (fun e => by subst e; exact hK hb)).trans (H.kp.kk b hb).2.1, (H.kp.kk b hb).2.2⟩, H.kp.zk, fun D' hD' => H.kp.mk0 D' (by rw [hM]; exact List.mem_cons_of_mem _ hD'), H.kp.gk⟩, fun r b hb hκ => ?_, H.excl⟩, hcell⟩
  · exact (World.putObj_heap_other (r := D) (k := b) (fun e => by subst e; exact d2 hb)).trans (H.kp.keep b hb).2
  · have := H.kp.mks D' (by rw [hM]; exact List.mem_cons_of_mem _ hD')
    exact ⟨this.1, this.2.1, (World.putObj_heap_other (r := D) (k := D') (fun e => by subst e; exact hnd.1 hD')).trans this.2.2⟩
  · obtain ⟨m, cap, h1, h2, h3, h4⟩ := H.blk r b hb hκ
    refine ⟨m, cap, h1, h2, h3, ?_⟩
    rcases h4 with h4 | ⟨c, ty, g1, g2, g3, g4, g5, g6, g7⟩
    · exact Or.inl h4
    · exact Or.inr ⟨c, ty, g1, (World.putObj_heap_other (fun e => by rw [e, d4] at g2; cases g2)).trans g2, g3, g4, fun i e he => (g5 i e he).mono (fun _ h => h) hcell (fun _ _ h => h), g6, g7⟩

/-- Behind the marks: the results. -/
theorem leaves_sound {F : Fence} {n : Nat} {fn : Func} {rs : List ResultVar} (hrs : fn.results = rs.toArray) (hf : rs.all (resFits N) = true) {v : PV} (h : resOf P rs s = some v) {R : Ending → World → Prop} :
    ∀ (Ms : List Nat) (E : Env) (w : World) (a : Act), E.M = Ms ++ E.M0 → HR E G w A κ s.h s.z → Fresh s.nx κ s.h s.z → E.n0 ≤ s.nx → (∀ i, i < N → RV w A κ (s.t i) (a.tmps.getD i undef)) → a.tmps.size = N →
      (∀ w' u, HR { E with M := E.M0 } G w' A κ s.h s.z → RV w' A κ v u → R (.returned u) w') → LeavesInM F n P fn a.tmps R (Ms.map mkD) .returning w
  | [], E, w, a, hM, H, h1, h2, h3, h4, hR => by
    have hM' : E.M = E.M0 := hM
    obtain ⟨u, hu, hru⟩ := results_sound (df := []) (a := { a with defers := [] }) ⟨H, h1, h2, h3, h4, [], hM, rfl⟩ hrs hf h
    refine ⟨u, hu, hR w u ?_ hru⟩
    have : ({ E with M := E.M0 } : Env) = E := by cases E; cases hM'; rfl
    rw [this]; exact H
  | D :: Ms, E, w, a, hM, H, h1, h2, h3, h4, hR => by
    have hd := (H.kp.mks D (by rw [hM]; simp)).2.2
    have hnK : ¬ E.K D := (H.kp.mk0 D (by rw [hM]; simp)).resolve_left fun hD => by
      have := H.kp.nd
      rw [hM, List.cons_append, List.nodup_cons] at this
      exact this.1 (List.mem_append_right _ hD)
    obtain ⟨H', hcell⟩ := H.unmark (D := D) (M := Ms ++ E.M0) (by rw [hM]; rfl) hnK
    refine ⟨by simp, Or.inl ⟨D, _, rfl, run_takeDeferred hd, ?_⟩⟩
    exact leaves_sound hrs hf h Ms { E with M := Ms ++ E.M0 } _ a rfl H' h1 h2 (fun i hi => (h3 i hi).mono (fun _ h => h) hcell (fun _ _ h => h)) h4 fun w' u q1 q2 => hR w' u q1 q2

/-- A FUNCTION's BODY, out of 'wp'. -/
theorem calls_of_wpX (hm : P.follows .mixedOrders = true) {f : FuncId} {fn : Func} {c : Code} {rs : List ResultVar} {nt : Nat} (ok : FnOk P f fn c rs nt) {C : Contracts} {X : Env → Prop} {n0 : Nat} (hC : XOk P G C X) (hmk : ∀ E M, X E → X { E with M := M }) (hn : E.n0 = n0) (hX : X E) (hM : E.M = E.M0) {ds : List PV} (hl : ds.length ≤ nt) {K : PV → St → Prop} {s : St}
    (h : wp P G C (FnH P G) (LeS G, n0) c (atEnd P rs K) { s with t := argTm ds }) {vs : List Value} (h1 : E.n0 ≤ s.nx) (H : HR E G w A κ s.h s.z) (h6 : Fresh s.nx κ s.h s.z) (h7 : RVs w A κ ds vs) :
    Calls P f vs.toArray w fun e w' => ∃ E' v pv A' κ' s', (X E' ∧ E'.re E = E') ∧ e = .returned v ∧ HR { E' with M := E'.M0 } G w' A' κ' s'.h s'.z ∧ Fresh s'.nx κ' s'.h s'.z ∧ E'.n0 ≤ s'.nx ∧ RV w' A' κ' pv v ∧ K pv s' := by
  refine callsIn_wd (ro := none) (n := 0).1 (callsIn_of_wp_marks ok.hf ok.hb trivial ?_)
  rw [ok.ht]
  obtain ⟨hsz, htm⟩ := enter_tm h7 hl
  have hR : RelX X E G nt [] { s with t := argTm ds } { tmps := vs.toArray ++ Array.replicate (nt - vs.toArray.size) undef, defers := [] } w A κ :=
    ⟨E, hX, rfl, H, h6, h1, htm, hsz, [], hM, rfl⟩
  have := wp_sound hm c X hC none 0 E n0 hn [] (Or.inr ⟨rfl, hmk⟩) _ _ _ w A κ ok.fits hR h
  refine wpIn_mono this fun e a' w' ⟨s', A', κ', ⟨E', hX', hF', hR'⟩, hq⟩ => ?_
  have fin : (∃ v, resOf P rs s' = some v ∧ K v s') → LeavesInM (Wd none) 0 P fn a'.tmps (fun e w' => ∃ E' v pv A' κ' s', (X E' ∧ E'.re E = E') ∧ e = .returned v ∧ HR { E' with M := E'.M0 } G w' A' κ' s'.h s'.z ∧ Fresh s'.nx κ' s'.h s'.z ∧ E'.n0 ≤ s'.nx ∧ RV w' A' κ' pv v ∧ K pv s') a'.defers .returning w' := by
    rintro ⟨v, hv, hK⟩
    obtain ⟨Ms, hMs, hd⟩ := hR'.df
    rw [hd, List.append_nil]
    exact leaves_sound ok.hr ok.rfits hv Ms E' w' a' hMs hR'.hr hR'.fresh hR'.n0 hR'.tm hR'.size fun w'' u q1 q2 => ⟨E', u, v, A', κ', s', ⟨hX', hF'⟩, rfl, q1, hR'.fresh, hR'.n0, q2, hK⟩
  cases e with
  | normal => exact fin hq
  | ret => exact fin hq
  | _ => exact hq.elim

/-- The surroundings of a call that does not yield. -/
def plainX (E : Env) : Env → Prop := fun E' => ∃ M F, E' = { E with M := M }.re F
theorem plain_mark (E : Env) : ∀ E' M', plainX E E' → plainX E { E' with M := M' } := fun E' M' ⟨M, F, h⟩ => ⟨M', F, by rw [h]; rfl⟩
theorem plain_ok (E : Env) : XOk P G (FnC P G) (plainX E) :=
  ⟨fun E' F ⟨M, F', h⟩ _ => ⟨M, F, by rw [h]; rfl⟩, fun f ds r _ h => h, fun f ds i j b h => h.2.elim, fun l ds i j b h => h.2.elim⟩

/-- An inlined call, out of 'wp'. -/
theorem FnH_of_wp (hm : P.follows .mixedOrders = true) {f : FuncId} {fn : Func} {c : Code} {rs : List ResultVar} {nt : Nat} (ok : FnOk P f fn c rs nt) {ds : List PV} (hl : ds.length ≤ nt) {K : PV → St → Prop} {s : St}
    (h : wp P G (FnC P G) (FnH P G) (LeS G, s.nx) c (atEnd P rs K) { s with t := argTm ds }) : FnH P G f ds K s := by
  refine ⟨ok.callable, fun E w A κ vs h1 h2 h3 h4 h5 h6 h7 => ?_⟩
  have H1 := h5.m0' (M0 := E.M) fun D hD => Or.inl hD
  have := calls_of_wpX (E := { E with M0 := E.M }) hm ok (plain_ok (P := P) (G := G) { E with M0 := E.M }) (plain_mark _) rfl ⟨E.M, { E with M0 := E.M }, rfl⟩ rfl hl (s := s) (K := K) (by show wp P G (FnC P G) (FnH P G) (LeS G, E.n0) c (atEnd P rs K) _; rw [h1]; exact h) (Nat.le_of_eq h1) H1 h6 h7
  refine this.mono fun e w' ⟨E', v, pv, A', κ', s', ⟨⟨M', F', hE'⟩, hre⟩, g1, g2, g3, g4, g5, g6⟩ => ?_
  rw [hE'] at hre
  rw [← hre] at hE'
  subst hE'
  exact ⟨v, pv, A', κ', s', g1, g2.m0 h5.kp.mk0, g3, by rw [← h1]; exact g4, g5, g6⟩

/-- The state at the beginning of a function that was handed data. -/
def start (ds : List PV) : St := { t := argTm ds, h := fun _ => none, z := fun _ => false, nx := 0 }

theorem hr_start {A : Nat → Prop} (hA : ∀ b, A b → b < w.heap.size) (hg : Gok G w A) : HR { w0 := w, w1 := w, B := w.heap.size, A0 := A, n0 := 0, κ0 := fun _ => none, ws := w, kw := w } G w A (fun _ => none) (fun _ => none) (fun _ => false) :=
  ⟨Below.refl _ _, Nat.le_refl _, hA, fun _ h => h, fun _ h => Or.inl h, fun _ _ _ => rfl, fun r hr => (by cases hr), hg, fun r m sz cap hr => (by cases hr), ⟨Below.refl _ _, fun b hb => hb.elim, fun b hb => hb.elim, fun r b m sz cap hr => (by cases hr), fun D hD => (by cases hD), List.nodup_nil, Below.refl _ _, fun b hb => hb.elim, fun b hb => hb.elim, fun D hD => (by cases hD), fun hg => (by cases hg)⟩, fun r b hr => (by cases hr), fun r r' b b' m m' s s' c c' hne hr => (by cases hr)⟩

theorem wp_start (hm : P.follows .mixedOrders = true) {f : FuncId} {fn : Func} {c : Code} {rs : List ResultVar} {nt : Nat} (ok : FnOk P f fn c rs nt) {ds : List PV} (hl : ds.length ≤ nt) {K : PV → St → Prop}
    (h : wp P G (FnC P G) (FnH P G) (LeS G, 0) c (atEnd P rs K) (start ds)) {w : World} {A : Nat → Prop} {vs : List Value} (hA : ∀ b, A b → b < w.heap.size) (hg : Gok G w A) (hd : RDs w A ds vs) :
    Calls P f vs.toArray w fun e w' => ∃ v pv A' κ' s', e = .returned v ∧ HR { w0 := w, w1 := w, B := w.heap.size, A0 := A, n0 := 0, κ0 := fun _ => none, ws := w, kw := w } G w' A' κ' s'.h s'.z ∧ RV w' A' κ' pv v ∧ K pv s' := by
  have := (FnH_of_wp hm ok hl (K := K) (s := start ds) h).2 _ w A (fun _ => none) vs rfl rfl rfl rfl (hr_start hA hg) (fun r _ => ⟨rfl, rfl, rfl⟩) ⟨hd.1, fun i d hi => .data _ _ (hd.2 i d hi)⟩
  exact this.mono fun e w' ⟨v, pv, A', κ', s', h1, h2, _, _, h5, h6⟩ => ⟨v, pv, A', κ', s', h1, h2, h5, h6⟩

/-- A CONTRACT ON DATA, out of 'wp'. -/
theorem FnC_of_wp (hm : P.follows .mixedOrders = true) {f : FuncId} {fn : Func} {c : Code} {rs : List ResultVar} {nt : Nat} (ok : FnOk P f fn c rs nt) {ds : List PV} (hl : ds.length ≤ nt) {d : PV}
    (h : wp P G (FnC P G) (FnH P G) (LeS G, 0) c (atEnd P rs fun v s => ∃ ks, frz s.h 4 v = some (d, ks)) (start ds)) : FnC P G f ds (.data d) := by
  refine ⟨ok.callable, fun w A vs hA hg hd => (wp_start hm ok hl h hA hg hd).mono fun e w' ⟨v, pv, A', κ', s', h1, h2, h3, ks, h4⟩ => ⟨v, h1, h2.bel, ?_⟩⟩
  have hf := h2.freeze (frz_keys 4 pv d ks h4)
  have := frz_sound h2 (A' := fun b => A' b ∨ blocksOf κ' ks b) (fun b hb => Or.inl hb) 4 pv d v ks h4 h3 (fun b hb => Or.inr hb)
  exact this.mono (fun b hb => by
    rcases hf.a1 b hb with h | h
    · exact Or.inl h
    · exact Or.inr ⟨h, hf.alt b hb⟩) (fun _ _ _ => rfl)

/-- A CONTRACT WITH A ROW OF ITS OWN, out of 'wp'. -/
theorem FnC_of_wp_fresh (hm : P.follows .mixedOrders = true) {f : FuncId} {fn : Func} {c : Code} {rs : List ResultVar} {nt : Nat} (ok : FnOk P f fn c rs nt) {ds : List PV} (hl : ds.length ≤ nt) {els : List PV} {sz : Nat} {agg : Bool}
    (h : wp P G (FnC P G) (FnH P G) (LeS G, 0) c (atEnd P rs fun v s => (v = .nilsl ∧ els = []) ∨ ∃ r b ks, v = .own r 0 els.length ∧ s.h r = some b ∧ b.sz = sz ∧ b.agg = agg ∧ b.els.length = els.length ∧ s.z r = false ∧ mapF (frz s.h 4) b.els = some (els, ks) ∧ ks.contains r = false) (start ds)) :
    FnC P G f ds (.fresh els sz agg) := by
  refine ⟨ok.callable, fun w A vs hA hg hd => (wp_start hm ok hl h hA hg hd).mono fun e w' ⟨v, pv, A', κ', s', h1, h2, h3, hq⟩ => ⟨v, h1, h2.bel, ?_⟩⟩
  rcases hq with ⟨hpv, he⟩ | ⟨r, b, ks, hpv, hb, hsz, hagg, hlen, hz, hfr, hks⟩
  · subst hpv he
    rw [h3.nilsl_inv]
    exact ⟨none, 0, rfl, Nat.le_refl _, fun e he => (by cases he), Or.inl rfl⟩
  subst hpv
  rw [← hsz, ← hagg]
  have hf := h2.freeze (mapF_frz_keys hfr)
  obtain ⟨m, sz', cap, a, rfl, hκ, hle, ha⟩ := h3.own_inv
  obtain ⟨m0, cap0, e1, e2, e3, e4⟩ := h2.blk r b hb (by rw [hκ]; simp)
  rw [hκ] at e1; cases e1
  obtain ⟨g1, g2⟩ := mapF_spec hfr
  refine ⟨a, cap, by simp, by omega, fun e he => ?_, ?_⟩
  · obtain ⟨i, hi, rfl⟩ := List.getElem_of_mem he
    obtain ⟨x, ks1, q1, q2, q3⟩ := g2 i _ (List.getElem?_eq_getElem hi)
    obtain ⟨c1, c2, _⟩ := frz_cells q2
    have := e3 x (List.mem_of_getElem? q1)
    exact ⟨by rw [c1]; exact this.1, by rw [c2]; exact this.2⟩
  · by_cases hc0 : cap = 0
    · exact Or.inl hc0
    · obtain ⟨c', ty, f1, f2, f3, f4, f5, f6, f7⟩ := e4.resolve_left hc0
      have ha' := ha.resolve_right hc0
      subst ha'
      have hmA : ¬ (A' m ∨ blocksOf κ' ks m) := by
        rintro (h | ⟨r', hr', sz', cap', hκ', hc'⟩)
        · exact f6 hz h
        · obtain ⟨b', hb'⟩ := mapF_frz_keys hfr r' hr'
          have hne : r ≠ r' := fun e => by subst e; simp at hks; exact hks hr'
          exact h2.excl r r' b b' m m _ _ _ _ hne hb hb' hκ hκ' hc0 hc' rfl
      refine Or.inr ⟨m, c', ty, by simp, f1, f2, f3, f4, fun i e he j x hx => ?_⟩
      obtain ⟨y, ks1, q1, q2, q3⟩ := g2 i e he
      obtain ⟨_, _, hcel⟩ := frz_cells q2
      obtain ⟨m', y', ks2, p1, p2, p3, p4⟩ := hcel j x hx
      obtain ⟨u, t1, t2, t3⟩ := f5 i y q1 j y' p2
      refine ⟨u, t1, .data _ _ ?_, t3⟩
      have := frz_sound h2 (A' := fun b => A' b ∨ blocksOf κ' ks b) (fun b hb => Or.inl hb) m' y' x u ks2 p3 t2 (fun b ⟨r, hr, q⟩ => Or.inr ⟨r, q3 r (p4 r hr), q⟩)
      exact this.mono (fun b hb => by
        have hne : b ≠ m := fun e => hmA (e ▸ hb)
        rcases hf.a1 b hb with h | h
        · exact Or.inl h
        · exact Or.inr ⟨h, hf.alt b hb, hne⟩) (fun _ _ _ => rfl)

end
end Go.PI
