/-
  PI: regions, code, functions: what 'wp' shows holds in the model.
-/
import Derived.Test.YtholmbhdbmjobaaDoorCPiDraw2
import Derived.TacticsIn
set_option linter.unusedVariables false
set_option linter.unusedSimpArgs false
namespace Go.PI
open Go.RowKit

def operandFits (N : Nat) : Operand → Bool
  | .tmp t => decide (t < N)
  | _ => true
def operFits (N : Nat) (o : Oper) : Bool := (match o.dst with | some d => decide (d < N) | none => true) && o.op.operands.toList.all (operandFits N)
/-- No range over a function in it. -/
def noR : Code → Bool
  | .rangeFunc .. => false
  | .seq a b => noR a && noR b
  | .cond _ a b => noR a && noR b
  | .block _ c => noR c
  | .loop c => noR c
  | _ => true
def codeFits (N : Nat) : Code → Bool
  | .skip | .label _ | .exit _ | .ret => true
  | .seq a b => codeFits N a && codeFits N b
  | .cond c a b => operandFits N c && (codeFits N a && codeFits N b)
  | .block _ c => codeFits N c
  | .loop c => codeFits N c
  | .region _ ops D => ops.toList.all (operFits N) && (!D || Region.lexB .any ops)
  | .rangeFunc g ps x y => operandFits N g && (ps.toList.all (fun p => decide (p < N)) && (noR x && noR y && (codeFits N x && codeFits N y)))
  | _ => false

/-- The mark that a range over a function leaves among the deferred calls. -/
def mkD (D : Nat) : Deferred := { target := .collected D, args := #[] }

/-- PI's state stands to the frame and the world. -/
structure Rel (E : Env) (G : Gl) (N : Nat) (df : List Deferred) (s : St) (a : Act) (w : World) (A : Nat → Prop) (κ : Ka) : Prop where
  hr : HR E G w A κ s.h s.z
  fresh : Fresh s.nx κ s.h s.z
  n0 : E.n0 ≤ s.nx
  tm : ∀ i, i < N → RV w A κ (s.t i) (a.tmps.getD i undef)
  size : a.tmps.size = N
  df : ∃ Ms, E.M = Ms ++ E.M0 ∧ a.defers = Ms.map mkD ++ df

/-- In one of the surroundings 'X'. -/
def RelX (X : Env → Prop) (F : Env) (G : Gl) (N : Nat) (df : List Deferred) (s : St) (a : Act) (w : World) (A : Nat → Prop) (κ : Ka) : Prop := ∃ E, X E ∧ E.re F = E ∧ Rel E G N df s a w A κ
theorem re_n0 {E F : Env} (h : E.re F = E) : E.n0 = F.n0 := by rw [← h]; rfl
theorem re_trans {E E' F : Env} (h : E.re F = E) (h' : E'.re E = E') : E'.re F = E' := by rw [← h', ← h]; rfl
theorem re_M0 {E E' : Env} (h' : E'.re E = E') : E'.M0 = E.M0 := by rw [← h']; rfl

section
variable {P : Program} {E : Env} {G : Gl} {N : Nat} {df : List Deferred} {w : World} {A : Nat → Prop} {κ : Ka} {s : St} {a : Act}

theorem eval_rel (H : HR E G w A κ s.h s.z) (ht : ∀ i, i < N → RV w A κ (s.t i) (a.tmps.getD i undef)) {x : Operand} (hx : operandFits N x = true) : RV w A κ (ev G s.t x) (a.eval x) := by
  cases x with
  | tmp t => exact ht t (by simpa [operandFits] using hx)
  | const v => exact pi_ofConst v
  | global g =>
    simp only [ev, Act.eval]
    split
    · rename_i e he; exact H.glob g e he
    · exact .any _
  | func f => exact .func _ [] [] _ _ rfl rfl (fun i d hd => by simp at hd) (fun i d hd => by simp at hd)

theorem okOp_of (H : HR E G w A κ s.h s.z) (ht : ∀ i, i < N → RV w A κ (s.t i) (a.tmps.getD i undef)) {o : Oper} (ho : operFits N o = true) : OkOp G w A κ s.t a.eval o.op := fun x hx => by
  simp only [operFits, Bool.and_eq_true, List.all_eq_true] at ho
  exact eval_rel H ht (ho.2 x hx)

theorem put_tm {t : Tm} {dst : Option Nat} {v : PV} {v' : Value} (hs : a.tmps.size = N) (hd : ∀ d, dst = some d → d < N) (ht : ∀ i, i < N → RV w A κ (t i) (a.tmps.getD i undef)) (hv : RV w A κ v v') :
    ∀ i, i < N → RV w A κ ((match dst with | some d => tset t d v | none => t) i) ((a.put dst v').tmps.getD i undef) := by
  intro i hi
  cases dst with
  | none => exact ht i hi
  | some d =>
    have hdN := hd d rfl
    simp only [Act.put, tset]
    by_cases h : i = d
    · subst h
      simpa [Array.getD, hs, hi] using hv
    · rw [if_neg h]
      have := ht i hi
      have hne : d ≠ i := fun e => h e.symm
      simpa [Array.getD, hs, hi, Array.getElem_setIfInBounds, hne] using this

theorem put_size {dst : Option Nat} {v' : Value} (hs : a.tmps.size = N) : (a.put dst v').tmps.size = N := by
  cases dst <;> simp [Act.put, hs]
theorem put_df {dst : Option Nat} {v' : Value} {df : List Deferred} (hs : a.defers = df) : (a.put dst v').defers = df := by
  cases dst <;> simp [Act.put, hs]

theorem put_dfM {E : Env} {dst : Option Nat} {v' : Value} {df : List Deferred} (hs : ∃ Ms, E.M = Ms ++ E.M0 ∧ a.defers = Ms.map mkD ++ df) : ∃ Ms, E.M = Ms ++ E.M0 ∧ (a.put dst v').defers = Ms.map mkD ++ df := by
  obtain ⟨Ms, h1, h2⟩ := hs
  exact ⟨Ms, h1, put_df h2⟩

theorem dst_fits {o : Oper} (ho : operFits N o = true) : ∀ d, o.dst = some d → d < N := fun d hd => by
  simp only [operFits, hd, Bool.and_eq_true, decide_eq_true_eq] at ho
  exact ho.1

theorem wants_rel {ops : List Oper} (hf : ∀ o ∈ ops, operFits N o = true) (hs : a.tmps.size = N) (ht : ∀ i, i < N → RV w A κ (s.t i) (a.tmps.getD i undef)) {o : Oper} {b : Bool} (h : wants ops o s.t = some b) :
    Region.wanted o (yielded ops.toArray a.tmps) = b := by
  unfold wants at h
  unfold Region.wanted
  cases hg : o.guard with
  | none => rw [hg] at h; simpa using h
  | some q =>
    obtain ⟨j, want⟩ := q
    rw [hg] at h
    simp only at h ⊢
    cases hd : (ops[j]?).bind (·.dst) with
    | none => rw [hd] at h; cases h
    | some d =>
      rw [hd] at h
      simp only at h
      have hdN : d < N := by
        cases ho : ops[j]? with
        | none => rw [ho] at hd; cases hd
        | some oj =>
          rw [ho] at hd
          exact dst_fits (hf oj (List.mem_of_getElem? ho)) d hd
      have hv := ht d hdN
      have hget : a.tmps[d]? = some (a.tmps.getD d undef) := by simp [Array.getD, hs, hdN]
      split at h
      · rename_i b' hb
        rw [hb] at hv
        cases h
        simp [yielded, hd, hget, hv.bool_inv]
      · rename_i hb
        rw [hb] at hv
        cases h
        obtain ⟨vs, hvs, _⟩ := hv.tup_inv
        simp [yielded, hd, hget, hvs]
      · cases h

/-- The facts that a step carries on. -/
theorem tm_mono {t : Tm} {w' : World} {A' : Nat → Prop} {κ' : Ka} (hA : ∀ b, A b → A' b) (hc : ∀ b o, A b → w'.cell? ⟨b, o, none⟩ = w.cell? ⟨b, o, none⟩) (hk : ∀ r x, κ r = some x → κ' r = some x)
    (ht : ∀ i, i < N → RV w A κ (t i) (a.tmps.getD i undef)) : ∀ i, i < N → RV w' A' κ' (t i) (a.tmps.getD i undef) := fun i hi => (ht i hi).mono hA hc hk

/-- What 'opWp' says of an operation of a region, split. -/
theorem opWp_cases {C : Contracts} {I : Inline} {D : Bool} {o : Oper} {K : FP → St → Prop} (h : opWp P G C I D o K s) :
    (∃ fp v h' z', opD P G C s.nx o s fp v h' z' ∧ K fp (put { s with h := h', z := z', nx := s.nx + 1 } o.dst v)) ∨
    (D = false ∧ ∃ g args ts f first captured, o.op = .call { callee := .value g, args, argTypes := ts } ∧ ev G s.t g = .func (.func f) first captured ∧
      I f (first ++ args.toList.map (ev G s.t) ++ captured) (fun v s' => K ⟨[], [], []⟩ (put { s' with t := s.t } o.dst v)) s) := by
  unfold opWp at h
  split at h
  · rename_i g args ts ho
    split at h
    · rename_i f first captured hev
      rcases h with ⟨n, ds, ks, r, h1, h2, h4, h3⟩ | ⟨hd, h⟩
      · left
        refine ⟨⟨r.rds ++ ks, r.keys s.nx, ks⟩, r.val s.nx, r.heap s.nx s.h, fset s.z ks, ?_, h3⟩
        unfold opD
        rw [ho]
        exact ⟨f, [], _, n, ds, r, Or.inl ⟨first, captured, hev, rfl, rfl⟩, h1, h2, h4, rfl, rfl, rfl, rfl, rfl⟩
      · exact Or.inr ⟨hd, g, args, ts, f, first, captured, ho, hev, h⟩
    · rename_i l hev
      obtain ⟨n, ds, ks, i, j, b, h1, h2, h4, h3⟩ := h
      left
      refine ⟨⟨0 :: ks, [0], ks⟩, .bool b, hset s.h 0 (some (gblk j)), fset s.z ks, ?_, h3⟩
      unfold opD
      rw [ho]
      exact ⟨l, [.anyb], _, n, ds, .gh i j b, Or.inr ⟨hev, rfl, rfl, rfl⟩, h1, h2, h4, rfl, rfl, rfl, rfl, rfl⟩
    · exact h.elim
  · rename_i op hne
    split at h
    · rename_i v h' rd wr he
      left
      refine ⟨⟨rd, wr, []⟩, v, h', s.z, ?_, h⟩
      unfold opD
      split
      · rename_i g args ts ho
        exact absurd ho (hne g args ts)
      · exact ⟨he, rfl, rfl⟩
    · exact h.elim

theorem clearOf_iff {o : Oper} {fp : FP} {acc : List (Nat × FP)} (h : clearOf o fp acc = true) : ∀ k f, (k, f) ∈ acc → (∀ e ∈ o.after, Region.binds .any e = true → e.on ≠ k) → FP.apart f fp = true := by
  intro k f hm hno
  simp only [clearOf, List.all_eq_true, Bool.or_eq_true] at h
  rcases h (k, f) hm with h | h
  · simp only [Array.any_eq_true, Bool.and_eq_true, beq_iff_eq] at h
    obtain ⟨i, hi, h1, h2⟩ := h
    exact absurd h1 (hno _ (Array.getElem_mem hi) h2)
  · exact h

/-- The order of the text, out of 'wpOps'. -/
theorem chain_of_wpOps {C : Contracts} {I : Inline} {ops : List Oper} {base : Nat} {K : St → Prop} : ∀ (m i : Nat) (acc : List (Nat × FP)) (l : List Oper) (s : St), i + m = ops.length → l = ops.drop i → s.nx = base + i →
    wpOps P G C I true ops i acc l K s →
    ∃ fps : Nat → FP, chainD P G C ops base fps (fun s' => K { s' with nx := base + ops.length }) m i { s with nx := base } ∧
      (∀ j oj, i ≤ j → ops[j]? = some oj → (∀ k f, (k, f) ∈ acc → (∀ e ∈ oj.after, Region.binds .any e = true → e.on ≠ k) → FP.apart f (fps j) = true) ∧
        ∀ k, i ≤ k → k < j → (∀ e ∈ oj.after, Region.binds .any e = true → e.on ≠ k) → FP.apart (fps k) (fps j) = true)
  | 0, i, acc, l, s, hi, hl, hn, h => by
    have hi' : i = ops.length := by omega
    subst hi'
    have : l = [] := by rw [hl]; simp
    subst this
    refine ⟨fun _ => ⟨[], [], []⟩, ?_, fun j oj hj hoj => ?_⟩
    · have e : ({ s with nx := base + ops.length } : St) = s := by rw [← hn]
      show K _
      rw [e]
      exact h
    · have := (List.getElem?_eq_some_iff.1 hoj).1; omega
  | m + 1, i, acc, l, s, hi, hl, hn, h => by
    have hlt : i < ops.length := by omega
    have h0 : ops[i]? = some ops[i] := List.getElem?_eq_getElem hlt
    have hl' : l = ops[i] :: ops.drop (i + 1) := by rw [hl]; exact List.drop_eq_getElem_cons hlt
    rw [hl'] at h
    have run : wants ops ops[i] s.t = some true → opWp P G C I true ops[i] (fun fp s' => (true = true → clearOf ops[i] fp acc = true) ∧ wpOps P G C I true ops (i + 1) ((i, fp) :: acc) (ops.drop (i + 1)) K s') s →
        ∃ fps : Nat → FP, chainD P G C ops base fps (fun s' => K { s' with nx := base + ops.length }) (m + 1) i { s with nx := base } ∧
      (∀ j oj, i ≤ j → ops[j]? = some oj → (∀ k f, (k, f) ∈ acc → (∀ e ∈ oj.after, Region.binds .any e = true → e.on ≠ k) → FP.apart f (fps j) = true) ∧
        ∀ k, i ≤ k → k < j → (∀ e ∈ oj.after, Region.binds .any e = true → e.on ≠ k) → FP.apart (fps k) (fps j) = true) := by
      intro hw hop
      rcases opWp_cases hop with ⟨fp, v, h', z', hd, hcl, hrest⟩ | ⟨hf, _⟩
      · obtain ⟨fps, hc, hp⟩ := chain_of_wpOps (base := base) m (i + 1) ((i, fp) :: acc) (ops.drop (i + 1)) _ (by omega) rfl (by rw [put_nx]; show s.nx + 1 = _; omega) hrest
        refine ⟨fun k => if k = i then fp else fps k, ⟨put { s with h := h', z := z', nx := base } ops[i].dst v, ⟨ops[i], h0, Or.inl ⟨hw, v, h', z', ?_, rfl⟩⟩, ?_⟩, fun j oj hj hoj => ?_⟩
        · simp only [if_true]
          rw [← hn]
          exact hd
        · have e : ({ put { s with h := h', z := z', nx := s.nx + 1 } ops[i].dst v with nx := base } : St) = put { s with h := h', z := z', nx := base } ops[i].dst v := by cases ops[i].dst <;> rfl
          rw [e] at hc
          have hcong : ∀ (m j : Nat) (q : St), i < j → chainD P G C ops base fps (fun s' => K { s' with nx := base + ops.length }) m j q → chainD P G C ops base (fun k => if k = i then fp else fps k) (fun s' => K { s' with nx := base + ops.length }) m j q := by
            intro m
            induction m with
            | zero => intro j q _ h; exact h
            | succ m ih =>
              intro j q hj ⟨q', hq, h⟩
              refine ⟨q', ?_, ih (j + 1) q' (by omega) h⟩
              unfold DStep at hq ⊢
              simp only [if_neg (show ¬ j = i by omega)]
              exact hq
          exact hcong m (i + 1) _ (by omega) hc
        · by_cases hji : j = i
          · subst hji
            simp only [if_true]
            rw [h0] at hoj; cases hoj
            exact ⟨fun k f hm hno => clearOf_iff (hcl rfl) k f hm hno, fun k h1 h2 => by omega⟩
          · obtain ⟨p1, p2⟩ := hp j oj (by omega) hoj
            simp only [if_neg hji]
            refine ⟨fun k f hm hno => p1 k f (List.mem_cons_of_mem _ hm) hno, fun k h1 h2 hno => ?_⟩
            by_cases hki : k = i
            · subst hki
              simp only [if_true]
              exact p1 k fp (by simp) hno
            · simp only [if_neg hki]
              exact p2 k (by omega) h2 hno
      · cases hf
    have pass : wants ops ops[i] s.t = some false → wpOps P G C I true ops (i + 1) acc (ops.drop (i + 1)) K (put { s with nx := s.nx + 1 } ops[i].dst (.tup [])) →
        ∃ fps : Nat → FP, chainD P G C ops base fps (fun s' => K { s' with nx := base + ops.length }) (m + 1) i { s with nx := base } ∧
      (∀ j oj, i ≤ j → ops[j]? = some oj → (∀ k f, (k, f) ∈ acc → (∀ e ∈ oj.after, Region.binds .any e = true → e.on ≠ k) → FP.apart f (fps j) = true) ∧
        ∀ k, i ≤ k → k < j → (∀ e ∈ oj.after, Region.binds .any e = true → e.on ≠ k) → FP.apart (fps k) (fps j) = true) := by
      intro hw hrest
      obtain ⟨fps, hc, hp⟩ := chain_of_wpOps (base := base) m (i + 1) acc (ops.drop (i + 1)) _ (by omega) rfl (by rw [put_nx]; show s.nx + 1 = _; omega) hrest
      have hemp : ∀ f : FP, FP.apart f ⟨[], [], []⟩ = true := fun f => by simp [FP.apart]
      have hemp' : ∀ f : FP, FP.apart ⟨[], [], []⟩ f = true := fun f => by simp [FP.apart]
      refine ⟨fun k => if k = i then ⟨[], [], []⟩ else fps k, ⟨put { s with nx := base } ops[i].dst (.tup []), ⟨ops[i], h0, Or.inr ⟨hw, rfl⟩⟩, ?_⟩, fun j oj hj hoj => ?_⟩
      · have e : ({ put { s with nx := s.nx + 1 } ops[i].dst (.tup []) with nx := base } : St) = put { s with nx := base } ops[i].dst (.tup []) := by cases ops[i].dst <;> rfl
        rw [e] at hc
        have hcong : ∀ (m j : Nat) (q : St), i < j → chainD P G C ops base fps (fun s' => K { s' with nx := base + ops.length }) m j q → chainD P G C ops base (fun k => if k = i then ⟨[], [], []⟩ else fps k) (fun s' => K { s' with nx := base + ops.length }) m j q := by
          intro m
          induction m with
          | zero => intro j q _ h; exact h
          | succ m ih =>
            intro j q hj ⟨q', hq, h⟩
            refine ⟨q', ?_, ih (j + 1) q' (by omega) h⟩
            unfold DStep at hq ⊢
            simp only [if_neg (show ¬ j = i by omega)]
            exact hq
        exact hcong m (i + 1) _ (by omega) hc
      · by_cases hji : j = i
        · subst hji
          simp only [if_true]
          exact ⟨fun k f hm hno => hemp f, fun k h1 h2 => by omega⟩
        · obtain ⟨p1, p2⟩ := hp j oj (by omega) hoj
          simp only [if_neg hji]
          refine ⟨p1, fun k h1 h2 hno => ?_⟩
          by_cases hki : k = i
          · simp only [if_pos hki]; exact hemp' _
          · simp only [if_neg hki]
            exact p2 k (by omega) h2 hno
    unfold wpOps at h
    dsimp only at h
    split at h
    · rename_i hg
      exact run (by unfold wants; rw [hg]) h
    · rename_i j want hg
      split at h
      · rename_i d hd
        split at h
        · rename_i b hb
          by_cases hbw : b = want
          · exact run (by unfold wants; simp only [hg, hd, hb, hbw]; simp) (h.1 hbw)
          · have hbw' : b = !want := by cases b <;> cases want <;> simp_all
            exact pass (by unfold wants; simp only [hg, hd, hb, hbw']; cases want <;> rfl) (h.2 hbw')
        · rename_i hb
          exact pass (by unfold wants; simp only [hg, hd, hb]) h
        · exact h.elim
      · exact h.elim

variable {ro : Option Nat} {n : Nat}

/-- One operation taken in the model, at whatever key that is free. -/
theorem step_in {C : Contracts} {X : Env → Prop} (hC : XOk P G C X) (hX : X E) {ops : List Oper} (hf : ∀ o ∈ ops, operFits N o = true) {o : Oper} (ho : o ∈ ops) {key : Nat} (H : HR E G w A κ s.h s.z) (ht : ∀ i, i < N → RV w A κ (s.t i) (a.tmps.getD i undef)) (hs : a.tmps.size = N) (hdf : ∃ Ms, E.M = Ms ++ E.M0 ∧ a.defers = Ms.map mkD ++ df)
    (hn : E.n0 ≤ key) (hk : s.h key = none ∧ s.z key = false ∧ κ key = none) {fp : FP} {v : PV} {h' : Hp} {z' : Fz} (hd : opD P G C key o s fp v h' z') {next : Act → World → Prop} {Q : Exit → Act → World → Prop}
    (hnext : ∀ E' w' A' κ' a', X E' → E'.re E = E' → HR E' G w' A' κ' h' z' → (∀ i, i < N → RV w' A' κ' ((put { s with h := h', z := z' } o.dst v).t i) (a'.tmps.getD i undef)) → a'.tmps.size = N → (∃ Ms, E'.M = Ms ++ E'.M0 ∧ a'.defers = Ms.map mkD ++ df) → (∀ r, r ≠ key → κ' r = κ r) → next a' w') :
    Oper.wpIn (Wd ro) n P o a w next Q := by
  refine opD_sound (s := s) hC hX H hn hk.2.2 hk.2.1 hk.1 (okOp_of H ht (hf o ho)) hd fun E' w' A' κ' v' ⟨hX', hre, hM⟩ h1 h2 h3 h4 h5 h6 => ?_
  refine hnext E' w' A' κ' _ hX' hre h1 ?_ (put_size hs) (by rw [hM, re_M0 hre]; exact put_dfM hdf) h4
  have := put_tm (dst := o.dst) (v := v) (v' := v') hs (dst_fits (hf o ho)) (tm_mono h5 h6 h3 ht) h2
  intro i hi
  have := this i hi
  cases hdst : o.dst <;> simp only [hdst, put] at this ⊢ <;> exact this

theorem regionD_sound {C : Contracts} {X : Env → Prop} {F : Env} (hC : XOk P G C X) {ops : List Oper} (hf : ∀ o ∈ ops, operFits N o = true) {base : Nat} {fps : Nat → FP} {K : St → Prop} {Q : Exit → Act → World → Prop} (hn : F.n0 ≤ base)
    (hQ : ∀ s a w A κ, RelX X F G N df { s with nx := base + ops.length } a w A κ → K s → Q .normal a w) :
    ∀ (fuel : Nat) (listed : Array Bool) (E : Env) (s : St) (a : Act) (w : World) (A : Nat → Prop) (κ : Ka), X E → E.re F = E → anyD P G C ops base fps K fuel listed s → HR E G w A κ s.h s.z → (∀ i, i < N → RV w A κ (s.t i) (a.tmps.getD i undef)) → a.tmps.size = N → (∃ Ms, E.M = Ms ++ E.M0 ∧ a.defers = Ms.map mkD ++ df) →
      (∀ i, listed.getD i true = false → s.h (base + i) = none ∧ s.z (base + i) = false ∧ κ (base + i) = none) → Fresh (base + ops.length) κ s.h s.z → listed.size = ops.length →
      wpAnyIn (Wd ro) n P .any ops.toArray Q fuel listed a w := by
  intro fuel
  have fin : ∀ (E : Env) (s : St) (a : Act) (w : World) (A : Nat → Prop) (κ : Ka), X E → E.re F = E → HR E G w A κ s.h s.z → (∀ i, i < N → RV w A κ (s.t i) (a.tmps.getD i undef)) → a.tmps.size = N → (∃ Ms, E.M = Ms ++ E.M0 ∧ a.defers = Ms.map mkD ++ df) → Fresh (base + ops.length) κ s.h s.z → K s → Q .normal a w :=
    fun E s a w A κ hX hF h1 h2 h3 h4 h5 hK => hQ s a w A κ ⟨E, hX, hF, h1, h5, by rw [re_n0 hF]; exact Nat.le_trans hn (Nat.le_add_right _ _), h2, h3, h4⟩ hK
  induction fuel with
  | zero => intro listed E s a w A κ hX hF h h1 h2 h3 h4 h5 h6 _; exact ⟨h.1, fin E s a w A κ hX hF h1 h2 h3 h4 h6 h.2⟩
  | succ fuel ih =>
    intro listed E s a w A κ hX hF h h1 h2 h3 h4 h5 h6 h7
    refine ⟨fun hr => fin E s a w A κ hX hF h1 h2 h3 h4 h6 (h.1 hr), fun i hi => ?_⟩
    obtain ⟨s', ⟨o, hoi, hstep⟩, hany⟩ := h.2 i hi
    obtain ⟨hun, o', ho', hall⟩ := mem_ready.1 hi
    have hmem := List.mem_of_getElem? hoi
    have hlt : i < ops.length := (List.getElem?_eq_some_iff.1 hoi).1
    have hun' : listed.getD i true = false := by simpa using hun
    have hset : ∀ j, (listed.setIfInBounds i true).getD j true = false → j ≠ i ∧ listed.getD j true = false := fun j hj => by
      by_cases e : j = i
      · subst e
        exfalso
        have hjs : j < listed.size := by omega
        simp [hjs] at hj
      · rw [getD_set_ne true (fun x => e x.symm)] at hj
        exact ⟨e, hj⟩
    have hsz : (listed.setIfInBounds i true).size = ops.length := by simp [h7]
    unfold wpOpIn
    have hoa : ops.toArray[i]? = some o := by simpa using hoi
    simp only [hoa]
    rcases hstep with ⟨hw, v, h', z', hd, rfl⟩ | ⟨hw, rfl⟩
    · rw [if_pos (by rw [wants_rel hf h3 h2 hw])]
      obtain ⟨l1, l2, l3, _⟩ := opD_local hd
      refine step_in hC hX hf hmem h1 h2 h3 h4 (by rw [re_n0 hF]; exact Nat.le_trans hn (Nat.le_add_right _ _)) (h5 i hun') hd fun E' w' A' κ' a' hX' hre g1 g2 g3 g4 g5 => ?_
      have fr : ∀ r, r ≠ base + i → s.h r = none ∧ s.z r = false ∧ κ r = none → h' r = none ∧ z' r = false ∧ κ' r = none := fun r hr ⟨q1, q2, q3⟩ => by
        obtain ⟨m1, m2⟩ := l2 r hr q1
        refine ⟨m1, ?_, by rw [g5 r hr]; exact q3⟩
        rw [l3]
        simp only [fset, q2, Bool.or_false]
        exact contains_false.2 m2
      refine ih _ E' _ a' w' A' κ' hX' (re_trans hF hre) hany (by simpa using g1) g2 g3 g4 (fun j hj => ?_) (fun r hr => ?_) hsz
      · obtain ⟨e, hj'⟩ := hset j hj
        have := fr (base + j) (by omega) (h5 j hj')
        simpa using this
      · have := fr r (by omega) (h6 r hr)
        simpa using this
    · rw [if_neg (by rw [wants_rel hf h3 h2 hw]; simp)]
      refine ⟨fun _ _ => trivial, ih _ E _ _ w A κ hX hF hany (by simpa using h1) ?_ (put_size h3) (put_dfM h4) (fun j hj => ?_) (by simpa using h6) hsz⟩
      · have := put_tm (dst := o.dst) (v := .tup []) (v' := undef) h3 (dst_fits (hf o hmem)) h2 (.tup [] _ rfl (fun i d hd => by simp at hd))
        intro j hj
        have := this j hj
        cases hdst : o.dst <;> simp only [hdst, put] at this ⊢ <;> exact this
      · obtain ⟨e, hj'⟩ := hset j hj
        simpa using h5 j hj'

theorem lexB_spec {ops : List Oper} (h : Region.lexB .any ops.toArray = true) : Region.lexFrom .any ops.toArray ops.length 0 (Array.replicate ops.length false) = true := by
  simp only [Region.lexB, Bool.and_eq_true] at h
  simpa using h.2

/-- A REGION THAT DRAWS ITS ORDER. -/
theorem region_draw_sound {C : Contracts} {X : Env → Prop} {F : Env} (hC : XOk P G C X) (hm : P.follows .mixedOrders = true) {id : Nat} {ops : Array Oper} {I : Inline} (hf : ∀ o ∈ ops.toList, operFits N o = true) (hB : Region.lexB .any ops = true) {K : St → Prop} {Q : Exit → Act → World → Prop} (hR : RelX X F G N df s a w A κ)
    (hQ : ∀ s a w A κ, RelX X F G N df s a w A κ → K s → Q .normal a w) (h : wpOps P G C I true ops.toList 0 [] ops.toList K s) : (Code.region id ops true).wpIn (Wd ro) n P Q a w := by
  obtain ⟨E, hX, hF, hR⟩ := hR
  obtain ⟨fps, hc, hp⟩ := chain_of_wpOps (base := s.nx) ops.toList.length 0 [] ops.toList s (by simp) rfl rfl h
  have hB' : Region.lexB .any ops.toList.toArray = true := by simpa using hB
  have hany := anyD_lex (P := P) (G := G) (C := C) (base := s.nx) (K := fun s' => K { s' with nx := s.nx + ops.toList.length }) (fps := fps) (fun i j oj hij hoj hno => (hp j oj (Nat.zero_le _) hoj).2 i (Nat.zero_le _) hij hno)
    ops.toList.length 0 (Array.replicate ops.toList.length false) { s with nx := s.nx } (by simp) (fun j hj => by omega) (lexB_spec hB') hc
  refine wpIn_region_any hm ?_
  have hD := hR.hr.drew
  have := regionD_sound (ro := ro) (n := n) (P := P) (G := G) (N := N) (df := df) (K := fun s' => K { s' with nx := s.nx + ops.toList.length }) (F := F) hC hf (by rw [← re_n0 hF]; exact hR.n0) (Q := Q) (fun s' a' w' A' κ' h1 h2 => hQ _ _ _ _ _ h1 h2)
    ops.toList.length (Array.replicate ops.toList.length false) E { s with nx := s.nx } a w.drew A κ hX hF hany hD (fun i hi => (hR.tm i hi).mono (fun _ h => h) (drew_cell w A) (fun _ _ h => h)) hR.size hR.df
    (fun i hi => hR.fresh (s.nx + i) (Nat.le_add_right _ _)) (fun r hr => hR.fresh r (by omega)) (by simp)
  simpa using this

/-- A REGION IN THE ORDER OF THE TEXT. -/
theorem region_sound {C : Contracts} {X : Env → Prop} {F : Env} (hC : XOk P G C X) {D : Bool} {ops : List Oper} (hf : ∀ o ∈ ops, operFits N o = true) {K : St → Prop} {Q : Exit → Act → World → Prop} (hQ : ∀ s a w A κ, RelX X F G N df s a w A κ → K s → Q .normal a w) :
    ∀ (l : List Oper) (i : Nat) (acc : List (Nat × FP)) (s : St) (a : Act) (w : World) (A : Nat → Prop) (κ : Ka), (∀ o ∈ l, o ∈ ops) → RelX X F G N df s a w A κ → wpOps P G C (FnH P G) D ops i acc l K s → wpListIn (Wd ro) n P ops.toArray Q l a w
  | [], i, acc, s, a, w, A, κ, _, hR, h => hQ _ _ _ _ _ hR h
  | o :: rest, i, acc, s, a, w, A, κ, hl, hR, h => by
    have hmem := hl o (by simp)
    obtain ⟨E, hX, hF, hR⟩ := hR
    have ih := region_sound hC (D := D) hf hQ rest
    have run : wants ops o s.t = some true → opWp P G C (FnH P G) D o (fun fp s' => (D = true → clearOf o fp acc = true) ∧ wpOps P G C (FnH P G) D ops (i + 1) ((i, fp) :: acc) rest K s') s →
        wpListIn (Wd ro) n P ops.toArray Q (o :: rest) a w := by
      intro hw hop
      unfold wpListIn
      rw [if_pos (by rw [wants_rel hf hR.size hR.tm hw])]
      rcases opWp_cases hop with ⟨fp, v, h', z', hd, _, hrest⟩ | ⟨hD, g, args, ts, f, first, captured, ho, hev, hI⟩
      · obtain ⟨l1, l2, l3, _⟩ := opD_local hd
        refine step_in hC hX hf hmem hR.hr hR.tm hR.size hR.df hR.n0 (hR.fresh s.nx (Nat.le_refl _)) hd fun E' w' A' κ' a' hX' hre g1 g2 g3 g4 g5 => ?_
        refine ih (i + 1) _ _ a' w' A' κ' (fun o ho => hl o (by simp [ho])) ⟨E', hX', re_trans hF hre, by simpa using g1, fun r hr => ?_, by rw [put_nx, re_n0 hre]; exact Nat.le_succ_of_le hR.n0, ?_, g3, g4⟩ hrest
        · rw [put_nx] at hr
          have hne : r ≠ s.nx := by
            have : s.nx + 1 ≤ r := hr
            omega
          obtain ⟨q1, q2, q3⟩ := hR.fresh r (by have : s.nx + 1 ≤ r := hr; omega)
          obtain ⟨m1, m2⟩ := l2 r hne q1
          refine ⟨by simpa using m1, ?_, by rw [g5 r hne]; exact q3⟩
          simp only [put_z]
          rw [l3]
          simp only [fset, q2, Bool.or_false]
          exact contains_false.2 m2
        · have e : ∀ j, (put { s with h := h', z := z', nx := s.nx + 1 } o.dst v).t j = (put { s with h := h', z := z' } o.dst v).t j := fun j => by cases o.dst <;> rfl
          intro j hj
          rw [e]; exact g2 j hj
      · refine inline_sound hR.hr hR.n0 hR.fresh (okOp_of hR.hr hR.tm (hf o hmem)) ho hev hI fun w' A' κ' s' v' pv hK g1 g2 g3 g4 g5 g6 g7 => ?_
        refine ih (i + 1) _ _ _ w' A' κ' (fun o ho => hl o (by simp [ho])) ⟨E, hX, hF, by simpa using g1, by simpa using g2, by rw [put_nx]; exact Nat.le_trans hR.n0 g3, ?_, put_size hR.size, put_dfM hR.df⟩ hK.2
        have := put_tm (dst := o.dst) (v := pv) (v' := v') hR.size (dst_fits (hf o hmem)) (tm_mono g6 g7 g5 hR.tm) g4
        intro j hj
        have := this j hj
        cases hdst : o.dst <;> simp only [hdst, put] at this ⊢ <;> exact this
    have pass : wants ops o s.t = some false → wpOps P G C (FnH P G) D ops (i + 1) acc rest K (put { s with nx := s.nx + 1 } o.dst (.tup [])) → wpListIn (Wd ro) n P ops.toArray Q (o :: rest) a w := by
      intro hw hrest
      unfold wpListIn
      rw [if_neg (by rw [wants_rel hf hR.size hR.tm hw]; simp)]
      refine ⟨fun _ _ => trivial, ih (i + 1) _ _ _ w A κ (fun o ho => hl o (by simp [ho])) ⟨E, hX, hF, by simpa using hR.hr, fun r hr => ?_, by rw [put_nx]; exact Nat.le_succ_of_le hR.n0, ?_, put_size hR.size, put_dfM hR.df⟩ hrest⟩
      · rw [put_nx] at hr
        have := hR.fresh r (by have : s.nx + 1 ≤ r := hr; omega)
        simpa using this
      · have := put_tm (dst := o.dst) (v := .tup []) (v' := undef) hR.size (dst_fits (hf o hmem)) hR.tm (.tup [] _ rfl (fun i d hd => by simp at hd))
        intro j hj
        have := this j hj
        cases hdst : o.dst <;> simp only [hdst, put] at this ⊢ <;> exact this
    unfold wpOps at h
    dsimp only at h
    split at h
    · rename_i hg
      exact run (by unfold wants; rw [hg]) h
    · rename_i j want hg
      split at h
      · rename_i d hd
        split at h
        · rename_i b hb
          by_cases hbw : b = want
          · exact run (by unfold wants; simp only [hg, hd, hb, hbw]; simp) (h.1 hbw)
          · have hbw' : b = !want := by cases b <;> cases want <;> simp_all
            exact pass (by unfold wants; simp only [hg, hd, hb, hbw']; cases want <;> rfl) (h.2 hbw')
        · rename_i hb
          exact pass (by unfold wants; simp only [hg, hd, hb]) h
        · exact h.elim
      · exact h.elim

/-- A state may be said otherwise: fewer slots, other keys. -/
def LeS (G : Gl) (n0 : Nat) (s s' : St) : Prop :=
  ∀ (E : Env) (N : Nat) (df : List Deferred) (a : Act) (w : World) (A : Nat → Prop) (κ : Ka), E.n0 = n0 → Rel E G N df s a w A κ → ∃ A' κ', Rel E G N df s' a w A' κ'

theorem wpIn_loop_fuel {F : Fence} {n : Nat} {P : Program} {c : Code} {Q : Exit → Act → World → Prop} (R : Nat → Act → World → Prop) (round : ∀ m a w, R (m + 1) a w → c.wpIn F n P (Exit.then (fun a' w' => R m a' w') Q) a w)
    (zero : ∀ a w, ¬ R 0 a w) (m : Nat) (a : Act) (w : World) (h : R m a w) : (Code.loop c).wpIn F n P Q a w := by
  intro b k cs hro hb hr
  have key : ∀ m a w, R m a w → ∃ e a' w', Q e a' w' ∧ ArrivesIn (Machine.fenced P F) P (lone (b.atR a (.code c :: .inLoop c :: k)) cs w) b k cs e a' w' := by
    intro m
    induction m with
    | zero => intro a w h; exact absurd h (zero a w)
    | succ m ih =>
      intro a w h
      obtain ⟨e, a₁, w₁, hq, harr⟩ := round m a w h b (.inLoop c :: k) cs hro hb hr
      cases e with
      | normal =>
        obtain ⟨e₂, a₂, w₂, hq₂, harr₂⟩ := ih a₁ w₁ hq
        exact ⟨e₂, a₂, w₂, hq₂, .of_steps (StepsIn.trans harr (.one (fenced_calm hb hr rfl) stepR_inLoop)) harr₂⟩
      | exit id => exact ⟨_, a₁, w₁, hq, .pass (x := .inLoop c) rfl (fun _ _ => .inl (by simp)) harr⟩
      | goto l => exact ⟨_, a₁, w₁, hq, .pass (x := .inLoop c) rfl (fun _ _ => .inl (by simp)) harr⟩
      | ret => exact ⟨_, a₁, w₁, hq, .pass (x := .inLoop c) rfl (fun _ _ => .inl (by simp)) harr⟩
      | panic ch => exact ⟨_, a₁, w₁, hq, .pass (x := .inLoop c) rfl (fun _ _ => .inl (by simp)) harr⟩
      | outgrown => exact ⟨_, a₁, w₁, hq, .pass (x := .inLoop c) rfl (fun _ _ => .inl (by simp)) harr⟩
  obtain ⟨e, a', w', hq, harr⟩ := key m a w h
  exact ⟨e, a', w', hq, .of_steps (.one (fenced_calm hb hr rfl) stepR_loop) harr⟩

end
end Go.PI
