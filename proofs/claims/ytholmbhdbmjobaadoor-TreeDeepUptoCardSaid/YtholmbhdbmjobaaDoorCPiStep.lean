/-
  PI: one operation of a region, in the model.
-/
import Derived.Test.YtholmbhdbmjobaaDoorCPiCall
set_option linter.unusedVariables false
set_option linter.unusedSimpArgs false
namespace Go.PI
open Go.RowKit

theorem wd_none : Wd none = Fence.wide := rfl
theorem callsIn_wd {ro : Option Nat} {n : Nat} {P : Program} {f : FuncId} {args : Array Value} {w : World} {R : Ending → World → Prop} : CallsIn (Wd ro) n P f args w R ↔ Calls P f args w R :=
  (Iff.rfl : CallsIn (Wd ro) n P f args w R ↔ CallsIn Fence.wide n P f args w R).trans callsIn_wide

def Fresh (nx : Nat) (κ : Ka) (h : Hp) (z : Fz) : Prop := ∀ r, nx ≤ r → h r = none ∧ z r = false ∧ κ r = none

/-- An inlined call: from these own blocks on, the function hands back a value, and own blocks of which 'K' holds. -/
def FnH (P : Program) (G : Gl) : Inline := fun f args K s =>
  callable P f = true ∧ ∀ (E : Env) (w : World) (A : Nat → Prop) (κ : Ka) (vs : List Value), E.n0 = s.nx → E.κ0 = κ → E.A0 = A → E.w1 = w → HR E G w A κ s.h s.z → Fresh s.nx κ s.h s.z → RVs w A κ args vs →
    Calls P f vs.toArray w fun e w' => ∃ v pv A' κ' s', e = .returned v ∧ HR E G w' A' κ' s'.h s'.z ∧ Fresh s'.nx κ' s'.h s'.z ∧ s.nx ≤ s'.nx ∧ RV w' A' κ' pv v ∧ K pv s'

theorem FnH.mono {P : Program} {G : Gl} (f : FuncId) (args : List PV) (J J' : PV → St → Prop) (s : St) (h : ∀ v s, J v s → J' v s) (hf : FnH P G f args J s) : FnH P G f args J' s :=
  ⟨hf.1, fun E w A κ vs h1 h2 h3 h4 h5 h6 h7 => (hf.2 E w A κ vs h1 h2 h3 h4 h5 h6 h7).mono fun _ _ ⟨v, pv, A', κ', s', g1, g2, g3, g4, g5, g6⟩ => ⟨v, pv, A', κ', s', g1, g2, g3, g4, g5, h _ _ g6⟩⟩

theorem CRes.isGh_elim : ∀ {r : CRes}, r.isGh = true → ∃ i j b, r = .gh i j b
  | .gh i j b, _ => ⟨i, j, b, rfl⟩

/-- Who is called: a function, or a yield. -/
def calleeD (v : PV) (args : List PV) (f : Nat) (pre rest : List PV) (r : CRes) : Prop :=
  (∃ first captured, v = .func (.func f) first captured ∧ pre = [] ∧ rest = first ++ args ++ captured) ∨ (v = .func (.yield f) [] [] ∧ pre = [.anyb] ∧ rest = args ∧ r.isGh = true)

/-- What the contracts are worth, where a call may stand in the surroundings 'X': those of one who yields turn as it does. -/
structure XOk (P : Program) (G : Gl) (C : Contracts) (X : Env → Prop) : Prop where
  anch : ∀ E F, X E → F.gh = E.gh → X (E.re F)
  call : ∀ f ds r, r.isGh = false → C f ds r → FnC P G f ds r
  prod : ∀ f ds i j b, C f ds (.gh i j b) → (∀ ds', ds ≠ .anyb :: ds') → callable P f = true ∧ ∀ (E : Env) (w : World) (A : Nat → Prop) (κ : Ka) (h : Hp) (z : Fz) (vs : List Value), X E → HR E G w A κ h z → h 0 = some (gblk i) → RDs w A ds vs →
    Calls P f vs.toArray w fun e w' => ∃ E', (X E' ∧ E'.re E = E' ∧ E'.M = E.M) ∧ e = .returned (.bool b) ∧ HR E' G w' A κ (hset h 0 (some (gblk j))) z ∧ ∀ b o, A b → w'.cell? ⟨b, o, none⟩ = w.cell? ⟨b, o, none⟩
  yld : ∀ l ds i j b, C l (.anyb :: ds) (.gh i j b) → ∀ (E : Env) (w : World) (A : Nat → Prop) (κ : Ka) (h : Hp) (z : Fz) (vs : List Value), X E → HR E G w A κ h z → h 0 = some (gblk i) → RDs w A ds vs →
    YieldRuns P l vs.toArray w fun e w' => ∃ E', (X E' ∧ E'.re E = E' ∧ E'.M = E.M) ∧ e = .returned (.bool b) ∧ HR E' G w' A κ (hset h 0 (some (gblk j))) z ∧ ∀ b o, A b → w'.cell? ⟨b, o, none⟩ = w.cell? ⟨b, o, none⟩

/-- An operation that is carried out as data say: its value, the heap behind it, what is frozen. -/
def opD (P : Program) (G : Gl) (C : Contracts) (key : Nat) (o : Oper) (s : St) (fp : FP) (v : PV) (h' : Hp) (z' : Fz) : Prop :=
  match o.op with
  | .call { callee := .value g, args, argTypes := _ } =>
    ∃ f pre rest n ds r, calleeD (ev G s.t g) (args.toList.map (ev G s.t)) f pre rest r ∧ mapF (frz s.h n) rest = some (ds, fp.fz) ∧ C f (pre ++ ds) r ∧ r.ok s.h ∧
      v = r.val key ∧ h' = r.heap key s.h ∧ z' = fset s.z fp.fz ∧ fp.rd = r.rds ++ fp.fz ∧ fp.wr = r.keys key
  | op => evalOp P G s.z key op s.t s.h = some (v, h', fp.rd, fp.wr) ∧ z' = s.z ∧ fp.fz = []

section
variable {P : Program} {E : Env} {G : Gl} {w : World} {A : Nat → Prop} {κ : Ka} {s : St} {a : Act} {o : Oper} {key : Nat} {v : PV} {h' : Hp} {z' : Fz} {fp : FP} {ro : Option Nat} {n : Nat}

/-- What the walk goes on with. -/
def After (X : Env → Prop) (E : Env) (G : Gl) (w : World) (A : Nat → Prop) (κ : Ka) (key : Nat) (h' : Hp) (z' : Fz) (v : PV) (next : Value → World → Prop) : Prop :=
  ∀ E' w' A' κ' v', (X E' ∧ E'.re E = E' ∧ E'.M = E.M) → HR E' G w' A' κ' h' z' → RV w' A' κ' v v' → (∀ r x, κ r = some x → κ' r = some x) → (∀ r, r ≠ key → κ' r = κ r) → (∀ b, A b → A' b) → (∀ b o, A b → w'.cell? ⟨b, o, none⟩ = w.cell? ⟨b, o, none⟩) → next v' w'

theorem semAt_of (o : Oper) (h : ∀ c, o.op ≠ .defer c) (ρ : Operand → Value) : o.semAt ro ρ = execOp ρ o := Oper.semAt_eq ro ρ o h

theorem wpIn_of_sound {X : Env → Prop} (hX : X E) (hd : ∀ c, o.op ≠ .defer c) (hs : Sound E G w A κ z' h' key v ((execOp a.eval o).run P w)) {next : Act → World → Prop} {Q : Exit → Act → World → Prop}
    (hn : After X E G w A κ key h' z' v fun v' w' => next (a.put o.dst v') w') : Oper.wpIn (Wd ro) n P o a w next Q := by
  obtain ⟨v', w', κ', hr, h1, h2, h3, h4, h5⟩ := hs
  refine ⟨fun _ _ => trivial, ?_⟩
  rw [semAt_of o hd]
  have := hn E w' A κ' v' ⟨hX, rfl, rfl⟩ h1 h2 h3 h4 (fun _ h => h) h5
  rcases hr with hr | ⟨hr, rfl⟩
  · rw [hr]; exact this
  · rw [hr]; exact this

theorem rvs_append {l l' : List PV} {vs vs' : List Value} (h1 : RVs w A κ l vs) (h2 : RVs w A κ l' vs') : RVs w A κ (l ++ l') (vs ++ vs') := by
  refine ⟨by simp [h1.1, h2.1], fun i d hd => ?_⟩
  by_cases hi : i < l.length
  · rw [List.getElem?_append_left hi] at hd
    have := h1.2 i d hd
    simp only [List.getD] at this ⊢
    rw [List.getElem?_append_left (by rw [← h1.1]; exact hi)]
    exact this
  · rw [List.getElem?_append_right (by omega)] at hd
    have := h2.2 _ d hd
    simp only [List.getD] at this ⊢
    rw [List.getElem?_append_right (by rw [← h1.1]; omega), ← h1.1]
    exact this

theorem rvs_array {l : List PV} {vs : Array Value} (hl : vs.size = l.length) (h : ∀ i d, l[i]? = some d → RV w A κ d (vs.getD i undef)) : RVs w A κ l vs.toList :=
  ⟨by simp [hl], fun i d hd => by have := h i d hd; simpa [List.getD, Array.getD_eq_getD_getElem?] using this⟩

theorem rvs_map {l : List Operand} {t : Tm} {ρ : Operand → Value} (h : ∀ x ∈ l, RV w A κ (ev G t x) (ρ x)) : RVs w A κ (l.map (ev G t)) (l.map ρ) := by
  refine ⟨by simp, fun i d hd => ?_⟩
  simp only [List.getElem?_map, Option.map_eq_some_iff] at hd
  obtain ⟨x, hx, rfl⟩ := hd
  have := h x (List.mem_of_getElem? hx)
  simpa [List.getD, hx] using this

/-- The step into a function. -/
theorem enter_run {f : FuncId} {g : Operand} {args : Array Operand} {ts : Array TypeId} {fs cs : Array Value} (hf : callable P f = true) (ho : o.op = .call { callee := .value g, args, argTypes := ts }) (hg : a.eval g = .func (.func f) fs cs) :
    (execOp a.eval o).run P w = .ok (.enter f (fs ++ args.map a.eval ++ cs)) w := by
  unfold callable at hf
  cases hfn : P.funcs[f]? with
  | none => simp [hfn] at hf
  | some fn =>
    simp only [hfn, Bool.and_eq_true, bne_iff_ne, ne_eq] at hf
    obtain ⟨c, hc⟩ := Option.isSome_iff_exists.1 hf.1
    simp [execOp, ho, resolve, hg, Deferred.ofValue, invoke, callFunc, hfn, hf.2, hc]

/-- The step into a yield. -/
theorem yield_run {l : Nat} {g : Operand} {args : Array Operand} {ts : Array TypeId} {r : Next} (ho : o.op = .call { callee := .value g, args, argTypes := ts }) (hg : a.eval g = .func (.yield l) #[] #[])
    (hy : (Instr.yield l (args.map a.eval)).run P w = .ok r w) : (execOp a.eval o).run P w = .ok r w := by
  simp [execOp, ho, resolve, hg, Deferred.ofValue, invoke]
  exact hy

theorem upon_enter {f : FuncId} {args : Array Value} {next : Act → World → Prop} {Q : Exit → Act → World → Prop} {R : Value → World → Prop} (h : Calls P f args w fun e w' => ∃ v, e = .returned v ∧ R v w') (hn : ∀ v w', R v w' → next (a.put o.dst v) w') :
    o.uponIn (Wd ro) n P a next Q (.ok (.enter f args) w) := by
  refine ⟨fun hh => (by cases hh), callsIn_wd.2 (h.mono fun e w' hh => ?_)⟩
  obtain ⟨v, rfl, hr⟩ := hh
  exact hn v w' hr

theorem RD.plain {d : PV} {v : Value} {w' : World} {A' : Nat → Prop} (h : RD w' A' d v) : RV w' A' κ d v := .data _ _ h

theorem frz_args (H : HR E G w A κ s.h s.z) {m : Nat} {l ds : List PV} {ks : List Nat} {vs : List Value} (hm : mapF (frz s.h m) l = some (ds, ks)) (hv : RVs w A κ l vs) : RDs w (fun b => A b ∨ blocksOf κ ks b) ds vs := by
  obtain ⟨g1, g2⟩ := mapF_spec hm
  refine ⟨g1.trans hv.1, fun i d hd => ?_⟩
  obtain ⟨x, ks', e1, e2, e3⟩ := g2 i d hd
  exact frz_sound H (fun b hb => Or.inl hb) m x d _ ks' e2 (hv.2 i x e1) (fun b ⟨r, hr, q⟩ => Or.inr ⟨r, e3 r hr, q⟩)

theorem side_or {X Y : Nat → Prop} {lo hi m : Nat} (b : Nat) (hb : (X b ∨ Y b) ∨ (lo ≤ b ∧ b < hi ∧ b ≠ m)) : (X b ∨ Y b) ∨ (lo ≤ b ∧ b < hi ∧ b ≠ m) := hb

theorem HR.gok {h : Hp} {z : Fz} (H : HR E G w A κ h z) : Gok G w A := fun g e hg => by
  obtain ⟨b, o, val, hv, hA, hc, hd⟩ := (H.glob g e hg).cptr_inv
  rw [hv]
  exact .data _ _ (.cptr e 0 b o val hA hc hd)

/-- EVERY OPERATION THAT IS CARRIED OUT AS DATA SAY. -/
theorem opD_sound {C : Contracts} {X : Env → Prop} (hC : XOk P G C X) (hX : X E) (H : HR E G w A κ s.h s.z) (hn : E.n0 ≤ key) (hk : κ key = none) (hz : s.z key = false) (hhk : s.h key = none) (hx : OkOp G w A κ s.t a.eval o.op)
    (hd : opD P G C key o s fp v h' z') {next : Act → World → Prop} {Q : Exit → Act → World → Prop} (hnext : After X E G w A κ key h' z' v fun v' w' => next (a.put o.dst v') w') :
    Oper.wpIn (Wd ro) n P o a w next Q := by
  unfold opD at hd
  split at hd
  · rename_i g args ts ho
    obtain ⟨f, pre, rest, m, ds, r, hcal, hfr, hCf, hok, rfl, rfl, rfl, hrd, hwr⟩ := hd
    have hargs0 : RVs w A κ (args.toList.map (ev G s.t)) (args.map a.eval).toList := by
      rw [Array.toList_map]
      exact rvs_map fun x hxm => hx x (by rw [ho]; simp [Op.operands, Call.operands]; exact Or.inr (by simpa using hxm))
    have hgv : RV w A κ (ev G s.t g) (a.eval g) := hx g (by rw [ho]; simp [Op.operands, Call.operands])
    have hHf := H.freeze (mapF_frz_keys hfr)
    rcases hcal with ⟨first, captured, hev, rfl, rfl⟩ | ⟨hev, rfl, rfl, hgh⟩
    · have hg : RV w A κ (.func (.func f) first captured) (a.eval g) := by rw [← hev]; exact hgv
      obtain ⟨fs, cs, hρ, hl1, hl2, hf1, hf2⟩ := hg.func_inv
      have hargs : RVs w A κ (first ++ args.toList.map (ev G s.t) ++ captured) (fs ++ args.map a.eval ++ cs).toList := by
        rw [Array.toList_append, Array.toList_append]
        exact rvs_append (rvs_append (rvs_array hl1 hf1) hargs0) (rvs_array hl2 hf2)
      have hRD := frz_args H hfr hargs
      rw [List.nil_append] at hCf
      by_cases hgh : r.isGh = true
      · obtain ⟨i, j, b, rfl⟩ : ∃ i j b, r = .gh i j b := CRes.isGh_elim hgh
        obtain ⟨p1, p2⟩ := hC.prod f ds i j b hCf (fun ds' e => by
          subst e
          have := hRD.2 0 .anyb rfl
          cases this)
        have hcall := p2 E w _ κ s.h _ _ hX hHf hok hRD
        rw [Array.toArray_toList] at hcall
        refine ⟨fun _ _ => trivial, ?_⟩
        rw [semAt_of o (by rw [ho]; simp), enter_run p1 ho hρ]
        refine upon_enter (R := fun v w' => ∃ E', (X E' ∧ E'.re E = E' ∧ E'.M = E.M) ∧ v = .bool b ∧ HR E' G w' _ κ _ _ ∧ ∀ b o, (A b ∨ blocksOf κ fp.fz b) → w'.cell? ⟨b, o, none⟩ = w.cell? ⟨b, o, none⟩) (hcall.mono fun e w' ⟨E', q1, q2, q3, q4⟩ => ⟨_, q2, E', q1, rfl, q3, q4⟩) fun v' w' ⟨E', q1, q2, q3, q4⟩ => ?_
        subst q2
        exact hnext E' w' _ κ _ q1 q3 (.data _ _ (.bool b)) (fun _ _ h => h) (fun _ _ => rfl) (fun b hA => Or.inl hA) (fun b o hA => q4 b o (Or.inl hA))
      have hC1 := hC.call f ds r (by simpa using hgh) hCf
      refine ⟨fun _ _ => trivial, ?_⟩
      rw [semAt_of o (by rw [ho]; simp), enter_run hC1.1 ho hρ]
      have hcall : Calls P f (fs ++ args.map a.eval ++ cs) w fun e w' => ∃ v, e = .returned v ∧ Below w.heap.size w w' ∧ r.holds w w' (fun b => A b ∨ blocksOf κ fp.fz b) v := by
        have hC2 := hC1.2
        cases r with
        | data d => have := hC2 w _ _ hHf.alt hHf.gok hRD; rwa [Array.toArray_toList] at this
        | fresh els sz agg => have := hC2 w _ _ hHf.alt hHf.gok hRD; rwa [Array.toArray_toList] at this
        | gh => exact hC2.elim
        | seq => exact hok.elim
      refine upon_enter (R := fun v w' => Below w.heap.size w w' ∧ r.holds w w' (fun b => A b ∨ blocksOf κ fp.fz b) v) hcall fun v' w' ⟨hb, hh⟩ => ?_
      cases r with
      | data d =>
        have HA := hHf.after hb (X := fun b => w.heap.size ≤ b ∧ b < w'.heap.size) (fun b h => h)
        exact hnext E w' _ κ v' ⟨hX, rfl, rfl⟩ HA (.data _ _ hh) (fun _ _ h => h) (fun _ _ => rfl) (fun b hA => Or.inl (Or.inl hA)) (fun b o' hA => cell?_of_heap (hb.block b (H.alt b hA)) o')
      | fresh els sz agg =>
        obtain ⟨ad, cap, rfl, hle, hu, hh⟩ := hh
        have hcap0 : ∀ {w'' : World} {A'' : Nat → Prop} {κ'' : Ka}, κ'' key = some (0, sz, 0) → cap = 0 → RV w'' A'' κ'' (.own key 0 els.length) (.slice ad els.length cap) := by
          intro w'' A'' κ'' hk'' hc0
          subst hc0
          have : els.length = 0 := by omega
          rw [this]
          exact own_empty hk'' ad
        by_cases hc0 : cap = 0
        · have HA := hHf.after hb (X := fun b => w.heap.size ≤ b ∧ b < w'.heap.size) (fun b h => h)
          have he : els = [] := List.length_eq_zero_iff.1 (by omega)
          have HE := HA.empty (sz := sz) (agg := agg) hn hk
          subst he
          exact hnext E w' _ (kset κ key (0, sz, 0)) _ ⟨hX, rfl, rfl⟩ HE (hcap0 (kset_same ..) hc0) (kset_le _ hk) (fun r hr => kset_other κ _ hr) (fun b hA => Or.inl (Or.inl hA)) (fun b o' hA => cell?_of_heap (hb.block b (H.alt b hA)) o')
        · obtain ⟨m', c, ty, rfl, hm1, hm2, hm3, hm4, hm5⟩ := hh.resolve_left hc0
          have HA := hHf.after hb (X := fun b => w.heap.size ≤ b ∧ b < w'.heap.size ∧ b ≠ m') (fun b h => ⟨h.1, h.2.1⟩)
          have hzk : fset s.z fp.fz key = false := by
            simp only [fset, Bool.or_eq_false_iff]
            refine ⟨?_, hz⟩
            simp only [List.contains_eq_mem, decide_eq_false_iff_not]
            intro hm
            obtain ⟨bk, hbk⟩ := mapF_frz_keys hfr key hm
            rw [hhk] at hbk; cases hbk
          have HD := HA.adopt (key := key) (sz := sz) (cap := cap) (agg := agg) (els := els) hn hk hzk hm2 (Nat.le_trans H.hB hm1) ⟨fun hS => by have := (H.kp.keep m' hS).1; omega, fun hK => by have := (H.kp.kk m' hK).1; omega⟩ (by
              rintro ((h | h) | h)
              · have := H.alt m' h; omega
              · have := hHf.alt m' (Or.inr h); omega
              · exact h.2.2 rfl) (fun r b m2 s2 c2 hr hkr hc2 e => by
              subst e
              rcases H.klt r m2 s2 c2 hkr with h | h
              · exact hc2 h
              · omega) hm3 hle hu hm4 (fun i e he => (hm5 i e he).mono side_or (fun _ _ _ => rfl) (fun r x hr => by cases hr))
          refine hnext E w' _ (kset κ key (m', sz, cap)) _ ⟨hX, rfl, rfl⟩ HD ?_ (kset_le _ hk) (fun r hr => kset_other κ _ hr) (fun b hA => Or.inl (Or.inl hA)) (fun b o' hA => cell?_of_heap (hb.block b (H.alt b hA)) o')
          have := RV.own (w := w') (A := fun b => (A b ∨ blocksOf κ fp.fz b) ∨ (w.heap.size ≤ b ∧ b < w'.heap.size ∧ b ≠ m')) (κ := kset κ key (m', sz, cap)) key 0 els.length m' sz cap (some ⟨m', 0, none⟩) (kset_same ..) (by omega) (Or.inl (by simp))
          simp only [Nat.zero_mul, Nat.sub_zero] at this
          exact this
      | gh => exact hh.elim
      | seq => exact hh.elim
    · obtain ⟨i, j, b, rfl⟩ : ∃ i j b, r = .gh i j b := CRes.isGh_elim hgh
      have hg : RV w A κ (.func (.yield f) [] []) (a.eval g) := by rw [← hev]; exact hgv
      obtain ⟨fs, cs, hρ, hl1, hl2, _, _⟩ := hg.func_inv
      have e1 : fs = #[] := Array.eq_empty_of_size_eq_zero (by simpa using hl1)
      have e2 : cs = #[] := Array.eq_empty_of_size_eq_zero (by simpa using hl2)
      subst e1 e2
      have hRD := frz_args H hfr hargs0
      obtain ⟨fi, tmps, assign, body, hy, hround⟩ := hC.yld f ds i j b hCf E w _ κ s.h _ _ hX hHf hok hRD
      rw [Array.toArray_toList] at hy
      refine ⟨fun _ _ => trivial, ?_⟩
      rw [semAt_of o (by rw [ho]; simp), yield_run ho hρ hy]
      refine ⟨fun hh => (by cases hh), (hround ro (n - 1)).mono fun e w' ⟨E', q1, q2, q3, q4⟩ => ?_⟩
      subst q2
      exact hnext E' w' _ κ _ q1 q3 (.data _ _ (.bool b)) (fun _ _ h => h) (fun _ _ => rfl) (fun b hA => Or.inl hA) (fun b o hA => q4 b o (Or.inl hA))
  · rename_i op hne
    obtain ⟨he, rfl, _⟩ := hd
    refine wpIn_of_sound (z' := s.z) hX ?_ (evalOp_sound H hn hk hz hhk hx he) hnext
    intro c hc
    rw [hc] at he
    simp [evalOp] at he

/-- An inlined call. -/
theorem inline_sound {f : FuncId} {g : Operand} {args : Array Operand} {ts : Array TypeId} {first captured : List PV} {K : PV → St → Prop} (H : HR E G w A κ s.h s.z) (hn : E.n0 ≤ s.nx) (hfr : Fresh s.nx κ s.h s.z) (hx : OkOp G w A κ s.t a.eval o.op)
    (ho : o.op = .call { callee := .value g, args, argTypes := ts }) (hev : ev G s.t g = .func (.func f) first captured) (hI : FnH P G f (first ++ args.toList.map (ev G s.t) ++ captured) K s)
    {next : Act → World → Prop} {Q : Exit → Act → World → Prop}
    (hnext : ∀ w' A' κ' s' v' pv, K pv s' → HR E G w' A' κ' s'.h s'.z → Fresh s'.nx κ' s'.h s'.z → s.nx ≤ s'.nx → RV w' A' κ' pv v' → (∀ r x, κ r = some x → κ' r = some x) → (∀ b, A b → A' b) → (∀ b o, A b → w'.cell? ⟨b, o, none⟩ = w.cell? ⟨b, o, none⟩) → next (a.put o.dst v') w') :
    Oper.wpIn (Wd ro) n P o a w next Q := by
  have hg : RV w A κ (.func (.func f) first captured) (a.eval g) := by rw [← hev]; exact hx g (by rw [ho]; simp [Op.operands, Call.operands])
  obtain ⟨fs, cs, hρ, hl1, hl2, hf1, hf2⟩ := hg.func_inv
  have hargs : RVs w A κ (first ++ args.toList.map (ev G s.t) ++ captured) (fs ++ args.map a.eval ++ cs).toList := by
    simp only [Array.toList_append, Array.toList_map]
    exact rvs_append (rvs_append (rvs_array hl1 hf1) (rvs_map fun x hxm => hx x (by rw [ho]; simp [Op.operands, Call.operands]; exact Or.inr (by simpa using hxm)))) (rvs_array hl2 hf2)
  have H' : HR { E with n0 := s.nx, κ0 := κ, A0 := A, w1 := w } G w A κ s.h s.z :=
    ⟨H.bel, H.hB, H.alt, fun _ h => h, fun _ h => Or.inl h, fun _ _ _ => rfl, fun _ _ => rfl, H.glob, H.klt, ⟨H.kp.base, H.kp.keep, H.kp.wr, H.kp.own, H.kp.mks, H.kp.nd, H.kp.kb, H.kp.kk, H.kp.zk, H.kp.mk0, fun hg => ⟨Nat.lt_of_lt_of_le (H.kp.gk hg).1 hn, (H.kp.gk hg).2⟩⟩, H.blk, H.excl⟩
  have hcall := hI.2 _ w A κ _ rfl rfl rfl rfl H' hfr hargs
  rw [Array.toArray_toList] at hcall
  refine ⟨fun _ _ => trivial, ?_⟩
  rw [semAt_of o (by rw [ho]; simp), enter_run hI.1 ho hρ]
  refine upon_enter (R := fun v w' => ∃ pv A' κ' s', HR { E with n0 := s.nx, κ0 := κ, A0 := A, w1 := w } G w' A' κ' s'.h s'.z ∧ Fresh s'.nx κ' s'.h s'.z ∧ s.nx ≤ s'.nx ∧ RV w' A' κ' pv v ∧ K pv s')
    (hcall.mono fun e w' ⟨v, pv, A', κ', s', h1, h2⟩ => ⟨v, h1, pv, A', κ', s', h2⟩) fun v' w' ⟨pv, A', κ', s', h1, h2, h3, h4, h5⟩ => ?_
  have hk : ∀ r x, κ r = some x → κ' r = some x := fun r x hr => by
    by_cases hlt : r < s.nx
    · rw [h1.k0 r hlt]; exact hr
    · rw [(hfr r (by omega)).2.2] at hr; cases hr
  have HE : HR E G w' A' κ' s'.h s'.z := by
    refine ⟨h1.bel, h1.hB, h1.alt, fun b hb => h1.a0 b (H.a0 b hb), fun b hb => ?_, fun b o' hb => (h1.acell b o' (H.a0 b hb)).trans (H.acell b o' hb), fun r hr => (h1.k0 r (Nat.lt_of_lt_of_le hr hn)).trans (H.k0 r hr), h1.glob, h1.klt, ⟨h1.kp.base, h1.kp.keep, h1.kp.wr, h1.kp.own, h1.kp.mks, h1.kp.nd, h1.kp.kb, h1.kp.kk, h1.kp.zk, h1.kp.mk0, fun hg => ⟨(H.kp.gk hg).1, (h1.kp.gk hg).2⟩⟩, h1.blk, h1.excl⟩
    rcases h1.a1 b hb with h | h
    · exact H.a1 b h
    · exact Or.inr h
  exact hnext w' A' κ' s' v' pv h5 HE h2 h3 h4 hk (fun b hb => h1.a0 b hb) (fun b o' hb => h1.acell b o' hb)

end
end Go.PI
