/-
  PI: regions, code and functions by 'vOp'; 'vc' gives 'wp'.
-/
import Derived.Test.YtholmbhdbmjobaaDoorCPiVc2
set_option linter.unusedVariables false
set_option linter.unusedSimpArgs false
namespace Go.PI

def putV (t : Tm) (h : Hp) (z : Fz) (nx : Nat) (d : Option Nat) (v : PV) : St := match d with
  | some d => ⟨ts t d v, h, z, nx⟩
  | none => ⟨t, h, z, nx⟩
theorem putV_eq {t : Tm} {h : Hp} {z : Fz} {nx : Nat} {d : Option Nat} {v : PV} : putV t h z nx d v = put ⟨t, h, z, nx⟩ d v := by
  cases d with
  | none => rfl
  | some d => unfold putV put; dsimp only; rw [ts_eq]
def subS (s : St) (d : Nat) (b : Bool) : St := match s with
  | ⟨t, h, z, nx⟩ => ⟨ts t d (.bool b), h, z, nx⟩
theorem subS_eq {s : St} {d : Nat} {b : Bool} (h : s.t d = .bool b) : subS s d b = s := by
  obtain ⟨t, hh, z, nx⟩ := s
  unfold subS
  dsimp only at h ⊢
  rw [ts_eq]
  congr 1
  funext j
  unfold tset
  split
  · rename_i e; rw [e]; exact h.symm
  · rfl

/-- What is left: 'whnf' ends here. -/
inductive Next (p : Prop) : Prop
  | mk (h : p) : Next p
theorem Next.out {p : Prop} (h : Next p) : p := by cases h; assumption

/-- A call that has not been met yet. -/
def callV (C : Contracts) (I : Inline) (D : Bool) (f : FuncId) (args : List PV) (d : Option Nat) (K : FP → St → Prop) (s : St) : Prop := callWp C I D f args d K s

/-- A yield that has not been met yet. -/
def yieldV (C : Contracts) (l : Nat) (args : List PV) (d : Option Nat) (K : FP → St → Prop) (s : St) : Prop := yieldWp C l args d K s

def touch (a b : FP) : Bool := FP.apart a b
def clr (after : List Edge) (fp : FP) : List (Nat × FP) → Bool
  | [] => true
  | (k, f) :: acc => an (match after.any (fun e => an (Nat.beq e.on k) (Region.binds .any e)) with
    | true => true
    | false => touch f fp) (clr after fp acc)
theorem clr_iff {o : Oper} {fp : FP} : ∀ {acc : List (Nat × FP)}, clr o.after.toList fp acc = true → clearOf o fp acc = true
  | [], _ => rfl
  | (k, f) :: acc, h => by
    unfold clr at h
    rw [an_iff] at h
    have e : (o.after.toList.any fun e => an (Nat.beq e.on k) (Region.binds .any e)) = o.after.any (fun e => e.on == k && Region.binds .any e) := by
      rw [← Array.any_toList]
      congr 1
      funext e
      rw [beq_dec, Bool.eq_iff_iff, an_iff]
      simp
    rw [e] at h
    have ih := clr_iff h.2
    rw [clearOf_cons', ih, Bool.and_true]
    cases hb : o.after.any (fun e => e.on == k && Region.binds .any e) with
    | true => rfl
    | false => rw [hb] at h; exact h.1

/-- A loop that has not been met yet. -/
def loopV (P : Program) (G : Gl) (C : Contracts) (I : Inline) (Le : LeT) (c : Code) (Q : Exit → St → Prop) (s : St) : Prop := wpLoop P G C I Le c Q s

/-- A range over a function that has not been met yet. -/
def rangeV (P : Program) (G : Gl) (C : Contracts) (I : Inline) (Le : LeT) (g : Operand) (ps : Array Tmp) (a b : Code) (Q : Exit → St → Prop) (s : St) : Prop := wp P G C I Le (.rangeFunc g ps a b) Q s

section
variable (P : Program) (T : Ti) (G : Gl) (C : Contracts) (I : Inline) (Le : LeT)

def goV (K : FP → St → Prop) (t : Tm) (z : Fz) (nx : Nat) (d : Option Nat) (v : PV) (h' : Hp) (rd wr : List Nat) : Prop := fN (nx + 1) fun nx' => match d with
  | some d => K ⟨rd, wr, []⟩ ⟨ts t d v, h', z, nx'⟩
  | none => K ⟨rd, wr, []⟩ ⟨t, h', z, nx'⟩

def vOpO (D : Bool) (o : Oper) (K : FP → St → Prop) (s : St) : Prop :=
  match s with
  | ⟨t, h, z, nx⟩ => match o.op with
    | .call { callee := .value g, args, argTypes := _ } => (match ev G t g with
      | .func (.func f) first captured => evs G t args.toList fun vs => fL (first ++ vs ++ captured) fun as => callV C I D f as o.dst K ⟨t, h, z, nx⟩
      | .func (.yield l) [] [] => evs G t args.toList fun vs => yieldV C l vs o.dst K ⟨t, h, z, nx⟩
      | _ => False)
    | op => vOp T G z nx op t h (goV K t z nx o.dst)

def accV (i : Nat) (fp : FP) (acc : List (Nat × FP)) : List (Nat × FP) := match fp with
    | ⟨[], [], []⟩ => acc
    | fp => (i, fp) :: acc

def passV (R : St → Prop) (t : Tm) (h : Hp) (z : Fz) (nx : Nat) (d : Option Nat) : Prop := fN (nx + 1) fun nx' => match d with
  | some d => R ⟨ts t d (.tup []), h, z, nx'⟩
  | none => R ⟨t, h, z, nx'⟩

def contV (D : Bool) (i : Nat) (acc : List (Nat × FP)) (o : Oper) (R : Nat → List (Nat × FP) → St → Prop) (fp : FP) (s' : St) : Prop := match D with
  | true => brT (clr o.after.toList fp acc) (fN (i + 1) fun j => R j (accV i fp acc) s')
  | false => R i acc s'

/-- One operation of a region. -/
def vStep (D : Bool) (ds : List (Option Nat)) (i : Nat) (acc : List (Nat × FP)) (o : Oper) (R : Nat → List (Nat × FP) → St → Prop) (s : St) : Prop :=
  match o.guard with
  | none => vOpO T G C I D o (contV D i acc o R) s
  | some (j, want) => oK (nth ds j) fun q => oK q fun d => (match s with
    | ⟨t, h, z, nx⟩ => (match t d with
      | .bool b => brB b
          (match want with
            | true => vOpO T G C I D o (contV D i acc o R) ⟨ts t d (.bool true), h, z, nx⟩
            | false => passV (R (i + 1) acc) (ts t d (.bool true)) h z nx o.dst)
          (match want with
            | true => passV (R (i + 1) acc) (ts t d (.bool false)) h z nx o.dst
            | false => vOpO T G C I D o (contV D i acc o R) ⟨ts t d (.bool false), h, z, nx⟩)
      | .tup [] => passV (R (i + 1) acc) t h z nx o.dst
      | _ => False))

def vOps (D : Bool) (ds : List (Option Nat)) : Nat → List (Nat × FP) → List Oper → (St → Prop) → St → Prop
  | _, _, [], K, s => K s
  | i, acc, o :: rest, K, s => vStep T G C I D ds i acc o (fun i acc s => Next (vOps D ds i acc rest K s)) s

def vc : Code → (Exit → St → Prop) → St → Prop
  | .skip, Q, s => Q .normal s
  | .label _, Q, s => Q .normal s
  | .seq a b, Q, s => vc a (thenQ (vc b Q) Q) s
  | .cond c a b, Q, s => (match ev G s.t c with
    | .bool t => (match c with
      | .tmp i => brB t (vc a Q (subS s i true)) (vc b Q (subS s i false))
      | _ => brB t (vc a Q s) (vc b Q s))
    | .anyb => vc a Q s ∧ vc b Q s
    | _ => False)
  | .block id c, Q, s => vc c (inBlockQ id Q) s
  | .loop c, Q, s => loopV P G C I Le c Q s
  | .exit id, Q, s => Q (.exit id) s
  | .ret, Q, s => Q .ret s
  | .region _ ops D, Q, s => vOps T G C I D (ops.toList.map (·.dst)) 0 [] ops.toList (Q .normal) s
  | .rangeFunc g ps a b, Q, s => rangeV P G C I Le g ps a b Q s
  | _, _, _ => False
end

section
variable {P : Program} {T : Ti} {G : Gl} {C : Contracts} {I : Inline} {Le : LeT}

theorem goV_eq {K : FP → St → Prop} {t : Tm} {h h' : Hp} {z : Fz} {nx : Nat} {d : Option Nat} {v : PV} {rd wr : List Nat} (hk : goV K t z nx d v h' rd wr) : K ⟨rd, wr, []⟩ (put { (⟨t, h, z, nx⟩ : St) with h := h', nx := nx + 1 } d v) := by
  unfold goV at hk
  rw [fN_eq] at hk
  cases d with
  | none => exact hk
  | some d => dsimp only at hk; rw [ts_eq] at hk; exact hk
theorem passV_eq {R : St → Prop} {t : Tm} {h : Hp} {z : Fz} {nx : Nat} {d : Option Nat} (hk : passV R t h z nx d) : R (put { (⟨t, h, z, nx⟩ : St) with nx := nx + 1 } d (.tup [])) := by
  unfold passV at hk
  rw [fN_eq] at hk
  cases d with
  | none => exact hk
  | some d => dsimp only at hk; rw [ts_eq] at hk; exact hk
theorem tsub {t : Tm} {d : Nat} {b : Bool} (e : t d = .bool b) : ts t d (.bool b) = t := by
  rw [ts_eq]
  funext j
  unfold tset
  split
  · rename_i q; rw [q]; exact e.symm
  · rfl

theorem vOpO_sound (hT : ∀ i x, T i = some x → tinfo P i = x) {D : Bool} {o : Oper} {K : FP → St → Prop} {s : St} (h : vOpO T G C I D o K s) : opWp P G C I D o K s := by
  obtain ⟨t, hh, z, nx⟩ := s
  unfold vOpO at h
  unfold opWp
  dsimp only at h
  split at h
  · rename_i g args ts e
    rw [e]
    dsimp only
    split at h
    · rename_i f first captured e2
      rw [e2]
      rw [evs_eq, fL_eq] at h
      exact h
    · rename_i l e2
      rw [e2]
      rw [evs_eq] at h
      exact h
    · exact h.elim
  · rename_i op hne
    obtain ⟨v, h', rd, wr, h1, h2⟩ := vOp_sound hT h
    have h2 := goV_eq (h := hh) h2
    split
    · rename_i g args ts e; exact absurd e (hne g args ts)
    · rw [h1]; exact h2

theorem vOps_f (hI : ∀ f args (J J' : PV → St → Prop) s, (∀ v s, J v s → J' v s) → I f args J s → I f args J' s) (hT : ∀ i x, T i = some x → tinfo P i = x) {ds : List (Option Nat)} {K : St → Prop} :
    ∀ (l : List Oper) (i : Nat) (acc : List (Nat × FP)) (s : St), vOps T G C I false ds i acc l K s → wpF P G C I ds l K s
  | [], _, _, _, h => h
  | o :: rest, i, acc, s, h => by
    have run : ∀ s, vOpO T G C I false o (contV false i acc o (fun i acc s => Next (vOps T G C I false ds i acc rest K s))) s → opWp P G C I false o (fun _ s' => wpF P G C I ds rest K s') s :=
      fun s h => opWp_mono hI (fun fp s' h => vOps_f hI hT rest _ _ _ (Next.out h)) (vOpO_sound hT h)
    have pass : ∀ t hh z nx, passV (fun s => Next (vOps T G C I false ds (i + 1) acc rest K s)) t hh z nx o.dst → wpF P G C I ds rest K (put { (⟨t, hh, z, nx⟩ : St) with nx := nx + 1 } o.dst (.tup [])) :=
      fun t hh z nx h => vOps_f hI hT rest _ _ _ (passV_eq h).out
    unfold vOps vStep at h
    unfold wpF
    cases hg : o.guard with
    | none => rw [hg] at h; exact run s h
    | some jw =>
      obtain ⟨j, want⟩ := jw
      rw [hg] at h
      dsimp only at h ⊢
      obtain ⟨q, h1, h3⟩ := oK_elim h
      clear h
      obtain ⟨d, h2, h⟩ := oK_elim h3
      clear h3
      subst h2
      rw [nth_eq] at h1
      rw [h1]
      dsimp only [Option.bind_some, id_eq]
      obtain ⟨t, hh, z, nx⟩ := s
      dsimp only at h ⊢
      unfold guarded
      split at h
      · rename_i b e
        rw [e]
        cases b with
        | true =>
          rw [tsub e] at h
          cases want with
          | true => exact ⟨fun _ => run _ h, fun hw => by cases hw⟩
          | false => exact ⟨fun hw => (by cases hw), fun _ => pass _ _ _ _ h⟩
        | false =>
          rw [tsub (b := false) e] at h
          cases want with
          | true => exact ⟨fun hw => (by cases hw), fun _ => pass _ _ _ _ h⟩
          | false => exact ⟨fun _ => run _ h, fun hw => by cases hw⟩
      · rename_i e
        rw [e]
        exact pass _ _ _ _ h
      · exact h.elim

theorem accV_eq {i : Nat} {fp : FP} {acc : List (Nat × FP)} : accV i fp acc = addFp i fp acc := by
  obtain ⟨a, b, c⟩ := fp
  unfold accV addFp
  cases a <;> cases b <;> cases c <;> rfl

theorem vOps_t (hI : ∀ f args (J J' : PV → St → Prop) s, (∀ v s, J v s → J' v s) → I f args J s → I f args J' s) (hT : ∀ i x, T i = some x → tinfo P i = x) {ds : List (Option Nat)} {K : St → Prop} :
    ∀ (l : List Oper) (i : Nat) (acc : List (Nat × FP)) (s : St), vOps T G C I true ds i acc l K s → wpT P G C I ds i acc l K s
  | [], _, _, _, h => by unfold wpT; exact h
  | o :: rest, i, acc, s, h => by
    have run : ∀ s, vOpO T G C I true o (contV true i acc o (fun i acc s => Next (vOps T G C I true ds i acc rest K s))) s →
        opWp P G C I true o (fun fp s' => clearOf o fp acc = true ∧ wpT P G C I ds (i + 1) (addFp i fp acc) rest K s') s :=
      fun s h => opWp_mono hI (fun fp s' h => by
        obtain ⟨h1, h⟩ := brT_elim h
        rw [fN_eq, accV_eq] at h
        exact ⟨clr_iff h1, vOps_t hI hT rest _ _ _ h.out⟩) (vOpO_sound hT h)
    have pass : ∀ t hh z nx, passV (fun s => Next (vOps T G C I true ds (i + 1) acc rest K s)) t hh z nx o.dst → wpT P G C I ds (i + 1) acc rest K (put { (⟨t, hh, z, nx⟩ : St) with nx := nx + 1 } o.dst (.tup [])) :=
      fun t hh z nx h => vOps_t hI hT rest _ _ _ (passV_eq h).out
    unfold vOps vStep at h
    unfold wpT
    cases hg : o.guard with
    | none => rw [hg] at h; exact run s h
    | some jw =>
      obtain ⟨j, want⟩ := jw
      rw [hg] at h
      dsimp only at h ⊢
      obtain ⟨q, h1, h3⟩ := oK_elim h
      clear h
      obtain ⟨d, h2, h⟩ := oK_elim h3
      clear h3
      subst h2
      rw [nth_eq] at h1
      rw [h1]
      dsimp only [Option.bind_some, id_eq]
      obtain ⟨t, hh, z, nx⟩ := s
      dsimp only at h ⊢
      unfold guarded
      split at h
      · rename_i b e
        rw [e]
        cases b with
        | true =>
          rw [tsub e] at h
          cases want with
          | true => exact ⟨fun _ => run _ h, fun hw => by cases hw⟩
          | false => exact ⟨fun hw => (by cases hw), fun _ => pass _ _ _ _ h⟩
        | false =>
          rw [tsub (b := false) e] at h
          cases want with
          | true => exact ⟨fun hw => (by cases hw), fun _ => pass _ _ _ _ h⟩
          | false => exact ⟨fun _ => run _ h, fun hw => by cases hw⟩
      · rename_i e
        rw [e]
        exact pass _ _ _ _ h
      · exact h.elim

theorem vc_sound (hI : ∀ f args (J J' : PV → St → Prop) s, (∀ v s, J v s → J' v s) → I f args J s → I f args J' s) (hT : ∀ i x, T i = some x → tinfo P i = x) :
    ∀ (c : Code) (Q : Exit → St → Prop) (s : St), vc P T G C I Le c Q s → wp P G C I Le c Q s
  | .skip, _, _, h => h
  | .label _, _, _, h => h
  | .seq a b, Q, s, h => by
    refine wp_mono hI a _ _ s (fun e s h => ?_) (vc_sound hI hT a _ s h)
    cases e <;> first | exact vc_sound hI hT b _ s h | exact h
  | .cond c a b, Q, s, h => by
    unfold vc at h
    unfold wp
    split at h
    · rename_i t e
      rw [e]
      dsimp only
      split at h
      · rename_i i
        refine ⟨fun ht => ?_, fun ht => ?_⟩
        · subst ht; rw [subS_eq e] at h; exact vc_sound hI hT a _ s h
        · subst ht; exact vc_sound hI hT b _ s (by rw [subS_eq (b := false) e] at h; exact h)
      · refine ⟨fun ht => ?_, fun ht => ?_⟩
        · subst ht; exact vc_sound hI hT a _ s h
        · subst ht; exact vc_sound hI hT b _ s h
    · rename_i e; rw [e]; exact ⟨vc_sound hI hT a _ s h.1, vc_sound hI hT b _ s h.2⟩
    · exact h.elim
  | .block id c, Q, s, h => vc_sound hI hT c _ s h
  | .loop c, Q, s, h => h
  | .exit id, _, _, h => h
  | .ret, _, _, h => h
  | .region id ops D, Q, s, h => by
    obtain ⟨l⟩ := ops
    cases D with
    | false => rw [wpe_regF]; exact vOps_f hI hT _ _ _ _ h
    | true => rw [wpe_regT]; exact vOps_t hI hT _ _ _ _ h
  | .rangeFunc .., _, _, h => h
  | .scope _, _, _, h => h
  | .goto _, _, _, h => h
  | .refuse _, _, _, h => h
end

/-! The rules by which code is carried out. -/
section
variable {P : Program} {T : Ti} {G : Gl} {C : Contracts} {I : Inline} {Le : LeT} {Q : Exit → St → Prop} {K : St → Prop} {s : St}
theorem r_skip (h : Q .normal s) : vc P T G C I Le .skip Q s := h
theorem r_seq {a b : Code} (h : vc P T G C I Le a (thenQ (vc P T G C I Le b Q) Q) s) : vc P T G C I Le (.seq a b) Q s := h
theorem r_block {id : Nat} {c : Code} (h : vc P T G C I Le c (inBlockQ id Q) s) : vc P T G C I Le (.block id c) Q s := h
theorem r_loop {c : Code} (h : loopV P G C I Le c Q s) : vc P T G C I Le (.loop c) Q s := h
theorem r_exit {id : Nat} (h : Q (.exit id) s) : vc P T G C I Le (.exit id) Q s := h
theorem r_ret (h : Q .ret s) : vc P T G C I Le .ret Q s := h
theorem r_region {id : Nat} {ops : List Oper} {D : Bool} (h : vOps T G C I D (ops.map (·.dst)) 0 [] ops (Q .normal) s) : vc P T G C I Le (.region id ops.toArray D) Q s := h
def condN (G : Gl) (c : Operand) (A B : St → Prop) (s : St) : Prop := match s with
  | ⟨t, h, z, nx⟩ => match ev G t c with
    | .bool b => (match c with
      | .tmp i => brB b (Next (A ⟨ts t i (.bool true), h, z, nx⟩)) (Next (B ⟨ts t i (.bool false), h, z, nx⟩))
      | _ => brB b (Next (A ⟨t, h, z, nx⟩)) (Next (B ⟨t, h, z, nx⟩)))
    | .anyb => Next (A ⟨t, h, z, nx⟩) ∧ Next (B ⟨t, h, z, nx⟩)
    | _ => False
theorem r_cond {c : Operand} {a b : Code} (h : condN G c (vc P T G C I Le a Q) (vc P T G C I Le b Q) s) : vc P T G C I Le (.cond c a b) Q s := by
  obtain ⟨t, hh, z, nx⟩ := s
  unfold condN at h
  dsimp only at h
  unfold vc
  dsimp only
  cases e : ev G t c with
  | bool x =>
    rw [e] at h
    dsimp only at h ⊢
    cases c with
    | tmp i => cases x <;> exact h.out
    | _ => cases x <;> exact h.out
  | anyb => rw [e] at h; exact ⟨h.1.out, h.2.out⟩
  | _ => rw [e] at h; exact h.elim
theorem anyb_of {A B : Prop} (h1 : Next A) (h2 : Next B) : Next A ∧ Next B := ⟨h1, h2⟩
theorem r_then (h : K s) : thenQ K Q .normal s := h
theorem r_thenE {id : Nat} (h : Q (.exit id) s) : thenQ K Q (.exit id) s := h
theorem r_thenR (h : Q .ret s) : thenQ K Q .ret s := h
theorem r_inN {id : Nat} (h : Q .normal s) : inBlockQ id Q .normal s := h
theorem r_inE {id id' : Nat} (h : brB (Nat.beq id' id) (Next (Q .normal s)) (Next (Q (.exit id') s))) : inBlockQ id Q (.exit id') s := by
  unfold inBlockQ
  rw [beq_dec] at h
  by_cases e : id' = id
  · simp only [e, decide_true] at h; simp only [e, if_true]; exact h.out
  · simp only [e, decide_false] at h; simp only [e, if_false]; exact h.out
theorem r_inR {id : Nat} (h : Q .ret s) : inBlockQ id Q .ret s := h
section
variable {D : Bool} {ds : List (Option Nat)} {i : Nat} {acc : List (Nat × FP)} {o : Oper} {rest : List Oper}
theorem r_nil (h : K s) : vOps T G C I D ds i acc [] K s := by unfold vOps; exact h
theorem r_op (h : vStep T G C I D ds i acc o (fun i acc s => Next (vOps T G C I D ds i acc rest K s)) s) : vOps T G C I D ds i acc (o :: rest) K s := h
end
end

/-! Functions. -/
def argV (ds : List PV) (i : Nat) : PV := match nth ds i with
  | some v => v
  | none => .tup []
theorem argV_eq {ds : List PV} : argV ds = argTm ds := by
  funext i
  unfold argV argTm
  rw [nth_eq]
  cases h : ds[i]? with
  | none => simp [List.getD, h]
  | some v => simp [List.getD, h]
def noH : Hp := fun _ => none
def noZ : Fz := fun _ => false
def startV (ds : List PV) : St := ⟨argV ds, noH, noZ, 0⟩
theorem startV_eq {ds : List PV} : startV ds = start ds := by unfold startV start; rw [argV_eq]; rfl

def resK (T : Ti) (s : St) (r : ResultVar) (K : PV → Prop) : Prop := match r with
  | .tmp t => force (s.t t) K
  | .cell x ty => oK (T ty) fun i => (match s.t x with
    | .ptr r j off => oK (s.h r) fun b => oK (nth b.els j) fun e => partK e off i.size i.agg K
    | _ => False)
def ressK (T : Ti) (s : St) : List ResultVar → (List PV → Prop) → Prop
  | [], K => K []
  | r :: rs, K => resK T s r fun v => ressK T s rs fun vs => K (v :: vs)
def vEnd (T : Ti) (rs : List ResultVar) (K : PV → St → Prop) (e : Exit) (s : St) : Prop := match e with
  | .normal | .ret => (match rs with
    | [r] => resK T s r fun v => K v s
    | rs => ressK T s rs fun vs => K (.tup vs) s)
  | _ => False

section
variable {P : Program} {T : Ti} {G : Gl}
theorem resK_elim (hT : ∀ i x, T i = some x → tinfo P i = x) {s : St} {r : ResultVar} {K : PV → Prop} (h : resK T s r K) : ∃ v, resVar P s r = some v ∧ K v := by
  unfold resK at h
  unfold resVar
  cases r with
  | tmp t => dsimp only at h; rw [force_eq] at h; exact ⟨_, rfl, h⟩
  | cell x ty =>
    dsimp only at h ⊢
    obtain ⟨i, h1, h⟩ := oK_elim h
    have h1 := hT _ _ h1
    subst h1
    split at h
    · rename_i r j off e
      obtain ⟨b, h2, h⟩ := oK_elim h
      obtain ⟨d, h3, h⟩ := oK_elim h
      obtain ⟨v, h4, h⟩ := partK_elim h
      rw [nth_eq] at h3
      exact ⟨v, by rw [e]; dsimp only; rw [h2]; dsimp only; rw [h3]; exact h4, h⟩
    · exact h.elim
theorem ressK_elim (hT : ∀ i x, T i = some x → tinfo P i = x) {s : St} : ∀ {rs : List ResultVar} {K : List PV → Prop}, ressK T s rs K → ∃ vs, resVars P s rs = some vs ∧ K vs
  | [], K, h => ⟨[], rfl, h⟩
  | r :: rs, K, h => by
    obtain ⟨v, h1, h⟩ := resK_elim hT h
    obtain ⟨vs, h2, h⟩ := ressK_elim hT h
    exact ⟨v :: vs, by unfold resVars; rw [h1, h2], h⟩
theorem resVars_len {s : St} : ∀ {rs : List ResultVar} {vs : List PV}, resVars P s rs = some vs → vs.length = rs.length
  | [], vs, h => by simp [resVars] at h; subst h; rfl
  | r :: rs, vs, h => by
    unfold resVars at h
    split at h
    · rename_i v vs' h1 h2; cases h; simp [resVars_len h2]
    · cases h
theorem vEnd_sound (hT : ∀ i x, T i = some x → tinfo P i = x) {rs : List ResultVar} {K : PV → St → Prop} {e : Exit} {s : St} (h : vEnd T rs K e s) : atEnd P rs K e s := by
  have key : ∀ rs : List ResultVar, (match rs with
    | [r] => resK T s r fun v => K v s
    | rs => ressK T s rs fun vs => K (.tup vs) s) → ∃ v, resOf P rs s = some v ∧ K v s := by
    intro rs h
    have many : (∀ r, rs ≠ [r]) → (ressK T s rs fun vs => K (.tup vs) s) → ∃ v, resOf P rs s = some v ∧ K v s := by
      intro hne h
      obtain ⟨vs, h1, h⟩ := ressK_elim hT h
      refine ⟨.tup vs, ?_, h⟩
      have hl := resVars_len h1
      unfold resOf
      rw [h1]
      match vs, hl with
      | [], _ => rfl
      | [v], hl =>
        obtain ⟨r, hr⟩ := List.length_eq_one_iff.1 hl.symm
        exact absurd hr (hne r)
      | _ :: _ :: _, _ => rfl
    match rs, h, many with
    | [], h, many => exact many (fun r => by simp) h
    | [r], h, _ =>
      obtain ⟨v, h1, h⟩ := resK_elim hT h
      exact ⟨v, by unfold resOf resVars; rw [h1]; simp [resVars], h⟩
    | _ :: _ :: _, h, many => exact many (fun r => by simp) h
  unfold vEnd at h
  cases e with
  | normal => exact key rs h
  | ret => exact key rs h
  | _ => exact h.elim

/-- The code of a function, carried out by 'vc'. -/
abbrev VC (P : Program) (T : Ti) (G : Gl) (n0 : Nat) : Code → (Exit → St → Prop) → St → Prop := vc P T G (FnC P G) (FnH P G) (LeS G, n0)

theorem vc_wp (hT : ∀ i x, T i = some x → tinfo P i = x) {n0 : Nat} {c : Code} {Q Q' : Exit → St → Prop} {s : St} (hq : ∀ e s, Q e s → Q' e s) (h : VC P T G n0 c Q s) : wp P G (FnC P G) (FnH P G) (LeS G, n0) c Q' s :=
  wp_mono FnH.mono c _ _ s hq (vc_sound FnH.mono hT c _ s h)

def givesV (h : Hp) (v d : PV) : Prop := gives h v d
theorem givesV_of {h : Hp} {v d : PV} {ks : List Nat} (e : frz h 4 v = some (d, ks)) : givesV h v d := ⟨ks, e⟩
theorem givesV_to {h : Hp} {v d d' : PV} {ks : List Nat} (e : frz h 4 v = some (d', ks)) (e' : d' = d) : givesV h v d := ⟨ks, e' ▸ e⟩
def givesOwnV (els : List PV) (sz : Nat) (agg : Bool) (v : PV) (s : St) : Prop := givesOwn els sz agg v s

theorem givesOwnV_nil {sz : Nat} {agg : Bool} {s : St} : givesOwnV [] sz agg .nilsl s := Or.inl ⟨rfl, rfl⟩
theorem givesOwnV_of {els : List PV} {sz : Nat} {agg : Bool} {r len : Nat} {s : St} (hl : len = els.length) (hb : s.h r = some ⟨els, sz, agg⟩) (hz : s.z r = false) (hf : mapF (frz s.h 4) els = some (els, [])) : givesOwnV els sz agg (.own r 0 len) s := givesOwn_of hl hb hz hf
theorem givesOwnV_to {els els' : List PV} {sz : Nat} {agg : Bool} {r len : Nat} {s : St} (hb : s.h r = some ⟨els', sz, agg⟩) (e : els' = els) (hl : len = els.length) (hz : s.z r = false) (hf : mapF (frz s.h 4) els = some (els, [])) : givesOwnV els sz agg (.own r 0 len) s := by subst e; exact givesOwn_of hl hb hz hf
theorem fnC_v (hm : P.follows .mixedOrders = true) (hT : ∀ i x, T i = some x → tinfo P i = x) {f : FuncId} {fn : Func} {c : Code} {rs : List ResultVar} {nt : Nat} (ok : FnOk P f fn c rs nt) {ds : List PV} (hl : ds.length ≤ nt) {d : PV}
    (h : VC P T G 0 c (vEnd T rs fun v s => givesV s.h v d) (startV ds)) : FnC P G f ds (.data d) :=
  fnC_of hm ok hl (by rw [← startV_eq]; exact vc_wp hT (fun e s h => vEnd_sound hT h) h)
theorem fnC_vown (hm : P.follows .mixedOrders = true) (hT : ∀ i x, T i = some x → tinfo P i = x) {f : FuncId} {fn : Func} {c : Code} {rs : List ResultVar} {nt : Nat} (ok : FnOk P f fn c rs nt) {ds : List PV} (hl : ds.length ≤ nt) {els : List PV} {sz : Nat} {agg : Bool}
    (h : VC P T G 0 c (vEnd T rs (givesOwnV els sz agg)) (startV ds)) : FnC P G f ds (.fresh els sz agg) :=
  fnC_own hm ok hl (by rw [← startV_eq]; exact vc_wp hT (fun e s h => vEnd_sound hT h) h)

def fZ (z : Fz) (ks : List Nat) (K : Fz → Prop) : Prop := match ks with
  | [] => K z
  | k :: ks => K (fs z (k :: ks))
theorem fZ_eq {z : Fz} {ks : List Nat} {K : Fz → Prop} (h : fZ z ks K) : K (fset z ks) := by
  cases ks with
  | nil => rw [fset_nil]; exact h
  | cons k ks => rw [← fs_eq]; exact h
def backV (K : FP → St → Prop) (t : Tm) (d : Option Nat) (v : PV) (h : Hp) (z : Fz) (nx : Nat) (fp : FP) : Prop := force v fun v => match d with
  | some d => K fp ⟨ts t d v, h, z, nx⟩
  | none => K fp ⟨t, h, z, nx⟩
theorem backV_eq {K : FP → St → Prop} {t : Tm} {d : Option Nat} {v : PV} {h : Hp} {z : Fz} {nx : Nat} {fp : FP} (hk : backV K t d v h z nx fp) : K fp (put ⟨t, h, z, nx⟩ d v) := by
  unfold backV at hk
  rw [force_eq] at hk
  cases d with
  | none => exact hk
  | some d => dsimp only at hk; rw [ts_eq] at hk; exact hk
theorem callV_data {C : Contracts} {I : Inline} {D : Bool} {f : FuncId} {args ds : List PV} {ks : List Nat} {v : PV} {d : Option Nat} {K : FP → St → Prop} {t : Tm} {h : Hp} {z : Fz} {nx : Nat} (hC : C f ds (.data v)) (hf : mapF (frz h 6) args = some (ds, ks))
    (hk : fZ z ks fun z => fN (nx + 1) fun nx => backV K t d v h z nx ⟨ks, [], ks⟩) : callV C I D f args d K ⟨t, h, z, nx⟩ :=
  call_data (s := ⟨t, h, z, nx⟩) hC hf (by
    have := fZ_eq hk
    rw [fN_eq] at this
    exact backV_eq this)
theorem callV_fresh {C : Contracts} {I : Inline} {D : Bool} {f : FuncId} {args ds : List PV} {ks : List Nat} {els : List PV} {sz : Nat} {agg : Bool} {d : Option Nat} {K : FP → St → Prop} {t : Tm} {h : Hp} {z : Fz} {nx : Nat} (hC : C f ds (.fresh els sz agg)) (hf : mapF (frz h 6) args = some (ds, ks))
    (hk : fZ z ks fun z => fN nx fun key => fN (nx + 1) fun nx => backV K t d (.own key 0 els.length) (hs h key (some ⟨els, sz, agg⟩)) z nx ⟨ks, [key], ks⟩) : callV C I D f args d K ⟨t, h, z, nx⟩ :=
  call_fresh (s := ⟨t, h, z, nx⟩) hC hf (by
    have := fZ_eq hk
    rw [fN_eq, fN_eq, hs_eq] at this
    exact backV_eq this)
theorem callV_inl {C : Contracts} {I : Inline} {f : FuncId} {args : List PV} {d : Option Nat} {K : FP → St → Prop} {s : St} (h : I f args (fun v s' => K ⟨[], [], []⟩ (put { s' with t := s.t } d v)) s) : callV C I false f args d K s :=
  call_inl h
end
/-- A yield. -/
theorem yieldV_of {C : Contracts} {l : Nat} {args ds : List PV} {ks : List Nat} {i j : Nat} {b : Bool} {d : Option Nat} {K : FP → St → Prop} {t : Tm} {h : Hp} {z : Fz} {nx : Nat} (hC : C l (.anyb :: ds) (.gh i j b)) (hf : mapF (frz h 6) args = some (ds, ks)) (hi : h 0 = some (gblk i))
    (hk : fZ z ks fun z => fN (nx + 1) fun nx => backV K t d (.bool b) (hs h 0 (some (gblk j))) z nx ⟨0 :: ks, [0], ks⟩) : yieldV C l args d K ⟨t, h, z, nx⟩ :=
  ⟨6, ds, ks, i, j, b, hf, hC, hi, by
    have := fZ_eq hk
    rw [fN_eq, hs_eq] at this
    exact backV_eq this⟩
/-- A call of a function that yields. -/
theorem callV_gh {C : Contracts} {I : Inline} {D : Bool} {f : FuncId} {args ds : List PV} {ks : List Nat} {i j : Nat} {b : Bool} {d : Option Nat} {K : FP → St → Prop} {t : Tm} {h : Hp} {z : Fz} {nx : Nat} (hC : C f ds (.gh i j b)) (hf : mapF (frz h 6) args = some (ds, ks)) (hi : h 0 = some (gblk i))
    (hk : fZ z ks fun z => fN (nx + 1) fun nx => backV K t d (.bool b) (hs h 0 (some (gblk j))) z nx ⟨0 :: ks, [0], ks⟩) : callV C I D f args d K ⟨t, h, z, nx⟩ :=
  Or.inl ⟨6, ds, ks, .gh i j b, hf, hC, hi, by
    have := fZ_eq hk
    rw [fN_eq, hs_eq] at this
    exact backV_eq this⟩
attribute [irreducible] yieldV rangeV callV loopV givesV givesOwnV
end Go.PI
