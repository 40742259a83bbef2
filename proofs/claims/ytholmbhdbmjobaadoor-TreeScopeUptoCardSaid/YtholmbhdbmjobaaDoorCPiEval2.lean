/-
  PI: equations by which 'simp' carries 'wp' out: regions, calls, ends; second part.
-/
import Derived.Test.YtholmbhdbmjobaaDoorCPiEval
set_option linter.unusedVariables false
set_option linter.unusedSimpArgs false
namespace Go.PI

section
variable {P : Program} {G : Gl} {C : Contracts} {I : Inline} {Le : LeT} {D : Bool} {s : St}

/-- Is a guard's operation carried out? -/
def guarded (v : PV) (want : Bool) (run pass : Prop) : Prop := match v with
  | .bool b => (b = want → run) ∧ (b = (!want) → pass)
  | .tup [] => pass
  | _ => False
theorem guarded_t {b : Bool} {run pass : Prop} : guarded (.bool b) true run pass = ((b = true → run) ∧ (b = false → pass)) := rfl
theorem guarded_f {b : Bool} {run pass : Prop} : guarded (.bool b) false run pass = ((b = false → run) ∧ (b = true → pass)) := rfl
theorem guarded_u {w : Bool} {run pass : Prop} : guarded (.tup []) w run pass = pass := rfl

/-- A region that is carried out in its text's order. -/
def wpF (P : Program) (G : Gl) (C : Contracts) (I : Inline) (ds : List (Option Nat)) : List Oper → (St → Prop) → St → Prop
  | [], K, s => K s
  | o :: rest, K, s =>
    match o.guard with
    | none => opWp P G C I false o (fun _ s' => wpF P G C I ds rest K s') s
    | some (j, want) => match (ds[j]?).bind id with
      | some d => guarded (s.t d) want (opWp P G C I false o (fun _ s' => wpF P G C I ds rest K s') s) (wpF P G C I ds rest K (put { s with nx := s.nx + 1 } o.dst (.tup [])))
      | none => False

theorem opWp_congr {o : Oper} {K K' : FP → St → Prop} (h : ∀ fp s, K fp s = K' fp s) : opWp P G C I D o K s = opWp P G C I D o K' s := by
  have : K = K' := funext fun fp => funext fun s => h fp s
  rw [this]

theorem get_dst {ops : List Oper} {j : Nat} : (ops[j]?).bind (·.dst) = ((ops.map (·.dst))[j]?).bind id := by
  rw [List.getElem?_map]
  cases ops[j]? <;> rfl

theorem wpOps_f {ops : List Oper} {K : St → Prop} : ∀ (l : List Oper) (i : Nat) (acc : List (Nat × FP)) (s : St), wpOps P G C I false ops i acc l K s = wpF P G C I (ops.map (·.dst)) l K s
  | [], _, _, _ => rfl
  | o :: rest, i, acc, s => by
    have e : opWp P G C I false o (fun fp s' => ((false : Bool) = true → clearOf o fp acc = true) ∧ wpOps P G C I false ops (i + 1) ((i, fp) :: acc) rest K s') s = opWp P G C I false o (fun _ s' => wpF P G C I (ops.map (·.dst)) rest K s') s :=
      opWp_congr fun fp s' => by rw [wpOps_f rest]; simp
    unfold wpOps wpF
    dsimp only
    cases o.guard with
    | none => exact e
    | some jw =>
      obtain ⟨j, want⟩ := jw
      dsimp only
      rw [get_dst, e, wpOps_f rest]
      cases ((ops.map (·.dst))[j]?).bind id with
      | none => rfl
      | some d =>
        dsimp only [guarded]
        cases s.t d with
        | tup vs => cases vs <;> rfl
        | _ => rfl

def FP.none : FP → Bool
  | ⟨[], [], []⟩ => true
  | _ => false
def addFp (i : Nat) (fp : FP) (acc : List (Nat × FP)) : List (Nat × FP) := if fp.none then acc else (i, fp) :: acc
theorem addFp_nil {i : Nat} {acc : List (Nat × FP)} : addFp i ⟨[], [], []⟩ acc = acc := rfl
theorem addFp_rd {i k : Nat} {ks ws fs : List Nat} {acc : List (Nat × FP)} : addFp i ⟨k :: ks, ws, fs⟩ acc = (i, ⟨k :: ks, ws, fs⟩) :: acc := rfl
theorem addFp_wr {i k : Nat} {ws fs : List Nat} {acc : List (Nat × FP)} : addFp i ⟨[], k :: ws, fs⟩ acc = (i, ⟨[], k :: ws, fs⟩) :: acc := rfl

/-- A region that draws its order. -/
def wpT (P : Program) (G : Gl) (C : Contracts) (I : Inline) (ds : List (Option Nat)) : Nat → List (Nat × FP) → List Oper → (St → Prop) → St → Prop
  | _, _, [], K, s => K s
  | i, acc, o :: rest, K, s =>
    match o.guard with
    | none => opWp P G C I true o (fun fp s' => clearOf o fp acc = true ∧ wpT P G C I ds (i + 1) (addFp i fp acc) rest K s') s
    | some (j, want) => match (ds[j]?).bind id with
      | some d => guarded (s.t d) want (opWp P G C I true o (fun fp s' => clearOf o fp acc = true ∧ wpT P G C I ds (i + 1) (addFp i fp acc) rest K s') s) (wpT P G C I ds (i + 1) acc rest K (put { s with nx := s.nx + 1 } o.dst (.tup [])))
      | none => False

theorem apart_none {f fp : FP} (h : f.none = true) : FP.apart f fp = true := by
  obtain ⟨a, b, c⟩ := f
  cases a <;> cases b <;> cases c <;> simp [FP.none] at h
  simp [FP.apart]
theorem clearOf_cons' {o : Oper} {fp f : FP} {k : Nat} {acc : List (Nat × FP)} : clearOf o fp ((k, f) :: acc) = ((o.after.any (fun e => e.on == k && Region.binds .any e) || FP.apart f fp) && clearOf o fp acc) := rfl

theorem wpOps_t {ops : List Oper} {K : St → Prop} : ∀ (l : List Oper) (i : Nat) (acc acc' : List (Nat × FP)) (s : St), (∀ o fp, clearOf o fp acc = clearOf o fp acc') → wpOps P G C I true ops i acc l K s = wpT P G C I (ops.map (·.dst)) i acc' l K s
  | [], _, _, _, _, _ => rfl
  | o :: rest, i, acc, acc', s, ha => by
    have ha' : ∀ fp (o : Oper) (fp' : FP), clearOf o fp' ((i, fp) :: acc) = clearOf o fp' (addFp i fp acc') := fun fp o fp' => by
      unfold addFp
      split
      · rename_i h; rw [clearOf_cons', apart_none h, Bool.or_true, Bool.true_and, ha]
      · rw [clearOf_cons', clearOf_cons', ha]
    have e : opWp P G C I true o (fun fp s' => ((true : Bool) = true → clearOf o fp acc = true) ∧ wpOps P G C I true ops (i + 1) ((i, fp) :: acc) rest K s') s = opWp P G C I true o (fun fp s' => clearOf o fp acc' = true ∧ wpT P G C I (ops.map (·.dst)) (i + 1) (addFp i fp acc') rest K s') s :=
      opWp_congr fun fp s' => by rw [wpOps_t rest (i + 1) _ _ s' (ha' fp), ha]; simp
    unfold wpOps wpT
    dsimp only
    cases o.guard with
    | none => exact e
    | some jw =>
      obtain ⟨j, want⟩ := jw
      dsimp only
      rw [get_dst, e, wpOps_t rest (i + 1) acc acc' _ ha]
      cases ((ops.map (·.dst))[j]?).bind id with
      | none => rfl
      | some d =>
        dsimp only [guarded]
        cases s.t d with
        | tup vs => cases vs <;> rfl
        | _ => rfl

theorem wpe_regF {id : Nat} {ops : List Oper} {Q : Exit → St → Prop} : wp P G C I Le (.region id ops.toArray false) Q s = wpF P G C I (ops.map (·.dst)) ops (Q .normal) s := wpOps_f _ _ _ _
theorem wpe_regT {id : Nat} {ops : List Oper} {Q : Exit → St → Prop} : wp P G C I Le (.region id ops.toArray true) Q s = wpT P G C I (ops.map (·.dst)) 0 [] ops (Q .normal) s := wpOps_t _ _ _ _ _ fun _ _ => rfl

section
variable {ds : List (Option Nat)} {d : Option Nat} {op : Op} {ty : TypeId} {pos : String} {after : Array Edge} {rest : List Oper} {K : St → Prop} {i j : Nat} {acc : List (Nat × FP)} {want : Bool}
theorem wpF_nil : wpF P G C I ds [] K s = K s := rfl
theorem wpF_op : wpF P G C I ds (⟨d, op, ty, pos, after, none⟩ :: rest) K s = opWp P G C I false ⟨d, op, ty, pos, after, none⟩ (fun _ s' => wpF P G C I ds rest K s') s := rfl
theorem wpF_guard : wpF P G C I ds (⟨d, op, ty, pos, after, some (j, want)⟩ :: rest) K s = elimO ((ds[j]?).bind id) fun e =>
    guarded (s.t e) want (opWp P G C I false ⟨d, op, ty, pos, after, some (j, want)⟩ (fun _ s' => wpF P G C I ds rest K s') s) (wpF P G C I ds rest K (put { s with nx := s.nx + 1 } d (.tup []))) := by
  conv => lhs; unfold wpF
  dsimp only
  cases (ds[j]?).bind id <;> rfl
theorem wpT_nil : wpT P G C I ds i acc [] K s = K s := by unfold wpT; rfl
theorem wpT_op : wpT P G C I ds i acc (⟨d, op, ty, pos, after, none⟩ :: rest) K s = opWp P G C I true ⟨d, op, ty, pos, after, none⟩ (fun fp s' => clearOf ⟨d, op, ty, pos, after, none⟩ fp acc = true ∧ wpT P G C I ds (i + 1) (addFp i fp acc) rest K s') s := by
  conv => lhs; unfold wpT
theorem wpT_guard : wpT P G C I ds i acc (⟨d, op, ty, pos, after, some (j, want)⟩ :: rest) K s = elimO ((ds[j]?).bind id) fun e =>
    guarded (s.t e) want (opWp P G C I true ⟨d, op, ty, pos, after, some (j, want)⟩ (fun fp s' => clearOf ⟨d, op, ty, pos, after, some (j, want)⟩ fp acc = true ∧ wpT P G C I ds (i + 1) (addFp i fp acc) rest K s') s) (wpT P G C I ds (i + 1) acc rest K (put { s with nx := s.nx + 1 } d (.tup []))) := by
  conv => lhs; unfold wpT
  dsimp only
  cases (ds[j]?).bind id <;> rfl
theorem clear_nil {o : Oper} {fp : FP} : clearOf o fp [] = true := rfl
theorem clear_none {o : Oper} {acc : List (Nat × FP)} : clearOf o ⟨[], [], []⟩ acc = true := by
  unfold clearOf
  rw [List.all_eq_true]
  intro x _
  simp [FP.apart]
theorem clear_cons {fp f : FP} {k : Nat} {acc : List (Nat × FP)} {after : List Edge} {g : Option (Nat × Bool)} : clearOf ⟨d, op, ty, pos, after.toArray, g⟩ fp ((k, f) :: acc) = ((after.any (fun e => e.on == k && Region.binds .any e) || FP.apart f fp) && clearOf ⟨d, op, ty, pos, after.toArray, g⟩ fp acc) := by
  rw [clearOf_cons']
  simp
theorem apart_rr {a b : List Nat} {c d : List Nat} : FP.apart ⟨a, [], c⟩ ⟨b, [], d⟩ = true := rfl
end

def fnWp (C : Contracts) (I : Inline) (D : Bool) (g : PV) (args : List PV) (d : Option Nat) (K : FP → St → Prop) (s : St) : Prop := match g with
  | .func (.func f) first captured => callWp C I D f (first ++ args ++ captured) d K s
  | .func (.yield l) [] [] => yieldWp C l args d K s
  | _ => False
theorem opWp_call' {d : Option Nat} {g : Operand} {args : List Operand} {ts : Array TypeId} {ty : TypeId} {pos : String} {after : Array Edge} {gu : Option (Nat × Bool)} {K : FP → St → Prop} :
    opWp P G C I D ⟨d, .call ⟨.value g, args.toArray, ts⟩, ty, pos, after, gu⟩ K s = fnWp C I D (ev G s.t g) (args.map (ev G s.t)) d K s := rfl
theorem fnWp_func {f : FuncId} {first captured args : List PV} {d : Option Nat} {K : FP → St → Prop} : fnWp C I D (.func (.func f) first captured) args d K s = callWp C I D f (first ++ args ++ captured) d K s := rfl

theorem put_some {d : Nat} {v : PV} : put s (some d) v = { s with t := tset s.t d v } := rfl
theorem put_none {v : PV} : put s none v = s := rfl
theorem fset_nil {z : Fz} : fset z [] = z := by funext r; simp [fset]

theorem call_data {f : FuncId} {args ds : List PV} {ks : List Nat} {v : PV} {d : Option Nat} {K : FP → St → Prop} (hC : C f ds (.data v)) (hf : mapF (frz s.h 6) args = some (ds, ks)) (hk : K ⟨ks, [], ks⟩ (put { s with z := fset s.z ks, nx := s.nx + 1 } d v)) :
    callWp C I D f args d K s := Or.inl ⟨6, ds, ks, .data v, hf, hC, trivial, hk⟩
theorem call_data0 {f : FuncId} {args ds : List PV} {v : PV} {d : Option Nat} {K : FP → St → Prop} (hC : C f ds (.data v)) (hf : mapF (frz s.h 6) args = some (ds, [])) (hk : K ⟨[], [], []⟩ (put { s with nx := s.nx + 1 } d v)) :
    callWp C I D f args d K s := call_data hC hf (by rw [fset_nil]; exact hk)
theorem call_fresh {f : FuncId} {args ds : List PV} {ks : List Nat} {els : List PV} {sz : Nat} {agg : Bool} {d : Option Nat} {K : FP → St → Prop} (hC : C f ds (.fresh els sz agg)) (hf : mapF (frz s.h 6) args = some (ds, ks))
    (hk : K ⟨ks, [s.nx], ks⟩ (put { s with h := hset s.h s.nx (some ⟨els, sz, agg⟩), z := fset s.z ks, nx := s.nx + 1 } d (.own s.nx 0 els.length))) :
    callWp C I D f args d K s := Or.inl ⟨6, ds, ks, .fresh els sz agg, hf, hC, trivial, hk⟩
theorem call_fresh0 {f : FuncId} {args ds : List PV} {els : List PV} {sz : Nat} {agg : Bool} {d : Option Nat} {K : FP → St → Prop} (hC : C f ds (.fresh els sz agg)) (hf : mapF (frz s.h 6) args = some (ds, []))
    (hk : K ⟨[], [s.nx], []⟩ (put { s with h := hset s.h s.nx (some ⟨els, sz, agg⟩), nx := s.nx + 1 } d (.own s.nx 0 els.length))) :
    callWp C I D f args d K s := call_fresh hC hf (by rw [fset_nil]; exact hk)
theorem call_inl {f : FuncId} {args : List PV} {d : Option Nat} {K : FP → St → Prop} (h : I f args (fun v s' => K ⟨[], [], []⟩ (put { s' with t := s.t } d v)) s) : callWp C I false f args d K s := Or.inr ⟨rfl, h⟩

theorem frz_map {α : Type} {h : Hp} {n : Nat} {f : α → PV} (he : ∀ x, frz h n (f x) = some (f x, [])) : ∀ l : List α, mapF (frz h n) (l.map f) = some (l.map f, [])
  | [] => rfl
  | x :: l => by
    simp only [List.map_cons, mapF, he, frz_map he l, List.append_nil]
theorem frz_map' {α : Type} {h : Hp} {n : Nat} {f g : α → PV} (he : ∀ x, frz h n (f x) = some (g x, [])) : ∀ l : List α, mapF (frz h n) (l.map f) = some (l.map g, [])
  | [] => rfl
  | x :: l => by
    simp only [List.map_cons, mapF, he, frz_map' he l, List.append_nil]

theorem cond_bool {b : Bool} {x y : Prop} : (match PV.bool b with
    | .bool t => (t = true → x) ∧ (t = false → y)
    | .anyb => x ∧ y
    | _ => False) = ((b = true → x) ∧ (b = false → y)) := rfl
/-- Both ways of a test. -/
def condP (v : PV) (x y : Prop) : Prop := match v with
  | .bool t => (t = true → x) ∧ (t = false → y)
  | .anyb => x ∧ y
  | _ => False
theorem wpe_condP {c : Operand} {a b : Code} {Q : Exit → St → Prop} : wp P G C I Le (.cond c a b) Q s = condP (ev G s.t c) (wp P G C I Le a Q s) (wp P G C I Le b Q s) := rfl
theorem condP_bool {b : Bool} {x y : Prop} : condP (.bool b) x y = ((b = true → x) ∧ (b = false → y)) := rfl
theorem condP_anyb {x y : Prop} : condP .anyb x y = (x ∧ y) := rfl

theorem ev_tmp {i : Nat} {t : Tm} : ev G t (.tmp i) = t i := rfl
theorem ev_const {v : Value} {t : Tm} : ev G t (.const v) = ofConst v := rfl
theorem ev_func {f : FuncId} {t : Tm} : ev G t (.func f) = .func (.func f) [] [] := rfl
theorem ofConst_int {k : IntKind} {n : Int} : ofConst (.int k n) = .int k n := rfl
theorem ofConst_bool {b : Bool} : ofConst (.bool b) = .bool b := rfl
theorem ofConst_nil : ofConst (.slice none 0 0) = .nilsl := rfl
theorem ofConst_nilf : ofConst .nilFunc = .nilfunc := rfl
theorem ofConst_agg {cs : Array Value} : ofConst (.agg cs) = .any := rfl
theorem tset_eq {t : Tm} {d i : Nat} {v : PV} : tset t d v i = if i = d then v else t i := rfl
theorem hset_eq {h : Hp} {d i : Nat} {v : Option Blk} : hset h d v i = if i = d then v else h i := rfl
theorem sl_cons {j i : Nat} {v : PV} {l : List (Nat × PV)} : sl ((j, v) :: l) i = if i = j then v else sl l i := rfl
theorem sl_nil {i : Nat} : sl [] i = .any := rfl
theorem hl_cons {j i : Nat} {v : Blk} {l : List (Nat × Blk)} : hl ((j, v) :: l) i = if i = j then some v else hl l i := rfl
theorem hl_nil {i : Nat} : hl [] i = none := rfl
theorem argTm_eq {l : List PV} {i : Nat} : argTm l i = l.getD i (.tup []) := rfl

theorem atEnd_ret {rs : List ResultVar} {K : PV → St → Prop} : atEnd P rs K .ret s = elimO (resOf P rs s) fun v => K v s := by
  cases h : resOf P rs s with
  | none => exact propext (Iff.intro (fun ⟨v, e, _⟩ => by rw [h] at e; cases e) (fun h => False.elim h))
  | some v => exact propext (Iff.intro (fun ⟨v', e, hk⟩ => by rw [h] at e; cases e; exact hk) (fun hk => ⟨v, h, hk⟩))
theorem atEnd_normal {rs : List ResultVar} {K : PV → St → Prop} : atEnd P rs K .normal s = elimO (resOf P rs s) fun v => K v s := atEnd_ret
theorem res1 {i : Nat} : resOf P [.tmp i] s = some (s.t i) := rfl
theorem res2 {i j : Nat} : resOf P [.tmp i, .tmp j] s = some (.tup [s.t i, s.t j]) := rfl
theorem res3 {i j k : Nat} : resOf P [.tmp i, .tmp j, .tmp k] s = some (.tup [s.t i, s.t j, s.t k]) := rfl
/-- A variable in a box, read. -/
def cellR (size : Nat) (agg : Bool) (p : PV) (h : Hp) : Option PV := match p with
  | .ptr r j off => (match h r with
    | some b => (match b.els[j]? with
      | some e => part e off size agg
      | none => none)
    | none => none)
  | _ => none
theorem resVar_cell {x : Nat} {ty : TypeId} : resVar P s (.cell x ty) = cellR (tinfo P ty).size (tinfo P ty).agg (s.t x) s.h := rfl
theorem resVar_tmp {x : Nat} : resVar P s (.tmp x) = some (s.t x) := rfl
theorem elimO_cell {size : Nat} {agg : Bool} {h : Hp} {F : PV → Prop} {r j off : Nat} : elimO (cellR size agg (.ptr r j off) h) F = elimO (h r) fun b => elimO b.els[j]? fun e => elimO (part e off size agg) F := by
  unfold cellR
  dsimp only
  cases h r with
  | none => rfl
  | some b =>
    dsimp only [elimO_some]
    cases b.els[j]? <;> rfl
theorem elimO_resVars {r : ResultVar} {rs : List ResultVar} {F : List PV → Prop} : elimO (resVars P s (r :: rs)) F = elimO (resVar P s r) fun v => elimO (resVars P s rs) fun vs => F (v :: vs) := by
  conv => lhs; unfold resVars
  cases resVar P s r with
  | none => rfl
  | some v => cases resVars P s rs <;> rfl
theorem resVars_nil : resVars P s [] = some [] := rfl
theorem elimO_res1 {r : ResultVar} {F : PV → Prop} : elimO (resOf P [r] s) F = elimO (resVar P s r) F := by
  unfold resOf resVars resVars
  cases resVar P s r <;> rfl
theorem elimO_res2 {r r' : ResultVar} {rs : List ResultVar} {F : PV → Prop} : elimO (resOf P (r :: r' :: rs) s) F = elimO (resVars P s (r :: r' :: rs)) fun vs => F (.tup vs) := by
  unfold resOf
  cases h : resVars P s (r :: r' :: rs) with
  | none => rfl
  | some vs =>
    cases vs with
    | nil => rfl
    | cons v vs =>
      cases vs with
      | nil =>
        exfalso
        unfold resVars at h
        split at h
        · rename_i h2
          cases h
          unfold resVars at h2
          split at h2
          · cases h2
          · cases h2
        · cases h
      | cons _ _ => rfl

/-- What is asked of a result. -/
def gives (h : Hp) (v d : PV) : Prop := ∃ ks, frz h 4 v = some (d, ks)
theorem gives_of {h : Hp} {v d : PV} {ks : List Nat} (e : frz h 4 v = some (d, ks)) : gives h v d := ⟨ks, e⟩
theorem gives_int {h : Hp} {k : IntKind} {n : Int} {d : PV} : gives h (.int k n) d = (PV.int k n = d) := propext ⟨fun ⟨ks, e⟩ => by cases e; rfl, fun e => ⟨[], by subst e; rfl⟩⟩
theorem gives_bool {h : Hp} {b : Bool} {d : PV} : gives h (.bool b) d = (PV.bool b = d) := propext ⟨fun ⟨ks, e⟩ => by cases e; rfl, fun e => ⟨[], by subst e; rfl⟩⟩
theorem gives_imm {h : Hp} {es : List PV} {d : PV} : gives h (.imm es) d = (PV.imm es = d) := propext ⟨fun ⟨ks, e⟩ => by cases e; rfl, fun e => ⟨[], by subst e; rfl⟩⟩
theorem gives_nil {h : Hp} {d : PV} : gives h .nilsl d = (PV.imm [] = d) := propext ⟨fun ⟨ks, e⟩ => by cases e; rfl, fun e => ⟨[], by subst e; rfl⟩⟩

theorem goOn_some {K : FP → St → Prop} {t : Tm} {h h0 : Hp} {z : Fz} {nx d : Nat} {v : PV} {rd wr : List Nat} : goOn K ⟨t, h0, z, nx⟩ (some d) v h rd wr = K ⟨rd, wr, []⟩ ⟨tset t d v, h, z, nx + 1⟩ := rfl
theorem goOn_none {K : FP → St → Prop} {t : Tm} {h h0 : Hp} {z : Fz} {nx : Nat} {v : PV} {rd wr : List Nat} : goOn K ⟨t, h0, z, nx⟩ none v h rd wr = K ⟨rd, wr, []⟩ ⟨t, h, z, nx + 1⟩ := rfl

/-! Where 'simp' looks in first. -/
@[congr] theorem goOn_congr {K : FP → St → Prop} {s s' : St} {d : Option Nat} {v v' : PV} {h h' : Hp} {rd rd' wr wr' : List Nat} (e1 : ∀ _ : Unit, s = s') (e2 : ∀ _ : Unit, v = v') (e3 : ∀ _ : Unit, h = h') (e4 : ∀ _ : Unit, rd = rd') (e5 : ∀ _ : Unit, wr = wr') : goOn K s d v h rd wr = goOn K s' d v' h' rd' wr' := by rw [e1 (), e2 (), e3 (), e4 (), e5 ()]
@[congr] theorem elimR_congr {r r' : Res} {F : PV → Hp → List Nat → List Nat → Prop} (e : ∀ _ : Unit, r = r') : elimR r F = elimR r' F := by rw [e ()]
@[congr] theorem elimO_congr {α : Type} {o o' : Option α} {F : α → Prop} (e : ∀ _ : Unit, o = o') : elimO o F = elimO o' F := by rw [e ()]
@[congr] theorem guarded_congr {v v' : PV} {w : Bool} {a b : Prop} (e : ∀ _ : Unit, v = v') : guarded v w a b = guarded v' w a b := by rw [e ()]
@[congr] theorem condP_congr {v v' : PV} {a b : Prop} (e : ∀ _ : Unit, v = v') : condP v a b = condP v' a b := by rw [e ()]
@[congr] theorem fnWp_congr {g g' : PV} {args args' : List PV} {d : Option Nat} {K : FP → St → Prop} {s s' : St} (e1 : ∀ _ : Unit, g = g') (e2 : ∀ _ : Unit, args = args') (e3 : ∀ _ : Unit, s = s') : fnWp C I D g args d K s = fnWp C I D g' args' d K s' := by rw [e1 (), e2 (), e3 ()]
@[congr] theorem callWp_congr {f : FuncId} {args args' : List PV} {d : Option Nat} {K : FP → St → Prop} {s s' : St} (e2 : ∀ _ : Unit, args = args') (e3 : ∀ _ : Unit, s = s') : callWp C I D f args d K s = callWp C I D f args' d K s' := by rw [e2 (), e3 ()]
@[congr] theorem wpLoop_congr {c : Code} {Q : Exit → St → Prop} {s s' : St} (e : ∀ _ : Unit, s = s') : wpLoop P G C I Le c Q s = wpLoop P G C I Le c Q s' := by rw [e ()]
end
end Go.PI
