/-
  PI: a region that draws its order: whatever order is picked, it comes to what the order of the text comes to. At the level of PI's states.
-/
import Derived.Test.YtholmbhdbmjobaaDoorCPiStep
import Derived.Still
import Derived.OrdersIn
set_option linter.unusedVariables false
set_option linter.unusedSimpArgs false
namespace Go.PI
open Go.RowKit

/-- Is the operation carried out? 'none': its guard says nothing that is known. -/
def wants (ops : List Oper) (o : Oper) (t : Tm) : Option Bool :=
  match o.guard with
  | none => some true
  | some (j, want) => match (ops[j]?).bind (·.dst) with
    | some d => (match t d with
      | .bool b => some (b == want)
      | .tup [] => some false
      | _ => none)
    | none => none

/-- One operation of a region, its key being 'base' + its place. -/
def DStep (P : Program) (G : Gl) (C : Contracts) (ops : List Oper) (base : Nat) (fps : Nat → FP) (i : Nat) (s s' : St) : Prop :=
  ∃ o, ops[i]? = some o ∧
    ((wants ops o s.t = some true ∧ ∃ v h' z', opD P G C (base + i) o s (fps i) v h' z' ∧ s' = put { s with h := h', z := z' } o.dst v) ∨
     (wants ops o s.t = some false ∧ s' = put s o.dst (.tup [])))

section
variable {P : Program} {G : Gl} {C : Contracts}

theorem contains_false {l : List Nat} {k : Nat} : l.contains k = false ↔ k ∉ l := by simp [List.contains_eq_mem]

/-- A heap with what an operation has written laid over it. -/
def over (wr : List Nat) (h' h : Hp) : Hp := fun r => if wr.contains r then h' r else h r

theorem ev_congr {t t2 : Tm} {x : Operand} (h : ∀ i, x = .tmp i → t2 i = t i) : ev G t2 x = ev G t x := by
  cases x with
  | tmp i => exact h i rfl
  | const v => rfl
  | global g => rfl
  | func f => rfl

theorem over_nil (h' h : Hp) : over [] h' h = h := rfl
theorem over_one (h h2 : Hp) (k : Nat) (b : Option Blk) : over [k] (hset h k b) h2 = hset h2 k b := by
  funext r
  simp only [over, hset, List.contains_cons, List.contains_nil, Bool.or_false, beq_iff_eq]
  split <;> simp_all
theorem over_two (h h2 : Hp) (r k : Nat) (b : Option Blk) : over [r, k] (hset (hset h r none) k b) h2 = hset (hset h2 r none) k b := by
  funext q
  simp only [over, hset, List.contains_cons, List.contains_nil, Bool.or_false, Bool.or_eq_true, beq_iff_eq]
  by_cases h1 : q = k
  · simp [h1]
  · by_cases h2 : q = r <;> simp [h1, h2]

theorem need_eq {c : Prop} [Decidable c] {x : Res} (h : c) : need c x = x := by simp [need, h]

/-- What an operation reads decides what it does. -/
structure Loc (P : Program) (G : Gl) (z : Fz) (key : Nat) (op : Op) (t : Tm) (h : Hp) (v : PV) (h' : Hp) (rd wr : List Nat) : Prop where
  out : ∀ r, r ∉ wr → h' r = h r
  fresh : ∀ r, r ≠ key → h r = none → h' r = none
  loc : ∀ (t2 : Tm) (h2 : Hp) (z2 : Fz), (∀ x ∈ op.operands.toList, ev G t2 x = ev G t x) → (∀ r ∈ rd, h2 r = h r) → (∀ r ∈ wr, z2 r = z r) → evalOp P G z2 key op t2 h2 = some (v, over wr h' h2, rd, wr)

theorem Loc.same {z : Fz} {key : Nat} {op : Op} {t : Tm} {h : Hp} {v : PV} {rd : List Nat}
    (hl : ∀ (t2 : Tm) (h2 : Hp) (z2 : Fz), (∀ x ∈ op.operands.toList, ev G t2 x = ev G t x) → (∀ r ∈ rd, h2 r = h r) → evalOp P G z2 key op t2 h2 = some (v, h2, rd, [])) : Loc P G z key op t h v h rd [] :=
  ⟨fun _ _ => rfl, fun _ _ h => h, fun t2 h2 z2 h1 h3 _ => by rw [over_nil]; exact hl t2 h2 z2 h1 h3⟩
theorem Loc.new {z : Fz} {key : Nat} {op : Op} {t : Tm} {h : Hp} {v : PV} {rd : List Nat} {b : Option Blk}
    (hl : ∀ (t2 : Tm) (h2 : Hp) (z2 : Fz), (∀ x ∈ op.operands.toList, ev G t2 x = ev G t x) → (∀ r ∈ rd, h2 r = h r) → evalOp P G z2 key op t2 h2 = some (v, hset h2 key b, rd, [key])) : Loc P G z key op t h v (hset h key b) rd [key] :=
  ⟨fun r hr => by have : r ≠ key := by simpa using hr
                  simp [hset, this], fun r hr hn => by simp [hset, hr, hn], fun t2 h2 z2 h1 h3 _ => by rw [over_one]; exact hl t2 h2 z2 h1 h3⟩

theorem srcOf_local {h h2 : Hp} {v : PV} {es : List PV} {ks : List Nat} (hs : srcOf h v = some (es, ks)) (hk : ∀ r ∈ ks, h2 r = h r) : srcOf h2 v = some (es, ks) := by
  unfold srcOf at hs ⊢
  split at hs
  · exact hs
  · exact hs
  · rename_i r off len
    split at hs
    · rename_i b hb
      split at hs
      · rename_i hle
        cases hs
        have := hk r (by simp)
        simp only [this, hb, if_pos hle]
      · cases hs
    · cases hs
  · cases hs

def sliceWith (P : Program) (ty : TypeId) (x : PV) (l1 l2 : Bool) (A B : Option Int) (h : Hp) : Res :=
  let size := (tinfo P (tinfo P ty).elem).size
  match x with
  | .imm es => (match (if l1 then A else some 0), (if l2 then B else some (es.length : Int)) with
    | some a, some b => need ((tinfo P ty).isSlice = true ∧ (∀ e ∈ es, e.cells.length = size) ∧ 0 ≤ a ∧ a ≤ b ∧ b ≤ es.length ∧ size ≠ 0) (some (.imm ((es.take b.toNat).drop a.toNat), h, [], []))
    | _, _ => none)
  | .own r off len => (match (if l1 then A else some 0), (if l2 then B else some (len : Int)) with
    | some a, some b => (match h r with
      | some k => need ((tinfo P ty).isSlice = true ∧ k.sz = size ∧ 0 ≤ a ∧ a ≤ b ∧ b ≤ len ∧ size ≠ 0) (some (.own r (off + a.toNat) (b.toNat - a.toNat), h, [r], []))
      | none => none)
    | _, _ => none)
  | _ => none

theorem evalOp_local {z : Fz} {key : Nat} {op : Op} {t : Tm} {h h' : Hp} {v : PV} {rd wr : List Nat} (he : evalOp P G z key op t h = some (v, h', rd, wr)) : Loc P G z key op t h v h' rd wr := by
  cases op
  case move x => unfold evalOp at he; cases he; exact .same fun t2 h2 z2 h1 _ => by simp only [evalOp, h1 x (by simp [Op.operands])]
  case assign x => unfold evalOp at he; cases he; exact .same fun t2 h2 z2 h1 _ => by simp only [evalOp, h1 x (by simp [Op.operands])]
  case pick c a b =>
    unfold evalOp at he
    dsimp only at he
    split at he
    · rename_i q hq
      cases he
      exact .same fun t2 h2 z2 h1 _ => by simp only [evalOp, h1 c (by simp [Op.operands]), h1 a (by simp [Op.operands]), h1 b (by simp [Op.operands]), hq]
    · cases he
  case alloc e =>
    unfold evalOp at he
    dsimp only at he
    obtain ⟨hz, he⟩ := need_some he
    cases he
    exact .new fun t2 h2 z2 h1 _ => by simp only [evalOp, need_eq hz]
  case box e x =>
    unfold evalOp at he
    dsimp only at he
    obtain ⟨hz, he⟩ := need_some he
    cases he
    exact .new fun t2 h2 z2 h1 _ => by simp only [evalOp, h1 x (by simp [Op.operands]), need_eq hz]
  case build ty parts =>
    have hp : ∀ t2 : Tm, (∀ x ∈ (Op.build ty parts).operands.toList, ev G t2 x = ev G t x) → (parts.toList.map fun (j, x) => (j, ev G t2 x)) = parts.toList.map fun (j, x) => (j, ev G t x) := fun t2 h1 => by
      refine List.map_congr_left fun q hq => ?_
      simp only [h1 q.2 (by simp only [Op.operands, List.mem_map]; exact ⟨q, hq, rfl⟩)]
    unfold evalOp at he
    dsimp only at he
    split at he
    · rename_i hel
      obtain ⟨hz, he⟩ := need_some he
      split at he
      · rename_i cs hf
        cases he
        exact .same fun t2 h2 z2 h1 _ => by simp only [evalOp, hel, need_eq hz, hp t2 h1, hf]
      · cases he
    · rename_i hel
      obtain ⟨hz, he⟩ := need_some he
      split at he
      · rename_i cs hf
        cases he
        exact .same fun t2 h2 z2 h1 _ => by
          simp only [evalOp, hel, need_eq hz, hp t2 h1, hf]
      · cases he
  case buildSlice ty len parts =>
    have hp : ∀ t2 : Tm, (∀ x ∈ (Op.buildSlice ty len parts).operands.toList, ev G t2 x = ev G t x) → (parts.toList.map fun (j, x) => (j, ev G t2 x)) = parts.toList.map fun (j, x) => (j, ev G t x) := fun t2 h1 => by
      refine List.map_congr_left fun q hq => ?_
      simp only [h1 q.2 (by simp only [Op.operands, List.mem_map]; exact ⟨q, hq, rfl⟩)]
    unfold evalOp at he
    dsimp only at he
    obtain ⟨hz, he⟩ := need_some he
    split at he
    · rename_i cs hf
      cases he
      exact .new fun t2 h2 z2 h1 _ => by simp only [evalOp, need_eq hz, hp t2 h1, hf]
    · cases he
  case load ty x =>
    unfold evalOp at he
    dsimp only at he
    split at he
    · rename_i r j off hx
      split at he
      · rename_i b hb
        split at he
        · rename_i e hj
          obtain ⟨u, hu, hv⟩ := map_some he
          cases hv
          exact .same fun t2 h2 z2 h1 h3 => by simp only [evalOp, h1 x (by simp [Op.operands]), hx, h3 r (by simp), hb, hj, hu, Option.map_some]
        · cases he
      · cases he
    · rename_i e off hx
      obtain ⟨u, hu, hv⟩ := map_some he
      cases hv
      exact .same fun t2 h2 z2 h1 h3 => by simp only [evalOp, h1 x (by simp [Op.operands]), hx, hu, Option.map_some]
    · cases he
  case store ty x y =>
    unfold evalOp at he
    dsimp only at he
    split at he
    · rename_i r j off hx
      split at he
      · rename_i b hb
        split at he
        · rename_i e hj
          obtain ⟨hn, he⟩ := need_some he
          obtain ⟨u, hu, hv⟩ := map_some he
          cases hv
          refine ⟨fun q hq => ?_, fun q hq hn => ?_, fun t2 h2 z2 h1 h3 h4 => ?_⟩
          · have : q ≠ r := by simpa using hq
            simp [hset, this]
          · have : q ≠ r := fun e => by rw [e, hb] at hn; cases hn
            simp [hset, this, hn]
          · rw [over_one]
            have hz := h4 r (by simp)
            simp only [evalOp, h1 x (by simp [Op.operands]), h1 y (by simp [Op.operands]), hx, h3 r (by simp), hb, hj, hu, Option.map_some]
            exact need_eq ⟨by rw [hz]; exact hn.1, hn.2⟩
        · cases he
      · cases he
    · cases he
  case nilCheck x =>
    unfold evalOp at he
    dsimp only at he
    split at he
    · rename_i r i off hx
      cases he
      exact .same fun t2 h2 z2 h1 _ => by simp only [evalOp, h1 x (by simp [Op.operands]), hx]
    · rename_i e off hx
      cases he
      exact .same fun t2 h2 z2 h1 _ => by simp only [evalOp, h1 x (by simp [Op.operands]), hx]
    · cases he
  case binOp op xt x y yt =>
    have e : ∀ (t2 : Tm) (h2 : Hp) (z2 : Fz), (∀ q ∈ (Op.binOp op xt x y yt).operands.toList, ev G t2 q = ev G t q) → evalOp P G z2 key (.binOp op xt x y yt) t2 h2 = (evalOp P G z key (.binOp op xt x y yt) t h).map fun q => (q.1, h2, q.2.2) := by
      intro t2 h2 z2 h1
      simp only [evalOp, h1 x (by simp [Op.operands]), h1 y (by simp [Op.operands]), need]
      generalize ev G t x = a
      generalize ev G t y = b
      cases b <;> cases a <;> dsimp only <;> (repeat' split) <;> first | rfl | (simp [Option.map_map, Function.comp_def]; done)
    have hh : h' = h ∧ rd = [] ∧ wr = [] := by
      have := e t (fun _ => none) z (fun _ _ => rfl)
      have := e t h z (fun _ _ => rfl)
      unfold evalOp at he
      dsimp only at he
      repeat' (split at he)
      all_goals first
        | (cases he; done)
        | (cases he; exact ⟨rfl, rfl, rfl⟩)
        | (obtain ⟨_, he⟩ := need_some he; cases he; exact ⟨rfl, rfl, rfl⟩)
        | (obtain ⟨_, he⟩ := need_some he; obtain ⟨x, hx, hv⟩ := map_some he; cases hv; exact ⟨rfl, rfl, rfl⟩)
        | (obtain ⟨x, hx, hv⟩ := map_some he; cases hv; exact ⟨rfl, rfl, rfl⟩)
    obtain ⟨rfl, rfl, rfl⟩ := hh
    exact .same fun t2 h2 z2 h1 _ => by rw [e t2 h2 z2 h1, he]; rfl
  case unOp op xt x =>
    unfold evalOp at he
    dsimp only at he
    split at he
    · rename_i b hx
      cases he
      exact .same fun t2 h2 z2 h1 _ => by simp only [evalOp, h1 x (by simp [Op.operands]), hx]
    · rename_i k n hx
      cases he
      exact .same fun t2 h2 z2 h1 _ => by simp only [evalOp, h1 x (by simp [Op.operands]), hx]
    · cases he
  case convert a b x =>
    unfold evalOp at he
    dsimp only at he
    split at he
    · rename_i k0 k k1 n hs hd hx
      cases he
      exact .same fun t2 h2 z2 h1 _ => by simp only [evalOp, h1 x (by simp [Op.operands]), hx, hs, hd]
    · cases he
  case makeFunc fn first captured =>
    unfold evalOp at he
    cases he
    refine .same fun t2 h2 z2 h1 _ => ?_
    have e1 : first.toList.map (ev G t2) = first.toList.map (ev G t) := List.map_congr_left fun q hq => h1 q (by simp [Op.operands]; exact Or.inl (by simpa using hq))
    have e2 : captured.toList.map (ev G t2) = captured.toList.map (ev G t) := List.map_congr_left fun q hq => h1 q (by simp [Op.operands]; exact Or.inr (by simpa using hq))
    simp only [evalOp, e1, e2]
  case makeSlice ty l c =>
    unfold evalOp at he
    dsimp only at he
    split at he
    · rename_i n m hl hc
      obtain ⟨hn, he⟩ := need_some he
      cases he
      exact .new fun t2 h2 z2 h1 _ => by simp only [evalOp, h1 l (by simp [Op.operands]), h1 c (by simp [Op.operands]), hl, hc, need_eq hn]
    · cases he
  case slice ty x lo hi mx =>
    cases mx with
    | some m => simp [evalOp] at he
    | none =>
      have fin : ∀ (A B : Option Int), (∀ t2 : Tm, (∀ q ∈ (Op.slice ty x lo hi none).operands.toList, ev G t2 q = ev G t q) → ∀ (h2 : Hp) (z2 : Fz), evalOp P G z2 key (.slice ty x lo hi none) t2 h2 = sliceWith P ty (ev G t x) (lo.isSome) (hi.isSome) A B h2) →
          Loc P G z key (.slice ty x lo hi none) t h v h' rd wr := by
        intro A B heq
        rw [heq t (fun _ _ => rfl) h z] at he
        unfold sliceWith at he
        split at he
        · rename_i es hx
          split at he
          · rename_i a b ha hb
            obtain ⟨hn, he⟩ := need_some he
            cases he
            refine .same fun t2 h2 z2 h1 _ => ?_
            rw [heq t2 h1 h2 z2]
            simp only [sliceWith, hx, ha, hb, need_eq hn]
          · cases he
        · rename_i r off len hx
          split at he
          · rename_i a b ha hb
            split at he
            · rename_i k hk
              obtain ⟨hn, he⟩ := need_some he
              cases he
              refine .same fun t2 h2 z2 h1 h3 => ?_
              rw [heq t2 h1 h2 z2]
              simp only [sliceWith, hx, ha, hb, h3 r (by simp), hk, need_eq hn]
            · cases he
          · cases he
        · cases he
      rcases lo with _ | lo <;> rcases hi with _ | hi
      · exact fin none none fun t2 h1 h2 z2 => by
          simp only [evalOp, h1 x (by simp [Op.operands])]
          generalize ev G t x = vx
          cases vx <;> rfl
      · exact fin none (match ev G t hi with | .int _ n => some n | _ => none) fun t2 h1 h2 z2 => by
          simp only [evalOp, h1 x (by simp [Op.operands]), h1 hi (by simp [Op.operands])]
          generalize ev G t x = vx
          cases vx <;> rfl
      · exact fin (match ev G t lo with | .int _ n => some n | _ => none) none fun t2 h1 h2 z2 => by
          simp only [evalOp, h1 x (by simp [Op.operands]), h1 lo (by simp [Op.operands])]
          generalize ev G t x = vx
          cases vx <;> rfl
      · exact fin (match ev G t lo with | .int _ n => some n | _ => none) (match ev G t hi with | .int _ n => some n | _ => none) fun t2 h1 h2 z2 => by
          simp only [evalOp, h1 x (by simp [Op.operands]), h1 lo (by simp [Op.operands]), h1 hi (by simp [Op.operands])]
          generalize ev G t x = vx
          cases vx <;> rfl
  case fieldAddr s x f =>
    unfold evalOp at he
    dsimp only at he
    split at he
    · rename_i o ty n r j off hf hx
      obtain ⟨hn, he⟩ := need_some he
      cases he
      exact .same fun t2 h2 z2 h1 _ => by simp only [evalOp, h1 x (by simp [Op.operands]), hx, hf, need_eq hn]
    · rename_i o ty n e off hf hx
      obtain ⟨hn, he⟩ := need_some he
      cases he
      exact .same fun t2 h2 z2 h1 _ => by simp only [evalOp, h1 x (by simp [Op.operands]), hx, hf, need_eq hn]
    · cases he
  case field s x f =>
    unfold evalOp at he
    dsimp only at he
    split at he
    · rename_i o ty n cs hf hx
      obtain ⟨u, hu, hv⟩ := map_some he
      cases hv
      exact .same fun t2 h2 z2 h1 _ => by simp only [evalOp, h1 x (by simp [Op.operands]), hx, hf, hu, Option.map_some]
    · cases he
  case indexAddr ty x ix =>
    unfold evalOp at he
    dsimp only at he
    split at he
    · rename_i es k n hx hi
      obtain ⟨hn, he⟩ := need_some he
      split at he
      · rename_i e hel
        obtain ⟨hn', he⟩ := need_some he
        cases he
        exact .same fun t2 h2 z2 h1 _ => by simp only [evalOp, h1 x (by simp [Op.operands]), h1 ix (by simp [Op.operands]), hx, hi, need_eq hn, hel, need_eq hn']
      · cases he
    · rename_i r off len k n hx hi
      obtain ⟨hn, he⟩ := need_some he
      split at he
      · rename_i b hb
        obtain ⟨hn', he⟩ := need_some he
        cases he
        exact .same fun t2 h2 z2 h1 h3 => by simp only [evalOp, h1 x (by simp [Op.operands]), h1 ix (by simp [Op.operands]), hx, hi, need_eq hn, h3 r (by simp), hb, need_eq hn']
      · cases he
    · rename_i e off k n hx hi
      obtain ⟨hn, he⟩ := need_some he
      cases he
      exact .same fun t2 h2 z2 h1 _ => by simp only [evalOp, h1 x (by simp [Op.operands]), h1 ix (by simp [Op.operands]), hx, hi, need_eq hn]
    · rename_i r j off k n hx hi
      obtain ⟨hn, he⟩ := need_some he
      cases he
      exact .same fun t2 h2 z2 h1 _ => by simp only [evalOp, h1 x (by simp [Op.operands]), h1 ix (by simp [Op.operands]), hx, hi, need_eq hn]
    · cases he
  case index ty x ix =>
    unfold evalOp at he
    dsimp only at he
    split at he
    · rename_i cs k n hx hi
      obtain ⟨hn, he⟩ := need_some he
      obtain ⟨u, hu, hv⟩ := map_some he
      cases hv
      exact .same fun t2 h2 z2 h1 _ => by simp only [evalOp, h1 x (by simp [Op.operands]), h1 ix (by simp [Op.operands]), hx, hi, need_eq hn, hu, Option.map_some]
    · rename_i s k n hx hi
      obtain ⟨hn, he⟩ := need_some he
      obtain ⟨u, hu, hv⟩ := map_some he
      cases hv
      exact .same fun t2 h2 z2 h1 _ => by simp only [evalOp, h1 x (by simp [Op.operands]), h1 ix (by simp [Op.operands]), hx, hi, need_eq hn, hu, Option.map_some]
    · cases he
  case extract x i =>
    unfold evalOp at he
    dsimp only at he
    split at he
    · rename_i vs hx
      obtain ⟨u, hu, hv⟩ := map_some he
      cases hv
      exact .same fun t2 h2 z2 h1 _ => by simp only [evalOp, h1 x (by simp [Op.operands]), hx, hu, Option.map_some]
    · cases he
  case call c =>
    obtain ⟨callee, ⟨args⟩, ⟨tys⟩⟩ := c
    cases callee
    case value => simp [evalOp] at he
    case invoke => simp [evalOp] at he
    case builtin b =>
      cases b
      case len =>
        match args, tys, he with
        | [x], [ty], he =>
          unfold evalOp at he
          dsimp only at he
          obtain ⟨hn, he⟩ := need_some he
          split at he
          · rename_i es hx
            cases he
            exact .same fun t2 h2 z2 h1 _ => by simp only [evalOp, need_eq hn, h1 x (by simp [Op.operands, Call.operands]), hx]
          · rename_i a b len hx
            cases he
            exact .same fun t2 h2 z2 h1 _ => by simp only [evalOp, need_eq hn, h1 x (by simp [Op.operands, Call.operands]), hx]
          · rename_i hx
            cases he
            exact .same fun t2 h2 z2 h1 _ => by simp only [evalOp, need_eq hn, h1 x (by simp [Op.operands, Call.operands]), hx]
          · cases he
        | [], _, he => simp [evalOp] at he
        | _ :: _ :: _, _, he => simp [evalOp] at he
        | [_], [], he => simp [evalOp] at he
        | [_], _ :: _ :: _, he => simp [evalOp] at he
      case max =>
        match args, he with
        | [x, y], he =>
          unfold evalOp at he
          dsimp only at he
          split at he
          · rename_i k a k' b hx hy
            cases he
            exact .same fun t2 h2 z2 h1 _ => by simp only [evalOp, h1 x (by simp [Op.operands, Call.operands]), h1 y (by simp [Op.operands, Call.operands]), hx, hy]
          · cases he
        | [], he => simp [evalOp] at he
        | [_], he => simp [evalOp] at he
        | _ :: _ :: _ :: _, he => simp [evalOp] at he
      case min =>
        match args, he with
        | [x, y], he =>
          unfold evalOp at he
          dsimp only at he
          split at he
          · rename_i k a k' b hx hy
            cases he
            exact .same fun t2 h2 z2 h1 _ => by simp only [evalOp, h1 x (by simp [Op.operands, Call.operands]), h1 y (by simp [Op.operands, Call.operands]), hx, hy]
          · cases he
        | [], he => simp [evalOp] at he
        | [_], he => simp [evalOp] at he
        | _ :: _ :: _ :: _, he => simp [evalOp] at he
      case append =>
        match args, tys, he with
        | [x, y], [ty, ty2], he =>
          unfold evalOp at he
          dsimp only at he
          split at he
          · rename_i es ks hs
            obtain ⟨hn, he⟩ := need_some he
            split at he
            · rename_i hx
              obtain ⟨hn', he⟩ := need_some he
              cases he
              refine .new fun t2 h2 z2 h1 h3 => ?_
              simp only [evalOp, h1 x (by simp [Op.operands, Call.operands]), h1 y (by simp [Op.operands, Call.operands]), srcOf_local hs h3, hx, need_eq hn, need_eq hn']
            · rename_i r off len hx
              split at he
              · rename_i b hb
                obtain ⟨hn', he⟩ := need_some he
                cases he
                refine ⟨fun q hq => ?_, fun q hq hnone => ?_, fun t2 h2 z2 h1 h3 h4 => ?_⟩
                · simp only [List.mem_cons, List.not_mem_nil, or_false, not_or] at hq
                  simp [hset, hq.1, hq.2]
                · simp only [hset, if_neg hq]
                  split
                  · rfl
                  · exact hnone
                · rw [over_two]
                  have hz := h4 r (by simp)
                  simp only [evalOp, h1 x (by simp [Op.operands, Call.operands]), h1 y (by simp [Op.operands, Call.operands]), srcOf_local hs (fun q hq => h3 q (List.mem_cons_of_mem _ hq)), hx, need_eq hn, h3 r (by simp), hb]
                  exact need_eq ⟨hn'.1, hn'.2.1, hn'.2.2.1, hn'.2.2.2.1, by rw [hz]; exact hn'.2.2.2.2.1, hn'.2.2.2.2.2⟩
              · cases he
            · cases he
          · cases he
        | [], _, he => simp [evalOp] at he
        | [_], _, he => simp [evalOp] at he
        | _ :: _ :: _ :: _, _, he => simp [evalOp] at he
        | [_, _], [], he => simp [evalOp] at he
        | [_, _], [_], he => simp [evalOp] at he
        | [_, _], _ :: _ :: _ :: _, he => simp [evalOp] at he
      all_goals (simp [evalOp] at he)
  all_goals (simp [evalOp] at he)

end
end Go.PI
