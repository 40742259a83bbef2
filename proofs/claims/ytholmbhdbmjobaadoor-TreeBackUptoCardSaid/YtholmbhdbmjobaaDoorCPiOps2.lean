/-
  PI: each operation but a call does to memory what 'evalOp' says: second part.
-/
import Derived.Test.YtholmbhdbmjobaaDoorCPiOps1
import Derived.Laws.Cover3
set_option linter.unusedVariables false
set_option linter.unusedSimpArgs false
namespace Go.PI
open Go.RowKit
section
variable {P : Program} {E : Env} {G : Gl} {w : World} {A : Nat → Prop} {κ : Ka} {h : Hp} {z : Fz} {t : Tm} {ρ : Operand → Value} {o : Oper} {key : Nat} {v : PV} {h' : Hp} {rd wr : List Nat}

theorem snd_move {x : Operand} (ho : o.op = .move x ∨ o.op = .assign x) (H : HR E G w A κ h z) (hx : RV w A κ (ev G t x) (ρ x)) : Sound E G w A κ z h key (ev G t x) ((execOp ρ o).run P w) :=
  Sound.pure H (by rcases ho with ho | ho <;> simp [execOp, ho]) hx

theorem snd_pick {c a b : Operand} (ho : o.op = .pick c a b) (H : HR E G w A κ h z) (hc : RV w A κ (ev G t c) (ρ c)) (ha : RV w A κ (ev G t a) (ρ a)) (hb : RV w A κ (ev G t b) (ρ b))
    (he : evalOp P G z key (.pick c a b) t h = some (v, h', rd, wr)) : Sound E G w A κ z h' key v ((execOp ρ o).run P w) := by
  unfold evalOp at he
  simp only at he
  split at he
  · rename_i q hev
    rw [hev] at hc
    have hρ := hc.bool_inv
    cases he
    cases q
    · exact Sound.pure H (v' := ρ b) (by simp [execOp, ho, hρ, asBool]) (by simpa using hb)
    · exact Sound.pure H (v' := ρ a) (by simp [execOp, ho, hρ, asBool]) (by simpa using ha)
  · cases he

theorem snd_nilCheck {x : Operand} (ho : o.op = .nilCheck x) (H : HR E G w A κ h z) (hx : RV w A κ (ev G t x) (ρ x))
    (he : evalOp P G z key (.nilCheck x) t h = some (v, h', rd, wr)) : Sound E G w A κ z h' key v ((execOp ρ o).run P w) := by
  unfold evalOp at he
  simp only at he
  split at he
  · rename_i r i off hev
    rw [hev] at hx
    obtain ⟨m, sz, cap, hρ, hk⟩ := hx.ptr_inv
    cases he
    exact Sound.pure H (v' := ρ x) (by simp [execOp, ho, hρ]) hx
  · rename_i e off hev
    rw [hev] at hx
    obtain ⟨b, n, val, hρ, _⟩ := hx.cptr_inv
    cases he
    exact Sound.pure H (v' := ρ x) (by simp [execOp, ho, hρ]) hx
  · cases he

theorem arith_run {op : BinOp} {xt : TypeId} {k : IntKind} {a b : Int} {r : PV} (hr : arith op k a b = some r) : ∃ u, (binOp op xt (.int k a) (.int k b)).run P w = .ok u w ∧ RV w A κ r u := by
  unfold arith at hr
  split at hr
  all_goals first | (cases hr; done) | skip
  all_goals cases hr
  all_goals first
    | exact ⟨.int k _, by simp only [binOp, ne_eq, not_true_eq_false, if_false]; rfl, .data _ _ (.int _ _)⟩
    | exact ⟨.bool _, by simp only [binOp, ne_eq, not_true_eq_false, if_false]; rfl, .data _ _ (.bool _)⟩

theorem eqGuard_int {op : BinOp} {xt : TypeId} {x y : Operand} {k k' : IntKind} {a b : Int} : (eqGuard op xt x y (.int k a) (.int k' b)).run P w = .ok () w := by
  unfold eqGuard
  split <;> simp
theorem eqGuard_bool {op : BinOp} {xt : TypeId} {x y : Operand} {a b : Bool} : (eqGuard op xt x y (.bool a) (.bool b)).run P w = .ok () w := by
  unfold eqGuard
  split <;> simp

theorem equalIn_bool (d : Nat) {xt : TypeId} (hu : P.underlying xt = some .bool) (a b : Bool) : (Op.equalIn (d + 1) xt (.bool a) (.bool b)).run P w = .ok (a == b) w := by
  unfold Op.equalIn
  simp [run_underlying hu]

theorem eqFields_run (d : Nat) (xs ys : Array Value) : ∀ (fs : List Field) (k : Nat) (as bs : List PV) (r : Bool),
    (fs.zipIdx k).all (fun (f, i) => f.name != "_" && f.offset == i && (match P.underlying f.type with | some (.int _) => true | _ => false)) = true →
    (∀ i v, as[i]? = some v → ∃ u, xs[k + i]? = some u ∧ RV w A κ v u) → (∀ i v, bs[i]? = some v → ∃ u, ys[k + i]? = some u ∧ RV w A κ v u) → as.length = fs.length → eqCells as bs = some r →
    (Op.eqFields (d + 1) xs ys fs).run P w = .ok r w
  | [], k, as, bs, r, _, _, _, hl, he => by
    have : as = [] := List.eq_nil_of_length_eq_zero (by simpa using hl)
    subst this
    cases bs with
    | nil => simp [eqCells] at he; subst he; rfl
    | cons b bs => simp [eqCells] at he
  | f :: fs, k, as, bs, r, hf, hx, hy, hl, he => by
    cases as with
    | nil => simp at hl
    | cons a as =>
      cases bs with
      | nil => cases a <;> simp [eqCells] at he
      | cons b bs =>
        cases a with
        | int q n =>
          cases b with
          | int q' n' =>
            simp only [eqCells] at he
            split at he
            · rename_i hq
              subst hq
              obtain ⟨r', hr', rfl⟩ := Option.map_eq_some_iff.1 he
              simp only [List.zipIdx_cons, List.all_cons, Bool.and_eq_true, bne_iff_ne, ne_eq, beq_iff_eq] at hf
              obtain ⟨⟨⟨hn, ho⟩, hu⟩, hrest⟩ := hf
              have hu' : ∃ k', P.underlying f.type = some (.int k') := by
                split at hu
                · exact ⟨_, ‹_›⟩
                · cases hu
              obtain ⟨k', hu'⟩ := hu'
              obtain ⟨u, h1, h2⟩ := hx 0 _ rfl
              obtain ⟨u', h3, h4⟩ := hy 0 _ rfl
              have := h2.int_inv; subst this
              have := h4.int_inv; subst this
              have ih := eqFields_run d xs ys fs (k + 1) as bs r' hrest (fun i v hv => by have := hx (i + 1) v (by simpa using hv); rwa [show k + (i + 1) = k + 1 + i by omega] at this)
                (fun i v hv => by have := hy (i + 1) v (by simpa using hv); rwa [show k + (i + 1) = k + 1 + i by omega] at this) (by simpa using hl) hr'
              have hpx : (Go.part f.type xs f.offset).run P w = .ok (.int q n) w := by
                rw [ho]; simp [Go.part, isAgg, run_underlying hu', show xs[k]? = some (.int q n) from h1]
              have hpy : (Go.part f.type ys f.offset).run P w = .ok (.int q n') w := by
                rw [ho]; simp [Go.part, isAgg, run_underlying hu', show ys[k]? = some (.int q n') from h3]
              simp only [Op.eqFields, if_pos (show f.name ≠ "_" from hn), Sem.run_bind, hpx, hpy, Result.andThen_ok, run_equalIn_int w d f.type q k' n n' hu']
              by_cases hnn : (n == n') = true
              · simp [hnn, ih]
              · simp [hnn]
            · cases he
          | _ => simp [eqCells] at he
        | _ => simp [eqCells] at he

theorem tinfo_eqInts {t : TypeId} (h : (tinfo P t).eqInts = true) : ∃ fs, P.underlying t = some (.struct fs) ∧ (tinfo P t).fields.length = fs.size ∧ P.fieldsOf t = fs ∧
    (fs.toList.zipIdx 0).all (fun (f, i) => f.name != "_" && f.offset == i && (match P.underlying f.type with | some (.int _) => true | _ => false)) = true ∧ P.stoodInHeld t = false ∧ P.eqGuardType P.depth t = false := by
  unfold tinfo at h ⊢
  simp only at h ⊢
  cases hd : P.underlying t with
  | none => simp [hd] at h
  | some d =>
    cases d with
    | struct fs =>
      simp only [hd, Bool.and_eq_true, Bool.not_eq_true'] at h
      exact ⟨fs, rfl, by simp, by simp [Program.fieldsOf, hd], h.1.1, h.1.2, h.2⟩
    | _ => simp [hd] at h

theorem eqAgg_run {xt : TypeId} {as bs : List PV} {u u' : Value} {r : Bool} (hc : (tinfo P xt).eqInts = true ∧ as.length = (tinfo P xt).fields.length ∧ bs.length = (tinfo P xt).fields.length) (hx : RV w A κ (.agg as) u) (hy : RV w A κ (.agg bs) u') (he : eqCells as bs = some r) :
    ∃ xs ys, u = .agg xs ∧ u' = .agg ys ∧ (Op.equalIn 10000 xt (.agg xs) (.agg ys)).run P w = .ok r w ∧ P.eqGuardType P.depth xt = false := by
  obtain ⟨fs, h1, h2, h3, h4, h5, h6⟩ := tinfo_eqInts hc.1
  obtain ⟨xs, rfl, hl, hx', _⟩ := hx.agg_inv
  obtain ⟨ys, rfl, hl', hy', _⟩ := hy.agg_inv
  refine ⟨xs, ys, rfl, rfl, ?_, h6⟩
  rw [show (10000 : Nat) = 9999 + 1 from rfl, run_equalIn_struct w 9999 xt xs ys (by rw [h3]; exact h1) h5, h3]
  have get : ∀ (cs : Array Value) (l : List PV), cs.size = l.length → (∀ i d, l[i]? = some d → RV w A κ d (cs.getD i undef)) → ∀ i v, l[i]? = some v → ∃ u, cs[0 + i]? = some u ∧ RV w A κ v u := by
    intro cs l hl h i v hv
    have hi := (List.getElem?_eq_some_iff.1 hv).1
    have hi' : i < cs.size := by omega
    have := h i v hv
    rw [Array.getD_eq_getD_getElem?, Array.getElem?_eq_getElem hi', Option.getD_some] at this
    exact ⟨cs[i], by rw [Nat.zero_add, Array.getElem?_eq_getElem hi'], this⟩
  exact eqFields_run 9998 xs ys fs.toList 0 as bs r h4 (get xs as hl hx') (get ys bs hl' hy') (by rw [hc.2.1, h2]; simp) he

theorem isNil_spec {v r : PV} {u : Value} (hr : isNil v = some r) (hx : RV w A κ v u) : ∃ a l c, u = .slice a l c ∧ RV w A κ r (.bool a.isNone) ∧ RV w A κ (notB r) (.bool (!a.isNone)) := by
  unfold isNil at hr
  split at hr
  · cases hr
    have := hx.nilsl_inv; subst this
    exact ⟨_, _, _, rfl, .data _ _ (.bool _), .data _ _ (.bool _)⟩
  · cases hr
    obtain ⟨a, c, rfl⟩ := hx.imm_len
    exact ⟨_, _, _, rfl, .anyb _, .anyb _⟩
  · cases hr
    have := hx.imm_inv
    cases hu : u <;> rw [hu] at this <;> try (cases this; done)
    cases this with
    | imm _ sz b off cap _ => exact ⟨_, _, _, rfl, .data _ _ (.bool _), .data _ _ (.bool _)⟩
  · cases hr
    obtain ⟨m, sz, cap, a, rfl, _, hle, ha⟩ := hx.own_inv
    refine ⟨a, _, _, rfl, ?_⟩
    split
    · exact ⟨.anyb _, .anyb _⟩
    · have := ha.resolve_right (by omega)
      subst this
      exact ⟨.data _ _ (.bool _), .data _ _ (.bool _)⟩
  · cases hr

theorem eqGuard_slice {op : BinOp} {xt : TypeId} {x y : Operand} {a b : Option Addr} {l c l' c' : Nat} : (eqGuard op xt x y (.slice a l c) (.slice b l' c')).run P w = .ok () w := by
  unfold eqGuard
  split <;> simp

theorem snd_binOp {op : BinOp} {xt yt : TypeId} {x y : Operand} (ho : o.op = .binOp op xt x y yt) (H : HR E G w A κ h z) (hx : RV w A κ (ev G t x) (ρ x)) (hy : RV w A κ (ev G t y) (ρ y))
    (he : evalOp P G z key (.binOp op xt x y yt) t h = some (v, h', rd, wr)) : Sound E G w A κ z h' key v ((execOp ρ o).run P w) := by
  unfold evalOp at he
  simp only at he
  split at he
  · rename_i k a k' b hev hev'
    rw [hev] at hx; rw [hev'] at hy
    have hρ := hx.int_inv; have hρ' := hy.int_inv
    have run : ∀ {u : Value}, (binOp op xt (.int k a) (.int k' b)).run P w = .ok u w → (execOp ρ o).run P w = .ok (.value u) w := by
      intro u hu
      simp only [execOp, ho, hρ, hρ', Sem.run_bind, eqGuard_int, Result.andThen_ok, hu]
      rfl
    split at he
    · rename_i hk
      subst hk
      split at he
      · obtain ⟨hb, he⟩ := need_some he
        cases he
        exact Sound.pure H (run (by simp [binOp, Op.intDiv, hb])) (.data _ _ (.int _ _))
      · obtain ⟨hb, he⟩ := need_some he
        cases he
        exact Sound.pure H (run (by simp [binOp, Op.intDiv, hb])) (.data _ _ (.int _ _))
      · obtain ⟨hb, he⟩ := need_some he
        cases he
        have : ¬ b < 0 := by omega
        exact Sound.pure H (run (by simp only [binOp, Op.shift, if_neg this]; rfl)) (.data _ _ (.int _ _))
      · obtain ⟨hb, he⟩ := need_some he
        cases he
        have : ¬ b < 0 := by omega
        exact Sound.pure H (run (by simp only [binOp, Op.shift, if_neg this]; rfl)) (.data _ _ (.int _ _))
      · obtain ⟨r, hr, hv⟩ := map_some he
        cases hv
        obtain ⟨u, h1, h2⟩ := arith_run (P := P) (w := w) (A := A) (κ := κ) (xt := xt) hr
        exact Sound.pure H (run h1) h2
    · split at he
      · obtain ⟨hb, he⟩ := need_some he
        cases he
        have : ¬ b < 0 := by omega
        exact Sound.pure H (run (by simp only [binOp, Op.shift, if_neg this]; rfl)) (.data _ _ (.int _ _))
      · obtain ⟨hb, he⟩ := need_some he
        cases he
        have : ¬ b < 0 := by omega
        exact Sound.pure H (run (by simp only [binOp, Op.shift, if_neg this]; rfl)) (.data _ _ (.int _ _))
      · cases he
  · rename_i a b hev hev'
    rw [hev] at hx; rw [hev'] at hy
    have hρ := hx.bool_inv; have hρ' := hy.bool_inv
    have hu : (tinfo P xt).isBool = true → P.underlying xt = some .bool := by
      intro hb
      unfold tinfo at hb
      simp only at hb
      cases hd : P.underlying xt with
      | none => simp [hd] at hb
      | some d => cases d <;> simp [hd] at hb ⊢
    split at he
    · obtain ⟨hb, he⟩ := need_some he
      cases he
      refine Sound.pure H (v' := .bool (a == b)) ?_ (.data _ _ (.bool _))
      simp only [execOp, ho, hρ, hρ', Sem.run_bind, eqGuard_bool, Result.andThen_ok]
      have := equalIn_bool (P := P) (w := w) 9999 (hu hb) a b
      simp only [binOp, Op.equal, Sem.run_bind, show Op.maxDepth = 9999 + 1 from rfl, this, Result.andThen_ok]
      rfl
    · obtain ⟨hb, he⟩ := need_some he
      cases he
      refine Sound.pure H (v' := .bool (a != b)) ?_ (.data _ _ (.bool _))
      simp only [execOp, ho, hρ, hρ', Sem.run_bind, eqGuard_bool, Result.andThen_ok]
      have := equalIn_bool (P := P) (w := w) 9999 (hu hb) a b
      simp only [binOp, Op.equal, Sem.run_bind, show Op.maxDepth = 9999 + 1 from rfl, this, Result.andThen_ok]
      rfl
    · cases he
  · rename_i as bs hev hev'
    rw [hev] at hx; rw [hev'] at hy
    split at he
    · obtain ⟨hc, he⟩ := need_some he
      obtain ⟨r, hr, hv⟩ := map_some he
      cases hv
      obtain ⟨xs, ys, hρ, hρ', h1, h2⟩ := eqAgg_run hc hx hy hr
      refine Sound.pure H (v' := .bool r) ?_ (.data _ _ (.bool _))
      simp only [execOp, ho, hρ, hρ', Sem.run_bind, run_eqGuard_agg w _ xt x y xs ys h2, Result.andThen_ok, run_eql_struct, h1]
      rfl
    · obtain ⟨hc, he⟩ := need_some he
      obtain ⟨r, hr, hv⟩ := map_some he
      cases hv
      obtain ⟨xs, ys, hρ, hρ', h1, h2⟩ := eqAgg_run hc hx hy hr
      refine Sound.pure H (v' := .bool (!r)) ?_ (.data _ _ (.bool _))
      simp only [execOp, ho, hρ, hρ', Sem.run_bind, run_eqGuard_agg w _ xt x y xs ys h2, Result.andThen_ok, run_neq_struct, h1]
      rfl
    · cases he
  · rename_i hev'
    rw [hev'] at hy
    have hρ' := hy.nilsl_inv
    split at he
    · obtain ⟨hc, he⟩ := need_some he
      obtain ⟨r, hr, hv⟩ := map_some he
      cases hv
      obtain ⟨a, l, c, hρ, h1, h2⟩ := isNil_spec hr hx
      refine Sound.pure H (v' := .bool a.isNone) ?_ h1
      simp only [execOp, ho, hρ, hρ', Sem.run_bind, eqGuard_slice, Result.andThen_ok, binOp, run_equal_slice_nil w xt _ a l c (tinfo_slice hc)]
      rfl
    · obtain ⟨hc, he⟩ := need_some he
      obtain ⟨r, hr, hv⟩ := map_some he
      cases hv
      obtain ⟨a, l, c, hρ, h1, h2⟩ := isNil_spec hr hx
      refine Sound.pure H (v' := .bool (!a.isNone)) ?_ h2
      simp only [execOp, ho, hρ, hρ', Sem.run_bind, eqGuard_slice, Result.andThen_ok, run_neq_slice_nil w xt _ a l c (tinfo_slice hc)]
      rfl
    · cases he
  · cases he

theorem snd_unOp {op : UnOp} {xt : TypeId} {x : Operand} (ho : o.op = .unOp op xt x) (H : HR E G w A κ h z) (hx : RV w A κ (ev G t x) (ρ x))
    (he : evalOp P G z key (.unOp op xt x) t h = some (v, h', rd, wr)) : Sound E G w A κ z h' key v ((execOp ρ o).run P w) := by
  unfold evalOp at he
  simp only at he
  split at he
  · rename_i b hev
    rw [hev] at hx
    have hρ := hx.bool_inv
    cases he
    exact Sound.pure H (v' := .bool (!b)) (by simp [execOp, ho, hρ, Op.unary]) (.data _ _ (.bool _))
  · rename_i k n hev
    rw [hev] at hx
    have hρ := hx.int_inv
    cases he
    exact Sound.pure H (v' := .int k (k.wrap (0 - n))) (by simp [execOp, ho, hρ, Op.unary, Op.intArith]) (.data _ _ (.int _ _))
  · cases he

theorem tinfo_kind {s : TypeId} {k : IntKind} (hk : (tinfo P s).kind = some k) : P.underlying s = some (.int k) := by
  unfold tinfo at hk
  simp only at hk
  cases hd : P.underlying s with
  | none => simp [hd] at hk
  | some d => cases d <;> simp [hd] at hk ⊢; exact hk

theorem snd_convert {src dst : TypeId} {x : Operand} (ho : o.op = .convert src dst x) (H : HR E G w A κ h z) (hx : RV w A κ (ev G t x) (ρ x))
    (he : evalOp P G z key (.convert src dst x) t h = some (v, h', rd, wr)) : Sound E G w A κ z h' key v ((execOp ρ o).run P w) := by
  unfold evalOp at he
  simp only at he
  split at he
  · rename_i k0 k k1 n hs hd hev
    rw [hev] at hx
    have hρ := hx.int_inv
    cases he
    refine Sound.pure H (v' := .int k (k.wrap n)) ?_ (.data _ _ (.int _ _))
    simp [execOp, ho, hρ, convert, run_underlying (tinfo_kind hs), run_underlying (tinfo_kind hd), Conv.intToInt]
  · cases he

theorem snd_extract {x : Operand} {i : Nat} (ho : o.op = .extract x i) (H : HR E G w A κ h z) (hx : RV w A κ (ev G t x) (ρ x))
    (he : evalOp P G z key (.extract x i) t h = some (v, h', rd, wr)) : Sound E G w A κ z h' key v ((execOp ρ o).run P w) := by
  unfold evalOp at he
  simp only at he
  split at he
  · rename_i vs hev
    rw [hev] at hx
    obtain ⟨us, hρ, hl, hh⟩ := hx.tup_inv
    obtain ⟨d, hd, hv⟩ := map_some he
    cases hv
    have hi : i < us.size := by have := (List.getElem?_eq_some_iff.1 hd).1; omega
    refine Sound.pure H (v' := us.getD i undef) ?_ (hh i v hd)
    simp [execOp, ho, hρ, Instr.extract, hi, Array.getD]
  · cases he

theorem snd_makeFunc {fn : Fn} {first captured : Array Operand} (ho : o.op = .makeFunc fn first captured) (H : HR E G w A κ h z) (hx : ∀ x ∈ (first ++ captured).toList, RV w A κ (ev G t x) (ρ x)) :
    Sound E G w A κ z h key (.func fn (first.toList.map (ev G t)) (captured.toList.map (ev G t))) ((execOp ρ o).run P w) := by
  refine Sound.pure H (v' := .func fn (first.map ρ) (captured.map ρ)) (by simp [execOp, ho, Instr.makeFunc]) (.func _ _ _ _ _ (by simp) (by simp) (fun i d hd => ?_) (fun i d hd => ?_))
  · simp only [List.getElem?_map, Option.map_eq_some_iff] at hd
    obtain ⟨x, hx1, rfl⟩ := hd
    have := hx x (by simp [Array.mem_of_getElem? (by simpa using hx1 : first[i]? = some x)])
    have hi : i < first.size := by have := (List.getElem?_eq_some_iff.1 hx1).1; simpa using this
    have e : first[i] = x := by have := (List.getElem?_eq_some_iff.1 hx1).2; simpa using this
    simpa [Array.getD, hi, e] using this
  · simp only [List.getElem?_map, Option.map_eq_some_iff] at hd
    obtain ⟨x, hx1, rfl⟩ := hd
    have := hx x (by simp [Array.mem_of_getElem? (by simpa using hx1 : captured[i]? = some x)])
    have hi : i < captured.size := by have := (List.getElem?_eq_some_iff.1 hx1).1; simpa using this
    have e : captured[i] = x := by have := (List.getElem?_eq_some_iff.1 hx1).2; simpa using this
    simpa [Array.getD, hi, e] using this

theorem part_run {ty : TypeId} {cs : List PV} {vs : Array Value} {off : Nat} {v0 : PV} {d : TypeDesc} (hp : part (.agg cs) off (tinfo P ty).size (tinfo P ty).agg = some v0) (hd : P.underlying ty = some d)
    (hsz : (sizeOf ty).run P w = .ok (tinfo P ty).size w) (hl : vs.size = cs.length) (hc : ∀ i d, cs[i]? = some d → RV w A κ d (vs.getD i undef)) (h1 : ∀ i, i < cs.length → (vs.getD i undef).oneCell' = true) :
    ∃ u, (Go.part ty vs off).run P w = .ok u w ∧ RV w A κ v0 u := by
  have hag := tinfo_agg hd
  rcases part_spec hp with ⟨ha, ds, rfl, hl', hds⟩ | ⟨ha, hn, he⟩
  · have hin : ∀ j, j < ds.length → off + j < vs.size := fun j hj => by
      have := hds j ds[j] (List.getElem?_eq_getElem hj)
      have := (List.getElem?_eq_some_iff.1 this).1
      simp at this; omega
    refine ⟨.agg (vs.extract off (off + (tinfo P ty).size)), ?_, .agg _ _ ?_ (fun j d hj => ?_) (fun j hj => ?_)⟩
    · simp [Go.part, hag, ha, hsz]
    · simp
      rcases Nat.eq_zero_or_pos ds.length with h0 | h0
      · omega
      · have := hin (ds.length - 1) (by omega); omega
    · have hj' := (List.getElem?_eq_some_iff.1 hj).1
      have h2 := hc _ _ (hds j d hj)
      have h3 := hin j hj'
      have h4 : j < min (off + (tinfo P ty).size) vs.size - off := by omega
      have e : (vs.extract off (off + (tinfo P ty).size)).getD j undef = vs.getD (off + j) undef := by
        simp [Array.getD, h3, h4]
      rw [e]; exact h2
    · have h3 := hin j hj
      have h4 : j < min (off + (tinfo P ty).size) vs.size - off := by omega
      have e : (vs.extract off (off + (tinfo P ty).size)).getD j undef = vs.getD (off + j) undef := by
        simp [Array.getD, h3, h4]
      rw [e]; exact h1 _ (by omega)
  · have h3 : off < vs.size := by have := (List.getElem?_eq_some_iff.1 he).1; simp at this; omega
    refine ⟨vs.getD off undef, ?_, hc _ _ he⟩
    simp [Go.part, hag, ha, h3, Array.getD]

theorem snd_field {s : TypeId} {x : Operand} {f : Nat} (ho : o.op = .field s x f) (H : HR E G w A κ h z) (hx : RV w A κ (ev G t x) (ρ x))
    (he : evalOp P G z key (.field s x f) t h = some (v, h', rd, wr)) : Sound E G w A κ z h' key v ((execOp ρ o).run P w) := by
  unfold evalOp at he
  simp only at he
  split at he
  · rename_i off ty n cs hf hev
    rw [hev] at hx
    obtain ⟨vs, hρ, hl, hc, h1⟩ := hx.agg_inv
    obtain ⟨v0, hp, hv⟩ := map_some he
    cases hv
    obtain ⟨fs, fd, g1, g2, g3, g4, g5⟩ := tinfo_fields hf
    subst g3 g4 g5
    have hz : (tinfo P fd.type).size ≠ 0 ∨ (tinfo P fd.type).agg = true := by
      rcases part_spec hp with ⟨h, _⟩ | ⟨_, h, _⟩
      · exact Or.inr h
      · left; omega
    have hd : ∃ d i, P.underlying fd.type = some d ∧ P.info? fd.type = some i := by
      rcases hz with hz | hz
      · obtain ⟨i, d, h1, h, _⟩ := tinfo_size hz; exact ⟨d, i, h, h1⟩
      · unfold tinfo at hz; simp only at hz
        cases hd : P.underlying fd.type with
        | none => simp [hd] at hz
        | some d =>
          unfold Program.underlying at hd
          cases hi : P.info? fd.type with
          | none => simp [hi] at hd
          | some i => exact ⟨d, i, rfl, rfl⟩
    obtain ⟨d, i, hd, hi⟩ := hd
    have hsz : (sizeOf fd.type).run P w = .ok (tinfo P fd.type).size w := by simp [sizeOf, typeInfo, hi, tinfo, hd, Program.cellsOf]
    obtain ⟨u, q1, q2⟩ := part_run (w := w) hp hd hsz hl hc h1
    refine Sound.pure H (v' := u) ?_ q2
    simp [execOp, ho, hρ, Instr.field, run_underlying g1, g2, asAgg, q1]
  · cases he

theorem intOf_run {k : IntKind} {n : Int} : (asIntOf (.int k n)).run P w = .ok (k, n) w := rfl

theorem sliceBound_run {k : IntKind} {i : Int} {y : Nat} {code : BoundsCode} (h0 : 0 ≤ i) (h1 : i ≤ y) : (Instr.sliceBound (.int k i) y code).run P w = .ok i.toNat w := by
  simp [Instr.sliceBound, asIntOf, h0, h1]

/-- The bounds of a slice expression without a third index. -/
theorem sliceBounds_run {len cap : Nat} {lo hi : Option Operand} {a b : Int} (hlo : lo = none ∧ a = 0 ∨ ∃ x k, lo = some x ∧ ρ x = .int k a) (hhi : hi = none ∧ b = len ∨ ∃ x k, hi = some x ∧ ρ x = .int k b)
    (h0 : 0 ≤ a) (h1 : a ≤ b) (h2 : b ≤ cap) : (Instr.sliceBounds true len cap (lo.map ρ) (hi.map ρ) none).run P w = .ok (a.toNat, b.toNat, cap) w := by
  have hb : (0 : Int) ≤ b := by omega
  have ha' : a ≤ (b.toNat : Nat) := by omega
  rcases hlo with ⟨rfl, rfl⟩ | ⟨x, k, rfl, hx⟩ <;> rcases hhi with ⟨rfl, rfl⟩ | ⟨y, k', rfl, hy⟩
  · simp [Instr.sliceBounds]
  · simp [Instr.sliceBounds, hy, sliceBound_run hb h2]
  · simp at ha'
    simp [Instr.sliceBounds, hx, sliceBound_run h0 ha']
  · simp [Instr.sliceBounds, hx, hy, sliceBound_run hb h2, sliceBound_run h0 ha']

theorem lo_spec {lo : Option Operand} {a : Int} (hlo : (match lo with | none => some 0 | some o => match ev G t o with | .int _ n => some n | _ => none) = some a) (hr : ∀ x, lo = some x → RV w A κ (ev G t x) (ρ x)) :
    lo = none ∧ a = 0 ∨ ∃ x k, lo = some x ∧ ρ x = .int k a := by
  cases lo with
  | none => left; simp at hlo; exact ⟨rfl, hlo.symm⟩
  | some x =>
    right
    simp only at hlo
    split at hlo
    · rename_i k n hev
      have := hr x rfl
      rw [hev] at this
      cases hlo
      exact ⟨x, k, rfl, this.int_inv⟩
    · cases hlo
theorem hi_spec {hi : Option Operand} {len : Nat} {a : Int} (hhi : (match hi with | none => some (len : Int) | some o => match ev G t o with | .int _ n => some n | _ => none) = some a) (hr : ∀ x, hi = some x → RV w A κ (ev G t x) (ρ x)) :
    hi = none ∧ a = len ∨ ∃ x k, hi = some x ∧ ρ x = .int k a := by
  cases hi with
  | none => left; simp at hhi; exact ⟨rfl, hhi.symm⟩
  | some x =>
    right
    simp only at hhi
    split at hhi
    · rename_i k n hev
      have := hr x rfl
      rw [hev] at this
      cases hhi
      exact ⟨x, k, rfl, this.int_inv⟩
    · cases hhi

theorem RD.sub {es : List PV} {sz b off cap : Nat} {val : Nat → Nat → Value} {i j : Nat} (hA : A b) (hcap : j - i ≤ cap) (hsz : ∀ e ∈ es, e.cells.length = sz)
    (hc : ∀ i c, i < es.length → c < sz → w.cell? ⟨b, off + i * sz + c, none⟩ = some (val i c) ∧ (val i c).oneCell' = true)
    (h : ∀ i e, es[i]? = some e → ∀ c d, e.cells[c]? = some d → RD w A d (val i c)) (hj : j ≤ es.length) (hij : i ≤ j) :
    RD w A (.imm ((es.take j).drop i)) (.slice (some ⟨b, off + i * sz, none⟩) (j - i) cap) := by
  have hl : ((es.take j).drop i).length = j - i := by simp; omega
  rw [← hl]
  have hget : ∀ k, k < j - i → ((es.take j).drop i)[k]? = es[i + k]? := fun k hk => by
    rw [List.getElem?_drop, List.getElem?_take_of_lt (by omega)]
  refine .imm _ sz b (off + i * sz) cap (fun k c => val (i + k) c) hA (by omega) (fun e he => hsz e (List.mem_of_mem_take (List.mem_of_mem_drop he))) (fun k c hk hc' => ?_) (fun k e hk c d hd => ?_)
  · have := hc (i + k) c (by omega) hc'
    rw [Nat.add_mul, ← Nat.add_assoc] at this
    exact this
  · have hk' := (List.getElem?_eq_some_iff.1 hk).1
    rw [hget k (by omega)] at hk
    exact h _ _ hk c d hd

theorem snd_slice {ty : TypeId} {x : Operand} {lo hi : Option Operand} (ho : o.op = .slice ty x lo hi none) (H : HR E G w A κ h z) (hx : RV w A κ (ev G t x) (ρ x)) (hlo : ∀ y, lo = some y → RV w A κ (ev G t y) (ρ y)) (hhi : ∀ y, hi = some y → RV w A κ (ev G t y) (ρ y))
    (he : evalOp P G z key (.slice ty x lo hi none) t h = some (v, h', rd, wr)) : Sound E G w A κ z h' key v ((execOp ρ o).run P w) := by
  unfold evalOp at he
  simp only at he
  have run : ∀ {ad : Option Addr} {len cap : Nat} {a b : Int}, (tinfo P ty).isSlice = true → (P.cellsOf (tinfo P ty).elem ≠ 0) → ρ x = .slice ad len cap →
      (lo = none ∧ a = 0 ∨ ∃ x k, lo = some x ∧ ρ x = .int k a) → (hi = none ∧ b = len ∨ ∃ x k, hi = some x ∧ ρ x = .int k b) → 0 ≤ a → a ≤ b → b ≤ cap →
      (execOp ρ o).run P w = .ok (.value (.slice (if cap = a.toNat then ad else ad.map (·.add (a.toNat * P.cellsOf (tinfo P ty).elem))) (b.toNat - a.toNat) (cap - a.toNat))) w := by
    intro ad len cap a b hs hz hρ h1 h2 h3 h4 h5
    have hu := tinfo_slice hs
    have hb := sliceBounds_run (P := P) (w := w) (ρ := ρ) (len := len) (cap := cap) h1 h2 h3 h4 h5
    have hsz := sizeOf_run (w := w) hz
    simp [execOp, ho, hρ, Instr.sliceAt, Instr.slice, run_underlying hu, hb, hsz]
  split at he
  · rename_i es hev
    rw [hev] at hx
    split at he
    · rename_i a b hla hhb
      have hla' := lo_spec hla hlo
      have hhb' := hi_spec hhb hhi
      obtain ⟨⟨hs, hall, h0, h1, h2, hne⟩, he⟩ := need_some he
      cases he
      have hz := tinfo_cells hne
      have hx' := hx.imm_inv
      cases hρ : ρ x <;> rw [hρ] at hx' <;> try (cases hx'; done)
      rename_i ad len cap
      cases hx' with
      | imm0 =>
        simp at h2
        have e1 : a = 0 := by omega
        have e2 : b = 0 := by omega
        subst e1 e2
        have := run hs (by rw [hz]; exact hne) hρ hla' hhb' (Int.le_refl 0) (Int.le_refl 0) (by omega)
        exact Sound.pure H this (.data _ _ (.imm0 _ _))
      | imm _ sz bk off _ val hA hcap hsz' hc hd =>
        have := run hs (by rw [hz]; exact hne) hρ hla' hhb' h0 h1 (by omega)
        refine Sound.pure H this (.data _ _ ?_)
        by_cases he0 : es = []
        · subst he0
          simp at h2
          have e2 : b.toNat - a.toNat = 0 := by omega
          rw [e2]
          have e3 : (List.drop a.toNat (List.take b.toNat ([] : List PV))) = [] := by simp
          rw [e3]
          exact .imm0 _ _
        have hzs : P.cellsOf (tinfo P ty).elem = sz := by
          obtain ⟨e, l, rfl⟩ := List.exists_cons_of_ne_nil he0
          rw [hz, ← hall e (by simp), hsz' e (by simp)]
        rw [hzs]
        have hsub := RD.sub (w := w) (A := A) (cap := cap - a.toNat) (i := a.toNat) (j := b.toNat) hA (by omega) hsz' hc hd (by omega) (by omega)
        by_cases hca : cap = a.toNat
        · have e2 : b.toNat - a.toNat = 0 := by omega
          have e3 : (List.drop a.toNat (List.take b.toNat es)) = [] := List.drop_eq_nil_of_le (by simp; omega)
          rw [e2, e3]
          exact .imm0 _ _
        · rw [if_neg hca]
          simp only [Option.map_some, add_eq]
          exact hsub
    · cases he
  · rename_i r off len hev
    rw [hev] at hx
    split at he
    · rename_i a b hla hhb
      have hla' := lo_spec hla hlo
      have hhb' := hi_spec hhb hhi
      split at he
      · rename_i k hk
        obtain ⟨⟨hs, hsz, h0, h1, h2, hne⟩, he⟩ := need_some he
        cases he
        have hz := tinfo_cells hne
        obtain ⟨m, sz, cap, ad, hρ, hκ, hle, ha⟩ := hx.own_inv
        obtain ⟨m', cap', hκ', _⟩ := H.blk r k hk (by rw [hκ]; simp)
        rw [hκ] at hκ'; cases hκ'
        have := run hs (by rw [hz]; exact hne) hρ hla' hhb' h0 h1 (by omega)
        refine Sound.pure H this ?_
        rw [hz, ← hsz, Nat.sub_sub]
        refine .own r (off + a.toNat) (b.toNat - a.toNat) m k.sz cap _ hκ (by omega) ?_
        by_cases hca : cap - off = a.toNat
        · right; omega
        · left
          rw [if_neg hca]
          rcases ha with rfl | ha
          · simp only [Option.map_some, add_eq, Nat.add_mul]
          · omega
      · cases he
    · cases he
  · cases he

end
end Go.PI
