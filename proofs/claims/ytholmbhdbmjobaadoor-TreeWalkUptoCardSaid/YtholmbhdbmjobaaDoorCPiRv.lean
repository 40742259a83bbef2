/-
  PI: ranges over functions, and functions that yield, by 'vc'.
-/
import Derived.Test.YtholmbhdbmjobaaDoorCPiFz
import Derived.Test.YtholmbhdbmjobaaDoorCPiYield
set_option linter.unusedVariables false
set_option linter.unusedSimpArgs false
namespace Go.PI

section
variable {P : Program} {T : Ti} {G : Gl} {n0 : Nat} {C : Contracts}

abbrev VX (P : Program) (T : Ti) (G : Gl) (C : Contracts) (n0 : Nat) : Code → (Exit → St → Prop) → St → Prop := vc P T G C (FnH P G) (LeS G, n0)

theorem vx_wp (hT : ∀ i x, T i = some x → tinfo P i = x) {n0 : Nat} {c : Code} {Q Q' : Exit → St → Prop} {s : St} (hq : ∀ e s, Q e s → Q' e s) (h : VX P T G C n0 c Q s) : wp P G C (FnH P G) (LeS G, n0) c Q' s :=
  wp_mono FnH.mono c _ _ s hq (vc_sound FnH.mono hT c _ s h)

/-- A LOOP that keeps blocks, some told as data; any contracts. -/
theorem loopX_kept (hT : ∀ i x, T i = some x → tinfo P i = x) {c : Code} {Q : Exit → St → Prop} {s : St} {ι : Type} (L : ι → List (Nat × PV)) (H : ι → List (Nat × Blk)) (Z : List Nat) (k : Nat) (Inv : ι → Prop) (μ : ι → Nat) (i0 : ι) (h0 : Inv i0) (hk : n0 ≤ k) (hZ : ∀ r ∈ Z, r < k)
    (hs : Kept n0 s (L i0) (H i0) Z k)
    (round : ∀ i, Inv i → VX P T G C n0 c (thenQ (fun s' => ∃ i', (Inv i' ∧ μ i' < μ i) ∧ Kept n0 s' (L i') (H i') Z k) Q) ⟨sv (L i), hv (H i), zv Z, k⟩) :
    loopV P G C (FnH P G) (LeS G, n0) c Q s := by
  unfold loopV
  refine loop_rule L H (fun _ => Z) k Inv μ i0 h0 (hs.le hk hZ) fun i hi => ?_
  have := round i hi
  rw [sv_eq, hv_eq, zv_eq] at this
  exact vx_wp hT (fun e s h => by
    cases e <;> first | (obtain ⟨i', ⟨h1, h2⟩, h3⟩ := h; exact ⟨i', h1, h2, h3.le hk hZ⟩) | exact h) this

/-- A range's parameters. -/
def setPV : Tm → List Tmp → List PV → Tm
  | t, p :: ps, x :: xs => setPV (ts t p x) ps xs
  | t, _, _ => t
theorem setPV_eq : ∀ (ps : List Tmp) (xs : List PV) (t : Tm), setPV t ps xs = setPs t ps xs
  | [], _, t => by simp [setPV, setPs]
  | _ :: _, [], t => by simp [setPV, setPs]
  | p :: ps, x :: xs, t => by
    unfold setPV setPs
    rw [ts_eq, setPV_eq ps xs]

theorem at_func1 {ρ : Nat → Nat} {k : Nat} {t : Tm} {j : Nat} {fn : Fn} {e : PV} {o : Nat} (h : t j = .func fn [] [.cptr e o]) : at' ρ k t j (.func fn [] [.cptr e o]) := by
  unfold at'
  rw [h, rn_func]
  refine ⟨rfl, trivial, ?_⟩
  rw [rnL_cons, rn_cptr, rnL_nil]
  exact ⟨rfl, trivial⟩

/-- What is asked where a range is left. -/
def leftQ (Q : Exit → St → Prop) (t : Tm) (e : Exit) (s : St) : Prop := match e, s with
  | .ret, ⟨_, h, z, nx⟩ => Q .ret ⟨t, h, z, nx⟩
  | .exit id, ⟨_, h, z, nx⟩ => Q (.exit id) ⟨t, h, z, nx⟩
  | _, _ => False
/-- What is asked at the end of a round. -/
def goesQ (R : St → Prop) (e : Exit) (s : St) : Prop := match e with
  | .normal => R s
  | _ => False

theorem zl_app (ks Z : List Nat) : zl (ks ++ Z) = fset (zl Z) ks := by
  rw [← zv_eq, ← zv_eq]
  funext r
  simp only [zv, memN_eq, fset, List.contains_append]

/-- A RANGE OVER A FUNCTION. 'stop': the round in which it is left. -/
theorem rangeV_kept (hT : ∀ i x, T i = some x → tinfo P i = x) {g : Operand} {ps : Array Tmp} {a b : Code} {Q : Exit → St → Prop} {s : St} (L : List (Nat × PV)) (H : Nat → List (Nat × Blk)) (Z : List Nat) (k : Nat) {f : FuncId} {captured ds : List PV} {ks : List Nat} {xs : List (List PV)} (stop : Nat) (nxs : Nat → Nat) (h0 : nxs 0 = k) (hn : ∀ i, k ≤ nxs i)
    (hk : n0 ≤ k) (hZ : ∀ r ∈ Z, r < k) (hZ' : ∀ r ∈ ks ++ Z, r < k) (hs : Kept n0 s L (H 0) Z k)
    (hev : ev G (sv L) g = .func (.func f) [] captured) (hfr : mapF (frz (hv (H 0)) 6) captured = some (ds, ks)) (hC : C f ds (.seq xs)) (hlen : ∀ x ∈ xs, x.length = ps.size)
    (round : ∀ i x, xs[i]? = some x → i < stop → VX P T G C k a (thenQ (VX P T G C k b (goesQ fun s' => Kept k s' [] (H (i + 1)) (ks ++ Z) (nxs (i + 1)))) (fun _ _ => False)) ⟨setPV (sv L) ps.toList x, hv (H i), zv (ks ++ Z), nxs i⟩)
    (last : ∀ x, xs[stop]? = some x → VX P T G C k a (thenQ (VX P T G C k b (leftQ Q (sv L))) (fun _ _ => False)) ⟨setPV (sv L) ps.toList x, hv (H stop), zv (ks ++ Z), nxs stop⟩)
    (done : xs.length ≤ stop → Q .normal ⟨sv L, hv (H xs.length), zv (ks ++ Z), nxs xs.length⟩) : rangeV P G C (FnH P G) (LeS G, n0) g ps a b Q s := by
  unfold rangeV
  unfold wp
  refine ⟨⟨sl L, hl (H 0), zl Z, k⟩, hs.le hk hZ, ?_⟩
  rw [← sv_eq, ← hv_eq]
  dsimp only
  rw [hev]
  refine ⟨6, ds, ks, xs, stop, hfr, hC, hlen, ?_⟩
  have key : ∀ (ys : List (List PV)) (i : Nat) (t' : Tm), xs.drop i = ys → i ≤ xs.length → i ≤ stop →
      List.rec (motive := fun _ => Nat → St → Prop) (fun _ s' => Q .normal { s' with t := sv L })
          (fun x _ ih k1 s' => wp P G C (FnH P G) (LeS G, k) a (thenQ (wp P G C (FnH P G) (LeS G, k) b (roundQ Q (sv L) ih (LeS G k) k1)) (fun _ _ => False)) { s' with t := setPs (sv L) ps.toList x })
          ys (stop - i) ⟨t', hv (H i), zl (ks ++ Z), nxs i⟩ := by
    intro ys
    induction ys with
    | nil =>
      intro i t' hd hi hst
      have : i = xs.length := by
        have := congrArg List.length hd
        simp at this; omega
      subst this
      have := done hst
      rw [zv_eq] at this
      exact this
    | cons x ys ih =>
      intro i t' hd hi hst
      have hx : xs[i]? = some x := by
        have : (xs.drop i)[0]? = some x := by rw [hd]; rfl
        simpa using this
      have hd' : xs.drop (i + 1) = ys := by
        have : (xs.drop i).drop 1 = ys := by rw [hd]; rfl
        rw [List.drop_drop] at this
        exact this
      have hlt : i < xs.length := (List.getElem?_eq_some_iff.1 hx).1
      by_cases hst' : i = stop
      · subst hst'
        have := last x hx
        rw [setPV_eq, zv_eq] at this
        refine vx_wp hT (fun e s1 h => ?_) this
        cases e <;> try exact h
        refine vx_wp hT (fun e s2 h => ?_) h
        rw [Nat.sub_self]
        cases e <;> exact h
      · have := round i x hx (by omega)
        rw [setPV_eq, zv_eq] at this
        refine vx_wp hT (fun e s1 h => ?_) this
        cases e <;> try exact h
        refine vx_wp hT (fun e s2 h => ?_) h
        obtain ⟨m, hm⟩ : ∃ m, stop - i = m + 1 := ⟨stop - i - 1, by omega⟩
        rw [hm]
        cases e <;> try exact h
        refine ⟨_, Kept.le (hn _) (fun r hr => Nat.lt_of_lt_of_le (hZ' r hr) (hn _)) h, ?_⟩
        have hm' : m = stop - (i + 1) := by omega
        rw [hm', ← hv_eq]
        exact ih (i + 1) _ hd' (by omega) (by omega)
  have := key xs 0 (sv L) rfl (Nat.zero_le _) (Nat.zero_le _)
  rw [zl_app, h0] at this
  exact this

/-! Functions that yield. -/
def startW (ds : List PV) (i : Nat) : St := ⟨argV ds, hv [(0, gblk i)], noZ, 1⟩
theorem startW_eq {ds : List PV} {i : Nat} : startW ds i = startY ds i := by
  unfold startW startY
  rw [argV_eq, hv_eq]
  congr 1

theorem seqV_of (hm : P.follows .mixedOrders = true) (hT : ∀ i x, T i = some x → tinfo P i = x) {f : FuncId} {fn : Func} {c : Code} {rs : List ResultVar} {nt : Nat} (ok : FnOk P f fn c rs nt) {ds : List PV} (hl : ds.length + 1 ≤ nt) {xs : List (List PV)}
    (h : ∀ k (Y : Cons P xs k), VX P T G (FnY P G Y) 1 c (vEnd T rs fun _ s => s.h 0 = some (gblk (min xs.length (k + 1)))) (startW (.func (.yield Y.l) [] [] :: ds) 0)) : FnC P G f ds (.seq xs) :=
  SeqC_of_wp hm ok hl fun k Y => by rw [← startW_eq]; exact vx_wp hT (fun e s h => vEnd_sound hT h) (h k Y)

theorem prodV_of (hm : P.follows .mixedOrders = true) (hT : ∀ i x, T i = some x → tinfo P i = x) {f : FuncId} {fn : Func} {c : Code} {rs : List ResultVar} {nt : Nat} (ok : FnOk P f fn c rs nt) {xs : List (List PV)} {k : Nat} (Y : Cons P xs k) {ds : List PV} (hl : ds.length ≤ nt) (hd : ∀ ds', ds ≠ .anyb :: ds') {i j : Nat} {b : Bool}
    (h : VX P T G (FnY P G Y) 1 c (vEnd T rs fun v s => v = .bool b ∧ s.h 0 = some (gblk j)) (startW ds i)) : FnY P G Y f ds (.gh i j b) :=
  Or.inr ⟨hd, ok.callable, ProdS_of_wp hm ok hl Y (by rw [← startW_eq]; exact vx_wp hT (fun e s h => vEnd_sound hT h) h)⟩

/-- The yield itself. -/
theorem fnY_yield {xs : List (List PV)} {k : Nat} (Y : Cons P xs k) {i : Nat} {ds : List PV} (hx : xs[i]? = some ds) (hi : i ≤ k) : FnY P G Y Y.l (.anyb :: ds) (.gh i (i + 1) (decide (i ≠ k))) :=
  Or.inl ⟨ds, rfl, rfl, hx, hi, rfl, rfl⟩

theorem r_range {Q : Exit → St → Prop} {s : St} {I : Inline} {Le : LeT} {g : Operand} {ps : Array Tmp} {a b : Code} (h : rangeV P G C I Le g ps a b Q s) : vc P T G C I Le (.rangeFunc g ps a b) Q s := by
  unfold vc; exact h
end
end Go.PI
