/-
  PI: a state said otherwise: listed slots and blocks alone, keys renamed.
-/
import Derived.Test.YtholmbhdbmjobaaDoorCPiFunc
set_option linter.unusedVariables false
set_option linter.unusedSimpArgs false
namespace Go.PI
open Go.RowKit

/-- Slots, listed. -/
def sl : List (Nat × PV) → Tm
  | [], _ => .any
  | (j, v) :: l, i => if i = j then v else sl l i
/-- Blocks, listed. -/
def hl : List (Nat × Blk) → Hp
  | [], _ => none
  | (j, b) :: l, i => if i = j then some b else hl l i
def zl (l : List Nat) : Fz := fun r => l.contains r

/-- No key in it. -/
def nr : Nat → PV → Bool
  | _, .int _ _ | _, .bool _ | _, .str _ | _, .imm _ | _, .nilsl | _, .cptr _ _ | _, .nilfunc | _, .anyb | _, .any => true
  | n + 1, .agg cs => cs.all (nr n)
  | n + 1, .tup cs => cs.all (nr n)
  | n + 1, .func _ f c => f.all (nr n) && c.all (nr n)
  | _, _ => false

def rnL (f : PV → PV → Prop) : List PV → List PV → Prop
  | [], [] => True
  | a :: as, b :: bs => f a b ∧ rnL f as bs
  | _, _ => False

/-- The first is the second with its keys renamed, or says less. -/
def rn (ρ : Nat → Nat) (nx : Nat) : Nat → PV → PV → Prop
  | _, .any, _ => True
  | _, .own r off len, v => r < nx ∧ v = .own (ρ r) off len
  | _, .ptr r i off, v => r < nx ∧ v = .ptr (ρ r) i off
  | n + 1, .agg cs, v => match v with
    | .agg cs' => rnL (rn ρ nx n) cs cs'
    | _ => False
  | n + 1, .func fn f c, v => match v with
    | .func fn' f' c' => fn = fn' ∧ rnL (rn ρ nx n) f f' ∧ rnL (rn ρ nx n) c c'
    | _ => False
  | n + 1, .tup cs, v => match v with
    | .tup cs' => rnL (rn ρ nx n) cs cs'
    | _ => False
  | _, .int k n, v => v = .int k n
  | _, .bool b, v => v = .bool b
  | _, .str s, v => v = .str s
  | _, .imm es, v => v = .imm es
  | _, .nilsl, v => v = .nilsl
  | _, .cptr e o, v => v = .cptr e o
  | _, .nilfunc, v => v = .nilfunc
  | _, .anyb, v => v = .anyb
  | _, _, _ => False

/-- A block: the same elements, in which is no key; or elements with renamed keys. -/
def rnB (ρ : Nat → Nat) (nx : Nat) (b' b : Blk) : Prop :=
  b'.sz = b.sz ∧ b'.agg = b.agg ∧ ((b'.els = b.els ∧ ∀ e ∈ b.els, nr 3 e = true) ∨ rnL (rn ρ nx 3) b'.els b.els)

section
variable {w : World} {A : Nat → Prop} {κ κ' : Ka}

theorem RV.nr_any : ∀ (n : Nat) (d : PV) (v : Value), nr n d = true → RV w A κ d v → RV w A κ' d v := by
  intro n
  have leaf : ∀ (d : PV) (v : Value), nr 0 d = true → RV w A κ d v → RV w A κ' d v := by
    intro d v hd h
    cases h with
    | data _ _ h => exact .data _ _ h
    | nilsl => exact .nilsl
    | any => exact .any _
    | anyb => exact .anyb _
    | agg => simp [nr] at hd
    | tup => simp [nr] at hd
    | own => simp [nr] at hd
    | ptr => simp [nr] at hd
    | func => simp [nr] at hd
  induction n with
  | zero => exact leaf
  | succ n ih =>
    intro d v hd h
    cases d with
    | agg cs =>
      simp only [nr, List.all_eq_true] at hd
      obtain ⟨vs, rfl, h1, h2, h3⟩ := h.agg_inv
      exact .agg cs vs h1 (fun i d hi => ih d _ (hd d (List.mem_of_getElem? hi)) (h2 i d hi)) h3
    | tup cs =>
      simp only [nr, List.all_eq_true] at hd
      obtain ⟨vs, rfl, h1, h2⟩ := h.tup_inv
      exact .tup cs vs h1 (fun i d hi => ih d _ (hd d (List.mem_of_getElem? hi)) (h2 i d hi))
    | func fn f c =>
      simp only [nr, Bool.and_eq_true, List.all_eq_true] at hd
      obtain ⟨fs, cs, rfl, h1, h2, h3, h4⟩ := h.func_inv
      exact .func fn f c fs cs h1 h2 (fun i d hi => ih d _ (hd.1 d (List.mem_of_getElem? hi)) (h3 i d hi)) (fun i d hi => ih d _ (hd.2 d (List.mem_of_getElem? hi)) (h4 i d hi))
    | own => simp [nr] at hd
    | ptr => simp [nr] at hd
    | _ => exact leaf _ v rfl h

theorem rnL_get {f : PV → PV → Prop} : ∀ {as bs : List PV}, rnL f as bs → as.length = bs.length ∧ ∀ (i : Nat) a, as[i]? = some a → ∃ b, bs[i]? = some b ∧ f a b
  | [], [], _ => ⟨rfl, fun i a h => by simp at h⟩
  | a :: as, b :: bs, h => by
    obtain ⟨h1, h2⟩ := h
    obtain ⟨g1, g2⟩ := rnL_get h2
    refine ⟨by simp [g1], fun i x hx => ?_⟩
    cases i with
    | zero => simp at hx; subst hx; exact ⟨b, rfl, h1⟩
    | succ i => simpa using g2 i x (by simpa using hx)
  | [], _ :: _, h => h.elim
  | _ :: _, [], h => h.elim

theorem RV.rn {ρ : Nat → Nat} {nx : Nat} (hk : ∀ r, r < nx → κ' r = κ (ρ r)) : ∀ (n : Nat) (d' d : PV) (v : Value), Go.PI.rn ρ nx n d' d → RV w A κ d v → RV w A κ' d' v := by
  intro n
  induction n with
  | zero =>
    intro d' d v hr h
    cases d' with
    | any => exact .any _
    | own r off len =>
      obtain ⟨h1, rfl⟩ := hr
      obtain ⟨m, sz, cap, a, rfl, g1, g2, g3⟩ := h.own_inv
      exact .own r off len m sz cap a (by rw [hk r h1]; exact g1) g2 g3
    | ptr r i off =>
      obtain ⟨h1, rfl⟩ := hr
      obtain ⟨m, sz, cap, rfl, g1⟩ := h.ptr_inv
      exact .ptr r i off m sz cap (by rw [hk r h1]; exact g1)
    | agg => exact hr.elim
    | tup => exact hr.elim
    | func => exact hr.elim
    | _ => simp only [Go.PI.rn] at hr; subst hr; exact RV.nr_any 0 _ v rfl h
  | succ n ih =>
    intro d' d v hr h
    cases d' with
    | any => exact .any _
    | own r off len =>
      obtain ⟨h1, rfl⟩ := hr
      obtain ⟨m, sz, cap, a, rfl, g1, g2, g3⟩ := h.own_inv
      exact .own r off len m sz cap a (by rw [hk r h1]; exact g1) g2 g3
    | ptr r i off =>
      obtain ⟨h1, rfl⟩ := hr
      obtain ⟨m, sz, cap, rfl, g1⟩ := h.ptr_inv
      exact .ptr r i off m sz cap (by rw [hk r h1]; exact g1)
    | agg cs =>
      simp only [Go.PI.rn] at hr
      split at hr
      · rename_i cs'
        obtain ⟨g1, g2⟩ := rnL_get hr
        obtain ⟨vs, rfl, h1, h2, h3⟩ := h.agg_inv
        refine .agg cs vs (by omega) (fun i x hx => ?_) (fun i hi => h3 i (by omega))
        obtain ⟨y, hy, hxy⟩ := g2 i x hx
        exact ih x y _ hxy (h2 i y hy)
      · exact hr.elim
    | tup cs =>
      simp only [Go.PI.rn] at hr
      split at hr
      · rename_i cs'
        obtain ⟨g1, g2⟩ := rnL_get hr
        obtain ⟨vs, rfl, h1, h2⟩ := h.tup_inv
        refine .tup cs vs (by omega) (fun i x hx => ?_)
        obtain ⟨y, hy, hxy⟩ := g2 i x hx
        exact ih x y _ hxy (h2 i y hy)
      · exact hr.elim
    | func fn f c =>
      simp only [Go.PI.rn] at hr
      split at hr
      · rename_i fn' f' c'
        obtain ⟨rfl, hf, hc⟩ := hr
        obtain ⟨g1, g2⟩ := rnL_get hf
        obtain ⟨k1, k2⟩ := rnL_get hc
        obtain ⟨fs, cs, rfl, h1, h2, h3, h4⟩ := h.func_inv
        refine .func fn f c fs cs (by omega) (by omega) (fun i x hx => ?_) (fun i x hx => ?_)
        · obtain ⟨y, hy, hxy⟩ := g2 i x hx
          exact ih x y _ hxy (h3 i y hy)
        · obtain ⟨y, hy, hxy⟩ := k2 i x hx
          exact ih x y _ hxy (h4 i y hy)
      · exact hr.elim
    | _ => simp only [Go.PI.rn] at hr; subst hr; exact RV.nr_any 0 _ v rfl h

theorem sl_mem : ∀ {l : List (Nat × PV)} {i : Nat}, sl l i = .any ∨ (i, sl l i) ∈ l
  | [], i => Or.inl rfl
  | (j, v) :: l, i => by
    unfold sl
    split
    · rename_i h; subst h; exact Or.inr (by simp)
    · rcases sl_mem (l := l) (i := i) with h | h
      · exact Or.inl h
      · exact Or.inr (List.mem_cons_of_mem _ h)
theorem hl_mem : ∀ {l : List (Nat × Blk)} {i : Nat} {b : Blk}, hl l i = some b → (i, b) ∈ l
  | (j, v) :: l, i, b, h => by
    unfold hl at h
    split at h
    · rename_i e; subst e; cases h; simp
    · exact List.mem_cons_of_mem _ (hl_mem h)

/-- Cells renamed. -/
theorem rn_cells {ρ : Nat → Nat} {nx n : Nat} {e' e : PV} (h : Go.PI.rn ρ nx n e' e) (hs : e' ≠ .any) : e'.cells.length = e.cells.length ∧ e'.isAgg = e.isAgg ∧ ∀ (j : Nat) x, e'.cells[j]? = some x → ∃ m y, e.cells[j]? = some y ∧ Go.PI.rn ρ nx m x y := by
  have one : ∀ (e' e : PV), e'.cells = [e'] → e.cells = [e] → e'.isAgg = false → e.isAgg = false → Go.PI.rn ρ nx n e' e → e'.cells.length = e.cells.length ∧ e'.isAgg = e.isAgg ∧ ∀ (j : Nat) x, e'.cells[j]? = some x → ∃ m y, e.cells[j]? = some y ∧ Go.PI.rn ρ nx m x y := by
    intro e' e h1 h2 h3 h4 h
    rw [h1, h2, h3, h4]
    refine ⟨rfl, rfl, fun j x hj => ?_⟩
    cases j with
    | zero => simp at hj; subst hj; exact ⟨n, e, rfl, h⟩
    | succ j => simp at hj
  cases e' with
  | any => exact absurd rfl hs
  | agg cs =>
    cases n with
    | zero => exact h.elim
    | succ n =>
      simp only [Go.PI.rn] at h
      split at h
      · rename_i cs'
        obtain ⟨g1, g2⟩ := rnL_get h
        exact ⟨g1, rfl, fun j x hj => let ⟨y, hy, hxy⟩ := g2 j x hj; ⟨n, y, hy, hxy⟩⟩
      · exact h.elim
  | own r off len => have h' := h; cases n <;> (obtain ⟨_, rfl⟩ := h; exact one _ _ rfl rfl rfl rfl h')
  | ptr r i off => have h' := h; cases n <;> (obtain ⟨_, rfl⟩ := h; exact one _ _ rfl rfl rfl rfl h')
  | tup cs =>
    cases n with
    | zero => exact h.elim
    | succ n =>
      have h' := h
      simp only [Go.PI.rn] at h
      split at h
      · exact one _ _ rfl rfl rfl rfl h'
      · exact h.elim
  | func fn f c =>
    cases n with
    | zero => exact h.elim
    | succ n =>
      have h' := h
      simp only [Go.PI.rn] at h
      split at h
      · exact one _ _ rfl rfl rfl rfl h'
      · exact h.elim
  | _ => have h' := h; cases n <;> (simp only [Go.PI.rn] at h; subst h; exact one _ _ rfl rfl rfl rfl h')
end

/-- THE RULE: a state may be said by its slots and blocks alone, with other keys. -/
theorem LeS_of {G : Gl} {n0 : Nat} {s : St} {L : List (Nat × PV)} {H : List (Nat × Blk)} {Z : List Nat} {k : Nat} (ρ : Nat → Nat) (h0 : n0 ≤ k) (hρ : ∀ r, r < n0 → ρ r = r)
    (hL : ∀ p ∈ L, rn ρ k 3 p.2 (s.t p.1)) (hH : ∀ q ∈ H, q.1 < k ∧ (∀ e ∈ q.2.els, e ≠ .any) ∧ ∃ b, s.h (ρ q.1) = some b ∧ rnB ρ k q.2 b ∧ zl Z q.1 = s.z (ρ q.1)) (hZ : ∀ r ∈ Z, r < k)
    (hinj : ∀ p ∈ H, ∀ q ∈ H, p.1 ≠ q.1 → ρ p.1 ≠ ρ q.1) : LeS G n0 s { t := sl L, h := hl H, z := zl Z, nx := k } := by
  intro E N df a w A κ hE hR
  subst hE
  let κ' : Ka := fun r => if r < k then κ (ρ r) else none
  have hk' : ∀ r, r < k → κ' r = κ (ρ r) := fun r hr => by simp [κ', hr]
  refine ⟨A, κ', ⟨?_, fun r hr => ⟨?_, ?_, by have : ¬ r < k := by have : k ≤ r := hr; omega
                                              simp [κ', this]⟩, h0, fun i hi => ?_, hR.size, hR.df⟩⟩
  · have H0 := hR.hr
    refine ⟨H0.bel, H0.hB, H0.alt, H0.a0, H0.a1, H0.acell, fun r hr => ?_, fun g e hg => ?_, fun r m sz cap hr => ?_, ⟨H0.kp.base, H0.kp.keep, H0.kp.wr, fun r b' m sz cap hb hκ hc hz => ?_, H0.kp.mks, H0.kp.nd, H0.kp.kb, H0.kp.kk, H0.kp.zk, H0.kp.mk0, fun hg => ?_⟩, fun r b' hb hκ => ?_, fun r r' b b' m m' s1 s2 c c' hne hr hr' h1 h2 hc hc' => ?_⟩
    · rw [hk' r (by omega), hρ r hr]; exact H0.k0 r hr
    · obtain ⟨b, o, val, hv, h1, h2, h3⟩ := (H0.glob g e hg).cptr_inv
      rw [hv]; exact .data _ _ (.cptr e 0 b o val h1 h2 h3)
    · by_cases hlt : r < k
      · rw [hk' r hlt] at hr; exact H0.klt (ρ r) m sz cap hr
      · simp [κ', hlt] at hr
    · obtain ⟨h1, _, b, h2, _, h5⟩ := hH _ (hl_mem hb)
      rw [hk' r h1] at hκ
      exact H0.kp.own _ b m sz cap h2 hκ hc (by rw [← h5]; exact hz)
    · obtain ⟨g1, g2, g3⟩ := H0.kp.gk hg
      refine ⟨g1, by rw [hk' 0 (by omega), hρ 0 g1]; exact g2, fun b hb => ?_⟩
      obtain ⟨h1, hany, b0, h2, ⟨h3, h3', h4⟩, h5⟩ := hH _ (hl_mem hb)
      rw [hρ 0 g1] at h2
      have e := g3 b0 h2
      subst e
      obtain ⟨els, sz, agg⟩ := b
      simp only [gblk] at h3 h3' h4
      subst h3 h3'
      have : els = [.int .i64 E.gi] := by
        rcases h4 with h | h
        · exact h.1
        · match els, h with
          | [x], h =>
            have h' := h.1
            have hx : x ≠ .any := hany x (by simp)
            cases x <;> simp [rn] at h' hx ⊢ <;> simp [h']
      rw [this]; rfl
    · obtain ⟨h1, hany, b, h2, ⟨h3, h3', h4⟩, h5⟩ := hH _ (hl_mem hb)
      obtain ⟨m, cap, g1, g2, g3, g4⟩ := H0.blk _ b h2 (by rw [← hk' r h1]; exact hκ)
      have hlen : b'.els.length = b.els.length := by
        rcases h4 with h | h
        · rw [h.1]
        · exact (rnL_get h).1
      refine ⟨m, cap, by rw [hk' r h1, g1, h3], by omega, fun e he => ?_, ?_⟩
      · rcases h4 with h | h
        · rw [h3, h3']; exact g3 e (by rw [← h.1]; exact he)
        · obtain ⟨i, hi, rfl⟩ := List.getElem_of_mem he
          obtain ⟨y, hy, hxy⟩ := (rnL_get h).2 i _ (List.getElem?_eq_getElem hi)
          obtain ⟨c1, c2, _⟩ := rn_cells hxy (hany _ he)
          have := g3 y (List.mem_of_getElem? hy)
          rw [h3, h3', c1, c2]; exact this
      · rcases g4 with g4 | ⟨c, ty, f1, f2, f3, f4, f5, f6, f7⟩
        · exact Or.inl g4
        · refine Or.inr ⟨c, ty, f1, f2, by rw [h3]; exact f3, f4, fun i e he j x hx => ?_, fun hz => f6 (by rw [← h5]; exact hz), fun hz => f7 (by rw [← h5]; exact hz)⟩
          rw [h3]
          rcases h4 with h | h
          · rw [h.1] at he
            obtain ⟨v, q1, q2, q3⟩ := f5 i e he j x hx
            refine ⟨v, q1, ?_, q3⟩
            have hnr := h.2 e (List.mem_of_getElem? he)
            have hnx : ∃ n, nr n x = true := by
              cases e with
              | agg cs =>
                simp only [nr, List.all_eq_true] at hnr
                exact ⟨2, hnr x (List.mem_of_getElem? hx)⟩
              | _ =>
                simp only [PV.cells] at hx
                cases j with
                | zero => simp at hx; subst hx; exact ⟨3, hnr⟩
                | succ j => simp at hx
            obtain ⟨n, hn⟩ := hnx
            exact RV.nr_any n x v hn q2
          · obtain ⟨y, hy, hxy⟩ := (rnL_get h).2 i e he
            obtain ⟨_, _, c3⟩ := rn_cells hxy (hany _ (List.mem_of_getElem? he))
            obtain ⟨m', y', hy', hr'⟩ := c3 j x hx
            obtain ⟨v, q1, q2, q3⟩ := f5 i y hy j y' hy'
            exact ⟨v, q1, RV.rn hk' m' x y' v hr' q2, q3⟩
    · obtain ⟨p1, _, bp, p2, _, _⟩ := hH _ (hl_mem hr)
      obtain ⟨q1, _, bq, q2, _, _⟩ := hH _ (hl_mem hr')
      rw [hk' r p1] at h1
      rw [hk' r' q1] at h2
      exact H0.excl _ _ bp bq m m' _ _ _ _ (hinj _ (hl_mem hr) _ (hl_mem hr') hne) p2 q2 h1 h2 hc hc'
  · cases hb : hl H r with
    | none => exact hb
    | some b => have := (hH _ (hl_mem hb)).1; have h2 : k ≤ r := hr; simp only at this; omega
  · have h2 : k ≤ r := hr
    show Z.contains r = false
    refine contains_false.2 fun hm => ?_
    have := hZ r hm
    omega
  · show RV w A κ' (sl L i) _
    rcases sl_mem (l := L) (i := i) with h | h
    · rw [h]; exact .any _
    · exact RV.rn hk' 3 _ _ _ (hL _ h) (hR.tm i hi)

end Go.PI
