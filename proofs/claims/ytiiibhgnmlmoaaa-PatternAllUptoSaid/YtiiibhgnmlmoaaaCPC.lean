/-
  PI: the rules by which a function is carried out: its beginning and end, loops, wraps.
-/
import Derived.Test.YtiiibhgnmlmoaaaCPB
namespace Go.PI
set_option linter.unusedVariables false
set_option linter.unusedSimpArgs false
set_option linter.unnecessarySimpa false
section
variable {P : Program} {G : Gl} {n0 : Nat}
theorem fnC_of (hm : P.follows .mixedOrders = true) {f : FuncId} {fn : Func} {c : Code} {rs : List ResultVar} {nt : Nat} (ok : FnOk P f fn c rs nt) {ds : List PV} (hl : ds.length ≤ nt) {d : PV}
    (h : wp P G (FnC P G) (FnH P G) (LeS G, 0) c (atEnd P rs fun v s => gives s.h v d) (start ds)) : FnC P G f ds (.data d) := FnC_of_wp hm ok hl h
/-- A row of the function's own, handed back. -/
def givesOwn (els : List PV) (sz : Nat) (agg : Bool) (v : PV) (s : St) : Prop :=
  (v = .nilsl ∧ els = []) ∨ ∃ r b ks, v = .own r 0 els.length ∧ s.h r = some b ∧ b.sz = sz ∧ b.agg = agg ∧ b.els.length = els.length ∧ s.z r = false ∧ mapF (frz s.h 4) b.els = some (els, ks) ∧ ks.contains r = false
theorem fnC_own (hm : P.follows .mixedOrders = true) {f : FuncId} {fn : Func} {c : Code} {rs : List ResultVar} {nt : Nat} (ok : FnOk P f fn c rs nt) {ds : List PV} (hl : ds.length ≤ nt) {els : List PV} {sz : Nat} {agg : Bool}
    (h : wp P G (FnC P G) (FnH P G) (LeS G, 0) c (atEnd P rs (givesOwn els sz agg)) (start ds)) : FnC P G f ds (.fresh els sz agg) := FnC_of_wp_fresh hm ok hl h
theorem givesOwn_of {els : List PV} {sz : Nat} {agg : Bool} {r len : Nat} {s : St} (hl : len = els.length) (hb : s.h r = some ⟨els, sz, agg⟩) (hz : s.z r = false) (hf : mapF (frz s.h 4) els = some (els, [])) : givesOwn els sz agg (.own r 0 len) s := by
  subst hl
  exact Or.inr ⟨r, _, [], rfl, hb, rfl, rfl, rfl, hz, hf, rfl⟩
/-- Slots, each as listed. -/
def okS (ρ : Nat → Nat) (k : Nat) : List (Nat × PV) → Tm → Prop
  | [], _ => True
  | (j, v) :: l, t => rn ρ k 3 v (t j) ∧ okS ρ k l t
/-- Blocks, each as listed. -/
def okH (ρ : Nat → Nat) (k : Nat) (Z : List Nat) : List (Nat × Blk) → Hp → Fz → Prop
  | [], _, _ => True
  | (r, b) :: l, h, z => (r < k ∧ (∀ e ∈ b.els, e ≠ .any) ∧ (elimO (h (ρ r)) fun b' => rnB ρ k b b') ∧ Z.contains r = z (ρ r)) ∧ okH ρ k Z l h z
theorem okS_all {ρ : Nat → Nat} {k : Nat} {t : Tm} : ∀ {l : List (Nat × PV)}, okS ρ k l t → ∀ p ∈ l, rn ρ k 3 p.2 (t p.1)
  | [], _, p, hp => by cases hp
  | (j, v) :: l, h, p, hp => by
    rcases List.mem_cons.1 hp with rfl | hp
    · exact h.1
    · exact okS_all h.2 p hp
theorem okH_all {ρ : Nat → Nat} {k : Nat} {Z : List Nat} {h : Hp} {z : Fz} : ∀ {l : List (Nat × Blk)}, okH ρ k Z l h z → ∀ q ∈ l, q.1 < k ∧ (∀ e ∈ q.2.els, e ≠ .any) ∧ ∃ b, h (ρ q.1) = some b ∧ rnB ρ k q.2 b ∧ zl Z q.1 = z (ρ q.1)
  | [], _, q, hq => by cases hq
  | (r, b) :: l, hh, q, hq => by
    rcases List.mem_cons.1 hq with rfl | hq
    · obtain ⟨⟨h1, h2, h3, h4⟩, _⟩ := hh
      refine ⟨h1, h2, ?_⟩
      cases hb : h (ρ r) with
      | none => rw [hb] at h3; exact h3.elim
      | some b' => rw [hb] at h3; exact ⟨b', rfl, h3, h4⟩
    · exact okH_all hh.2 q hq
/-- Keys renamed by a list: from 'n0' on. -/
def ren (n0 : Nat) (l : List Nat) (r : Nat) : Nat := if r < n0 then r else l.getD (r - n0) r
theorem LeS_slots {s : St} {L : List (Nat × PV)} {k : Nat} (h0 : n0 ≤ k) (hL : okS id k L s.t) : LeS G n0 s { t := sl L, h := hl [], z := zl [], nx := k } :=
  LeS_of id h0 (fun _ _ => rfl) (okS_all hL) (fun q hq => by cases hq) (fun r hr => by cases hr) (fun p hp => by cases hp)
theorem LeS_list {s : St} {L : List (Nat × PV)} {H : List (Nat × Blk)} {Z : List Nat} {k : Nat} (ρ : List Nat) (h0 : n0 ≤ k) (hL : okS (ren n0 ρ) k L s.t) (hH : okH (ren n0 ρ) k Z H s.h s.z) (hZ : ∀ r ∈ Z, r < k)
    (hinj : (H.map fun q => ren n0 ρ q.1).Pairwise (· ≠ ·)) : LeS G n0 s { t := sl L, h := hl H, z := zl Z, nx := k } := by
  refine LeS_of (ren n0 ρ) h0 (fun r hr => by simp [ren, hr]) (okS_all hL) (okH_all hH) hZ (fun p hp q hq hne => ?_)
  clear hH
  induction H with
  | nil => cases hp
  | cons x H ih =>
    rw [List.map_cons, List.pairwise_cons] at hinj
    rcases List.mem_cons.1 hp with e1 | hp'
    · rcases List.mem_cons.1 hq with e2 | hq'
      · rw [e1, e2] at hne; exact absurd rfl hne
      · rw [e1]; exact hinj.1 _ (List.mem_map.2 ⟨q, hq', rfl⟩)
    · rcases List.mem_cons.1 hq with e2 | hq'
      · rw [e2]; exact (hinj.1 _ (List.mem_map.2 ⟨p, hp', rfl⟩)).symm
      · exact ih hinj.2 hp' hq'
/-- A LOOP, its states by lists of slots and blocks. -/
theorem loop_rule {C : Contracts} {c : Code} {Q : Exit → St → Prop} {s : St} {ι : Type} (L : ι → List (Nat × PV)) (H : ι → List (Nat × Blk)) (Z : ι → List Nat) (k : Nat) (Inv : ι → Prop) (μ : ι → Nat) (i0 : ι) (h0 : Inv i0)
    (hs : LeS G n0 s { t := sl (L i0), h := hl (H i0), z := zl (Z i0), nx := k })
    (round : ∀ i, Inv i → wp P G C (FnH P G) (LeS G, n0) c (thenQ (fun s' => ∃ i', Inv i' ∧ μ i' < μ i ∧ LeS G n0 s' { t := sl (L i'), h := hl (H i'), z := zl (Z i'), nx := k }) Q) { t := sl (L i), h := hl (H i), z := zl (Z i), nx := k }) :
    wpLoop P G C (FnH P G) (LeS G, n0) c Q s :=
  wp_loop FnH.mono (fun i => { t := sl (L i), h := hl (H i), z := zl (Z i), nx := k }) Inv μ i0 h0 hs round
/-- A loop that keeps no blocks. -/
theorem loop_slots {C : Contracts} {c : Code} {Q : Exit → St → Prop} {s : St} {ι : Type} (L : ι → List (Nat × PV)) (Inv : ι → Prop) (μ : ι → Nat) (i0 : ι) (h0 : Inv i0)
    (hs : okS id n0 (L i0) s.t)
    (round : ∀ i, Inv i → wp P G C (FnH P G) (LeS G, n0) c (thenQ (fun s' => ∃ i', (Inv i' ∧ μ i' < μ i) ∧ okS id n0 (L i') s'.t) Q) { t := sl (L i), h := hl [], z := zl [], nx := n0 }) :
    wpLoop P G C (FnH P G) (LeS G, n0) c Q s :=
  loop_rule L (fun _ => []) (fun _ => []) n0 Inv μ i0 h0 (LeS_slots (Nat.le_refl _) hs) fun i hi => wp_mono FnH.mono c _ _ _ (fun e s' h => by
    cases e <;> first | (obtain ⟨i', ⟨h1, h2⟩, h3⟩ := h; exact ⟨i', h1, h2, LeS_slots (Nat.le_refl _) h3⟩) | exact h) (round i hi)
end
section
variable {ρ : Nat → Nat} {nx n : Nat} {v : PV}
theorem rn_int {k : IntKind} {m : Int} : rn ρ nx n (.int k m) v = (v = .int k m) := by cases n <;> rfl
theorem rn_imm {es : List PV} : rn ρ nx n (.imm es) v = (v = .imm es) := by cases n <;> rfl
theorem rn_nilsl : rn ρ nx n .nilsl v = (v = .nilsl) := by cases n <;> rfl
theorem rn_cptr {e : PV} {o : Nat} : rn ρ nx n (.cptr e o) v = (v = .cptr e o) := by cases n <;> rfl
theorem rn_own {r off len : Nat} : rn ρ nx n (.own r off len) v = (r < nx ∧ v = .own (ρ r) off len) := by cases n <;> rfl
theorem rn_ptr {r i off : Nat} : rn ρ nx n (.ptr r i off) v = (r < nx ∧ v = .ptr (ρ r) i off) := by cases n <;> rfl
theorem rn_agg {cs cs' : List PV} : rn ρ nx (n + 1) (.agg cs) (.agg cs') = rnL (rn ρ nx n) cs cs' := rfl
theorem rn_func {fn fn' : Fn} {f f' c c' : List PV} : rn ρ nx (n + 1) (.func fn f c) (.func fn' f' c') = (fn = fn' ∧ rnL (rn ρ nx n) f f' ∧ rnL (rn ρ nx n) c c') := rfl
theorem rnL_nil {f : PV → PV → Prop} : rnL f [] [] = True := rfl
theorem rnL_cons {f : PV → PV → Prop} {a b : PV} {as bs : List PV} : rnL f (a :: as) (b :: bs) = (f a b ∧ rnL f as bs) := rfl
end
theorem wrapI {n : Int} (h1 : -9223372036854775808 ≤ n) (h2 : n < 9223372036854775808) : IntKind.i64.wrap n = n := by
  rw [IntKind.wrap_i64]; omega
theorem wrapU {n : Int} (h1 : 0 ≤ n) (h2 : n < 18446744073709551616) : IntKind.u64.wrap n = n := by
  rw [IntKind.wrap_u64]; omega
theorem wrapW {n : Int} (h1 : 0 ≤ n) (h2 : n < 4294967296) : IntKind.u32.wrap n = n := by
  rw [IntKind.wrap_u32]; omega
end Go.PI
