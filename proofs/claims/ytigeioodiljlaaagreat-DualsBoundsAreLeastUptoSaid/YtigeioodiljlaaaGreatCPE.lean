/-
  Queries decided by elimination: sound at each input; sizes. No program in sight.
-/
import Derived.Test.YtigeioodiljlaaaGreatCPD
set_option linter.unusedVariables false
set_option linter.unusedSimpArgs false
set_option linter.unnecessarySimpa false
namespace Go.PI
structure GraL where
 ins : Int
 units : List AffL
 outs : List AffL
 deriving Inhabited
def okGra (k : Nat) (g : GraL) : Prop := okFs k g.units ∧ okFs k g.outs
def VaG (g : GraL) : Prop := (1 ≤ g.ins ∧ g.ins ≤ 256) ∧ g.units.length ≤ 1024 ∧ (1 ≤ g.outs.length ∧ g.outs.length ≤ 256) ∧ (∀ j, j < g.units.length → ValidF g.units[j]! (g.ins + j)) ∧ ∀ i, i < g.outs.length → ValidF g.outs[i]! (g.ins + g.units.length)
def sumF (κ : Nat → Nat) : Nat → Nat → Nat
 | _, 0 => 0
 | a, n + 1 => κ a + sumF κ (a + 1) n
theorem zKE (κ : Nat → Nat) : ∀ (m a n : Nat), sumF κ a (m + n) = sumF κ a m + sumF κ (a + m) n
 | 0, a, n => by simp [sumF]
 | m + 1, a, n => by
   rw [show m + 1 + n = (m + n) + 1 by omega, sumF, sumF, zKE κ m (a + 1) n, show a + 1 + m = a + (m + 1) by omega]; omega
theorem sum_terms (κ : Nat → Nat) : ∀ (l : List QT) (a n : Nat), l.Pairwise (fun p q => p.1 < q.1) → (∀ t ∈ l, (a : Int) ≤ t.1 ∧ t.1 < (a + n : Nat)) → (l.map fun t => κ t.1.toNat).sum ≤ sumF κ a n
 | [], _, _, _, _ => by simp
 | t :: l, a, n, hp, h => by
   obtain ⟨h1, h2⟩ := h t (by simp);rw [List.pairwise_cons] at hp;obtain ⟨v, hv⟩ : ∃ v : Nat, t.1 = v := ⟨t.1.toNat, by omega⟩;obtain ⟨d, rfl⟩ : ∃ d, v = a + d := ⟨v - a, by omega⟩;obtain ⟨m, rfl⟩ : ∃ m, n = d + (m + 1) := ⟨n - d - 1, by omega⟩
   have ih := sum_terms κ l (a + d + 1) m hp.2 fun q hq => by
    have e1 := hp.1 q hq;have e2 := (h q (by simp [hq])).2;omega
   rw [zKE, sumF, List.map_cons, List.sum_cons, hv];simp only [Int.toNat_natCast];omega
def phase (p : Rat) : Int := if 0 < p then 1 else if p < 0 then 2 else 0
theorem srt_len {l : List QT} (n : Nat) (h : l.Pairwise (fun p q => p.1 < q.1)) (hv : ∀ t ∈ l, 0 ≤ t.1 ∧ t.1 < n) : l.length ≤ n := by
 have := sum_terms (fun _ => 1) l 0 n h fun t ht => by have := hv t ht; omega
 have e : ∀ a m, sumF (fun _ => 1) a m = m := by
  intro a m
  induction m generalizing a with
  | zero => rfl
  | succ m ih => rw [sumF, ih]; omega
 rw [e] at this
 have e2 : (l.map fun _ => 1).sum = l.length := by
  clear this h hv
  induction l with
  | nil => rfl
  | cons a l ih => rw [List.map_cons, List.sum_cons, ih, List.length_cons]; omega
 omega
end Go.PI
namespace Go.PI
section
variable {us : List QF} {x : List Rat} {ph : List Int} {n : Nat}
end
end Go.PI
namespace Go.PI
def smG (g : GraL) : Prop := g.ins ≤ 4 ∧ smFs g.units 5 ∧ smFs g.outs 3
section
variable {us : List QF} {n : Nat} {p : List Int} {x : List Rat}
end
end Go.PI
namespace Go.PI
end Go.PI
namespace Go.PI
structure QryL where
 g : GraL
 r : RegL
 goal : AffL
 deriving Inhabited
structure ScpL where
 q : QryL
 path : List DecL
 lems : List LemL
 deriving Inhabited
def VaQ (q : QryL) : Prop := VaG q.g ∧ VaR q.r q.g.ins ∧ ValidF q.goal (q.g.ins + q.g.units.length)
end Go.PI
namespace Go.PI
def usQ (q : QryL) : List QF := q.g.units.map AffL.Q
theorem usQ_len (q : QryL) : (usQ q).length = q.g.units.length := by simp [usQ]
theorem usQ_get {q : QryL} {j : Nat} (h : j < q.g.units.length) : (usQ q)[j]! = q.g.units[j]!.Q := by
 unfold usQ; rw [getElem!_pos _ j (by simpa using h), getElem!_pos q.g.units j h]; simp
section
variable {S : ScpL} {x : List Rat}
end
inductive NodeL.Bin : NodeL → Prop
 | mk (n : NodeL) (h : n.kids.length = 0 ∨ n.kids.length = 2) (hk : ∀ k ∈ n.kids, NodeL.Bin k) : NodeL.Bin n
theorem NodeL.Bin.len {n : NodeL} (h : n.Bin) : n.kids.length = 0 ∨ n.kids.length = 2 := by cases h; assumption
end Go.PI
namespace Go.PI
section
variable {rows : List QF} {g : QF} {x : List Rat} {i : Nat} {lo hi : Rat}
end
end Go.PI
namespace Go.PI
section
variable {S T : ScpL}
end
end Go.PI
namespace Go.PI
def Bd (D A : Nat) (q : Rat) : Prop := 0 < D ∧ (∃ z : Int, (D : Rat) * q = (z : Rat)) ∧ -(A : Rat) ≤ q ∧ q ≤ (A : Rat)
theorem ncast_pos {D : Nat} (h : 0 < D) : (0 : Rat) < (D : Rat) := by exact_mod_cast h
theorem ncast_nn (D : Nat) : (0 : Rat) ≤ (D : Rat) := by exact_mod_cast Nat.zero_le D
theorem Bd.mul {D E A B : Nat} {p q : Rat} (hp : Bd D A p) (hq : Bd E B q) : Bd (D * E) (A * B) (p * q) := by
 obtain ⟨d0, ⟨z, hz⟩, p1, p2⟩ := hp;obtain ⟨e0, ⟨w, hw⟩, q1, q2⟩ := hq;refine ⟨Nat.mul_pos d0 e0, ⟨z * w, ?_⟩, ?_, ?_⟩
 ·rw [Rat.natCast_mul, Rat.intCast_mul, ← hz, ← hw]; grind
 ·have h1 := Rat.mul_nonneg (show (0 : Rat) ≤ A + p by grind) (show (0 : Rat) ≤ B + q by grind)
  have h2 := Rat.mul_nonneg (show (0 : Rat) ≤ A - p by grind) (show (0 : Rat) ≤ B - q by grind);rw [Rat.natCast_mul]; grind
 ·have h1 := Rat.mul_nonneg (show (0 : Rat) ≤ A - p by grind) (show (0 : Rat) ≤ B + q by grind)
  have h2 := Rat.mul_nonneg (show (0 : Rat) ≤ A + p by grind) (show (0 : Rat) ≤ B - q by grind);rw [Rat.natCast_mul]; grind
theorem Bd.up {D A B : Nat} {q : Rat} (h : Bd D A q) (k : Nat) (hk : 0 < k) (hB : A ≤ B) : Bd (k * D) B q := by
 obtain ⟨d0, ⟨z, hz⟩, p1, p2⟩ := h;have hB' : (A : Rat) ≤ B := by exact_mod_cast hB
 refine ⟨Nat.mul_pos hk d0, ⟨k * z, ?_⟩, by grind, by grind⟩;rw [Rat.natCast_mul, Rat.intCast_mul, ← hz, Rat.intCast_natCast]; grind
theorem Bd.add {D A B : Nat} {p q : Rat} (hp : Bd D A p) (hq : Bd D B q) : Bd D (A + B) (p + q) := by
 obtain ⟨d0, ⟨z, hz⟩, p1, p2⟩ := hp;obtain ⟨_, ⟨w, hw⟩, q1, q2⟩ := hq;refine ⟨d0, ⟨z + w, ?_⟩, ?_, ?_⟩
 ·rw [Rat.intCast_add, ← hz, ← hw]; grind
 ·rw [Rat.natCast_add]; grind
 ·rw [Rat.natCast_add]; grind
theorem Bd.max {D A : Nat} {p : Rat} (h : Bd D A p) : Bd D A (maxQ 0 p) := by
 unfold maxQ
 split
 ·obtain ⟨d0, _, p1, p2⟩ := h
  have := ncast_nn A;exact ⟨d0, ⟨0, by rw [Rat.intCast_zero]; grind⟩, by grind, by grind⟩
 ·exact h
theorem Bd.sz {D A d a : Nat} {q : Rat} (h : Bd D A q) (hD : D < pw d) (hA : A < pw a) : sz (d + a) q := by
 obtain ⟨d0, ⟨z, hz⟩, p1, p2⟩ := h;have hd := ncast_pos d0
 have e : q = mkRat z D := by
  rw [Rat.mkRat_eq_div, ← Rat.intCast_natCast];rw [← hz, Rat.intCast_natCast];have hn : (D : Rat) ≠ 0 := by grind
  have := Rat.mul_inv_cancel _ hn;rw [Rat.div_def]
  grind
 have hz1 : (z : Rat) ≤ ((D * A : Nat) : Rat) := by
  rw [← hz, Rat.natCast_mul];exact Rat.mul_le_mul_of_nonneg_left p2 (Rat.le_of_lt hd)
 have hz2 : -((D * A : Nat) : Rat) ≤ (z : Rat) := by
  rw [← hz, Rat.natCast_mul];have := Rat.mul_le_mul_of_nonneg_left p1 (Rat.le_of_lt hd)
  grind
 have h1 : z ≤ ((D * A : Nat) : Int) := by
  rw [← Rat.intCast_natCast] at hz1; exact Rat.intCast_le_intCast.1 hz1
 have h2 : -((D * A : Nat) : Int) ≤ z := by
  rw [← Rat.intCast_natCast, ← Rat.intCast_neg] at hz2; exact Rat.intCast_le_intCast.1 hz2
 have h3 := zC1 hD hA;have h4 := zDP (show d ≤ d + a by omega);rw [e];exact sz_mk (by omega) (by omega) (by omega)
theorem Bd.qv (r : RatL) : Bd (dn r.den) (nv r.num) (Go.PI.qv r) := by
 have d0 : 0 < dn r.den := Nat.pos_of_ne_zero (zB8 _);have hd := ncast_pos d0
 have e : (dn r.den : Rat) * Go.PI.qv r = ((sg r.neg (nv r.num) : Int) : Rat) := by
  unfold Go.PI.qv;rw [Rat.mkRat_eq_div]
  grind
 have habs := zD2 r.neg (nv r.num);refine ⟨d0, ⟨_, e⟩, ?_, ?_⟩
 ·have h1 : -((nv r.num : Nat) : Int) ≤ sg r.neg (nv r.num) := by omega
  have h2 : (-((nv r.num : Nat) : Rat)) ≤ ((sg r.neg (nv r.num) : Int) : Rat) := by
   rw [← Rat.intCast_natCast, ← Rat.intCast_neg]; exact Rat.intCast_le_intCast.2 h1
  rw [← e] at h2;have h3 : (1 : Rat) ≤ (dn r.den : Rat) := by exact_mod_cast d0
  have h5 := ncast_nn (nv r.num);apply Rat.not_lt.1;intro hc;have h4 : (0 : Rat) ≤ ((dn r.den : Rat) - 1) * (nv r.num : Rat) := Rat.mul_nonneg (by grind) h5;have h6 : 0 < (dn r.den : Rat) * (-(nv r.num : Rat) - Go.PI.qv r) := Rat.mul_pos hd (by grind)
  grind
 ·have h1 : sg r.neg (nv r.num) ≤ ((nv r.num : Nat) : Int) := by omega
  have h2 : ((sg r.neg (nv r.num) : Int) : Rat) ≤ ((nv r.num : Nat) : Rat) := by
   rw [← Rat.intCast_natCast]; exact Rat.intCast_le_intCast.2 h1
  rw [← e] at h2;have h3 : (1 : Rat) ≤ (dn r.den : Rat) := by exact_mod_cast d0
  have h5 := ncast_nn (nv r.num);apply Rat.not_lt.1;intro hc;have h4 : (0 : Rat) ≤ ((dn r.den : Rat) - 1) * (nv r.num : Rat) := Rat.mul_nonneg (by grind) h5;have h6 : 0 < (dn r.den : Rat) * (Go.PI.qv r - (nv r.num : Rat)) := Rat.mul_pos hd (by grind)
  grind
def BdL (E M : Nat) (vs : List Rat) : Prop := (0 < E ∧ 1 ≤ M) ∧ ∀ v ∈ vs, Bd E M v
theorem BdL.sz {E M d a : Nat} {vs : List Rat} (h : BdL E M vs) (hD : E < pw d) (hA : M < pw a) : ∀ v ∈ vs, sz (d + a) v := fun v hv => (h.2 v hv).sz hD hA
theorem Bd.neg {D A : Nat} {q : Rat} (h : Bd D A q) : Bd D A (-q) := by
 obtain ⟨d0, ⟨z, hz⟩, p1, p2⟩ := h;exact ⟨d0, ⟨-z, by rw [Rat.intCast_neg, ← hz]; grind⟩, by grind, by grind⟩
theorem Bd.sum {D E A B : Nat} {p q : Rat} (hp : Bd D A p) (hq : Bd E B q) : Bd (D * E) (A + B) (p + q) := by
 have h1 := hp.up E hq.1 (Nat.le_refl _);have h2 := hq.up D hp.1 (Nat.le_refl _);rw [Nat.mul_comm] at h1;exact h1.add h2
end Go.PI
namespace Go.PI
def lQ (r : RatL) : Nat := r.num.length + r.den.length
def vL (l : List LemL) : Nat := (l.map fun m => lQ m.value).sum
def sC (l : List MultL) : Nat := (l.map fun m => lQ m.coef + 1).sum
def NodeL.tot (f : NodeL → Nat) (n : NodeL) : Nat := f n + (n.kids.attach.map fun ⟨k, _⟩ => NodeL.tot f k).sum
termination_by SizeOf.sizeOf n
decreasing_by exact NodeL.sizeOf_kid ‹_›
def spF (n : NodeL) : Nat := lQ n.split.rat
def vlF (n : NodeL) : Nat := vL n.lemmas
def coF (n : NodeL) : Nat := (n.lemmas.map fun m => sC m.proof).sum + sC n.proof
def NodeL.bk (n : NodeL) : Nat := n.tot fun x => spF x + vlF x + coF x
end Go.PI
namespace Go.PI
instance dec_okT (ts : List TermL) (n : Int) (i : Nat) : Decidable (okT ts n i) := by unfold okT; exact inferInstance
instance dec_ValidF (f : AffL) (n : Int) : Decidable (ValidF f n) := by unfold ValidF; exact inferInstance
instance dec_VaG (g : GraL) : Decidable (VaG g) := by unfold VaG; exact inferInstance
instance dec_smF (f : AffL) : Decidable (smF f) := by unfold smF; exact inferInstance
instance dec_smFs (l : List AffL) (m : Int) : Decidable (smFs l m) := by unfold smFs; exact inferInstance
instance dec_smG (g : GraL) : Decidable (smG g) := by unfold smG; exact inferInstance
def E1 : QF := ⟨[(0, 1)], 0⟩
def E2 : QF := ⟨[(0, -1)], 1⟩
def E3 : QF := ⟨[(1, 2), (2, 1)], 0⟩
end Go.PI
namespace Go.PI
def BdF (D A : Nat) (f : QF) : Prop := Bd D A f.c ∧ ∀ p ∈ f.ts, Bd D A p.2
theorem BdF.sz {D A d a : Nat} {f : QF} (h : BdF D A f) (hD : D < pw d) (hA : A < pw a) : szF (d + a) f := ⟨h.1.sz hD hA, fun p hp => (h.2 p hp).sz hD hA⟩
def lowF (s : Nat) (f : QF) : Prop := ∃ D A, D < pw s ∧ A < pw s ∧ BdF D A f
theorem lowF.sz {s : Nat} {f : QF} (h : lowF s f) : szF (2 * s) f := by
 obtain ⟨D, A, h1, h2, h3⟩ := h;have := h3.sz h1 h2
 rwa [show s + s = 2 * s by omega] at this
end Go.PI
namespace Go.PI
section
variable {us : List QF} {n : Nat} {p : List Int} {x : List Rat}
def smUW (us : List QF) (n : Nat) : Prop := n < 4 ∧ us.length < 5 ∧ ∀ j, j < us.length → szF 200 us[j]! ∧ okF (n + j : Nat) us[j]!
end
structure smQ (q : QryL) (kg : Nat) : Prop where
 va : VaQ q
 ins : q.g.ins ≤ 3
 un : q.g.units.length ≤ 4
 rows : q.r.rows.length ≤ 8
 g : okGra 199 q.g
 r : okReg 60 q.r
 goal : okA kg q.goal
theorem smQ.n {q : QryL} {kg : Nat} (h : smQ q kg) : ∃ n : Nat, q.g.ins = (n : Int) ∧ 1 ≤ n ∧ n ≤ 3 ∧ q.r.lo.length = n ∧ q.r.hi.length = n := by
 obtain ⟨⟨h1, h2⟩, _⟩ := h.va.1;have := h.ins;have h3 := h.va.2.1.2.1;have h4 := h.va.2.1.2.2.1;exact ⟨q.g.ins.toNat, by omega, by omega, by omega, by omega, by omega⟩
theorem smQ.us {q : QryL} {kg n : Nat} (h : smQ q kg) (hn : q.g.ins = (n : Int)) : smUW (usQ q) n := by
 have h1 := h.ins;have h2 := h.un;refine ⟨by omega, by rw [usQ_len]; omega, fun j hj => ?_⟩;rw [usQ_len] at hj;rw [usQ_get hj];refine ⟨zFE (by decide) (szF_okA (h.g.1.2 _ (by rw [getElem!_pos q.g.units j hj]; exact List.getElem_mem _)) (by decide)), ?_⟩;have := okF_of (h.va.1.2.2.2.1 j hj);rw [hn] at this
 exact_mod_cast this
section
variable {q : QryL} {kg n : Nat} {x : List Rat}
end
end Go.PI
namespace Go.PI
section
variable {q : QryL} {kg n : Nat} {x : List Rat}
end
section
variable {q : QryL} {kg n : Nat} {x : List Rat}
end
end Go.PI
namespace Go.PI
end Go.PI
namespace Go.PI
end Go.PI
namespace Go.PI
theorem cf_none {v : Int} : ∀ {l : List QT}, (∀ p ∈ l, p.1 ≠ v) → cf l v = 0
 | [], _ => rfl
 | p :: l, h => by
   rw [cf, if_neg (h p (by simp)), cf_none fun q hq => h q (List.mem_cons_of_mem _ hq)];exact Rat.zero_add 0
theorem cf_at {v : Int} : ∀ {l : List QT}, l.Pairwise (fun p q => p.1 < q.1) → ∀ {p : QT}, p ∈ l → p.1 = v → cf l v = p.2
 | [], _, p, hp, _ => by cases hp
 | q :: l, h, p, hp, e => by
   obtain ⟨h1, h2⟩ := List.pairwise_cons.1 h;rw [cf];rcases List.mem_cons.1 hp with rfl | hp
   ·rw [if_pos e, cf_none fun r hr => by have := h1 r hr; omega]
    exact Rat.add_zero _
   ·have := h1 p hp
    rw [if_neg (by omega), cf_at h2 hp e];exact Rat.zero_add _
theorem sz_0 {k : Nat} (hk : 1 ≤ k) : sz k (0 : Rat) := zC5 hk (⟨by decide, by decide⟩ : sz 1 (0 : Rat))
theorem cf_sz {k : Nat} (hk : 1 ≤ k) : ∀ {l : List QT} {v : Int}, l.Pairwise (fun p q => p.1 < q.1) → (∀ p ∈ l, sz k p.2) → sz k (cf l v) := fun {l v} hp hl => by
 by_cases h : ∃ p ∈ l, p.1 = v
 ·obtain ⟨p, h1, h2⟩ := h
  rw [cf_at hp h1 h2]; exact hl p h1
 ·rw [cf_none fun p hp e => h ⟨p, hp, e⟩]
  exact sz_0 hk
structure szN (f : QF) (x : List Rat) (k : Nat) : Prop where
 ff : szF k f
 ok : okF x.length f
 len : f.ts.length ≤ 3
 xs : ∀ q ∈ x, sz 200 q
 xl : x.length ≤ 3
theorem szN.ev {f : QF} {x : List Rat} {k : Nat} (h : szN f x k) : sz (4 * k + 603) (evQ f x) := by
 have := evQ_sz h.ff h.xs h.ok.2;exact zC5 (by have := Nat.mul_le_mul_right (k + 200 + 1) h.len; omega) this
theorem w_get {α : Type} [Inhabited α] {l : List α} {i : Nat} (h : i < l.length) : l[i]! ∈ l := by rw [getElem!_pos l i h]; exact List.getElem_mem h
section
variable {q : QryL} {kg n : Nat} {x : List Rat}
end
end Go.PI
namespace Go.PI
def smN (xs : List Int) : Int × Bool := if xs = [] then (0, true) else (xs[0]!, decide (xs.length = 1 ∧ xs[0]! ≤ 1073741824))
theorem smN_lims (n : Nat) : ((smN (lims n)).2 = true ↔ n ≤ 1073741824) ∧ (n ≤ 1073741824 → (smN (lims n)).1 = n) := by
 have hv := zAJ n;unfold smN;by_cases h0 : lims n = []
 ·rw [if_pos h0]
  rw [h0] at hv;have : n = 0 := hv.symm;subst this;exact ⟨⟨fun _ => by omega, fun _ => rfl⟩, fun _ => rfl⟩
 ·rw [if_neg h0]
  have hl := List.length_pos_iff.2 h0
  have one : (lims n).length = 1 → (lims n)[0]! = (n : Int) := fun h1 => by
   obtain ⟨a, ha⟩ := List.length_eq_one_iff.1 h1;have hok := zAI n a (by rw [ha]; simp);rw [ha] at hv ⊢;have : nv [a] = a.toNat := by simp [nv]
   show a = _
   omega
  refine ⟨⟨fun h => ?_, fun h => ?_⟩, fun h => ?_⟩
  ·obtain ⟨h1, h2⟩ := of_decide_eq_true h
   rw [one h1] at h2; omega
  ·have h1 : (lims n).length ≤ 1 := zA4 (Nat.lt_of_le_of_lt h (by decide))
   exact decide_eq_true ⟨by omega, by rw [one (by omega)]; omega⟩
  ·have h1 : (lims n).length ≤ 1 := zA4 (Nat.lt_of_le_of_lt h (by decide))
   exact one (by omega)
def okX (q : Rat) : Prop := q.num.natAbs ≤ 1073741824 ∧ q.den ≤ 1073741824
instance (q : Rat) : Decidable (okX q) := by unfold okX; exact inferInstance
theorem sm_num (q : Rat) : ((smN (cr q).num).2 = true ↔ q.num.natAbs ≤ 1073741824) ∧ (q.num.natAbs ≤ 1073741824 → (smN (cr q).num).1 = (q.num.natAbs : Int)) := smN_lims _
theorem sm_den (q : Rat) : ((smN (cr q).den).2 = true ↔ q.den ≤ 1073741824) ∧ (q.den ≤ 1073741824 → (if 1 > (smN (cr q).den).1 then 1 else (smN (cr q).den).1) = (q.den : Int)) := by
 have hp := q.den_pos;have e : (cr q).den = if q.den = 1 then [] else lims q.den := by unfold cr; rfl
 rw [e];by_cases h1 : q.den = 1
 ·rw [if_pos h1]
  refine ⟨⟨fun _ => by omega, fun _ => rfl⟩, fun _ => ?_⟩;show (if (1 : Int) > 0 then 1 else 0) = _
  rw [if_pos (by decide), h1]; rfl
 ·rw [if_neg h1]
  obtain ⟨s1, s2⟩ := smN_lims q.den;refine ⟨s1, fun h => ?_⟩;rw [s2 h, if_neg (by omega)]
theorem cr_neg (q : Rat) : (cr q).neg = decide (q.num < 0) := rfl
def frX (f : QF) (vars : Nat) : List Rat := (List.range (vars + 1)).map fun i => if i < vars then cf f.ts i else f.c
theorem frX_len (f : QF) (vars : Nat) : (frX f vars).length = vars + 1 := by simp [frX]
theorem zJC {f : QF} {vars i : Nat} (h : i < vars + 1) : (frX f vars)[i]! = if i < vars then cf f.ts i else f.c := by
 rw [getElem!_pos _ i (by rw [frX_len]; exact h)]; simp [frX]
def okXs (xs : List Rat) : Prop := ∀ i, i < xs.length → okX xs[i]!
def nuI (xs : List Rat) (i : Nat) : List Int := (List.range xs.length).map fun j => if j < i then xs[j]!.num else 0
def deI (xs : List Rat) (i : Nat) : List Int := (List.range xs.length).map fun j => if j < i then (xs[j]!.den : Int) else 0
theorem nuI_len (xs : List Rat) (i : Nat) : (nuI xs i).length = xs.length := by simp [nuI]
theorem deI_len (xs : List Rat) (i : Nat) : (deI xs i).length = xs.length := by simp [deI]
theorem mapI_set {α : Type} (n : Nat) (f : Nat → α) (z : α) {i : Nat} (h : i < n) : ((List.range n).map fun j => if j < i then f j else z).set i (f i) = (List.range n).map fun j => if j < i + 1 then f j else z := by
 refine List.ext_getElem (by simp) fun j h1 h2 => ?_
 by_cases e : j = i
 ·subst e; simp
 ·rw [List.getElem_set_ne (by omega)]
  simp only [List.getElem_map, List.getElem_range];by_cases e2 : j < i
  ·simp only [if_pos e2, if_pos (show j < i + 1 by omega)]
  ·simp only [if_neg e2, if_neg (show ¬ j < i + 1 by omega)]
theorem nuI_set {xs : List Rat} {i : Nat} (h : i < xs.length) : (nuI xs i).set i xs[i]!.num = nuI xs (i + 1) := mapI_set _ (fun j => xs[j]!.num) 0 h
theorem deI_set {xs : List Rat} {i : Nat} (h : i < xs.length) : (deI xs i).set i (xs[i]!.den : Int) = deI xs (i + 1) := mapI_set _ (fun j => (xs[j]!.den : Int)) 0 h
theorem zI6 {α : Type} (n : Nat) (f : Nat → α) (z : α) : ((List.range n).map fun j => if j < 0 then f j else z) = List.replicate n z := by
 refine List.ext_getElem (by simp) fun j h1 h2 => by simp
theorem deI_get {xs : List Rat} {j : Nat} (h : j < xs.length) : (deI xs xs.length)[j]! = (xs[j]!.den : Int) := by
 rw [getElem!_pos _ j (by rw [deI_len]; exact h)]; simp [deI, h]
def laI (xs : List Rat) : Nat → Nat
 | 0 => 1
 | i + 1 => laI xs i / Nat.gcd (laI xs i) xs[i]!.den * xs[i]!.den
theorem laI_pos (xs : List Rat) : ∀ i, 0 < laI xs i
 | 0 => Nat.one_pos
 | i + 1 => by
   have h1 := laI_pos xs i;have h2 := xs[i]!.den_pos;have h3 : 0 < Nat.gcd (laI xs i) xs[i]!.den := Nat.gcd_pos_of_pos_left _ h1;exact Nat.mul_pos (Nat.div_pos (Nat.gcd_le_left _ h1) h3) h2
theorem laI_dvd (xs : List Rat) : ∀ i j, j < i → xs[j]!.den ∣ laI xs i
 | 0, j, h => by omega
 | i + 1, j, h => by
   show _ ∣ laI xs i / Nat.gcd (laI xs i) xs[i]!.den * xs[i]!.den
   by_cases e : j = i
   ·subst e; exact Nat.dvd_mul_left _ _
   ·have h1 := laI_dvd xs i j (by omega)
    have h2 : laI xs i ∣ laI xs i / Nat.gcd (laI xs i) xs[i]!.den * xs[i]!.den := by
     have := Nat.dvd_lcm_left (laI xs i) xs[i]!.den;rw [Nat.lcm, Nat.mul_comm, Nat.mul_div_assoc _ (Nat.gcd_dvd_left _ _), Nat.mul_comm] at this;exact this
    exact Nat.dvd_trans h1 h2
theorem laI_le (xs : List Rat) (i : Nat) : laI xs (i + 1) ≤ laI xs i * xs[i]!.den := Nat.mul_le_mul_right _ (Nat.div_le_self _ _)
def laOk (xs : List Rat) (n : Nat) : Prop := ∀ i, i < n → laI xs (i + 1) ≤ 1073741824
theorem laOk_le {xs : List Rat} {n : Nat} (h : laOk xs n) : laI xs n ≤ 1073741824 := by
 cases n with
 | zero => exact (by decide : 1 ≤ 1073741824)
 | succ n => exact h n (Nat.lt_succ_self _)
def meI (xs : List Rat) (i : Nat) : List Int := (List.range xs.length).map fun j => if j < i then xs[j]!.num * ((laI xs xs.length / xs[j]!.den : Nat) : Int) else xs[j]!.num
theorem zHC (xs : List Rat) (i : Nat) : (meI xs i).length = xs.length := by simp [meI]
theorem meI_zero (xs : List Rat) : meI xs 0 = nuI xs xs.length := by
 refine List.ext_getElem (by simp [meI, nuI]) fun j h1 h2 => ?_
 have : j < xs.length := by simpa [meI] using h1
 simp [meI, nuI, this]
theorem meI_get {xs : List Rat} {i : Nat} (h : i < xs.length) : (meI xs i)[i]! = xs[i]!.num := by
 rw [getElem!_pos _ i (by rw [zHC]; exact h)]; simp [meI]
theorem meI_set {xs : List Rat} {i : Nat} (h : i < xs.length) : (meI xs i).set i (xs[i]!.num * ((laI xs xs.length / xs[i]!.den : Nat) : Int)) = meI xs (i + 1) := by
 refine List.ext_getElem (by simp [meI]) fun j h1 h2 => ?_
 by_cases e : j = i
 ·subst e; simp [meI]
 ·rw [List.getElem_set_ne (by omega)]
  simp only [meI, List.getElem_map, List.getElem_range];by_cases e2 : j < i
  ·simp only [if_pos e2, if_pos (show j < i + 1 by omega)]
  ·simp only [if_neg e2, if_neg (show ¬ j < i + 1 by omega)]
def meL (xs : List Rat) : List Int := meI xs xs.length
theorem meL_get {xs : List Rat} {i : Nat} (h : i < xs.length) : (meL xs)[i]! = xs[i]!.num * ((laI xs xs.length / xs[i]!.den : Nat) : Int) := by
 unfold meL;rw [getElem!_pos _ i (by rw [zHC]; exact h)]; simp [meI, h]
open Classical in
noncomputable def denV (xs : List Rat) : List Int × Bool := if okXs xs ∧ laOk xs xs.length then (redR (meL xs), redB (meL xs)) else ([], false)
theorem me_sz {xs : List Rat} (h : okXs xs) (hl : laI xs xs.length ≤ 1073741824) : ∀ i, i ≤ xs.length → ∀ x ∈ meI xs i, x.natAbs ≤ 1152921504606846976 := fun i hi x hx => by
 obtain ⟨j, hj, rfl⟩ := List.mem_map.1 hx;have hj : j < xs.length := List.mem_range.1 hj;have h1 := (h j hj).1;have h2 : laI xs xs.length / xs[j]!.den ≤ 1073741824 := Nat.le_trans (Nat.div_le_self _ _) hl
 split
 ·rw [Int.natAbs_mul, Int.natAbs_natCast]
  exact Nat.le_trans (Nat.mul_le_mul h1 h2) (by decide)
 ·omega
theorem denV_ok {xs : List Rat} (h : (denV xs).2 = true) : (denV xs).1.length = xs.length ∧ (∀ x ∈ (denV xs).1, okG x) ∧ ∃ s : Rat, 0 < s ∧ ∀ i, i < xs.length → (((denV xs).1[i]! : Int) : Rat) = s * xs[i]! := by
 unfold denV at h ⊢
 split at h
 ·rename_i hc
  rw [if_pos hc];dsimp only at h ⊢;obtain ⟨e, he, hm⟩ := redR_mul h;refine ⟨by rw [zH5]; exact zHC _ _, (redR_ok h).2, (laI xs xs.length : Rat) / (e : Rat), ?_, fun i hi => ?_⟩
  ·have h1 := laI_pos xs xs.length
   have h2 : (0 : Rat) < (laI xs xs.length : Rat) := by exact_mod_cast h1
   have h3 : (0 : Rat) < (e : Rat) := by exact_mod_cast he
   rw [Rat.div_def]; exact Rat.mul_pos h2 (Rat.inv_pos.2 h3)
  ·have h1 := hm i (by rw [show (meL xs).length = xs.length from zHC _ _]; exact hi)
   rw [meL_get hi] at h1
   have h3 : (e : Rat) ≠ 0 := by
    intro h0;have : e = 0 := by exact_mod_cast h0
    omega
   have hd : xs[i]!.den ∣ laI xs xs.length := laI_dvd xs _ i hi;obtain ⟨k, hk⟩ := hd;have hdp := xs[i]!.den_pos;rw [hk, Nat.mul_div_cancel_left _ hdp] at h1;have h4 : (((redR (meL xs))[i]! : Int) : Rat) * (e : Rat) = (xs[i]!.num : Rat) * (k : Rat) := by exact_mod_cast h1
   have h5 : (laI xs xs.length : Rat) = (xs[i]!.den : Rat) * (k : Rat) := by rw [hk]; exact_mod_cast rfl
   have h6 : xs[i]! * (xs[i]!.den : Rat) = (xs[i]!.num : Rat) := by
    have h8 : ((xs[i]!.num : Int) : Rat) / ((xs[i]!.den : Nat) : Rat) = xs[i]! := by rw [← Rat.mkRat_eq_div, Rat.mkRat_self]
    have h9 : (xs[i]!.den : Rat) ≠ 0 := by
     intro h0;have : xs[i]!.den = 0 := by exact_mod_cast h0
     omega
    have h10 := Rat.div_mul_cancel (a := (xs[i]!.num : Rat)) h9
    rwa [h8] at h10
   rw [h5]
   have h7 : (((redR (meL xs))[i]! : Int) : Rat) = (xs[i]!.num : Rat) * (k : Rat) / (e : Rat) := by
    rw [← h4, Rat.mul_div_cancel h3]
   rw [h7, ← h6, Rat.div_def, Rat.div_def]; grind
 ·cases h
end Go.PI
namespace Go.PI
open Go.RowKit
theorem LeS_nil {G : Gl} {n0 : Nat} {s : St} {j sz : Nat} {agg : Bool} (hj : s.t j = .nilsl) :
 LeS G n0 s ⟨tset s.t j (.own s.nx 0 0), hset s.h s.nx (some ⟨[], sz, agg⟩), s.z, s.nx + 1⟩ := by
 intro E N df a w A κ hE hR;have hf := hR.fresh s.nx (Nat.le_refl _);have hn : E.n0 ≤ s.nx := hR.n0;have hk := hf.2.2;have hle := zCA (0, sz, 0) hk;refine ⟨A, kset κ s.nx (0, sz, 0), ⟨hR.hr.empty hn hk, fun r hr => ?_, Nat.le_succ_of_le hn, fun i hi => ?_, hR.size, hR.df⟩⟩
 ·have hr' : s.nx + 1 ≤ r := hr
  have hne : r ≠ s.nx := by omega
  have h := hR.fresh r (by omega);exact ⟨by simp only [hset, if_neg hne]; exact h.1, h.2.1, by rw [zAK κ _ hne]; exact h.2.2⟩
 ·show RV w A _ (tset s.t j (.own s.nx 0 0) i) _
  have hv := hR.tm i hi;unfold tset
  split
  ·rename_i e
   subst e;rw [hj] at hv;rw [hv.nilsl_inv];exact zDH (zAT ..) none
  ·exact hv.mono (fun _ h => h) (fun _ _ _ => rfl) hle
theorem HR.retell {E : Env} {G : Gl} {w : World} {A : Nat → Prop} {κ : Ka} {h : Hp} {z : Fz} (H : HR E G w A κ h z) {r : Nat} {b b' : Blk} (hb : h r = some b) (hsz : b'.sz = b.sz) (hagg : b'.agg = b.agg) (hlen : b'.els.length ≤ b.els.length)
 (hel : ∀ (i : Nat) (e' : PV), b'.els[i]? = some e' → ∃ e : PV, b.els[i]? = some e ∧ e'.cells.length = e.cells.length ∧ e'.isAgg = e.isAgg ∧ ∀ (j : Nat) (d' : PV), e'.cells[j]? = some d' → ∃ d : PV, e.cells[j]? = some d ∧ ∀ v, RV w A κ d v → RV w A κ d' v)
 (hg : ∀ i, b = gblk i → b' = b) : HR E G w A κ (hset h r (some b')) z := by
 have get : ∀ r' q, hset h r (some b') r' = some q → ∃ q0, h r' = some q0 ∧ (q = q0 ∨ (r' = r ∧ q = b' ∧ q0 = b)) := fun r' q hq => by
  unfold hset at hq
  split at hq
  ·rename_i e; subst e; cases hq; exact ⟨b, hb, Or.inr ⟨rfl, rfl, rfl⟩⟩
  ·exact ⟨q, hq, Or.inl rfl⟩
 refine ⟨H.bel, H.hB, H.alt, H.a0, H.a1, H.acell, H.k0, H.glob, H.klt, ⟨H.kp.base, H.kp.keep, H.kp.wr, fun r' q m sz cap hq hκ hc hz => ?_, H.kp.mks, H.kp.nd, H.kp.kb, H.kp.kk, H.kp.zk, H.kp.mk0, fun g => ⟨(H.kp.gk g).1, (H.kp.gk g).2.1, fun q hq => ?_⟩⟩, fun r' q hq hκ => ?_, fun r1 r2 q1 q2 m1 m2 s1 s2 c1 c2 hne h1 h2 => ?_⟩
 ·obtain ⟨q0, h1, _⟩ := get r' q hq
  exact H.kp.own r' q0 m sz cap h1 hκ hc hz
 ·obtain ⟨q0, h1, h2⟩ := get 0 q hq
  have e := (H.kp.gk g).2.2 q0 h1;rcases h2 with rfl | ⟨_, rfl, rfl⟩
  ·exact e
  ·rw [hg _ e]; exact e
 ·obtain ⟨q0, h1, h2⟩ := get r' q hq
  rcases h2 with rfl | ⟨rfl, rfl, rfl⟩
  ·exact H.blk r' q h1 hκ
  ·obtain ⟨m, cap, g1, g2, g3, g4⟩ := H.blk r' q0 h1 hκ
   refine ⟨m, cap, by rw [hsz]; exact g1, by omega, fun e' he => ?_, ?_⟩
   ·obtain ⟨i, hi, rfl⟩ := List.getElem_of_mem he
    obtain ⟨e, e1, e2, e3, _⟩ := hel i _ (List.getElem?_eq_getElem hi);have := g3 e (List.mem_of_getElem? e1);rw [e2, e3, hsz, hagg]; exact this
   ·rcases g4 with g4 | ⟨c, ty, f1, f2, f3, f4, f5, f6, f7⟩
    ·exact Or.inl g4
    ·refine Or.inr ⟨c, ty, f1, f2, by rw [hsz]; exact f3, f4, fun i e' he j d' hd => ?_, f6, f7⟩
     rw [hsz];obtain ⟨e, e1, e2, e3, e4⟩ := hel i e' he;obtain ⟨d, d1, d2⟩ := e4 j d' hd;obtain ⟨u, t1, t2, t3⟩ := f5 i e e1 j d d1;exact ⟨u, t1, d2 u t2, t3⟩
 ·obtain ⟨p1, g1, _⟩ := get r1 q1 h1
  obtain ⟨p2, g2, _⟩ := get r2 q2 h2;exact H.excl r1 r2 p1 p2 m1 m2 s1 s2 c1 c2 hne g1 g2
def setC (b : Blk) (i c : Nat) (v : PV) : Blk := match b.els[i]? with
 | some (.agg cs) => ⟨b.els.set i (.agg (cs.set c v)), b.sz, b.agg⟩
 | _ => b
theorem LeS_nilB {G : Gl} {n0 : Nat} {s : St} {r i c sz : Nat} {agg : Bool} {b : Blk} {cs : List PV} (hb : s.h r = some b) (hi : b.els[i]? = some (.agg cs)) (hc : cs[c]? = some .nilsl) :
 LeS G n0 s ⟨s.t, hset (hset s.h s.nx (some ⟨[], sz, agg⟩)) r (some (setC b i c (.own s.nx 0 0))), s.z, s.nx + 1⟩ := by
 intro E N df a w A κ hE hR;have hf := hR.fresh s.nx (Nat.le_refl _);have hn : E.n0 ≤ s.nx := hR.n0;have hk := hf.2.2;have hle := zCA (0, sz, 0) hk;have hrn : r < s.nx := Nat.lt_of_not_le fun e => by have := (hR.fresh r e).1; rw [this] at hb; cases hb
 have eset : setC b i c (.own s.nx 0 0) = ⟨b.els.set i (.agg (cs.set c (.own s.nx 0 0))), b.sz, b.agg⟩ := by unfold setC; rw [hi]
 have H1 := hR.hr.empty (sz := sz) (agg := agg) hn hk;have hb1 : hset s.h s.nx (some ⟨[], sz, agg⟩) r = some b := by simp only [hset, if_neg (show r ≠ s.nx by omega)]; exact hb
 have H2 : HR E G w A (kset κ s.nx (0, sz, 0)) (hset (hset s.h s.nx (some ⟨[], sz, agg⟩)) r (some (setC b i c (.own s.nx 0 0)))) s.z := by
  rw [eset];refine H1.retell hb1 rfl rfl (by simp) (fun j e' he => ?_) (fun k e => ?_)
  ·rw [List.getElem?_set] at he
   split at he
   ·rename_i e
    subst e
    split at he
    ·cases he
     refine ⟨_, hi, by simp [PV.cells], rfl, fun q d' hd => ?_⟩;simp only [PV.cells, List.getElem?_set] at hd
     split at hd
     ·rename_i e
      subst e
      split at hd
      ·cases hd
       refine ⟨_, hc, fun v hv => ?_⟩;rw [hv.nilsl_inv];exact zDH (zAT ..) none
      ·cases hd
     ·exact ⟨d', hd, fun _ h => h⟩
    ·cases he
   ·exact ⟨e', he, rfl, rfl, fun q d' hd => ⟨d', hd, fun _ h => h⟩⟩
  ·subst e
   match i, hi with
   | 0, hi => simp [gblk] at hi
   | i + 1, hi => simp [gblk] at hi
 refine ⟨A, kset κ s.nx (0, sz, 0), ⟨H2, fun q hq => ?_, Nat.le_succ_of_le hn, fun j hj => ?_, hR.size, hR.df⟩⟩
 ·have hq' : s.nx + 1 ≤ q := hq
  have hne : q ≠ s.nx := by omega
  have h := hR.fresh q (by omega);exact ⟨by simp only [hset, if_neg hne, if_neg (show q ≠ r by omega)]; exact h.1, h.2.1, by rw [zAK κ _ hne]; exact h.2.2⟩
 ·exact (hR.tm j hj).mono (fun _ h => h) (fun _ _ _ => rfl) hle
inductive Np where
 | sl (j : Nat)
 | cl (r i c : Nat)
def nilS : St → List (Np × Nat × Bool) → St
 | s, [] => s
 | ⟨t, h, z, nx⟩, (.sl j, sz, agg) :: l => nilS ⟨ts t j (.own nx 0 0), hs h nx (some ⟨[], sz, agg⟩), z, nx + 1⟩ l
 | ⟨t, h, z, nx⟩, (.cl r i c, sz, agg) :: l => (match h r with
   | some b => nilS ⟨t, hs (hs h nx (some ⟨[], sz, agg⟩)) r (some (setC b i c (.own nx 0 0))), z, nx + 1⟩ l
   | none => ⟨t, h, z, nx⟩)
def nilOk : St → List (Np × Nat × Bool) → Prop
 | _, [] => True
 | ⟨t, h, z, nx⟩, (.sl j, sz, agg) :: l => t j = .nilsl ∧ nilOk ⟨ts t j (.own nx 0 0), hs h nx (some ⟨[], sz, agg⟩), z, nx + 1⟩ l
 | ⟨t, h, z, nx⟩, (.cl r i c, sz, agg) :: l => ∃ b cs, h r = some b ∧ b.els[i]? = some (.agg cs) ∧ cs[c]? = some .nilsl ∧ nilOk ⟨t, hs (hs h nx (some ⟨[], sz, agg⟩)) r (some (setC b i c (.own nx 0 0))), z, nx + 1⟩ l
theorem zIO {G : Gl} {n0 : Nat} : ∀ {N : List (Np × Nat × Bool)} {s s' : St}, nilOk s N → LeS G n0 (nilS s N) s' → LeS G n0 s s'
 | [], ⟨t, h, z, nx⟩, s', _, hl => hl
 | (.sl j, sz, agg) :: l, ⟨t, h, z, nx⟩, s', hN, hl => by
   have h1 := LeS_nil (G := G) (n0 := n0) (s := ⟨t, h, z, nx⟩) (sz := sz) (agg := agg) hN.1;refine h1.trans ?_;have h2 := zIO (N := l) hN.2 hl;rw [ts_eq, zES] at h2;exact h2
 | (.cl r i c, sz, agg) :: l, ⟨t, h, z, nx⟩, s', hN, hl => by
   obtain ⟨b, cs, g1, g2, g3, g4⟩ := hN;have h1 := LeS_nilB (G := G) (n0 := n0) (s := ⟨t, h, z, nx⟩) (sz := sz) (agg := agg) g1 g2 g3;refine h1.trans ?_;unfold nilS at hl;rw [g1] at hl;have h2 := zIO (N := l) g4 hl;rw [zES, zES] at h2;exact h2
section
variable {P : Program} {T : Ti} {G : Gl} {n0 : Nat}
theorem tellV {K : St → Prop} {Q : Exit → St → Prop} {s : St} (N : List (Np × Nat × Bool)) (L : List (Nat × PV)) (H : List (Nat × Blk)) (Z : List Nat) (k : Nat) (hk : n0 ≤ k) (hZ : ∀ r ∈ Z, r < k) (hN : nilOk s N) (hs : Kept n0 (nilS s N) L H Z k)
 (h : K ⟨sv L, hv H, zv Z, k⟩) : thenL (LeS G, n0) K Q .normal s := tell_to (zIO hN (hs.le hk hZ)) (by rw [← sv_eq, ← hv_eq, ← zv_eq]; exact h)
theorem zKR (hT : ∀ i x, T i = some x → tinfo P i = x) {c : Code} {Q : Exit → St → Prop} {s : St} {ι : Type} (N : List (Np × Nat × Bool)) (L : ι → List (Nat × PV)) (H : ι → List (Nat × Blk)) (Z : List Nat) (k : Nat) (Inv : ι → Prop) (μ : ι → Nat) (i0 : ι) (h0 : Inv i0) (hk : n0 ≤ k) (hZ : ∀ r ∈ Z, r < k)
 (hN : nilOk s N) (hs : Kept n0 (nilS s N) (L i0) (H i0) Z k)
 (round : ∀ i, Inv i → VC P T G n0 c (thenQ (fun s' => ∃ i', (Inv i' ∧ μ i' < μ i) ∧ Kept n0 s' (L i') (H i') Z k) Q) ⟨sv (L i), hv (H i), zv Z, k⟩) :
 loopV P G (FnC P G) (FnH P G) (LeS G, n0) c Q s := by
 unfold loopV;refine zF8 L H (fun _ => Z) k Inv μ i0 h0 (zIO hN (hs.le hk hZ)) fun i hi => ?_
 have := round i hi;rw [sv_eq, hv_eq, zv_eq] at this
 exact zJ4 hT (fun e s h => by
  cases e <;> first | (obtain ⟨i', ⟨h1, h2⟩, h3⟩ := h; exact ⟨i', h1, h2, h3.le hk hZ⟩) | exact h) this
end
end Go.PI
namespace Go.PI
theorem get_mem {α : Type} [Inhabited α] {l : List α} {i : Nat} (h : i < l.length) : l[i]! ∈ l := by rw [getElem!_pos l i h]; exact List.getElem_mem h
theorem mapF_id {g : PV → Option (PV × List Nat)} {α : Type} {f : α → PV} (hf : ∀ x, g (f x) = some (f x, [])) : ∀ l : List α, mapF g (l.map f) = some (l.map f, [])
 | [] => rfl
 | a :: l => by rw [List.map_cons]; exact zAV (hf a) (mapF_id hf l)
theorem mapF_snoc {g : PV → Option (PV × List Nat)} {c d : PV} {ks : List Nat} (h1 : g c = some (d, ks)) : ∀ {l ds : List PV}, mapF g l = some (ds, []) → mapF g (l ++ [c]) = some (ds ++ [d], ks)
 | [], ds, h => by
   have : ds = [] := by simp [mapF] at h; exact h
   subst this;have := zAV (f := g) (cs := []) (ds := []) (ls := []) h1 rfl
   simpa using this
 | a :: l, ds, h => by
   simp only [mapF] at h
   split at h
   ·rename_i d1 k1 ds1 k2 e1 e2
    simp only [Option.some.injEq, Prod.mk.injEq, List.append_eq_nil_iff] at h;obtain ⟨rfl, rfl, rfl⟩ := h;exact zAV e1 (mapF_snoc h1 e2)
   ·cases h
theorem frz_F {h : Hp} {n : Nat} (f : QF) : frz h (n + 1) (encF f) = some (encF f, []) := by cases n <;> rfl
theorem scale_zero {v : QF} (hv : Srt v.ts) (c : Rat) : scaleR v c = mergeQ zeroQ v c := by
 have h1 := zCO c _ zeroQ.ts v.ts (Nat.le_refl _) zFK hv;obtain ⟨h3, h4, _⟩ := zFX c hv;have e : sclL c v.ts = mrg c zeroQ.ts v.ts := srt_ext h3 h1.1 fun w => by rw [h1.2, h4]; simp only [zeroQ, cf]; grind
 unfold mergeQ scaleR;simp only [e, QF.mk.injEq, true_and];simp only [zeroQ]; grind
theorem zDA {j n : Nat} {p : Nat → Prop} (h : ∀ j, j < n → p j) (hn : p n) (hj : j < n + 1) : p j := by
 rcases Nat.lt_or_eq_of_le (Nat.le_of_lt_succ hj) with hj | rfl
 ·exact h j hj
 ·exact hn
end Go.PI
namespace Go.PI
theorem filt_pos {p : FR → Bool} {m : List FR} {r : FR} (h : p r = true) : (m ++ [r]).filter p = m.filter p ++ [r] := by
 rw [List.filter_append, List.filter_cons_of_pos h]; rfl
theorem filt_neg {p : FR → Bool} {m : List FR} {r : FR} (h : ¬ p r = true) : (m ++ [r]).filter p = m.filter p := by
 rw [List.filter_append, List.filter_cons_of_neg h, List.filter_nil, List.append_nil]
def upI (l : List FR) (v : Nat) (i : Nat) : Nat := ((l.take i).filter fun (r : FR) => decide (0 < r.c[v]!)).length
def dnI (l : List FR) (v : Nat) (i : Nat) : Nat := ((l.take i).filter fun (r : FR) => decide (r.c[v]! < 0)).length
def pairsN (l : List FR) (v : Nat) : Nat := upI l v l.length * dnI l v l.length
theorem upI_succ {l : List FR} {v i : Nat} (h : i < l.length) : upI l v (i + 1) = if 0 < l[i]!.c[v]! then upI l v i + 1 else upI l v i := by
 unfold upI;rw [List.take_succ_eq_append_getElem h, getElem!_pos l i h];by_cases hc : 0 < l[i].c[v]!
 ·rw [if_pos hc, filt_pos (by simpa using hc), List.length_append]; rfl
 ·rw [if_neg hc, filt_neg (by simpa using hc)]
theorem dnI_succ {l : List FR} {v i : Nat} (h : i < l.length) : dnI l v (i + 1) = if l[i]!.c[v]! < 0 then dnI l v i + 1 else dnI l v i := by
 unfold dnI;rw [List.take_succ_eq_append_getElem h, getElem!_pos l i h];by_cases hc : l[i].c[v]! < 0
 ·rw [if_pos hc, filt_pos (by simpa using hc), List.length_append]; rfl
 ·rw [if_neg hc, filt_neg (by simpa using hc)]
theorem upI_le (l : List FR) (v i : Nat) : upI l v i ≤ i := Nat.le_trans (List.length_filter_le _ _) (by rw [List.length_take]; omega)
theorem dnI_le (l : List FR) (v i : Nat) : dnI l v i ≤ i := Nat.le_trans (List.length_filter_le _ _) (by rw [List.length_take]; omega)
def cmbE (a b : FR) (v : Nat) : List Int := (List.range a.c.length).map fun n => a.c[n]! * ((0 : Int) - b.c[v]!) + b.c[n]! * a.c[v]!
def cmbI (a b : FR) (v : Nat) (i : Nat) : List Int := (List.range a.c.length).map fun n => if n < i then a.c[n]! * ((0 : Int) - b.c[v]!) + b.c[n]! * a.c[v]! else (0 : Int)
theorem cmbI_len (a b : FR) (v i : Nat) : (cmbI a b v i).length = a.c.length := by simp [cmbI]
theorem cmbI_all (a b : FR) (v : Nat) : cmbI a b v a.c.length = cmbE a b v := by
 unfold cmbI cmbE;refine List.map_congr_left fun n hn => ?_
 rw [if_pos (List.mem_range.1 hn)]
theorem cmbI_set {a b : FR} {v i : Nat} (h : i < a.c.length) : (cmbI a b v i).set i (a.c[i]! * ((0 : Int) - b.c[v]!) + b.c[i]! * a.c[v]!) = cmbI a b v (i + 1) := mapI_set _ (fun n => a.c[n]! * ((0 : Int) - b.c[v]!) + b.c[n]! * a.c[v]!) 0 h
def goodP (a b : FR) (v k : Nat) : Prop := 0 < a.c[v]! ∧ b.c[v]! < 0 ∧ bitsN (a.fm ||| b.fm) ≤ k + 1
instance (a b : FR) (v k : Nat) : Decidable (goodP a b v k) := by unfold goodP; exact inferInstance
def cmbR (a b : FR) (v : Nat) : FR := ⟨redR (cmbE a b v), a.fm ||| b.fm⟩
def elS (v k : Nat) (o : Option (List FR)) (a b : FR) : Option (List FR) := match o with
 | none => none
 | some out => if goodP a b v k then (if redB (cmbE a b v) = true then some (out ++ [cmbR a b v]) else none) else some out
def elJ (v k : Nat) (l : List FR) (a : FR) (o : Option (List FR)) (j : Nat) : Option (List FR) := (l.take j).foldl (fun o b => elS v k o a b) o
def elI (v k : Nat) (l : List FR) (o : Option (List FR)) (i : Nat) : Option (List FR) := (l.take i).foldl (fun o a => elJ v k l a o l.length) o
def zerI (l : List FR) (v i : Nat) : List FR := (l.take i).filter fun (r : FR) => decide (r.c[v]! = 0)
def elmO (l : List FR) (v k : Nat) : Option (List FR) := elI v k l (some (zerI l v l.length)) l.length
theorem elJ_succ {v k : Nat} {l : List FR} {a : FR} {o : Option (List FR)} {j : Nat} (h : j < l.length) : elJ v k l a o (j + 1) = elS v k (elJ v k l a o j) a l[j]! := by
 unfold elJ;rw [List.take_succ_eq_append_getElem h, List.foldl_append, getElem!_pos l j h]; rfl
theorem elI_succ {v k : Nat} {l : List FR} {o : Option (List FR)} {i : Nat} (h : i < l.length) : elI v k l o (i + 1) = elJ v k l l[i]! (elI v k l o i) l.length := by
 unfold elI;rw [List.take_succ_eq_append_getElem h, List.foldl_append, getElem!_pos l i h]; rfl
theorem zIE (v k : Nat) (a : FR) : ∀ (m : List FR), m.foldl (fun o b => elS v k o a b) none = none
 | [] => rfl
 | _ :: m => zIE v k a m
theorem elJ_stop {v k : Nat} {l : List FR} {a : FR} {o : Option (List FR)} {j : Nat} (h : elJ v k l a o j = none) (_hj : j ≤ l.length) : elJ v k l a o l.length = none := by
 unfold elJ at h ⊢;have e : l.foldl (fun o b => elS v k o a b) o = (l.drop j).foldl (fun o b => elS v k o a b) ((l.take j).foldl (fun o b => elS v k o a b) o) := by rw [← List.foldl_append, List.take_append_drop]
 rw [List.take_length, e, h];exact zIE v k a _
theorem elI_none (v k : Nat) (l : List FR) : ∀ (m : List FR), m.foldl (fun o a => elJ v k l a o l.length) none = none
 | [] => rfl
 | _ :: m => by
   rw [List.foldl_cons, show elJ v k l _ none l.length = none from zIE v k _ _];exact elI_none v k l m
theorem elI_stop {v k : Nat} {l : List FR} {o : Option (List FR)} {i : Nat} (h : elI v k l o i = none) (_hi : i ≤ l.length) : elI v k l o l.length = none := by
 unfold elI at h ⊢;have e : l.foldl (fun o a => elJ v k l a o l.length) o = (l.drop i).foldl (fun o a => elJ v k l a o l.length) ((l.take i).foldl (fun o a => elJ v k l a o l.length) o) := by rw [← List.foldl_append, List.take_append_drop]
 rw [List.take_length, e, h];exact elI_none v k l _
theorem zerI_succ {l : List FR} {v i : Nat} (h : i < l.length) : zerI l v (i + 1) = if l[i]!.c[v]! = 0 then zerI l v i ++ [l[i]!] else zerI l v i := by
 unfold zerI;rw [List.take_succ_eq_append_getElem h, getElem!_pos l i h];by_cases hc : l[i].c[v]! = 0
 ·rw [if_pos hc, filt_pos (by simpa using hc)]
 ·rw [if_neg hc, filt_neg (by simpa using hc)]
theorem zerI_le (l : List FR) (v i : Nat) : (zerI l v i).length ≤ i := Nat.le_trans (List.length_filter_le _ _) (by rw [List.length_take]; omega)
theorem upI_mono (l : List FR) (v : Nat) : ∀ {i j : Nat}, i ≤ j → j ≤ l.length → upI l v i ≤ upI l v j := fun {i j} h hj => by
 unfold upI;have e : l.take i = (l.take j).take i := by rw [List.take_take, Nat.min_eq_left h]
 rw [e];exact ((List.take_sublist _ _).filter _).length_le
theorem elS_len {v k : Nat} {O out : List FR} {a b : FR} (h : elS v k (some O) a b = some out) : out.length ≤ O.length + (if 0 < a.c[v]! ∧ b.c[v]! < 0 then 1 else 0) := by
 unfold elS at h;dsimp only at h
 split at h
 ·rename_i hg
  split at h
  ·cases h; rw [if_pos ⟨hg.1, hg.2.1⟩]; simp
  ·cases h
 ·cases h; exact Nat.le_add_right _ _
structure okRw (m : Nat) (r : FR) : Prop where
 len : r.c.length = m
 sm : ∀ x ∈ r.c, okG x
 fm : r.fm < 4611686018427387904
theorem okRw.at {m : Nat} {r : FR} (h : okRw m r) {i : Nat} (hi : i < m) : okG r.c[i]! := h.sm _ (by rw [getElem!_pos r.c i (by rw [h.len]; exact hi)]; exact List.getElem_mem _)
theorem mul_sm {a b : Int} (ha : okG a) (hb : okG b) : -1152921504606846976 ≤ a * b ∧ a * b ≤ 1152921504606846976 := by
 have h : (a * b).natAbs ≤ 1073741824 * 1073741824 := by
  rw [Int.natAbs_mul];unfold okG at ha hb;exact Nat.mul_le_mul (by omega) (by omega)
 omega
theorem okG_neg {a : Int} (h : okG a) : okG (0 - a) := by unfold okG at *; omega
theorem cmb_sz {m : Nat} {a b : FR} {v : Nat} (ha : okRw m a) (hb : okRw m b) (hv : v < m) : ∀ x ∈ cmbE a b v, x.natAbs ≤ 4611686018427387904 := fun x hx => by
 obtain ⟨n, hn, rfl⟩ := List.mem_map.1 hx;have hn : n < m := by rw [← ha.len]; exact List.mem_range.1 hn
 have h1 := mul_sm (ha.at hn) (okG_neg (hb.at hv));have h2 := mul_sm (hb.at hn) (ha.at hv);omega
theorem cmbR_ok {m : Nat} {a b : FR} {v : Nat} (ha : okRw m a) (hb : okRw m b) (h : redB (cmbE a b v) = true) : okRw m (cmbR a b v) :=
 ⟨by show (redR _).length = m; rw [zH5]; simp [cmbE, ha.len], (redR_ok h).2, by
   have h1 := ha.fm;have h2 := hb.fm;have : a.fm ||| b.fm < 2 ^ 62 := Nat.or_lt_two_pow (by omega) (by omega)
   show a.fm ||| b.fm < _; omega⟩
theorem elS_all {v k : Nat} {P : FR → Prop} {o : Option (List FR)} {a b : FR} (hs : goodP a b v k → redB (cmbE a b v) = true → P (cmbR a b v)) (ho : ∀ out, o = some out → ∀ r ∈ out, P r) : ∀ out, elS v k o a b = some out → ∀ r ∈ out, P r := fun out h r hr => by
 unfold elS at h;cases o with
 | none => cases h
 | some o =>
   dsimp only at h
   split at h
   ·rename_i hg
    split at h
    ·rename_i hb
     cases h
     rcases List.mem_append.1 hr with hr | hr
     ·exact ho _ rfl r hr
     ·rw [List.mem_singleton.1 hr]; exact hs hg hb
    ·cases h
   ·cases h; exact ho _ rfl r hr
theorem elJ_all {v k : Nat} {P : FR → Prop} {a : FR} : ∀ (m : List FR) (o : Option (List FR)), (∀ b ∈ m, goodP a b v k → redB (cmbE a b v) = true → P (cmbR a b v)) → (∀ out, o = some out → ∀ r ∈ out, P r) → ∀ out, m.foldl (fun o b => elS v k o a b) o = some out → ∀ r ∈ out, P r
 | [], _, _, ho => ho
 | b :: m, o, hs, ho => elJ_all m _ (fun c hc => hs c (List.mem_cons_of_mem _ hc)) (elS_all (hs b (by simp)) ho)
theorem elI_all {v k : Nat} {P : FR → Prop} {l : List FR} : ∀ (m : List FR) (o : Option (List FR)), (∀ a ∈ m, ∀ b ∈ l, goodP a b v k → redB (cmbE a b v) = true → P (cmbR a b v)) → (∀ out, o = some out → ∀ r ∈ out, P r) → ∀ out, m.foldl (fun o a => elJ v k l a o l.length) o = some out → ∀ r ∈ out, P r
 | [], _, _, ho => ho
 | a :: m, o, hs, ho => elI_all m _ (fun c hc => hs c (List.mem_cons_of_mem _ hc)) (fun out h => by
   unfold elJ at h;rw [List.take_length] at h
   exact elJ_all l o (hs a (by simp)) ho out h)
theorem elm_all {l : List FR} {v k : Nat} {P : FR → Prop} (hz : ∀ r ∈ l, r.c[v]! = 0 → P r) (hs : ∀ a ∈ l, ∀ b ∈ l, goodP a b v k → redB (cmbE a b v) = true → P (cmbR a b v)) {out : List FR} (h : elmO l v k = some out) : ∀ r ∈ out, P r := by
 unfold elmO elI at h;rw [List.take_length] at h;refine elI_all l _ hs (fun o ho => ?_) out h;cases ho
 intro r hr;unfold zerI at hr;rw [List.take_length] at hr;obtain ⟨h1, h2⟩ := List.mem_filter.1 hr;exact hz r h1 (of_decide_eq_true h2)
end Go.PI
namespace Go.PI
structure EnS where
 low : Bool
 high : Bool
 least : Rat
 most : Rat
def enV (a c : Int) : Rat := if 0 < a then mkRat (0 - c) a.natAbs else mkRat c a.natAbs
def enS (s : EnS) (a c : Int) : EnS :=
 if a = 0 then s
 else if 0 < a then ⟨true, s.high, if s.low = false ∨ s.least < enV a c then enV a c else s.least, s.most⟩
 else ⟨s.low, true, s.least, if s.high = false ∨ enV a c < s.most then enV a c else s.most⟩
def enI (l : List FR) (n : Nat) : Nat → Option EnS
 | 0 => some ⟨false, false, 0, 0⟩
 | i + 1 => match enI l n i with
   | none => none
   | some s => if l[i]!.c[n]! = 0 ∧ l[i]!.c[n + 1]! < 0 then none else some (enS s l[i]!.c[n]! l[i]!.c[n + 1]!)
def enR (o : Option EnS) : Int × Rat := match o with
 | none => (2, 0)
 | some s => if s.low = true ∧ s.high = true ∧ s.most < s.least then (2, 0) else if s.low = false then (3, 0) else (1, s.least)
def endV (l : List FR) (n : Nat) : Int × Rat := enR (enI l n l.length)
theorem enI_none {l : List FR} {n i : Nat} (h : enI l n i = none) : ∀ j, i ≤ j → enI l n j = none
 | 0, hj => by have : i = 0 := by omega
               subst this; exact h
 | j + 1, hj => by
   by_cases e : i = j + 1
   ·subst e; exact h
   ·unfold enI; rw [enI_none h j (by omega)]
theorem zI9 {a : Int} (h : 0 < a) : (0 : Rat) < (a : Rat) := by exact_mod_cast h
theorem enV_sz {a c : Int} (ha : okG a) (hc : okG c) (h0 : a ≠ 0) : sz 2 (enV a c) := by
 unfold okG at ha hc;have h1 : a.natAbs < pw 1 := Nat.lt_of_le_of_lt (show a.natAbs ≤ 1073741824 by omega) (by decide);unfold enV
 split
 ·exact zC5 (by decide) (sz_mk (k := 1) (by omega) (Nat.lt_of_le_of_lt (show (0 - c).natAbs ≤ 1073741824 by omega) (by decide)) h1)
 ·exact zC5 (by decide) (sz_mk (k := 1) (by omega) (Nat.lt_of_le_of_lt (show c.natAbs ≤ 1073741824 by omega) (by decide)) h1)
theorem enS_sz {s : EnS} {a c : Int} (ha : okG a) (hc : okG c) (h : sz 2 s.least ∧ sz 2 s.most) : sz 2 (enS s a c).least ∧ sz 2 (enS s a c).most := by
 unfold enS
 split
 ·exact h
 ·rename_i h0
  have := enV_sz ha hc h0
  split
  ·dsimp only
   refine ⟨?_, h.2⟩
   split
   ·exact this
   ·exact h.1
  ·dsimp only
   refine ⟨h.1, ?_⟩
   split
   ·exact this
   ·exact h.2
end Go.PI
namespace Go.PI
def bestC (l : List FR) (v : Nat) (o : Option Nat) : Bool := match o with
 | none => true
 | some b => decide (pairsN l v < pairsN l b)
def bestI (l : List FR) (done : List Bool) : Nat → Option Nat
 | 0 => none
 | v + 1 => if done[v]! = false ∧ bestC l v (bestI l done v) = true then some v else bestI l done v
theorem zGQ (l : List FR) (done : List Bool) : ∀ v, (∀ b, bestI l done v = some b → b < v ∧ done[b]! = false) ∧ (bestI l done v = none → ∀ u, u < v → done[u]! = true)
 | 0 => ⟨fun b e => (by cases e), fun _ u hu => (by omega)⟩
 | v + 1 => by
   obtain ⟨h1, h2⟩ := zGQ l done v;unfold bestI
   split
   ·rename_i hc
    exact ⟨fun b e => (by cases e; exact ⟨Nat.lt_succ_self _, hc.1⟩), fun e => (by cases e)⟩
   ·rename_i hc
    refine ⟨fun b e => ⟨by have := (h1 b e).1; omega, (h1 b e).2⟩, fun e u hu => ?_⟩;by_cases hu2 : u = v
    ·subst hu2
     cases hd : done[u]! with
     | true => rfl
     | false => exact absurd ⟨hd, (by rw [e]; rfl)⟩ hc
    ·exact h2 e u (by omega)
structure FeS where
 l : List FR
 done : List Bool
 deriving Inhabited
def feS (n k : Nat) (s : FeS) : Option FeS := match bestI s.l s.done n with
 | none => none
 | some b => if 20000 < pairsN s.l b then none else match elmO s.l b k with
   | none => none
   | some l' => some ⟨l', s.done.set b true⟩
def feI (n : Nat) (l0 : List FR) : Nat → Option FeS
 | 0 => some ⟨l0, List.replicate n false⟩
 | k + 1 => match feI n l0 k with
   | none => none
   | some s => feS n (k + 1) s
theorem feI_none {n : Nat} {l0 : List FR} {i : Nat} (h : feI n l0 i = none) : ∀ j, i ≤ j → feI n l0 j = none
 | 0, hj => by have : i = 0 := by omega
               subst this; exact h
 | j + 1, hj => by
   by_cases e : i = j + 1
   ·subst e; exact h
   ·unfold feI; rw [feI_none h j (by omega)]
def feV (n : Nat) (l0 : List FR) : Int × Rat := match feI n l0 n with
 | none => (0, 0)
 | some s => endV s.l n
def cntT (d : List Bool) : Nat := (d.filter fun b => b).length
theorem cntT_set : ∀ (d : List Bool) (b : Nat), b < d.length → d[b]! = false → cntT (d.set b true) = cntT d + 1
 | [], b, h, _ => by simp at h
 | x :: d, 0, _, h2 => by
   have : x = false := by simpa using h2
   subst this; simp [cntT]
 | x :: d, b + 1, h, h2 => by
   have ih := cntT_set d b (by simpa using h) (by simpa using h2);unfold cntT at ih ⊢;cases x <;> simp [ih]
theorem cntT_all : ∀ (d : List Bool), (∀ u, u < d.length → d[u]! = true) → cntT d = d.length
 | [], _ => rfl
 | x :: d, h => by
   have h0 : x = true := by simpa using h 0 (by simp)
   have ih := cntT_all d fun u hu => by simpa using h (u + 1) (by simpa using hu)
   subst h0;unfold cntT at ih ⊢;simp [ih]
structure FeP (n m k : Nat) (s : FeS) : Prop where
 rw : ∀ r ∈ s.l, okRw m r
 dl : s.done.length = n
 cnt : cntT s.done = k
 zero : ∀ u, u < n → s.done[u]! = true → ∀ r ∈ s.l, r.c[u]! = 0
theorem cmbR_get {a b : FR} {v i : Nat} (h : redB (cmbE a b v) = true) (hi : i < a.c.length) : ∃ e : Int, 0 < e ∧ (cmbR a b v).c[i]! * e = a.c[i]! * (0 - b.c[v]!) + b.c[i]! * a.c[v]! := by
 obtain ⟨e, he, hm⟩ := redR_mul h;have hl : (cmbE a b v).length = a.c.length := by simp [cmbE]
 refine ⟨e, he, ?_⟩;have := hm i (by omega);rw [show (cmbR a b v).c = redR (cmbE a b v) from rfl, this];rw [getElem!_pos (cmbE a b v) i (by omega)]; simp [cmbE]
theorem cmbR_zero {a b : FR} {v i : Nat} (h : redB (cmbE a b v) = true) (hi : i < a.c.length) (h0 : a.c[i]! * (0 - b.c[v]!) + b.c[i]! * a.c[v]! = 0) : (cmbR a b v).c[i]! = 0 := by
 obtain ⟨e, he, hm⟩ := cmbR_get h hi;rw [h0] at hm;rcases Int.mul_eq_zero.1 hm with h | h
 ·exact h
 ·omega
theorem FeP.step {n m k : Nat} {s : FeS} (h : FeP n m k s) (hk : k < n) (hm : n ≤ m) : (∃ b, bestI s.l s.done n = some b ∧ b < n) ∧ ∀ s', feS n (k + 1) s = some s' → FeP n m (k + 1) s' := by
 obtain ⟨b1, b2⟩ := zGQ s.l s.done n
 have hex : ∃ b, bestI s.l s.done n = some b ∧ b < n := by
  cases hb : bestI s.l s.done n with
  | none =>
    have := cntT_all s.done fun u hu => b2 hb u (by rw [← h.dl]; exact hu)
    have := h.cnt;have := h.dl;omega
  | some b => exact ⟨b, rfl, (b1 b hb).1⟩
 refine ⟨hex, fun s' hs => ?_⟩;obtain ⟨b, hb, hbn⟩ := hex;unfold feS at hs;rw [hb] at hs;dsimp only at hs
 split at hs
 ·cases hs
 ·cases hE : elmO s.l b (k + 1) with
  | none => rw [hE] at hs; cases hs
  | some l' =>
    rw [hE] at hs;cases hs
    have hbd := (b1 b hb).2;refine ⟨elm_all (P := okRw m) (fun r hr _ => h.rw r hr) (fun a ha c hc _ hB => cmbR_ok (h.rw a ha) (h.rw c hc) hB) hE, by simpa using h.dl, by rw [cntT_set _ _ (by rw [h.dl]; exact hbn) hbd, h.cnt], fun u hu hd => ?_⟩;refine elm_all (P := fun r => r.c[u]! = 0) (fun r hr hz => ?_) (fun a ha c hc hg hB => ?_) hE
    ·by_cases e : u = b
     ·subst e; exact hz
     ·have hd2 : s.done[u]! = true := by
       have h1 : u < s.done.length := by rw [h.dl]; exact hu
       rw [getElem!_pos _ u (by simpa using h1), List.getElem_set_ne (by omega)] at hd;rw [getElem!_pos _ u h1]; exact hd
      exact h.zero u hu hd2 r hr
    ·have hal := (h.rw a ha).len
     refine cmbR_zero hB (by omega) ?_;by_cases e : u = b
     ·subst e; grind
     ·have hd2 : s.done[u]! = true := by
       have h1 : u < s.done.length := by rw [h.dl]; exact hu
       rw [getElem!_pos _ u (by simpa using h1), List.getElem_set_ne (by omega)] at hd;rw [getElem!_pos _ u h1]; exact hd
      rw [h.zero u hu hd2 a ha, h.zero u hu hd2 c hc]; simp
theorem feI_ok {n m : Nat} {l0 : List FR} (h : ∀ r ∈ l0, okRw m r) (hm : n ≤ m) : ∀ k, k ≤ n → ∀ s, feI n l0 k = some s → FeP n m k s
 | 0, _, s, hs => by
   cases hs
   refine ⟨h, by simp, by simp [cntT], fun u hu hd => ?_⟩;rw [getElem!_pos _ u (by simpa using hu), List.getElem_replicate] at hd; cases hd
 | k + 1, hk, s, hs => by
   unfold feI at hs;cases hp : feI n l0 k with
   | none => rw [hp] at hs; cases hs
   | some s0 =>
     rw [hp] at hs;exact ((feI_ok h hm k (by omega) s0 hp).step (by omega) hm).2 s hs
theorem elJ_len {v k : Nat} {a : FR} {l : List FR} {O : List FR} : ∀ j, j ≤ l.length → ∀ Q, elJ v k l a (some O) j = some Q → Q.length ≤ O.length + (if 0 < a.c[v]! then dnI l v j else 0)
 | 0, _, Q, h => by cases h; exact Nat.le_add_right _ _
 | j + 1, hj, Q, h => by
   rw [elJ_succ (by omega)] at h;cases hp : elJ v k l a (some O) j with
   | none => rw [hp] at h; cases h
   | some P =>
     rw [hp] at h;have h1 := elJ_len j (by omega) P hp;have h2 := elS_len h;rw [dnI_succ (by omega)];by_cases ha : 0 < a.c[v]!
     ·rw [if_pos ha] at h1 ⊢
      by_cases hb : l[j]!.c[v]! < 0
      ·rw [if_pos ⟨ha, hb⟩] at h2; rw [if_pos hb]; omega
      ·rw [if_neg (fun e => hb e.2)] at h2; rw [if_neg hb]; omega
     ·rw [if_neg ha] at h1 ⊢
      rw [if_neg (fun e => ha e.1)] at h2; omega
theorem elI_len {v k : Nat} {l : List FR} {Z : List FR} : ∀ i, i ≤ l.length → ∀ Q, elI v k l (some Z) i = some Q → Q.length ≤ Z.length + upI l v i * dnI l v l.length
 | 0, _, Q, h => by cases h; exact Nat.le_add_right _ _
 | i + 1, hi, Q, h => by
   rw [elI_succ (by omega)] at h;cases hp : elI v k l (some Z) i with
   | none =>
     rw [hp] at h;have : elJ v k l l[i]! none l.length = none := zIE v k _ _;rw [this] at h; cases h
   | some P =>
     rw [hp] at h;have h1 := elI_len i (by omega) P hp;have h2 := elJ_len l.length (Nat.le_refl _) Q h;rw [upI_succ (by omega)];by_cases ha : 0 < l[i]!.c[v]!
     ·rw [if_pos ha] at h2 ⊢; rw [Nat.add_mul, Nat.one_mul]; omega
     ·rw [if_neg ha] at h2 ⊢; omega
theorem elm_len {l out : List FR} {v k : Nat} (h : elmO l v k = some out) : out.length ≤ l.length + pairsN l v := by
 have := elI_len l.length (Nat.le_refl _) out h;have h2 := zerI_le l v l.length;unfold pairsN; omega
theorem feI_len {n : Nat} {l0 : List FR} : ∀ k s, feI n l0 k = some s → s.l.length ≤ l0.length + 20000 * k
 | 0, s, h => by cases h; exact Nat.le_add_right _ _
 | k + 1, s, h => by
   unfold feI at h;cases hp : feI n l0 k with
   | none => rw [hp] at h; cases h
   | some s0 =>
     rw [hp] at h;have h1 := feI_len k s0 hp;dsimp only at h;unfold feS at h
     split at h
     ·cases h
     ·split at h
      ·cases h
      ·rename_i hle
       split at h
       ·cases h
       ·rename_i hE
        cases h
        have := elm_len hE;dsimp only;omega
noncomputable def rw0 (A : List QF) (n i : Nat) : List FR := (List.range i).map fun j => ⟨(denV (frX A[j]! (n + 1))).1, 2 ^ j⟩
def rw0B (A : List QF) (n i : Nat) : Prop := ∀ j, j < i → (denV (frX A[j]! (n + 1))).2 = true
theorem rw0_len (A : List QF) (n i : Nat) : (rw0 A n i).length = i := by simp [rw0]
theorem rw0_succ (A : List QF) (n i : Nat) : rw0 A n (i + 1) = rw0 A n i ++ [⟨(denV (frX A[i]! (n + 1))).1, 2 ^ i⟩] := by
 unfold rw0; rw [List.range_succ, List.map_append]; rfl
theorem rw0_ok {A : List QF} {n i : Nat} (h : rw0B A n i) (hi : i ≤ 62) : ∀ r ∈ rw0 A n i, okRw (n + 2) r := fun r hr => by
 obtain ⟨j, hj, rfl⟩ := List.mem_map.1 hr;have hj := List.mem_range.1 hj;obtain ⟨h1, h2, _⟩ := denV_ok (h j hj);exact ⟨by show (denV _).1.length = _; rw [h1, frX_len], h2, Nat.lt_of_lt_of_le (Nat.pow_lt_pow_right (by decide) (show j < 62 by omega)) (by decide)⟩
open Classical in
noncomputable def lstV (A : List QF) (n : Nat) : Int × Rat := if A.length ≤ 62 ∧ rw0B A n A.length then feV n (rw0 A n A.length) else (0, 0)
def sumV (l : List QT) (y : Nat → Rat) : Nat → Rat
 | 0 => 0
 | i + 1 => sumV l y i + cf l i * y i
end Go.PI
namespace Go.PI.FM
def ls (S : List Nat) (f : Nat → Rat) : Rat := (S.map f).sum
theorem ls_nil (f : Nat → Rat) : ls [] f = 0 := rfl
theorem zCT (i : Nat) (S : List Nat) (f : Nat → Rat) : ls (i :: S) f = f i + ls S f := by simp [ls]
theorem ls_add (S : List Nat) (f g : Nat → Rat) : ls S (fun i => f i + g i) = ls S f + ls S g := by
 induction S with
 | nil => simp only [ls_nil]; grind
 | cons a S ih => simp only [zCT, ih]; grind
theorem ls_mul (S : List Nat) (c : Rat) (f : Nat → Rat) : ls S (fun i => c * f i) = c * ls S f := by
 induction S with
 | nil => simp only [ls_nil]; grind
 | cons a S ih => simp only [zCT, ih]; grind
theorem zEN {S : List Nat} {f g : Nat → Rat} (h : ∀ i ∈ S, f i = g i) : ls S f = ls S g := by
 induction S with
 | nil => rfl
 | cons a S ih => rw [zCT, zCT, h a (by simp), ih fun i hi => h i (by simp [hi])]
theorem zI7 {S : List Nat} {f : Nat → Rat} (h : ∀ i ∈ S, f i = 0) : ls S f = 0 := by
 induction S with
 | nil => rfl
 | cons a S ih => rw [zCT, h a (by simp), ih fun i hi => h i (by simp [hi])]; grind
theorem ls_erase {S : List Nat} {p : Nat} (hp : p ∈ S) (f : Nat → Rat) : ls S f = f p + ls (S.erase p) f := by
 induction S with
 | nil => cases hp
 | cons a S ih =>
   by_cases h : a = p
   ·subst h; simp [zCT]
   ·rw [List.erase_cons_tail (by simpa using h), zCT, zCT, ih (by simpa [Ne.symm h] using hp)]; grind
theorem solve : ∀ (E S : List Nat) (A : Nat → Nat → Rat), S.Nodup → E.length < S.length →
 ∃ z : Nat → Rat, (∃ i ∈ S, z i ≠ 0) ∧ (∀ i, i ∉ S → z i = 0) ∧ ∀ j ∈ E, ls S (fun i => z i * A i j) = 0
 | [], [], _, _, h => by simp at h
 | [], a :: S, A, _, _ => ⟨fun i => if i = a then 1 else 0, ⟨a, by simp, by simp⟩, fun i hi => by simp at hi; simp [hi.1], fun j hj => by cases hj⟩
 | j :: E, S, A, hS, hl => by
   by_cases hz : ∀ i ∈ S, A i j = 0
   ·obtain ⟨z, h1, h2, h3⟩ := solve E S A hS (by simp at hl; omega)
    refine ⟨z, h1, h2, fun k hk => ?_⟩;rcases List.mem_cons.1 hk with rfl | hk
    ·exact zI7 fun i hi => by rw [hz i hi]; grind
    ·exact h3 k hk
   ·simp only [Classical.not_forall] at hz
    obtain ⟨p, hp, hpz⟩ := hz;have hS' : (S.erase p).Nodup := hS.erase p;have hlen : (S.erase p).length = S.length - 1 := List.length_erase_of_mem hp;obtain ⟨z, ⟨i0, hi0, hz0⟩, h2, h3⟩ := solve E (S.erase p) (fun i k => A i k - A i j / A p j * A p k) hS' (by simp at hl; omega);have hpn : p ∉ S.erase p := fun e => by have := (List.Nodup.mem_erase_iff hS).1 e; exact this.1 rfl
    have hzp : z p = 0 := h2 p hpn;let q : Rat := - (ls (S.erase p) (fun i => z i * A i j) / A p j)
    have key : ∀ k, ls S (fun i => (if i = p then q else z i) * A i k) = q * A p k + ls (S.erase p) (fun i => z i * A i k) := fun k => by
     rw [ls_erase hp];simp only [if_true]
     congr 1
     refine zEN fun i hi => ?_
     rw [if_neg (fun e => hpn (by have h9 := hi; rw [e] at h9; exact h9))]
    refine ⟨fun i => if i = p then q else z i, ⟨i0, List.mem_of_mem_erase hi0, ?_⟩, fun i hi => ?_, fun k hk => ?_⟩
    ·show (if i0 = p then q else z i0) ≠ 0
     rw [if_neg (fun e => hpn (by have h9 := hi0; rw [e] at h9; exact h9))]; exact hz0
    ·show (if i = p then q else z i) = 0
     rw [if_neg (fun e => hi (by rw [e]; exact hp))];exact h2 i fun e => hi (List.mem_of_mem_erase e)
    ·rw [key]
     have hd : ∀ x : Rat, x / A p j * A p j = x := fun x => Rat.div_mul_cancel hpz
     rcases List.mem_cons.1 hk with rfl | hk
     ·show - (ls (S.erase p) (fun i => z i * A i k) / A p k) * A p k + _ = 0
      have := hd (ls (S.erase p) (fun i => z i * A i k))
      grind
     ·have e := h3 k hk
      have e2 : ls (S.erase p) (fun i => z i * (A i k - A i j / A p j * A p k)) = ls (S.erase p) (fun i => z i * A i k) + (- (A p k / A p j)) * ls (S.erase p) (fun i => z i * A i j) := by
       rw [← ls_mul, ← ls_add];refine zEN fun i _ => ?_
       rw [Rat.div_def, Rat.div_def]; grind
      rw [e2] at e;show - (ls (S.erase p) (fun i => z i * A i j) / A p j) * A p k + _ = 0
      rw [Rat.div_def] at e ⊢
      grind
section
variable (m : Nat) (A : Nat → Nat → Rat)
def col (y : Nat → Rat) (j : Nat) : Rat := ls (List.range m) (fun i => y i * A i j)
def Cone (E : List Nat) (y : Nat → Rat) : Prop := (∀ i, 0 ≤ y i) ∧ (∀ i, m ≤ i → y i = 0) ∧ ∀ j ∈ E, col m A y j = 0
def Sub (y z : Nat → Rat) : Prop := ∀ i, y i ≠ 0 → z i ≠ 0
def Min (E : List Nat) (y : Nat → Rat) : Prop := Cone m A E y ∧ (∃ i, y i ≠ 0) ∧ ∀ z, Cone m A E z → (∃ i, z i ≠ 0) → Sub z y → Sub y z
end
variable {m : Nat} {A : Nat → Nat → Rat} {E : List Nat}
theorem zCQ (y z : Nat → Rat) (j : Nat) : col m A (fun i => y i + z i) j = col m A y j + col m A z j := by
 unfold col; rw [← ls_add]; exact zEN fun i _ => by grind
theorem zCP (c : Rat) (y : Nat → Rat) (j : Nat) : col m A (fun i => c * y i) j = c * col m A y j := by
 unfold col; rw [← ls_mul]; exact zEN fun i _ => by grind
theorem cone_add {y z : Nat → Rat} (hy : Cone m A E y) (hz : Cone m A E z) : Cone m A E fun i => y i + z i :=
 ⟨fun i => Rat.add_nonneg (hy.1 i) (hz.1 i), fun i hi => by dsimp only; rw [hy.2.1 i hi, hz.2.1 i hi]; grind, fun j hj => by rw [zCQ, hy.2.2 j hj, hz.2.2 j hj]; grind⟩
theorem cone_mul {c : Rat} (hc : 0 ≤ c) {y : Nat → Rat} (hy : Cone m A E y) : Cone m A E fun i => c * y i :=
 ⟨fun i => Rat.mul_nonneg hc (hy.1 i), fun i hi => by dsimp only; rw [hy.2.1 i hi]; grind, fun j hj => by rw [zCP, hy.2.2 j hj]; grind⟩
theorem least (f : Nat → Rat) : ∀ (S : List Nat), S ≠ [] → ∃ i ∈ S, ∀ j ∈ S, f i ≤ f j
 | [], h => absurd rfl h
 | [a], _ => ⟨a, by simp, fun j hj => by simp at hj; subst hj; exact Rat.le_refl⟩
 | a :: b :: S, _ => by
   obtain ⟨i, h1, h2⟩ := least f (b :: S) (by simp);rcases Rat.le_total (a := f a) (b := f i) with h | h
   ·exact ⟨a, by simp, fun j hj => by
     rcases List.mem_cons.1 hj with rfl | hj
     ·exact Rat.le_refl
     ·exact Rat.le_trans h (h2 j hj)⟩
   ·exact ⟨i, List.mem_cons_of_mem _ h1, fun j hj => by
     rcases List.mem_cons.1 hj with rfl | hj
     ·exact h
     ·exact h2 j hj⟩
theorem take_off {y z : Nat → Rat} (hy : ∀ i, 0 ≤ y i) (hz : ∃ i, 0 < z i) (hz0 : ∀ i, m ≤ i → z i = 0) (hs : ∀ i, 0 < z i → y i ≠ 0) :
 ∃ c i0, 0 < c ∧ 0 < z i0 ∧ y i0 = c * z i0 ∧ ∀ i, c * z i ≤ y i := by
 classical
 obtain ⟨i1, h1⟩ := hz
 have hlt : ∀ i, 0 < z i → i < m := fun i hi => by
  rcases Nat.lt_or_ge i m with h | h
  ·exact h
  ·rw [hz0 i h] at hi; exact absurd hi (by decide)
 let S := (List.range m).filter fun i => decide (0 < z i)
 have hS : ∀ i, i ∈ S ↔ 0 < z i := fun i => by
  simp only [S, List.mem_filter, List.mem_range, decide_eq_true_eq];exact ⟨fun h => h.2, fun h => ⟨hlt i h, h⟩⟩
 obtain ⟨i0, h2, h3⟩ := least (fun i => y i / z i) S (fun e => by have := (hS i1).2 h1; rw [e] at this; cases this);have hp := (hS i0).1 h2;have hd : ∀ i, 0 < z i → y i / z i * z i = y i := fun i hi => Rat.div_mul_cancel (fun e => by rw [e] at hi; exact absurd hi (by decide))
 have hy0 : 0 < y i0 := by have := hy i0; have := hs i0 hp; grind
 have hc : 0 < y i0 / z i0 := by rw [Rat.div_def]; exact Rat.mul_pos hy0 (Rat.inv_pos.2 hp)
 refine ⟨y i0 / z i0, i0, hc, hp, (hd i0 hp).symm, fun i => ?_⟩;by_cases hi : 0 < z i
 ·have := h3 i ((hS i).2 hi)
  have := Rat.mul_le_mul_of_nonneg_right this (Rat.le_of_lt hi)
  rwa [hd i hi] at this
 ·have h4 : z i ≤ 0 := Rat.not_lt.1 hi
  have : y i0 / z i0 * z i ≤ 0 := by
   have := Rat.mul_nonneg (Rat.le_of_lt hc) (show 0 ≤ - z i by grind)
   grind
  exact Rat.le_trans this (hy i)
theorem zIG {y : Nat → Rat} (hy : Cone m A E y) {i : Nat} (h : y i ≠ 0) : 0 < y i := by have := hy.1 i; grind
theorem prop {y z : Nat → Rat} (hy : Min m A E y) (hz : Cone m A E z) (hz0 : ∃ i, z i ≠ 0) (hs : Sub z y) : ∃ c, 0 < c ∧ ∀ i, y i = c * z i := by
 obtain ⟨c, i0, h1, h2, h3, h4⟩ := take_off (m := m) hy.1.1 (by obtain ⟨i, hi⟩ := hz0; exact ⟨i, zIG hz hi⟩) hz.2.1 (fun i hi => hs i (by grind));refine ⟨c, h1, ?_⟩
 have hw : Cone m A E fun i => y i + (-c) * z i :=
  ⟨fun i => by have := h4 i; grind, fun i hi => by dsimp only; rw [hy.1.2.1 i hi, hz.2.1 i hi]; grind, fun j hj => by rw [zCQ, zCP, hy.1.2.2 j hj, hz.2.2 j hj]; grind⟩
 by_cases hn : ∃ i, y i + (-c) * z i ≠ 0
 ·have := hy.2.2 _ hw hn (fun i hi e => by
   by_cases hzi : z i = 0
   ·rw [e, hzi] at hi; exact hi (by grind)
   ·exact hs i hzi e)
  exact absurd (show y i0 + (-c) * z i0 = 0 by rw [h3]; grind) (this i0 (hs i0 (by grind)))
 ·intro i
  have : y i + (-c) * z i = 0 := Classical.not_not.1 fun e => hn ⟨i, e⟩
  grind
def cnt (m : Nat) (y : Nat → Rat) : Nat := ((List.range m).filter fun i => decide (y i ≠ 0)).length
theorem zGF {p q : Nat → Bool} : ∀ (l : List Nat), (∀ i, p i = true → q i = true) → (l.filter p).length ≤ (l.filter q).length
 | [], _ => Nat.le_refl _
 | a :: l, h => by
   have ih := zGF l h;by_cases hp : p a = true
   ·simp [hp, h a hp, ih]
   ·by_cases hq : q a = true
    ·simp [hp, hq]; omega
    ·simp [hp, hq, ih]
theorem zGE {p q : Nat → Bool} : ∀ (l : List Nat), (∀ i, p i = true → q i = true) → (∃ i ∈ l, p i = false ∧ q i = true) → (l.filter p).length < (l.filter q).length
 | [], _, ⟨i, h, _⟩ => by cases h
 | a :: l, h, ⟨i, hi, h1, h2⟩ => by
   rcases List.mem_cons.1 hi with rfl | hi
   ·have := zGF l h
    simp [h1, h2]; omega
   ·have ih := zGE l h ⟨i, hi, h1, h2⟩
    by_cases hp : p a = true
    ·simp [hp, h a hp, ih]
    ·by_cases hq : q a = true
     ·simp [hp, hq]; omega
     ·simp [hp, hq, ih]
theorem cnt_lt {y z : Nat → Rat} (hs : Sub y z) {i : Nat} (hi : i < m) (h1 : y i = 0) (h2 : z i ≠ 0) : cnt m y < cnt m z :=
 zGE _ (fun i h => by simpa using hs i (by simpa using h)) ⟨i, by simpa using hi, by simpa using h1, by simpa using h2⟩
theorem zJJ {y : Nat → Rat} (hy : Cone m A E y) {i : Nat} (h : y i ≠ 0) : i < m := by
 rcases Nat.lt_or_ge i m with h' | h'
 ·exact h'
 ·exact absurd (hy.2.1 i h') h
theorem min_below : ∀ (n : Nat) (y : Nat → Rat), cnt m y ≤ n → Cone m A E y → (∃ i, y i ≠ 0) → ∃ z, Min m A E z ∧ Sub z y
 | n, y, hn, hy, h0 => by
   by_cases h : ∀ z, Cone m A E z → (∃ i, z i ≠ 0) → Sub z y → Sub y z
   ·exact ⟨y, ⟨hy, h0, h⟩, fun _ h => h⟩
   ·simp only [Classical.not_forall] at h
    obtain ⟨z, hz, hz0, hs, hns⟩ := h;unfold Sub at hns;simp only [Classical.not_forall] at hns;obtain ⟨i, h1, h2⟩ := hns;have h2 : z i = 0 := Classical.not_not.1 h2;have hlt := cnt_lt (m := m) hs (zJJ hy h1) h2 h1
    match n, hn with
    | 0, hn => omega
    | n + 1, hn =>
      obtain ⟨t, ht, hts⟩ := min_below n z (by omega) hz hz0;exact ⟨t, ht, fun i hi => hs i (hts i hi)⟩
theorem zIH {Q : (Nat → Rat) → Prop} (h0 : ∀ y, (∀ i, y i = 0) → Q y) (hadd : ∀ a b : Nat → Rat, Q a → Q b → Q fun i => a i + b i) (hmul : ∀ (c : Rat) (a : Nat → Rat), 0 < c → Q a → Q fun i => c * a i) :
 ∀ (n : Nat) (y : Nat → Rat), cnt m y ≤ n → Cone m A E y → (∀ z, Min m A E z → Sub z y → Q z) → Q y
 | n, y, hn, hy, hQ => by
   by_cases h : ∃ i, y i ≠ 0
   ·obtain ⟨z, hz, hs⟩ := min_below _ y (Nat.le_refl _) hy h
    obtain ⟨c, i0, h1, h2, h3, h4⟩ := take_off (m := m) hy.1 (by obtain ⟨i, hi⟩ := hz.2.1; exact ⟨i, zIG hz.1 hi⟩) hz.1.2.1 (fun i hi => hs i (by grind))
    have hw : Cone m A E fun i => y i + (-c) * z i :=
     ⟨fun i => by have := h4 i; grind, fun i hi => by dsimp only; rw [hy.2.1 i hi, hz.1.2.1 i hi]; grind, fun j hj => by rw [zCQ, zCP, hy.2.2 j hj, hz.1.2.2 j hj]; grind⟩
    have hsub : Sub (fun i => y i + (-c) * z i) y := fun i hi e => by
     by_cases hzi : z i = 0
     ·dsimp only at hi; rw [e, hzi] at hi; exact hi (by grind)
     ·exact hs i hzi e
    have hlt := cnt_lt (m := m) hsub (zJJ hz.1 (i := i0) (by grind)) (show y i0 + (-c) * z i0 = 0 by rw [h3]; grind) (hs i0 (by grind))
    match n, hn with
    | 0, hn => omega
    | n + 1, hn =>
      have := zIH h0 hadd hmul n _ (by omega) hw fun t ht hts => hQ t ht fun i hi => hsub i (hts i hi)
      have h5 := hadd _ _ this (hmul c z h1 (hQ z hz hs));have e : y = fun i => y i + (-c) * z i + c * z i := funext fun i => by grind
      rw [e]; exact h5
   ·exact h0 y fun i => Classical.not_not.1 fun e => h ⟨i, e⟩
theorem min_mul {c : Rat} (hc : 0 < c) {y z : Nat → Rat} (hz : Min m A E z) (h : ∀ i, y i = c * z i) : Min m A E y := by
 have e : y = fun i => c * z i := funext h
 have s1 : ∀ i, y i ≠ 0 ↔ z i ≠ 0 := fun i => by
  rw [h i];constructor
  ·intro h1 h2; exact h1 (by rw [h2]; grind)
  ·intro h1 h2
   rcases Rat.mul_eq_zero.1 h2 with h | h
   ·rw [h] at hc; exact absurd hc (by decide)
   ·exact h1 h
 refine ⟨by rw [e]; exact cone_mul (Rat.le_of_lt hc) hz.1, by obtain ⟨i, hi⟩ := hz.2.1; exact ⟨i, (s1 i).2 hi⟩, fun t ht ht0 hs i hi => hz.2.2 t ht ht0 (fun i hi => (s1 i).1 (hs i hi)) i ((s1 i).1 hi)⟩
theorem step {v : Nat} {y : Nat → Rat} (hy : Min m A (v :: E) y) :
 (Min m A E y ∧ col m A y v = 0) ∨ ∃ z1 z2 c, Min m A E z1 ∧ Min m A E z2 ∧ 0 < col m A z1 v ∧ col m A z2 v < 0 ∧ 0 < c ∧ ∀ i, y i = c * (- col m A z2 v * z1 i + col m A z1 v * z2 i) := by
 have hyE : Cone m A E y := ⟨hy.1.1, hy.1.2.1, fun j hj => hy.1.2.2 j (by simp [hj])⟩;have hv : col m A y v = 0 := hy.1.2.2 v (by simp);by_cases h : ∃ z, Min m A E z ∧ Sub z y ∧ col m A z v = 0
 ·obtain ⟨z, hz, hs, h0⟩ := h
  obtain ⟨c, hc, hp⟩ := prop hy ⟨hz.1.1, hz.1.2.1, fun j hj => by
   rcases List.mem_cons.1 hj with rfl | hj
   ·exact h0
   ·exact hz.1.2.2 j hj⟩ hz.2.1 hs
  exact .inl ⟨min_mul hc hz hp, hv⟩
 ·have hne : ∀ z, Min m A E z → Sub z y → col m A z v ≠ 0 := fun z h1 h2 h3 => h ⟨z, h1, h2, h3⟩
  have zero : ∀ z : Nat → Rat, (∀ i, z i = 0) → col m A z v = 0 := fun z hz => zI7 fun i _ => by rw [hz i]; grind
  have pos : ∃ z, Min m A E z ∧ Sub z y ∧ 0 < col m A z v := by
   refine Classical.not_not.1 fun hno => ?_
   have := zIH (m := m) (A := A) (E := E) (Q := fun z => (∀ i, z i = 0) ∨ col m A z v < 0) (fun y h => .inl h)
    (fun a b ha hb => by
      rcases ha with ha | ha <;> rcases hb with hb | hb
      ·exact .inl fun i => by dsimp only; rw [ha i, hb i]; grind
      ·right; rw [zCQ, zero a ha]; grind
      ·right; rw [zCQ, zero b hb]; grind
      ·right; rw [zCQ]; grind)
    (fun c a hc ha => by
      rcases ha with ha | ha
      ·exact .inl fun i => by dsimp only; rw [ha i]; grind
      ·right; rw [zCP]; have := Rat.mul_pos hc (show 0 < - col m A a v by grind); grind)
    _ y (Nat.le_refl _) hyE fun z hz hs => .inr (by
      have h1 := hne z hz hs;have h2 : ¬ 0 < col m A z v := fun e => hno ⟨z, hz, hs, e⟩
      grind)
   rcases this with h | h
   ·obtain ⟨i, hi⟩ := hy.2.1; exact hi (h i)
   ·rw [hv] at h; exact absurd h (by decide)
  have neg : ∃ z, Min m A E z ∧ Sub z y ∧ col m A z v < 0 := by
   refine Classical.not_not.1 fun hno => ?_
   have := zIH (m := m) (A := A) (E := E) (Q := fun z => (∀ i, z i = 0) ∨ 0 < col m A z v) (fun y h => .inl h)
    (fun a b ha hb => by
      rcases ha with ha | ha <;> rcases hb with hb | hb
      ·exact .inl fun i => by dsimp only; rw [ha i, hb i]; grind
      ·right; rw [zCQ, zero a ha]; grind
      ·right; rw [zCQ, zero b hb]; grind
      ·right; rw [zCQ]; grind)
    (fun c a hc ha => by
      rcases ha with ha | ha
      ·exact .inl fun i => by dsimp only; rw [ha i]; grind
      ·right; rw [zCP]; exact Rat.mul_pos hc ha)
    _ y (Nat.le_refl _) hyE fun z hz hs => .inr (by
      have h1 := hne z hz hs;have h2 : ¬ col m A z v < 0 := fun e => hno ⟨z, hz, hs, e⟩
      grind)
   rcases this with h | h
   ·obtain ⟨i, hi⟩ := hy.2.1; exact hi (h i)
   ·rw [hv] at h; exact absurd h (by decide)
  obtain ⟨z1, a1, a2, a3⟩ := pos;obtain ⟨z2, b1, b2, b3⟩ := neg
  have hw : Cone m A (v :: E) fun i => - col m A z2 v * z1 i + col m A z1 v * z2 i := by
   have := cone_add (cone_mul (c := - col m A z2 v) (by grind) a1.1) (cone_mul (c := col m A z1 v) (by grind) b1.1);refine ⟨this.1, this.2.1, fun j hj => ?_⟩;rcases List.mem_cons.1 hj with rfl | hj
   ·rw [zCQ, zCP, zCP]; grind
   ·exact this.2.2 j hj
  obtain ⟨c, hc, hp⟩ := prop hy hw (by
   obtain ⟨i, hi⟩ := a1.2.1;have h1 := zIG a1.1 hi;have h2 := b1.1.1 i;have h3 := Rat.mul_pos (show 0 < - col m A z2 v by grind) h1;have h4 := Rat.mul_nonneg (Rat.le_of_lt a3) h2
   exact ⟨i, by show - col m A z2 v * z1 i + col m A z1 v * z2 i ≠ 0; grind⟩) (fun i hi e => by
   have h1 : z1 i = 0 := Classical.not_not.1 fun h => a2 i h e
   have h2 : z2 i = 0 := Classical.not_not.1 fun h => b2 i h e
   apply hi;show - col m A z2 v * z1 i + col m A z1 v * z2 i = 0
   rw [h1, h2]; grind)
  exact .inr ⟨z1, z2, c, a1, b1, a3, b3, hc, hp⟩
theorem kohler {y : Nat → Rat} (hy : Min m A E y) : cnt m y ≤ E.length + 1 := by
 refine Classical.not_not.1 fun hno => ?_
 obtain ⟨i0, hi0⟩ := hy.2.1;let S := (List.range m).filter fun i => decide (y i ≠ 0)
 have hS : ∀ i, i ∈ S ↔ y i ≠ 0 := fun i => by
  simp only [S, List.mem_filter, List.mem_range, decide_eq_true_eq];exact ⟨fun h => h.2, fun h => ⟨zJJ hy.1 h, h⟩⟩
 have hnd : S.Nodup := List.Pairwise.filter _ List.nodup_range;have hlen : S.length = cnt m y := rfl;have hmem : i0 ∈ S := (hS i0).2 hi0;obtain ⟨z, ⟨i1, h1, h2⟩, h3, h4⟩ := solve E (S.erase i0) A (hnd.erase i0) (by rw [List.length_erase_of_mem hmem]; omega);have hsup : ∀ i, z i ≠ 0 → i ∈ S.erase i0 := fun i hi => Classical.not_not.1 fun e => hi (h3 i e)
 have hz0 : z i0 = 0 := h3 i0 fun e => by have := (List.Nodup.mem_erase_iff hnd).1 e; exact this.1 rfl
 have hcol : ∀ j ∈ E, col m A z j = 0 := fun j hj => by
  have e : ls (List.range m) (fun i => z i * A i j) = ls S (fun i => z i * A i j) := by
   have : ∀ l : List Nat, ls l (fun i => z i * A i j) = ls (l.filter fun i => decide (y i ≠ 0)) (fun i => z i * A i j) := fun l => by
    induction l with
    | nil => rfl
    | cons a l ih =>
      by_cases ha : y a ≠ 0
      ·rw [List.filter_cons_of_pos (by simpa using ha), zCT, zCT, ih]
      ·have hza : z a = 0 := Classical.not_not.1 fun e => ha ((hS a).1 (List.mem_of_mem_erase (hsup a e)))
       rw [List.filter_cons_of_neg (by simpa using ha), zCT, ih, hza]; grind
   exact this _
  unfold col;rw [e, ls_erase hmem, hz0, h4 j hj]; grind
 obtain ⟨t, ht0, htp, htn, htc, hti⟩ : ∃ t : Nat → Rat, (∃ i, 0 < t i) ∧ (∀ i, t i ≠ 0 → y i ≠ 0) ∧ (∀ i, m ≤ i → t i = 0) ∧ (∀ j ∈ E, col m A t j = 0) ∧ t i0 = 0 := by
  have hn : ∀ i, z i ≠ 0 → y i ≠ 0 := fun i hi => (hS i).1 (List.mem_of_mem_erase (hsup i hi))
  have hm : ∀ i, m ≤ i → z i = 0 := fun i hi => Classical.not_not.1 fun e => by have := zJJ hy.1 (hn i e); omega
  by_cases hp : 0 < z i1
  ·exact ⟨z, ⟨i1, hp⟩, hn, hm, hcol, hz0⟩
  ·exact ⟨fun i => (-1) * z i, ⟨i1, by show 0 < (-1) * z i1; grind⟩, fun i hi => hn i fun e => hi (by show (-1) * z i = 0; rw [e]; grind), fun i hi => by show (-1) * z i = 0; rw [hm i hi]; grind,
    fun j hj => by rw [zCP, hcol j hj]; grind, by show (-1) * z i0 = 0; rw [hz0]; grind⟩
 obtain ⟨c, i2, g1, g2, g3, g4⟩ := take_off (m := m) hy.1.1 ht0 htn (fun i hi => htp i (by grind))
 have hw : Cone m A E fun i => y i + (-c) * t i :=
  ⟨fun i => by have := g4 i; grind, fun i hi => by dsimp only; rw [hy.1.2.1 i hi, htn i hi]; grind, fun j hj => by rw [zCQ, zCP, hy.1.2.2 j hj, htc j hj]; grind⟩
 have := hy.2.2 _ hw ⟨i0, by show y i0 + (-c) * t i0 ≠ 0; rw [hti]; grind⟩ (fun i hi e => by
  by_cases hzi : t i = 0
  ·rw [e, hzi] at hi; exact hi (by grind)
  ·exact htp i hzi e)
 exact absurd (show y i2 + (-c) * t i2 = 0 by rw [g3]; grind) (this i2 (htp i2 (by grind)))
end Go.PI.FM
namespace Go.PI
open FM
theorem elS_mono {v k : Nat} {o : Option (List FR)} {a b : FR} {out : List FR} (h : elS v k o a b = some out) : ∃ O, o = some O ∧ (∀ r ∈ O, r ∈ out) ∧ (goodP a b v k → redB (cmbE a b v) = true ∧ cmbR a b v ∈ out) := by
 unfold elS at h;cases o with
 | none => cases h
 | some O =>
   dsimp only at h;refine ⟨O, rfl, ?_⟩
   split at h
   ·split at h
    ·rename_i hb
     cases h
     exact ⟨fun r hr => List.mem_append_left _ hr, fun _ => ⟨hb, by simp⟩⟩
    ·cases h
   ·rename_i hg
    cases h
    exact ⟨fun r hr => hr, fun e => absurd e hg⟩
theorem elJ_mono {v k : Nat} {a : FR} : ∀ (m : List FR) (o : Option (List FR)) (out : List FR), m.foldl (fun o b => elS v k o a b) o = some out → ∃ O, o = some O ∧ (∀ r ∈ O, r ∈ out) ∧ ∀ b ∈ m, goodP a b v k → redB (cmbE a b v) = true ∧ cmbR a b v ∈ out
 | [], o, out, h => ⟨out, h, fun r hr => hr, fun b hb => by cases hb⟩
 | b :: m, o, out, h => by
   obtain ⟨O1, h1, h2, h3⟩ := elJ_mono m _ out h;obtain ⟨O, g1, g2, g3⟩ := elS_mono h1;refine ⟨O, g1, fun r hr => h2 r (g2 r hr), fun c hc hg => ?_⟩;rcases List.mem_cons.1 hc with rfl | hc
   ·obtain ⟨e1, e2⟩ := g3 hg
    exact ⟨e1, h2 _ e2⟩
   ·exact h3 c hc hg
theorem elI_mono {v k : Nat} {l : List FR} : ∀ (m : List FR) (o : Option (List FR)) (out : List FR), m.foldl (fun o a => elJ v k l a o l.length) o = some out → ∃ O, o = some O ∧ (∀ r ∈ O, r ∈ out) ∧ ∀ a ∈ m, ∀ b ∈ l, goodP a b v k → redB (cmbE a b v) = true ∧ cmbR a b v ∈ out
 | [], o, out, h => ⟨out, h, fun r hr => hr, fun b hb => by cases hb⟩
 | a :: m, o, out, h => by
   obtain ⟨O1, h1, h2, h3⟩ := elI_mono m _ out h;unfold elJ at h1;rw [List.take_length] at h1;obtain ⟨O, g1, g2, g3⟩ := elJ_mono l o O1 h1;refine ⟨O, g1, fun r hr => h2 r (g2 r hr), fun c hc b hb hg => ?_⟩;rcases List.mem_cons.1 hc with rfl | hc
   ·obtain ⟨e1, e2⟩ := g3 b hb hg
    exact ⟨e1, h2 _ e2⟩
   ·exact h3 c hc b hb hg
theorem elm_has {l out : List FR} {v k : Nat} (h : elmO l v k = some out) : (∀ r ∈ l, r.c[v]! = 0 → r ∈ out) ∧ ∀ a ∈ l, ∀ b ∈ l, goodP a b v k → redB (cmbE a b v) = true ∧ cmbR a b v ∈ out := by
 unfold elmO elI at h;rw [List.take_length] at h;obtain ⟨O, h1, h2, h3⟩ := elI_mono l _ out h;cases h1
 refine ⟨fun r hr hz => h2 r ?_, h3⟩;unfold zerI;rw [List.take_length];exact List.mem_filter.2 ⟨hr, decide_eq_true hz⟩
theorem bitsK_zero : ∀ k, bitsK k 0 = 0
 | 0 => rfl
 | k + 1 => by unfold bitsK; rw [if_pos rfl]
theorem bitsK_eq : ∀ (k x : Nat), bitsK k x = ((List.range k).filter fun i => x.testBit i).length
 | 0, _ => rfl
 | k + 1, x => by
   have ih := bitsK_eq k (x / 2)
   have e : ((List.range (k + 1)).filter fun i => x.testBit i).length = x % 2 + ((List.range k).filter fun i => (x / 2).testBit i).length := by
    rw [List.range_succ_eq_map, List.filter_cons]
    have e1 : ((List.range k).map Nat.succ).filter (fun i => x.testBit i) = ((List.range k).filter fun i => (x / 2).testBit i).map Nat.succ := by
     rw [List.filter_map]
     congr 1
     refine List.filter_congr fun i _ => ?_
     simp [Nat.testBit_succ]
    rw [e1];by_cases h : x % 2 = 1
    ·rw [if_pos (by simp [Nat.testBit_zero, h])]; simp; omega
    ·rw [if_neg (by simp [Nat.testBit_zero, h])]; simp; omega
   have hb : bitsK (k + 1) x = if x = 0 then 0 else x % 2 + bitsK k (x / 2) := rfl
   rw [e, ← ih, hb]
   split
   ·rename_i h; subst h; rw [show (0 : Nat) / 2 = 0 from rfl, bitsK_zero]
   ·rfl
theorem bits_cnt {m x : Nat} {y : Nat → Rat} (hm : m ≤ 64) (hy : ∀ i, m ≤ i → y i = 0) (h : ∀ i, x.testBit i = decide (y i ≠ 0)) : bitsN x = cnt m y := by
 unfold bitsN cnt;rw [bitsK_eq]
 have e : (List.range 64).filter (fun i => x.testBit i) = (List.range m).filter fun i => decide (y i ≠ 0) := by
  obtain ⟨d, hd⟩ : ∃ d, 64 = m + d := ⟨64 - m, by omega⟩;rw [hd, List.range_add, List.filter_append]
  have : ((List.range d).map fun i => m + i).filter (fun i => x.testBit i) = [] := by
   rw [List.filter_eq_nil_iff];intro i hi;obtain ⟨j, _, rfl⟩ := List.mem_map.1 hi;rw [h, hy _ (Nat.le_add_right _ _)]; simp
  rw [this, List.append_nil];exact List.filter_congr fun i _ => h i
 rw [e]
structure RepR (m w : Nat) (A : Nat → Nat → Rat) (y : Nat → Rat) (r : FR) (s : Rat) : Prop where
 pos : 0 < s
 eq : ∀ j, j < w → ((r.c[j]! : Int) : Rat) = s * col m A y j
 bit : ∀ i, r.fm.testBit i = decide (y i ≠ 0)
def Rep (m w : Nat) (A : Nat → Nat → Rat) (E : List Nat) (l : List FR) : Prop := ∀ y, Min m A E y → ∃ r ∈ l, ∃ s, RepR m w A y r s
theorem cast_pos {s x : Rat} {a : Int} (hs : 0 < s) (h : ((a : Int) : Rat) = s * x) : (0 < a ↔ 0 < x) ∧ (a < 0 ↔ x < 0) ∧ (a = 0 ↔ x = 0) := by
 have h1 : (0 < a ↔ (0 : Rat) < (a : Rat)) := by have := Rat.intCast_lt_intCast (a := 0) (b := a); simpa using this.symm
 have h2 : (a < 0 ↔ (a : Rat) < 0) := by have := Rat.intCast_lt_intCast (a := a) (b := 0); simpa using this.symm
 have p1 : 0 < x → 0 < s * x := fun hx => Rat.mul_pos hs hx
 have p2 : x < 0 → s * x < 0 := fun hx => by have := Rat.mul_pos hs (show 0 < -x by grind); grind
 have p3 : x = 0 → s * x = 0 := fun hx => by rw [hx]; grind
 have htri : x < 0 ∨ x = 0 ∨ 0 < x := by
  by_cases a : x < 0
  ·exact Or.inl a
  ·by_cases b : x = 0
   ·exact Or.inr (Or.inl b)
   ·exact Or.inr (Or.inr (by grind))
 rcases htri with hx | hx | hx
 ·have := p2 hx
  rw [h1, h2, h];refine ⟨by grind, by grind, ⟨fun e => ?_, fun e => by grind⟩⟩;have : ((a : Int) : Rat) < 0 := by rw [h]; exact this
  have := h2.2 this; omega
 ·have := p3 hx
  have ha : a = 0 := by
   have e : ((a : Int) : Rat) = ((0 : Int) : Rat) := by rw [h, this]; rfl
   exact Rat.intCast_inj.1 e
  subst ha;refine ⟨by constructor <;> intro h9 <;> grind, by constructor <;> intro h9 <;> grind, by simp [hx]⟩
 ·have := p1 hx
  rw [h1, h2, h];refine ⟨by grind, by grind, ⟨fun e => ?_, fun e => by grind⟩⟩;have : (0 : Rat) < ((a : Int) : Rat) := by rw [h]; exact this
  have := h1.2 this; omega
theorem rep_step {m w v k : Nat} {A : Nat → Nat → Rat} {E : List Nat} {l out : List FR} (hm : m ≤ 62) (hv : v < w) (hl : ∀ r ∈ l, okRw w r) (hk : k = E.length + 1) (hR : Rep m w A E l) (h : elmO l v k = some out) : Rep m w A (v :: E) out := by
 obtain ⟨m1, m2⟩ := elm_has h;intro y hy;rcases FM.step hy with ⟨h1, h2⟩ | ⟨z1, z2, c, h1, h2, p1, p2, hc, he⟩
 ·obtain ⟨r, hr, s, hs⟩ := hR y h1
  exact ⟨r, m1 r hr ((cast_pos hs.pos (hs.eq v hv)).2.2.2 h2), s, hs⟩
 ·obtain ⟨r1, hr1, s1, q1⟩ := hR z1 h1
  obtain ⟨r2, hr2, s2, q2⟩ := hR z2 h2;have a1 := (cast_pos q1.pos (q1.eq v hv)).1.2 p1;have a2 := (cast_pos q2.pos (q2.eq v hv)).2.1.2 p2
  have hbit : ∀ i, (r1.fm ||| r2.fm).testBit i = decide (y i ≠ 0) := fun i => by
   rw [Nat.testBit_or, q1.bit, q2.bit, he i];have n1 := h1.1.1 i;have n2 := h2.1.1 i;have g1 : 0 ≤ - col m A z2 v * z1 i := Rat.mul_nonneg (by grind) n1;have g2 : 0 ≤ col m A z1 v * z2 i := Rat.mul_nonneg (by grind) n2;by_cases e1 : z1 i = 0
   ·by_cases e2 : z2 i = 0
    ·rw [e1, e2]; simp; grind
    ·have : 0 < col m A z1 v * z2 i := Rat.mul_pos p1 (by grind)
     have := Rat.mul_pos hc (show 0 < - col m A z2 v * z1 i + col m A z1 v * z2 i by grind);rw [decide_eq_true e2, Bool.or_true, eq_comm, decide_eq_true_eq]
     grind
   ·have : 0 < - col m A z2 v * z1 i := Rat.mul_pos (by grind) (by grind)
    have := Rat.mul_pos hc (show 0 < - col m A z2 v * z1 i + col m A z1 v * z2 i by grind);rw [decide_eq_true e1, Bool.true_or, eq_comm, decide_eq_true_eq]
    grind
  have hcnt := bits_cnt (m := m) (by omega) hy.1.2.1 hbit;have hkoh := kohler hy;have hg : goodP r1 r2 v k := ⟨a1, a2, by rw [hcnt, hk]; simpa using hkoh⟩;obtain ⟨b1, b2⟩ := m2 r1 hr1 r2 hr2 hg;obtain ⟨e, e1, e2⟩ := redR_mul b1;have hlen : (cmbE r1 r2 v).length = w := by simp [cmbE, (hl r1 hr1).len]
  have hep : (0 : Rat) < (e : Rat) := by exact_mod_cast e1
  have hne : (e : Rat) ≠ 0 := by grind
  have hcn : c ≠ 0 := by grind
  refine ⟨_, b2, s1 * s2 / (c * e), ⟨?_, fun j hj => ?_, hbit⟩⟩
  ·rw [Rat.div_def]
   exact Rat.mul_pos (Rat.mul_pos q1.pos q2.pos) (Rat.inv_pos.2 (Rat.mul_pos hc hep))
  ·have h3 := e2 j (by omega)
   have h4 : (cmbE r1 r2 v)[j]! = r1.c[j]! * (0 - r2.c[v]!) + r2.c[j]! * r1.c[v]! := by
    rw [getElem!_pos _ j (by omega)];simp only [cmbE, List.getElem_map, List.getElem_range]
   rw [h4] at h3
   have h5 : (((cmbR r1 r2 v).c[j]! : Int) : Rat) * (e : Rat) = s1 * col m A z1 j * (0 - s2 * col m A z2 v) + s2 * col m A z2 j * (s1 * col m A z1 v) := by
    rw [← q1.eq j hj, ← q2.eq v hv, ← q2.eq j hj, ← q1.eq v hv];have := congrArg (fun z : Int => (z : Rat)) h3;simp only [Rat.intCast_mul, Rat.intCast_add, Rat.intCast_sub] at this;exact this
   have h6 : col m A y j = c * (- col m A z2 v * col m A z1 j + col m A z1 v * col m A z2 j) := by
    have ey : y = fun i => c * (- col m A z2 v * z1 i + col m A z1 v * z2 i) := funext he
    rw [ey, zCP, zCQ, zCP, zCP]
   have h7 : (((cmbR r1 r2 v).c[j]! : Int) : Rat) * (e : Rat) * c = s1 * s2 * col m A y j := by
    rw [h5, h6]; grind
   have h8 : c * (e : Rat) ≠ 0 := fun e0 => by rcases Rat.mul_eq_zero.1 e0 with h | h; exact hcn h; exact hne h
   have h9 : s1 * s2 / (c * e) * (c * e) = s1 * s2 := Rat.div_mul_cancel h8
   have h10 : ((((cmbR r1 r2 v).c[j]! : Int) : Rat) - s1 * s2 / (c * e) * col m A y j) * (c * e) = 0 := by
    have : ((((cmbR r1 r2 v).c[j]! : Int) : Rat) - s1 * s2 / (c * e) * col m A y j) * (c * e) = (((cmbR r1 r2 v).c[j]! : Int) : Rat) * (e : Rat) * c - (s1 * s2 / (c * e) * (c * e)) * col m A y j := by grind
    rw [this, h9, h7]; grind
   rcases Rat.mul_eq_zero.1 h10 with h | h
   ·grind
   ·exact absurd h h8
end Go.PI
namespace Go.PI
theorem sumV_nil (y : Nat → Rat) : ∀ m, sumV [] y m = 0
 | 0 => rfl
 | m + 1 => by simp only [sumV]; rw [sumV_nil y m]; simp only [cf]; grind
theorem sumV_low (p : QT) (l : List QT) (y : Nat → Rat) : ∀ m : Nat, (m : Int) ≤ p.1 → sumV (p :: l) y m = sumV l y m
 | 0, _ => rfl
 | m + 1, h => by
   simp only [sumV];rw [sumV_low p l y m (by omega)];simp only [cf];rw [if_neg (show ¬ p.1 = (m : Int) by omega)]; grind
theorem sumV_cons (p : QT) (l : List QT) (y : Nat → Rat) (h0 : 0 ≤ p.1) : ∀ m : Nat, p.1 < (m : Int) → sumV (p :: l) y m = p.2 * y p.1.toNat + sumV l y m
 | 0, h => by omega
 | m + 1, h => by
   simp only [sumV];simp only [cf];by_cases e : p.1 = (m : Int)
   ·rw [sumV_low p l y m (by omega), if_pos e, show p.1.toNat = m by omega]; grind
   ·rw [sumV_cons p l y h0 m (by omega), if_neg e]; grind
theorem sumV_dot {y : Nat → Rat} {X : List Rat} {m : Nat} (hy : ∀ i, i < m → y i = X[i]!) : ∀ l : List QT, (∀ t ∈ l, 0 ≤ t.1 ∧ t.1 < (m : Int)) → sumV l y m = dot X l
 | [], _ => sumV_nil y m
 | p :: l, h => by
   have h1 := h p (by simp);rw [sumV_cons p l y h1.1 m h1.2, sumV_dot hy l fun t ht => h t (List.mem_cons_of_mem _ ht), hy _ (by omega)]; rfl
end Go.PI
namespace Go.PI
open FM
theorem w_get0 {α : Type} [Inhabited α] {l : List α} {i : Nat} (h : i < l.length) : l[i]! ∈ l := by rw [getElem!_pos l i h]; exact List.getElem_mem h
def colA (l0 : List FR) (i j : Nat) : Rat := ((l0[i]!.c[j]! : Int) : Rat)
theorem ls_single (i : Nat) (f : Nat → Rat) : ∀ (S : List Nat), S.Nodup → i ∈ S → (∀ j, j ≠ i → f j = 0) → ls S f = f i
 | [], _, h, _ => by cases h
 | a :: S, hn, h, h0 => by
   rw [zCT];obtain ⟨n1, n2⟩ := List.nodup_cons.1 hn;by_cases e : a = i
   ·subst e
    rw [zI7 fun j hj => h0 j fun e => n1 (by rw [← e]; exact hj)]; grind
   ·rw [h0 a e, ls_single i f S n2 (by rcases List.mem_cons.1 h with h | h; exact absurd h.symm e; exact h) h0]; grind
theorem rep_init {w : Nat} {l0 : List FR} (hfm : ∀ i, i < l0.length → l0[i]!.fm = 2 ^ i) : Rep l0.length w (colA l0) [] l0 := by
 intro y hy;obtain ⟨i, hi⟩ := hy.2.1;have him : i < l0.length := zJJ hy.1 hi;have hp := zIG hy.1 hi;have hz : Cone l0.length (colA l0) [] (fun j => if j = i then 1 else 0) := ⟨fun j => by dsimp only; split <;> decide, fun j hj => by dsimp only; rw [if_neg (by omega)], fun j hj => by cases hj⟩
 have hs := hy.2.2 _ hz ⟨i, by rw [if_pos rfl]; decide⟩ (fun j hj => by
  by_cases e : j = i
  ·rw [e]; exact hi
  ·rw [if_neg e] at hj; exact absurd rfl hj)
 have h0 : ∀ j, j ≠ i → y j = 0 := fun j hj => Classical.not_not.1 fun e => by
  have := hs j e;dsimp only at this;rw [if_neg hj] at this; exact this rfl
 refine ⟨l0[i]!, w_get0 him, (y i)⁻¹, ⟨Rat.inv_pos.2 hp, fun j _ => ?_, fun j => ?_⟩⟩
 ·unfold col
  rw [ls_single i _ _ List.nodup_range (List.mem_range.2 him) fun j hj => by rw [h0 j hj]; grind];have : (y i)⁻¹ * y i = 1 := Rat.inv_mul_cancel _ (by grind);have e : (y i)⁻¹ * (y i * colA l0 i j) = (y i)⁻¹ * y i * colA l0 i j := by grind
  rw [e, this]; unfold colA; grind
 ·rw [hfm i him, Nat.testBit_two_pow]
  by_cases e : i = j
  ·subst e; rw [decide_eq_true rfl, eq_comm, decide_eq_true_eq]; exact hi
  ·rw [decide_eq_false e, eq_comm, decide_eq_false_iff_not]
   exact fun h => h (h0 j (Ne.symm e))
theorem feI_rep {n w : Nat} {l0 : List FR} (hl : ∀ r ∈ l0, okRw w r) (hm : l0.length ≤ 62) (hnw : n ≤ w) (hfm : ∀ i, i < l0.length → l0[i]!.fm = 2 ^ i) : ∀ k, k ≤ n → ∀ s, feI n l0 k = some s → ∃ E : List Nat, E.length = k ∧ (∀ j ∈ E, j < n) ∧ Rep l0.length w (colA l0) E s.l
 | 0, _, s, h => by cases h; exact ⟨[], rfl, fun j hj => (by cases hj), rep_init hfm⟩
 | k + 1, hk, s, h => by
   unfold feI at h;cases hp : feI n l0 k with
   | none => rw [hp] at h; cases h
   | some s0 =>
     rw [hp] at h;obtain ⟨E, e1, e2, e3⟩ := feI_rep hl hm hnw hfm k (by omega) s0 hp;have hP := feI_ok hl hnw k (by omega) s0 hp;obtain ⟨b1, _⟩ := zGQ s0.l s0.done n;dsimp only at h;unfold feS at h;cases hb : bestI s0.l s0.done n with
     | none => rw [hb] at h; cases h
     | some b =>
       rw [hb] at h;dsimp only at h;have hbn := (b1 b hb).1
       split at h
       ·cases h
       ·cases hE : elmO s0.l b (k + 1) with
        | none => rw [hE] at h; cases h
        | some l' =>
          rw [hE] at h;cases h
          refine ⟨b :: E, by simp [e1], fun j hj => ?_, rep_step hm (by omega) hP.rw (by omega) e3 hE⟩;rcases List.mem_cons.1 hj with rfl | hj
          ·exact hbn
          ·exact e2 j hj
theorem rep_all {m w n : Nat} {A : Nat → Nat → Rat} {E : List Nat} {l : List FR} (hw : n + 1 < w) (hR : Rep m w A E l) {t : Rat} (ht : ∀ r ∈ l, 0 ≤ ((r.c[n]! : Int) : Rat) * t + ((r.c[n + 1]! : Int) : Rat)) {y : Nat → Rat} (hy : Cone m A E y) : 0 ≤ col m A y n * t + col m A y (n + 1) := by
 refine zIH (Q := fun y => 0 ≤ col m A y n * t + col m A y (n + 1)) (fun y h0 => ?_) (fun a b ha hb => ?_) (fun c a hc ha => ?_) _ y (Nat.le_refl _) hy fun z hz _ => ?_
 ·have e : ∀ j, col m A y j = 0 := fun j => by unfold col; exact zI7 fun i _ => by rw [h0 i]; grind
  rw [e, e]; grind
 ·try dsimp only at ha hb ⊢
  rw [zCQ, zCQ]; grind
 ·try dsimp only at ha ⊢
  rw [zCP, zCP];have := Rat.mul_nonneg (Rat.le_of_lt hc) ha
  grind
 ·obtain ⟨r, hr, s, hs⟩ := hR z hz
  have h1 := ht r hr;rw [hs.eq n (by omega), hs.eq (n + 1) hw] at h1
  try dsimp only
  refine Rat.not_lt.1 fun h2 => ?_
  have := Rat.mul_pos hs.pos (show 0 < - (col m A z n * t + col m A z (n + 1)) by grind)
  grind
theorem enV_mul {a c : Int} (h : a ≠ 0) : (a : Rat) * enV a c + (c : Rat) = 0 := by
 unfold enV;by_cases ha : 0 < a
 ·rw [if_pos ha, Rat.mkRat_eq_div]
  have e : ((a.natAbs : Nat) : Rat) = (a : Rat) := by
   have h1 : ((a.natAbs : Nat) : Int) = a := by omega
   have h2 : (((a.natAbs : Nat) : Int) : Rat) = ((a : Int) : Rat) := by rw [h1]
   exact h2
  rw [e];have hp := zI9 ha;have h4 : (a : Rat) * (((0 - c : Int) : Rat) / (a : Rat)) = ((0 - c : Int) : Rat) := by rw [Rat.mul_comm]; exact Rat.div_mul_cancel (fun e => by rw [e] at hp; exact absurd hp (by decide))
  rw [h4, Rat.intCast_sub]; grind
 ·rw [if_neg ha, Rat.mkRat_eq_div]
  have e : ((a.natAbs : Nat) : Rat) = - (a : Rat) := by
   have : ((a.natAbs : Nat) : Int) = - a := by omega
   have h2 : (((a.natAbs : Nat) : Int) : Rat) = ((- a : Int) : Rat) := by rw [this]
   rw [Rat.intCast_neg] at h2;exact h2
  rw [e]
  have hp : (0 : Rat) < - (a : Rat) := by
   have := zI9 (a := -a) (by omega)
   rwa [Rat.intCast_neg] at this
  have h4 : - (a : Rat) * ((c : Rat) / - (a : Rat)) = (c : Rat) := by rw [Rat.mul_comm]; exact Rat.div_mul_cancel (fun e => by rw [e] at hp; exact absurd hp (by decide))
  grind
structure EnF (l : List FR) (n i : Nat) (s : EnS) : Prop where
 up : ∀ j, j < i → 0 < l[j]!.c[n]! → s.low = true ∧ enV l[j]!.c[n]! l[j]!.c[n + 1]! ≤ s.least
 dn : ∀ j, j < i → l[j]!.c[n]! < 0 → s.high = true ∧ s.most ≤ enV l[j]!.c[n]! l[j]!.c[n + 1]!
 zr : ∀ j, j < i → l[j]!.c[n]! = 0 → 0 ≤ l[j]!.c[n + 1]!
theorem enS_full {l : List FR} {n i : Nat} {s : EnS} (h : EnF l n i s) (h0 : ¬ (l[i]!.c[n]! = 0 ∧ l[i]!.c[n + 1]! < 0)) : EnF l n (i + 1) (enS s l[i]!.c[n]! l[i]!.c[n + 1]!) := by
 generalize ha : l[i]!.c[n]! = a at *
 generalize hc : l[i]!.c[n + 1]! = c at *
 unfold enS;by_cases e0 : a = 0
 ·rw [if_pos e0]
  refine ⟨fun j hj hp => ?_, fun j hj hp => ?_, fun j hj hp => ?_⟩
  ·by_cases e : j = i
   ·subst e; omega
   ·exact h.up j (by omega) hp
  ·by_cases e : j = i
   ·subst e; omega
   ·exact h.dn j (by omega) hp
  ·by_cases e : j = i
   ·subst e; omega
   ·exact h.zr j (by omega) hp
 rw [if_neg e0];by_cases e1 : 0 < a
 ·rw [if_pos e1]
  refine ⟨fun j hj hp => ⟨rfl, ?_⟩, fun j hj hp => ?_, fun j hj hp => ?_⟩
  ·dsimp only
   by_cases e : j = i
   ·subst e
    rw [ha, hc]
    split
    ·exact Rat.le_refl
    ·rename_i hn
     exact Rat.not_lt.1 fun e => hn (Or.inr e)
   ·obtain ⟨g1, g2⟩ := h.up j (by omega) hp
    split
    ·rename_i hn
     rcases hn with hn | hn
     ·rw [g1] at hn; cases hn
     ·exact Rat.le_trans g2 (Rat.le_of_lt hn)
    ·exact g2
  ·by_cases e : j = i
   ·subst e; omega
   ·exact h.dn j (by omega) hp
  ·by_cases e : j = i
   ·subst e; omega
   ·exact h.zr j (by omega) hp
 ·rw [if_neg e1]
  refine ⟨fun j hj hp => ?_, fun j hj hp => ⟨rfl, ?_⟩, fun j hj hp => ?_⟩
  ·by_cases e : j = i
   ·subst e; omega
   ·exact h.up j (by omega) hp
  ·dsimp only
   by_cases e : j = i
   ·subst e
    rw [ha, hc]
    split
    ·exact Rat.le_refl
    ·rename_i hn
     exact Rat.not_lt.1 fun e => hn (Or.inr e)
   ·obtain ⟨g1, g2⟩ := h.dn j (by omega) hp
    split
    ·rename_i hn
     rcases hn with hn | hn
     ·rw [g1] at hn; cases hn
     ·exact Rat.le_trans (Rat.le_of_lt hn) g2
    ·exact g2
  ·by_cases e : j = i
   ·subst e; omega
   ·exact h.zr j (by omega) hp
theorem enI_full {l : List FR} {n : Nat} : ∀ i, i ≤ l.length → ∀ s, enI l n i = some s → EnF l n i s
 | 0, _, s, _ => ⟨fun j hj => by omega, fun j hj => by omega, fun j hj => by omega⟩
 | i + 1, hi, s, h => by
   unfold enI at h;cases hp : enI l n i with
   | none => rw [hp] at h; cases h
   | some c =>
     rw [hp] at h;dsimp only at h
     split at h
     ·cases h
     ·rename_i h0
      rw [← Option.some.inj h];exact enS_full (enI_full i (by omega) c hp) h0
theorem end_ok {l : List FR} {n : Nat} (t : Rat) (h : (endV l n).1 = 1 ∧ t = (endV l n).2) : ∀ r ∈ l, 0 ≤ ((r.c[n]! : Int) : Rat) * t + ((r.c[n + 1]! : Int) : Rat) := by
 unfold endV enR at h;cases he : enI l n l.length with
 | none => rw [he] at h; exact absurd h.1 (by decide)
 | some s =>
   rw [he] at h;have hF := enI_full l.length (Nat.le_refl _) s he;dsimp only at h
   split at h
   ·exact absurd h.1 (by decide)
   ·rename_i h1
    split at h
    ·exact absurd h.1 (by decide)
    ·rename_i h2
     intro r hr;obtain ⟨j, hj, rfl⟩ := List.getElem_of_mem hr;have u := hF.up j hj;have d := hF.dn j hj;have z := hF.zr j hj;rw [getElem!_pos l j hj] at u d z;obtain ⟨_, ht⟩ := h;generalize l[j].c[n]! = a at *
     generalize l[j].c[n + 1]! = c at *
     have hlow : s.low = true := by cases hs : s.low; exact absurd hs h2; rfl
     rcases Int.lt_trichotomy a 0 with ha | ha | ha
     ·obtain ⟨g1, g2⟩ := d ha
      have h3 : s.least ≤ s.most := Rat.not_lt.1 fun e => h1 ⟨hlow, g1, e⟩
      have hm := enV_mul (c := c) (show a ≠ 0 by omega);have h4 : t ≤ enV a c := by rw [ht]; exact Rat.le_trans h3 g2
      have hp : (0 : Rat) < - (a : Rat) := by
       have := zI9 (a := -a) (by omega)
       rwa [Rat.intCast_neg] at this
      have := Rat.mul_nonneg (Rat.le_of_lt hp) (show 0 ≤ enV a c - t by grind)
      grind
     ·have h5 := z ha
      subst ha;have : (0 : Rat) ≤ (c : Rat) := by exact_mod_cast h5
      grind
     ·obtain ⟨g1, g2⟩ := u ha
      have hm := enV_mul (c := c) (show a ≠ 0 by omega);have h4 : enV a c ≤ t := by rw [ht]; exact g2
      have := Rat.mul_nonneg (Rat.le_of_lt (zI9 ha)) (show 0 ≤ t - enV a c by grind)
      grind
end Go.PI
namespace Go.PI
open FM
theorem end_low {l : List FR} {n : Nat} (h : (endV l n).1 = 3) : ∃ T : Rat, ∀ t, t ≤ T → ∀ r ∈ l, 0 ≤ ((r.c[n]! : Int) : Rat) * t + ((r.c[n + 1]! : Int) : Rat) := by
 unfold endV enR at h;cases he : enI l n l.length with
 | none => rw [he] at h; exact absurd h (by decide)
 | some s =>
   rw [he] at h;have hF := enI_full l.length (Nat.le_refl _) s he;dsimp only at h
   split at h
   ·exact absurd h (by decide)
   ·split at h
    ·rename_i h2
     refine ⟨s.most, fun t ht r hr => ?_⟩;obtain ⟨j, hj, rfl⟩ := List.getElem_of_mem hr;have u := hF.up j hj;have d := hF.dn j hj;have z := hF.zr j hj;rw [getElem!_pos l j hj] at u d z;generalize l[j].c[n]! = a at *
     generalize l[j].c[n + 1]! = c at *
     rcases Int.lt_trichotomy a 0 with ha | ha | ha
     ·obtain ⟨g1, g2⟩ := d ha
      have hm := enV_mul (c := c) (show a ≠ 0 by omega);have h4 : t ≤ enV a c := Rat.le_trans ht g2
      have hp : (0 : Rat) < - (a : Rat) := by
       have := zI9 (a := -a) (by omega)
       rwa [Rat.intCast_neg] at this
      have := Rat.mul_nonneg (Rat.le_of_lt hp) (show 0 ≤ enV a c - t by grind)
      grind
     ·have h5 := z ha
      subst ha;have : (0 : Rat) ≤ (c : Rat) := by exact_mod_cast h5
      grind
     ·have := (u ha).1
      rw [h2] at this; cases this
    ·exact absurd (show (1 : Int) = 3 from h) (by decide)
theorem end_st (l : List FR) (n : Nat) : (endV l n).1 = 0 ∨ (endV l n).1 = 1 ∨ (endV l n).1 = 2 ∨ (endV l n).1 = 3 := by
 unfold endV enR
 split
 ·exact Or.inr (Or.inr (Or.inl rfl))
 ·split
  ·exact Or.inr (Or.inr (Or.inl rfl))
  ·split
   ·exact Or.inr (Or.inr (Or.inr rfl))
   ·exact Or.inr (Or.inl rfl)
theorem lst_st (A : List QF) (n : Nat) : (lstV A n).1 = 0 ∨ (lstV A n).1 = 1 ∨ (lstV A n).1 = 2 ∨ (lstV A n).1 = 3 := by
 unfold lstV
 split
 ·unfold feV
  split
  ·exact Or.inl rfl
  ·exact end_st _ _
 ·exact Or.inl rfl
def frmC (A : List QF) (n : Nat) (u : Nat → Rat) (j : Nat) : Rat := ls (List.range A.length) (fun i => u i * (frX A[i]! (n + 1))[j]!)
theorem lst_great {A : List QF} {n : Nat} {u : Nat → Rat} (h0 : ∀ i, 0 ≤ u i) (hz : ∀ j, j < n → frmC A n u j = 0) : ((lstV A n).1 = 1 → 0 ≤ frmC A n u n * (lstV A n).2 + frmC A n u (n + 1)) ∧ ((lstV A n).1 = 3 → frmC A n u n ≤ 0) := by
 unfold lstV
 split
 ·rename_i hc
  obtain ⟨h62, hB⟩ := hc
  have hden : ∀ i, i < A.length → ∃ s : Rat, 0 < s ∧ ∀ j, j < n + 2 → (((rw0 A n A.length)[i]!.c[j]! : Int) : Rat) = s * (frX A[i]! (n + 1))[j]! := fun i hi => by
   obtain ⟨g1, g2, s, hs, g3⟩ := denV_ok (hB i hi);refine ⟨s, hs, fun j hj => ?_⟩
   have e : (rw0 A n A.length)[i]!.c = (denV (frX A[i]! (n + 1))).1 := by
    rw [getElem!_pos _ i (by rw [rw0_len]; exact hi)];unfold rw0;rw [List.getElem_map, List.getElem_range]
   rw [e];exact g3 j (by rw [frX_len]; exact hj)
  have hfm : ∀ i, i < (rw0 A n A.length).length → (rw0 A n A.length)[i]!.fm = 2 ^ i := fun i hi => by
   have hi2 : i < A.length := by rw [rw0_len] at hi; exact hi
   have e : (rw0 A n A.length)[i]? = some ⟨(denV (frX A[i]! (n + 1))).1, 2 ^ i⟩ := by
    unfold rw0;rw [List.getElem?_map, List.getElem?_range hi2]; rfl
   rw [getElem!_pos _ i hi, Option.some.inj ((List.getElem?_eq_getElem hi).symm.trans e)]
  have hl := rw0_ok hB h62;have hlen := rw0_len A n A.length;generalize rw0 A n A.length = l0 at *
  let sc : Nat → Rat := fun i => if h : i < A.length then Classical.choose (hden i h) else 1
  have hsc : ∀ i, i < A.length → 0 < sc i ∧ ∀ j, j < n + 2 → ((l0[i]!.c[j]! : Int) : Rat) = sc i * (frX A[i]! (n + 1))[j]! := fun i hi => by
   show 0 < (if h : i < A.length then Classical.choose (hden i h) else 1) ∧ ∀ j, j < n + 2 → _ = (if h : i < A.length then Classical.choose (hden i h) else 1) * _
   rw [dif_pos hi];exact Classical.choose_spec (hden i hi)
  let y : Nat → Rat := fun i => if i < A.length then u i * (sc i)⁻¹ else 0
  have hy : ∀ i, i < A.length → y i = u i * (sc i)⁻¹ := fun i hi => if_pos hi
  have hcol : ∀ j, j < n + 2 → col l0.length (colA l0) y j = frmC A n u j := fun j hj => by
   unfold col frmC;rw [hlen];refine zEN fun i hi => ?_
   have hi := List.mem_range.1 hi;obtain ⟨p1, p2⟩ := hsc i hi;rw [hy i hi];unfold colA;rw [p2 j hj];have : (sc i)⁻¹ * sc i = 1 := Rat.inv_mul_cancel _ (by grind);have e : u i * (sc i)⁻¹ * (sc i * (frX A[i]! (n + 1))[j]!) = u i * ((sc i)⁻¹ * sc i) * (frX A[i]! (n + 1))[j]! := by grind
   rw [e, this]; grind
  have hcone : ∀ E : List Nat, (∀ j ∈ E, j < n) → Cone l0.length (colA l0) E y := fun E hE => ⟨fun i => by
   by_cases hi : i < A.length
   ·rw [hy i hi]
    exact Rat.mul_nonneg (h0 i) (Rat.le_of_lt (Rat.inv_pos.2 (hsc i hi).1))
   ·show 0 ≤ (if i < A.length then u i * (sc i)⁻¹ else 0)
    rw [if_neg hi]; exact Rat.le_refl, fun i hi => if_neg (by omega), fun j hj => by rw [hcol j (by have := hE j hj; omega)]; exact hz j (hE j hj)⟩
  unfold feV;cases hf : feI n l0 n with
  | none => exact ⟨fun h => absurd (show (0 : Int) = 1 from h) (by decide), fun h => absurd (show (0 : Int) = 3 from h) (by decide)⟩
  | some s =>
    dsimp only;obtain ⟨E, e1, e2, e3⟩ := feI_rep hl (by omega) (by omega) hfm n (Nat.le_refl _) s hf;have hC := hcone E e2;refine ⟨fun h1 => ?_, fun h3 => ?_⟩
    ·have := rep_all (n := n) (by omega) e3 (end_ok _ ⟨h1, rfl⟩) hC
     rwa [hcol n (by omega), hcol (n + 1) (by omega)] at this
    ·obtain ⟨T, hT⟩ := end_low h3
     refine Rat.not_lt.1 fun hpos => ?_
     have key : ∀ t, t ≤ T → 0 ≤ frmC A n u n * t + frmC A n u (n + 1) := fun t ht => by
      have := rep_all (n := n) (by omega) e3 (hT t ht) hC
      rwa [hcol n (by omega), hcol (n + 1) (by omega)] at this
     generalize frmC A n u n = a at *
     generalize frmC A n u (n + 1) = c at *
     have hk : ∃ t, t ≤ T ∧ a * t + c < 0 := by
      have hd : a * (- (c + 1) / a) = - (c + 1) := by rw [Rat.mul_comm]; exact Rat.div_mul_cancel (by grind)
      by_cases hle : - (c + 1) / a ≤ T
      ·exact ⟨_, hle, by rw [hd]; grind⟩
      ·refine ⟨T, Rat.le_refl, ?_⟩
       have := Rat.mul_pos hpos (show 0 < - (c + 1) / a - T by grind)
       grind
     obtain ⟨t, t1, t2⟩ := hk;have := key t t1
     grind
 ·exact ⟨fun h => absurd h (by decide), fun h => absurd h (by decide)⟩
end Go.PI
namespace Go.PI
open FM
def unitX (m j : Nat) : List Rat := (List.range m).map fun i => if i = j then 1 else 0
theorem sumV_ind (l : List QT) (j : Nat) : ∀ m, sumV l (fun i => if i = j then 1 else 0) m = if j < m then cf l j else 0
 | 0 => rfl
 | m + 1 => by
   simp only [sumV];rw [sumV_ind l j m];by_cases h1 : j < m
   ·rw [if_pos h1, if_neg (show ¬ m = j by omega), if_pos (show j < m + 1 by omega)]; grind
   ·by_cases h2 : m = j
    ·subst h2; rw [if_neg h1, if_pos rfl, if_pos (Nat.lt_succ_self _)]; grind
    ·rw [if_neg h1, if_neg h2, if_neg (show ¬ j < m + 1 by omega)]; grind
theorem dir_unit {f : QF} {m j : Nat} (hf : ∀ t ∈ f.ts, 0 ≤ t.1 ∧ t.1 < (m : Int)) (hj : j < m) : dirQ f (unitX m j) = cf f.ts j := by
 rw [dirQ_dot, ← sumV_dot (y := fun i => if i = j then 1 else 0) (m := m) (fun i hi => by
  unfold unitX
  rw [getElem!_pos _ i (by simpa using hi), List.getElem_map, List.getElem_range]) f.ts hf, sumV_ind, if_pos hj]
theorem dot_nil : ∀ l : List QT, dot [] l = 0
 | [] => rfl
 | p :: l => by
   simp only [dot];rw [dot_nil l, show ([] : List Rat)[p.1.toNat]! = 0 by simp; rfl]; grind
theorem ev_nil (f : QF) : evQ f [] = f.c := by rw [evQ_dot, dot_nil]; grind
theorem zGR {v w : QF → Rat} : ∀ (R : List QF) (ys : List RatL), (∀ f ∈ R, v f = w f) → wsum v R ys = wsum w R ys
 | [], _, _ => rfl
 | _ :: _, [], _ => rfl
 | f :: fs, y :: ys, h => by
   simp only [wsum];rw [h f (by simp), zGR fs ys fun g hg => h g (by simp [hg])]
theorem zEM (m : Nat) (g : Nat → Rat) : ls (List.range (m + 1)) g = g 0 + ls (List.range m) (fun i => g (i + 1)) := by
 rw [List.range_succ_eq_map, zCT]
 congr 1
 unfold ls;rw [List.map_map]; rfl
def wtU (ys : List RatL) (i : Nat) : Rat := if i < ys.length then qv ys[i]! else 0
theorem wsum_ls (v : QF → Rat) : ∀ (R : List QF) (ys : List RatL), wsum v R ys = ls (List.range R.length) (fun i => wtU ys i * v R[i]!)
 | [], _ => rfl
 | f :: fs, [] => by
   simp only [wsum];rw [zI7];intro i _;unfold wtU;rw [if_neg (by simp)]; grind
 | f :: fs, y :: ys => by
   simp only [wsum];rw [List.length_cons, zEM, wsum_ls v fs ys]
   congr 1
   refine zEN fun i _ => ?_
   have e : wtU (y :: ys) (i + 1) = wtU ys i := by unfold wtU; simp
   rw [e]; rfl
theorem dual_least {n : Nat} {R : List QF} {O : QF} {ys : List RatL} {b : Rat} (hR : ∀ f ∈ R, okF n f) (hO : okF n O) (hp : ∀ i, i < R.length → i < ys.length → 0 ≤ qv ys[i]!) (hev : ∀ x, evQ O x = b + wsum (fun f => evQ f x) R ys) (hdir : ∀ x, dirQ O x = wsum (fun f => dirQ f x) R ys) {V : Int × Rat} (hV : V = lstV ([mergeQ (varQ n) O (-1), mergeQ zeroQ (mergeQ (varQ n) O (-1)) (-1)] ++ R) n) : (V.1 = 1 → b ≤ V.2) ∧ V.1 ≠ 3 := by
 let u : Nat → Rat := fun i => match i with
  | 0 => 1
  | 1 => 0
  | i + 2 => if i < R.length then wtU ys i else 0
 have hu : ∀ i, 0 ≤ u i := fun i => by
  match i with
  | 0 => show (0 : Rat) ≤ 1; decide
  | 1 => exact Rat.le_refl
  | i + 2 =>
    show 0 ≤ (if i < R.length then wtU ys i else 0)
    split
    ·rename_i h1
     unfold wtU
     split
     ·rename_i h2; exact hp i h1 h2
     ·exact Rat.le_refl
    ·exact Rat.le_refl
 have hTv : ∀ t ∈ (mergeQ (varQ n) O (-1)).ts, 0 ≤ t.1 ∧ t.1 < ((n + 1 : Nat) : Int) := fun t ht => by
  rcases zDK _ _ _ _ (Nat.le_refl _) t ht with ⟨p, hp, e⟩ | ⟨p, hp, e⟩
  ·rw [List.mem_singleton.1 hp] at e
   dsimp only at e; omega
  ·have := hO.2 p hp; omega
 have hvv : ∀ t ∈ (varQ n).ts, 0 ≤ t.1 ∧ t.1 < ((n + 1 : Nat) : Int) := fun t ht => by
  rw [List.mem_singleton.1 ht]; dsimp only; omega
 have hOv : ∀ t ∈ O.ts, 0 ≤ t.1 ∧ t.1 < ((n + 1 : Nat) : Int) := fun t ht => by have := hO.2 t ht; omega
 have hfr : ∀ j, frmC ([mergeQ (varQ n) O (-1), mergeQ zeroQ (mergeQ (varQ n) O (-1)) (-1)] ++ R) n u j = (frX (mergeQ (varQ n) O (-1)) (n + 1))[j]! + wsum (fun f => (frX f (n + 1))[j]!) R ys := fun j => by
  unfold frmC;rw [show ([mergeQ (varQ n) O (-1), mergeQ zeroQ (mergeQ (varQ n) O (-1)) (-1)] ++ R).length = R.length + 1 + 1 by simp, zEM, zEM, wsum_ls];have e0 : u 0 = 1 := rfl;have e1 : u (0 + 1) = 0 := rfl;rw [e0, e1]
  have e2 : ls (List.range R.length) (fun i => u (i + 1 + 1) * (frX ([mergeQ (varQ n) O (-1), mergeQ zeroQ (mergeQ (varQ n) O (-1)) (-1)] ++ R)[i + 1 + 1]! (n + 1))[j]!) = ls (List.range R.length) (fun i => wtU ys i * (frX R[i]! (n + 1))[j]!) := zEN fun i hi => by
   have hi := List.mem_range.1 hi;have e3 : u (i + 1 + 1) = wtU ys i := if_pos hi;rw [e3]; rfl
  rw [e2, show ([mergeQ (varQ n) O (-1), mergeQ zeroQ (mergeQ (varQ n) O (-1)) (-1)] ++ R)[0]! = mergeQ (varQ n) O (-1) from rfl]
  grind
 have hcl : ∀ j, j < n + 1 → frmC ([mergeQ (varQ n) O (-1), mergeQ zeroQ (mergeQ (varQ n) O (-1)) (-1)] ++ R) n u j = if j = n then 1 else 0 := fun j hj => by
  rw [hfr, zJC (by omega), if_pos hj, ← dir_unit hTv hj, zHE, dir_unit hvv hj, hdir]
  have e4 : wsum (fun f => (frX f (n + 1))[j]!) R ys = wsum (fun f => dirQ f (unitX (n + 1) j)) R ys := zGR R ys fun f hf => by
   rw [zJC (by omega), if_pos hj, dir_unit (fun t ht => by have := (hR f hf).2 t ht; omega) hj]
  rw [e4]
  have e5 : cf (varQ n).ts j = if j = n then 1 else 0 := by
   simp only [varQ, cf];by_cases h : j = n
   ·subst h; simp; grind
   ·rw [if_neg h, if_neg (by omega)]; grind
  rw [e5]; grind
 have hcc : frmC ([mergeQ (varQ n) O (-1), mergeQ zeroQ (mergeQ (varQ n) O (-1)) (-1)] ++ R) n u (n + 1) = - b := by
  rw [hfr, zJC (by omega), if_neg (by omega)]
  have e4 : wsum (fun f => (frX f (n + 1))[n + 1]!) R ys = wsum (fun f => evQ f []) R ys := zGR R ys fun f _ => by
   rw [zJC (by omega), if_neg (by omega), ev_nil]
  have e6 := hev [];have e7 : evQ (mergeQ (varQ n) O (-1)) [] = evQ (varQ n) [] + (-1) * evQ O [] := zJH _ _ _ _;rw [ev_nil, ev_nil] at e7;rw [e4, e7, e6, show (varQ n).c = 0 from rfl]; grind
 obtain ⟨g1, g3⟩ := lst_great hu fun j hj => by rw [hcl j (by omega), if_neg (by omega)]
 rw [hcl n (by omega), if_pos rfl] at g1 g3;rw [hcc, ← hV] at g1;rw [← hV] at g3;refine ⟨fun h => ?_, fun h => ?_⟩
 ·have := g1 h; grind
 ·exact absurd (g3 h) (by decide)
end Go.PI
namespace Go.PI
theorem enI_sz {l : List FR} {n m : Nat} (hr : ∀ r ∈ l, okRw m r) (hn : n + 1 < m) : ∀ i, i ≤ l.length → ∀ s, enI l n i = some s → sz 2 s.least ∧ sz 2 s.most
 | 0, _, s, h => by cases h; exact ⟨sz_0 (by decide), sz_0 (by decide)⟩
 | i + 1, hi, s, h => by
   unfold enI at h;cases hp : enI l n i with
   | none => rw [hp] at h; cases h
   | some c =>
     rw [hp] at h;dsimp only at h
     split at h
     ·cases h
     ·have ho := hr l[i]! (w_get (by omega))
      have hol := ho.len;rw [← Option.some.inj h];exact enS_sz (ho.at (i := n) (by omega)) (ho.at (i := n + 1) hn) (enI_sz hr hn i (by omega) c hp)
theorem endV_sz {l : List FR} {n m : Nat} (hr : ∀ r ∈ l, okRw m r) (hn : n + 1 < m) : sz 2 (endV l n).2 := by
 unfold endV enR;cases he : enI l n l.length with
 | none => exact sz_0 (by decide)
 | some s =>
   dsimp only
   split
   ·exact sz_0 (by decide)
   ·split
    ·exact sz_0 (by decide)
    ·exact (enI_sz hr hn _ (Nat.le_refl _) s he).1
theorem lst_sz (A : List QF) (n : Nat) : sz 2 (lstV A n).2 := by
 unfold lstV
 split
 ·rename_i hc
  unfold feV;cases hf : feI n (rw0 A n A.length) n with
  | none => exact sz_0 (by decide)
  | some s => exact endV_sz (feI_ok (rw0_ok hc.2 hc.1) (by omega) n (Nat.le_refl _) s hf).rw (by omega)
 ·exact sz_0 (by decide)
end Go.PI
