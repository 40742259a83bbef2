/-
  Queries decided by elimination: sound at each input; sizes. No program in sight.
-/
import Derived.Test.YtdgckinmcnjheaaGreatCPD
set_option linter.unusedVariables false
set_option linter.unusedSimpArgs false
set_option linter.unnecessarySimpa false
namespace Go.PI
open Go.RowKit
theorem uFY {G : Gl} {n0 : Nat} {s : St} {j sz : Nat} {agg : Bool} (hj : s.t j = .nilsl) :
 LeS G n0 s ⟨vER s.t j (.own s.nx 0 0), hset s.h s.nx (some ⟨[], sz, agg⟩), s.z, s.nx + 1⟩ := by
 intro E N df a w A κ hE hR;have hf := hR.fresh s.nx (Nat.le_refl _);have hn : E.n0 ≤ s.nx := hR.n0;have hk := hf.2.2;have hle := zCZ (0, sz, 0) hk;refine ⟨A, vCS κ s.nx (0, sz, 0), ⟨hR.hr.empty hn hk, fun r hr => ?_, Nat.le_succ_of_le hn, fun i hi => ?_, hR.size, hR.df⟩⟩
 ·have hr' : s.nx + 1 ≤ r := hr
  have hne : r ≠ s.nx := by omega
  have h := hR.fresh r (by omega);exact ⟨by simp only [hset, if_neg hne]; exact h.1, h.2.1, by rw [zAR κ _ hne]; exact h.2.2⟩
 ·show RV w A _ (vER s.t j (.own s.nx 0 0) i) _
  have hv := hR.tm i hi;unfold vER
  split
  ·rename_i e
   subst e;rw [hj] at hv;rw [hv.nilsl_inv];exact zEG (zA1 ..) none
  ·exact hv.mono (fun _ h => h) (fun _ _ _ => rfl) hle
theorem HR.retell {E : Env} {G : Gl} {w : World} {A : Nat → Prop} {κ : Ka} {h : Hp} {z : Fz} (H : HR E G w A κ h z) {r : Nat} {b b' : Blk} (hb : h r = some b) (hsz : b'.sz = b.sz) (hagg : b'.agg = b.agg) (hlen : b'.els.length ≤ b.els.length)
 (hel : ∀ (i : Nat) (e' : PV), b'.els[i]? = some e' → ∃ e : PV, b.els[i]? = some e ∧ e'.cells.length = e.cells.length ∧ e'.isAgg = e.isAgg ∧ ∀ (j : Nat) (d' : PV), e'.cells[j]? = some d' → ∃ d : PV, e.cells[j]? = some d ∧ ∀ v, RV w A κ d v → RV w A κ d' v)
 (hg : ∀ i, b = vC9 i → b' = b) : HR E G w A κ (hset h r (some b')) z := by
 have get : ∀ r' q, hset h r (some b') r' = some q → ∃ q0, h r' = some q0 ∧ (q = q0 ∨ (r' = r ∧ q = b' ∧ q0 = b)) := fun r' q hq => by
  unfold hset at hq
  split at hq
  ·rename_i e; subst e; cases hq; exact ⟨b, hb, Or.inr ⟨rfl, rfl, rfl⟩⟩
  ·exact ⟨q, hq, Or.inl rfl⟩
 refine ⟨H.bel, H.hB, H.alt, H.a0, H.a1, H.acell, H.k0, H.glob, H.klt, ⟨H.kp.base, H.kp.keep, H.kp.wr, fun r' q m sz cap hq hκ hc hz => ?_, H.kp.mks, H.kp.nd, H.kp.kb, H.kp.kk, H.kp.zk, H.kp.mk0, fun g => ⟨(H.kp.gk g).1, (H.kp.gk g).2.1, fun q hq => ?_⟩⟩, fun r' q hq hκ => ?_, fun r1 r2 q1 q2 m1 m2 s1 s2 c1 c2 hne h1 h2 => ?_⟩
 ·obtain ⟨q0, h1, _⟩ := get r' q hq
  exact H.kp.own r' q0 m sz cap h1 hκ hc hz
 ·obtain ⟨q0, h1, h2⟩ := get 0 q hq
  have e := (H.kp.gk g).2.2 q0 h1;rcases h2 with rfl | ⟨_, rfl, rfl⟩
  ·exact e
  ·rw [hg _ e]; exact e
 ·obtain ⟨q0, h1, h2⟩ := get r' q hq
  rcases h2 with rfl | ⟨rfl, rfl, rfl⟩
  ·exact H.blk r' q h1 hκ
  ·obtain ⟨m, cap, g1, g2, g3, g4⟩ := H.blk r' q0 h1 hκ
   refine ⟨m, cap, by rw [hsz]; exact g1, by omega, fun e' he => ?_, ?_⟩
   ·obtain ⟨i, hi, rfl⟩ := List.getElem_of_mem he
    obtain ⟨e, e1, e2, e3, _⟩ := hel i _ (List.getElem?_eq_getElem hi);have := g3 e (List.mem_of_getElem? e1);rw [e2, e3, hsz, hagg]; exact this
   ·rcases g4 with g4 | ⟨c, ty, f1, f2, f3, f4, f5, f6, f7⟩
    ·exact Or.inl g4
    ·refine Or.inr ⟨c, ty, f1, f2, by rw [hsz]; exact f3, f4, fun i e' he j d' hd => ?_, f6, f7⟩
     rw [hsz];obtain ⟨e, e1, e2, e3, e4⟩ := hel i e' he;obtain ⟨d, d1, d2⟩ := e4 j d' hd;obtain ⟨u, t1, t2, t3⟩ := f5 i e e1 j d d1;exact ⟨u, t1, d2 u t2, t3⟩
 ·obtain ⟨p1, g1, _⟩ := get r1 q1 h1
  obtain ⟨p2, g2, _⟩ := get r2 q2 h2;exact H.excl r1 r2 p1 p2 m1 m2 s1 s2 c1 c2 hne g1 g2
def uF0 (b : Blk) (i c : Nat) (v : PV) : Blk := match b.els[i]? with
 | some (.agg cs) => ⟨b.els.set i (.agg (cs.set c v)), b.sz, b.agg⟩
 | _ => b
theorem uAK {G : Gl} {n0 : Nat} {s : St} {r i c sz : Nat} {agg : Bool} {b : Blk} {cs : List PV} (hb : s.h r = some b) (hi : b.els[i]? = some (.agg cs)) (hc : cs[c]? = some .nilsl) :
 LeS G n0 s ⟨s.t, hset (hset s.h s.nx (some ⟨[], sz, agg⟩)) r (some (uF0 b i c (.own s.nx 0 0))), s.z, s.nx + 1⟩ := by
 intro E N df a w A κ hE hR;have hf := hR.fresh s.nx (Nat.le_refl _);have hn : E.n0 ≤ s.nx := hR.n0;have hk := hf.2.2;have hle := zCZ (0, sz, 0) hk;have hrn : r < s.nx := Nat.lt_of_not_le fun e => by have := (hR.fresh r e).1; rw [this] at hb; cases hb
 have eset : uF0 b i c (.own s.nx 0 0) = ⟨b.els.set i (.agg (cs.set c (.own s.nx 0 0))), b.sz, b.agg⟩ := by unfold uF0; rw [hi]
 have H1 := hR.hr.empty (sz := sz) (agg := agg) hn hk;have hb1 : hset s.h s.nx (some ⟨[], sz, agg⟩) r = some b := by simp only [hset, if_neg (show r ≠ s.nx by omega)]; exact hb
 have H2 : HR E G w A (vCS κ s.nx (0, sz, 0)) (hset (hset s.h s.nx (some ⟨[], sz, agg⟩)) r (some (uF0 b i c (.own s.nx 0 0)))) s.z := by
  rw [eset];refine H1.retell hb1 rfl rfl (by simp) (fun j e' he => ?_) (fun k e => ?_)
  ·rw [List.getElem?_set] at he
   split at he
   ·rename_i e
    subst e
    split at he
    ·cases he
     refine ⟨_, hi, by simp [PV.cells], rfl, fun q d' hd => ?_⟩;simp only [PV.cells, List.getElem?_set] at hd
     split at hd
     ·rename_i e
      subst e
      split at hd
      ·cases hd
       refine ⟨_, hc, fun v hv => ?_⟩;rw [hv.nilsl_inv];exact zEG (zA1 ..) none
      ·cases hd
     ·exact ⟨d', hd, fun _ h => h⟩
    ·cases he
   ·exact ⟨e', he, rfl, rfl, fun q d' hd => ⟨d', hd, fun _ h => h⟩⟩
  ·subst e
   match i, hi with
   | 0, hi => simp [vC9] at hi
   | i + 1, hi => simp [vC9] at hi
 refine ⟨A, vCS κ s.nx (0, sz, 0), ⟨H2, fun q hq => ?_, Nat.le_succ_of_le hn, fun j hj => ?_, hR.size, hR.df⟩⟩
 ·have hq' : s.nx + 1 ≤ q := hq
  have hne : q ≠ s.nx := by omega
  have h := hR.fresh q (by omega);exact ⟨by simp only [hset, if_neg hne, if_neg (show q ≠ r by omega)]; exact h.1, h.2.1, by rw [zAR κ _ hne]; exact h.2.2⟩
 ·exact (hR.tm j hj).mono (fun _ h => h) (fun _ _ _ => rfl) hle
inductive Np where
 | sl (j : Nat)
 | cl (r i c : Nat)
def uF3 : St → List (Np × Nat × Bool) → St
 | s, [] => s
 | ⟨t, h, z, nx⟩, (.sl j, sz, agg) :: l => uF3 ⟨ts t j (.own nx 0 0), hs h nx (some ⟨[], sz, agg⟩), z, nx + 1⟩ l
 | ⟨t, h, z, nx⟩, (.cl r i c, sz, agg) :: l => (match h r with
   | some b => uF3 ⟨t, hs (hs h nx (some ⟨[], sz, agg⟩)) r (some (uF0 b i c (.own nx 0 0))), z, nx + 1⟩ l
   | none => ⟨t, h, z, nx⟩)
def vTD : St → List (Np × Nat × Bool) → Prop
 | _, [] => True
 | ⟨t, h, z, nx⟩, (.sl j, sz, agg) :: l => t j = .nilsl ∧ vTD ⟨ts t j (.own nx 0 0), hs h nx (some ⟨[], sz, agg⟩), z, nx + 1⟩ l
 | ⟨t, h, z, nx⟩, (.cl r i c, sz, agg) :: l => ∃ b cs, h r = some b ∧ b.els[i]? = some (.agg cs) ∧ cs[c]? = some .nilsl ∧ vTD ⟨t, hs (hs h nx (some ⟨[], sz, agg⟩)) r (some (uF0 b i c (.own nx 0 0))), z, nx + 1⟩ l
theorem zK4 {G : Gl} {n0 : Nat} : ∀ {N : List (Np × Nat × Bool)} {s s' : St}, vTD s N → LeS G n0 (uF3 s N) s' → LeS G n0 s s'
 | [], ⟨t, h, z, nx⟩, s', _, hl => hl
 | (.sl j, sz, agg) :: l, ⟨t, h, z, nx⟩, s', hN, hl => by
   have h1 := uFY (G := G) (n0 := n0) (s := ⟨t, h, z, nx⟩) (sz := sz) (agg := agg) hN.1;refine h1.trans ?_;have h2 := zK4 (N := l) hN.2 hl;rw [vN3, zET] at h2;exact h2
 | (.cl r i c, sz, agg) :: l, ⟨t, h, z, nx⟩, s', hN, hl => by
   obtain ⟨b, cs, g1, g2, g3, g4⟩ := hN;have h1 := uAK (G := G) (n0 := n0) (s := ⟨t, h, z, nx⟩) (sz := sz) (agg := agg) g1 g2 g3;refine h1.trans ?_;unfold uF3 at hl;rw [g1] at hl;have h2 := zK4 (N := l) g4 hl;rw [zET, zET] at h2;exact h2
section
variable {P : Program} {T : Ti} {G : Gl} {n0 : Nat}
theorem vB7 {K : St → Prop} {Q : Exit → St → Prop} {s : St} (N : List (Np × Nat × Bool)) (L : List (Nat × PV)) (H : List (Nat × Blk)) (Z : List Nat) (k : Nat) (hk : n0 ≤ k) (hZ : ∀ r ∈ Z, r < k) (hN : vTD s N) (hs : Kept n0 (uF3 s N) L H Z k)
 (h : K ⟨sv L, hv H, zv Z, k⟩) : vCY (LeS G, n0) K Q .normal s := uCI (zK4 hN (hs.le hk hZ)) (by rw [← vN6, ← vTR, ← vWP]; exact h)
theorem zBP (hT : ∀ i x, T i = some x → vA1 P i = x) {c : Code} {Q : Exit → St → Prop} {s : St} {ι : Type} (N : List (Np × Nat × Bool)) (L : ι → List (Nat × PV)) (H : ι → List (Nat × Blk)) (Z : List Nat) (k : Nat) (Inv : ι → Prop) (μ : ι → Nat) (i0 : ι) (h0 : Inv i0) (hk : n0 ≤ k) (hZ : ∀ r ∈ Z, r < k)
 (hN : vTD s N) (hs : Kept n0 (uF3 s N) (L i0) (H i0) Z k)
 (round : ∀ i, Inv i → VC P T G n0 c (vCX (fun s' => ∃ i', (Inv i' ∧ μ i' < μ i) ∧ Kept n0 s' (L i') (H i') Z k) Q) ⟨sv (L i), hv (H i), zv Z, k⟩) :
 vD5 P G (FnC P G) (FnH P G) (LeS G, n0) c Q s := by
 unfold vD5;refine zH8 L H (fun _ => Z) k Inv μ i0 h0 (zK4 hN (hs.le hk hZ)) fun i hi => ?_
 have := round i hi;rw [vN6, vTR, vWP] at this
 exact zK6 hT (fun e s h => by
  cases e <;> first | (obtain ⟨i', ⟨h1, h2⟩, h3⟩ := h; exact ⟨i', h1, h2, h3.le hk hZ⟩) | exact h) this
end
theorem vPE {z : Int} {d : Nat} (h : d ≠ 0) (hg : z.natAbs.gcd d = 1) : (mkRat z d).num = z ∧ (mkRat z d).den = d := by
 rw [vTH z h, vTI z h, hg]; simp
theorem uGK (x : Rat) (f : Int) : (x - (f : Rat)).num = x.num - f * x.den ∧ (x - (f : Rat)).den = x.den := by
 have e : x - (f : Rat) = mkRat (x.num - f * x.den) x.den := by
  rw [Rat.sub_def']; simp
 rw [e];refine vPE x.den_nz ?_
 have h1 : Int.gcd (x.num - f * x.den) x.den = Int.gcd x.num x.den := by
  simp
 have h2 : Int.gcd x.num x.den = 1 := x.reduced;rw [h2] at h1;exact h1
theorem uKQ (x : Rat) (f : Int) : ((f : Rat) + x).num = x.num + f * x.den ∧ ((f : Rat) + x).den = x.den := by
 have e : (f : Rat) + x = x - ((-f : Int) : Rat) := by rw [Rat.intCast_neg]; grind
 rw [e];have := uGK x (-f);refine ⟨?_, this.2⟩;rw [this.1, Int.neg_mul]; omega
theorem zLR (q : Rat) : 1 / q = q⁻¹ := by rw [Rat.div_def, Rat.one_mul]
theorem uEH {q : Rat} (h : 0 < q) : (1 / q).num = q.den ∧ ((1 / q).den : Int) = q.num ∧ 0 < 1 / q := by
 have h1 : 0 < q.num := by
  have := (Rat.lt_iff 0 q).1 h
  simpa using this
 rw [zLR];refine ⟨?_, ?_, Rat.inv_pos.2 h⟩
 ·rw [Rat.num_inv, Int.sign_eq_one_of_pos h1, Int.one_mul]
 ·rw [Rat.den_inv, if_neg (by omega)]; omega
theorem vIM {a b : Rat} (ha : 0 < a) (h : a ≤ b) : 1 / b ≤ 1 / a := by
 have hb : 0 < b := by grind
 have h1 : a * (1 / b) ≤ b * (1 / b) := Rat.mul_le_mul_of_nonneg_right h (Rat.le_of_lt (uEH hb).2.2);have e1 : b * (1 / b) = 1 := by rw [zLR]; exact Rat.mul_inv_cancel b (Rat.ne_of_gt hb)
 have e2 : a * (1 / a) = 1 := by rw [zLR]; exact Rat.mul_inv_cancel a (Rat.ne_of_gt ha)
 rw [e1] at h1;exact Rat.le_of_mul_le_mul_left (by rw [e2]; exact h1) ha
theorem vYZ (a : Rat) : 1 / (1 / a) = a := by rw [zLR, zLR, Rat.inv_inv]
theorem zFW {q : Rat} (h : 0 < q) : 0 < q.num := by
 have := (Rat.lt_iff 0 q).1 h
 simpa using this
def desc : Nat → Rat → Rat → Rat
 | 0, lo, _ => lo
 | n + 1, lo, hi => if ((lo.floor : Int) : Rat) = lo then ((lo.floor : Int) : Rat) else if ((lo.floor : Int) : Rat) + 1 ≤ hi then ((lo.floor : Int) : Rat) + 1
     else ((lo.floor : Int) : Rat) + 1 / desc n (1 / (hi - ((lo.floor : Int) : Rat))) (1 / (lo - ((lo.floor : Int) : Rat)))
structure SimpP (lo hi r : Rat) : Prop where
 ge : lo ≤ r
 le : r ≤ hi
 den : ∀ z, lo ≤ z → z ≤ hi → r.den ≤ z.den
 num : ∀ z, lo ≤ z → z ≤ hi → r.num ≤ z.num
structure DescS (n : Nat) (lo hi : Rat) : Prop where
 pos : 0 < lo
 le : lo ≤ hi
 den : lo.den + hi.den ≤ n
theorem vGO {q : Rat} (h : 0 < q) : 0 ≤ q.floor := by
 rw [Rat.le_floor_iff];exact Rat.le_of_lt h
theorem zMD {n : Nat} {lo hi : Rat} (h : DescS (n + 1) lo hi) (h1 : ¬ ((lo.floor : Int) : Rat) = lo) (h2 : ¬ ((lo.floor : Int) : Rat) + 1 ≤ hi) :
 DescS n (1 / (hi - ((lo.floor : Int) : Rat))) (1 / (lo - ((lo.floor : Int) : Rat))) ∧ 0 < hi - ((lo.floor : Int) : Rat) ∧ 0 < lo - ((lo.floor : Int) : Rat)
 ∧ (lo - ((lo.floor : Int) : Rat)).num < lo.den ∧ (hi - ((lo.floor : Int) : Rat)).num < hi.den := by
 obtain ⟨p, le, hd⟩ := h;have f1 := Rat.floor_le lo;have f2 : ((lo.floor : Int) : Rat) < lo := Rat.lt_of_le_of_ne f1 h1;have hf := vGO p;generalize lo.floor = f at *
 have a1 : 0 < hi - (f : Rat) := by grind
 have b1 : 0 < lo - (f : Rat) := by grind
 have lt1 : ∀ x : Rat, x < (f : Rat) + 1 → (x - (f : Rat)).num < x.den := fun x hx => by
  have e := uGK x f;have h3 : x - (f : Rat) < 1 := by grind
  have := (Rat.lt_iff _ _).1 h3;rw [e.2] at this
  simpa using this
 have n1 := lt1 hi (Rat.not_le.1 h2);have n2 := lt1 lo (by grind);refine ⟨⟨(uEH a1).2.2, vIM b1 (by grind), ?_⟩, a1, b1, n2, n1⟩;have d1 := (uEH a1).2.1;have d2 := (uEH b1).2.1;have p1 := zFW a1;have p2 := zFW b1;omega
theorem vGT : ∀ (n : Nat) (lo hi : Rat), DescS n lo hi → SimpP lo hi (desc n lo hi)
 | 0, lo, hi, h => by have := h.den; have := lo.den_pos; omega
 | n + 1, lo, hi, h => by
   have hs := zMD h;obtain ⟨p, le, hd⟩ := h;have f1 := Rat.floor_le lo;have f3 := Rat.lt_floor_add_one lo;have hf := vGO p
   have hfl : ∀ z : Rat, lo ≤ z → lo.floor * z.den ≤ z.num := fun z hz => by
    have h3 : ((lo.floor : Int) : Rat) ≤ z := Rat.le_trans f1 hz;have := (Rat.le_iff _ _).1 h3
    simpa using this
   unfold desc
   split
   ·rename_i h1
    refine ⟨by rw [h1]; exact Rat.le_refl, by rw [h1]; exact le, fun z h2 h3 => by rw [Rat.den_intCast]; exact z.den_pos, fun z h2 h3 => ?_⟩;have := hfl z h2;have hz := z.den_pos;rw [Rat.num_intCast];have : lo.floor * 1 ≤ lo.floor * z.den := Int.mul_le_mul_of_nonneg_left (by omega) hf;omega
   ·rename_i h1
    have e1 : ((lo.floor : Int) : Rat) + 1 = ((lo.floor + 1 : Int) : Rat) := by rw [Rat.intCast_add, Rat.intCast_one]
    split
    ·rename_i h2
     refine ⟨?_, h2, fun z h3 h4 => ?_, fun z h3 h4 => ?_⟩
     ·rw [e1]; exact Rat.le_of_lt f3
     ·rw [e1, Rat.den_intCast]; exact z.den_pos
     ·rw [e1, Rat.num_intCast]
      have f2 : ((lo.floor : Int) : Rat) < lo := Rat.lt_of_le_of_ne f1 h1;have h5 : ((lo.floor : Int) : Rat) < z := by grind
      have h6 := (Rat.lt_iff _ _).1 h5;simp only [Rat.num_intCast, Rat.den_intCast] at h6;have hz := z.den_pos;have : lo.floor * 1 ≤ lo.floor * z.den := Int.mul_le_mul_of_nonneg_left (by omega) hf;omega
    ·rename_i h2
     obtain ⟨hn, a1, b1, n1, n2⟩ := hs h1 h2;have ih := vGT n _ _ hn;have hnp := hn.pos;obtain ⟨g1, g2, g3, g4⟩ := ih;generalize hy : desc n (1 / (hi - ((lo.floor : Int) : Rat))) (1 / (lo - ((lo.floor : Int) : Rat))) = y at *
     have yp : 0 < y := by grind
     have ipy := uEH yp;have ad := uKQ (1 / y) lo.floor;have i1 := vIM yp g2;have i2 := vIM hnp g1;rw [vYZ] at i1 i2
     have key : ∀ z, lo ≤ z → z ≤ hi → y.num ≤ z.den ∧ (y.den : Int) ≤ z.num - lo.floor * z.den := fun z hz1 hz2 => by
      have z1 : 0 < z - ((lo.floor : Int) : Rat) := by grind
      have iz := uEH z1;have sz := uGK z lo.floor;have w1 := vIM z1 (b := hi - ((lo.floor : Int) : Rat)) (by grind);have w2 := vIM b1 (b := z - ((lo.floor : Int) : Rat)) (by grind);have k1 := g4 _ w1 w2;have k2 := g3 _ w1 w2;rw [iz.1, sz.2] at k1;refine ⟨k1, ?_⟩;have := iz.2.1;rw [sz.1] at this;omega
     refine ⟨by grind, by grind, fun z h3 h4 => ?_, fun z h3 h4 => ?_⟩
     ·rw [ad.2]
      have := (key z h3 h4).1;have := ipy.2.1;omega
     ·rw [ad.1, ipy.1, ipy.2.1]
      obtain ⟨k1, k2⟩ := key z h3 h4;have : lo.floor * y.num ≤ lo.floor * z.den := Int.mul_le_mul_of_nonneg_left k1 hf;omega
theorem uGG {k : Nat} {a b : Rat} (ha : 0 < a) (hn : a.num ≤ b.num) (hd : a.den ≤ b.den) (hb : sz k b) : sz k a := by
 have h1 := zFW ha;exact ⟨Nat.lt_of_le_of_lt (by omega) hb.1, Nat.lt_of_le_of_lt hd hb.2⟩
theorem vJY {k : Nat} {a : Rat} (ha : 0 < a) (h : sz k a) : sz k (1 / a) := by
 obtain ⟨h1, h2, _⟩ := uEH ha;have h3 := zFW ha;exact ⟨by rw [h1]; simpa using h.2, by have := h.1; omega⟩
theorem vUO {n k : Nat} {lo hi : Rat} (h : DescS n lo hi) (hl : sz k lo) : sz k (desc n lo hi) ∧ 0 < desc n lo hi := by
 obtain ⟨h1, h2, h3, h4⟩ := vGT n lo hi h;have hp : 0 < desc n lo hi := by have := h.pos; grind
 exact ⟨uGG hp (h4 lo Rat.le_refl h.le) (h3 lo Rat.le_refl h.le) hl, hp⟩
theorem vY8 {k : Nat} {lo : Rat} (h : 0 < lo) (hl : sz k lo) : sz k ((lo.floor : Int) : Rat) := by
 have hf := vGO h;have h3 := (Rat.le_iff _ _).1 (Rat.floor_le lo);simp only [Rat.num_intCast, Rat.den_intCast] at h3;have hz := lo.den_pos;have h4 : lo.floor * 1 ≤ lo.floor * lo.den := Int.mul_le_mul_of_nonneg_left (by omega) hf;refine ⟨Nat.lt_of_le_of_lt ?_ hl.1, Nat.lt_of_le_of_lt ?_ hl.2⟩
 ·rw [Rat.num_intCast]; omega
 ·rw [Rat.den_intCast]; exact hz
theorem vZF {n k : Nat} {lo hi : Rat} (h : DescS (n + 1) lo hi) (h1 : ¬ ((lo.floor : Int) : Rat) = lo) (h2 : ¬ ((lo.floor : Int) : Rat) + 1 ≤ hi) (hl : sz k lo) (hh : sz k hi) :
 sz k (hi - ((lo.floor : Int) : Rat)) ∧ sz k (lo - ((lo.floor : Int) : Rat)) := by
 obtain ⟨_, a1, b1, n1, n2⟩ := zMD h h1 h2;have s1 := uGK hi lo.floor;have s2 := uGK lo lo.floor;have p1 := zFW a1;have p2 := zFW b1;exact ⟨⟨Nat.lt_of_le_of_lt (by omega) hh.2, by rw [s1.2]; exact hh.2⟩, ⟨Nat.lt_of_le_of_lt (by omega) hl.2, by rw [s2.2]; exact hl.2⟩⟩
def vE9 (lo hi : Rat) : Rat := if lo ≤ 0 ∧ 0 ≤ hi then 0 else if hi < 0 then - desc (hi.den + lo.den) (-hi) (-lo) else desc (lo.den + hi.den) lo hi
theorem vW2 {lo hi : Rat} (h : lo ≤ hi) : lo ≤ vE9 lo hi ∧ vE9 lo hi ≤ hi ∧ ∀ z, lo ≤ z → z ≤ hi → (vE9 lo hi).den ≤ z.den := by
 unfold vE9
 split
 ·rename_i h0
  exact ⟨h0.1, h0.2, fun z _ _ => z.den_pos⟩
 ·rename_i h0
  split
  ·rename_i h1
   obtain ⟨g1, g2, g3, _⟩ := vGT (hi.den + lo.den) (-hi) (-lo) ⟨by grind, by grind, by simp⟩;refine ⟨by grind, by grind, fun z h3 h4 => ?_⟩;have := g3 (-z) (by grind) (by grind)
   simpa using this
  ·rename_i h1
   obtain ⟨g1, g2, g3, _⟩ := vGT (lo.den + hi.den) lo hi ⟨by grind, h, Nat.le_refl _⟩;exact ⟨g1, g2, g3⟩
def dot (x : List Rat) : List QT → Rat
 | [] => 0
 | t :: l => t.2 * x[t.1.toNat]! + dot x l
theorem vUD (x : List Rat) : ∀ (l : List QT) (y : Rat), ev1 x l y = y + dot x l
 | [], y => by simp only [ev1, List.foldl_nil, dot]; grind
 | t :: l, y => by
   have e : ev1 x (t :: l) y = ev1 x l (y + t.2 * x[t.1.toNat]!) := rfl;rw [e, vUD x l]; simp only [dot]; grind
theorem zEF (x : List Rat) : ∀ (a b : List QT), dot x (a ++ b) = dot x a + dot x b
 | [], b => by simp only [List.nil_append, dot]; grind
 | t :: a, b => by simp only [List.cons_append, dot, zEF x a b]; grind
theorem zMC (x : List Rat) (v : Int) (c : Rat) : dot x (nzq v c) = c * x[v.toNat]! := by
 unfold nzq; split
 ·rename_i h; subst h; simp only [dot]; grind
 ·simp only [dot]; grind
theorem zJN (x : List Rat) (c : Rat) : ∀ (n : Nat) (a b : List QT), a.length + b.length ≤ n → dot x (mrg c a b) = dot x a + c * dot x b
 | n, [], [], _ => by rw [mrg]; simp only [dot]; grind
 | 0, _ :: _, _, h => by simp at h
 | 0, _, _ :: _, h => by simp at h
 | n + 1, p :: a, [], hn => by
   rw [mrg, zEF, zMC, zJN x c n a [] (by simp at hn ⊢; omega)]; simp only [dot]; grind
 | n + 1, [], q :: b, hn => by
   rw [mrg, zEF, zMC, zJN x c n [] b (by simp at hn ⊢; omega)]; simp only [dot]; grind
 | n + 1, p :: a, q :: b, hn => by
   simp only [List.length_cons] at hn;rw [mrg]
   split
   ·rw [zEF, zMC, zJN x c n a (q :: b) (by simp; omega)]; simp only [dot]; grind
   ·split
    ·rw [zEF, zMC, zJN x c n (p :: a) b (by simp; omega)]; simp only [dot]; grind
    ·have he : p.1 = q.1 := by omega
     rw [zEF, zMC, zJN x c n a b (by omega)]; simp only [dot, he]; grind
theorem zEO (f : QF) (x : List Rat) : evQ f x = f.c + dot x f.ts := vUD x f.ts f.c
theorem zEN (x : List Rat) (f g : QF) (c : Rat) : evQ (vA3 f g c) x = evQ f x + c * evQ g x := by
 simp only [zEO, vA3, zJN x c _ _ _ (Nat.le_refl _)]; grind
theorem vGR {f : QF} (h : f.ts = []) (x : List Rat) : evQ f x = f.c := by rw [zEO, h]; simp only [dot]; grind
theorem zKV (x : List Rat) : evQ zeroQ x = 0 := vGR rfl x
structure GraL where
 ins : Int
 units : List AffL
 outs : List AffL
 deriving Inhabited
def vA8 (g : GraL) : PV := .agg [.int .i64 g.ins, .imm (g.units.map vBD), .imm (g.outs.map vBD)]
def vCE (k : Nat) (g : GraL) : Prop := uI2 k g.units ∧ uI2 k g.outs
def VaG (g : GraL) : Prop := (1 ≤ g.ins ∧ g.ins ≤ 256) ∧ g.units.length ≤ 1024 ∧ (1 ≤ g.outs.length ∧ g.outs.length ≤ 256) ∧ (∀ j, j < g.units.length → vBO g.units[j]! (g.ins + j)) ∧ ∀ i, i < g.outs.length → vBO g.outs[i]! (g.ins + g.units.length)
def uJI (vs : List Rat) (u : QF) : List Rat := vs ++ [vC5 0 (evQ u vs)]
def vBC (us : List QF) (x : List Rat) (j : Nat) : List Rat := (us.take j).foldl uJI x
theorem zEB (us : List QF) (x : List Rat) : vBC us x 0 = x := by simp [vBC]
theorem zEC {us : List QF} {x : List Rat} {j : Nat} (h : j < us.length) : vBC us x (j + 1) = vBC us x j ++ [vC5 0 (evQ us[j]! (vBC us x j))] := by
 unfold vBC;rw [List.take_succ_eq_append_getElem h, List.foldl_append, getElem!_pos us j h]; rfl
theorem zC2 {us : List QF} {x : List Rat} : ∀ j, j ≤ us.length → (vBC us x j).length = x.length + j
 | 0, _ => by rw [zEB]; rfl
 | j + 1, h => by rw [zEC (by omega), List.length_append, zC2 j (by omega)]; simp; omega
def vCA (us : List QF) (x : List Rat) : List Rat := (List.range us.length).map fun j => evQ us[j]! (vBC us x j)
theorem zCM (us : List QF) (x : List Rat) : (vCA us x).length = us.length := by simp [vCA]
theorem zGU {us : List QF} {x : List Rat} {j : Nat} (h : j < us.length) : (vCA us x)[j]! = evQ us[j]! (vBC us x j) := by unfold vCA; rw [zBV h]
def vC8 (κ : Nat → Nat) : Nat → Nat → Nat
 | _, 0 => 0
 | a, n + 1 => κ a + vC8 κ (a + 1) n
theorem zM8 (κ : Nat → Nat) : ∀ (m a n : Nat), vC8 κ a (m + n) = vC8 κ a m + vC8 κ (a + m) n
 | 0, a, n => by simp [vC8]
 | m + 1, a, n => by
   rw [show m + 1 + n = (m + n) + 1 by omega, vC8, vC8, zM8 κ m (a + 1) n, show a + 1 + m = a + (m + 1) by omega]; omega
theorem zE8 (κ : Nat → Nat) : ∀ (l : List QT) (a n : Nat), l.Pairwise (fun p q => p.1 < q.1) → (∀ t ∈ l, (a : Int) ≤ t.1 ∧ t.1 < (a + n : Nat)) → (l.map fun t => κ t.1.toNat).sum ≤ vC8 κ a n
 | [], _, _, _, _ => by simp
 | t :: l, a, n, hp, h => by
   obtain ⟨h1, h2⟩ := h t (by simp);rw [List.pairwise_cons] at hp;obtain ⟨v, hv⟩ : ∃ v : Nat, t.1 = v := ⟨t.1.toNat, by omega⟩;obtain ⟨d, rfl⟩ : ∃ d, v = a + d := ⟨v - a, by omega⟩;obtain ⟨m, rfl⟩ : ∃ m, n = d + (m + 1) := ⟨n - d - 1, by omega⟩
   have ih := zE8 κ l (a + d + 1) m hp.2 fun q hq => by
    have e1 := hp.1 q hq;have e2 := (h q (by simp [hq])).2;omega
   rw [zM8, vC8, List.map_cons, List.sum_cons, hv];simp only [Int.toNat_natCast];omega
theorem vUC {k : Nat} {x : List Rat} (κ : Nat → Nat) (hx : ∀ v, v < x.length → sz (κ v) x[v]!) : ∀ (ts : List QT) (y : Rat) (m : Nat), (∀ t ∈ ts, sz k t.2) → (∀ t ∈ ts, 0 ≤ t.1 ∧ t.1 < x.length) → sz m y → sz (m + (ts.map fun t => k + κ t.1.toNat + 1).sum) (ev1 x ts y)
 | [], y, m, _, _, hy => by simpa [ev1] using hy
 | t :: ts, y, m, h1, h2, hy => by
   have ht := h2 t (by simp);have := vUC κ hx ts (y + t.2 * x[t.1.toNat]!) (m + (k + κ t.1.toNat) + 1) (fun q hq => h1 q (by simp [hq])) (fun q hq => h2 q (by simp [hq])) (zBY hy (zB6 (h1 t (by simp)) (hx _ (by omega))));rw [List.map_cons, List.sum_cons];exact zBE (by omega) this
theorem uEN {k : Nat} {f : QF} {x : List Rat} (κ : Nat → Nat) (hf : szF k f) (hx : ∀ v, v < x.length → sz (κ v) x[v]!) (ho : okF x.length f) : sz (k + vC8 (fun v => k + κ v + 1) 0 x.length) (evQ f x) := by
 refine zBE ?_ (vUC κ hx f.ts f.c k hf.2 ho.2 hf.1);have := zE8 (fun v => k + κ v + 1) f.ts 0 x.length ho.1.1 fun t ht => by have := ho.2 t ht; omega
 omega
def phase (p : Rat) : Int := if 0 < p then 1 else if p < 0 then 2 else 0
def vBE (f : QF) (vars : List QF) : QF := f.ts.foldl (fun o t => vA3 o vars[t.1.toNat]! t.2) ⟨[], f.c⟩
def vEJ (f : QF) (vars : List QF) (i : Nat) : QF := (f.ts.take i).foldl (fun o t => vA3 o vars[t.1.toNat]! t.2) ⟨[], f.c⟩
theorem zFM {f : QF} {vars : List QF} {i : Nat} (h : i < f.ts.length) : vEJ f vars (i + 1) = vA3 (vEJ f vars i) vars[f.ts[i]!.1.toNat]! f.ts[i]!.2 := by
 unfold vEJ;rw [List.take_succ_eq_append_getElem h, List.foldl_append, getElem!_pos f.ts i h]; rfl
theorem zG5 (f : QF) (vars : List QF) : vEJ f vars f.ts.length = vBE f vars := by unfold vEJ vBE; rw [List.take_length]
def vCD (n : Nat) : List QF := (List.range n).map fun (i : Nat) => ⟨[((i : Int), 1)], 0⟩
def vBH (us : List QF) (n : Nat) (ph : List Int) : Nat → List QF
 | 0 => vCD n
 | j + 1 => vBH us n ph j ++ [if ph[j]! = 2 then zeroQ else vBE us[j]! (vBH us n ph j)]
theorem zBX (us : List QF) (n : Nat) (ph : List Int) : ∀ j, (vBH us n ph j).length = n + j
 | 0 => by simp [vBH, vCD]
 | j + 1 => by simp only [vBH, List.length_append, zBX us n ph j, List.length_cons, List.length_nil]; omega
def vC4 (us : List QF) (n : Nat) (ph : List Int) : List QF := (List.range us.length).map fun j => vBE us[j]! (vBH us n ph j)
def vP5 (n : Nat) (κ : Nat → Nat) (vars : List QF) : Prop := ∀ v, v < vars.length → okF n vars[v]! ∧ szF (κ v) vars[v]! ∧ vars[v]!.ts.length ≤ n
theorem zIV {l : List QT} (n : Nat) (h : l.Pairwise (fun p q => p.1 < q.1)) (hv : ∀ t ∈ l, 0 ≤ t.1 ∧ t.1 < n) : l.length ≤ n := by
 have := zE8 (fun _ => 1) l 0 n h fun t ht => by have := hv t ht; omega
 have e : ∀ a m, vC8 (fun _ => 1) a m = m := by
  intro a m
  induction m generalizing a with
  | zero => rfl
  | succ m ih => rw [vC8, ih]; omega
 rw [e] at this
 have e2 : (l.map fun _ => 1).sum = l.length := by
  clear this h hv
  induction l with
  | nil => rfl
  | cons a l ih => rw [List.map_cons, List.sum_cons, ih, List.length_cons]; omega
 omega
theorem vWC {n : Nat} {κ : Nat → Nat} {vars : List QF} {f : QF} {k : Nat} (hv : vP5 n κ vars) (hf : szF k f) (ho : okF vars.length f) : ∀ i, i ≤ f.ts.length →
 okF n (vEJ f vars i) ∧ szF (k + ((f.ts.take i).map fun t => κ t.1.toNat + k + 1).sum) (vEJ f vars i) ∧ (vEJ f vars i).ts.length ≤ n
 | 0, _ => ⟨⟨zCD, fun t ht => by cases ht⟩, ⟨zBE (by omega) hf.1, fun p hp => by cases hp⟩, Nat.zero_le _⟩
 | i + 1, h => by
   obtain ⟨h1, h2, h3⟩ := vWC hv hf ho i (by omega);have hm : f.ts[i]! ∈ f.ts := by rw [getElem!_pos f.ts i (by omega)]; exact List.getElem_mem _
   have ht := ho.2 _ hm;obtain ⟨g1, g2, g3⟩ := hv f.ts[i]!.1.toNat (by omega);rw [zFM (by omega)]
   have hok : okF n (vA3 (vEJ f vars i) vars[f.ts[i]!.1.toNat]! f.ts[i]!.2) := by
    refine ⟨zCW h1.1 g1.1, fun t ht => ?_⟩;rcases zB9 _ _ _ _ (Nat.le_refl _) t ht with ⟨p, hp, e⟩ | ⟨p, hp, e⟩
    ·have := h1.2 p hp; omega
    ·have := g1.2 p hp; omega
   refine ⟨hok, ?_, zIV n hok.1.1 hok.2⟩;refine zD7 ?_ (zDJ h2 g2 (hf.2 _ hm) (Nat.le_refl _));rw [List.take_succ_eq_append_getElem (by omega), List.map_append, List.sum_append, ← getElem!_pos f.ts i (by omega)]
   simp
   omega
theorem zG4 {n : Nat} {κ : Nat → Nat} {vars : List QF} {f : QF} {k : Nat} (hv : vP5 n κ vars) (hf : szF k f) (ho : okF vars.length f) :
 okF n (vBE f vars) ∧ szF (k + vC8 (fun v => κ v + k + 1) 0 vars.length) (vBE f vars) ∧ (vBE f vars).ts.length ≤ n := by
 obtain ⟨h1, h2, h3⟩ := vWC hv hf ho f.ts.length (Nat.le_refl _);rw [zG5] at h1 h2 h3;rw [List.take_length] at h2;refine ⟨h1, zD7 ?_ h2, h3⟩;have := zE8 (fun v => κ v + k + 1) f.ts 0 vars.length ho.1.1 fun t ht => by have := ho.2 t ht; omega
 omega
theorem vI1 {x : List Rat} {vars : List QF} : ∀ (l : List QT) (o : QF), (∀ t ∈ l, 0 ≤ t.1 ∧ t.1 < vars.length) → evQ (l.foldl (fun o t => vA3 o vars[t.1.toNat]! t.2) o) x = evQ o x + dot (vars.map fun f => evQ f x) l
 | [], o, _ => by simp only [List.foldl_nil, dot]; grind
 | t :: l, o, h => by
   have ht := h t (by simp);rw [List.foldl_cons, vI1 l _ fun q hq => h q (by simp [hq]), zEN];simp only [dot]
   have e : (vars.map fun f => evQ f x)[t.1.toNat]! = evQ vars[t.1.toNat]! x := by
    rw [getElem!_pos _ _ (by simp; omega), getElem!_pos vars _ (by omega)]; simp
   rw [e]; grind
theorem zMA {x : List Rat} {vars : List QF} {f : QF} (h : okF vars.length f) : evQ (vBE f vars) x = evQ f (vars.map fun f => evQ f x) := by
 unfold vBE;rw [vI1 f.ts _ h.2, vGR rfl, zEO f]
def Agree (of p : Int) : Prop := of = 0 ∨ of = p
theorem phase_zero {a : Rat} : phase a = 0 ↔ a = 0 := by
 unfold phase; split
 ·rename_i h; constructor <;> intro e
  ·omega
  ·grind
 ·split
  ·rename_i h; constructor <;> intro e
   ·omega
   ·grind
  ·constructor <;> intro e
   ·grind
   ·rfl
theorem phase_one {a : Rat} : phase a = 1 ↔ 0 < a := by
 unfold phase; split
 ·rename_i h; exact ⟨fun _ => h, fun _ => rfl⟩
 ·rename_i h; split
  ·exact ⟨fun e => by omega, fun e => absurd e h⟩
  ·exact ⟨fun e => by omega, fun e => absurd e h⟩
theorem phase_two {a : Rat} : phase a = 2 ↔ a < 0 := by
 unfold phase; split
 ·rename_i h; exact ⟨fun e => by omega, fun e => by grind⟩
 ·split
  ·rename_i h; exact ⟨fun _ => h, fun _ => rfl⟩
  ·rename_i h; exact ⟨fun e => by omega, fun e => absurd e h⟩
theorem agree_on {a : Rat} : Agree (phase a) 1 ↔ 0 ≤ a := by
 unfold Agree; rw [phase_zero, phase_one]; constructor <;> intro h <;> grind
theorem agree_off {a : Rat} : Agree (phase a) 2 ↔ a ≤ 0 := by
 unfold Agree; rw [phase_zero, phase_two]; constructor <;> intro h <;> grind
section
variable {us : List QF} {x : List Rat} {ph : List Int} {n : Nat}
def AgN (us : List QF) (x : List Rat) (ph : List Int) (j : Nat) : Prop := ∀ i, i < j → Agree (phase (vCA us x)[i]!) ph[i]!
theorem vKZ (hx : x.length = n) (hu : ∀ j, j < us.length → okF (n + j : Nat) us[j]!) (hp : ∀ j, j < us.length → ph[j]! = 1 ∨ ph[j]! = 2) : ∀ j, j ≤ us.length → AgN us x ph j → (vBH us n ph j).map (fun f => evQ f x) = vBC us x j
 | 0, _, _ => by
   rw [zEB];simp only [vBH, vCD, List.map_map];refine List.ext_getElem (by simp [hx]) fun i h1 h2 => ?_
   have h3 : i < n := by simpa using h1
   simp only [List.getElem_map, List.getElem_range, Function.comp];rw [zEO]; simp only [dot];rw [show ((i : Int)).toNat = i from rfl, getElem!_pos x i (by omega)]; grind
 | j + 1, h, ha => by
   have ih := vKZ hx hu hp j (by omega) fun i hi => ha i (by omega)
   rw [zEC (by omega)];simp only [vBH, List.map_append, List.map_cons, List.map_nil, ih]
   congr 2
   have hag := ha j (by omega);rw [zGU (by omega)] at hag;have hl := zBX us n ph j
   have hv : evQ (vBE us[j]! (vBH us n ph j)) x = evQ us[j]! (vBC us x j) := by
    rw [zMA (by rw [hl]; exact hu j (by omega)), ih]
   rcases hp j (by omega) with e | e
   ·rw [e] at hag ⊢
    rw [if_neg (by decide), hv];have := agree_on.1 hag;unfold vC5; split <;> grind
   ·rw [e] at hag ⊢
    rw [if_pos rfl, zKV];have := agree_off.1 hag;unfold vC5; split <;> grind
def vJP (us : List QF) (n : Nat) (ph : List Int) (j : Nat) : QF := if ph[j]! = 2 then vA3 zeroQ (vBE us[j]! (vBH us n ph j)) (-1) else vBE us[j]! (vBH us n ph j)
theorem uAW (hx : x.length = n) (hu : ∀ j, j < us.length → okF (n + j : Nat) us[j]!) (hp : ∀ j, j < us.length → ph[j]! = 1 ∨ ph[j]! = 2) {j : Nat} (h : j < us.length) (ha : AgN us x ph j) : 0 ≤ evQ (vJP us n ph j) x ↔ Agree (phase (vCA us x)[j]!) ph[j]! := by
 have ih := vKZ hx hu hp j (by omega) ha;have hl := zBX us n ph j
 have hv : evQ (vBE us[j]! (vBH us n ph j)) x = evQ us[j]! (vBC us x j) := by
  rw [zMA (by rw [hl]; exact hu j (by omega)), ih]
 rw [zGU h];unfold vJP;rcases hp j h with e | e
 ·rw [e, if_neg (by decide), hv, agree_on]
 ·rw [e, if_pos rfl, zEN, zKV, hv, agree_off]
  constructor <;> intro h <;> grind
theorem zNO (hx : x.length = n) (hu : ∀ j, j < us.length → okF (n + j : Nat) us[j]!) (hp : ∀ j, j < us.length → ph[j]! = 1 ∨ ph[j]! = 2) : (∀ j, j < us.length → 0 ≤ evQ (vJP us n ph j) x) ↔ AgN us x ph us.length := by
 constructor
 ·intro h
  have : ∀ m, m ≤ us.length → AgN us x ph m := by
   intro m
   induction m with
   | zero => intro _ i hi; omega
   | succ m ih =>
     intro hm i hi;have hm' := ih (by omega);by_cases e : i = m
     ·subst e; exact (uAW hx hu hp (by omega) hm').1 (h i (by omega))
     ·exact hm' i (by omega)
  exact this _ (Nat.le_refl _)
 ·intro h j hj
  exact (uAW hx hu hp hj fun i hi => h i (by omega)).2 (h j hj)
end
def smG (g : GraL) : Prop := g.ins ≤ 4 ∧ uI0 g.units 5 ∧ uI0 g.outs 3
section
variable {us : List QF} {n : Nat} {p : List Int} {x : List Rat}
theorem vP8 (n K : Nat) (hK : 1 ≤ K) : okF n zeroQ ∧ szF K zeroQ ∧ zeroQ.ts.length ≤ n := ⟨⟨zCD, fun t ht => by cases ht⟩, zDT K hK, Nat.zero_le _⟩
theorem uCJ {k : Nat} {a b : Rat} (ha : sz k a) (hb : sz k b) : sz k (vC5 a b) := by unfold vC5; split <;> assumption
end
theorem vMW (a : Rat) : vB2 * a + vB2 * a = a := by
 rw [← Rat.add_mul, show vB2 + vB2 = 1 by decide +kernel, Rat.one_mul]
theorem uEI (r : RegL) (l : List Int) : (vY0 r l).length = r.lo.length := by simp [vY0]
structure QryL where
 g : GraL
 r : RegL
 goal : AffL
 deriving Inhabited
def vA7 (q : QryL) : PV := .agg [.int .i64 q.g.ins, .imm (q.g.units.map vBD), .imm (q.g.outs.map vBD), .imm (q.r.lo.map vAZ), .imm (q.r.hi.map vAZ), .imm (q.r.rows.map vBD), .imm (q.goal.terms.map vBW), .bool q.goal.const.neg, vA9 q.goal.const.num, vA9 q.goal.const.den]
structure ScpL where
 q : QryL
 path : List DecL
 lems : List LemL
 deriving Inhabited
def VaQ (q : QryL) : Prop := VaG q.g ∧ VaR q.r q.g.ins ∧ vBO q.goal (q.g.ins + q.g.units.length)
def vKS (c : Rat) : QF := ⟨[], c⟩
def vWK (f g : QF) : QF := vA3 f g (-1)
def uI1 (f : QF) (c : Rat) : QF := vA3 zeroQ f c
def uJZ (r : RatL) : Prop := r.neg = false ∧ r.num.length = 0 ∧ r.den.length = 0
def uJB (r : RatL) : Prop := r = cr (qv r)
def uKC (q : QryL) (d : DecL) : Prop := ((d.kind = 1 ∨ d.kind = 2) ∧ 0 ≤ d.index ∧ d.index < q.g.units.length ∧ uJZ d.rat) ∨ ((d.kind = 3 ∨ d.kind = 4) ∧ 0 ≤ d.index ∧ d.index < q.g.ins ∧ uJB d.rat)
def uKE (S : ScpL) (k j : Int) : Bool := S.path.any fun d => decide (d.kind = k) && decide (d.index = j)
def uF7 (S : ScpL) (n j : Int) (up : Bool) : Option Rat := if 1 ≤ n ∧ n ≤ S.lems.length ∧ S.lems[n.toNat - 1]!.unit = j ∧ S.lems[n.toNat - 1]!.upper = up then some (qv S.lems[n.toNat - 1]!.value) else none
def inO (S : ScpL) (r : RowL) : Option QF :=
 if r.index < 0 ∨ r.lo ≠ 0 ∨ r.hi ≠ 0 then none
 else if r.kind = 1 ∧ r.index < S.q.r.lo.length then some (vWK (vB6 r.index) (vKS (qv S.q.r.lo[r.index.toNat]!)))
 else if r.kind = 2 ∧ r.index < S.q.r.hi.length then some (vWK (vKS (qv S.q.r.hi[r.index.toNat]!)) (vB6 r.index))
 else if r.kind = 3 ∧ r.index < S.q.r.rows.length then some S.q.r.rows[r.index.toNat]!.Q
 else if r.kind = 4 ∧ r.index < S.path.length then
  (if S.path[r.index.toNat]!.kind = 3 then some (vWK (vB6 S.path[r.index.toNat]!.index) (vKS (qv S.path[r.index.toNat]!.rat)))
  else if S.path[r.index.toNat]!.kind = 4 then some (vWK (vKS (qv S.path[r.index.toNat]!.rat)) (vB6 S.path[r.index.toNat]!.index)) else none)
 else none
def geO (o : Option Rat) : Bool := match o with
 | some l => decide (0 ≤ l)
 | none => false
def leO (o : Option Rat) : Bool := match o with
 | some l => decide (l ≤ 0)
 | none => false
def onB (S : ScpL) (r : RowL) : Bool := decide (r.hi = 0) && (decide (r.lo = 0) && uKE S 1 r.index || geO (uF7 S r.lo r.index false))
def uJ7 (S : ScpL) (r : RowL) : Bool := decide (r.lo = 0) && (decide (r.hi = 0) && uKE S 2 r.index || leO (uF7 S r.hi r.index true))
def uKG (v p : QF) (l u : Rat) : QF := vWK (uI1 (vWK p (vKS l)) u) (uI1 v (u - l))
def unO (S : ScpL) (r : RowL) : Option QF :=
 if r.index < 0 ∨ S.q.g.units.length ≤ r.index then none
 else
  if r.kind = 5 then (if r.lo = 0 ∧ r.hi = 0 then some (vB6 (S.q.g.ins + r.index)) else none)
  else if r.kind = 6 then (if r.lo = 0 ∧ r.hi = 0 then some (vWK (vB6 (S.q.g.ins + r.index)) S.q.g.units[r.index.toNat]!.Q) else none)
  else if r.kind = 7 then (if onB S r = true then some S.q.g.units[r.index.toNat]!.Q else none)
  else if r.kind = 8 then (if onB S r = true then some (vWK S.q.g.units[r.index.toNat]!.Q (vB6 (S.q.g.ins + r.index))) else none)
  else if r.kind = 9 then (if uJ7 S r = true then some (uI1 S.q.g.units[r.index.toNat]!.Q (-1)) else none)
  else if r.kind = 10 then (if uJ7 S r = true then some (uI1 (vB6 (S.q.g.ins + r.index)) (-1)) else none)
  else if r.kind = 11 then (match uF7 S r.lo r.index false with
   | some l => if r.hi = 0 then some (vWK S.q.g.units[r.index.toNat]!.Q (vKS l)) else none
   | none => none)
  else if r.kind = 12 then (match uF7 S r.hi r.index true with
   | some u => if r.lo = 0 then some (vWK (vKS u) S.q.g.units[r.index.toNat]!.Q) else none
   | none => none)
  else if r.kind = 13 then (match uF7 S r.lo r.index false, uF7 S r.hi r.index true with
   | some l, some u => if l < 0 ∧ 0 < u then some (uKG (vB6 (S.q.g.ins + r.index)) S.q.g.units[r.index.toNat]!.Q l u) else none
   | _, _ => none)
  else none
def uJ3 (S : ScpL) (r : RowL) : Option QF := if r.kind < 5 then inO S r else unO S r
def uEF (a b : RowL) : Prop := a.kind < b.kind ∨ a.kind = b.kind ∧ (a.index < b.index ∨ a.index = b.index ∧ (a.lo < b.lo ∨ a.lo = b.lo ∧ a.hi < b.hi))
def uJM (S : ScpL) (l : List MultL) (k : Nat) : Prop := uJB l[k]!.coef ∧ 0 < qv l[k]!.coef ∧ (0 < k → uEF l[k - 1]!.row l[k]!.row) ∧ (uJ3 S l[k]!.row).isSome = true
def okM (S : ScpL) (l : List MultL) (i : Nat) : Prop := ∀ k, k < i → uJM S l k
def rw' (S : ScpL) (m : MultL) : QF := (uJ3 S m.row).getD zeroQ
def uJ1 (S : ScpL) (f : QF) (l : List MultL) (i : Nat) : QF := (l.take i).foldl (fun f m => vA3 f (rw' S m) (- qv m.coef)) f
def uJ4 (S : ScpL) (f : QF) (l : List MultL) : Prop := okM S l l.length ∧ (uJ1 S f l l.length).ts = [] ∧ 0 ≤ (uJ1 S f l l.length).c
def usQ (q : QryL) : List QF := q.g.units.map AffL.Q
theorem zCJ (q : QryL) : (usQ q).length = q.g.units.length := by simp [usQ]
theorem uCH {q : QryL} {j : Nat} (h : j < q.g.units.length) : (usQ q)[j]! = q.g.units[j]!.Q := by
 unfold usQ; rw [getElem!_pos _ j (by simpa using h), getElem!_pos q.g.units j h]; simp
def vlQ (q : QryL) (x : List Rat) : List Rat := vBC (usQ q) x (usQ q).length
def inQ (q : QryL) (x : List Rat) : Prop := (x.length : Int) = q.g.ins ∧ (∀ i, i < x.length → qv q.r.lo[i]! ≤ x[i]! ∧ x[i]! ≤ qv q.r.hi[i]!) ∧ ∀ i, i < q.r.rows.length → 0 ≤ evQ q.r.rows[i]!.Q x
section
variable {S : ScpL} {x : List Rat}
end
inductive NodeL.Bin : NodeL → Prop
 | mk (n : NodeL) (h : n.kids.length = 0 ∨ n.kids.length = 2) (hk : ∀ k ∈ n.kids, NodeL.Bin k) : NodeL.Bin n
theorem NodeL.Bin.len {n : NodeL} (h : n.Bin) : n.kids.length = 0 ∨ n.kids.length = 2 := by cases h; assumption
theorem vUL {x : List Rat} {i : Nat} (hi : i < x.length) (e : Rat) : ∀ (l : List QT), (∀ t ∈ l, 0 ≤ t.1) → dot (x.set i e) l = dot x l + cf l i * (e - x[i]!)
 | [], _ => by simp only [dot, cf]; grind
 | t :: l, h => by
   have h1 := h t (by simp);have ih := vUL hi e l fun u hu => h u (List.mem_cons_of_mem _ hu)
   simp only [dot, cf, ih];by_cases e1 : t.1 = (i : Int)
   ·rw [if_pos e1, show t.1.toNat = i by omega]
    have : (x.set i e)[i]! = e := by rw [getElem!_pos _ i (by simpa using hi)]; simp
    rw [this]; grind
   ·rw [if_neg e1]
    have : (x.set i e)[t.1.toNat]! = x[t.1.toNat]! := by
     rw [List.getElem!_eq_getElem?_getD, List.getElem!_eq_getElem?_getD, List.getElem?_set_ne (by omega)]
    rw [this]; grind
theorem vUB {x : List Rat} {i : Nat} (hi : i < x.length) (e : Rat) {f : QF} (h : ∀ t ∈ f.ts, 0 ≤ t.1) : evQ f (x.set i e) = evQ f x + cf f.ts i * (e - x[i]!) := by
 rw [zEO, zEO, vUL hi e _ h]; grind
theorem uEW {a b : Rat} (h : b ≠ 0) : b * (a / b) = a := by rw [Rat.mul_comm]; exact Rat.div_mul_cancel h
def zer (x : List Rat) (i : Nat) (f : QF) : Rat := x[i]! - evQ f x / cf f.ts i
theorem vUA {x : List Rat} {i : Nat} (hi : i < x.length) (e : Rat) {f : QF} (h : ∀ t ∈ f.ts, 0 ≤ t.1) (hc : cf f.ts i ≠ 0) : evQ f (x.set i e) = cf f.ts i * (e - zer x i f) := by
 rw [vUB hi e h];unfold zer;have := uEW (a := evQ f x) hc
 grind
def nar (x : List Rat) (i : Nat) (b : Rat × Rat) (f : QF) : Rat × Rat :=
 if cf f.ts i = 0 then b else if 0 < cf f.ts i then (vC5 b.1 (zer x i f), b.2) else (b.1, vP6 b.2 (zer x i f))
theorem zJF {c a : Rat} (hc : 0 < c) : 0 ≤ c * a ↔ 0 ≤ a := by
 constructor
 ·intro h
  refine Rat.not_lt.1 fun h2 => ?_
  have := Rat.mul_lt_mul_of_pos_left h2 hc
  grind
 ·intro h; exact Rat.mul_nonneg (Rat.le_of_lt hc) h
theorem zNK {c a : Rat} (hc : c < 0) : 0 ≤ c * a ↔ a ≤ 0 := by
 have h1 : 0 < -c := by grind
 have := zJF (a := -a) h1;constructor
 ·intro h
  have : 0 ≤ -a := this.1 (by grind)
  grind
 ·intro h
  have := this.2 (by grind)
  grind
structure NarP (x : List Rat) (i : Nat) (fs : List QF) (lo hi : Rat) (b : Rat × Rat) : Prop where
 lo : lo ≤ b.1
 hi : b.2 ≤ hi
 up : ∀ f ∈ fs, 0 < cf f.ts i → zer x i f ≤ b.1
 dn : ∀ f ∈ fs, cf f.ts i < 0 → b.2 ≤ zer x i f
theorem uHQ (a b : Rat) : a ≤ vC5 a b ∧ b ≤ vC5 a b := by unfold vC5; split <;> constructor <;> grind
theorem uHP (a b : Rat) : vP6 a b ≤ a ∧ vP6 a b ≤ b := by unfold vP6; split <;> constructor <;> grind
theorem uBB {x : List Rat} {i : Nat} {lo hi : Rat} : ∀ (fs gs : List QF) (b : Rat × Rat), NarP x i gs lo hi b → NarP x i (gs ++ fs) lo hi (fs.foldl (nar x i) b)
 | [], gs, b, h => by simpa using h
 | f :: fs, gs, b, h => by
   have e : gs ++ f :: fs = (gs ++ [f]) ++ fs := by simp
   rw [e];refine uBB fs (gs ++ [f]) _ ?_;obtain ⟨h1, h2, h3, h4⟩ := h;have hm := uHQ b.1 (zer x i f);have hn := uHP b.2 (zer x i f);unfold nar;refine ⟨?_, ?_, fun g hg hc => ?_, fun g hg hc => ?_⟩
   ·split; exact h1; split <;> grind
   ·split; exact h2; split <;> grind
   ·rcases List.mem_append.1 hg with hg | hg
    ·have := h3 g hg hc
     split; exact this; split <;> grind
    ·rw [List.mem_singleton.1 hg] at hc ⊢
     rw [if_neg (by grind), if_pos hc]; exact hm.2
   ·rcases List.mem_append.1 hg with hg | hg
    ·have := h4 g hg hc
     split; exact this; split <;> grind
    ·rw [List.mem_singleton.1 hg] at hc ⊢
     rw [if_neg (by grind), if_neg (by grind)]; exact hn.2
theorem uBC {x : List Rat} {i : Nat} (hi : i < x.length) : ∀ (fs : List QF) (b : Rat × Rat), (∀ f ∈ fs, (∀ t ∈ f.ts, 0 ≤ t.1) ∧ 0 ≤ evQ f x) → b.1 ≤ x[i]! → x[i]! ≤ b.2 → (fs.foldl (nar x i) b).1 ≤ x[i]! ∧ x[i]! ≤ (fs.foldl (nar x i) b).2
 | [], b, _, h1, h2 => ⟨h1, h2⟩
 | f :: fs, b, h, h1, h2 => by
   have hf := h f (by simp)
   have hs : x.set i x[i]! = x := by
    rw [getElem!_pos x i hi]; exact List.set_getElem_self hi
   have key : cf f.ts i ≠ 0 → 0 ≤ cf f.ts i * (x[i]! - zer x i f) := fun hc => by
    have := vUA hi x[i]! hf.1 hc;rw [hs] at this;rw [← this]; exact hf.2
   refine uBC hi fs _ (fun g hg => h g (List.mem_cons_of_mem _ hg)) ?_ ?_
   ·unfold nar
    split; exact h1; split
    ·rename_i hc hp
     have := (zJF hp).1 (key hc);exact le_max.2 ⟨h1, by grind⟩
    ·exact h1
   ·unfold nar
    split; exact h2; split
    ·exact h2
    ·rename_i hc hp
     have := (zNK (a := x[i]! - zer x i f) (by grind)).1 (key hc);exact le_min.2 ⟨h2, by grind⟩
def vCT (g : QF) (x : List Rat) (i : Nat) (e : Rat) : Rat := if evQ g (x.set i e) = 0 then vB2 * (e + x[i]!) else e
def vG3 (rows : List QF) (g : QF) (x : List Rat) (i : Nat) (lo hi : Rat) : Rat × Rat := nar x i (rows.foldl (nar x i) (lo, hi)) (vA3 zeroQ g (-1))
def uI7 (rows : List QF) (g : QF) (x : List Rat) (i : Nat) (lo hi : Rat) : Rat :=
 vE9 (vCT g x i (vG3 rows g x i lo hi).1) (vCT g x i (vG3 rows g x i lo hi).2)
theorem vM3 (g : QF) (x : List Rat) : evQ (vA3 zeroQ g (-1)) x = - evQ g x := by rw [zEN, zKV]; grind
theorem vYU {g : QF} (h : ∀ t ∈ g.ts, 0 ≤ t.1) : ∀ t ∈ (vA3 zeroQ g (-1)).ts, 0 ≤ t.1 := fun t ht => by
 rcases zB9 _ _ _ _ (Nat.le_refl _) t ht with ⟨p, hp, e⟩ | ⟨p, hp, e⟩
 ·cases hp
 ·have := h p hp; omega
structure CrdP (rows : List QF) (g : QF) (x : List Rat) (i : Nat) (lo hi t : Rat) : Prop where
 lo : lo ≤ t
 hi : t ≤ hi
 den : t.den ≤ x[i]!.den
 rows : ∀ f ∈ rows, 0 ≤ evQ f (x.set i t)
 goal : evQ g (x.set i t) < 0
section
variable {rows : List QF} {g : QF} {x : List Rat} {i : Nat} {lo hi : Rat}
structure EndP (rows : List QF) (g : QF) (x : List Rat) (i : Nat) (lo hi : Rat) : Prop where
 a : lo ≤ vCT g x i (vG3 rows g x i lo hi).1
 b : vCT g x i (vG3 rows g x i lo hi).2 ≤ hi
 c : vCT g x i (vG3 rows g x i lo hi).1 ≤ x[i]!
 d : x[i]! ≤ vCT g x i (vG3 rows g x i lo hi).2
 e : ∀ t, vCT g x i (vG3 rows g x i lo hi).1 ≤ t → t ≤ vCT g x i (vG3 rows g x i lo hi).2 → (∀ f ∈ rows, 0 ≤ evQ f (x.set i t)) ∧ evQ g (x.set i t) < 0
theorem vGD {a b : Rat} (h : a < b) : a < vB2 * (a + b) ∧ vB2 * (a + b) < b := by
 have h1 := vMW a;have h2 := vMW b;have h3 : 0 < vB2 := by decide +kernel
 have h4 := Rat.mul_lt_mul_of_pos_left h h3;constructor <;> grind
theorem vUE (hi' : i < x.length) (hr : ∀ f ∈ rows, (∀ t ∈ f.ts, 0 ≤ t.1) ∧ 0 ≤ evQ f x) (hg : ∀ t ∈ g.ts, 0 ≤ t.1) (hgx : evQ g x < 0) (h1 : lo ≤ x[i]!) (h2 : x[i]! ≤ hi) : EndP rows g x i lo hi := by
 have hm := vYU hg;have hmx : 0 < evQ (vA3 zeroQ g (-1)) x := by rw [vM3]; grind
 have hall : ∀ f ∈ rows ++ [vA3 zeroQ g (-1)], (∀ t ∈ f.ts, 0 ≤ t.1) ∧ 0 ≤ evQ f x := fun f hf => by
  rcases List.mem_append.1 hf with hf | hf
  ·exact hr f hf
  ·rw [List.mem_singleton.1 hf]; exact ⟨hm, Rat.le_of_lt hmx⟩
 have eb : vG3 rows g x i lo hi = (rows ++ [vA3 zeroQ g (-1)]).foldl (nar x i) (lo, hi) := by unfold vG3; rw [List.foldl_append]; rfl
 have hin := uBC hi' _ (lo, hi) hall h1 h2;have hnp := uBB (x := x) (i := i) (lo := lo) (hi := hi) (rows ++ [vA3 zeroQ g (-1)]) [] (lo, hi) ⟨Rat.le_refl, Rat.le_refl, fun f hf => (by cases hf), fun f hf => (by cases hf)⟩;rw [← eb] at hin hnp;rw [List.nil_append] at hnp;obtain ⟨k1, k2, k3, k4⟩ := hnp;have fin : lo ≤ vCT g x i (vG3 rows g x i lo hi).1 → vCT g x i (vG3 rows g x i lo hi).2 ≤ hi → vCT g x i (vG3 rows g x i lo hi).1 ≤ x[i]! → x[i]! ≤ vCT g x i (vG3 rows g x i lo hi).2 → (∀ t, vCT g x i (vG3 rows g x i lo hi).1 ≤ t → t ≤ vCT g x i (vG3 rows g x i lo hi).2 → (∀ f ∈ rows, 0 ≤ evQ f (x.set i t)) ∧ evQ g (x.set i t) < 0) → EndP rows g x i lo hi := fun h1 h2 h3 h4 h5 => ⟨h1, h2, h3, h4, h5⟩
 generalize vG3 rows g x i lo hi = b at *
 have hs : x.set i x[i]! = x := by
  rw [getElem!_pos x i hi']; exact List.set_getElem_self hi'
 have ev0 : ∀ e, evQ g (x.set i e) = - evQ (vA3 zeroQ g (-1)) (x.set i e) := fun e => by rw [vM3]; grind
 have ne1 : ∀ e, evQ g (x.set i e) = 0 → e ≠ x[i]! := fun e h0 e1 => by
  rw [e1, hs] at h0; rw [h0] at hgx; exact absurd hgx (by decide +kernel)
 have ins1 : b.1 ≤ vCT g x i b.1 ∧ vCT g x i b.1 ≤ x[i]! := by
  unfold vCT
  split
  ·rename_i h0
   have h3 : b.1 < x[i]! := Rat.lt_of_le_of_ne hin.1 (ne1 _ h0);have := vGD h3;exact ⟨Rat.le_of_lt this.1, Rat.le_of_lt this.2⟩
  ·exact ⟨Rat.le_refl, hin.1⟩
 have ins2 : vCT g x i b.2 ≤ b.2 ∧ x[i]! ≤ vCT g x i b.2 := by
  unfold vCT
  split
  ·rename_i h0
   have h3 : x[i]! < b.2 := Rat.lt_of_le_of_ne hin.2 (Ne.symm (ne1 _ h0));have := vGD h3;rw [Rat.add_comm];exact ⟨Rat.le_of_lt this.2, Rat.le_of_lt this.1⟩
  ·exact ⟨Rat.le_refl, hin.2⟩
 refine fin (Rat.le_trans k1 ins1.1) (Rat.le_trans ins2.1 k2) ins1.2 ins2.2 (fun t ht1 ht2 => ⟨fun f hf => ?_, ?_⟩)
 ·have hf' : f ∈ rows ++ [vA3 zeroQ g (-1)] := List.mem_append_left _ hf
  have hv := hr f hf;by_cases hc : cf f.ts i = 0
  ·rw [vUB hi' t hv.1, hc]
   have := hv.2
   grind
  ·rw [vUA hi' t hv.1 hc]
   by_cases hp : 0 < cf f.ts i
   ·have := k3 f hf' hp
    exact (zJF hp).2 (by grind)
   ·have := k4 f hf' (by grind)
    exact (zNK (by grind)).2 (by grind)
 ·have hM : vA3 zeroQ g (-1) ∈ rows ++ [vA3 zeroQ g (-1)] := List.mem_append_right _ (by simp)
  rw [ev0];by_cases hc : cf (vA3 zeroQ g (-1)).ts i = 0
  ·rw [vUB hi' t hm, hc]
   grind
  ·have ez := fun e => vUA hi' e hm hc
   by_cases hp : 0 < cf (vA3 zeroQ g (-1)).ts i
   ·have h3 := k3 _ hM hp
    have h4 : zer x i (vA3 zeroQ g (-1)) < t := by
     have h5 : zer x i (vA3 zeroQ g (-1)) < vCT g x i b.1 := by
      unfold vCT
      split
      ·rename_i h0
       have h6 : b.1 < x[i]! := Rat.lt_of_le_of_ne hin.1 (ne1 _ h0);have := vGD h6
       grind
      ·rename_i h0
       refine Rat.lt_of_le_of_ne h3 fun e => h0 ?_
       rw [ev0, ez, ← e]; grind
     grind
    rw [ez];have := Rat.mul_pos hp (show 0 < t - zer x i (vA3 zeroQ g (-1)) by grind)
    grind
   ·have hp' : cf (vA3 zeroQ g (-1)).ts i < 0 := by grind
    have h3 := k4 _ hM hp'
    have h4 : t < zer x i (vA3 zeroQ g (-1)) := by
     have h5 : vCT g x i b.2 < zer x i (vA3 zeroQ g (-1)) := by
      unfold vCT
      split
      ·rename_i h0
       have h6 : x[i]! < b.2 := Rat.lt_of_le_of_ne hin.2 (Ne.symm (ne1 _ h0));have := vGD h6
       grind
      ·rename_i h0
       refine Rat.lt_of_le_of_ne h3 fun e => h0 ?_
       rw [ev0, ez, e]; grind
     grind
    rw [ez];have := Rat.mul_pos (show 0 < - cf (vA3 zeroQ g (-1)).ts i by grind) (show 0 < zer x i (vA3 zeroQ g (-1)) - t by grind)
    grind
theorem uH8 (hi' : i < x.length) (hr : ∀ f ∈ rows, (∀ t ∈ f.ts, 0 ≤ t.1) ∧ 0 ≤ evQ f x) (hg : ∀ t ∈ g.ts, 0 ≤ t.1) (hgx : evQ g x < 0) (h1 : lo ≤ x[i]!) (h2 : x[i]! ≤ hi) : CrdP rows g x i lo hi (uI7 rows g x i lo hi) := by
 obtain ⟨a, b, c, d, e⟩ := vUE hi' hr hg hgx h1 h2;obtain ⟨s1, s2, s3⟩ := vW2 (Rat.le_trans c d);have := e _ s1 s2;exact ⟨Rat.le_trans a s1, Rat.le_trans s2 b, s3 _ c d, this.1, this.2⟩
end
section
variable {S T : ScpL}
end
def Bd (D A : Nat) (q : Rat) : Prop := 0 < D ∧ (∃ z : Int, (D : Rat) * q = (z : Rat)) ∧ -(A : Rat) ≤ q ∧ q ≤ (A : Rat)
theorem vIH {D : Nat} (h : 0 < D) : (0 : Rat) < (D : Rat) := by exact_mod_cast h
theorem vF6 (D : Nat) : (0 : Rat) ≤ (D : Rat) := by exact_mod_cast Nat.zero_le D
theorem Bd.mul {D E A B : Nat} {p q : Rat} (hp : Bd D A p) (hq : Bd E B q) : Bd (D * E) (A * B) (p * q) := by
 obtain ⟨d0, ⟨z, hz⟩, p1, p2⟩ := hp;obtain ⟨e0, ⟨w, hw⟩, q1, q2⟩ := hq;refine ⟨Nat.mul_pos d0 e0, ⟨z * w, ?_⟩, ?_, ?_⟩
 ·rw [Rat.natCast_mul, Rat.intCast_mul, ← hz, ← hw]; grind
 ·have h1 := Rat.mul_nonneg (show (0 : Rat) ≤ A + p by grind) (show (0 : Rat) ≤ B + q by grind)
  have h2 := Rat.mul_nonneg (show (0 : Rat) ≤ A - p by grind) (show (0 : Rat) ≤ B - q by grind);rw [Rat.natCast_mul]; grind
 ·have h1 := Rat.mul_nonneg (show (0 : Rat) ≤ A - p by grind) (show (0 : Rat) ≤ B + q by grind)
  have h2 := Rat.mul_nonneg (show (0 : Rat) ≤ A + p by grind) (show (0 : Rat) ≤ B - q by grind);rw [Rat.natCast_mul]; grind
theorem Bd.up {D A B : Nat} {q : Rat} (h : Bd D A q) (k : Nat) (hk : 0 < k) (hB : A ≤ B) : Bd (k * D) B q := by
 obtain ⟨d0, ⟨z, hz⟩, p1, p2⟩ := h;have hB' : (A : Rat) ≤ B := by exact_mod_cast hB
 refine ⟨Nat.mul_pos hk d0, ⟨k * z, ?_⟩, by grind, by grind⟩;rw [Rat.natCast_mul, Rat.intCast_mul, ← hz, Rat.intCast_natCast]; grind
theorem Bd.add {D A B : Nat} {p q : Rat} (hp : Bd D A p) (hq : Bd D B q) : Bd D (A + B) (p + q) := by
 obtain ⟨d0, ⟨z, hz⟩, p1, p2⟩ := hp;obtain ⟨_, ⟨w, hw⟩, q1, q2⟩ := hq;refine ⟨d0, ⟨z + w, ?_⟩, ?_, ?_⟩
 ·rw [Rat.intCast_add, ← hz, ← hw]; grind
 ·rw [Rat.natCast_add]; grind
 ·rw [Rat.natCast_add]; grind
theorem Bd.max {D A : Nat} {p : Rat} (h : Bd D A p) : Bd D A (vC5 0 p) := by
 unfold vC5
 split
 ·obtain ⟨d0, _, p1, p2⟩ := h
  have := vF6 A;exact ⟨d0, ⟨0, by rw [Rat.intCast_zero]; grind⟩, by grind, by grind⟩
 ·exact h
theorem Bd.sz {D A d a : Nat} {q : Rat} (h : Bd D A q) (hD : D < pw d) (hA : A < pw a) : sz (d + a) q := by
 obtain ⟨d0, ⟨z, hz⟩, p1, p2⟩ := h;have hd := vIH d0
 have e : q = mkRat z D := by
  rw [Rat.mkRat_eq_div, ← Rat.intCast_natCast];rw [← hz, Rat.intCast_natCast];have hn : (D : Rat) ≠ 0 := by grind
  have := Rat.mul_inv_cancel _ hn;rw [Rat.div_def]
  grind
 have hz1 : (z : Rat) ≤ ((D * A : Nat) : Rat) := by
  rw [← hz, Rat.natCast_mul];exact Rat.mul_le_mul_of_nonneg_left p2 (Rat.le_of_lt hd)
 have hz2 : -((D * A : Nat) : Rat) ≤ (z : Rat) := by
  rw [← hz, Rat.natCast_mul];have := Rat.mul_le_mul_of_nonneg_left p1 (Rat.le_of_lt hd)
  grind
 have h1 : z ≤ ((D * A : Nat) : Int) := by
  rw [← Rat.intCast_natCast] at hz1; exact Rat.intCast_le_intCast.1 hz1
 have h2 : -((D * A : Nat) : Int) ≤ z := by
  rw [← Rat.intCast_natCast, ← Rat.intCast_neg] at hz2; exact Rat.intCast_le_intCast.1 hz2
 have h3 := zDY hD hA;have h4 := zD2 (show d ≤ d + a by omega);rw [e];exact vHN (by omega) (by omega) (by omega)
theorem Bd.qv (r : RatL) : Bd (dn r.den) (nv r.num) (Go.PI.qv r) := by
 have d0 : 0 < dn r.den := Nat.pos_of_ne_zero (zCB _);have hd := vIH d0
 have e : (dn r.den : Rat) * Go.PI.qv r = ((sg r.neg (nv r.num) : Int) : Rat) := by
  unfold Go.PI.qv;rw [Rat.mkRat_eq_div]
  grind
 have habs := zFA r.neg (nv r.num);refine ⟨d0, ⟨_, e⟩, ?_, ?_⟩
 ·have h1 : -((nv r.num : Nat) : Int) ≤ sg r.neg (nv r.num) := by omega
  have h2 : (-((nv r.num : Nat) : Rat)) ≤ ((sg r.neg (nv r.num) : Int) : Rat) := by
   rw [← Rat.intCast_natCast, ← Rat.intCast_neg]; exact Rat.intCast_le_intCast.2 h1
  rw [← e] at h2;have h3 : (1 : Rat) ≤ (dn r.den : Rat) := by exact_mod_cast d0
  have h5 := vF6 (nv r.num);apply Rat.not_lt.1;intro hc;have h4 : (0 : Rat) ≤ ((dn r.den : Rat) - 1) * (nv r.num : Rat) := Rat.mul_nonneg (by grind) h5;have h6 : 0 < (dn r.den : Rat) * (-(nv r.num : Rat) - Go.PI.qv r) := Rat.mul_pos hd (by grind)
  grind
 ·have h1 : sg r.neg (nv r.num) ≤ ((nv r.num : Nat) : Int) := by omega
  have h2 : ((sg r.neg (nv r.num) : Int) : Rat) ≤ ((nv r.num : Nat) : Rat) := by
   rw [← Rat.intCast_natCast]; exact Rat.intCast_le_intCast.2 h1
  rw [← e] at h2;have h3 : (1 : Rat) ≤ (dn r.den : Rat) := by exact_mod_cast d0
  have h5 := vF6 (nv r.num);apply Rat.not_lt.1;intro hc;have h4 : (0 : Rat) ≤ ((dn r.den : Rat) - 1) * (nv r.num : Rat) := Rat.mul_nonneg (by grind) h5;have h6 : 0 < (dn r.den : Rat) * (Go.PI.qv r - (nv r.num : Rat)) := Rat.mul_pos hd (by grind)
  grind
def BdL (E M : Nat) (vs : List Rat) : Prop := (0 < E ∧ 1 ≤ M) ∧ ∀ v ∈ vs, Bd E M v
theorem BdL.sz {E M d a : Nat} {vs : List Rat} (h : BdL E M vs) (hD : E < pw d) (hA : M < pw a) : ∀ v ∈ vs, sz (d + a) v := fun v hv => (h.2 v hv).sz hD hA
theorem Bd.neg {D A : Nat} {q : Rat} (h : Bd D A q) : Bd D A (-q) := by
 obtain ⟨d0, ⟨z, hz⟩, p1, p2⟩ := h;exact ⟨d0, ⟨-z, by rw [Rat.intCast_neg, ← hz]; grind⟩, by grind, by grind⟩
theorem Bd.sum {D E A B : Nat} {p q : Rat} (hp : Bd D A p) (hq : Bd E B q) : Bd (D * E) (A + B) (p + q) := by
 have h1 := hp.up E hq.1 (Nat.le_refl _);have h2 := hq.up D hp.1 (Nat.le_refl _);rw [Nat.mul_comm] at h1;exact h1.add h2
def lQ (r : RatL) : Nat := r.num.length + r.den.length
def vL (l : List LemL) : Nat := (l.map fun m => lQ m.value).sum
def sC (l : List MultL) : Nat := (l.map fun m => lQ m.coef + 1).sum
def NodeL.tot (f : NodeL → Nat) (n : NodeL) : Nat := f n + (n.kids.attach.map fun ⟨k, _⟩ => NodeL.tot f k).sum
termination_by SizeOf.sizeOf n
decreasing_by exact NodeL.sizeOf_kid ‹_›
def spF (n : NodeL) : Nat := lQ n.split.rat
def vlF (n : NodeL) : Nat := vL n.lemmas
def coF (n : NodeL) : Nat := (n.lemmas.map fun m => sC m.proof).sum + sC n.proof
def NodeL.bk (n : NodeL) : Nat := n.tot fun x => spF x + vlF x + coF x
instance dec_okT (ts : List TermL) (n : Int) (i : Nat) : Decidable (okT ts n i) := by unfold okT; exact inferInstance
instance dec_ValidF (f : AffL) (n : Int) : Decidable (vBO f n) := by unfold vBO; exact inferInstance
instance dec_VaG (g : GraL) : Decidable (VaG g) := by unfold VaG; exact inferInstance
instance dec_smF (f : AffL) : Decidable (smF f) := by unfold smF; exact inferInstance
instance dec_smFs (l : List AffL) (m : Int) : Decidable (uI0 l m) := by unfold uI0; exact inferInstance
instance dec_smG (g : GraL) : Decidable (smG g) := by unfold smG; exact inferInstance
def E1 : QF := ⟨[(0, 1)], 0⟩
def E2 : QF := ⟨[(0, -1)], 1⟩
def E3 : QF := ⟨[(1, 2), (2, 1)], 0⟩
theorem sz1 (z : Int) (h : z.natAbs < 4294967296) : sz 2 (z : Rat) := zBE (by decide) (zF6 h)
theorem Q_L (f : QF) : f.L.Q = f := by
 unfold QF.L AffL.Q;simp only [List.map_map, zAQ];rw [show ((fun t : TermL => (t.var, qv t.coef)) ∘ tQ) = id from by funext t; simp [tQ, zAQ], List.map_id]
theorem zJH {c : Rat} {PA PB R : Rat → Prop} (h1 : ∀ x, PA x → R x) (h2 : ∀ y, PB y → R (y * c)) (h3 : ∀ x y, PA x → PB y → R (x + y * c)) : ∀ (n : Nat) (a b : List QT), a.length + b.length ≤ n → (∀ p ∈ a, PA p.2) → (∀ p ∈ b, PB p.2) → ∀ r ∈ mrg c a b, R r.2
 | n, [], [], _, _, _, r, h => by rw [mrg] at h; cases h
 | 0, _ :: _, _, h, _, _, _, _ => by simp at h
 | 0, _, _ :: _, h, _, _, _, _ => by simp at h
 | n + 1, p :: a, [], hn, ha, hb, r, h => by
   rw [mrg, List.mem_append] at h;simp only [List.length_cons] at hn;rcases h with h | h
   ·rw [zC9 h]; exact h1 _ (ha p (by simp))
   ·exact zJH h1 h2 h3 n a [] (by simp at hn ⊢; omega) (fun q hq => ha q (by simp [hq])) hb r h
 | n + 1, [], q :: b, hn, ha, hb, r, h => by
   rw [mrg, List.mem_append] at h;simp only [List.length_cons] at hn;rcases h with h | h
   ·rw [zC9 h]; exact h2 _ (hb q (by simp))
   ·exact zJH h1 h2 h3 n [] b (by simp at hn ⊢; omega) ha (fun q hq => hb q (by simp [hq])) r h
 | n + 1, p :: a, q :: b, hn, ha, hb, r, h => by
   rw [mrg] at h;simp only [List.length_cons] at hn
   split at h
   ·rcases List.mem_append.1 h with h | h
    ·rw [zC9 h]; exact h1 _ (ha p (by simp))
    ·exact zJH h1 h2 h3 n a (q :: b) (by simp; omega) (fun q hq => ha q (by simp [hq])) hb r h
   ·split at h
    ·rcases List.mem_append.1 h with h | h
     ·rw [zC9 h]; exact h2 _ (hb q (by simp))
     ·exact zJH h1 h2 h3 n (p :: a) b (by simp; omega) ha (fun q hq => hb q (by simp [hq])) r h
    ·rcases List.mem_append.1 h with h | h
     ·rw [zC9 h]; exact h3 _ _ (ha p (by simp)) (hb q (by simp))
     ·exact zJH h1 h2 h3 n a b (by omega) (fun q hq => ha q (by simp [hq])) (fun q hq => hb q (by simp [hq])) r h
def BdF (D A : Nat) (f : QF) : Prop := Bd D A f.c ∧ ∀ p ∈ f.ts, Bd D A p.2
theorem BdF.sz {D A d a : Nat} {f : QF} (h : BdF D A f) (hD : D < pw d) (hA : A < pw a) : szF (d + a) f := ⟨h.1.sz hD hA, fun p hp => (h.2 p hp).sz hD hA⟩
def lowF (s : Nat) (f : QF) : Prop := ∃ D A, D < pw s ∧ A < pw s ∧ BdF D A f
theorem lowF.sz {s : Nat} {f : QF} (h : lowF s f) : szF (2 * s) f := by
 obtain ⟨D, A, h1, h2, h3⟩ := h;have := h3.sz h1 h2
 rwa [show s + s = 2 * s by omega] at this
def vDN (n v : Nat) : Nat := if v < n then 200 else 2500 * 2 ^ (v - n)
theorem vMV : ∀ n, n < 4 → ∀ j, j < 5 → 200 + vC8 (fun v => vDN n v + 200 + 1) 0 (n + j) ≤ 2500 * 2 ^ j := by decide +kernel
theorem vTO : ∀ n, n < 4 → ∀ j, j < 5 → 200 + vC8 (fun v => 200 + vDN n v + 1) 0 (n + j) ≤ 2500 * 2 ^ j := by decide +kernel
theorem uBH (n j : Nat) : vDN n (n + j) = 2500 * 2 ^ j := by unfold vDN; rw [if_neg (by omega), Nat.add_sub_cancel_left]
theorem uEG {n v : Nat} (h : v < n + 5) : vDN n v ≤ 40000 := by
 unfold vDN; split
 ·omega
 ·have : 2 ^ (v - n) ≤ 2 ^ 4 := Nat.pow_le_pow_right (by decide) (by omega)
  omega
section
variable {us : List QF} {n : Nat} {p : List Int} {x : List Rat}
def uCP (us : List QF) (n : Nat) : Prop := n < 4 ∧ us.length < 5 ∧ ∀ j, j < us.length → szF 200 us[j]! ∧ okF (n + j : Nat) us[j]!
theorem zGI (h : uCP us n) : ∀ j, j ≤ us.length → vP5 n (vDN n) (vBH us n p j)
 | 0, _ => fun v hv => by
   have hv' : v < n := by simpa [vBH, vCD] using hv
   have e : (vBH us n p 0)[v]! = ⟨[((v : Int), 1)], 0⟩ := by unfold vBH vCD; rw [zBV hv']
   rw [e];refine ⟨⟨⟨List.pairwise_singleton _ _, fun t ht => ?_⟩, fun t ht => ?_⟩, ⟨zBE ?_ (zF6 (z := 0) (by decide)), fun t ht => ?_⟩, ?_⟩
   ·rw [List.mem_singleton.1 ht]; show (1 : Rat) ≠ 0; decide
   ·rw [List.mem_singleton.1 ht]; simp only; omega
   ·unfold vDN; rw [if_pos hv']; decide
   ·rw [List.mem_singleton.1 ht]
    exact zBE (by unfold vDN; rw [if_pos hv']; decide) (zF6 (z := 1) (by decide))
   ·simp only [List.length_singleton]; omega
 | j + 1, hj => fun v hv => by
   have ih := zGI h j (by omega);have hl := zBX us n p j;rw [zBX] at hv;by_cases e : v < n + j
   ·have e2 : (vBH us n p (j + 1))[v]! = (vBH us n p j)[v]! := by
     have h1 : v < (vBH us n p j).length := by omega
     rw [getElem!_pos _ v (by rw [zBX]; omega), getElem!_pos _ v h1];simp only [vBH]; rw [List.getElem_append_left h1]
    rw [e2]; exact ih v (by omega)
   ·have e3 : v = n + j := by omega
    subst e3
    have e2 : (vBH us n p (j + 1))[n + j]! = if p[j]! = 2 then zeroQ else vBE us[j]! (vBH us n p j) := by
     rw [getElem!_pos _ (n + j) (by rw [zBX]; omega)];simp only [vBH]; rw [List.getElem_append_right (by omega)];simp [hl]
    rw [e2, uBH];have hp : 1 ≤ 2 ^ j := Nat.one_le_two_pow
    split
    ·exact vP8 n _ (by omega)
    ·obtain ⟨h1, h2, h3⟩ := zG4 ih (h.2.2 j (by omega)).1 (by rw [hl]; exact (h.2.2 j (by omega)).2)
     rw [hl] at h2;exact ⟨h1, zD7 (vMV n h.1 j (by have := h.2.1; omega)) h2, h3⟩
theorem zGX (h : uCP us n) {j : Nat} (hj : j ≤ us.length) : 200 + vC8 (fun v => vDN n v + 200 + 1) 0 (n + j) ≤ 40000 := by
 have := vMV n h.1 j (by have := h.2.1; omega);have h2 : 2 ^ j ≤ 2 ^ 4 := Nat.pow_le_pow_right (by decide) (by have := h.2.1; omega);omega
theorem vLK (h : uCP us n) (hx : x.length = n) {j : Nat} (hj : j < us.length) (ih : ∀ v, v < n + j → sz (vDN n v) (vBC us x j)[v]!) : sz (2500 * 2 ^ j) (evQ us[j]! (vBC us x j)) := by
 have hl : (vBC us x j).length = n + j := by rw [zC2 j (by omega), hx]
 have := uEN (vDN n) (h.2.2 j hj).1 (fun v hv => ih v (by omega)) (by rw [hl]; exact (h.2.2 j hj).2);rw [hl] at this;exact zBE (vTO n h.1 j (by have := h.2.1; omega)) this
theorem vE1 (h : uCP us n) (hx : x.length = n) (hs : ∀ q ∈ x, sz 200 q) : ∀ j, j ≤ us.length → ∀ v, v < n + j → sz (vDN n v) (vBC us x j)[v]!
 | 0, _ => fun v hv => by
   rw [zEB, getElem!_pos x v (by omega)];unfold vDN; rw [if_pos (by omega)];exact hs _ (List.getElem_mem _)
 | j + 1, hj => fun v hv => by
   have ih := vE1 h hx hs j (by omega);have hl : (vBC us x j).length = n + j := by rw [zC2 j (by omega), hx]
   rw [zEC (by omega)];by_cases e : v < n + j
   ·have h1 : v < (vBC us x j).length := by omega
    rw [getElem!_pos _ v (by simp; omega), List.getElem_append_left h1, ← getElem!_pos _ v h1];exact ih v e
   ·have e3 : v = n + j := by omega
    subst e3;rw [getElem!_pos _ (n + j) (by simp; omega), List.getElem_append_right (by omega), uBH];simp only [hl, Nat.sub_self, List.getElem_cons_zero];have hp : 1 ≤ 2 ^ j := Nat.one_le_two_pow;exact uCJ (zBE (by omega) (zF6 (z := 0) (by decide))) (vLK h hx (by omega) ih)
theorem uCE (h : uCP us n) (hx : x.length = n) (hs : ∀ q ∈ x, sz 200 q) {j : Nat} (hj : j ≤ us.length) : ∀ q ∈ vBC us x j, sz 40000 q := fun q hq => by
 obtain ⟨v, hv, rfl⟩ := List.getElem_of_mem hq;have hl : (vBC us x j).length = n + j := by rw [zC2 j (by omega), hx]
 have := vE1 h hx hs j hj v (by omega);rw [getElem!_pos _ v hv] at this;exact zBE (uEG (by have := h.2.1; omega)) this
theorem uG5 (h : uCP us n) (hx : x.length = n) (hs : ∀ q ∈ x, sz 200 q) {j : Nat} (hj : j < us.length) : sz 40000 (vCA us x)[j]! := by
 rw [zGU hj];have h2 : 2 ^ j ≤ 2 ^ 4 := Nat.pow_le_pow_right (by decide) (by have := h.2.1; omega);exact zBE (by omega) (vLK h hx hj (vE1 h hx hs j (by omega)))
end
structure smQ (q : QryL) (kg : Nat) : Prop where
 va : VaQ q
 ins : q.g.ins ≤ 3
 un : q.g.units.length ≤ 4
 rows : q.r.rows.length ≤ 8
 g : vCE 199 q.g
 r : vCZ 60 q.r
 goal : okA kg q.goal
theorem smQ.n {q : QryL} {kg : Nat} (h : smQ q kg) : ∃ n : Nat, q.g.ins = (n : Int) ∧ 1 ≤ n ∧ n ≤ 3 ∧ q.r.lo.length = n ∧ q.r.hi.length = n := by
 obtain ⟨⟨h1, h2⟩, _⟩ := h.va.1;have := h.ins;have h3 := h.va.2.1.2.1;have h4 := h.va.2.1.2.2.1;exact ⟨q.g.ins.toNat, by omega, by omega, by omega, by omega, by omega⟩
theorem smQ.us {q : QryL} {kg n : Nat} (h : smQ q kg) (hn : q.g.ins = (n : Int)) : uCP (usQ q) n := by
 have h1 := h.ins;have h2 := h.un;refine ⟨by omega, by rw [zCJ]; omega, fun j hj => ?_⟩;rw [zCJ] at hj;rw [uCH hj];refine ⟨zD7 (by decide) (zB0 (h.g.1.2 _ (by rw [getElem!_pos q.g.units j hj]; exact List.getElem_mem _)) (by decide)), ?_⟩;have := zCX (h.va.1.2.2.2.1 j hj);rw [hn] at this
 exact_mod_cast this
def vBX (q : QryL) (x : List Rat) : Rat := evQ q.goal.Q (vlQ q x)
def phO (q : QryL) (x : List Rat) : List Int := (vCA (usQ q) x).map fun a => if a < 0 then 2 else 1
theorem zHI (q : QryL) (x : List Rat) : (phO q x).length = (usQ q).length := by simp [phO, zCM]
theorem vRR {q : QryL} {x : List Rat} {j : Nat} (hj : j < (usQ q).length) : (phO q x)[j]! = if (vCA (usQ q) x)[j]! < 0 then 2 else 1 := by
 have h1 : j < (vCA (usQ q) x).length := by rw [zCM]; exact hj
 rw [getElem!_pos _ j (by rw [zHI]; exact hj), getElem!_pos _ j h1]; simp [phO]
theorem zHJ {q : QryL} {x : List Rat} : ∀ j, j < (usQ q).length → (phO q x)[j]! = 1 ∨ (phO q x)[j]! = 2 := fun j hj => by
 rw [vRR hj]; split; exact Or.inr rfl; exact Or.inl rfl
theorem vMB (q : QryL) (x : List Rat) : AgN (usQ q) x (phO q x) (usQ q).length := fun j hj => by
 rw [vRR hj]
 split
 ·exact agree_off.2 (Rat.le_of_lt (by assumption))
 ·exact agree_on.2 (Rat.not_lt.1 (by assumption))
def vCK (q : QryL) (n : Nat) (p : List Int) : List QF := (List.range (usQ q).length).map (vJP (usQ q) n p)
def vEL (q : QryL) (n : Nat) (x : List Rat) : List QF := vCK q n (phO q x) ++ q.r.rows.map AffL.Q
def vCF (q : QryL) (n : Nat) (p : List Int) : QF := vBE q.goal.Q (vBH (usQ q) n p (usQ q).length)
def vCP (q : QryL) (n : Nat) (x : List Rat) : QF := vCF q n (phO q x)
noncomputable def vGW (q : QryL) (n : Nat) (x : List Rat) (i : Nat) : Rat := uI7 (vEL q n x) (vCP q n x) x i (qv q.r.lo[i]!) (qv q.r.hi[i]!)
section
variable {q : QryL} {kg n : Nat} {x : List Rat}
theorem vTF {f : QF} {k m : Nat} (hf : szF k f) (hk : k + 1 ≤ m) : szF m (vA3 zeroQ f (-1)) := by
 refine ⟨?_, fun p hp => ?_⟩
 ·show sz m (0 + f.c * (-1))
  have : (0 : Rat) + f.c * (-1) = - f.c := by grind
  rw [this]; exact zBE (by omega) (zJY hf.1)
 ·refine zJH (PA := fun _ => False) (PB := fun y => sz k y) (R := fun y => sz m y) (c := -1) (fun x h => h.elim) (fun y h => ?_) (fun x y h _ => h.elim) _ _ _ (Nat.le_refl _) (fun p hp => by cases hp) hf.2 p hp
  have : y * (-1) = - y := by grind
  rw [this]; exact zBE (by omega) (zJY h)
theorem vJ5 (h : smQ q kg) (hn : q.g.ins = (n : Int)) (p : List Int) {j : Nat} (hj : j < (usQ q).length) : okF n (vJP (usQ q) n p j) ∧ szF 40001 (vJP (usQ q) n p j) ∧ (vJP (usQ q) n p j).ts.length ≤ n := by
 have hu := h.us hn;have hl := zBX (usQ q) n p j;have hk := zGX (n := n) hu (j := j) (by omega);obtain ⟨h1, h2, h3⟩ := zG4 (f := (usQ q)[j]!) (zGI (p := p) hu j (by omega)) (hu.2.2 j hj).1 (by rw [hl]; exact (hu.2.2 j hj).2);rw [hl] at h2;unfold vJP
 split
 ·have hok : okF n (vA3 zeroQ (vBE (usQ q)[j]! (vBH (usQ q) n p j)) (-1)) := ⟨zCW zCD h1.1, fun t ht => by
   rcases zB9 _ _ _ _ (Nat.le_refl _) t ht with ⟨p, hp, e⟩ | ⟨p, hp, e⟩
   ·cases hp
   ·have := h1.2 p hp; omega⟩
  have h4 : (vA3 zeroQ (vBE (usQ q)[j]! (vBH (usQ q) n p j)) (-1)).ts.length ≤ 0 + (vBE (usQ q)[j]! (vBH (usQ q) n p j)).ts.length := zFE;refine ⟨hok, vTF h2 (by omega), by omega⟩
 ·exact ⟨h1, zD7 (by omega) h2, h3⟩
theorem vFC (h : smQ q kg) (hn : q.g.ins = (n : Int)) (hx : x.length = n) (hin : inQ q x) : ∀ f ∈ vEL q n x, (∀ t ∈ f.ts, 0 ≤ t.1) ∧ 0 ≤ evQ f x := fun f hf => by
 have hu := h.us hn;rcases List.mem_append.1 hf with hf | hf
 ·obtain ⟨j, hj, rfl⟩ := List.mem_map.1 hf
  have hj := List.mem_range.1 hj;refine ⟨fun t ht => ((vJ5 h hn _ hj).1.2 t ht).1, (zNO hx (fun j hj => (hu.2.2 j hj).2) zHJ).2 (vMB q x) j hj⟩
 ·obtain ⟨a, ha, rfl⟩ := List.mem_map.1 hf
  obtain ⟨j, hj, rfl⟩ := List.getElem_of_mem ha;have h1 := zCX (h.va.2.1.2.2.2.2.2 j hj);have h2 := hin.2.2 j hj;rw [getElem!_pos _ j hj] at h1 h2;exact ⟨fun t ht => (h1.2 t ht).1, h2⟩
theorem vGE (h : smQ q kg) (hn : q.g.ins = (n : Int)) (hx : x.length = n) {p : List Int} (hp : ∀ j, j < (usQ q).length → p[j]! = 1 ∨ p[j]! = 2) (ha : AgN (usQ q) x p (usQ q).length) : evQ (vCF q n p) x = vBX q x := by
 have hu := h.us hn;unfold vCF vBX vlQ;rw [zMA, vKZ hx (fun j hj => (hu.2.2 j hj).2) hp _ (Nat.le_refl _) ha];have := zCX h.va.2.2;rw [zBX, zCJ];rw [hn] at this
 exact_mod_cast this
theorem vMX (h : smQ q kg) (hn : q.g.ins = (n : Int)) (p : List Int) : ∀ t ∈ (vCF q n p).ts, 0 ≤ t.1 := fun t ht => by
 have hu := h.us hn;have hg := zCX h.va.2.2;rw [hn] at hg;have := (zG4 (f := q.goal.Q) (zGI (p := p) hu _ (Nat.le_refl _)) (zB0 (zBZ (Nat.le_max_left kg 1) h.goal) (Nat.le_max_right _ _)) (by rw [zBX, zCJ]; exact_mod_cast hg)).1.2 t ht;exact this.1
theorem vZJ (h : smQ q kg) (hn : q.g.ins = (n : Int)) (hin : inQ q x) (hv : vBX q x < 0) {i : Nat} (hi : i < n) :
 inQ q (x.set i (vGW q n x i)) ∧ vBX q (x.set i (vGW q n x i)) < 0 ∧ (vGW q n x i).den ≤ x[i]!.den ∧ qv q.r.lo[i]! ≤ vGW q n x i ∧ vGW q n x i ≤ qv q.r.hi[i]! := by
 have hx : x.length = n := by have := hin.1; omega
 have hu := h.us hn;have hb := hin.2.1 i (by omega);have hg := vGE h hn hx (zHJ (q := q) (x := x)) (vMB q x);obtain ⟨c1, c2, c3, c4, c5⟩ := uH8 (i := i) (rows := vEL q n x) (g := vCP q n x) (by omega) (vFC h hn hx hin) (vMX h hn _) (by unfold vCP; rw [hg]; exact hv) hb.1 hb.2;have e : uI7 (vEL q n x) (vCP q n x) x i (qv q.r.lo[i]!) (qv q.r.hi[i]!) = vGW q n x i := rfl;rw [e] at c1 c2 c3 c4 c5;generalize vGW q n x i = t at *
 have hx' : (x.set i t).length = n := by simp [hx]
 have hag : AgN (usQ q) (x.set i t) (phO q x) (usQ q).length := (zNO hx' (fun j hj => (hu.2.2 j hj).2) zHJ).1 fun j hj => c4 _ (List.mem_append_left _ (List.mem_map.2 ⟨j, List.mem_range.2 hj, rfl⟩))
 refine ⟨⟨by rw [hx', hn], fun k hk => ?_, fun k hk => ?_⟩, ?_, c3, c1, c2⟩
 ·rw [hx'] at hk
  by_cases e : k = i
  ·subst e
   have ek : (x.set k t)[k]! = t := by rw [getElem!_pos _ k (by rw [hx']; omega), List.getElem_set_self]
   rw [ek]; exact ⟨c1, c2⟩
  ·have := hin.2.1 k (by omega)
   have ek : (x.set i t)[k]! = x[k]! := by rw [getElem!_pos _ k (by rw [hx']; omega), List.getElem_set_ne (by omega), ← getElem!_pos x k (by omega)]
   rw [ek]; exact this
 ·exact c4 _ (List.mem_append_right _ (List.mem_map.2 ⟨_, by rw [getElem!_pos _ k hk]; exact List.getElem_mem _, rfl⟩))
 ·rw [← vGE h hn hx' (zHJ (q := q) (x := x)) hag]
  exact c5
end
theorem smQ.bnd {q : QryL} {kg : Nat} (h : smQ q kg) {i : Nat} (hi : i < q.r.lo.length) : sz 60 (qv q.r.lo[i]!) ∧ sz 60 (qv q.r.hi[i]!) ∧ qv q.r.lo[i]! ≤ qv q.r.hi[i]! ∧ q.r.lo[i]! = cr (qv q.r.lo[i]!) ∧ q.r.hi[i]! = cr (qv q.r.hi[i]!) := by
 have hb := h.va.2.1.2.2.2.2.1 i hi;have h1 := zBG h.r.1 hi;have h2 := zBG h.r.2.1 (i := i) (by have := h.va.2.1.2.1; have := h.va.2.1.2.2.1; omega);exact ⟨zES h1.1 h1.2.1 h1.2.2 (by decide), zES h2.1 h2.2.1 h2.2.2 (by decide), hb.2.2, hb.1, hb.2.1⟩
section
variable {q : QryL} {kg n : Nat} {x : List Rat}
theorem zK5 (h : smQ q kg) (hn : q.g.ins = (n : Int)) (hx : x.length = n) (hs : ∀ r ∈ x, sz 200 r) :
 (∀ j, j ≤ (usQ q).length → ∀ r ∈ vBC (usQ q) x j, sz 40000 r) ∧ ∀ j, j < (usQ q).length → sz 40000 (vCA (usQ q) x)[j]! :=
 ⟨fun j hj => uCE (h.us hn) hx hs hj, fun j hj => uG5 (h.us hn) hx hs hj⟩
theorem zF5 (h : smQ q kg) : (∀ f ∈ q.g.units, f.terms.length ≤ 7) ∧ (∀ f ∈ q.r.rows, f.terms.length ≤ 7) ∧ q.goal.terms.length ≤ 7 := by
 have key : ∀ (f : AffL) (m : Int), vBO f m → m ≤ 7 → f.terms.length ≤ 7 := fun f m hf hm => by
  have h1 := zCX hf;have h2 := zIV 7 h1.1.1 fun t ht => by have := h1.2 t ht; omega
  simpa [AffL.Q] using h2
 have h1 := h.ins;have h2 := h.un;refine ⟨fun f hf => ?_, fun f hf => ?_, key _ _ h.va.2.2 (by omega)⟩
 ·obtain ⟨j, hj, rfl⟩ := List.getElem_of_mem hf
  have := h.va.1.2.2.2.1 j hj;rw [getElem!_pos _ j hj] at this;exact key _ _ this (by omega)
 ·obtain ⟨j, hj, rfl⟩ := List.getElem_of_mem hf
  have := h.va.2.1.2.2.2.2.2 j hj;rw [getElem!_pos _ j hj] at this;exact key _ _ this (by omega)
theorem zIC (h : smQ q kg) (hn : q.g.ins = (n : Int)) (hx : x.length = n) : ∀ t ∈ q.goal.Q.ts, 0 ≤ t.1 ∧ t.1 < (vlQ q x).length := fun t ht => by
 have h1 := (zCX h.va.2.2).2 t ht;have hl : (vlQ q x).length = n + q.g.units.length := by unfold vlQ; rw [zC2 _ (Nat.le_refl _), hx, zCJ]
 omega
theorem vEX (h : smQ q kg) (hkg : kg ≤ 1000000) (hn : q.g.ins = (n : Int)) (hx : x.length = n) (hs : ∀ r ∈ x, sz 200 r) : sz 9000000 (vBX q x) := by
 have h1 := (zK5 h hn hx hs).1 _ (Nat.le_refl _);have ht := (zF5 h).2.2;have hq : q.goal.Q.ts.length ≤ 7 := by rw [zF4]; exact ht
 have h2 := zNR (k := 1000000) (kx := 40000) (f := q.goal.Q) (x := vlQ q x) (zB0 (zBZ hkg h.goal) (by decide)) h1 (zIC h hn hx);exact zBE (by have := Nat.mul_le_mul_right (1000000 + 40000 + 1) hq; omega) h2
end
noncomputable def vBY (q : QryL) (l : List (List Rat)) : Nat → Nat × Rat × Bool
 | 0 => (0, 0, false)
 | i + 1 => if dB (vDT q.r (l[i]!.map cr)) = true ∧ ((vBY q l i).2.2 = false ∨ vBX q l[i]! < (vBY q l i).2.1) then (i, vBX q l[i]!, true) else vBY q l i
theorem zIT (q : QryL) (l : List (List Rat)) : ∀ i, i ≤ l.length →
 ((vBY q l i).2.2 = true → (vBY q l i).1 < i ∧ vDT q.r (l[(vBY q l i).1]!.map cr) ∧ (vBY q l i).2.1 = vBX q l[(vBY q l i).1]! ∧ ∀ j, j < i → vDT q.r (l[j]!.map cr) → (vBY q l i).2.1 ≤ vBX q l[j]!) ∧
 ((vBY q l i).2.2 = false → (vBY q l i).1 = 0 ∧ (vBY q l i).2.1 = 0 ∧ ∀ j, j < i → ¬ vDT q.r (l[j]!.map cr))
 | 0, _ => ⟨fun h => absurd (show false = true from h) (by decide), fun _ => ⟨rfl, rfl, fun j hj => by omega⟩⟩
 | i + 1, hi => by
   obtain ⟨h1, h2⟩ := zIT q l i (by omega);unfold vBY
   split
   ·rename_i hc
    obtain ⟨c1, c2⟩ := hc;refine ⟨fun _ => ⟨Nat.lt_succ_self _, dB_true.1 c1, rfl, fun j hj hjc => ?_⟩, fun h => absurd (show true = false from h) (by decide)⟩;by_cases e : j = i
    ·subst e; exact Rat.le_refl
    ·rcases c2 with c2 | c2
     ·exact absurd hjc ((h2 c2).2.2 j (by omega))
     ·by_cases hb : (vBY q l i).2.2 = true
      ·exact Rat.le_trans (Rat.le_of_lt c2) ((h1 hb).2.2.2 j (by omega) hjc)
      ·exact absurd hjc ((h2 (by simpa using hb)).2.2 j (by omega))
   ·rename_i hc
    refine ⟨fun hb => ?_, fun hb => ?_⟩
    ·obtain ⟨a1, a2, a3, a4⟩ := h1 hb
     refine ⟨by omega, a2, a3, fun j hj hjc => ?_⟩;by_cases e : j = i
     ·subst e
      exact Rat.not_lt.1 fun hlt => hc ⟨dB_true.2 hjc, Or.inr hlt⟩
     ·exact a4 j (by omega) hjc
    ·obtain ⟨a1, a2, a3⟩ := h2 hb
     refine ⟨a1, a2, fun j hj hjc => ?_⟩;by_cases e : j = i
     ·subst e; exact hc ⟨dB_true.2 hjc, Or.inl hb⟩
     ·exact a3 j (by omega) hjc
def vEK (q : QryL) (x : List Rat) (i : Nat) : List (List Rat) := [x, x.set i (qv q.r.lo[i]!), x.set i (qv q.r.hi[i]!)]
noncomputable def vY1 (q : QryL) (x : List Rat) (i : Nat) : List Rat := (vEK q x i)[(vBY q (vEK q x i) 3).1]!
noncomputable def vEM (q : QryL) (x : List Rat) : Nat → List Rat
 | 0 => x
 | i + 1 => vY1 q (vEM q x i) i
noncomputable def vRI (q : QryL) (n : Nat) : Nat → List Rat → List Rat
 | 0, x => x
 | k + 1, x => if vEM q x n = x then x else vRI q n k (vEM q x n)
noncomputable def vBN (q : QryL) (m : Nat) : List (List Rat) := ceR q.r :: (List.range m).map fun b => coR q.r b
structure ptW (q : QryL) (n : Nat) (x : List Rat) : Prop where
 len : x.length = n
 sz : ∀ r ∈ x, sz 200 r
 con : vDT q.r (x.map cr)
section
variable {q : QryL} {kg n : Nat} {x : List Rat}
theorem vQ1 {k : Nat} {a : Rat} (hs : ∀ r ∈ x, sz k r) (ha : sz k a) (i : Nat) : ∀ r ∈ x.set i a, sz k r := fun r hr => by
 rcases List.mem_or_eq_of_mem_set hr with h | h
 ·exact hs r h
 ·rw [h]; exact ha
theorem uAP (h : smQ q kg) (hx : ∀ r ∈ x, sz 200 r) {i : Nat} (hi : i < q.r.lo.length) : ∀ y ∈ vEK q x i, y.length = x.length ∧ ∀ r ∈ y, sz 200 r := fun y hy => by
 obtain ⟨b1, b2, _⟩ := h.bnd hi;simp only [vEK, List.mem_cons, List.not_mem_nil, or_false] at hy;rcases hy with rfl | rfl | rfl
 ·exact ⟨rfl, hx⟩
 ·exact ⟨by simp, vQ1 hx (zBE (by decide) b1) i⟩
 ·exact ⟨by simp, vQ1 hx (zBE (by decide) b2) i⟩
theorem uBI (h : smQ q kg) (hp : ptW q n x) {i : Nat} (hi : i < q.r.lo.length) : ptW q n (vY1 q x i) ∧ vBX q (vY1 q x i) ≤ vBX q x ∧ (vBY q (vEK q x i) 3).2.2 = true ∧ (vBY q (vEK q x i) 3).1 < 3 := by
 obtain ⟨h1, h2⟩ := zIT q (vEK q x i) 3 (by simp [vEK])
 have hb : (vBY q (vEK q x i) 3).2.2 = true := by
  cases hb : (vBY q (vEK q x i) 3).2.2 with
  | true => rfl
  | false => exact absurd hp.con ((h2 hb).2.2 0 (by decide))
 obtain ⟨a1, a2, a3, a4⟩ := h1 hb
 have hm : vY1 q x i ∈ vEK q x i := by
  unfold vY1;rw [getElem!_pos _ _ (by simpa [vEK] using a1)]; exact List.getElem_mem _
 obtain ⟨t1, t2⟩ := uAP h hp.sz hi _ hm;refine ⟨⟨by rw [t1, hp.len], t2, a2⟩, ?_, hb, a1⟩;have := a4 0 (by decide) hp.con;rw [a3] at this;exact this
theorem vRA (h : smQ q kg) (hp : ptW q n x) : ∀ i, i ≤ q.r.lo.length → ptW q n (vEM q x i) ∧ vBX q (vEM q x i) ≤ vBX q x
 | 0, _ => ⟨hp, Rat.le_refl⟩
 | i + 1, hi => by
   obtain ⟨h1, h2⟩ := vRA h hp i (by omega);obtain ⟨h3, h4, _⟩ := uBI h h1 (i := i) (by omega);exact ⟨h3, Rat.le_trans h4 h2⟩
theorem uAZ (h : smQ q kg) (hn : q.r.lo.length = n) : ∀ (k : Nat) (x : List Rat), ptW q n x → ptW q n (vRI q n k x) ∧ vBX q (vRI q n k x) ≤ vBX q x
 | 0, x, hp => ⟨hp, Rat.le_refl⟩
 | k + 1, x, hp => by
   obtain ⟨h1, h2⟩ := vRA h hp n (by omega);unfold vRI
   split
   ·exact ⟨hp, Rat.le_refl⟩
   ·obtain ⟨h3, h4⟩ := uAZ h hn k _ h1
    exact ⟨h3, Rat.le_trans h4 h2⟩
end
def guA (l : List Int) (a n : Nat) : Nat → Nat
 | 0 => a
 | j + 1 => (vCG l (guA l a n j) (n + j)).2
def guI (l : List Int) (a n u : Nat) : List QF := (List.range u).map fun j => (vCG l (guA l a n j) (n + j)).1
theorem vIN {l : List Int} {a n : Nat} (h : a ≤ l.length) : ∀ j, guA l a n j ≤ l.length
 | 0 => h
 | j + 1 => (zGJ (vIN h j) (n + j)).2.2.2
theorem vKX (l : List Int) (a n u : Nat) : (guI l a n u).length = u := by simp [guI]
theorem vTU {l : List Int} {a n u j : Nat} (hj : j < u) : (guI l a n u)[j]! = (vCG l (guA l a n j) (n + j)).1 := by unfold guI; rw [zBV hj]
def gfN (l : List Int) (a : Nat) : Nat := 1 + nx1 l a 3
def gfU (l : List Int) (a : Nat) : Nat := nx1 l (nx2 l a) 5
def gfO (l : List Int) (a : Nat) : Nat := 1 + nx1 l (nx2 l (nx2 l a)) 3
def gfS (l : List Int) (a : Nat) : Nat := nx2 l (nx2 l (nx2 l a))
def gfM (l : List Int) (a : Nat) : Nat := guA l (gfS l a) (gfN l a) (gfU l a)
def gfE (l : List Int) (a : Nat) : Nat := rwA l (gfM l a) (gfN l a + gfU l a) (gfO l a)
def gfG (l : List Int) (a : Nat) : GraL := ⟨(gfN l a : Nat), (guI l (gfS l a) (gfN l a) (gfU l a)).map QF.L, (rwI l (gfM l a) (gfN l a + gfU l a) (gfO l a)).map QF.L⟩
theorem vMY {l : List Int} {a : Nat} (h : a ≤ l.length) : gfS l a ≤ l.length := zD8 (zD8 (zD8 h))
theorem vMZ {l : List Int} {a : Nat} (h : a ≤ l.length) : gfM l a ≤ l.length := vIN (vMY h) _
theorem vIP {l : List Int} {a : Nat} (h : a ≤ l.length) : gfE l a ≤ l.length := zLE (vMZ h) _
theorem vTV (l : List Int) (a : Nat) : gfN l a ≤ 3 ∧ 1 ≤ gfN l a ∧ gfU l a ≤ 4 ∧ gfO l a ≤ 3 ∧ 1 ≤ gfO l a := by
 have h1 := zG8 (l := l) (a := a) (n := 3) (by decide);have h2 := zG8 (l := l) (a := nx2 l a) (n := 5) (by decide);have h3 := zG8 (l := l) (a := nx2 l (nx2 l a)) (n := 3) (by decide);unfold gfN gfU gfO;omega
theorem uBK {l : List Int} {a : Nat} (h : a ≤ l.length) : VaG (gfG l a) ∧ vCE 40 (gfG l a) ∧ (gfG l a).units.length = gfU l a := by
 obtain ⟨g1, g2, g3, g4, g5⟩ := vTV l a;have e1 : (gfG l a).units.length = gfU l a := by simp [gfG, vKX]
 have e2 : (gfG l a).outs.length = gfO l a := by simp [gfG, rwI]
 refine ⟨⟨⟨by show (1 : Int) ≤ (gfN l a : Nat); omega, by show ((gfN l a : Nat) : Int) ≤ 256; omega⟩, by omega, ⟨by omega, by omega⟩, fun j hj => ?_, fun i hi => ?_⟩, ⟨⟨by omega, fun f hf => ?_⟩, ⟨by omega, fun f hf => ?_⟩⟩, e1⟩
 ·have hj' : j < gfU l a := by omega
  have e : (gfG l a).units[j]! = (vCG l (guA l (gfS l a) (gfN l a) j) (gfN l a + j)).1.L := by
   rw [getElem!_pos _ j hj];simp only [gfG, List.getElem_map];rw [← vTU hj', getElem!_pos _ j (by rw [vKX]; exact hj')]
  rw [e];have := (zGJ (vIN (n := gfN l a) (vMY h) j) (gfN l a + j)).1;exact zKG (by exact_mod_cast this)
 ·have hi' : i < gfO l a := by omega
  have e : (gfG l a).outs[i]! = (rwI l (gfM l a) (gfN l a + gfU l a) (gfO l a))[i]!.L := by
   rw [getElem!_pos _ i hi, getElem!_pos _ i (by simpa [rwI] using hi')];simp only [gfG, List.getElem_map]
  rw [e, e1]
  have hm : (rwI l (gfM l a) (gfN l a + gfU l a) (gfO l a))[i]! ∈ rwI l (gfM l a) (gfN l a + gfU l a) (gfO l a) := by
   rw [getElem!_pos _ i (by simpa [rwI] using hi')]; exact List.getElem_mem _
  have := (vQ6 (vMZ h) hm).1;exact zKG (by show okF ((gfN l a : Nat) + (gfU l a : Nat) : Int) _; exact_mod_cast this)
 ·obtain ⟨g, hg, rfl⟩ := List.mem_map.1 hf
  obtain ⟨j, hj, rfl⟩ := List.mem_map.1 hg;have hj := List.mem_range.1 hj;obtain ⟨_, k2, k3, _⟩ := zGJ (vIN (n := gfN l a) (vMY h) j) (gfN l a + j);exact vKR (zD7 (by omega) k2) (by omega)
 ·obtain ⟨g, hg, rfl⟩ := List.mem_map.1 hf
  obtain ⟨_, k2, k3⟩ := vQ6 (vMZ h) hg;exact vKR (zD7 (by omega) k2) (by omega)
def vCL (l : List Int) : QryL := ⟨gfG l 0, vDW l (gfE l 0) (gfN l 0), (vCG l (uCQ l (gfE l 0) (gfN l 0)) (gfN l 0 + gfU l 0)).1.L⟩
theorem vQY {l : List Int} {a m : Nat} (h : a ≤ l.length) : uCQ l a m ≤ l.length := zLE (zD8 (vJL h m)) _
theorem uEJ (l : List Int) : smQ (vCL l) 199 := by
 have h0 : 0 ≤ l.length := Nat.zero_le _;obtain ⟨g1, g2, g3⟩ := uBK h0;obtain ⟨n1, n2, n3, _⟩ := vTV l 0;obtain ⟨r1, r2, r3, r4, r5, r6⟩ := uAR (l := l) (vIP h0) (m := gfN l 0) n2 (by omega);obtain ⟨f1, f2, f3, f4⟩ := zGJ (vQY (m := gfN l 0) (vIP h0)) (gfN l 0 + gfU l 0);refine ⟨⟨g1, r1, ?_⟩, by show ((gfN l 0 : Nat) : Int) ≤ 3; omega, by show (gfG l 0).units.length ≤ 4; omega, by show (vDW l (gfE l 0) (gfN l 0)).rows.length ≤ 8; omega, ⟨⟨g2.1.1, fun f hf => zBZ (by decide) (g2.1.2 f hf)⟩, ⟨g2.2.1, fun f hf => zBZ (by decide) (g2.2.2 f hf)⟩⟩, zDV (by decide) r2, vKR (zD7 (by omega) f2) (by omega)⟩;refine zKG ?_;show okF ((gfN l 0 : Nat) + ((gfG l 0).units.length : Nat) : Int) _
 rw [g3]
 exact_mod_cast f1
theorem uIQ {lo hi t : Rat} (hl : sz 60 lo) (hh : sz 60 hi) (h1 : lo ≤ t) (h2 : t ≤ hi) (hd : t.den < pw 140) : sz 200 t := by
 have key : ∀ {a b : Rat}, 0 ≤ a → a ≤ b → sz 60 b → a.num.natAbs < pw 60 * a.den := fun {a b} ha hab hb => by
  have g1 := (Rat.le_iff _ _).1 hab;have g2 : 0 ≤ a.num := Rat.num_nonneg.2 ha;have g3 : 0 ≤ b.num := Rat.num_nonneg.2 (Rat.le_trans ha hab);have g4 := b.den_pos;have g5 := a.den_pos;have g6 := hb.1;have g7 : a.num * 1 ≤ a.num * b.den := Int.mul_le_mul_of_nonneg_left (by omega) g2;have g8 : a.num ≤ b.num * a.den := by omega
  have g9 : b.num.natAbs * a.den < pw 60 * a.den := (Nat.mul_lt_mul_right g5).2 g6
  have e : ((b.num.natAbs * a.den : Nat) : Int) = b.num * a.den := by
   rw [Int.natCast_mul]; congr 1; omega
  omega
 have fin : t.num.natAbs < pw 60 * t.den → sz 200 t := fun h => by
  have e : pw 200 = pw 60 * pw 140 := zLJ 60 140;refine ⟨?_, Nat.lt_of_lt_of_le hd (zD2 (by decide))⟩;rw [e];exact Nat.lt_of_lt_of_le h (Nat.mul_le_mul_left _ (Nat.le_of_lt hd))
 by_cases h0 : 0 ≤ t
 ·exact fin (key h0 h2 hh)
 ·have := key (a := -t) (b := -lo) (by grind) (by grind) (zJY hl)
  refine fin ?_
  simpa using this
noncomputable def vES (q : QryL) (n : Nat) (x : List Rat) : Nat → List Rat
 | 0 => x
 | i + 1 => (vES q n x i).set i (vGW q n (vES q n x i) i)
structure simP (q : QryL) (n : Nat) (x y : List Rat) : Prop where
 inp : inQ q y
 val : vBX q y < 0
 den : ∀ i, i < n → y[i]!.den ≤ x[i]!.den
theorem uAU {q : QryL} {kg n : Nat} {x : List Rat} (h : smQ q kg) (hn : q.g.ins = (n : Int)) (hin : inQ q x) (hv : vBX q x < 0) : ∀ i, i ≤ n → simP q n x (vES q n x i)
 | 0, _ => ⟨hin, hv, fun _ _ => Nat.le_refl _⟩
 | i + 1, hi => by
   obtain ⟨h1, h2, h3⟩ := uAU h hn hin hv i (by omega);obtain ⟨k1, k2, k3, _, _⟩ := vZJ h hn h1 h2 (i := i) (by omega);refine ⟨k1, k2, fun j hj => ?_⟩;have hl : (vES q n x i).length = n := by have := h1.1; omega
   unfold vES;by_cases e : j = i
   ·subst e
    have ek : ((vES q n x j).set j (vGW q n (vES q n x j) j))[j]! = vGW q n (vES q n x j) j := by rw [getElem!_pos _ j (by simpa using by omega), List.getElem_set_self]
    rw [ek];exact Nat.le_trans k3 (h3 j hj)
   ·have ek : ((vES q n x i).set i (vGW q n (vES q n x i) i))[j]! = (vES q n x i)[j]! := by
     rw [getElem!_pos _ j (by simpa using by omega), List.getElem_set_ne (by omega), ← getElem!_pos _ j (by omega)]
    rw [ek];exact h3 j hj
theorem uGO {q : QryL} {kg n : Nat} {x y : List Rat} (h : smQ q kg) (hn : q.g.ins = (n : Int)) (hp : simP q n x y) (hd : ∀ i, i < n → x[i]!.den < pw 140) : ∀ r ∈ y, sz 200 r := fun r hr => by
 obtain ⟨i, hi, rfl⟩ := List.getElem_of_mem hr;have hl : y.length = n := by have := hp.inp.1; omega
 have hlo : q.r.lo.length = n := by obtain ⟨m, e1, _, _, e2, _⟩ := h.n; omega
 obtain ⟨b1, b2, _⟩ := h.bnd (i := i) (by omega);have h1 := hp.inp.2.1 i hi;have h2 := hp.den i (by omega);have h3 := hd i (by omega);rw [getElem!_pos y i hi] at h1 h2;exact uIQ b1 b2 h1.1 h1.2 (Nat.lt_of_le_of_lt h2 h3)
theorem zMH {v : Int} : ∀ {l : List QT}, (∀ p ∈ l, p.1 ≠ v) → cf l v = 0
 | [], _ => rfl
 | p :: l, h => by
   rw [cf, if_neg (h p (by simp)), zMH fun q hq => h q (List.mem_cons_of_mem _ hq)];exact Rat.zero_add 0
theorem vZS {v : Int} : ∀ {l : List QT}, l.Pairwise (fun p q => p.1 < q.1) → ∀ {p : QT}, p ∈ l → p.1 = v → cf l v = p.2
 | [], _, p, hp, _ => by cases hp
 | q :: l, h, p, hp, e => by
   obtain ⟨h1, h2⟩ := List.pairwise_cons.1 h;rw [cf];rcases List.mem_cons.1 hp with rfl | hp
   ·rw [if_pos e, zMH fun r hr => by have := h1 r hr; omega]
    exact Rat.add_zero _
   ·have := h1 p hp
    rw [if_neg (by omega), vZS h2 hp e];exact Rat.zero_add _
theorem uCK {k : Nat} {b : Rat} (h0 : b ≠ 0) (h : sz k b) : sz k b⁻¹ := by
 have hn : b.num ≠ 0 := fun e => h0 (Rat.num_eq_zero.1 e)
 refine ⟨?_, ?_⟩
 ·rw [Rat.num_inv, Int.natAbs_mul, Int.natAbs_sign_of_ne_zero hn, Nat.one_mul]
  simpa using h.2
 ·rw [Rat.den_inv, if_neg hn]; exact h.1
theorem uGI {j k : Nat} {a b : Rat} (h0 : b ≠ 0) (ha : sz j a) (hb : sz k b) : sz (j + k) (a / b) := by
 rw [Rat.div_def]; exact zB6 ha (uCK h0 hb)
theorem vP3 {k : Nat} (hk : 1 ≤ k) : sz k (0 : Rat) := zBE hk (⟨by decide, by decide⟩ : sz 1 (0 : Rat))
theorem vK9 {k : Nat} (hk : 1 ≤ k) : ∀ {l : List QT} {v : Int}, l.Pairwise (fun p q => p.1 < q.1) → (∀ p ∈ l, sz k p.2) → sz k (cf l v) := fun {l v} hp hl => by
 by_cases h : ∃ p ∈ l, p.1 = v
 ·obtain ⟨p, h1, h2⟩ := h
  rw [vZS hp h1 h2]; exact hl p h1
 ·rw [zMH fun p hp e => h ⟨p, hp, e⟩]
  exact vP3 hk
structure szN (f : QF) (x : List Rat) (k : Nat) : Prop where
 ff : szF k f
 ok : okF x.length f
 len : f.ts.length ≤ 3
 xs : ∀ q ∈ x, sz 200 q
 xl : x.length ≤ 3
theorem szN.ev {f : QF} {x : List Rat} {k : Nat} (h : szN f x k) : sz (4 * k + 603) (evQ f x) := by
 have := zNR h.ff h.xs h.ok.2;exact zBE (by have := Nat.mul_le_mul_right (k + 200 + 1) h.len; omega) this
theorem vN1 {α : Type} [Inhabited α] {l : List α} {i : Nat} (h : i < l.length) : l[i]! ∈ l := by rw [getElem!_pos l i h]; exact List.getElem_mem h
theorem szN.zer {f : QF} {x : List Rat} {k : Nat} (h : szN f x k) (hk : 1 ≤ k) {i : Nat} (hi : i < x.length) (h0 : cf f.ts i ≠ 0) : sz (4 * k + 603 + k) (evQ f x / cf f.ts i) ∧ sz (5 * k + 804) (zer x i f) := by
 have h1 := uGI h0 h.ev (vK9 hk h.ok.1.1 h.ff.2);have h2 := vQL (h.xs _ (vN1 hi)) h1;exact ⟨h1, zBE (by omega) h2⟩
theorem szN.nar {f : QF} {x : List Rat} {k : Nat} (h : szN f x k) (hk : 1 ≤ k) (hk2 : k ≤ 2000000) {i : Nat} (hi : i < x.length) {b : Rat × Rat} (hb : sz 20000000 b.1 ∧ sz 20000000 b.2) : sz 20000000 (nar x i b f).1 ∧ sz 20000000 (nar x i b f).2 := by
 unfold Go.PI.nar
 split
 ·exact hb
 ·rename_i h0
  have hz := zBE (k := 20000000) (by omega) (h.zer hk hi h0).2
  split
  ·exact ⟨uAQ hb.1 hz, hb.2⟩
  ·exact ⟨hb.1, uGH hb.2 hz⟩
theorem vF7 {x : List Rat} {i : Nat} (hi : i < x.length) : ∀ (fs : List QF) (b : Rat × Rat), (∀ f ∈ fs, szN f x 40001) → sz 20000000 b.1 ∧ sz 20000000 b.2 → sz 20000000 (fs.foldl (nar x i) b).1 ∧ sz 20000000 (fs.foldl (nar x i) b).2
 | [], _, _, h => h
 | f :: fs, b, hf, h => vF7 hi fs _ (fun g hg => hf g (List.mem_cons_of_mem _ hg)) ((hf f (by simp)).nar (by decide) (by decide) hi h)
theorem vTQ {g : QF} {x : List Rat} {i : Nat} {e : Rat} (hi : i < x.length) (hx : ∀ q ∈ x, sz 200 q) (he : sz 20000000 e) : sz 20000300 (vCT g x i e) := by
 unfold vCT
 split
 ·exact zBE (by omega) (zB6 zK8 (zBY he (hx _ (vN1 hi))))
 ·exact zBE (by decide) he
section
variable {q : QryL} {kg n : Nat} {x : List Rat}
theorem smQ.nn (h : smQ q kg) (hn : q.g.ins = (n : Int)) : 1 ≤ n ∧ n ≤ 3 ∧ q.r.lo.length = n ∧ q.r.hi.length = n := by
 obtain ⟨m, e, h1, h2, h3, h4⟩ := h.n;have : m = n := by omega
 subst this; exact ⟨h1, h2, h3, h4⟩
theorem vW8 (h : smQ q kg) (hn : q.g.ins = (n : Int)) (hx : x.length = n) (hs : ∀ r ∈ x, sz 200 r) : ∀ f ∈ vEL q n x, szN f x 40001 := fun f hf => by
 obtain ⟨n1, n2, n3, n4⟩ := h.nn hn;rcases List.mem_append.1 hf with hf | hf
 ·obtain ⟨j, hj, rfl⟩ := List.mem_map.1 hf
  obtain ⟨r1, r2, r3⟩ := vJ5 h hn (phO q x) (List.mem_range.1 hj);exact ⟨r2, by rw [hx]; exact r1, by omega, hs, by omega⟩
 ·obtain ⟨a, ha, rfl⟩ := List.mem_map.1 hf
  obtain ⟨j, hj, rfl⟩ := List.getElem_of_mem ha;have h1 := zCX (h.va.2.1.2.2.2.2.2 j hj);rw [getElem!_pos _ j hj, hn] at h1;have h2 := h.r.2.2.1 _ ha;have h1' : okF (n : Nat) q.r.rows[j].Q := by exact_mod_cast h1
  have h3 := zIV n h1'.1.1 h1'.2;exact ⟨zB0 (zBZ (by decide) h2) (by decide), by rw [hx]; exact h1', by omega, hs, by omega⟩
theorem zKR (h : smQ q kg) (hkg : kg ≤ 200) (hn : q.g.ins = (n : Int)) (p : List Int) : okF n (vCF q n p) ∧ szF 40000 (vCF q n p) ∧ (vCF q n p).ts.length ≤ n := by
 have hu := h.us hn;have hg := zCX h.va.2.2;rw [hn] at hg;have hl := zBX (usQ q) n p (usQ q).length;obtain ⟨h1, h2, h3⟩ := zG4 (f := q.goal.Q) (k := 200) (zGI (p := p) hu _ (Nat.le_refl _)) (zB0 (zBZ hkg h.goal) (by decide)) (by rw [hl, zCJ]; exact_mod_cast hg);rw [hl] at h2;have hk := zGX (n := n) hu (j := (usQ q).length) (Nat.le_refl _);exact ⟨h1, zD7 (by omega) h2, h3⟩
theorem vY6 (h : smQ q kg) (hkg : kg ≤ 200) (hn : q.g.ins = (n : Int)) (p : List Int) : okF n (vA3 zeroQ (vCF q n p) (-1)) ∧ szF 40001 (vA3 zeroQ (vCF q n p) (-1)) ∧ (vA3 zeroQ (vCF q n p) (-1)).ts.length ≤ n := by
 obtain ⟨h1, h2, h3⟩ := zKR h hkg hn p
 have hok : okF n (vA3 zeroQ (vCF q n p) (-1)) := ⟨zCW zCD h1.1, fun t ht => by
  rcases zB9 _ _ _ _ (Nat.le_refl _) t ht with ⟨p, hp, e⟩ | ⟨p, hp, e⟩
  ·cases hp
  ·have := h1.2 p hp; omega⟩
 have h4 : (vA3 zeroQ (vCF q n p) (-1)).ts.length ≤ 0 + (vCF q n p).ts.length := zFE;exact ⟨hok, vTF h2 (by omega), by omega⟩
theorem vTX (h : smQ q kg) (hkg : kg ≤ 200) (hn : q.g.ins = (n : Int)) (hx : x.length = n) (hs : ∀ r ∈ x, sz 200 r) (p : List Int) : szN (vA3 zeroQ (vCF q n p) (-1)) x 40001 := by
 obtain ⟨n1, n2, n3, n4⟩ := h.nn hn;obtain ⟨h1, h2, h3⟩ := vY6 h hkg hn p;exact ⟨h2, by rw [hx]; exact h1, by omega, hs, by omega⟩
theorem uEC (h : smQ q kg) {i : Nat} (hi : i < q.r.lo.length) : sz 20000000 (qv q.r.lo[i]!) ∧ sz 20000000 (qv q.r.hi[i]!) := by
 obtain ⟨b1, b2, _⟩ := h.bnd hi;exact ⟨zBE (by decide) b1, zBE (by decide) b2⟩
end
theorem vW4 {b : Int} (h : 0 ≤ b ∧ b ≤ 63) : vCW .i64 b = 2 ^ b.toNat := by
 rw [zGQ]; unfold vD1;have : IntKind.bits .i64 = 64 := rfl;rw [this, show min b.toNat 64 = b.toNat by omega]
theorem vU5 (q : QryL) (m : Nat) : (vBN q m).length = 1 + m := by simp [vBN]; omega
theorem vPM (q : QryL) (m : Nat) : vBN q (m + 1) = vBN q m ++ [coR q.r m] := by
 unfold vBN; rw [List.range_succ, List.map_append]; rfl
section
variable {q : QryL} {kg n : Nat}
theorem vU2 (h : smQ q kg) (hn : q.g.ins = (n : Int)) (m : Nat) : ∀ y ∈ vBN q m, y.length = n ∧ ∀ r ∈ y, sz 200 r := fun y hy => by
 obtain ⟨n1, n2, n3, n4⟩ := h.nn hn;have hva : VaO q.r := vHC h.va.2.1;rcases List.mem_cons.1 hy with rfl | hy
 ·unfold ceR
  rw [if_pos hva];refine ⟨by simp; omega, fun r hr => ?_⟩;obtain ⟨⟨a, b⟩, hp, rfl⟩ := List.mem_map.1 hr;obtain ⟨i, hi, e⟩ := List.getElem_of_mem hp;have hi2 : i < q.r.lo.length := by simp at hi; omega
  obtain ⟨b1, b2, _⟩ := h.bnd hi2;rw [List.getElem_zip, List.getElem_map, List.getElem_map] at e;rw [getElem!_pos q.r.lo i hi2] at b1;rw [getElem!_pos q.r.hi i (by omega)] at b2;cases e
  exact zBE (by decide) (zB6 zK8 (zBY b1 b2))
 ·obtain ⟨b, _, rfl⟩ := List.mem_map.1 hy
  unfold coR;rw [if_pos hva];refine ⟨by simp [n3], fun r hr => ?_⟩;obtain ⟨i, hi, rfl⟩ := List.mem_map.1 hr;have hi2 : i < q.r.lo.length := List.mem_range.1 hi;obtain ⟨b1, b2, _⟩ := h.bnd hi2
  split
  ·exact zBE (by decide) b2
  ·exact zBE (by decide) b1
theorem vU4 (h : smQ q kg) (hn : q.g.ins = (n : Int)) {m : Nat} (hb : (vBY q (vBN q m) (vBN q m).length).2.2 = true) : (vBY q (vBN q m) (vBN q m).length).1 < (vBN q m).length ∧ ptW q n (vBN q m)[(vBY q (vBN q m) (vBN q m).length).1]! := by
 obtain ⟨a1, a2, a3, a4⟩ := (zIT q (vBN q m) _ (Nat.le_refl _)).1 hb;obtain ⟨c1, c2⟩ := vU2 h hn m _ (vN1 a1);exact ⟨a1, c1, c2, a2⟩
end
instance dec_okBd (r : RegL) (i : Nat) : Decidable (uD4 r i) := by unfold uD4; exact inferInstance
instance dec_VaR (r : RegL) (n : Int) : Decidable (VaR r n) := by unfold VaR; exact inferInstance
instance dec_VaQ (q : QryL) : Decidable (VaQ q) := by unfold VaQ; exact inferInstance
instance dec_RatZ (r : RatL) : Decidable (uJZ r) := by unfold uJZ; exact inferInstance
instance dec_CanR (r : RatL) : Decidable (uJB r) := by unfold uJB; exact inferInstance
instance dec_fitD (q : QryL) (d : DecL) : Decidable (uKC q d) := by unfold uKC; exact inferInstance
instance dec_lessR (a b : RowL) : Decidable (uEF a b) := by unfold uEF; exact inferInstance
instance dec_okM1 (S : ScpL) (l : List MultL) (k : Nat) : Decidable (uJM S l k) := by unfold uJM; exact inferInstance
instance dec_okM (S : ScpL) (l : List MultL) (i : Nat) : Decidable (okM S l i) := by unfold okM; exact inferInstance
instance dec_prvP (S : ScpL) (f : QF) (l : List MultL) : Decidable (uJ4 S f l) := by unfold uJ4; exact inferInstance
def unW : QF := ⟨[(0, 1)], -1⟩
def goW : QF := ⟨[(1, -1)], vB2⟩
def qW : QryL := ⟨⟨1, [unW.L], [unW.L]⟩, ⟨[cr 0], [cr 3], []⟩, goW.L⟩
def vCC : Rat := mkRat 8 5
theorem qW_ok : smQ qW 199 := by
 have h1 : szF 2 unW := ⟨sz1 (-1) (by decide), fun p hp => by rw [List.mem_singleton.1 hp]; exact sz1 1 (by decide)⟩;have h2 : szF 2 goW := ⟨zBE (by decide) zK8, fun p hp => by rw [List.mem_singleton.1 hp]; exact sz1 (-1) (by decide)⟩;have a1 := zEI (sz1 0 (by decide));have a2 := zEI (sz1 3 (by decide));refine ⟨by decide +kernel, by decide, by decide, by decide, ⟨⟨by decide, fun f hf => ?_⟩, ⟨by decide, fun f hf => ?_⟩⟩, ⟨⟨by decide, fun x hx => ?_⟩, ⟨by decide, fun x hx => ?_⟩, (fun f hf => by cases hf), by decide⟩, ?_⟩
 ·rw [List.mem_singleton.1 hf]; exact zBZ (by decide) (vKR h1 (by decide))
 ·rw [List.mem_singleton.1 hf]; exact zBZ (by decide) (vKR h1 (by decide))
 ·rw [List.mem_singleton.1 hx]; exact zLW (by decide) a1
 ·rw [List.mem_singleton.1 hx]; exact zLW (by decide) a2
 ·exact zBZ (by decide) (vKR h2 (by decide))
theorem usW : usQ qW = [unW] := by
 show [unW.L.Q] = [unW]
 rw [Q_L]
theorem vTW : qW.goal.Q = goW := Q_L goW
theorem vHJ (x : List Rat) : vBX qW x = evQ goW (vBC [unW] x 1) := by
 unfold vBX vlQ; rw [usW, vTW]; rfl
theorem uG4 (a : Rat) (h : sz 2 a) : ∀ r ∈ [a], sz 200 r := fun r hr => by rw [List.mem_singleton.1 hr]; exact zBE (by decide) h
theorem zJ9 (a : Rat) (h : 0 ≤ a ∧ a ≤ 3) : vDT qW.r ([a].map cr) := by
 refine ⟨vHC qW_ok.va.2.1, rfl, fun i hi => ?_, fun i hi => absurd hi (by show ¬ i < 0; omega)⟩;have hi : i = 0 := by have : i < 1 := hi; omega
 subst hi;show qv (cr 0) ≤ qv (cr a) ∧ qv (cr a) ≤ qv (cr 3)
 rw [zAQ, zAQ, zAQ]; exact h
theorem uH7 : vGW qW 1 [vCC] 0 = 2 := by
 have hp : phO qW [vCC] = [1] := by unfold phO; rw [usW]; decide +kernel
 have e1 : vEL qW 1 [vCC] = [vJP [unW] 1 [1] 0] := by unfold vEL vCK; rw [hp, usW]; rfl
 have e2 : vCP qW 1 [vCC] = vBE goW (vBH [unW] 1 [1] 1) := by unfold vCP vCF; rw [hp, usW, vTW]; rfl
 unfold vGW;rw [e1, e2, show qv qW.r.lo[0]! = 0 from zAQ 0, show qv qW.r.hi[0]! = 3 from zAQ 3]
 decide +kernel
theorem uGP : vES qW 1 [vCC] 1 = [2] := by
 show [vCC].set 0 (vGW qW 1 [vCC] 0) = [2]
 rw [uH7]; rfl
theorem v85 : vBX qW [vCC] < 0 := by rw [vHJ]; decide +kernel
theorem v1 : ¬ vBX qW [1] < 0 := by rw [vHJ]; decide +kernel
theorem v3 : vBX qW [3] = mkRat (-3) 2 := by rw [vHJ]; decide +kernel
theorem v0 : vBX qW [0] = vB2 := by rw [vHJ]; decide +kernel
theorem v32 : vBX qW [mkRat 3 2] = 0 := by rw [vHJ]; decide +kernel
theorem vU3 : vBN qW 2 = [[mkRat 3 2], [0], [3]] := by
 have hva : VaO qW.r := vHC qW_ok.va.2.1
 have e1 : ceR qW.r = [mkRat 3 2] := by
  unfold ceR; rw [if_pos hva];show [vB2 * (qv (cr 0) + qv (cr 3))] = _
  rw [zAQ, zAQ]; decide +kernel
 have e2 : coR qW.r 0 = [0] := by
  unfold coR; rw [if_pos hva];show [qv (if vG6 0 0 then cr 3 else cr 0)] = _
  rw [if_neg (by decide), zAQ]
 have e3 : coR qW.r 1 = [3] := by
  unfold coR; rw [if_pos hva];show [qv (if vG6 1 0 then cr 3 else cr 0)] = _
  rw [if_pos (by decide), zAQ]
 show [ceR qW.r, coR qW.r 0, coR qW.r 1] = _
 rw [e1, e2, e3]
theorem zJS {q : QryL} {l : List (List Rat)} {i I : Nat} {L : Rat} {F : Bool} {v : Rat} (hb : vBY q l i = (I, L, F)) (hc : vDT q.r (l[i]!.map cr)) (hv : vBX q l[i]! = v) : vBY q l (i + 1) = if F = false ∨ v < L then (i, v, true) else (I, L, F) := by
 unfold vBY;rw [hb, hv];by_cases h : F = false ∨ v < L
 ·rw [if_pos ⟨dB_true.2 hc, h⟩, if_pos h]
 ·rw [if_neg (fun e => h e.2), if_neg h]
theorem uB0 : vBY qW (vBN qW 2) (vBN qW 2).length = (2, mkRat (-3) 2, true) := by
 rw [vU3];have h0 : vBY qW [[mkRat 3 2], [0], [3]] 0 = (0, 0, false) := rfl;have h1 := zJS h0 (zJ9 (mkRat 3 2) (by decide +kernel)) v32;rw [if_pos (Or.inl rfl)] at h1;have h2 := zJS h1 (zJ9 0 (by decide +kernel)) v0;rw [if_neg (by decide +kernel)] at h2;have h3 := zJS h2 (zJ9 3 (by decide +kernel)) v3;rw [if_pos (by decide +kernel)] at h3;exact h3
theorem uGE : vBY qW (vEK qW [3] 0) 3 = (0, mkRat (-3) 2, true) := by
 have e : vEK qW [3] 0 = [[3], [0], [3]] := by
  show [[3], [3].set 0 (qv (cr 0)), [3].set 0 (qv (cr 3))] = _
  rw [zAQ, zAQ]; rfl
 rw [e];have h0 : vBY qW [[3], [0], [3]] 0 = (0, 0, false) := rfl;have h1 := zJS h0 (zJ9 3 (by decide +kernel)) v3;rw [if_pos (Or.inl rfl)] at h1;have h2 := zJS h1 (zJ9 0 (by decide +kernel)) v0;rw [if_neg (by decide +kernel)] at h2;have h3 := zJS h2 (zJ9 3 (by decide +kernel)) v3;rw [if_neg (by decide +kernel)] at h3;exact h3
theorem uG0 (k : Nat) : vRI qW 1 k [3] = [3] := by
 have hr : vEM qW [3] 1 = [3] := by
  show vY1 qW [3] 0 = [3]
  unfold vY1; rw [uGE]; rfl
 cases k with
 | zero => rfl
 | succ k => unfold vRI; rw [if_pos hr]
theorem uHV (l m : List Int) : (vY0 (vCL l).r m).length = (vCL l).r.lo.length ∧ ∀ r ∈ vY0 (vCL l).r m, sz 93 r := by
 obtain ⟨n1, n2, n3, _⟩ := vTV l 0;obtain ⟨r1, r2, r3, r4, r5, r6⟩ := uAR (l := l) (vIP (Nat.zero_le _)) (m := gfN l 0) n2 (by omega);refine ⟨uEI _ _, fun r hr => ?_⟩;obtain ⟨i, hi, rfl⟩ := List.mem_map.1 hr;have hi : i < (vDW l (gfE l 0) (gfN l 0)).lo.length := List.mem_range.1 hi;have h1 := zBG r2.1 hi;have h2 := zBG r2.2.1 (i := i) (by omega);have s1 := zES h1.1 h1.2.1 h1.2.2 (by decide);have s2 := zES h2.1 h2.2.1 h2.2.2 (by decide);exact zBE (by decide) (zBY s1 (zB6 (vQM m i) (vQL s2 s1)))
theorem vWQ {q : QryL} {n : Nat} {x : List Rat} (h : smQ q 199) (hn : q.g.ins = (n : Int)) (hx : x.length = n) (hs : ∀ r ∈ x, sz 200 r) : sz 281599 (vBX q x) := by
 have h1 := (zK5 h hn hx hs).1 _ (Nat.le_refl _);have ht := (zF5 h).2.2;have hq : q.goal.Q.ts.length ≤ 7 := by rw [zF4]; exact ht
 have h2 := zNR (k := 199) (kx := 40000) (f := q.goal.Q) (x := vlQ q x) (zB0 h.goal (by decide)) h1 (zIC h hn hx);exact zBE (by have := Nat.mul_le_mul_right (199 + 40000 + 1) hq; omega) h2
structure FR where
 c : List Int
 fm : Nat
 deriving Inhabited
def encI (c : List Int) : PV := .imm (c.map (.int .i64))
def vCH (r : FR) : PV := .agg [.imm (r.c.map (.int .i64)), .int .u64 r.fm]
def okG (x : Int) : Prop := -1073741824 ≤ x ∧ x ≤ 1073741824
instance (x : Int) : Decidable (okG x) := by unfold okG; exact inferInstance
def gcI (c : List Int) (i : Nat) : Nat := (c.take i).foldl (fun d x => Nat.gcd x.natAbs d) 0
def gcD (c : List Int) : Nat := gcI c c.length
theorem vGI {c : List Int} {i : Nat} (h : i < c.length) : gcI c (i + 1) = Nat.gcd c[i]!.natAbs (gcI c i) := by
 unfold gcI;rw [List.take_succ_eq_append_getElem h, List.foldl_append, getElem!_pos c i h]; rfl
theorem vT1 (c : List Int) : ∀ i, i ≤ c.length → ∀ j, j < i → gcI c i ∣ c[j]!.natAbs
 | 0, _, j, hj => by omega
 | i + 1, hi, j, hj => by
   rw [vGI (by omega)];by_cases e : j = i
   ·subst e; exact Nat.gcd_dvd_left _ _
   ·exact Nat.dvd_trans (Nat.gcd_dvd_right _ _) (vT1 c i (by omega) j (by omega))
theorem vT0 {c : List Int} {B : Nat} (hB : ∀ x ∈ c, x.natAbs ≤ B) : ∀ i, i ≤ c.length → gcI c i ≤ B
 | 0, _ => Nat.zero_le _
 | i + 1, hi => by
   rw [vGI (by omega)];have h1 := hB c[i]! (by rw [getElem!_pos c i (by omega)]; exact List.getElem_mem _);have h2 := vT0 hB i (by omega);by_cases h0 : c[i]!.natAbs = 0
   ·rw [h0, Nat.gcd_zero_left]; exact h2
   ·exact Nat.le_trans (Nat.gcd_le_left _ (by omega)) h1
def vEV (d : Nat) (x : Int) : Int := if 1 < d then x.tdiv d else x
theorem uEX {d : Nat} {x : Int} {B : Int} (h : -B ≤ x ∧ x ≤ B) : -B ≤ vEV d x ∧ vEV d x ≤ B := by
 unfold vEV
 split
 ·have h1 := Int.natAbs_tdiv_le_natAbs x d
  have h2 : (x.tdiv d).natAbs ≤ x.natAbs := h1;omega
 ·exact h
theorem vZE {d : Nat} {x : Int} (h : d ∣ x.natAbs) : ∃ e : Int, 0 < e ∧ vEV d x * e = x ∧ e = if 1 < d then (d : Int) else 1 := by
 unfold vEV;by_cases h1 : 1 < d
 ·rw [if_pos h1, if_pos h1]
  refine ⟨d, by omega, ?_, rfl⟩;exact Int.tdiv_mul_cancel (Int.ofNat_dvd_left.2 h)
 ·rw [if_neg h1, if_neg h1]
  exact ⟨1, by decide, by omega, rfl⟩
def vFL (d : Nat) : List Int → Nat
 | [] => 0
 | x :: l => if okG (vEV d x) then 1 + vFL d l else 0
theorem vRD (d : Nat) : ∀ l : List Int, vFL d l ≤ l.length
 | [] => Nat.le_refl _
 | x :: l => by unfold vFL; split; have := vRD d l; simp only [List.length_cons]; omega; exact Nat.zero_le _
theorem vJ7 (d : Nat) : ∀ (l : List Int) (i : Nat), i < vFL d l → okG (vEV d l[i]!)
 | [], i, h => by simp [vFL] at h
 | x :: l, i, h => by
   unfold vFL at h
   split at h
   ·cases i with
    | zero => assumption
    | succ i =>
      have : i < vFL d l := by omega
      simpa using vJ7 d l i this
   ·omega
theorem vRE (d : Nat) : ∀ (l : List Int), vFL d l < l.length → ¬ okG (vEV d l[vFL d l]!)
 | [], h => by simp at h
 | x :: l, h => by
   unfold vFL at h ⊢
   split at h
   ·rename_i hx
    rw [if_pos hx, Nat.add_comm 1];have : vFL d l < l.length := by simp only [List.length_cons] at h; omega
    simpa using vRE d l this
   ·rename_i hx
    rw [if_neg hx]; simpa using hx
def vDX (c : List Int) (i : Nat) : List Int := (c.take i).map (vEV (gcD c)) ++ c.drop i
theorem zFT (c : List Int) {i : Nat} (h : i ≤ c.length) : (vDX c i).length = c.length := by simp [vDX]; omega
theorem vRF (c : List Int) : vDX c 0 = c := by simp [vDX]
theorem vL4 {c : List Int} {i : Nat} (h : i < c.length) : (vDX c i)[i]! = c[i]! := by
 have h1 : i < (vDX c i).length := by rw [zFT c (by omega)]; exact h
 rw [getElem!_pos _ i h1, getElem!_pos c i h];simp only [vDX];rw [List.getElem_append_right (by simp; omega)];simp only [List.length_map, List.length_take, List.getElem_drop]
 congr 1; omega
theorem vFM {c : List Int} {i : Nat} (h : i < c.length) : (vDX c i).set i (vEV (gcD c) c[i]!) = vDX c (i + 1) := by
 refine List.ext_getElem (by simp [vDX]; omega) fun j h1 h2 => ?_
 have hj : j < c.length := by rw [zFT c (by omega)] at h2; exact h2
 by_cases e : j = i
 ·subst e
  rw [List.getElem_set_self];simp only [vDX];rw [List.getElem_append_left (by simp; omega)];simp [getElem!_pos c j hj]
 ·rw [List.getElem_set_ne (by omega)]
  simp only [vDX];by_cases e2 : j < i
  ·rw [List.getElem_append_left (by simp; omega), List.getElem_append_left (by simp; omega)]
   simp
  ·rw [List.getElem_append_right (by simp; omega), List.getElem_append_right (by simp; omega)]
   simp only [List.length_map, List.length_take, List.getElem_drop]
   congr 1; omega
theorem uC0 {c : List Int} {i : Nat} (h : i < c.length) : (vDX c (i + 1))[i]! = vEV (gcD c) c[i]! := by
 rw [← vFM h];have h1 : i < (vDX c i).length := by rw [zFT c (by omega)]; exact h
 rw [getElem!_pos _ i (by simpa using h1), List.getElem_set_self]
def vH0 (c : List Int) : Bool := decide (vFL (gcD c) c = c.length)
def vD4 (c : List Int) : List Int := vDX c (min (vFL (gcD c) c + 1) c.length)
theorem zKJ (c : List Int) : (vD4 c).length = c.length := zFT c (Nat.min_le_right _ _)
theorem vJ6 {c : List Int} (h : vH0 c = true) : vD4 c = c.map (vEV (gcD c)) ∧ ∀ x ∈ vD4 c, okG x := by
 have hk : vFL (gcD c) c = c.length := of_decide_eq_true h
 have e : vD4 c = c.map (vEV (gcD c)) := by
  unfold vD4;rw [hk, Nat.min_eq_right (by omega)]; simp [vDX]
 refine ⟨e, fun x hx => ?_⟩;rw [e] at hx;obtain ⟨y, hy, rfl⟩ := List.mem_map.1 hx;obtain ⟨j, hj, rfl⟩ := List.getElem_of_mem hy;have := vJ7 (gcD c) c j (by omega)
 rwa [getElem!_pos c j hj] at this
theorem vFK {c : List Int} (h : vH0 c = true) : ∃ e : Int, 0 < e ∧ ∀ i, i < c.length → (vD4 c)[i]! * e = c[i]! := by
 obtain ⟨h1, _⟩ := vJ6 h;refine ⟨if 1 < gcD c then (gcD c : Int) else 1, by split <;> omega, fun i hi => ?_⟩;rw [h1, getElem!_pos _ i (by simpa using hi), List.getElem_map, getElem!_pos c i hi];obtain ⟨e, e1, e2, e3⟩ := vZE (d := gcD c) (x := c[i]) (by have := vT1 c c.length (Nat.le_refl _) i hi; rwa [getElem!_pos c i hi] at this);rw [← e3]; exact e2
def vEQ : Nat → Nat → Nat
 | 0, _ => 0
 | k + 1, x => if x = 0 then 0 else x % 2 + vEQ k (x / 2)
def vV7 (x : Nat) : Nat := vEQ 64 x
theorem vG5 : ∀ k x, vEQ k x ≤ k
 | 0, _ => Nat.le_refl _
 | k + 1, x => by unfold vEQ; split; omega; have := vG5 k (x / 2); omega
theorem uAG {a b : Nat} (ha : a < 18446744073709551616) (hb : b < 18446744073709551616) : vDJ .or .u64 (a : Int) (b : Int) = ((a ||| b : Nat) : Int) := by
 rw [zDL]; unfold vC1;dsimp only;have e : ∀ n : Nat, n < 18446744073709551616 → (BitVec.ofInt (IntKind.bits .u64) (n : Int)).toNat = n := fun n hn => by rw [zEJ]; exact Nat.mod_eq_of_lt (by show _ < 2 ^ 64; omega)
 rw [BitVec.toNat_or, e a ha, e b hb];have : a ||| b < 2 ^ 64 := Nat.or_lt_two_pow (by omega) (by omega)
 exact uCB (by omega) (by omega)
def smN (xs : List Int) : Int × Bool := if xs = [] then (0, true) else (xs[0]!, decide (xs.length = 1 ∧ xs[0]! ≤ 1073741824))
theorem vLU (n : Nat) : ((smN (vA4 n)).2 = true ↔ n ≤ 1073741824) ∧ (n ≤ 1073741824 → (smN (vA4 n)).1 = n) := by
 have hv := zAO n;unfold smN;by_cases h0 : vA4 n = []
 ·rw [if_pos h0]
  rw [h0] at hv;have : n = 0 := hv.symm;subst this;exact ⟨⟨fun _ => by omega, fun _ => rfl⟩, fun _ => rfl⟩
 ·rw [if_neg h0]
  have hl := List.length_pos_iff.2 h0
  have one : (vA4 n).length = 1 → (vA4 n)[0]! = (n : Int) := fun h1 => by
   obtain ⟨a, ha⟩ := List.length_eq_one_iff.1 h1;have hok := zAM n a (by rw [ha]; simp);rw [ha] at hv ⊢;have : nv [a] = a.toNat := by simp [nv]
   show a = _
   omega
  refine ⟨⟨fun h => ?_, fun h => ?_⟩, fun h => ?_⟩
  ·obtain ⟨h1, h2⟩ := of_decide_eq_true h
   rw [one h1] at h2; omega
  ·have h1 : (vA4 n).length ≤ 1 := zBD (Nat.lt_of_le_of_lt h (by decide))
   exact decide_eq_true ⟨by omega, by rw [one (by omega)]; omega⟩
  ·have h1 : (vA4 n).length ≤ 1 := zBD (Nat.lt_of_le_of_lt h (by decide))
   exact one (by omega)
def okX (q : Rat) : Prop := q.num.natAbs ≤ 1073741824 ∧ q.den ≤ 1073741824
instance (q : Rat) : Decidable (okX q) := by unfold okX; exact inferInstance
theorem uGL (q : Rat) : ((smN (cr q).num).2 = true ↔ q.num.natAbs ≤ 1073741824) ∧ (q.num.natAbs ≤ 1073741824 → (smN (cr q).num).1 = (q.num.natAbs : Int)) := vLU _
theorem uGM (q : Rat) : ((smN (cr q).den).2 = true ↔ q.den ≤ 1073741824) ∧ (q.den ≤ 1073741824 → (if 1 > (smN (cr q).den).1 then 1 else (smN (cr q).den).1) = (q.den : Int)) := by
 have hp := q.den_pos;have e : (cr q).den = if q.den = 1 then [] else vA4 q.den := by unfold cr; rfl
 rw [e];by_cases h1 : q.den = 1
 ·rw [if_pos h1]
  refine ⟨⟨fun _ => by omega, fun _ => rfl⟩, fun _ => ?_⟩;show (if (1 : Int) > 0 then 1 else 0) = _
  rw [if_pos (by decide), h1]; rfl
 ·rw [if_neg h1]
  obtain ⟨s1, s2⟩ := vLU q.den;refine ⟨s1, fun h => ?_⟩;rw [s2 h, if_neg (by omega)]
theorem uIA (q : Rat) : (cr q).neg = decide (q.num < 0) := rfl
def frX (f : QF) (vars : Nat) : List Rat := (List.range (vars + 1)).map fun i => if i < vars then cf f.ts i else f.c
theorem vGL (f : QF) (vars : Nat) : (frX f vars).length = vars + 1 := by simp [frX]
theorem vK0 {f : QF} {vars i : Nat} (h : i < vars + 1) : (frX f vars)[i]! = if i < vars then cf f.ts i else f.c := by
 rw [getElem!_pos _ i (by rw [vGL]; exact h)]; simp [frX]
def uHH (xs : List Rat) : Prop := ∀ i, i < xs.length → okX xs[i]!
def nuI (xs : List Rat) (i : Nat) : List Int := (List.range xs.length).map fun j => if j < i then xs[j]!.num else 0
def deI (xs : List Rat) (i : Nat) : List Int := (List.range xs.length).map fun j => if j < i then (xs[j]!.den : Int) else 0
theorem vTB (xs : List Rat) (i : Nat) : (nuI xs i).length = xs.length := by simp [nuI]
theorem vGU (xs : List Rat) (i : Nat) : (deI xs i).length = xs.length := by simp [deI]
theorem vGA {α : Type} (n : Nat) (f : Nat → α) (z : α) {i : Nat} (h : i < n) : ((List.range n).map fun j => if j < i then f j else z).set i (f i) = (List.range n).map fun j => if j < i + 1 then f j else z := by
 refine List.ext_getElem (by simp) fun j h1 h2 => ?_
 by_cases e : j = i
 ·subst e; simp
 ·rw [List.getElem_set_ne (by omega)]
  simp only [List.getElem_map, List.getElem_range];by_cases e2 : j < i
  ·simp only [if_pos e2, if_pos (show j < i + 1 by omega)]
  ·simp only [if_neg e2, if_neg (show ¬ j < i + 1 by omega)]
theorem uD6 {xs : List Rat} {i : Nat} (h : i < xs.length) : (nuI xs i).set i xs[i]!.num = nuI xs (i + 1) := vGA _ (fun j => xs[j]!.num) 0 h
theorem uEZ {xs : List Rat} {i : Nat} (h : i < xs.length) : (deI xs i).set i (xs[i]!.den : Int) = deI xs (i + 1) := vGA _ (fun j => (xs[j]!.den : Int)) 0 h
theorem zLY {α : Type} (n : Nat) (f : Nat → α) (z : α) : ((List.range n).map fun j => if j < 0 then f j else z) = List.replicate n z := by
 refine List.ext_getElem (by simp) fun j h1 h2 => by simp
theorem vUT {xs : List Rat} {j : Nat} (h : j < xs.length) : (deI xs xs.length)[j]! = (xs[j]!.den : Int) := by
 rw [getElem!_pos _ j (by rw [vGU]; exact h)]; simp [deI, h]
def laI (xs : List Rat) : Nat → Nat
 | 0 => 1
 | i + 1 => laI xs i / Nat.gcd (laI xs i) xs[i]!.den * xs[i]!.den
theorem vKW (xs : List Rat) : ∀ i, 0 < laI xs i
 | 0 => Nat.one_pos
 | i + 1 => by
   have h1 := vKW xs i;have h2 := xs[i]!.den_pos;have h3 : 0 < Nat.gcd (laI xs i) xs[i]!.den := Nat.gcd_pos_of_pos_left _ h1;exact Nat.mul_pos (Nat.div_pos (Nat.gcd_le_left _ h1) h3) h2
theorem vTN (xs : List Rat) : ∀ i j, j < i → xs[j]!.den ∣ laI xs i
 | 0, j, h => by omega
 | i + 1, j, h => by
   show _ ∣ laI xs i / Nat.gcd (laI xs i) xs[i]!.den * xs[i]!.den
   by_cases e : j = i
   ·subst e; exact Nat.dvd_mul_left _ _
   ·have h1 := vTN xs i j (by omega)
    have h2 : laI xs i ∣ laI xs i / Nat.gcd (laI xs i) xs[i]!.den * xs[i]!.den := by
     have := Nat.dvd_lcm_left (laI xs i) xs[i]!.den;rw [Nat.lcm, Nat.mul_comm, Nat.mul_div_assoc _ (Nat.gcd_dvd_left _ _), Nat.mul_comm] at this;exact this
    exact Nat.dvd_trans h1 h2
theorem uHR (xs : List Rat) (i : Nat) : laI xs (i + 1) ≤ laI xs i * xs[i]!.den := Nat.mul_le_mul_right _ (Nat.div_le_self _ _)
def uF4 (xs : List Rat) (n : Nat) : Prop := ∀ i, i < n → laI xs (i + 1) ≤ 1073741824
theorem vTM {xs : List Rat} {n : Nat} (h : uF4 xs n) : laI xs n ≤ 1073741824 := by
 cases n with
 | zero => exact (by decide : 1 ≤ 1073741824)
 | succ n => exact h n (Nat.lt_succ_self _)
def meI (xs : List Rat) (i : Nat) : List Int := (List.range xs.length).map fun j => if j < i then xs[j]!.num * ((laI xs xs.length / xs[j]!.den : Nat) : Int) else xs[j]!.num
theorem zJJ (xs : List Rat) (i : Nat) : (meI xs i).length = xs.length := by simp [meI]
theorem vYV (xs : List Rat) : meI xs 0 = nuI xs xs.length := by
 refine List.ext_getElem (by simp [meI, nuI]) fun j h1 h2 => ?_
 have : j < xs.length := by simpa [meI] using h1
 simp [meI, nuI, this]
theorem uEB {xs : List Rat} {i : Nat} (h : i < xs.length) : (meI xs i)[i]! = xs[i]!.num := by
 rw [getElem!_pos _ i (by rw [zJJ]; exact h)]; simp [meI]
theorem uEA {xs : List Rat} {i : Nat} (h : i < xs.length) : (meI xs i).set i (xs[i]!.num * ((laI xs xs.length / xs[i]!.den : Nat) : Int)) = meI xs (i + 1) := by
 refine List.ext_getElem (by simp [meI]) fun j h1 h2 => ?_
 by_cases e : j = i
 ·subst e; simp [meI]
 ·rw [List.getElem_set_ne (by omega)]
  simp only [meI, List.getElem_map, List.getElem_range];by_cases e2 : j < i
  ·simp only [if_pos e2, if_pos (show j < i + 1 by omega)]
  ·simp only [if_neg e2, if_neg (show ¬ j < i + 1 by omega)]
def meL (xs : List Rat) : List Int := meI xs xs.length
theorem uD9 {xs : List Rat} {i : Nat} (h : i < xs.length) : (meL xs)[i]! = xs[i]!.num * ((laI xs xs.length / xs[i]!.den : Nat) : Int) := by
 unfold meL;rw [getElem!_pos _ i (by rw [zJJ]; exact h)]; simp [meI, h]
open Classical in
noncomputable def vEH (xs : List Rat) : List Int × Bool := if uHH xs ∧ uF4 xs xs.length then (vD4 (meL xs), vH0 (meL xs)) else ([], false)
theorem uJR {xs : List Rat} (h : uHH xs) (hl : laI xs xs.length ≤ 1073741824) : ∀ i, i ≤ xs.length → ∀ x ∈ meI xs i, x.natAbs ≤ 1152921504606846976 := fun i hi x hx => by
 obtain ⟨j, hj, rfl⟩ := List.mem_map.1 hx;have hj : j < xs.length := List.mem_range.1 hj;have h1 := (h j hj).1;have h2 : laI xs xs.length / xs[j]!.den ≤ 1073741824 := Nat.le_trans (Nat.div_le_self _ _) hl
 split
 ·rw [Int.natAbs_mul, Int.natAbs_natCast]
  exact Nat.le_trans (Nat.mul_le_mul h1 h2) (by decide)
 ·omega
theorem vUP {xs : List Rat} (h : (vEH xs).2 = true) : (vEH xs).1.length = xs.length ∧ (∀ x ∈ (vEH xs).1, okG x) ∧ ∃ s : Rat, 0 < s ∧ ∀ i, i < xs.length → (((vEH xs).1[i]! : Int) : Rat) = s * xs[i]! := by
 unfold vEH at h ⊢
 split at h
 ·rename_i hc
  rw [if_pos hc];dsimp only at h ⊢;obtain ⟨e, he, hm⟩ := vFK h;refine ⟨by rw [zKJ]; exact zJJ _ _, (vJ6 h).2, (laI xs xs.length : Rat) / (e : Rat), ?_, fun i hi => ?_⟩
  ·have h1 := vKW xs xs.length
   have h2 : (0 : Rat) < (laI xs xs.length : Rat) := by exact_mod_cast h1
   have h3 : (0 : Rat) < (e : Rat) := by exact_mod_cast he
   rw [Rat.div_def]; exact Rat.mul_pos h2 (Rat.inv_pos.2 h3)
  ·have h1 := hm i (by rw [show (meL xs).length = xs.length from zJJ _ _]; exact hi)
   rw [uD9 hi] at h1
   have h3 : (e : Rat) ≠ 0 := by
    intro h0;have : e = 0 := by exact_mod_cast h0
    omega
   have hd : xs[i]!.den ∣ laI xs xs.length := vTN xs _ i hi;obtain ⟨k, hk⟩ := hd;have hdp := xs[i]!.den_pos;rw [hk, Nat.mul_div_cancel_left _ hdp] at h1;have h4 : (((vD4 (meL xs))[i]! : Int) : Rat) * (e : Rat) = (xs[i]!.num : Rat) * (k : Rat) := by exact_mod_cast h1
   have h5 : (laI xs xs.length : Rat) = (xs[i]!.den : Rat) * (k : Rat) := by rw [hk]; exact_mod_cast rfl
   have h6 : xs[i]! * (xs[i]!.den : Rat) = (xs[i]!.num : Rat) := by
    have h8 : ((xs[i]!.num : Int) : Rat) / ((xs[i]!.den : Nat) : Rat) = xs[i]! := by rw [← Rat.mkRat_eq_div, Rat.mkRat_self]
    have h9 : (xs[i]!.den : Rat) ≠ 0 := by
     intro h0;have : xs[i]!.den = 0 := by exact_mod_cast h0
     omega
    have h10 := Rat.div_mul_cancel (a := (xs[i]!.num : Rat)) h9
    rwa [h8] at h10
   rw [h5]
   have h7 : (((vD4 (meL xs))[i]! : Int) : Rat) = (xs[i]!.num : Rat) * (k : Rat) / (e : Rat) := by
    rw [← h4, Rat.mul_div_cancel h3]
   rw [h7, ← h6, Rat.div_def, Rat.div_def]; grind
 ·cases h
theorem vGP {p : FR → Bool} {m : List FR} {r : FR} (h : p r = true) : (m ++ [r]).filter p = m.filter p ++ [r] := by
 rw [List.filter_append, List.filter_cons_of_pos h]; rfl
theorem vGQ {p : FR → Bool} {m : List FR} {r : FR} (h : ¬ p r = true) : (m ++ [r]).filter p = m.filter p := by
 rw [List.filter_append, List.filter_cons_of_neg h, List.filter_nil, List.append_nil]
def upI (l : List FR) (v : Nat) (i : Nat) : Nat := ((l.take i).filter fun (r : FR) => decide (0 < r.c[v]!)).length
def dnI (l : List FR) (v : Nat) (i : Nat) : Nat := ((l.take i).filter fun (r : FR) => decide (r.c[v]! < 0)).length
def vB1 (l : List FR) (v : Nat) : Nat := upI l v l.length * dnI l v l.length
theorem vE2 {l : List FR} {v i : Nat} (h : i < l.length) : upI l v (i + 1) = if 0 < l[i]!.c[v]! then upI l v i + 1 else upI l v i := by
 unfold upI;rw [List.take_succ_eq_append_getElem h, getElem!_pos l i h];by_cases hc : 0 < l[i].c[v]!
 ·rw [if_pos hc, vGP (by simpa using hc), List.length_append]; rfl
 ·rw [if_neg hc, vGQ (by simpa using hc)]
theorem vGS {l : List FR} {v i : Nat} (h : i < l.length) : dnI l v (i + 1) = if l[i]!.c[v]! < 0 then dnI l v i + 1 else dnI l v i := by
 unfold dnI;rw [List.take_succ_eq_append_getElem h, getElem!_pos l i h];by_cases hc : l[i].c[v]! < 0
 ·rw [if_pos hc, vGP (by simpa using hc), List.length_append]; rfl
 ·rw [if_neg hc, vGQ (by simpa using hc)]
theorem uGD (l : List FR) (v i : Nat) : upI l v i ≤ i := Nat.le_trans (List.length_filter_le _ _) (by rw [List.length_take]; omega)
theorem vUN (l : List FR) (v i : Nat) : dnI l v i ≤ i := Nat.le_trans (List.length_filter_le _ _) (by rw [List.length_take]; omega)
def vC3 (a b : FR) (v : Nat) : List Int := (List.range a.c.length).map fun n => a.c[n]! * ((0 : Int) - b.c[v]!) + b.c[n]! * a.c[v]!
def vZR (a b : FR) (v : Nat) (i : Nat) : List Int := (List.range a.c.length).map fun n => if n < i then a.c[n]! * ((0 : Int) - b.c[v]!) + b.c[n]! * a.c[v]! else (0 : Int)
theorem vZP (a b : FR) (v i : Nat) : (vZR a b v i).length = a.c.length := by simp [vZR]
theorem vZQ (a b : FR) (v : Nat) : vZR a b v a.c.length = vC3 a b v := by
 unfold vZR vC3;refine List.map_congr_left fun n hn => ?_
 rw [if_pos (List.mem_range.1 hn)]
theorem vZO {a b : FR} {v i : Nat} (h : i < a.c.length) : (vZR a b v i).set i (a.c[i]! * ((0 : Int) - b.c[v]!) + b.c[i]! * a.c[v]!) = vZR a b v (i + 1) := vGA _ (fun n => a.c[n]! * ((0 : Int) - b.c[v]!) + b.c[n]! * a.c[v]!) 0 h
def vIO (a b : FR) (v k : Nat) : Prop := 0 < a.c[v]! ∧ b.c[v]! < 0 ∧ vV7 (a.fm ||| b.fm) ≤ k + 1
instance (a b : FR) (v k : Nat) : Decidable (vIO a b v k) := by unfold vIO; exact inferInstance
def vPL (a b : FR) (v : Nat) : FR := ⟨vD4 (vC3 a b v), a.fm ||| b.fm⟩
def elS (v k : Nat) (o : Option (List FR)) (a b : FR) : Option (List FR) := match o with
 | none => none
 | some out => if vIO a b v k then (if vH0 (vC3 a b v) = true then some (out ++ [vPL a b v]) else none) else some out
def elJ (v k : Nat) (l : List FR) (a : FR) (o : Option (List FR)) (j : Nat) : Option (List FR) := (l.take j).foldl (fun o b => elS v k o a b) o
def elI (v k : Nat) (l : List FR) (o : Option (List FR)) (i : Nat) : Option (List FR) := (l.take i).foldl (fun o a => elJ v k l a o l.length) o
def vN0 (l : List FR) (v i : Nat) : List FR := (l.take i).filter fun (r : FR) => decide (r.c[v]! = 0)
def vWM (l : List FR) (v k : Nat) : Option (List FR) := elI v k l (some (vN0 l v l.length)) l.length
theorem vM7 {v k : Nat} {l : List FR} {a : FR} {o : Option (List FR)} {j : Nat} (h : j < l.length) : elJ v k l a o (j + 1) = elS v k (elJ v k l a o j) a l[j]! := by
 unfold elJ;rw [List.take_succ_eq_append_getElem h, List.foldl_append, getElem!_pos l j h]; rfl
theorem vM8 {v k : Nat} {l : List FR} {o : Option (List FR)} {i : Nat} (h : i < l.length) : elI v k l o (i + 1) = elJ v k l l[i]! (elI v k l o i) l.length := by
 unfold elI;rw [List.take_succ_eq_append_getElem h, List.foldl_append, getElem!_pos l i h]; rfl
theorem zKW (v k : Nat) (a : FR) : ∀ (m : List FR), m.foldl (fun o b => elS v k o a b) none = none
 | [] => rfl
 | _ :: m => zKW v k a m
theorem vZB {v k : Nat} {l : List FR} {a : FR} {o : Option (List FR)} {j : Nat} (h : elJ v k l a o j = none) (_hj : j ≤ l.length) : elJ v k l a o l.length = none := by
 unfold elJ at h ⊢;have e : l.foldl (fun o b => elS v k o a b) o = (l.drop j).foldl (fun o b => elS v k o a b) ((l.take j).foldl (fun o b => elS v k o a b) o) := by rw [← List.foldl_append, List.take_append_drop]
 rw [List.take_length, e, h];exact zKW v k a _
theorem vM9 (v k : Nat) (l : List FR) : ∀ (m : List FR), m.foldl (fun o a => elJ v k l a o l.length) none = none
 | [] => rfl
 | _ :: m => by
   rw [List.foldl_cons, show elJ v k l _ none l.length = none from zKW v k _ _];exact vM9 v k l m
theorem vZC {v k : Nat} {l : List FR} {o : Option (List FR)} {i : Nat} (h : elI v k l o i = none) (_hi : i ≤ l.length) : elI v k l o l.length = none := by
 unfold elI at h ⊢;have e : l.foldl (fun o a => elJ v k l a o l.length) o = (l.drop i).foldl (fun o a => elJ v k l a o l.length) ((l.take i).foldl (fun o a => elJ v k l a o l.length) o) := by rw [← List.foldl_append, List.take_append_drop]
 rw [List.take_length, e, h];exact vM9 v k l _
theorem vQA {l : List FR} {v i : Nat} (h : i < l.length) : vN0 l v (i + 1) = if l[i]!.c[v]! = 0 then vN0 l v i ++ [l[i]!] else vN0 l v i := by
 unfold vN0;rw [List.take_succ_eq_append_getElem h, getElem!_pos l i h];by_cases hc : l[i].c[v]! = 0
 ·rw [if_pos hc, vGP (by simpa using hc)]
 ·rw [if_neg hc, vGQ (by simpa using hc)]
theorem vQB (l : List FR) (v i : Nat) : (vN0 l v i).length ≤ i := Nat.le_trans (List.length_filter_le _ _) (by rw [List.length_take]; omega)
theorem vLN (l : List FR) (v : Nat) : ∀ {i j : Nat}, i ≤ j → j ≤ l.length → upI l v i ≤ upI l v j := fun {i j} h hj => by
 unfold upI;have e : l.take i = (l.take j).take i := by rw [List.take_take, Nat.min_eq_left h]
 rw [e];exact ((List.take_sublist _ _).filter _).length_le
theorem vUG {v k : Nat} {O out : List FR} {a b : FR} (h : elS v k (some O) a b = some out) : out.length ≤ O.length + (if 0 < a.c[v]! ∧ b.c[v]! < 0 then 1 else 0) := by
 unfold elS at h;dsimp only at h
 split at h
 ·rename_i hg
  split at h
  ·cases h; rw [if_pos ⟨hg.1, hg.2.1⟩]; simp
  ·cases h
 ·cases h; exact Nat.le_add_right _ _
structure okRw (m : Nat) (r : FR) : Prop where
 len : r.c.length = m
 sm : ∀ x ∈ r.c, okG x
 fm : r.fm < 4611686018427387904
theorem okRw.at {m : Nat} {r : FR} (h : okRw m r) {i : Nat} (hi : i < m) : okG r.c[i]! := h.sm _ (by rw [getElem!_pos r.c i (by rw [h.len]; exact hi)]; exact List.getElem_mem _)
theorem vMT {a b : Int} (ha : okG a) (hb : okG b) : -1152921504606846976 ≤ a * b ∧ a * b ≤ 1152921504606846976 := by
 have h : (a * b).natAbs ≤ 1073741824 * 1073741824 := by
  rw [Int.natAbs_mul];unfold okG at ha hb;exact Nat.mul_le_mul (by omega) (by omega)
 omega
theorem vKQ {a : Int} (h : okG a) : okG (0 - a) := by unfold okG at *; omega
theorem uID {m : Nat} {a b : FR} {v : Nat} (ha : okRw m a) (hb : okRw m b) (hv : v < m) : ∀ x ∈ vC3 a b v, x.natAbs ≤ 4611686018427387904 := fun x hx => by
 obtain ⟨n, hn, rfl⟩ := List.mem_map.1 hx;have hn : n < m := by rw [← ha.len]; exact List.mem_range.1 hn
 have h1 := vMT (ha.at hn) (vKQ (hb.at hv));have h2 := vMT (hb.at hn) (ha.at hv);omega
theorem vUX {m : Nat} {a b : FR} {v : Nat} (ha : okRw m a) (hb : okRw m b) (h : vH0 (vC3 a b v) = true) : okRw m (vPL a b v) :=
 ⟨by show (vD4 _).length = m; rw [zKJ]; simp [vC3, ha.len], (vJ6 h).2, by
   have h1 := ha.fm;have h2 := hb.fm;have : a.fm ||| b.fm < 2 ^ 62 := Nat.or_lt_two_pow (by omega) (by omega)
   show a.fm ||| b.fm < _; omega⟩
theorem uEU {v k : Nat} {P : FR → Prop} {o : Option (List FR)} {a b : FR} (hs : vIO a b v k → vH0 (vC3 a b v) = true → P (vPL a b v)) (ho : ∀ out, o = some out → ∀ r ∈ out, P r) : ∀ out, elS v k o a b = some out → ∀ r ∈ out, P r := fun out h r hr => by
 unfold elS at h;cases o with
 | none => cases h
 | some o =>
   dsimp only at h
   split at h
   ·rename_i hg
    split at h
    ·rename_i hb
     cases h
     rcases List.mem_append.1 hr with hr | hr
     ·exact ho _ rfl r hr
     ·rw [List.mem_singleton.1 hr]; exact hs hg hb
    ·cases h
   ·cases h; exact ho _ rfl r hr
theorem vUI {v k : Nat} {P : FR → Prop} {a : FR} : ∀ (m : List FR) (o : Option (List FR)), (∀ b ∈ m, vIO a b v k → vH0 (vC3 a b v) = true → P (vPL a b v)) → (∀ out, o = some out → ∀ r ∈ out, P r) → ∀ out, m.foldl (fun o b => elS v k o a b) o = some out → ∀ r ∈ out, P r
 | [], _, _, ho => ho
 | b :: m, o, hs, ho => vUI m _ (fun c hc => hs c (List.mem_cons_of_mem _ hc)) (uEU (hs b (by simp)) ho)
theorem vUK {v k : Nat} {P : FR → Prop} {l : List FR} : ∀ (m : List FR) (o : Option (List FR)), (∀ a ∈ m, ∀ b ∈ l, vIO a b v k → vH0 (vC3 a b v) = true → P (vPL a b v)) → (∀ out, o = some out → ∀ r ∈ out, P r) → ∀ out, m.foldl (fun o a => elJ v k l a o l.length) o = some out → ∀ r ∈ out, P r
 | [], _, _, ho => ho
 | a :: m, o, hs, ho => vUK m _ (fun c hc => hs c (List.mem_cons_of_mem _ hc)) (fun out h => by
   unfold elJ at h;rw [List.take_length] at h
   exact vUI l o (hs a (by simp)) ho out h)
theorem vK5 {l : List FR} {v k : Nat} {P : FR → Prop} (hz : ∀ r ∈ l, r.c[v]! = 0 → P r) (hs : ∀ a ∈ l, ∀ b ∈ l, vIO a b v k → vH0 (vC3 a b v) = true → P (vPL a b v)) {out : List FR} (h : vWM l v k = some out) : ∀ r ∈ out, P r := by
 unfold vWM elI at h;rw [List.take_length] at h;refine vUK l _ hs (fun o ho => ?_) out h;cases ho
 intro r hr;unfold vN0 at hr;rw [List.take_length] at hr;obtain ⟨h1, h2⟩ := List.mem_filter.1 hr;exact hz r h1 (of_decide_eq_true h2)
structure EnS where
 low : Bool
 high : Bool
 least : Rat
 most : Rat
def enV (a c : Int) : Rat := if 0 < a then mkRat (0 - c) a.natAbs else mkRat c a.natAbs
def enS (s : EnS) (a c : Int) : EnS :=
 if a = 0 then s
 else if 0 < a then ⟨true, s.high, if s.low = false ∨ s.least < enV a c then enV a c else s.least, s.most⟩
 else ⟨s.low, true, s.least, if s.high = false ∨ enV a c < s.most then enV a c else s.most⟩
def enI (l : List FR) (n : Nat) : Nat → Option EnS
 | 0 => some ⟨false, false, 0, 0⟩
 | i + 1 => match enI l n i with
   | none => none
   | some s => if l[i]!.c[n]! = 0 ∧ l[i]!.c[n + 1]! < 0 then none else some (enS s l[i]!.c[n]! l[i]!.c[n + 1]!)
def enR (o : Option EnS) : Int × Rat := match o with
 | none => (2, 0)
 | some s => if s.low = true ∧ s.high = true ∧ s.most < s.least then (2, 0) else if s.low = false then (3, 0) else (1, s.least)
def vM4 (l : List FR) (n : Nat) : Int × Rat := enR (enI l n l.length)
theorem vM6 {l : List FR} {n i : Nat} (h : enI l n i = none) : ∀ j, i ≤ j → enI l n j = none
 | 0, hj => by have : i = 0 := by omega
               subst this; exact h
 | j + 1, hj => by
   by_cases e : i = j + 1
   ·subst e; exact h
   ·unfold enI; rw [vM6 h j (by omega)]
theorem zL0 {a : Int} (h : 0 < a) : (0 : Rat) < (a : Rat) := by exact_mod_cast h
theorem uH3 {a c : Int} {t : Rat} (ha : 0 < a) (h : 0 ≤ (a : Rat) * t + (c : Rat)) : enV a c ≤ t := by
 unfold enV;rw [if_pos ha, Rat.mkRat_eq_div]
 have e : ((a.natAbs : Nat) : Rat) = (a : Rat) := by
  have h1 : ((a.natAbs : Nat) : Int) = a := by omega
  have h2 : (((a.natAbs : Nat) : Int) : Rat) = ((a : Int) : Rat) := by rw [h1]
  exact h2
 rw [e];have hp := zL0 ha;refine Rat.not_lt.1 fun h2 => ?_
 have h3 := Rat.mul_lt_mul_of_pos_left h2 hp;have h4 : (a : Rat) * (((0 - c : Int) : Rat) / (a : Rat)) = ((0 - c : Int) : Rat) := by rw [Rat.mul_comm]; exact Rat.div_mul_cancel (fun e => by rw [e] at hp; exact absurd hp (by decide))
 rw [h4, Rat.intCast_sub] at h3
 grind
theorem uH4 {a c : Int} {t : Rat} (ha : a < 0) (h : 0 ≤ (a : Rat) * t + (c : Rat)) : t ≤ enV a c := by
 unfold enV;rw [if_neg (by omega), Rat.mkRat_eq_div]
 have e : ((a.natAbs : Nat) : Rat) = - (a : Rat) := by
  have : ((a.natAbs : Nat) : Int) = - a := by omega
  have h2 : (((a.natAbs : Nat) : Int) : Rat) = ((- a : Int) : Rat) := by rw [this]
  rw [Rat.intCast_neg] at h2;exact h2
 rw [e]
 have hp : (0 : Rat) < - (a : Rat) := by
  have := zL0 (a := -a) (by omega)
  rwa [Rat.intCast_neg] at this
 refine Rat.not_lt.1 fun h2 => ?_
 have h3 := Rat.mul_lt_mul_of_pos_left h2 hp;have h4 : - (a : Rat) * ((c : Rat) / - (a : Rat)) = (c : Rat) := by rw [Rat.mul_comm]; exact Rat.div_mul_cancel (fun e => by rw [e] at hp; exact absurd hp (by decide))
 rw [h4] at h3
 grind
theorem uBR {l : List FR} {n : Nat} {t : Rat} (h : ∀ i, i < l.length → 0 ≤ ((l[i]!.c[n]! : Int) : Rat) * t + ((l[i]!.c[n + 1]! : Int) : Rat)) : ∀ i, i ≤ l.length → ∃ s, enI l n i = some s ∧ (s.low = true → s.least ≤ t) ∧ (s.high = true → t ≤ s.most)
 | 0, _ => ⟨_, rfl, fun e => (by cases e), fun e => (by cases e)⟩
 | i + 1, hi => by
   obtain ⟨s, h1, h2, h3⟩ := uBR h i (by omega);have hr := h i (by omega);unfold enI;rw [h1];dsimp only
   have hn : ¬ (l[i]!.c[n]! = 0 ∧ l[i]!.c[n + 1]! < 0) := by
    rintro ⟨e1, e2⟩
    rw [e1] at hr;have : ((l[i]!.c[n + 1]! : Int) : Rat) < 0 := by exact_mod_cast e2
    have e0 : ((0 : Int) : Rat) = 0 := rfl;rw [e0] at hr
    grind
   rw [if_neg hn];refine ⟨_, rfl, ?_, ?_⟩
   ·unfold enS
    split
    ·exact h2
    ·split
     ·rename_i hp
      intro _;dsimp only
      split
      ·exact uH3 hp hr
      ·rename_i hc
       exact h2 (by cases hs : s.low; exact absurd (Or.inl hs) hc; rfl)
     ·exact h2
   ·unfold enS
    split
    ·exact h3
    ·rename_i h0
     split
     ·exact h3
     ·rename_i hp
      intro _;dsimp only
      split
      ·exact uH4 (by omega) hr
      ·rename_i hc
       exact h3 (by cases hs : s.high; exact absurd (Or.inl hs) hc; rfl)
theorem uEP {l : List FR} {n : Nat} {t : Rat} (h : ∀ i, i < l.length → 0 ≤ ((l[i]!.c[n]! : Int) : Rat) * t + ((l[i]!.c[n + 1]! : Int) : Rat)) : (vM4 l n).1 = 3 ∨ (vM4 l n).1 = 1 ∧ (vM4 l n).2 ≤ t := by
 obtain ⟨s, h1, h2, h3⟩ := uBR h l.length (Nat.le_refl _);unfold vM4 enR;rw [h1];dsimp only
 have hn : ¬ (s.low = true ∧ s.high = true ∧ s.most < s.least) := by
  rintro ⟨e1, e2, e3⟩
  have := h2 e1; have := h3 e2; grind
 rw [if_neg hn]
 split
 ·exact Or.inl rfl
 ·rename_i hl
  exact Or.inr ⟨rfl, h2 (by cases hs : s.low; exact absurd hs hl; rfl)⟩
theorem uBO {a c : Int} (ha : okG a) (hc : okG c) (h0 : a ≠ 0) : sz 2 (enV a c) := by
 unfold okG at ha hc;have h1 : a.natAbs < pw 1 := Nat.lt_of_le_of_lt (show a.natAbs ≤ 1073741824 by omega) (by decide);unfold enV
 split
 ·exact zBE (by decide) (vHN (k := 1) (by omega) (Nat.lt_of_le_of_lt (show (0 - c).natAbs ≤ 1073741824 by omega) (by decide)) h1)
 ·exact zBE (by decide) (vHN (k := 1) (by omega) (Nat.lt_of_le_of_lt (show c.natAbs ≤ 1073741824 by omega) (by decide)) h1)
theorem uBP {s : EnS} {a c : Int} (ha : okG a) (hc : okG c) (h : sz 2 s.least ∧ sz 2 s.most) : sz 2 (enS s a c).least ∧ sz 2 (enS s a c).most := by
 unfold enS
 split
 ·exact h
 ·rename_i h0
  have := uBO ha hc h0
  split
  ·dsimp only
   refine ⟨?_, h.2⟩
   split
   ·exact this
   ·exact h.1
  ·dsimp only
   refine ⟨h.1, ?_⟩
   split
   ·exact this
   ·exact h.2
def uIS (l : List FR) (v : Nat) (o : Option Nat) : Bool := match o with
 | none => true
 | some b => decide (vB1 l v < vB1 l b)
def vDG (l : List FR) (done : List Bool) : Nat → Option Nat
 | 0 => none
 | v + 1 => if done[v]! = false ∧ uIS l v (vDG l done v) = true then some v else vDG l done v
theorem zMT (l : List FR) (done : List Bool) : ∀ v, (∀ b, vDG l done v = some b → b < v ∧ done[b]! = false) ∧ (vDG l done v = none → ∀ u, u < v → done[u]! = true)
 | 0 => ⟨fun b e => (by cases e), fun _ u hu => (by omega)⟩
 | v + 1 => by
   obtain ⟨h1, h2⟩ := zMT l done v;unfold vDG
   split
   ·rename_i hc
    exact ⟨fun b e => (by cases e; exact ⟨Nat.lt_succ_self _, hc.1⟩), fun e => (by cases e)⟩
   ·rename_i hc
    refine ⟨fun b e => ⟨by have := (h1 b e).1; omega, (h1 b e).2⟩, fun e u hu => ?_⟩;by_cases hu2 : u = v
    ·subst hu2
     cases hd : done[u]! with
     | true => rfl
     | false => exact absurd ⟨hd, (by rw [e]; rfl)⟩ hc
    ·exact h2 e u (by omega)
structure FeS where
 l : List FR
 done : List Bool
 deriving Inhabited
def feS (n k : Nat) (s : FeS) : Option FeS := match vDG s.l s.done n with
 | none => none
 | some b => if 20000 < vB1 s.l b then none else match vWM s.l b k with
   | none => none
   | some l' => some ⟨l', s.done.set b true⟩
def feI (n : Nat) (l0 : List FR) : Nat → Option FeS
 | 0 => some ⟨l0, List.replicate n false⟩
 | k + 1 => match feI n l0 k with
   | none => none
   | some s => feS n (k + 1) s
theorem vM1 {n : Nat} {l0 : List FR} {i : Nat} (h : feI n l0 i = none) : ∀ j, i ≤ j → feI n l0 j = none
 | 0, hj => by have : i = 0 := by omega
               subst this; exact h
 | j + 1, hj => by
   by_cases e : i = j + 1
   ·subst e; exact h
   ·unfold feI; rw [vM1 h j (by omega)]
def feV (n : Nat) (l0 : List FR) : Int × Rat := match feI n l0 n with
 | none => (0, 0)
 | some s => vM4 s.l n
def vZK (d : List Bool) : Nat := (d.filter fun b => b).length
theorem vGY : ∀ (d : List Bool) (b : Nat), b < d.length → d[b]! = false → vZK (d.set b true) = vZK d + 1
 | [], b, h, _ => by simp at h
 | x :: d, 0, _, h2 => by
   have : x = false := by simpa using h2
   subst this; simp [vZK]
 | x :: d, b + 1, h, h2 => by
   have ih := vGY d b (by simpa using h) (by simpa using h2);unfold vZK at ih ⊢;cases x <;> simp [ih]
theorem vNA : ∀ (d : List Bool), (∀ u, u < d.length → d[u]! = true) → vZK d = d.length
 | [], _ => rfl
 | x :: d, h => by
   have h0 : x = true := by simpa using h 0 (by simp)
   have ih := vNA d fun u hu => by simpa using h (u + 1) (by simpa using hu)
   subst h0;unfold vZK at ih ⊢;simp [ih]
structure FeP (n m k : Nat) (s : FeS) : Prop where
 rw : ∀ r ∈ s.l, okRw m r
 dl : s.done.length = n
 cnt : vZK s.done = k
 zero : ∀ u, u < n → s.done[u]! = true → ∀ r ∈ s.l, r.c[u]! = 0
theorem vZN {a b : FR} {v i : Nat} (h : vH0 (vC3 a b v) = true) (hi : i < a.c.length) : ∃ e : Int, 0 < e ∧ (vPL a b v).c[i]! * e = a.c[i]! * (0 - b.c[v]!) + b.c[i]! * a.c[v]! := by
 obtain ⟨e, he, hm⟩ := vFK h;have hl : (vC3 a b v).length = a.c.length := by simp [vC3]
 refine ⟨e, he, ?_⟩;have := hm i (by omega);rw [show (vPL a b v).c = vD4 (vC3 a b v) from rfl, this];rw [getElem!_pos (vC3 a b v) i (by omega)]; simp [vC3]
theorem vUW {a b : FR} {v i : Nat} (h : vH0 (vC3 a b v) = true) (hi : i < a.c.length) (h0 : a.c[i]! * (0 - b.c[v]!) + b.c[i]! * a.c[v]! = 0) : (vPL a b v).c[i]! = 0 := by
 obtain ⟨e, he, hm⟩ := vZN h hi;rw [h0] at hm;rcases Int.mul_eq_zero.1 hm with h | h
 ·exact h
 ·omega
theorem FeP.step {n m k : Nat} {s : FeS} (h : FeP n m k s) (hk : k < n) (hm : n ≤ m) : (∃ b, vDG s.l s.done n = some b ∧ b < n) ∧ ∀ s', feS n (k + 1) s = some s' → FeP n m (k + 1) s' := by
 obtain ⟨b1, b2⟩ := zMT s.l s.done n
 have hex : ∃ b, vDG s.l s.done n = some b ∧ b < n := by
  cases hb : vDG s.l s.done n with
  | none =>
    have := vNA s.done fun u hu => b2 hb u (by rw [← h.dl]; exact hu)
    have := h.cnt;have := h.dl;omega
  | some b => exact ⟨b, rfl, (b1 b hb).1⟩
 refine ⟨hex, fun s' hs => ?_⟩;obtain ⟨b, hb, hbn⟩ := hex;unfold feS at hs;rw [hb] at hs;dsimp only at hs
 split at hs
 ·cases hs
 ·cases hE : vWM s.l b (k + 1) with
  | none => rw [hE] at hs; cases hs
  | some l' =>
    rw [hE] at hs;cases hs
    have hbd := (b1 b hb).2;refine ⟨vK5 (P := okRw m) (fun r hr _ => h.rw r hr) (fun a ha c hc _ hB => vUX (h.rw a ha) (h.rw c hc) hB) hE, by simpa using h.dl, by rw [vGY _ _ (by rw [h.dl]; exact hbn) hbd, h.cnt], fun u hu hd => ?_⟩;refine vK5 (P := fun r => r.c[u]! = 0) (fun r hr hz => ?_) (fun a ha c hc hg hB => ?_) hE
    ·by_cases e : u = b
     ·subst e; exact hz
     ·have hd2 : s.done[u]! = true := by
       have h1 : u < s.done.length := by rw [h.dl]; exact hu
       rw [getElem!_pos _ u (by simpa using h1), List.getElem_set_ne (by omega)] at hd;rw [getElem!_pos _ u h1]; exact hd
      exact h.zero u hu hd2 r hr
    ·have hal := (h.rw a ha).len
     refine vUW hB (by omega) ?_;by_cases e : u = b
     ·subst e; grind
     ·have hd2 : s.done[u]! = true := by
       have h1 : u < s.done.length := by rw [h.dl]; exact hu
       rw [getElem!_pos _ u (by simpa using h1), List.getElem_set_ne (by omega)] at hd;rw [getElem!_pos _ u h1]; exact hd
      rw [h.zero u hu hd2 a ha, h.zero u hu hd2 c hc]; simp
theorem vIT {n m : Nat} {l0 : List FR} (h : ∀ r ∈ l0, okRw m r) (hm : n ≤ m) : ∀ k, k ≤ n → ∀ s, feI n l0 k = some s → FeP n m k s
 | 0, _, s, hs => by
   cases hs
   refine ⟨h, by simp, by simp [vZK], fun u hu hd => ?_⟩;rw [getElem!_pos _ u (by simpa using hu), List.getElem_replicate] at hd; cases hd
 | k + 1, hk, s, hs => by
   unfold feI at hs;cases hp : feI n l0 k with
   | none => rw [hp] at hs; cases hs
   | some s0 =>
     rw [hp] at hs;exact ((vIT h hm k (by omega) s0 hp).step (by omega) hm).2 s hs
def vHF (c : List Int) (y : Nat → Rat) : Nat → Rat
 | 0 => 0
 | i + 1 => vHF c y i + ((c[i]! : Int) : Rat) * y i
def vCU (m : Nat) (y : Nat → Rat) (r : FR) : Prop := 0 ≤ vHF r.c y m
theorem vHW {c a b : List Int} {y : Nat → Rat} {p q e : Rat} : ∀ {m : Nat}, (∀ i, i < m → ((c[i]! : Int) : Rat) * e = ((a[i]! : Int) : Rat) * p + ((b[i]! : Int) : Rat) * q) → vHF c y m * e = vHF a y m * p + vHF b y m * q
 | 0, _ => by simp only [vHF]; grind
 | m + 1, h => by
   have h1 := vHW (y := y) (m := m) fun i hi => h i (by omega)
   have h2 := h m (Nat.lt_succ_self _);simp only [vHF]
   grind
theorem cmb_holds {m : Nat} {y : Nat → Rat} {a b : FR} {v : Nat} (hal : a.c.length = m) (h : vH0 (vC3 a b v) = true) (h1 : 0 < a.c[v]!) (h2 : b.c[v]! < 0) (ha : vCU m y a) (hb : vCU m y b) : vCU m y (vPL a b v) := by
 obtain ⟨e, he, hm⟩ := vFK h;have hl : (vC3 a b v).length = a.c.length := by simp [vC3]
 have key := vHW (c := (vPL a b v).c) (a := a.c) (b := b.c) (y := y) (p := ((0 - b.c[v]! : Int) : Rat)) (q := ((a.c[v]! : Int) : Rat)) (e := (e : Rat)) (m := m) fun i hi => by
  have h3 := hm i (by omega);rw [getElem!_pos (vC3 a b v) i (by omega)] at h3;have h4 : (vD4 (vC3 a b v))[i]! * e = a.c[i]! * (0 - b.c[v]!) + b.c[i]! * a.c[v]! := by rw [h3]; simp [vC3]
  show (((vD4 (vC3 a b v))[i]! : Int) : Rat) * (e : Rat) = _
  rw [← Rat.intCast_mul, h4, Rat.intCast_add, Rat.intCast_mul, Rat.intCast_mul]
 have hp : (0 : Rat) < ((0 - b.c[v]! : Int) : Rat) := zL0 (by omega);have hq : (0 : Rat) < ((a.c[v]! : Int) : Rat) := zL0 h1;have hee : (0 : Rat) < (e : Rat) := zL0 he;unfold vCU at *
 have h5 := Rat.mul_nonneg ha (Rat.le_of_lt hp);have h6 := Rat.mul_nonneg hb (Rat.le_of_lt hq);refine Rat.not_lt.1 fun hlt => ?_
 have h7 := Rat.mul_lt_mul_of_pos_right hlt hee
 grind
theorem feI_holds {n m : Nat} {l0 : List FR} {y : Nat → Rat} (h : ∀ r ∈ l0, okRw m r) (hm : n ≤ m) (hy : ∀ r ∈ l0, vCU m y r) : ∀ k, k ≤ n → ∀ s, feI n l0 k = some s → ∀ r ∈ s.l, vCU m y r
 | 0, _, s, hs => by cases hs; exact hy
 | k + 1, hk, s, hs => by
   unfold feI at hs;cases hp : feI n l0 k with
   | none => rw [hp] at hs; cases hs
   | some s0 =>
     rw [hp] at hs;have h0 := feI_holds h hm hy k (by omega) s0 hp;have hP := vIT h hm k (by omega) s0 hp;dsimp only at hs;unfold feS at hs
     split at hs
     ·cases hs
     ·split at hs
      ·cases hs
      ·split at hs
       ·cases hs
       ·rename_i l' hE
        cases hs
        exact vK5 (P := vCU m y) (fun r hr _ => h0 r hr) (fun a ha b hb hg hB => cmb_holds (hP.rw a ha).len hB hg.1 hg.2.1 (h0 a ha) (h0 b hb)) hE
theorem vQ8 {c : List Int} {y : Nat → Rat} {n : Nat} (h : ∀ u, u < n → c[u]! = 0) : vHF c y (n + 2) = ((c[n]! : Int) : Rat) * y n + ((c[n + 1]! : Int) : Rat) * y (n + 1) := by
 have h0 : ∀ k, k ≤ n → vHF c y k = 0 := fun k => by
  induction k with
  | zero => intro _; rfl
  | succ k ih =>
    intro hk;simp only [vHF];rw [ih (by omega), h k (by omega)];have : ((0 : Int) : Rat) = 0 := rfl;rw [this]; grind
 simp only [vHF];rw [h0 n (Nat.le_refl _)]; grind
theorem uH1 {n : Nat} {l0 : List FR} {y : Nat → Rat} (h : ∀ r ∈ l0, okRw (n + 2) r) (hy : ∀ r ∈ l0, vCU (n + 2) y r) (h1 : y (n + 1) = 1) : (feV n l0).1 = 0 ∨ (feV n l0).1 = 3 ∨ (feV n l0).1 = 1 ∧ (feV n l0).2 ≤ y n := by
 unfold feV;cases hs : feI n l0 n with
 | none => exact Or.inl rfl
 | some s =>
   right
   have hP := vIT h (by omega) n (Nat.le_refl _) s hs;have hH := feI_holds h (by omega) hy n (Nat.le_refl _) s hs;refine uEP fun i hi => ?_
   have hr := vN1 hi
   have hz : ∀ u, u < n → s.l[i]!.c[u]! = 0 := fun u hu => hP.zero u hu (by
    refine Classical.byContradiction fun hne => ?_
    have hf : s.done[u]! = false := by simpa using hne
    have h2 := vGY s.done u (by rw [hP.dl]; exact hu) hf;have h3 : vZK (s.done.set u true) ≤ (s.done.set u true).length := List.length_filter_le _ _
    rw [List.length_set, hP.dl, h2, hP.cnt] at h3; omega) _ hr
   have := hH _ hr;unfold vCU at this;rw [vQ8 hz, h1] at this;rw [Rat.mul_one] at this;exact this
theorem vUH {v k : Nat} {a : FR} {l : List FR} {O : List FR} : ∀ j, j ≤ l.length → ∀ Q, elJ v k l a (some O) j = some Q → Q.length ≤ O.length + (if 0 < a.c[v]! then dnI l v j else 0)
 | 0, _, Q, h => by cases h; exact Nat.le_add_right _ _
 | j + 1, hj, Q, h => by
   rw [vM7 (by omega)] at h;cases hp : elJ v k l a (some O) j with
   | none => rw [hp] at h; cases h
   | some P =>
     rw [hp] at h;have h1 := vUH j (by omega) P hp;have h2 := vUG h;rw [vGS (by omega)];by_cases ha : 0 < a.c[v]!
     ·rw [if_pos ha] at h1 ⊢
      by_cases hb : l[j]!.c[v]! < 0
      ·rw [if_pos ⟨ha, hb⟩] at h2; rw [if_pos hb]; omega
      ·rw [if_neg (fun e => hb e.2)] at h2; rw [if_neg hb]; omega
     ·rw [if_neg ha] at h1 ⊢
      rw [if_neg (fun e => ha e.1)] at h2; omega
theorem vUJ {v k : Nat} {l : List FR} {Z : List FR} : ∀ i, i ≤ l.length → ∀ Q, elI v k l (some Z) i = some Q → Q.length ≤ Z.length + upI l v i * dnI l v l.length
 | 0, _, Q, h => by cases h; exact Nat.le_add_right _ _
 | i + 1, hi, Q, h => by
   rw [vM8 (by omega)] at h;cases hp : elI v k l (some Z) i with
   | none =>
     rw [hp] at h;have : elJ v k l l[i]! none l.length = none := zKW v k _ _;rw [this] at h; cases h
   | some P =>
     rw [hp] at h;have h1 := vUJ i (by omega) P hp;have h2 := vUH l.length (Nat.le_refl _) Q h;rw [vE2 (by omega)];by_cases ha : 0 < l[i]!.c[v]!
     ·rw [if_pos ha] at h2 ⊢; rw [Nat.add_mul, Nat.one_mul]; omega
     ·rw [if_neg ha] at h2 ⊢; omega
theorem uEQ {l out : List FR} {v k : Nat} (h : vWM l v k = some out) : out.length ≤ l.length + vB1 l v := by
 have := vUJ l.length (Nat.le_refl _) out h;have h2 := vQB l v l.length;unfold vB1; omega
theorem vT9 {n : Nat} {l0 : List FR} : ∀ k s, feI n l0 k = some s → s.l.length ≤ l0.length + 20000 * k
 | 0, s, h => by cases h; exact Nat.le_add_right _ _
 | k + 1, s, h => by
   unfold feI at h;cases hp : feI n l0 k with
   | none => rw [hp] at h; cases h
   | some s0 =>
     rw [hp] at h;have h1 := vT9 k s0 hp;dsimp only at h;unfold feS at h
     split at h
     ·cases h
     ·split at h
      ·cases h
      ·rename_i hle
       split at h
       ·cases h
       ·rename_i hE
        cases h
        have := uEQ hE;dsimp only;omega
noncomputable def rw0 (A : List QF) (n i : Nat) : List FR := (List.range i).map fun j => ⟨(vEH (frX A[j]! (n + 1))).1, 2 ^ j⟩
def uCX (A : List QF) (n i : Nat) : Prop := ∀ j, j < i → (vEH (frX A[j]! (n + 1))).2 = true
theorem uCW (A : List QF) (n i : Nat) : (rw0 A n i).length = i := by simp [rw0]
theorem vW7 (A : List QF) (n i : Nat) : rw0 A n (i + 1) = rw0 A n i ++ [⟨(vEH (frX A[i]! (n + 1))).1, 2 ^ i⟩] := by
 unfold rw0; rw [List.range_succ, List.map_append]; rfl
theorem vQ7 {A : List QF} {n i : Nat} (h : uCX A n i) (hi : i ≤ 62) : ∀ r ∈ rw0 A n i, okRw (n + 2) r := fun r hr => by
 obtain ⟨j, hj, rfl⟩ := List.mem_map.1 hr;have hj := List.mem_range.1 hj;obtain ⟨h1, h2, _⟩ := vUP (h j hj);exact ⟨by show (vEH _).1.length = _; rw [h1, vGL], h2, Nat.lt_of_lt_of_le (Nat.pow_lt_pow_right (by decide) (show j < 62 by omega)) (by decide)⟩
open Classical in
noncomputable def vEU (A : List QF) (n : Nat) : Int × Rat := if A.length ≤ 62 ∧ uCX A n A.length then feV n (rw0 A n A.length) else (0, 0)
def vJZ (l : List QT) (y : Nat → Rat) : Nat → Rat
 | 0 => 0
 | i + 1 => vJZ l y i + cf l i * y i
theorem vL0 {c : List Int} {f : QF} {y : Nat → Rat} {s : Rat} : ∀ (m : Nat), (∀ (i : Nat), i < m → ((c[i]! : Int) : Rat) = s * cf f.ts i) → vHF c y m = s * (vJZ f.ts y m)
 | 0, _ => by simp only [vHF, vJZ]; grind
 | m + 1, h => by
   simp only [vHF, vJZ];rw [vL0 m fun i hi => h i (by omega), h m (Nat.lt_succ_self _)]; grind
theorem vLO (y : Nat → Rat) : ∀ m, vJZ [] y m = 0
 | 0 => rfl
 | m + 1 => by simp only [vJZ]; rw [vLO y m]; simp only [cf]; grind
theorem vLP (p : QT) (l : List QT) (y : Nat → Rat) : ∀ m : Nat, (m : Int) ≤ p.1 → vJZ (p :: l) y m = vJZ l y m
 | 0, _ => rfl
 | m + 1, h => by
   simp only [vJZ];rw [vLP p l y m (by omega)];simp only [cf];rw [if_neg (show ¬ p.1 = (m : Int) by omega)]; grind
theorem vHO (p : QT) (l : List QT) (y : Nat → Rat) (h0 : 0 ≤ p.1) : ∀ m : Nat, p.1 < (m : Int) → vJZ (p :: l) y m = p.2 * y p.1.toNat + vJZ l y m
 | 0, h => by omega
 | m + 1, h => by
   simp only [vJZ];simp only [cf];by_cases e : p.1 = (m : Int)
   ·rw [vLP p l y m (by omega), if_pos e, show p.1.toNat = m by omega]; grind
   ·rw [vHO p l y h0 m (by omega), if_neg e]; grind
theorem vLQ {y : Nat → Rat} {X : List Rat} {m : Nat} (hy : ∀ i, i < m → y i = X[i]!) : ∀ l : List QT, (∀ t ∈ l, 0 ≤ t.1 ∧ t.1 < (m : Int)) → vJZ l y m = dot X l
 | [], _ => vLO y m
 | p :: l, h => by
   have h1 := h p (by simp);rw [vHO p l y h1.1 m h1.2, vLQ hy l fun t ht => h t (List.mem_cons_of_mem _ ht), hy _ (by omega)]; rfl
def ptX (X : List Rat) (n : Nat) (i : Nat) : Rat := if i = n + 1 then 1 else X[i]!
theorem uGS {f : QF} {X : List Rat} {n : Nat} (hf : ∀ t ∈ f.ts, 0 ≤ t.1 ∧ t.1 < ((n + 1 : Nat) : Int)) {c : List Int} {s : Rat} (h : ∀ i, i < n + 2 → ((c[i]! : Int) : Rat) = s * (frX f (n + 1))[i]!) : vHF c (ptX X n) (n + 2) = s * evQ f X := by
 have e1 : vHF c (ptX X n) (n + 1) = s * vJZ f.ts (ptX X n) (n + 1) := vL0 (n + 1) fun i hi => by rw [h i (by omega), vK0 (by omega), if_pos (by omega)]
 have e2 : vJZ f.ts (ptX X n) (n + 1) = dot X f.ts := vLQ (fun i hi => by unfold ptX; rw [if_neg (by omega)]) _ hf;show vHF c (ptX X n) (n + 1) + ((c[n + 1]! : Int) : Rat) * ptX X n (n + 1) = _
 rw [e1, e2, h (n + 1) (by omega), vK0 (by omega), if_neg (by omega), zEO];unfold ptX; rw [if_pos rfl]; grind
theorem rw0_holds {A : List QF} {X : List Rat} {n : Nat} (hB : uCX A n A.length) (hf : ∀ f ∈ A, (∀ t ∈ f.ts, 0 ≤ t.1 ∧ t.1 < ((n + 1 : Nat) : Int)) ∧ 0 ≤ evQ f X) : ∀ r ∈ rw0 A n A.length, vCU (n + 2) (ptX X n) r := fun r hr => by
 obtain ⟨j, hj, rfl⟩ := List.mem_map.1 hr;have hj := List.mem_range.1 hj;obtain ⟨h1, h2, s, hs, h3⟩ := vUP (hB j hj);obtain ⟨g1, g2⟩ := hf _ (vN1 hj);unfold vCU;show 0 ≤ vHF (vEH (frX A[j]! (n + 1))).1 _ _
 rw [uGS g1 fun i hi => h3 i (by rw [vGL]; exact hi)];exact Rat.mul_nonneg (Rat.le_of_lt hs) g2
theorem vTJ {A : List QF} {X : List Rat} {n : Nat} (hf : ∀ f ∈ A, (∀ t ∈ f.ts, 0 ≤ t.1 ∧ t.1 < ((n + 1 : Nat) : Int)) ∧ 0 ≤ evQ f X) : (vEU A n).1 = 0 ∨ (vEU A n).1 = 3 ∨ (vEU A n).1 = 1 ∧ (vEU A n).2 ≤ X[n]! := by
 unfold vEU
 split
 ·rename_i hc
  have := uH1 (n := n) (y := ptX X n) (vQ7 hc.2 hc.1) (rw0_holds hc.2 hf) (by unfold ptX; rw [if_pos rfl]);have e : ptX X n n = X[n]! := by unfold ptX; rw [if_neg (by omega)]
  rwa [e] at this
 ·exact Or.inl rfl
theorem vUM {x : List Rat} {t : Rat} : ∀ l : List QT, (∀ p ∈ l, 0 ≤ p.1 ∧ p.1 < (x.length : Int)) → dot (x ++ [t]) l = dot x l
 | [], _ => rfl
 | p :: l, h => by
   have h1 := h p (by simp)
   have e : (x ++ [t])[p.1.toNat]! = x[p.1.toNat]! := by
    rw [getElem!_pos (x ++ [t]) p.1.toNat (by simp; omega), getElem!_pos x p.1.toNat (by omega), List.getElem_append_left]
   simp only [dot];rw [e, vUM l fun q hq => h q (List.mem_cons_of_mem _ hq)]
theorem uBM {x : List Rat} {t : Rat} {f : QF} (h : ∀ p ∈ f.ts, 0 ≤ p.1 ∧ p.1 < (x.length : Int)) : evQ f (x ++ [t]) = evQ f x := by
 rw [zEO, zEO, vUM _ h]
theorem vRN {n : Nat} {x : List Rat} {O : QF} {R : List QF} {vq : QF} (hx : x.length = n) (hO : okF n O) (hR : ∀ f ∈ R, okF n f ∧ 0 ≤ evQ f x) (hv : vq = ⟨[((n : Int), 1)], 0⟩) : ((vEU ([vA3 vq O (-1), vA3 zeroQ (vA3 vq O (-1)) (-1)] ++ R) n).1 = 0 ∨ (vEU ([vA3 vq O (-1), vA3 zeroQ (vA3 vq O (-1)) (-1)] ++ R) n).1 = 3 ∨ (vEU ([vA3 vq O (-1), vA3 zeroQ (vA3 vq O (-1)) (-1)] ++ R) n).1 = 1 ∧ (vEU ([vA3 vq O (-1), vA3 zeroQ (vA3 vq O (-1)) (-1)] ++ R) n).2 ≤ evQ O x) := by
 have hlast : (x ++ [evQ O x])[n]! = evQ O x := by
  rw [getElem!_pos _ n (by simp [hx]), List.getElem_append_right (by omega)]; simp [hx]
 have hev : evQ vq (x ++ [evQ O x]) = evQ O x := by
  rw [hv, zEO];simp only [dot, Int.toNat_natCast];rw [hlast]; grind
 have hOx : evQ O (x ++ [evQ O x]) = evQ O x := uBM fun p hp => by rw [hx]; exact hO.2 p hp
 have hT : evQ (vA3 vq O (-1)) (x ++ [evQ O x]) = 0 := by rw [zEN, hev, hOx]; grind
 have hTv : ∀ t ∈ (vA3 vq O (-1)).ts, 0 ≤ t.1 ∧ t.1 < ((n + 1 : Nat) : Int) := fun t ht => by
  rcases zB9 _ _ _ _ (Nat.le_refl _) t ht with ⟨p, hp, e⟩ | ⟨p, hp, e⟩
  ·rw [hv] at hp
   rw [List.mem_singleton.1 hp] at e;dsimp only at e; omega
  ·have := hO.2 p hp; omega
 have := vTJ (A := [vA3 vq O (-1), vA3 zeroQ (vA3 vq O (-1)) (-1)] ++ R) (X := x ++ [evQ O x]) (n := n) fun f hf => by
  rcases List.mem_append.1 hf with hf | hf
  ·rcases List.mem_cons.1 hf with rfl | hf
   ·exact ⟨hTv, by rw [hT]; exact Rat.le_refl⟩
   ·rw [List.mem_singleton.1 hf]
    refine ⟨fun t ht => ?_, by rw [zEN, hT, zKV]; grind⟩;rcases zB9 _ _ _ _ (Nat.le_refl _) t ht with ⟨p, hp, e⟩ | ⟨p, hp, e⟩
    ·cases hp
    ·have := hTv p hp; omega
  ·obtain ⟨g1, g2⟩ := hR f hf
   exact ⟨fun t ht => by have := g1.2 t ht; omega, by rw [uBM fun p hp => by rw [hx]; exact g1.2 p hp]; exact g2⟩
 rwa [hlast] at this
def uB4 (r : RegL) (i : Nat) : List QF := (List.range i).flatMap fun (j : Nat) => [vA3 (vB6 j) ⟨[], qv r.lo[j]!⟩ (-1), vA3 ⟨[], qv r.hi[j]!⟩ (vB6 j) (-1)]
def uB3 (r : RegL) : List QF := uB4 r r.lo.length ++ r.rows.map AffL.Q
theorem vJI (r : RegL) (i : Nat) : uB4 r (i + 1) = uB4 r i ++ [vA3 (vB6 i) ⟨[], qv r.lo[i]!⟩ (-1), vA3 ⟨[], qv r.hi[i]!⟩ (vB6 i) (-1)] := by
 unfold uB4; rw [List.range_succ, List.flatMap_append]; simp
theorem zK2 (r : RegL) : ∀ i, (uB4 r i).length = 2 * i
 | 0 => rfl
 | i + 1 => by rw [vJI, List.length_append, zK2 r i]; simp; omega
def vCJ : Nat → List Int → List (List Int)
 | 0, p => [p]
 | m + 1, p => vCJ m (p ++ [1]) ++ vCJ m (p ++ [2])
theorem vMD : ∀ (m : Nat) (p s : List Int), s.length = m → (∀ a ∈ s, a = 1 ∨ a = 2) → p ++ s ∈ vCJ m p
 | 0, p, s, h, _ => by
   have : s = [] := List.length_eq_zero_iff.1 h;subst this; simp [vCJ]
 | m + 1, p, a :: s, h, ha => by
   have ih := vMD m (p ++ [a]) s (by simpa using h) fun b hb => ha b (List.mem_cons_of_mem _ hb)
   rw [List.append_assoc] at ih;unfold vCJ;rcases ha a (by simp) with rfl | rfl
   ·exact List.mem_append_left _ ih
   ·exact List.mem_append_right _ ih
def uI6 (o : Option (Int × Rat)) (s : Int × Rat) : Option (Int × Rat) := match o with
 | none => none
 | some c => if s.1 = 0 ∨ s.1 = 3 then none else if s.1 = 1 ∧ (c.1 = 2 ∨ s.2 < c.2) then some s else some c
def vEI (P : Nat → Int × Rat) : Nat → Option (Int × Rat)
 | 0 => some (2, 0)
 | i + 1 => uI6 (vEI P i) (P i)
def vPJ (P : Nat → Int × Rat) (N : Nat) : Int × Rat := match vEI P N with
 | none => (0, 0)
 | some s => s
theorem vI4 {P : Nat → Int × Rat} {i : Nat} (h : vEI P i = none) : ∀ j, i ≤ j → vEI P j = none
 | 0, hj => by have : i = 0 := by omega
               subst this; exact h
 | j + 1, hj => by
   by_cases e : i = j + 1
   ·subst e; exact h
   ·unfold vEI; rw [vI4 h j (by omega)]; rfl
theorem vUS {P : Nat → Int × Rat} : ∀ i s, vEI P i = some s → s.1 = 1 ∨ s.1 = 2
 | 0, s, h => by cases h; exact Or.inr rfl
 | i + 1, s, h => by
   unfold vEI at h;cases hp : vEI P i with
   | none => rw [hp] at h; cases h
   | some c =>
     rw [hp] at h;unfold uI6 at h;dsimp only at h
     split at h
     ·cases h
     ·split at h
      ·rename_i hc
       cases h; exact Or.inl hc.1
      ·rw [← Option.some.inj h]; exact vUS i c hp
theorem vI5 {P : Nat → Int × Rat} {t : Rat} {j : Nat} (hj : (P j).1 = 0 ∨ (P j).1 = 3 ∨ (P j).1 = 1 ∧ (P j).2 ≤ t) : ∀ i, j < i → ∀ s, vEI P i = some s → s.1 = 1 ∧ s.2 ≤ t
 | 0, h, _, _ => by omega
 | i + 1, h, s, hs => by
   unfold vEI at hs;cases hp : vEI P i with
   | none => rw [hp] at hs; cases hs
   | some c =>
     rw [hp] at hs;unfold uI6 at hs;dsimp only at hs
     split at hs
     ·cases hs
     ·rename_i hn
      by_cases e : j = i
      ·subst e
       have h1 : (P j).1 = 1 ∧ (P j).2 ≤ t := by
        rcases hj with h | h | h
        ·exact absurd (Or.inl h) hn
        ·exact absurd (Or.inr h) hn
        ·exact h
       split at hs
       ·cases hs; exact h1
       ·rename_i hc
        have hs := Option.some.inj hs;rw [← hs];have hst := vUS _ _ hp;have hne : ¬ (c.1 = 2 ∨ (P j).2 < c.2) := fun e => hc ⟨h1.1, e⟩
        refine ⟨?_, ?_⟩
        ·rcases hst with h | h
         ·exact h
         ·exact absurd (Or.inl h) hne
        ·have : ¬ (P j).2 < c.2 := fun e => hne (Or.inr e)
         exact Rat.le_trans (Rat.not_lt.1 this) h1.2
      ·obtain ⟨k1, k2⟩ := vI5 hj i (by omega) c hp
       split at hs
       ·rename_i hc
        cases hs
        refine ⟨hc.1, ?_⟩;rcases hc.2 with h | h
        ·omega
        ·exact Rat.le_trans (Rat.le_of_lt h) k2
       ·rw [← Option.some.inj hs]; exact ⟨k1, k2⟩
theorem vPI {P : Nat → Int × Rat} {N j : Nat} {t : Rat} (hj : j < N) (h : (P j).1 = 0 ∨ (P j).1 = 3 ∨ (P j).1 = 1 ∧ (P j).2 ≤ t) : (vPJ P N).1 = 0 ∨ (vPJ P N).1 = 1 ∧ (vPJ P N).2 ≤ t := by
 unfold vPJ;cases hd : vEI P N with
 | none => exact Or.inl rfl
 | some s => exact Or.inr (vI5 h N hj s hd)
theorem uBQ {l : List FR} {n m : Nat} (hr : ∀ r ∈ l, okRw m r) (hn : n + 1 < m) : ∀ i, i ≤ l.length → ∀ s, enI l n i = some s → sz 2 s.least ∧ sz 2 s.most
 | 0, _, s, h => by cases h; exact ⟨vP3 (by decide), vP3 (by decide)⟩
 | i + 1, hi, s, h => by
   unfold enI at h;cases hp : enI l n i with
   | none => rw [hp] at h; cases h
   | some c =>
     rw [hp] at h;dsimp only at h
     split at h
     ·cases h
     ·have ho := hr l[i]! (vN1 (by omega))
      have hol := ho.len;rw [← Option.some.inj h];exact uBP (ho.at (i := n) (by omega)) (ho.at (i := n + 1) hn) (uBQ hr hn i (by omega) c hp)
theorem uEO {l : List FR} {n m : Nat} (hr : ∀ r ∈ l, okRw m r) (hn : n + 1 < m) : sz 2 (vM4 l n).2 := by
 unfold vM4 enR;cases he : enI l n l.length with
 | none => exact vP3 (by decide)
 | some s =>
   dsimp only
   split
   ·exact vP3 (by decide)
   ·split
    ·exact vP3 (by decide)
    ·exact (uBQ hr hn _ (Nat.le_refl _) s he).1
theorem uBF (A : List QF) (n : Nat) : sz 2 (vEU A n).2 := by
 unfold vEU
 split
 ·rename_i hc
  unfold feV;cases hf : feI n (rw0 A n A.length) n with
  | none => exact vP3 (by decide)
  | some s => exact uEO (vIT (vQ7 hc.2 hc.1) (by omega) n (Nat.le_refl _) s hf).rw (by omega)
 ·exact vP3 (by decide)
theorem vK7 {P : Nat → Int × Rat} (h : ∀ j, sz 2 (P j).2) : ∀ i s, vEI P i = some s → sz 2 s.2
 | 0, s, e => by cases e; exact vP3 (by decide)
 | i + 1, s, e => by
   unfold vEI at e;cases hp : vEI P i with
   | none => rw [hp] at e; cases e
   | some c =>
     rw [hp] at e;unfold uI6 at e;dsimp only at e
     split at e
     ·cases e
     ·split at e
      ·rw [← Option.some.inj e]; exact h i
      ·rw [← Option.some.inj e]; exact vK7 h i c hp
theorem vI3 {P : Nat → Int × Rat} {N j : Nat} (h : vEI P j = none) (hj : j ≤ N) : vPJ P N = (0, 0) := by unfold vPJ; rw [vI4 h N hj]
theorem vUQ {P : Nat → Int × Rat} {N : Nat} {s : Int × Rat} (h : vEI P N = some s) : vPJ P N = s := by unfold vPJ; rw [h]
theorem vUR {P : Nat → Int × Rat} {i : Nat} {s : Int × Rat} (h : vEI P i = some s) : vEI P (i + 1) = if (P i).1 = 0 ∨ (P i).1 = 3 then none else if (P i).1 = 1 ∧ (s.1 = 2 ∨ (P i).2 < s.2) then some (P i) else some s := by
 conv => lhs; unfold vEI
 rw [h]; rfl
theorem uEY {P : Nat → Int × Rat} (h : ∀ j, sz 2 (P j).2) (N : Nat) : sz 2 (vPJ P N).2 := by
 unfold vPJ;cases e : vEI P N with
 | none => exact vP3 (by decide)
 | some s => exact vK7 h N s e
def vDQ (q : QryL) (j : Nat) : List Int := (vCJ (usQ q).length [])[j]!
def vFD (q : QryL) (n : Nat) (p : List Int) : List QF := uB3 q.r ++ vCK q n p
noncomputable def pP (q : QryL) (n j : Nat) : Int × Rat := vEU ([vA3 (vB6 n) (vCF q n (vDQ q j)) (-1), vA3 zeroQ (vA3 (vB6 n) (vCF q n (vDQ q j)) (-1)) (-1)] ++ vFD q n (vDQ q j)) n
noncomputable def vK6 (q : QryL) (n : Nat) : Int × Rat := vPJ (pP q n) (2 ^ (usQ q).length)
theorem uB2 {q : QryL} {kg n : Nat} (h : smQ q kg) (hn : q.g.ins = (n : Int)) : ∀ f ∈ uB3 q.r, szF 64 f ∧ okF n f := fun f hf => by
 obtain ⟨n1, n2, n3, n4⟩ := h.nn hn;rcases List.mem_append.1 hf with hf | hf
 ·unfold uB4 at hf
  obtain ⟨j, hj, hf⟩ := List.mem_flatMap.1 hf;have hj := List.mem_range.1 hj;obtain ⟨b1, b2, _⟩ := h.bnd (i := j) hj;have hv := vE0 (j : Int);have hz := vJW (j : Int);have z1 : szF 60 (⟨[], qv q.r.lo[j]!⟩ : QF) := ⟨b1, fun p hp => by cases hp⟩;have z2 : szF 60 (⟨[], qv q.r.hi[j]!⟩ : QF) := ⟨b2, fun p hp => by cases hp⟩;rcases List.mem_cons.1 hf with rfl | hf
  ·refine ⟨zDJ hz z1 (kc := 1) ⟨by decide +kernel, by decide +kernel⟩ (by omega), zCW hv zCD, fun t ht => ?_⟩
   rcases zB9 _ _ _ _ (Nat.le_refl _) t ht with ⟨p, hp, e⟩ | ⟨p, hp, e⟩
   ·rw [List.mem_singleton.1 hp] at e
    dsimp only at e; omega
   ·cases hp
  ·rw [List.mem_singleton.1 hf]
   refine ⟨zDJ z2 hz (kc := 1) ⟨by decide +kernel, by decide +kernel⟩ (by omega), zCW zCD hv, fun t ht => ?_⟩;rcases zB9 _ _ _ _ (Nat.le_refl _) t ht with ⟨p, hp, e⟩ | ⟨p, hp, e⟩
   ·cases hp
   ·rw [List.mem_singleton.1 hp] at e
    dsimp only at e; omega
 ·obtain ⟨a, ha, rfl⟩ := List.mem_map.1 hf
  obtain ⟨j, hj, rfl⟩ := List.getElem_of_mem ha;have h1 := zCX (h.va.2.1.2.2.2.2.2 j hj);rw [getElem!_pos _ j hj, hn] at h1;have h2 := h.r.2.2.1 _ ha;exact ⟨zB0 (zBZ (by decide) h2) (by decide), by exact_mod_cast h1⟩
theorem vLZ {q : QryL} {kg n : Nat} (h : smQ q kg) (hn : q.g.ins = (n : Int)) (p : List Int) : ∀ f ∈ vFD q n p, szF 40001 f ∧ okF n f := fun f hf => by
 rcases List.mem_append.1 hf with hf | hf
 ·exact ⟨zD7 (by decide) (uB2 h hn f hf).1, (uB2 h hn f hf).2⟩
 ·obtain ⟨j, hj, rfl⟩ := List.mem_map.1 hf
  obtain ⟨r1, r2, r3⟩ := vJ5 h hn p (List.mem_range.1 hj);exact ⟨r2, r1⟩
theorem vW9 {q : QryL} {kg n : Nat} {x : List Rat} (h : smQ q kg) (hn : q.g.ins = (n : Int)) (hx : x.length = n) (hin : inQ q x) : ∀ f ∈ vFD q n (phO q x), 0 ≤ evQ f x := fun f hf => by
 obtain ⟨n1, n2, n3, n4⟩ := h.nn hn;have hw := vFC h hn hx hin;rcases List.mem_append.1 hf with hf | hf
 ·rcases List.mem_append.1 hf with hf | hf
  ·unfold uB4 at hf
   obtain ⟨j, hj, hf⟩ := List.mem_flatMap.1 hf;have hj := List.mem_range.1 hj;have hb := hin.2.1 j (by omega)
   have hvj : evQ (vB6 j) x = x[j]! := by
    rw [zEO];simp only [vB6, dot, Int.toNat_natCast]; grind
   rcases List.mem_cons.1 hf with rfl | hf
   ·rw [zEN, hvj, vGR rfl]; grind
   ·rw [List.mem_singleton.1 hf, zEN, hvj, vGR rfl]; grind
  ·exact (hw f (List.mem_append_right _ hf)).2
 ·exact (hw f (List.mem_append_left _ hf)).2
theorem vXE (q : QryL) (x : List Rat) : ∀ a ∈ phO q x, a = 1 ∨ a = 2 := fun a ha => by
 obtain ⟨v, _, rfl⟩ := List.mem_map.1 ha
 split
 ·exact Or.inr rfl
 ·exact Or.inl rfl
theorem vPK {q : QryL} {kg n : Nat} {x : List Rat} (h : smQ q kg) (hkg : kg ≤ 200) (hn : q.g.ins = (n : Int)) (hx : x.length = n) (hin : inQ q x) : (vK6 q n).1 = 0 ∨ (vK6 q n).1 = 1 ∧ (vK6 q n).2 ≤ vBX q x := by
 have hm := vMD (usQ q).length [] (phO q x) (zHI q x) (vXE q x);rw [List.nil_append] at hm;obtain ⟨j, hj, e⟩ := List.getElem_of_mem hm
 have hlen : ∀ (m : Nat) (p : List Int), (vCJ m p).length = 2 ^ m := fun m => by
  induction m with
  | zero => intro p; rfl
  | succ m ih => intro p; simp only [vCJ, List.length_append, ih]; omega
 have hj2 := hj;rw [hlen] at hj2;have ep : vDQ q j = phO q x := by unfold vDQ; rw [getElem!_pos _ j hj, e]
 refine vPI hj2 ?_;unfold pP;rw [ep, ← vGE h hn hx zHJ (vMB q x)];exact vRN hx (zKR h hkg hn _).1 (fun f hf => ⟨(vLZ h hn _ f hf).2, vW9 h hn hx hin f hf⟩) rfl
end Go.PI
