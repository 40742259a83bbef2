/-
  The example of chapter 43; points that bytes describe; a goal that is moved. No program in sight.
-/
import Derived.Test.YtdgckinmcnjheaaGreatCPD
set_option linter.unusedVariables false
set_option linter.unusedSimpArgs false
set_option linter.unnecessarySimpa false
namespace Go.PI
open Go.RowKit
theorem LeS_nil {G : Gl} {n0 : Nat} {s : St} {j sz : Nat} {agg : Bool} (hj : s.t j = .nilsl) :
 LeS G n0 s ⟨tset s.t j (.own s.nx 0 0), hset s.h s.nx (some ⟨[], sz, agg⟩), s.z, s.nx + 1⟩ := by
 intro E N df a w A κ hE hR;have hf := hR.fresh s.nx (Nat.le_refl _);have hn : E.n0 ≤ s.nx := hR.n0;have hk := hf.2.2;have hle := zC7 (0, sz, 0) hk;refine ⟨A, kset κ s.nx (0, sz, 0), ⟨hR.hr.empty hn hk, fun r hr => ?_, Nat.le_succ_of_le hn, fun i hi => ?_, hR.size, hR.df⟩⟩
 ·have hr' : s.nx + 1 ≤ r := hr
  have hne : r ≠ s.nx := by omega
  have h := hR.fresh r (by omega);exact ⟨by simp only [hset, if_neg hne]; exact h.1, h.2.1, by rw [zAQ κ _ hne]; exact h.2.2⟩
 ·show RV w A _ (tset s.t j (.own s.nx 0 0) i) _
  have hv := hR.tm i hi;unfold tset
  split
  ·rename_i e
   subst e;rw [hj] at hv;rw [hv.nilsl_inv];exact zEQ (zAY ..) none
  ·exact hv.mono (fun _ h => h) (fun _ _ _ => rfl) hle
theorem HR.retell {E : Env} {G : Gl} {w : World} {A : Nat → Prop} {κ : Ka} {h : Hp} {z : Fz} (H : HR E G w A κ h z) {r : Nat} {b b' : Blk} (hb : h r = some b) (hsz : b'.sz = b.sz) (hagg : b'.agg = b.agg) (hlen : b'.els.length ≤ b.els.length)
 (hel : ∀ (i : Nat) (e' : PV), b'.els[i]? = some e' → ∃ e : PV, b.els[i]? = some e ∧ e'.cells.length = e.cells.length ∧ e'.isAgg = e.isAgg ∧ ∀ (j : Nat) (d' : PV), e'.cells[j]? = some d' → ∃ d : PV, e.cells[j]? = some d ∧ ∀ v, RV w A κ d v → RV w A κ d' v)
 (hg : ∀ i, b = gblk i → b' = b) : HR E G w A κ (hset h r (some b')) z := by
 have get : ∀ r' q, hset h r (some b') r' = some q → ∃ q0, h r' = some q0 ∧ (q = q0 ∨ (r' = r ∧ q = b' ∧ q0 = b)) := fun r' q hq => by
  unfold hset at hq
  split at hq
  ·rename_i e; subst e; cases hq; exact ⟨b, hb, Or.inr ⟨rfl, rfl, rfl⟩⟩
  ·exact ⟨q, hq, Or.inl rfl⟩
 refine ⟨H.bel, H.hB, H.alt, H.a0, H.a1, H.acell, H.k0, H.glob, H.klt, ⟨H.kp.base, H.kp.keep, H.kp.wr, fun r' q m sz cap hq hκ hc hz => ?_, H.kp.mks, H.kp.nd, H.kp.kb, H.kp.kk, H.kp.zk, H.kp.mk0, fun g => ⟨(H.kp.gk g).1, (H.kp.gk g).2.1, fun q hq => ?_⟩⟩, fun r' q hq hκ => ?_, fun r1 r2 q1 q2 m1 m2 s1 s2 c1 c2 hne h1 h2 => ?_⟩
 ·obtain ⟨q0, h1, _⟩ := get r' q hq
  exact H.kp.own r' q0 m sz cap h1 hκ hc hz
 ·obtain ⟨q0, h1, h2⟩ := get 0 q hq
  have e := (H.kp.gk g).2.2 q0 h1;rcases h2 with rfl | ⟨_, rfl, rfl⟩
  ·exact e
  ·rw [hg _ e]; exact e
 ·obtain ⟨q0, h1, h2⟩ := get r' q hq
  rcases h2 with rfl | ⟨rfl, rfl, rfl⟩
  ·exact H.blk r' q h1 hκ
  ·obtain ⟨m, cap, g1, g2, g3, g4⟩ := H.blk r' q0 h1 hκ
   refine ⟨m, cap, by rw [hsz]; exact g1, by omega, fun e' he => ?_, ?_⟩
   ·obtain ⟨i, hi, rfl⟩ := List.getElem_of_mem he
    obtain ⟨e, e1, e2, e3, _⟩ := hel i _ (List.getElem?_eq_getElem hi);have := g3 e (List.mem_of_getElem? e1);rw [e2, e3, hsz, hagg]; exact this
   ·rcases g4 with g4 | ⟨c, ty, f1, f2, f3, f4, f5, f6, f7⟩
    ·exact Or.inl g4
    ·refine Or.inr ⟨c, ty, f1, f2, by rw [hsz]; exact f3, f4, fun i e' he j d' hd => ?_, f6, f7⟩
     rw [hsz];obtain ⟨e, e1, e2, e3, e4⟩ := hel i e' he;obtain ⟨d, d1, d2⟩ := e4 j d' hd;obtain ⟨u, t1, t2, t3⟩ := f5 i e e1 j d d1;exact ⟨u, t1, d2 u t2, t3⟩
 ·obtain ⟨p1, g1, _⟩ := get r1 q1 h1
  obtain ⟨p2, g2, _⟩ := get r2 q2 h2;exact H.excl r1 r2 p1 p2 m1 m2 s1 s2 c1 c2 hne g1 g2
def setC (b : Blk) (i c : Nat) (v : PV) : Blk := match b.els[i]? with
 | some (.agg cs) => ⟨b.els.set i (.agg (cs.set c v)), b.sz, b.agg⟩
 | _ => b
theorem LeS_nilB {G : Gl} {n0 : Nat} {s : St} {r i c sz : Nat} {agg : Bool} {b : Blk} {cs : List PV} (hb : s.h r = some b) (hi : b.els[i]? = some (.agg cs)) (hc : cs[c]? = some .nilsl) :
 LeS G n0 s ⟨s.t, hset (hset s.h s.nx (some ⟨[], sz, agg⟩)) r (some (setC b i c (.own s.nx 0 0))), s.z, s.nx + 1⟩ := by
 intro E N df a w A κ hE hR;have hf := hR.fresh s.nx (Nat.le_refl _);have hn : E.n0 ≤ s.nx := hR.n0;have hk := hf.2.2;have hle := zC7 (0, sz, 0) hk;have hrn : r < s.nx := Nat.lt_of_not_le fun e => by have := (hR.fresh r e).1; rw [this] at hb; cases hb
 have eset : setC b i c (.own s.nx 0 0) = ⟨b.els.set i (.agg (cs.set c (.own s.nx 0 0))), b.sz, b.agg⟩ := by unfold setC; rw [hi]
 have H1 := hR.hr.empty (sz := sz) (agg := agg) hn hk;have hb1 : hset s.h s.nx (some ⟨[], sz, agg⟩) r = some b := by simp only [hset, if_neg (show r ≠ s.nx by omega)]; exact hb
 have H2 : HR E G w A (kset κ s.nx (0, sz, 0)) (hset (hset s.h s.nx (some ⟨[], sz, agg⟩)) r (some (setC b i c (.own s.nx 0 0)))) s.z := by
  rw [eset];refine H1.retell hb1 rfl rfl (by simp) (fun j e' he => ?_) (fun k e => ?_)
  ·rw [List.getElem?_set] at he
   split at he
   ·rename_i e
    subst e
    split at he
    ·cases he
     refine ⟨_, hi, by simp [PV.cells], rfl, fun q d' hd => ?_⟩;simp only [PV.cells, List.getElem?_set] at hd
     split at hd
     ·rename_i e
      subst e
      split at hd
      ·cases hd
       refine ⟨_, hc, fun v hv => ?_⟩;rw [hv.nilsl_inv];exact zEQ (zAY ..) none
      ·cases hd
     ·exact ⟨d', hd, fun _ h => h⟩
    ·cases he
   ·exact ⟨e', he, rfl, rfl, fun q d' hd => ⟨d', hd, fun _ h => h⟩⟩
  ·subst e
   match i, hi with
   | 0, hi => simp [gblk] at hi
   | i + 1, hi => simp [gblk] at hi
 refine ⟨A, kset κ s.nx (0, sz, 0), ⟨H2, fun q hq => ?_, Nat.le_succ_of_le hn, fun j hj => ?_, hR.size, hR.df⟩⟩
 ·have hq' : s.nx + 1 ≤ q := hq
  have hne : q ≠ s.nx := by omega
  have h := hR.fresh q (by omega);exact ⟨by simp only [hset, if_neg hne, if_neg (show q ≠ r by omega)]; exact h.1, h.2.1, by rw [zAQ κ _ hne]; exact h.2.2⟩
 ·exact (hR.tm j hj).mono (fun _ h => h) (fun _ _ _ => rfl) hle
inductive Np where
 | sl (j : Nat)
 | cl (r i c : Nat)
def nilS : St → List (Np × Nat × Bool) → St
 | s, [] => s
 | ⟨t, h, z, nx⟩, (.sl j, sz, agg) :: l => nilS ⟨ts t j (.own nx 0 0), hs h nx (some ⟨[], sz, agg⟩), z, nx + 1⟩ l
 | ⟨t, h, z, nx⟩, (.cl r i c, sz, agg) :: l => (match h r with
   | some b => nilS ⟨t, hs (hs h nx (some ⟨[], sz, agg⟩)) r (some (setC b i c (.own nx 0 0))), z, nx + 1⟩ l
   | none => ⟨t, h, z, nx⟩)
def nilOk : St → List (Np × Nat × Bool) → Prop
 | _, [] => True
 | ⟨t, h, z, nx⟩, (.sl j, sz, agg) :: l => t j = .nilsl ∧ nilOk ⟨ts t j (.own nx 0 0), hs h nx (some ⟨[], sz, agg⟩), z, nx + 1⟩ l
 | ⟨t, h, z, nx⟩, (.cl r i c, sz, agg) :: l => ∃ b cs, h r = some b ∧ b.els[i]? = some (.agg cs) ∧ cs[c]? = some .nilsl ∧ nilOk ⟨t, hs (hs h nx (some ⟨[], sz, agg⟩)) r (some (setC b i c (.own nx 0 0))), z, nx + 1⟩ l
theorem zLU {G : Gl} {n0 : Nat} : ∀ {N : List (Np × Nat × Bool)} {s s' : St}, nilOk s N → LeS G n0 (nilS s N) s' → LeS G n0 s s'
 | [], ⟨t, h, z, nx⟩, s', _, hl => hl
 | (.sl j, sz, agg) :: l, ⟨t, h, z, nx⟩, s', hN, hl => by
   have h1 := LeS_nil (G := G) (n0 := n0) (s := ⟨t, h, z, nx⟩) (sz := sz) (agg := agg) hN.1;refine h1.trans ?_;have h2 := zLU (N := l) hN.2 hl;rw [ts_eq, zE2] at h2;exact h2
 | (.cl r i c, sz, agg) :: l, ⟨t, h, z, nx⟩, s', hN, hl => by
   obtain ⟨b, cs, g1, g2, g3, g4⟩ := hN;have h1 := LeS_nilB (G := G) (n0 := n0) (s := ⟨t, h, z, nx⟩) (sz := sz) (agg := agg) g1 g2 g3;refine h1.trans ?_;unfold nilS at hl;rw [g1] at hl;have h2 := zLU (N := l) g4 hl;rw [zE2, zE2] at h2;exact h2
section
variable {P : Program} {T : Ti} {G : Gl} {n0 : Nat}
theorem tellV {K : St → Prop} {Q : Exit → St → Prop} {s : St} (N : List (Np × Nat × Bool)) (L : List (Nat × PV)) (H : List (Nat × Blk)) (Z : List Nat) (k : Nat) (hk : n0 ≤ k) (hZ : ∀ r ∈ Z, r < k) (hN : nilOk s N) (hs : Kept n0 (nilS s N) L H Z k)
 (h : K ⟨sv L, hv H, zv Z, k⟩) : thenL (LeS G, n0) K Q .normal s := tell_to (zLU hN (hs.le hk hZ)) (by rw [← sv_eq, ← hv_eq, ← zv_eq]; exact h)
theorem zBV (hT : ∀ i x, T i = some x → tinfo P i = x) {c : Code} {Q : Exit → St → Prop} {s : St} {ι : Type} (N : List (Np × Nat × Bool)) (L : ι → List (Nat × PV)) (H : ι → List (Nat × Blk)) (Z : List Nat) (k : Nat) (Inv : ι → Prop) (μ : ι → Nat) (i0 : ι) (h0 : Inv i0) (hk : n0 ≤ k) (hZ : ∀ r ∈ Z, r < k)
 (hN : nilOk s N) (hs : Kept n0 (nilS s N) (L i0) (H i0) Z k)
 (round : ∀ i, Inv i → VC P T G n0 c (thenQ (fun s' => ∃ i', (Inv i' ∧ μ i' < μ i) ∧ Kept n0 s' (L i') (H i') Z k) Q) ⟨sv (L i), hv (H i), zv Z, k⟩) :
 loopV P G (FnC P G) (FnH P G) (LeS G, n0) c Q s := by
 unfold loopV;refine zIV L H (fun _ => Z) k Inv μ i0 h0 (zLU hN (hs.le hk hZ)) fun i hi => ?_
 have := round i hi;rw [sv_eq, hv_eq, zv_eq] at this
 exact zLV hT (fun e s h => by
  cases e <;> first | (obtain ⟨i', ⟨h1, h2⟩, h3⟩ := h; exact ⟨i', h1, h2, h3.le hk hZ⟩) | exact h) this
end
end Go.PI
namespace Go.PI
theorem mk_coprime {z : Int} {d : Nat} (h : d ≠ 0) (hg : z.natAbs.gcd d = 1) : (mkRat z d).num = z ∧ (mkRat z d).den = d := by
 rw [mk_num z h, mk_den z h, hg]; simp
theorem subI (x : Rat) (f : Int) : (x - (f : Rat)).num = x.num - f * x.den ∧ (x - (f : Rat)).den = x.den := by
 have e : x - (f : Rat) = mkRat (x.num - f * x.den) x.den := by
  rw [Rat.sub_def']; simp
 rw [e];refine mk_coprime x.den_nz ?_
 have h1 : Int.gcd (x.num - f * x.den) x.den = Int.gcd x.num x.den := by
  simp
 have h2 : Int.gcd x.num x.den = 1 := x.reduced;rw [h2] at h1;exact h1
theorem addI (x : Rat) (f : Int) : ((f : Rat) + x).num = x.num + f * x.den ∧ ((f : Rat) + x).den = x.den := by
 have e : (f : Rat) + x = x - ((-f : Int) : Rat) := by rw [Rat.intCast_neg]; grind
 rw [e];have := subI x (-f);refine ⟨?_, this.2⟩;rw [this.1, Int.neg_mul]; omega
theorem zML (q : Rat) : 1 / q = q⁻¹ := by rw [Rat.div_def, Rat.one_mul]
theorem invP {q : Rat} (h : 0 < q) : (1 / q).num = q.den ∧ ((1 / q).den : Int) = q.num ∧ 0 < 1 / q := by
 have h1 : 0 < q.num := by
  have := (Rat.lt_iff 0 q).1 h
  simpa using this
 rw [zML];refine ⟨?_, ?_, Rat.inv_pos.2 h⟩
 ·rw [Rat.num_inv, Int.sign_eq_one_of_pos h1, Int.one_mul]
 ·rw [Rat.den_inv, if_neg (by omega)]; omega
theorem inv_le {a b : Rat} (ha : 0 < a) (h : a ≤ b) : 1 / b ≤ 1 / a := by
 have hb : 0 < b := by grind
 have h1 : a * (1 / b) ≤ b * (1 / b) := Rat.mul_le_mul_of_nonneg_right h (Rat.le_of_lt (invP hb).2.2);have e1 : b * (1 / b) = 1 := by rw [zML]; exact Rat.mul_inv_cancel b (Rat.ne_of_gt hb)
 have e2 : a * (1 / a) = 1 := by rw [zML]; exact Rat.mul_inv_cancel a (Rat.ne_of_gt ha)
 rw [e1] at h1;exact Rat.le_of_mul_le_mul_left (by rw [e2]; exact h1) ha
theorem inv_inv1 (a : Rat) : 1 / (1 / a) = a := by rw [zML, zML, Rat.inv_inv]
theorem zET {q : Rat} (h : 0 < q) : 0 < q.num := by
 have := (Rat.lt_iff 0 q).1 h
 simpa using this
def desc : Nat → Rat → Rat → Rat
 | 0, lo, _ => lo
 | n + 1, lo, hi => if ((lo.floor : Int) : Rat) = lo then ((lo.floor : Int) : Rat) else if ((lo.floor : Int) : Rat) + 1 ≤ hi then ((lo.floor : Int) : Rat) + 1
     else ((lo.floor : Int) : Rat) + 1 / desc n (1 / (hi - ((lo.floor : Int) : Rat))) (1 / (lo - ((lo.floor : Int) : Rat)))
structure SimpP (lo hi r : Rat) : Prop where
 ge : lo ≤ r
 le : r ≤ hi
 den : ∀ z, lo ≤ z → z ≤ hi → r.den ≤ z.den
 num : ∀ z, lo ≤ z → z ≤ hi → r.num ≤ z.num
structure DescS (n : Nat) (lo hi : Rat) : Prop where
 pos : 0 < lo
 le : lo ≤ hi
 den : lo.den + hi.den ≤ n
theorem floor_nn {q : Rat} (h : 0 < q) : 0 ≤ q.floor := by
 rw [Rat.le_floor_iff];exact Rat.le_of_lt h
theorem zI7 {n : Nat} {lo hi : Rat} (h : DescS (n + 1) lo hi) (h1 : ¬ ((lo.floor : Int) : Rat) = lo) (h2 : ¬ ((lo.floor : Int) : Rat) + 1 ≤ hi) :
 DescS n (1 / (hi - ((lo.floor : Int) : Rat))) (1 / (lo - ((lo.floor : Int) : Rat))) ∧ 0 < hi - ((lo.floor : Int) : Rat) ∧ 0 < lo - ((lo.floor : Int) : Rat)
 ∧ (lo - ((lo.floor : Int) : Rat)).num < lo.den ∧ (hi - ((lo.floor : Int) : Rat)).num < hi.den := by
 obtain ⟨p, le, hd⟩ := h;have f1 := Rat.floor_le lo;have f2 : ((lo.floor : Int) : Rat) < lo := Rat.lt_of_le_of_ne f1 h1;have hf := floor_nn p;generalize lo.floor = f at *
 have a1 : 0 < hi - (f : Rat) := by grind
 have b1 : 0 < lo - (f : Rat) := by grind
 have lt1 : ∀ x : Rat, x < (f : Rat) + 1 → (x - (f : Rat)).num < x.den := fun x hx => by
  have e := subI x f;have h3 : x - (f : Rat) < 1 := by grind
  have := (Rat.lt_iff _ _).1 h3;rw [e.2] at this
  simpa using this
 have n1 := lt1 hi (Rat.not_le.1 h2);have n2 := lt1 lo (by grind);refine ⟨⟨(invP a1).2.2, inv_le b1 (by grind), ?_⟩, a1, b1, n2, n1⟩;have d1 := (invP a1).2.1;have d2 := (invP b1).2.1;have p1 := zET a1;have p2 := zET b1;omega
theorem desc_ok : ∀ (n : Nat) (lo hi : Rat), DescS n lo hi → SimpP lo hi (desc n lo hi)
 | 0, lo, hi, h => by have := h.den; have := lo.den_pos; omega
 | n + 1, lo, hi, h => by
   have hs := zI7 h;obtain ⟨p, le, hd⟩ := h;have f1 := Rat.floor_le lo;have f3 := Rat.lt_floor_add_one lo;have hf := floor_nn p
   have hfl : ∀ z : Rat, lo ≤ z → lo.floor * z.den ≤ z.num := fun z hz => by
    have h3 : ((lo.floor : Int) : Rat) ≤ z := Rat.le_trans f1 hz;have := (Rat.le_iff _ _).1 h3
    simpa using this
   unfold desc
   split
   ·rename_i h1
    refine ⟨by rw [h1]; exact Rat.le_refl, by rw [h1]; exact le, fun z h2 h3 => by rw [Rat.den_intCast]; exact z.den_pos, fun z h2 h3 => ?_⟩;have := hfl z h2;have hz := z.den_pos;rw [Rat.num_intCast];have : lo.floor * 1 ≤ lo.floor * z.den := Int.mul_le_mul_of_nonneg_left (by omega) hf;omega
   ·rename_i h1
    have e1 : ((lo.floor : Int) : Rat) + 1 = ((lo.floor + 1 : Int) : Rat) := by rw [Rat.intCast_add, Rat.intCast_one]
    split
    ·rename_i h2
     refine ⟨?_, h2, fun z h3 h4 => ?_, fun z h3 h4 => ?_⟩
     ·rw [e1]; exact Rat.le_of_lt f3
     ·rw [e1, Rat.den_intCast]; exact z.den_pos
     ·rw [e1, Rat.num_intCast]
      have f2 : ((lo.floor : Int) : Rat) < lo := Rat.lt_of_le_of_ne f1 h1;have h5 : ((lo.floor : Int) : Rat) < z := by grind
      have h6 := (Rat.lt_iff _ _).1 h5;simp only [Rat.num_intCast, Rat.den_intCast] at h6;have hz := z.den_pos;have : lo.floor * 1 ≤ lo.floor * z.den := Int.mul_le_mul_of_nonneg_left (by omega) hf;omega
    ·rename_i h2
     obtain ⟨hn, a1, b1, n1, n2⟩ := hs h1 h2;have ih := desc_ok n _ _ hn;have hnp := hn.pos;obtain ⟨g1, g2, g3, g4⟩ := ih;generalize hy : desc n (1 / (hi - ((lo.floor : Int) : Rat))) (1 / (lo - ((lo.floor : Int) : Rat))) = y at *
     have yp : 0 < y := by grind
     have ipy := invP yp;have ad := addI (1 / y) lo.floor;have i1 := inv_le yp g2;have i2 := inv_le hnp g1;rw [inv_inv1] at i1 i2
     have key : ∀ z, lo ≤ z → z ≤ hi → y.num ≤ z.den ∧ (y.den : Int) ≤ z.num - lo.floor * z.den := fun z hz1 hz2 => by
      have z1 : 0 < z - ((lo.floor : Int) : Rat) := by grind
      have iz := invP z1;have sz := subI z lo.floor;have w1 := inv_le z1 (b := hi - ((lo.floor : Int) : Rat)) (by grind);have w2 := inv_le b1 (b := z - ((lo.floor : Int) : Rat)) (by grind);have k1 := g4 _ w1 w2;have k2 := g3 _ w1 w2;rw [iz.1, sz.2] at k1;refine ⟨k1, ?_⟩;have := iz.2.1;rw [sz.1] at this;omega
     refine ⟨by grind, by grind, fun z h3 h4 => ?_, fun z h3 h4 => ?_⟩
     ·rw [ad.2]
      have := (key z h3 h4).1;have := ipy.2.1;omega
     ·rw [ad.1, ipy.1, ipy.2.1]
      obtain ⟨k1, k2⟩ := key z h3 h4;have : lo.floor * y.num ≤ lo.floor * z.den := Int.mul_le_mul_of_nonneg_left k1 hf;omega
theorem sz_pos {k : Nat} {a b : Rat} (ha : 0 < a) (hn : a.num ≤ b.num) (hd : a.den ≤ b.den) (hb : sz k b) : sz k a := by
 have h1 := zET ha;exact ⟨Nat.lt_of_le_of_lt (by omega) hb.1, Nat.lt_of_le_of_lt hd hb.2⟩
theorem zJN {k : Nat} {a : Rat} (ha : 0 < a) (h : sz k a) : sz k (1 / a) := by
 obtain ⟨h1, h2, _⟩ := invP ha;have h3 := zET ha;exact ⟨by rw [h1]; simpa using h.2, by have := h.1; omega⟩
theorem desc_sz {n k : Nat} {lo hi : Rat} (h : DescS n lo hi) (hl : sz k lo) : sz k (desc n lo hi) ∧ 0 < desc n lo hi := by
 obtain ⟨h1, h2, h3, h4⟩ := desc_ok n lo hi h;have hp : 0 < desc n lo hi := by have := h.pos; grind
 exact ⟨sz_pos hp (h4 lo Rat.le_refl h.le) (h3 lo Rat.le_refl h.le) hl, hp⟩
theorem floor_sz {k : Nat} {lo : Rat} (h : 0 < lo) (hl : sz k lo) : sz k ((lo.floor : Int) : Rat) := by
 have hf := floor_nn h;have h3 := (Rat.le_iff _ _).1 (Rat.floor_le lo);simp only [Rat.num_intCast, Rat.den_intCast] at h3;have hz := lo.den_pos;have h4 : lo.floor * 1 ≤ lo.floor * lo.den := Int.mul_le_mul_of_nonneg_left (by omega) hf;refine ⟨Nat.lt_of_le_of_lt ?_ hl.1, Nat.lt_of_le_of_lt ?_ hl.2⟩
 ·rw [Rat.num_intCast]; omega
 ·rw [Rat.den_intCast]; exact hz
theorem desc_szs {n k : Nat} {lo hi : Rat} (h : DescS (n + 1) lo hi) (h1 : ¬ ((lo.floor : Int) : Rat) = lo) (h2 : ¬ ((lo.floor : Int) : Rat) + 1 ≤ hi) (hl : sz k lo) (hh : sz k hi) :
 sz k (hi - ((lo.floor : Int) : Rat)) ∧ sz k (lo - ((lo.floor : Int) : Rat)) := by
 obtain ⟨_, a1, b1, n1, n2⟩ := zI7 h h1 h2;have s1 := subI hi lo.floor;have s2 := subI lo lo.floor;have p1 := zET a1;have p2 := zET b1;exact ⟨⟨Nat.lt_of_le_of_lt (by omega) hh.2, by rw [s1.2]; exact hh.2⟩, ⟨Nat.lt_of_le_of_lt (by omega) hl.2, by rw [s2.2]; exact hl.2⟩⟩
def simp2 (lo hi : Rat) : Rat := if lo ≤ 0 ∧ 0 ≤ hi then 0 else if hi < 0 then - desc (hi.den + lo.den) (-hi) (-lo) else desc (lo.den + hi.den) lo hi
theorem simp2_ok {lo hi : Rat} (h : lo ≤ hi) : lo ≤ simp2 lo hi ∧ simp2 lo hi ≤ hi ∧ ∀ z, lo ≤ z → z ≤ hi → (simp2 lo hi).den ≤ z.den := by
 unfold simp2
 split
 ·rename_i h0
  exact ⟨h0.1, h0.2, fun z _ _ => z.den_pos⟩
 ·rename_i h0
  split
  ·rename_i h1
   obtain ⟨g1, g2, g3, _⟩ := desc_ok (hi.den + lo.den) (-hi) (-lo) ⟨by grind, by grind, by simp⟩;refine ⟨by grind, by grind, fun z h3 h4 => ?_⟩;have := g3 (-z) (by grind) (by grind)
   simpa using this
  ·rename_i h1
   obtain ⟨g1, g2, g3, _⟩ := desc_ok (lo.den + hi.den) lo hi ⟨by grind, h, Nat.le_refl _⟩;exact ⟨g1, g2, g3⟩
end Go.PI
namespace Go.PI
def dot (x : List Rat) : List QT → Rat
 | [] => 0
 | t :: l => t.2 * x[t.1.toNat]! + dot x l
theorem ev1_dot (x : List Rat) : ∀ (l : List QT) (y : Rat), ev1 x l y = y + dot x l
 | [], y => by simp only [ev1, List.foldl_nil, dot]; grind
 | t :: l, y => by
   have e : ev1 x (t :: l) y = ev1 x l (y + t.2 * x[t.1.toNat]!) := rfl;rw [e, ev1_dot x l]; simp only [dot]; grind
theorem zEN (x : List Rat) : ∀ (a b : List QT), dot x (a ++ b) = dot x a + dot x b
 | [], b => by simp only [List.nil_append, dot]; grind
 | t :: a, b => by simp only [List.cons_append, dot, zEN x a b]; grind
theorem zM6 (x : List Rat) (v : Int) (c : Rat) : dot x (nzq v c) = c * x[v.toNat]! := by
 unfold nzq; split
 ·rename_i h; subst h; simp only [dot]; grind
 ·simp only [dot]; grind
theorem zKG (x : List Rat) (c : Rat) : ∀ (n : Nat) (a b : List QT), a.length + b.length ≤ n → dot x (mrg c a b) = dot x a + c * dot x b
 | n, [], [], _ => by rw [mrg]; simp only [dot]; grind
 | 0, _ :: _, _, h => by simp at h
 | 0, _, _ :: _, h => by simp at h
 | n + 1, p :: a, [], hn => by
   rw [mrg, zEN, zM6, zKG x c n a [] (by simp at hn ⊢; omega)]; simp only [dot]; grind
 | n + 1, [], q :: b, hn => by
   rw [mrg, zEN, zM6, zKG x c n [] b (by simp at hn ⊢; omega)]; simp only [dot]; grind
 | n + 1, p :: a, q :: b, hn => by
   simp only [List.length_cons] at hn;rw [mrg]
   split
   ·rw [zEN, zM6, zKG x c n a (q :: b) (by simp; omega)]; simp only [dot]; grind
   ·split
    ·rw [zEN, zM6, zKG x c n (p :: a) b (by simp; omega)]; simp only [dot]; grind
    ·have he : p.1 = q.1 := by omega
     rw [zEN, zM6, zKG x c n a b (by omega)]; simp only [dot, he]; grind
theorem zGX (f : QF) (x : List Rat) : evQ f x = f.c + dot x f.ts := ev1_dot x f.ts f.c
theorem zI4 (x : List Rat) (f g : QF) (c : Rat) : evQ (mergeQ f g c) x = evQ f x + c * evQ g x := by
 simp only [zGX, mergeQ, zKG x c _ _ _ (Nat.le_refl _)]; grind
theorem evQ_nil {f : QF} (h : f.ts = []) (x : List Rat) : evQ f x = f.c := by rw [zGX, h]; simp only [dot]; grind
theorem evQ_zero (x : List Rat) : evQ zeroQ x = 0 := evQ_nil rfl x
end Go.PI
namespace Go.PI
structure GraL where
 ins : Int
 units : List AffL
 outs : List AffL
 deriving Inhabited
def encGra (g : GraL) : PV := .agg [.int .i64 g.ins, .imm (g.units.map encAff), .imm (g.outs.map encAff)]
def okGra (k : Nat) (g : GraL) : Prop := okFs k g.units ∧ okFs k g.outs
def VaG (g : GraL) : Prop := (1 ≤ g.ins ∧ g.ins ≤ 256) ∧ g.units.length ≤ 1024 ∧ (1 ≤ g.outs.length ∧ g.outs.length ≤ 256) ∧ (∀ j, j < g.units.length → ValidF g.units[j]! (g.ins + j)) ∧ ∀ i, i < g.outs.length → ValidF g.outs[i]! (g.ins + g.units.length)
def stepV (vs : List Rat) (u : QF) : List Rat := vs ++ [maxQ 0 (evQ u vs)]
def valsN (us : List QF) (x : List Rat) (j : Nat) : List Rat := (us.take j).foldl stepV x
theorem zEK (us : List QF) (x : List Rat) : valsN us x 0 = x := by simp [valsN]
theorem zDV {us : List QF} {x : List Rat} {j : Nat} (h : j < us.length) : valsN us x (j + 1) = valsN us x j ++ [maxQ 0 (evQ us[j]! (valsN us x j))] := by
 unfold valsN;rw [List.take_succ_eq_append_getElem h, List.foldl_append, getElem!_pos us j h]; rfl
theorem zCI {us : List QF} {x : List Rat} : ∀ j, j ≤ us.length → (valsN us x j).length = x.length + j
 | 0, _ => by rw [zEK]; rfl
 | j + 1, h => by rw [zDV (by omega), List.length_append, zCI j (by omega)]; simp; omega
theorem valsN_pre {us : List QF} {x : List Rat} : ∀ (d j : Nat), j + d ≤ us.length → ∃ t, valsN us x (j + d) = valsN us x j ++ t
 | 0, j, _ => ⟨[], by simp⟩
 | d + 1, j, h => by
   obtain ⟨t, e⟩ := valsN_pre (us := us) (x := x) d j (by omega);exact ⟨t ++ [maxQ 0 (evQ us[j + d]! (valsN us x (j + d)))], by rw [show j + (d + 1) = j + d + 1 by omega, zDV (us := us) (j := j + d) (by omega), e, List.append_assoc]⟩
theorem dot_pre {n : Int} {x y : List Rat} (hn : n ≤ x.length) : ∀ (l : List QT), (∀ t ∈ l, 0 ≤ t.1 ∧ t.1 < n) → dot (x ++ y) l = dot x l
 | [], _ => rfl
 | t :: l, h => by
   have h1 := h t (by simp);simp only [dot, dot_pre hn l fun q hq => h q (by simp [hq])];rw [getElem!_pos (x ++ y) t.1.toNat (by simp; omega), getElem!_pos x t.1.toNat (by omega), List.getElem_append_left]
theorem evQ_pre {n : Int} {f : QF} {x y : List Rat} (hn : n ≤ x.length) (hf : okF n f) : evQ f (x ++ y) = evQ f x := by
 rw [zGX, zGX, dot_pre hn _ hf.2]
def preL (us : List QF) (x : List Rat) : List Rat := (List.range us.length).map fun j => evQ us[j]! (valsN us x j)
theorem zB9 (us : List QF) (x : List Rat) : (preL us x).length = us.length := by simp [preL]
theorem zG7 {us : List QF} {x : List Rat} {j : Nat} (h : j < us.length) : (preL us x)[j]! = evQ us[j]! (valsN us x j) := by unfold preL; rw [zBK h]
theorem preL_all {us : List QF} {x : List Rat} {n : Int} (hn : n = x.length) (h : ∀ j, j < us.length → okF (n + j) us[j]!) : preL us x = us.map fun u => evQ u (valsN us x us.length) := by
 refine List.ext_getElem (by simp [preL]) fun j h1 h2 => ?_
 have h3 : j < us.length := by simpa using h2
 obtain ⟨t, e⟩ := valsN_pre (us := us) (x := x) (us.length - j) j (by omega);rw [show j + (us.length - j) = us.length by omega] at e;have hok := h j h3;rw [getElem!_pos us j h3] at hok;simp only [preL, List.getElem_map, List.getElem_range, getElem!_pos us j h3];have q := evQ_pre (x := valsN us x j) (y := t) (by rw [zCI j (by omega)]; omega) hok;rw [← e] at q;exact q.symm
def sumF (κ : Nat → Nat) : Nat → Nat → Nat
 | _, 0 => 0
 | a, n + 1 => κ a + sumF κ (a + 1) n
theorem zN7 (κ : Nat → Nat) : ∀ (m a n : Nat), sumF κ a (m + n) = sumF κ a m + sumF κ (a + m) n
 | 0, a, n => by simp [sumF]
 | m + 1, a, n => by
   rw [show m + 1 + n = (m + n) + 1 by omega, sumF, sumF, zN7 κ m (a + 1) n, show a + 1 + m = a + (m + 1) by omega]; omega
theorem zFI (κ : Nat → Nat) : ∀ (l : List QT) (a n : Nat), l.Pairwise (fun p q => p.1 < q.1) → (∀ t ∈ l, (a : Int) ≤ t.1 ∧ t.1 < (a + n : Nat)) → (l.map fun t => κ t.1.toNat).sum ≤ sumF κ a n
 | [], _, _, _, _ => by simp
 | t :: l, a, n, hp, h => by
   obtain ⟨h1, h2⟩ := h t (by simp);rw [List.pairwise_cons] at hp;obtain ⟨v, hv⟩ : ∃ v : Nat, t.1 = v := ⟨t.1.toNat, by omega⟩;obtain ⟨d, rfl⟩ : ∃ d, v = a + d := ⟨v - a, by omega⟩;obtain ⟨m, rfl⟩ : ∃ m, n = d + (m + 1) := ⟨n - d - 1, by omega⟩
   have ih := zFI κ l (a + d + 1) m hp.2 fun q hq => by
    have e1 := hp.1 q hq;have e2 := (h q (by simp [hq])).2;omega
   rw [zN7, sumF, List.map_cons, List.sum_cons, hv];simp only [Int.toNat_natCast];omega
theorem ev1_szS {k : Nat} {x : List Rat} (κ : Nat → Nat) (hx : ∀ v, v < x.length → sz (κ v) x[v]!) : ∀ (ts : List QT) (y : Rat) (m : Nat), (∀ t ∈ ts, sz k t.2) → (∀ t ∈ ts, 0 ≤ t.1 ∧ t.1 < x.length) → sz m y → sz (m + (ts.map fun t => k + κ t.1.toNat + 1).sum) (ev1 x ts y)
 | [], y, m, _, _, hy => by simpa [ev1] using hy
 | t :: ts, y, m, h1, h2, hy => by
   have ht := h2 t (by simp);have := ev1_szS κ hx ts (y + t.2 * x[t.1.toNat]!) (m + (k + κ t.1.toNat) + 1) (fun q hq => h1 q (by simp [hq])) (fun q hq => h2 q (by simp [hq])) (zBR hy (zB2 (h1 t (by simp)) (hx _ (by omega))));rw [List.map_cons, List.sum_cons];exact zA4 (by omega) this
theorem evQ_szS {k : Nat} {f : QF} {x : List Rat} (κ : Nat → Nat) (hf : szF k f) (hx : ∀ v, v < x.length → sz (κ v) x[v]!) (ho : okF x.length f) : sz (k + sumF (fun v => k + κ v + 1) 0 x.length) (evQ f x) := by
 refine zA4 ?_ (ev1_szS κ hx f.ts f.c k hf.2 ho.2 hf.1);have := zFI (fun v => k + κ v + 1) f.ts 0 x.length ho.1.1 fun t ht => by have := ho.2 t ht; omega
 omega
def phase (p : Rat) : Int := if 0 < p then 1 else if p < 0 then 2 else 0
def applyQ (f : QF) (vars : List QF) : QF := f.ts.foldl (fun o t => mergeQ o vars[t.1.toNat]! t.2) ⟨[], f.c⟩
def appN (f : QF) (vars : List QF) (i : Nat) : QF := (f.ts.take i).foldl (fun o t => mergeQ o vars[t.1.toNat]! t.2) ⟨[], f.c⟩
theorem zF0 {f : QF} {vars : List QF} {i : Nat} (h : i < f.ts.length) : appN f vars (i + 1) = mergeQ (appN f vars i) vars[f.ts[i]!.1.toNat]! f.ts[i]!.2 := by
 unfold appN;rw [List.take_succ_eq_append_getElem h, List.foldl_append, getElem!_pos f.ts i h]; rfl
theorem zHL (f : QF) (vars : List QF) : appN f vars f.ts.length = applyQ f vars := by unfold appN applyQ; rw [List.take_length]
def varQs (n : Nat) : List QF := (List.range n).map fun (i : Nat) => ⟨[((i : Int), 1)], 0⟩
def frmN (us : List QF) (n : Nat) (ph : List Int) : Nat → List QF
 | 0 => varQs n
 | j + 1 => frmN us n ph j ++ [if ph[j]! = 2 then zeroQ else applyQ us[j]! (frmN us n ph j)]
theorem zBZ (us : List QF) (n : Nat) (ph : List Int) : ∀ j, (frmN us n ph j).length = n + j
 | 0 => by simp [frmN, varQs]
 | j + 1 => by simp only [frmN, List.length_append, zBZ us n ph j, List.length_cons, List.length_nil]; omega
def prfL (us : List QF) (n : Nat) (ph : List Int) : List QF := (List.range us.length).map fun j => applyQ us[j]! (frmN us n ph j)
def okVr (n : Nat) (κ : Nat → Nat) (vars : List QF) : Prop := ∀ v, v < vars.length → okF n vars[v]! ∧ szF (κ v) vars[v]! ∧ vars[v]!.ts.length ≤ n
theorem zLX {l : List QT} (n : Nat) (h : l.Pairwise (fun p q => p.1 < q.1)) (hv : ∀ t ∈ l, 0 ≤ t.1 ∧ t.1 < n) : l.length ≤ n := by
 have := zFI (fun _ => 1) l 0 n h fun t ht => by have := hv t ht; omega
 have e : ∀ a m, sumF (fun _ => 1) a m = m := by
  intro a m
  induction m generalizing a with
  | zero => rfl
  | succ m ih => rw [sumF, ih]; omega
 rw [e] at this
 have e2 : (l.map fun _ => 1).sum = l.length := by
  clear this h hv
  induction l with
  | nil => rfl
  | cons a l ih => rw [List.map_cons, List.sum_cons, ih, List.length_cons]; omega
 omega
theorem app_ok {n : Nat} {κ : Nat → Nat} {vars : List QF} {f : QF} {k : Nat} (hv : okVr n κ vars) (hf : szF k f) (ho : okF vars.length f) : ∀ i, i ≤ f.ts.length →
 okF n (appN f vars i) ∧ szF (k + ((f.ts.take i).map fun t => κ t.1.toNat + k + 1).sum) (appN f vars i) ∧ (appN f vars i).ts.length ≤ n
 | 0, _ => ⟨⟨zC5, fun t ht => by cases ht⟩, ⟨zA4 (by omega) hf.1, fun p hp => by cases hp⟩, Nat.zero_le _⟩
 | i + 1, h => by
   obtain ⟨h1, h2, h3⟩ := app_ok hv hf ho i (by omega);have hm : f.ts[i]! ∈ f.ts := by rw [getElem!_pos f.ts i (by omega)]; exact List.getElem_mem _
   have ht := ho.2 _ hm;obtain ⟨g1, g2, g3⟩ := hv f.ts[i]!.1.toNat (by omega);rw [zF0 (by omega)]
   have hok : okF n (mergeQ (appN f vars i) vars[f.ts[i]!.1.toNat]! f.ts[i]!.2) := by
    refine ⟨zDX h1.1 g1.1, fun t ht => ?_⟩;rcases zC1 _ _ _ _ (Nat.le_refl _) t ht with ⟨p, hp, e⟩ | ⟨p, hp, e⟩
    ·have := h1.2 p hp; omega
    ·have := g1.2 p hp; omega
   refine ⟨hok, ?_, zLX n hok.1.1 hok.2⟩;refine zFH ?_ (zFS h2 g2 (hf.2 _ hm) (Nat.le_refl _));rw [List.take_succ_eq_append_getElem (by omega), List.map_append, List.sum_append, ← getElem!_pos f.ts i (by omega)]
   simp
   omega
theorem zHK {n : Nat} {κ : Nat → Nat} {vars : List QF} {f : QF} {k : Nat} (hv : okVr n κ vars) (hf : szF k f) (ho : okF vars.length f) :
 okF n (applyQ f vars) ∧ szF (k + sumF (fun v => κ v + k + 1) 0 vars.length) (applyQ f vars) ∧ (applyQ f vars).ts.length ≤ n := by
 obtain ⟨h1, h2, h3⟩ := app_ok hv hf ho f.ts.length (Nat.le_refl _);rw [zHL] at h1 h2 h3;rw [List.take_length] at h2;refine ⟨h1, zFH ?_ h2, h3⟩;have := zFI (fun v => κ v + k + 1) f.ts 0 vars.length ho.1.1 fun t ht => by have := ho.2 t ht; omega
 omega
theorem dot_foldl {x : List Rat} {vars : List QF} : ∀ (l : List QT) (o : QF), (∀ t ∈ l, 0 ≤ t.1 ∧ t.1 < vars.length) → evQ (l.foldl (fun o t => mergeQ o vars[t.1.toNat]! t.2) o) x = evQ o x + dot (vars.map fun f => evQ f x) l
 | [], o, _ => by simp only [List.foldl_nil, dot]; grind
 | t :: l, o, h => by
   have ht := h t (by simp);rw [List.foldl_cons, dot_foldl l _ fun q hq => h q (by simp [hq]), zI4];simp only [dot]
   have e : (vars.map fun f => evQ f x)[t.1.toNat]! = evQ vars[t.1.toNat]! x := by
    rw [getElem!_pos _ _ (by simp; omega), getElem!_pos vars _ (by omega)]; simp
   rw [e]; grind
theorem zM4 {x : List Rat} {vars : List QF} {f : QF} (h : okF vars.length f) : evQ (applyQ f vars) x = evQ f (vars.map fun f => evQ f x) := by
 unfold applyQ;rw [dot_foldl f.ts _ h.2, evQ_nil rfl, zGX f]
end Go.PI
namespace Go.PI
def Agree (of p : Int) : Prop := of = 0 ∨ of = p
theorem phase_zero {a : Rat} : phase a = 0 ↔ a = 0 := by
 unfold phase; split
 ·rename_i h; constructor <;> intro e
  ·omega
  ·grind
 ·split
  ·rename_i h; constructor <;> intro e
   ·omega
   ·grind
  ·constructor <;> intro e
   ·grind
   ·rfl
theorem phase_one {a : Rat} : phase a = 1 ↔ 0 < a := by
 unfold phase; split
 ·rename_i h; exact ⟨fun _ => h, fun _ => rfl⟩
 ·rename_i h; split
  ·exact ⟨fun e => by omega, fun e => absurd e h⟩
  ·exact ⟨fun e => by omega, fun e => absurd e h⟩
theorem phase_two {a : Rat} : phase a = 2 ↔ a < 0 := by
 unfold phase; split
 ·rename_i h; exact ⟨fun e => by omega, fun e => by grind⟩
 ·split
  ·rename_i h; exact ⟨fun _ => h, fun _ => rfl⟩
  ·rename_i h; exact ⟨fun e => by omega, fun e => absurd e h⟩
theorem agree_on {a : Rat} : Agree (phase a) 1 ↔ 0 ≤ a := by
 unfold Agree; rw [phase_zero, phase_one]; constructor <;> intro h <;> grind
theorem agree_off {a : Rat} : Agree (phase a) 2 ↔ a ≤ 0 := by
 unfold Agree; rw [phase_zero, phase_two]; constructor <;> intro h <;> grind
section
variable {us : List QF} {x : List Rat} {ph : List Int} {n : Nat}
def AgN (us : List QF) (x : List Rat) (ph : List Int) (j : Nat) : Prop := ∀ i, i < j → Agree (phase (preL us x)[i]!) ph[i]!
theorem frmN_ev (hx : x.length = n) (hu : ∀ j, j < us.length → okF (n + j : Nat) us[j]!) (hp : ∀ j, j < us.length → ph[j]! = 1 ∨ ph[j]! = 2) : ∀ j, j ≤ us.length → AgN us x ph j → (frmN us n ph j).map (fun f => evQ f x) = valsN us x j
 | 0, _, _ => by
   rw [zEK];simp only [frmN, varQs, List.map_map];refine List.ext_getElem (by simp [hx]) fun i h1 h2 => ?_
   have h3 : i < n := by simpa using h1
   simp only [List.getElem_map, List.getElem_range, Function.comp];rw [zGX]; simp only [dot];rw [show ((i : Int)).toNat = i from rfl, getElem!_pos x i (by omega)]; grind
 | j + 1, h, ha => by
   have ih := frmN_ev hx hu hp j (by omega) fun i hi => ha i (by omega)
   rw [zDV (by omega)];simp only [frmN, List.map_append, List.map_cons, List.map_nil, ih]
   congr 2
   have hag := ha j (by omega);rw [zG7 (by omega)] at hag;have hl := zBZ us n ph j
   have hv : evQ (applyQ us[j]! (frmN us n ph j)) x = evQ us[j]! (valsN us x j) := by
    rw [zM4 (by rw [hl]; exact hu j (by omega)), ih]
   rcases hp j (by omega) with e | e
   ·rw [e] at hag ⊢
    rw [if_neg (by decide), hv];have := agree_on.1 hag;unfold maxQ; split <;> grind
   ·rw [e] at hag ⊢
    rw [if_pos rfl, evQ_zero];have := agree_off.1 hag;unfold maxQ; split <;> grind
def rowG (us : List QF) (n : Nat) (ph : List Int) (j : Nat) : QF := if ph[j]! = 2 then mergeQ zeroQ (applyQ us[j]! (frmN us n ph j)) (-1) else applyQ us[j]! (frmN us n ph j)
theorem row_ev (hx : x.length = n) (hu : ∀ j, j < us.length → okF (n + j : Nat) us[j]!) (hp : ∀ j, j < us.length → ph[j]! = 1 ∨ ph[j]! = 2) {j : Nat} (h : j < us.length) (ha : AgN us x ph j) : 0 ≤ evQ (rowG us n ph j) x ↔ Agree (phase (preL us x)[j]!) ph[j]! := by
 have ih := frmN_ev hx hu hp j (by omega) ha;have hl := zBZ us n ph j
 have hv : evQ (applyQ us[j]! (frmN us n ph j)) x = evQ us[j]! (valsN us x j) := by
  rw [zM4 (by rw [hl]; exact hu j (by omega)), ih]
 rw [zG7 h];unfold rowG;rcases hp j h with e | e
 ·rw [e, if_neg (by decide), hv, agree_on]
 ·rw [e, if_pos rfl, zI4, evQ_zero, hv, agree_off]
  constructor <;> intro h <;> grind
theorem zON (hx : x.length = n) (hu : ∀ j, j < us.length → okF (n + j : Nat) us[j]!) (hp : ∀ j, j < us.length → ph[j]! = 1 ∨ ph[j]! = 2) : (∀ j, j < us.length → 0 ≤ evQ (rowG us n ph j) x) ↔ AgN us x ph us.length := by
 constructor
 ·intro h
  have : ∀ m, m ≤ us.length → AgN us x ph m := by
   intro m
   induction m with
   | zero => intro _ i hi; omega
   | succ m ih =>
     intro hm i hi;have hm' := ih (by omega);by_cases e : i = m
     ·subst e; exact (row_ev hx hu hp (by omega) hm').1 (h i (by omega))
     ·exact hm' i (by omega)
  exact this _ (Nat.le_refl _)
 ·intro h j hj
  exact (row_ev hx hu hp hj fun i hi => h i (by omega)).2 (h j hj)
end
end Go.PI
namespace Go.PI
def smG (g : GraL) : Prop := g.ins ≤ 4 ∧ smFs g.units 5 ∧ smFs g.outs 3
theorem ValidF_le {f : AffL} {m n : Int} (h : m ≤ n) (hf : ValidF f m) : ValidF f n := ⟨fun i hi => by
 obtain ⟨h1, h2, h3⟩ := hf.1 i hi
 exact ⟨h1, by omega, h3⟩, hf.2⟩
section
variable {us : List QF} {n : Nat} {p : List Int} {x : List Rat}
theorem zero_okVr (n K : Nat) (hK : 1 ≤ K) : okF n zeroQ ∧ szF K zeroQ ∧ zeroQ.ts.length ≤ n := ⟨⟨zC5, fun t ht => by cases ht⟩, zEH K hK, Nat.zero_le _⟩
theorem sz_maxQ {k : Nat} {a b : Rat} (ha : sz k a) (hb : sz k b) : sz k (maxQ a b) := by unfold maxQ; split <;> assumption
end
end Go.PI
namespace Go.PI
theorem half_two (a : Rat) : halfQ * a + halfQ * a = a := by
 rw [← Rat.add_mul, show halfQ + halfQ = 1 by decide +kernel, Rat.one_mul]
theorem ins_len (r : RegL) (l : List Int) : (insR r l).length = r.lo.length := by simp [insR]
end Go.PI
namespace Go.PI
structure QryL where
 g : GraL
 r : RegL
 goal : AffL
 deriving Inhabited
def encQry (q : QryL) : PV := .agg [.int .i64 q.g.ins, .imm (q.g.units.map encAff), .imm (q.g.outs.map encAff), .imm (q.r.lo.map encRat), .imm (q.r.hi.map encRat), .imm (q.r.rows.map encAff), .imm (q.goal.terms.map encTerm), .bool q.goal.const.neg, encN q.goal.const.num, encN q.goal.const.den]
structure ScpL where
 q : QryL
 path : List DecL
 lems : List LemL
 deriving Inhabited
def VaQ (q : QryL) : Prop := VaG q.g ∧ VaR q.r q.g.ins ∧ ValidF q.goal (q.g.ins + q.g.units.length)
def numQ' (c : Rat) : QF := ⟨[], c⟩
def subQ (f g : QF) : QF := mergeQ f g (-1)
def sclQ (f : QF) (c : Rat) : QF := mergeQ zeroQ f c
theorem qf_ext {f g : QF} (hf : Srt f.ts) (hg : Srt g.ts) (h : ∀ v, cf f.ts v = cf g.ts v) (hc : f.c = g.c) : f = g := by
 cases f; cases g
 simp only at *
 rw [zLY hf hg h, hc]
theorem cf_merge {f g : QF} {c : Rat} (hf : Srt f.ts) (hg : Srt g.ts) (v : Int) : cf (mergeQ f g c).ts v = cf f.ts v + cf g.ts v * c := (zDE c _ f.ts g.ts (Nat.le_refl _) hf hg).2 v
def RatZ (r : RatL) : Prop := r.neg = false ∧ r.num.length = 0 ∧ r.den.length = 0
def CanR (r : RatL) : Prop := r = cr (qv r)
def fitD (q : QryL) (d : DecL) : Prop := ((d.kind = 1 ∨ d.kind = 2) ∧ 0 ≤ d.index ∧ d.index < q.g.units.length ∧ RatZ d.rat) ∨ ((d.kind = 3 ∨ d.kind = 4) ∧ 0 ≤ d.index ∧ d.index < q.g.ins ∧ CanR d.rat)
def decB (S : ScpL) (k j : Int) : Bool := S.path.any fun d => decide (d.kind = k) && decide (d.index = j)
def bndO (S : ScpL) (n j : Int) (up : Bool) : Option Rat := if 1 ≤ n ∧ n ≤ S.lems.length ∧ S.lems[n.toNat - 1]!.unit = j ∧ S.lems[n.toNat - 1]!.upper = up then some (qv S.lems[n.toNat - 1]!.value) else none
def inO (S : ScpL) (r : RowL) : Option QF :=
 if r.index < 0 ∨ r.lo ≠ 0 ∨ r.hi ≠ 0 then none
 else if r.kind = 1 ∧ r.index < S.q.r.lo.length then some (subQ (varQ r.index) (numQ' (qv S.q.r.lo[r.index.toNat]!)))
 else if r.kind = 2 ∧ r.index < S.q.r.hi.length then some (subQ (numQ' (qv S.q.r.hi[r.index.toNat]!)) (varQ r.index))
 else if r.kind = 3 ∧ r.index < S.q.r.rows.length then some S.q.r.rows[r.index.toNat]!.Q
 else if r.kind = 4 ∧ r.index < S.path.length then
  (if S.path[r.index.toNat]!.kind = 3 then some (subQ (varQ S.path[r.index.toNat]!.index) (numQ' (qv S.path[r.index.toNat]!.rat)))
  else if S.path[r.index.toNat]!.kind = 4 then some (subQ (numQ' (qv S.path[r.index.toNat]!.rat)) (varQ S.path[r.index.toNat]!.index)) else none)
 else none
def geO (o : Option Rat) : Bool := match o with
 | some l => decide (0 ≤ l)
 | none => false
def leO (o : Option Rat) : Bool := match o with
 | some l => decide (l ≤ 0)
 | none => false
def onB (S : ScpL) (r : RowL) : Bool := decide (r.hi = 0) && (decide (r.lo = 0) && decB S 1 r.index || geO (bndO S r.lo r.index false))
def offB (S : ScpL) (r : RowL) : Bool := decide (r.lo = 0) && (decide (r.hi = 0) && decB S 2 r.index || leO (bndO S r.hi r.index true))
def triQ (v p : QF) (l u : Rat) : QF := subQ (sclQ (subQ p (numQ' l)) u) (sclQ v (u - l))
def unO (S : ScpL) (r : RowL) : Option QF :=
 if r.index < 0 ∨ S.q.g.units.length ≤ r.index then none
 else
  if r.kind = 5 then (if r.lo = 0 ∧ r.hi = 0 then some (varQ (S.q.g.ins + r.index)) else none)
  else if r.kind = 6 then (if r.lo = 0 ∧ r.hi = 0 then some (subQ (varQ (S.q.g.ins + r.index)) S.q.g.units[r.index.toNat]!.Q) else none)
  else if r.kind = 7 then (if onB S r = true then some S.q.g.units[r.index.toNat]!.Q else none)
  else if r.kind = 8 then (if onB S r = true then some (subQ S.q.g.units[r.index.toNat]!.Q (varQ (S.q.g.ins + r.index))) else none)
  else if r.kind = 9 then (if offB S r = true then some (sclQ S.q.g.units[r.index.toNat]!.Q (-1)) else none)
  else if r.kind = 10 then (if offB S r = true then some (sclQ (varQ (S.q.g.ins + r.index)) (-1)) else none)
  else if r.kind = 11 then (match bndO S r.lo r.index false with
   | some l => if r.hi = 0 then some (subQ S.q.g.units[r.index.toNat]!.Q (numQ' l)) else none
   | none => none)
  else if r.kind = 12 then (match bndO S r.hi r.index true with
   | some u => if r.lo = 0 then some (subQ (numQ' u) S.q.g.units[r.index.toNat]!.Q) else none
   | none => none)
  else if r.kind = 13 then (match bndO S r.lo r.index false, bndO S r.hi r.index true with
   | some l, some u => if l < 0 ∧ 0 < u then some (triQ (varQ (S.q.g.ins + r.index)) S.q.g.units[r.index.toNat]!.Q l u) else none
   | _, _ => none)
  else none
def rowO (S : ScpL) (r : RowL) : Option QF := if r.kind < 5 then inO S r else unO S r
def lessR (a b : RowL) : Prop := a.kind < b.kind ∨ a.kind = b.kind ∧ (a.index < b.index ∨ a.index = b.index ∧ (a.lo < b.lo ∨ a.lo = b.lo ∧ a.hi < b.hi))
def okM1 (S : ScpL) (l : List MultL) (k : Nat) : Prop := CanR l[k]!.coef ∧ 0 < qv l[k]!.coef ∧ (0 < k → lessR l[k - 1]!.row l[k]!.row) ∧ (rowO S l[k]!.row).isSome = true
def okM (S : ScpL) (l : List MultL) (i : Nat) : Prop := ∀ k, k < i → okM1 S l k
def rw' (S : ScpL) (m : MultL) : QF := (rowO S m.row).getD zeroQ
def rstN (S : ScpL) (f : QF) (l : List MultL) (i : Nat) : QF := (l.take i).foldl (fun f m => mergeQ f (rw' S m) (- qv m.coef)) f
def prvP (S : ScpL) (f : QF) (l : List MultL) : Prop := okM S l l.length ∧ (rstN S f l l.length).ts = [] ∧ 0 ≤ (rstN S f l l.length).c
end Go.PI
namespace Go.PI
def usQ (q : QryL) : List QF := q.g.units.map AffL.Q
theorem zB6 (q : QryL) : (usQ q).length = q.g.units.length := by simp [usQ]
theorem usQ_get {q : QryL} {j : Nat} (h : j < q.g.units.length) : (usQ q)[j]! = q.g.units[j]!.Q := by
 unfold usQ; rw [getElem!_pos _ j (by simpa using h), getElem!_pos q.g.units j h]; simp
def vlQ (q : QryL) (x : List Rat) : List Rat := valsN (usQ q) x (usQ q).length
def inQ (q : QryL) (x : List Rat) : Prop := (x.length : Int) = q.g.ins ∧ (∀ i, i < x.length → qv q.r.lo[i]! ≤ x[i]! ∧ x[i]! ≤ qv q.r.hi[i]!) ∧ ∀ i, i < q.r.rows.length → 0 ≤ evQ q.r.rows[i]!.Q x
section
variable {S : ScpL} {x : List Rat}
end
inductive NodeL.Bin : NodeL → Prop
 | mk (n : NodeL) (h : n.kids.length = 0 ∨ n.kids.length = 2) (hk : ∀ k ∈ n.kids, NodeL.Bin k) : NodeL.Bin n
theorem NodeL.Bin.len {n : NodeL} (h : n.Bin) : n.kids.length = 0 ∨ n.kids.length = 2 := by cases h; assumption
end Go.PI
namespace Go.PI
theorem dot_set {x : List Rat} {i : Nat} (hi : i < x.length) (e : Rat) : ∀ (l : List QT), (∀ t ∈ l, 0 ≤ t.1) → dot (x.set i e) l = dot x l + cf l i * (e - x[i]!)
 | [], _ => by simp only [dot, cf]; grind
 | t :: l, h => by
   have h1 := h t (by simp);have ih := dot_set hi e l fun u hu => h u (List.mem_cons_of_mem _ hu)
   simp only [dot, cf, ih];by_cases e1 : t.1 = (i : Int)
   ·rw [if_pos e1, show t.1.toNat = i by omega]
    have : (x.set i e)[i]! = e := by rw [getElem!_pos _ i (by simpa using hi)]; simp
    rw [this]; grind
   ·rw [if_neg e1]
    have : (x.set i e)[t.1.toNat]! = x[t.1.toNat]! := by
     rw [List.getElem!_eq_getElem?_getD, List.getElem!_eq_getElem?_getD, List.getElem?_set_ne (by omega)]
    rw [this]; grind
theorem ev_set {x : List Rat} {i : Nat} (hi : i < x.length) (e : Rat) {f : QF} (h : ∀ t ∈ f.ts, 0 ≤ t.1) : evQ f (x.set i e) = evQ f x + cf f.ts i * (e - x[i]!) := by
 rw [zGX, zGX, dot_set hi e _ h]; grind
theorem div_mul {a b : Rat} (h : b ≠ 0) : b * (a / b) = a := by rw [Rat.mul_comm]; exact Rat.div_mul_cancel h
def zer (x : List Rat) (i : Nat) (f : QF) : Rat := x[i]! - evQ f x / cf f.ts i
theorem ev_zer {x : List Rat} {i : Nat} (hi : i < x.length) (e : Rat) {f : QF} (h : ∀ t ∈ f.ts, 0 ≤ t.1) (hc : cf f.ts i ≠ 0) : evQ f (x.set i e) = cf f.ts i * (e - zer x i f) := by
 rw [ev_set hi e h];unfold zer;have := div_mul (a := evQ f x) hc
 grind
def nar (x : List Rat) (i : Nat) (b : Rat × Rat) (f : QF) : Rat × Rat :=
 if cf f.ts i = 0 then b else if 0 < cf f.ts i then (maxQ b.1 (zer x i f), b.2) else (b.1, minQ b.2 (zer x i f))
theorem zFR {c a : Rat} (hc : 0 < c) : 0 ≤ c * a ↔ 0 ≤ a := by
 constructor
 ·intro h
  refine Rat.not_lt.1 fun h2 => ?_
  have := Rat.mul_lt_mul_of_pos_left h2 hc
  grind
 ·intro h; exact Rat.mul_nonneg (Rat.le_of_lt hc) h
theorem zOJ {c a : Rat} (hc : c < 0) : 0 ≤ c * a ↔ a ≤ 0 := by
 have h1 : 0 < -c := by grind
 have := zFR (a := -a) h1;constructor
 ·intro h
  have : 0 ≤ -a := this.1 (by grind)
  grind
 ·intro h
  have := this.2 (by grind)
  grind
structure NarP (x : List Rat) (i : Nat) (fs : List QF) (lo hi : Rat) (b : Rat × Rat) : Prop where
 lo : lo ≤ b.1
 hi : b.2 ≤ hi
 up : ∀ f ∈ fs, 0 < cf f.ts i → zer x i f ≤ b.1
 dn : ∀ f ∈ fs, cf f.ts i < 0 → b.2 ≤ zer x i f
theorem max_ge (a b : Rat) : a ≤ maxQ a b ∧ b ≤ maxQ a b := by unfold maxQ; split <;> constructor <;> grind
theorem min_le (a b : Rat) : minQ a b ≤ a ∧ minQ a b ≤ b := by unfold minQ; split <;> constructor <;> grind
theorem nar_ok {x : List Rat} {i : Nat} {lo hi : Rat} : ∀ (fs gs : List QF) (b : Rat × Rat), NarP x i gs lo hi b → NarP x i (gs ++ fs) lo hi (fs.foldl (nar x i) b)
 | [], gs, b, h => by simpa using h
 | f :: fs, gs, b, h => by
   have e : gs ++ f :: fs = (gs ++ [f]) ++ fs := by simp
   rw [e];refine nar_ok fs (gs ++ [f]) _ ?_;obtain ⟨h1, h2, h3, h4⟩ := h;have hm := max_ge b.1 (zer x i f);have hn := min_le b.2 (zer x i f);unfold nar;refine ⟨?_, ?_, fun g hg hc => ?_, fun g hg hc => ?_⟩
   ·split; exact h1; split <;> grind
   ·split; exact h2; split <;> grind
   ·rcases List.mem_append.1 hg with hg | hg
    ·have := h3 g hg hc
     split; exact this; split <;> grind
    ·rw [List.mem_singleton.1 hg] at hc ⊢
     rw [if_neg (by grind), if_pos hc]; exact hm.2
   ·rcases List.mem_append.1 hg with hg | hg
    ·have := h4 g hg hc
     split; exact this; split <;> grind
    ·rw [List.mem_singleton.1 hg] at hc ⊢
     rw [if_neg (by grind), if_neg (by grind)]; exact hn.2
theorem nar_in {x : List Rat} {i : Nat} (hi : i < x.length) : ∀ (fs : List QF) (b : Rat × Rat), (∀ f ∈ fs, (∀ t ∈ f.ts, 0 ≤ t.1) ∧ 0 ≤ evQ f x) → b.1 ≤ x[i]! → x[i]! ≤ b.2 → (fs.foldl (nar x i) b).1 ≤ x[i]! ∧ x[i]! ≤ (fs.foldl (nar x i) b).2
 | [], b, _, h1, h2 => ⟨h1, h2⟩
 | f :: fs, b, h, h1, h2 => by
   have hf := h f (by simp)
   have hs : x.set i x[i]! = x := by
    rw [getElem!_pos x i hi]; exact List.set_getElem_self hi
   have key : cf f.ts i ≠ 0 → 0 ≤ cf f.ts i * (x[i]! - zer x i f) := fun hc => by
    have := ev_zer hi x[i]! hf.1 hc;rw [hs] at this;rw [← this]; exact hf.2
   refine nar_in hi fs _ (fun g hg => h g (List.mem_cons_of_mem _ hg)) ?_ ?_
   ·unfold nar
    split; exact h1; split
    ·rename_i hc hp
     have := (zFR hp).1 (key hc);exact le_max.2 ⟨h1, by grind⟩
    ·exact h1
   ·unfold nar
    split; exact h2; split
    ·exact h2
    ·rename_i hc hp
     have := (zOJ (a := x[i]! - zer x i f) (by grind)).1 (key hc);exact le_min.2 ⟨h2, by grind⟩
def insW (g : QF) (x : List Rat) (i : Nat) (e : Rat) : Rat := if evQ g (x.set i e) = 0 then halfQ * (e + x[i]!) else e
def bndW (rows : List QF) (g : QF) (x : List Rat) (i : Nat) (lo hi : Rat) : Rat × Rat := nar x i (rows.foldl (nar x i) (lo, hi)) (mergeQ zeroQ g (-1))
def crdW (rows : List QF) (g : QF) (x : List Rat) (i : Nat) (lo hi : Rat) : Rat :=
 simp2 (insW g x i (bndW rows g x i lo hi).1) (insW g x i (bndW rows g x i lo hi).2)
theorem zLN (g : QF) (x : List Rat) : evQ (mergeQ zeroQ g (-1)) x = - evQ g x := by rw [zI4, evQ_zero]; grind
theorem neg_vars {g : QF} (h : ∀ t ∈ g.ts, 0 ≤ t.1) : ∀ t ∈ (mergeQ zeroQ g (-1)).ts, 0 ≤ t.1 := fun t ht => by
 rcases zC1 _ _ _ _ (Nat.le_refl _) t ht with ⟨p, hp, e⟩ | ⟨p, hp, e⟩
 ·cases hp
 ·have := h p hp; omega
structure CrdP (rows : List QF) (g : QF) (x : List Rat) (i : Nat) (lo hi t : Rat) : Prop where
 lo : lo ≤ t
 hi : t ≤ hi
 den : t.den ≤ x[i]!.den
 rows : ∀ f ∈ rows, 0 ≤ evQ f (x.set i t)
 goal : evQ g (x.set i t) < 0
section
variable {rows : List QF} {g : QF} {x : List Rat} {i : Nat} {lo hi : Rat}
structure EndP (rows : List QF) (g : QF) (x : List Rat) (i : Nat) (lo hi : Rat) : Prop where
 a : lo ≤ insW g x i (bndW rows g x i lo hi).1
 b : insW g x i (bndW rows g x i lo hi).2 ≤ hi
 c : insW g x i (bndW rows g x i lo hi).1 ≤ x[i]!
 d : x[i]! ≤ insW g x i (bndW rows g x i lo hi).2
 e : ∀ t, insW g x i (bndW rows g x i lo hi).1 ≤ t → t ≤ insW g x i (bndW rows g x i lo hi).2 → (∀ f ∈ rows, 0 ≤ evQ f (x.set i t)) ∧ evQ g (x.set i t) < 0
theorem zKE {a b : Rat} (h : a < b) : a < halfQ * (a + b) ∧ halfQ * (a + b) < b := by
 have h1 := half_two a;have h2 := half_two b;have h3 : 0 < halfQ := by decide +kernel
 have h4 := Rat.mul_lt_mul_of_pos_left h h3;constructor <;> grind
theorem ends_ok (hi' : i < x.length) (hr : ∀ f ∈ rows, (∀ t ∈ f.ts, 0 ≤ t.1) ∧ 0 ≤ evQ f x) (hg : ∀ t ∈ g.ts, 0 ≤ t.1) (hgx : evQ g x < 0) (h1 : lo ≤ x[i]!) (h2 : x[i]! ≤ hi) : EndP rows g x i lo hi := by
 have hm := neg_vars hg;have hmx : 0 < evQ (mergeQ zeroQ g (-1)) x := by rw [zLN]; grind
 have hall : ∀ f ∈ rows ++ [mergeQ zeroQ g (-1)], (∀ t ∈ f.ts, 0 ≤ t.1) ∧ 0 ≤ evQ f x := fun f hf => by
  rcases List.mem_append.1 hf with hf | hf
  ·exact hr f hf
  ·rw [List.mem_singleton.1 hf]; exact ⟨hm, Rat.le_of_lt hmx⟩
 have eb : bndW rows g x i lo hi = (rows ++ [mergeQ zeroQ g (-1)]).foldl (nar x i) (lo, hi) := by unfold bndW; rw [List.foldl_append]; rfl
 have hin := nar_in hi' _ (lo, hi) hall h1 h2;have hnp := nar_ok (x := x) (i := i) (lo := lo) (hi := hi) (rows ++ [mergeQ zeroQ g (-1)]) [] (lo, hi) ⟨Rat.le_refl, Rat.le_refl, fun f hf => (by cases hf), fun f hf => (by cases hf)⟩;rw [← eb] at hin hnp;rw [List.nil_append] at hnp;obtain ⟨k1, k2, k3, k4⟩ := hnp;have fin : lo ≤ insW g x i (bndW rows g x i lo hi).1 → insW g x i (bndW rows g x i lo hi).2 ≤ hi → insW g x i (bndW rows g x i lo hi).1 ≤ x[i]! → x[i]! ≤ insW g x i (bndW rows g x i lo hi).2 → (∀ t, insW g x i (bndW rows g x i lo hi).1 ≤ t → t ≤ insW g x i (bndW rows g x i lo hi).2 → (∀ f ∈ rows, 0 ≤ evQ f (x.set i t)) ∧ evQ g (x.set i t) < 0) → EndP rows g x i lo hi := fun h1 h2 h3 h4 h5 => ⟨h1, h2, h3, h4, h5⟩
 generalize bndW rows g x i lo hi = b at *
 have hs : x.set i x[i]! = x := by
  rw [getElem!_pos x i hi']; exact List.set_getElem_self hi'
 have ev0 : ∀ e, evQ g (x.set i e) = - evQ (mergeQ zeroQ g (-1)) (x.set i e) := fun e => by rw [zLN]; grind
 have ne1 : ∀ e, evQ g (x.set i e) = 0 → e ≠ x[i]! := fun e h0 e1 => by
  rw [e1, hs] at h0; rw [h0] at hgx; exact absurd hgx (by decide +kernel)
 have ins1 : b.1 ≤ insW g x i b.1 ∧ insW g x i b.1 ≤ x[i]! := by
  unfold insW
  split
  ·rename_i h0
   have h3 : b.1 < x[i]! := Rat.lt_of_le_of_ne hin.1 (ne1 _ h0);have := zKE h3;exact ⟨Rat.le_of_lt this.1, Rat.le_of_lt this.2⟩
  ·exact ⟨Rat.le_refl, hin.1⟩
 have ins2 : insW g x i b.2 ≤ b.2 ∧ x[i]! ≤ insW g x i b.2 := by
  unfold insW
  split
  ·rename_i h0
   have h3 : x[i]! < b.2 := Rat.lt_of_le_of_ne hin.2 (Ne.symm (ne1 _ h0));have := zKE h3;rw [Rat.add_comm];exact ⟨Rat.le_of_lt this.2, Rat.le_of_lt this.1⟩
  ·exact ⟨Rat.le_refl, hin.2⟩
 refine fin (Rat.le_trans k1 ins1.1) (Rat.le_trans ins2.1 k2) ins1.2 ins2.2 (fun t ht1 ht2 => ⟨fun f hf => ?_, ?_⟩)
 ·have hf' : f ∈ rows ++ [mergeQ zeroQ g (-1)] := List.mem_append_left _ hf
  have hv := hr f hf;by_cases hc : cf f.ts i = 0
  ·rw [ev_set hi' t hv.1, hc]
   have := hv.2
   grind
  ·rw [ev_zer hi' t hv.1 hc]
   by_cases hp : 0 < cf f.ts i
   ·have := k3 f hf' hp
    exact (zFR hp).2 (by grind)
   ·have := k4 f hf' (by grind)
    exact (zOJ (by grind)).2 (by grind)
 ·have hM : mergeQ zeroQ g (-1) ∈ rows ++ [mergeQ zeroQ g (-1)] := List.mem_append_right _ (by simp)
  rw [ev0];by_cases hc : cf (mergeQ zeroQ g (-1)).ts i = 0
  ·rw [ev_set hi' t hm, hc]
   grind
  ·have ez := fun e => ev_zer hi' e hm hc
   by_cases hp : 0 < cf (mergeQ zeroQ g (-1)).ts i
   ·have h3 := k3 _ hM hp
    have h4 : zer x i (mergeQ zeroQ g (-1)) < t := by
     have h5 : zer x i (mergeQ zeroQ g (-1)) < insW g x i b.1 := by
      unfold insW
      split
      ·rename_i h0
       have h6 : b.1 < x[i]! := Rat.lt_of_le_of_ne hin.1 (ne1 _ h0);have := zKE h6
       grind
      ·rename_i h0
       refine Rat.lt_of_le_of_ne h3 fun e => h0 ?_
       rw [ev0, ez, ← e]; grind
     grind
    rw [ez];have := Rat.mul_pos hp (show 0 < t - zer x i (mergeQ zeroQ g (-1)) by grind)
    grind
   ·have hp' : cf (mergeQ zeroQ g (-1)).ts i < 0 := by grind
    have h3 := k4 _ hM hp'
    have h4 : t < zer x i (mergeQ zeroQ g (-1)) := by
     have h5 : insW g x i b.2 < zer x i (mergeQ zeroQ g (-1)) := by
      unfold insW
      split
      ·rename_i h0
       have h6 : x[i]! < b.2 := Rat.lt_of_le_of_ne hin.2 (Ne.symm (ne1 _ h0));have := zKE h6
       grind
      ·rename_i h0
       refine Rat.lt_of_le_of_ne h3 fun e => h0 ?_
       rw [ev0, ez, e]; grind
     grind
    rw [ez];have := Rat.mul_pos (show 0 < - cf (mergeQ zeroQ g (-1)).ts i by grind) (show 0 < zer x i (mergeQ zeroQ g (-1)) - t by grind)
    grind
theorem crd_ok (hi' : i < x.length) (hr : ∀ f ∈ rows, (∀ t ∈ f.ts, 0 ≤ t.1) ∧ 0 ≤ evQ f x) (hg : ∀ t ∈ g.ts, 0 ≤ t.1) (hgx : evQ g x < 0) (h1 : lo ≤ x[i]!) (h2 : x[i]! ≤ hi) : CrdP rows g x i lo hi (crdW rows g x i lo hi) := by
 obtain ⟨a, b, c, d, e⟩ := ends_ok hi' hr hg hgx h1 h2;obtain ⟨s1, s2, s3⟩ := simp2_ok (Rat.le_trans c d);have := e _ s1 s2;exact ⟨Rat.le_trans a s1, Rat.le_trans s2 b, s3 _ c d, this.1, this.2⟩
def refE (x : List Rat) (i : Nat) (b : Rat × Rat) (f : QF) : Rat :=
 if (0 < cf f.ts i ∧ b.1 ≤ zer x i f) ∨ (cf f.ts i < 0 ∧ zer x i f ≤ b.2) then halfQ * (zer x i f + x[i]!) else zer x i f
def refB (x : List Rat) (i : Nat) (b : Rat × Rat) (f : QF) : Rat × Rat :=
 if cf f.ts i = 0 then b else if 0 < cf f.ts i then (maxQ b.1 (refE x i b f), b.2) else (b.1, minQ b.2 (refE x i b f))
theorem ref_ends (hi' : i < x.length) (hr : ∀ f ∈ rows, (∀ t ∈ f.ts, 0 ≤ t.1) ∧ 0 ≤ evQ f x) (hg : ∀ t ∈ g.ts, 0 ≤ t.1) (hgx : evQ g x < 0) (h1 : lo ≤ x[i]!) (h2 : x[i]! ≤ hi) :
 refB x i (rows.foldl (nar x i) (lo, hi)) (mergeQ zeroQ g (-1)) = (insW g x i (bndW rows g x i lo hi).1, insW g x i (bndW rows g x i lo hi).2) := by
 have hm := neg_vars hg;have hin := nar_in hi' rows (lo, hi) hr h1 h2;have ev0 : ∀ e, evQ g (x.set i e) = - evQ (mergeQ zeroQ g (-1)) (x.set i e) := fun e => by rw [zLN]; grind
 have hs : x.set i x[i]! = x := by
  rw [getElem!_pos x i hi']; exact List.set_getElem_self hi'
 have hmx : 0 < evQ (mergeQ zeroQ g (-1)) x := by rw [zLN]; grind
 unfold bndW;generalize rows.foldl (nar x i) (lo, hi) = b at *
 unfold refB nar insW;by_cases hc : cf (mergeQ zeroQ g (-1)).ts i = 0
 ·have e : ∀ t, ¬ evQ g (x.set i t) = 0 := fun t => by
   rw [ev0, ev_set hi' t hm, hc]; grind
  simp only [if_pos hc, if_neg (e _)]
 ·have ez := fun e => ev_zer hi' e hm hc
  have k := ez x[i]!;rw [hs] at k;rw [if_neg hc, if_neg hc];by_cases hp : 0 < cf (mergeQ zeroQ g (-1)).ts i
  ·rw [if_pos hp, if_pos hp]
   have hz : zer x i (mergeQ zeroQ g (-1)) < x[i]! := by
    refine Rat.not_le.1 fun h => ?_
    have := (zFR hp (a := zer x i (mergeQ zeroQ g (-1)) - x[i]!)).2 (by grind)
    grind
   have e2 : ¬ evQ g (x.set i b.2) = 0 := by
    rw [ev0, ez];have := Rat.mul_pos hp (show 0 < b.2 - zer x i (mergeQ zeroQ g (-1)) by grind)
    grind
   dsimp only;rw [if_neg e2];unfold refE;by_cases hle : b.1 ≤ zer x i (mergeQ zeroQ g (-1))
   ·rw [if_pos (Or.inl ⟨hp, hle⟩)]
    have hh := zKE hz;by_cases hle2 : zer x i (mergeQ zeroQ g (-1)) ≤ b.1
    ·have : b.1 = zer x i (mergeQ zeroQ g (-1)) := Rat.le_antisymm hle hle2
     have e3 : maxQ b.1 (zer x i (mergeQ zeroQ g (-1))) = zer x i (mergeQ zeroQ g (-1)) := by unfold maxQ; split <;> grind
     rw [e3, if_pos (by rw [ev0, ez]; grind)];have : maxQ b.1 (halfQ * (zer x i (mergeQ zeroQ g (-1)) + x[i]!)) = halfQ * (zer x i (mergeQ zeroQ g (-1)) + x[i]!) := by unfold maxQ; split <;> grind
     rw [this]
    ·have e3 : maxQ b.1 (zer x i (mergeQ zeroQ g (-1))) = zer x i (mergeQ zeroQ g (-1)) := by unfold maxQ; split <;> grind
     rw [e3, if_pos (by rw [ev0, ez]; grind)];have : maxQ b.1 (halfQ * (zer x i (mergeQ zeroQ g (-1)) + x[i]!)) = halfQ * (zer x i (mergeQ zeroQ g (-1)) + x[i]!) := by unfold maxQ; split <;> grind
     rw [this]
   ·rw [if_neg (by rintro (h | h); exact hle h.2; exact absurd h.1 (by grind))]
    have e3 : maxQ b.1 (zer x i (mergeQ zeroQ g (-1))) = b.1 := by unfold maxQ; split <;> grind
    rw [e3, if_neg];rw [ev0, ez];have := Rat.mul_pos hp (show 0 < b.1 - zer x i (mergeQ zeroQ g (-1)) by grind)
    grind
  ·rw [if_neg hp, if_neg hp]
   have hp' : cf (mergeQ zeroQ g (-1)).ts i < 0 := by grind
   have hpp : 0 < - cf (mergeQ zeroQ g (-1)).ts i := by grind
   have hz : x[i]! < zer x i (mergeQ zeroQ g (-1)) := by
    refine Rat.not_le.1 fun h => ?_
    have := (zFR hpp (a := x[i]! - zer x i (mergeQ zeroQ g (-1)))).2 (by grind)
    grind
   have e1 : ¬ evQ g (x.set i b.1) = 0 := by
    rw [ev0, ez];have := Rat.mul_pos hpp (show 0 < zer x i (mergeQ zeroQ g (-1)) - b.1 by grind)
    grind
   dsimp only;rw [if_neg e1];unfold refE;by_cases hle : zer x i (mergeQ zeroQ g (-1)) ≤ b.2
   ·rw [if_pos (Or.inr ⟨hp', hle⟩)]
    have hh := zKE hz;have e3 : minQ b.2 (zer x i (mergeQ zeroQ g (-1))) = zer x i (mergeQ zeroQ g (-1)) := by unfold minQ; split <;> grind
    rw [e3, if_pos (by rw [ev0, ez]; grind)]
    have : minQ b.2 (halfQ * (zer x i (mergeQ zeroQ g (-1)) + x[i]!)) = halfQ * (zer x i (mergeQ zeroQ g (-1)) + x[i]!) := by
     unfold minQ; split <;> grind
    rw [this]
   ·rw [if_neg (by rintro (h | h); exact absurd h.1 hp; exact hle h.2)]
    have e3 : minQ b.2 (zer x i (mergeQ zeroQ g (-1))) = b.2 := by unfold minQ; split <;> grind
    rw [e3, if_neg];rw [ev0, ez];have := Rat.mul_pos hpp (show 0 < zer x i (mergeQ zeroQ g (-1)) - b.2 by grind)
    grind
end
end Go.PI
namespace Go.PI
section
variable {S T : ScpL}
end
end Go.PI
namespace Go.PI
def Bd (D A : Nat) (q : Rat) : Prop := 0 < D ∧ (∃ z : Int, (D : Rat) * q = (z : Rat)) ∧ -(A : Rat) ≤ q ∧ q ≤ (A : Rat)
theorem ncast_pos {D : Nat} (h : 0 < D) : (0 : Rat) < (D : Rat) := by exact_mod_cast h
theorem ncast_nn (D : Nat) : (0 : Rat) ≤ (D : Rat) := by exact_mod_cast Nat.zero_le D
theorem Bd.mul {D E A B : Nat} {p q : Rat} (hp : Bd D A p) (hq : Bd E B q) : Bd (D * E) (A * B) (p * q) := by
 obtain ⟨d0, ⟨z, hz⟩, p1, p2⟩ := hp;obtain ⟨e0, ⟨w, hw⟩, q1, q2⟩ := hq;refine ⟨Nat.mul_pos d0 e0, ⟨z * w, ?_⟩, ?_, ?_⟩
 ·rw [Rat.natCast_mul, Rat.intCast_mul, ← hz, ← hw]; grind
 ·have h1 := Rat.mul_nonneg (show (0 : Rat) ≤ A + p by grind) (show (0 : Rat) ≤ B + q by grind)
  have h2 := Rat.mul_nonneg (show (0 : Rat) ≤ A - p by grind) (show (0 : Rat) ≤ B - q by grind);rw [Rat.natCast_mul]; grind
 ·have h1 := Rat.mul_nonneg (show (0 : Rat) ≤ A - p by grind) (show (0 : Rat) ≤ B + q by grind)
  have h2 := Rat.mul_nonneg (show (0 : Rat) ≤ A + p by grind) (show (0 : Rat) ≤ B - q by grind);rw [Rat.natCast_mul]; grind
theorem Bd.up {D A B : Nat} {q : Rat} (h : Bd D A q) (k : Nat) (hk : 0 < k) (hB : A ≤ B) : Bd (k * D) B q := by
 obtain ⟨d0, ⟨z, hz⟩, p1, p2⟩ := h;have hB' : (A : Rat) ≤ B := by exact_mod_cast hB
 refine ⟨Nat.mul_pos hk d0, ⟨k * z, ?_⟩, by grind, by grind⟩;rw [Rat.natCast_mul, Rat.intCast_mul, ← hz, Rat.intCast_natCast]; grind
theorem Bd.add {D A B : Nat} {p q : Rat} (hp : Bd D A p) (hq : Bd D B q) : Bd D (A + B) (p + q) := by
 obtain ⟨d0, ⟨z, hz⟩, p1, p2⟩ := hp;obtain ⟨_, ⟨w, hw⟩, q1, q2⟩ := hq;refine ⟨d0, ⟨z + w, ?_⟩, ?_, ?_⟩
 ·rw [Rat.intCast_add, ← hz, ← hw]; grind
 ·rw [Rat.natCast_add]; grind
 ·rw [Rat.natCast_add]; grind
theorem Bd.max {D A : Nat} {p : Rat} (h : Bd D A p) : Bd D A (maxQ 0 p) := by
 unfold maxQ
 split
 ·obtain ⟨d0, _, p1, p2⟩ := h
  have := ncast_nn A;exact ⟨d0, ⟨0, by rw [Rat.intCast_zero]; grind⟩, by grind, by grind⟩
 ·exact h
theorem Bd.sz {D A d a : Nat} {q : Rat} (h : Bd D A q) (hD : D < pw d) (hA : A < pw a) : sz (d + a) q := by
 obtain ⟨d0, ⟨z, hz⟩, p1, p2⟩ := h;have hd := ncast_pos d0
 have e : q = mkRat z D := by
  rw [Rat.mkRat_eq_div, ← Rat.intCast_natCast];rw [← hz, Rat.intCast_natCast];have hn : (D : Rat) ≠ 0 := by grind
  have := Rat.mul_inv_cancel _ hn;rw [Rat.div_def]
  grind
 have hz1 : (z : Rat) ≤ ((D * A : Nat) : Rat) := by
  rw [← hz, Rat.natCast_mul];exact Rat.mul_le_mul_of_nonneg_left p2 (Rat.le_of_lt hd)
 have hz2 : -((D * A : Nat) : Rat) ≤ (z : Rat) := by
  rw [← hz, Rat.natCast_mul];have := Rat.mul_le_mul_of_nonneg_left p1 (Rat.le_of_lt hd)
  grind
 have h1 : z ≤ ((D * A : Nat) : Int) := by
  rw [← Rat.intCast_natCast] at hz1; exact Rat.intCast_le_intCast.1 hz1
 have h2 : -((D * A : Nat) : Int) ≤ z := by
  rw [← Rat.intCast_natCast, ← Rat.intCast_neg] at hz2; exact Rat.intCast_le_intCast.1 hz2
 have h3 := zD8 hD hA;have h4 := zEC (show d ≤ d + a by omega);rw [e];exact sz_mk (by omega) (by omega) (by omega)
theorem Bd.qv (r : RatL) : Bd (dn r.den) (nv r.num) (Go.PI.qv r) := by
 have d0 : 0 < dn r.den := Nat.pos_of_ne_zero (zCA _);have hd := ncast_pos d0
 have e : (dn r.den : Rat) * Go.PI.qv r = ((sg r.neg (nv r.num) : Int) : Rat) := by
  unfold Go.PI.qv;rw [Rat.mkRat_eq_div]
  grind
 have habs := zFK r.neg (nv r.num);refine ⟨d0, ⟨_, e⟩, ?_, ?_⟩
 ·have h1 : -((nv r.num : Nat) : Int) ≤ sg r.neg (nv r.num) := by omega
  have h2 : (-((nv r.num : Nat) : Rat)) ≤ ((sg r.neg (nv r.num) : Int) : Rat) := by
   rw [← Rat.intCast_natCast, ← Rat.intCast_neg]; exact Rat.intCast_le_intCast.2 h1
  rw [← e] at h2;have h3 : (1 : Rat) ≤ (dn r.den : Rat) := by exact_mod_cast d0
  have h5 := ncast_nn (nv r.num);apply Rat.not_lt.1;intro hc;have h4 : (0 : Rat) ≤ ((dn r.den : Rat) - 1) * (nv r.num : Rat) := Rat.mul_nonneg (by grind) h5;have h6 : 0 < (dn r.den : Rat) * (-(nv r.num : Rat) - Go.PI.qv r) := Rat.mul_pos hd (by grind)
  grind
 ·have h1 : sg r.neg (nv r.num) ≤ ((nv r.num : Nat) : Int) := by omega
  have h2 : ((sg r.neg (nv r.num) : Int) : Rat) ≤ ((nv r.num : Nat) : Rat) := by
   rw [← Rat.intCast_natCast]; exact Rat.intCast_le_intCast.2 h1
  rw [← e] at h2;have h3 : (1 : Rat) ≤ (dn r.den : Rat) := by exact_mod_cast d0
  have h5 := ncast_nn (nv r.num);apply Rat.not_lt.1;intro hc;have h4 : (0 : Rat) ≤ ((dn r.den : Rat) - 1) * (nv r.num : Rat) := Rat.mul_nonneg (by grind) h5;have h6 : 0 < (dn r.den : Rat) * (Go.PI.qv r - (nv r.num : Rat)) := Rat.mul_pos hd (by grind)
  grind
def BdL (E M : Nat) (vs : List Rat) : Prop := (0 < E ∧ 1 ≤ M) ∧ ∀ v ∈ vs, Bd E M v
theorem BdL.sz {E M d a : Nat} {vs : List Rat} (h : BdL E M vs) (hD : E < pw d) (hA : M < pw a) : ∀ v ∈ vs, sz (d + a) v := fun v hv => (h.2 v hv).sz hD hA
theorem Bd.neg {D A : Nat} {q : Rat} (h : Bd D A q) : Bd D A (-q) := by
 obtain ⟨d0, ⟨z, hz⟩, p1, p2⟩ := h;exact ⟨d0, ⟨-z, by rw [Rat.intCast_neg, ← hz]; grind⟩, by grind, by grind⟩
theorem Bd.sum {D E A B : Nat} {p q : Rat} (hp : Bd D A p) (hq : Bd E B q) : Bd (D * E) (A + B) (p + q) := by
 have h1 := hp.up E hq.1 (Nat.le_refl _);have h2 := hq.up D hp.1 (Nat.le_refl _);rw [Nat.mul_comm] at h1;exact h1.add h2
end Go.PI
namespace Go.PI
def lQ (r : RatL) : Nat := r.num.length + r.den.length
def vL (l : List LemL) : Nat := (l.map fun m => lQ m.value).sum
def sC (l : List MultL) : Nat := (l.map fun m => lQ m.coef + 1).sum
def NodeL.tot (f : NodeL → Nat) (n : NodeL) : Nat := f n + (n.kids.attach.map fun ⟨k, _⟩ => NodeL.tot f k).sum
termination_by SizeOf.sizeOf n
decreasing_by exact NodeL.sizeOf_kid ‹_›
def spF (n : NodeL) : Nat := lQ n.split.rat
def vlF (n : NodeL) : Nat := vL n.lemmas
def coF (n : NodeL) : Nat := (n.lemmas.map fun m => sC m.proof).sum + sC n.proof
def NodeL.bk (n : NodeL) : Nat := n.tot fun x => spF x + vlF x + coF x
end Go.PI
namespace Go.PI
instance dec_okT (ts : List TermL) (n : Int) (i : Nat) : Decidable (okT ts n i) := by unfold okT; exact inferInstance
instance dec_ValidF (f : AffL) (n : Int) : Decidable (ValidF f n) := by unfold ValidF; exact inferInstance
instance dec_VaG (g : GraL) : Decidable (VaG g) := by unfold VaG; exact inferInstance
instance dec_smF (f : AffL) : Decidable (smF f) := by unfold smF; exact inferInstance
instance dec_smFs (l : List AffL) (m : Int) : Decidable (smFs l m) := by unfold smFs; exact inferInstance
instance dec_smG (g : GraL) : Decidable (smG g) := by unfold smG; exact inferInstance
def E1 : QF := ⟨[(0, 1)], 0⟩
def E2 : QF := ⟨[(0, -1)], 1⟩
def E3 : QF := ⟨[(1, 2), (2, 1)], 0⟩
theorem sz1 (z : Int) (h : z.natAbs < 4294967296) : sz 2 (z : Rat) := zA4 (by decide) (zGI h)
theorem Q_L (f : QF) : f.L.Q = f := by
 unfold QF.L AffL.Q;simp only [List.map_map, zAL];rw [show ((fun t : TermL => (t.var, qv t.coef)) ∘ tQ) = id from by funext t; simp [tQ, zAL], List.map_id]
end Go.PI
namespace Go.PI
theorem zKA {c : Rat} {PA PB R : Rat → Prop} (h1 : ∀ x, PA x → R x) (h2 : ∀ y, PB y → R (y * c)) (h3 : ∀ x y, PA x → PB y → R (x + y * c)) : ∀ (n : Nat) (a b : List QT), a.length + b.length ≤ n → (∀ p ∈ a, PA p.2) → (∀ p ∈ b, PB p.2) → ∀ r ∈ mrg c a b, R r.2
 | n, [], [], _, _, _, r, h => by rw [mrg] at h; cases h
 | 0, _ :: _, _, h, _, _, _, _ => by simp at h
 | 0, _, _ :: _, h, _, _, _, _ => by simp at h
 | n + 1, p :: a, [], hn, ha, hb, r, h => by
   rw [mrg, List.mem_append] at h;simp only [List.length_cons] at hn;rcases h with h | h
   ·rw [zDI h]; exact h1 _ (ha p (by simp))
   ·exact zKA h1 h2 h3 n a [] (by simp at hn ⊢; omega) (fun q hq => ha q (by simp [hq])) hb r h
 | n + 1, [], q :: b, hn, ha, hb, r, h => by
   rw [mrg, List.mem_append] at h;simp only [List.length_cons] at hn;rcases h with h | h
   ·rw [zDI h]; exact h2 _ (hb q (by simp))
   ·exact zKA h1 h2 h3 n [] b (by simp at hn ⊢; omega) ha (fun q hq => hb q (by simp [hq])) r h
 | n + 1, p :: a, q :: b, hn, ha, hb, r, h => by
   rw [mrg] at h;simp only [List.length_cons] at hn
   split at h
   ·rcases List.mem_append.1 h with h | h
    ·rw [zDI h]; exact h1 _ (ha p (by simp))
    ·exact zKA h1 h2 h3 n a (q :: b) (by simp; omega) (fun q hq => ha q (by simp [hq])) hb r h
   ·split at h
    ·rcases List.mem_append.1 h with h | h
     ·rw [zDI h]; exact h2 _ (hb q (by simp))
     ·exact zKA h1 h2 h3 n (p :: a) b (by simp; omega) ha (fun q hq => hb q (by simp [hq])) r h
    ·rcases List.mem_append.1 h with h | h
     ·rw [zDI h]; exact h3 _ _ (ha p (by simp)) (hb q (by simp))
     ·exact zKA h1 h2 h3 n a b (by omega) (fun q hq => ha q (by simp [hq])) (fun q hq => hb q (by simp [hq])) r h
def BdF (D A : Nat) (f : QF) : Prop := Bd D A f.c ∧ ∀ p ∈ f.ts, Bd D A p.2
theorem BdF.sz {D A d a : Nat} {f : QF} (h : BdF D A f) (hD : D < pw d) (hA : A < pw a) : szF (d + a) f := ⟨h.1.sz hD hA, fun p hp => (h.2 p hp).sz hD hA⟩
def lowF (s : Nat) (f : QF) : Prop := ∃ D A, D < pw s ∧ A < pw s ∧ BdF D A f
theorem lowF.sz {s : Nat} {f : QF} (h : lowF s f) : szF (2 * s) f := by
 obtain ⟨D, A, h1, h2, h3⟩ := h;have := h3.sz h1 h2
 rwa [show s + s = 2 * s by omega] at this
end Go.PI
namespace Go.PI
def kapW (n v : Nat) : Nat := if v < n then 200 else 2500 * 2 ^ (v - n)
theorem kap_sumW : ∀ n, n < 4 → ∀ j, j < 5 → 200 + sumF (fun v => kapW n v + 200 + 1) 0 (n + j) ≤ 2500 * 2 ^ j := by decide +kernel
theorem kap_sum2W : ∀ n, n < 4 → ∀ j, j < 5 → 200 + sumF (fun v => 200 + kapW n v + 1) 0 (n + j) ≤ 2500 * 2 ^ j := by decide +kernel
theorem kap_nW (n j : Nat) : kapW n (n + j) = 2500 * 2 ^ j := by unfold kapW; rw [if_neg (by omega), Nat.add_sub_cancel_left]
theorem kap_leW {n v : Nat} (h : v < n + 5) : kapW n v ≤ 40000 := by
 unfold kapW; split
 ·omega
 ·have : 2 ^ (v - n) ≤ 2 ^ 4 := Nat.pow_le_pow_right (by decide) (by omega)
  omega
section
variable {us : List QF} {n : Nat} {p : List Int} {x : List Rat}
def smUW (us : List QF) (n : Nat) : Prop := n < 4 ∧ us.length < 5 ∧ ∀ j, j < us.length → szF 200 us[j]! ∧ okF (n + j : Nat) us[j]!
theorem zGU (h : smUW us n) : ∀ j, j ≤ us.length → okVr n (kapW n) (frmN us n p j)
 | 0, _ => fun v hv => by
   have hv' : v < n := by simpa [frmN, varQs] using hv
   have e : (frmN us n p 0)[v]! = ⟨[((v : Int), 1)], 0⟩ := by unfold frmN varQs; rw [zBK hv']
   rw [e];refine ⟨⟨⟨List.pairwise_singleton _ _, fun t ht => ?_⟩, fun t ht => ?_⟩, ⟨zA4 ?_ (zGI (z := 0) (by decide)), fun t ht => ?_⟩, ?_⟩
   ·rw [List.mem_singleton.1 ht]; show (1 : Rat) ≠ 0; decide
   ·rw [List.mem_singleton.1 ht]; simp only; omega
   ·unfold kapW; rw [if_pos hv']; decide
   ·rw [List.mem_singleton.1 ht]
    exact zA4 (by unfold kapW; rw [if_pos hv']; decide) (zGI (z := 1) (by decide))
   ·simp only [List.length_singleton]; omega
 | j + 1, hj => fun v hv => by
   have ih := zGU h j (by omega);have hl := zBZ us n p j;rw [zBZ] at hv;by_cases e : v < n + j
   ·have e2 : (frmN us n p (j + 1))[v]! = (frmN us n p j)[v]! := by
     have h1 : v < (frmN us n p j).length := by omega
     rw [getElem!_pos _ v (by rw [zBZ]; omega), getElem!_pos _ v h1];simp only [frmN]; rw [List.getElem_append_left h1]
    rw [e2]; exact ih v (by omega)
   ·have e3 : v = n + j := by omega
    subst e3
    have e2 : (frmN us n p (j + 1))[n + j]! = if p[j]! = 2 then zeroQ else applyQ us[j]! (frmN us n p j) := by
     rw [getElem!_pos _ (n + j) (by rw [zBZ]; omega)];simp only [frmN]; rw [List.getElem_append_right (by omega)];simp [hl]
    rw [e2, kap_nW];have hp : 1 ≤ 2 ^ j := Nat.one_le_two_pow
    split
    ·exact zero_okVr n _ (by omega)
    ·obtain ⟨h1, h2, h3⟩ := zHK ih (h.2.2 j (by omega)).1 (by rw [hl]; exact (h.2.2 j (by omega)).2)
     rw [hl] at h2;exact ⟨h1, zFH (kap_sumW n h.1 j (by have := h.2.1; omega)) h2, h3⟩
theorem zHE (h : smUW us n) {j : Nat} (hj : j ≤ us.length) : 200 + sumF (fun v => kapW n v + 200 + 1) 0 (n + j) ≤ 40000 := by
 have := kap_sumW n h.1 j (by have := h.2.1; omega);have h2 : 2 ^ j ≤ 2 ^ 4 := Nat.pow_le_pow_right (by decide) (by have := h.2.1; omega);omega
theorem val1_okW (h : smUW us n) (hx : x.length = n) {j : Nat} (hj : j < us.length) (ih : ∀ v, v < n + j → sz (kapW n v) (valsN us x j)[v]!) : sz (2500 * 2 ^ j) (evQ us[j]! (valsN us x j)) := by
 have hl : (valsN us x j).length = n + j := by rw [zCI j (by omega), hx]
 have := evQ_szS (kapW n) (h.2.2 j hj).1 (fun v hv => ih v (by omega)) (by rw [hl]; exact (h.2.2 j hj).2);rw [hl] at this;exact zA4 (kap_sum2W n h.1 j (by have := h.2.1; omega)) this
theorem vals_okW (h : smUW us n) (hx : x.length = n) (hs : ∀ q ∈ x, sz 200 q) : ∀ j, j ≤ us.length → ∀ v, v < n + j → sz (kapW n v) (valsN us x j)[v]!
 | 0, _ => fun v hv => by
   rw [zEK, getElem!_pos x v (by omega)];unfold kapW; rw [if_pos (by omega)];exact hs _ (List.getElem_mem _)
 | j + 1, hj => fun v hv => by
   have ih := vals_okW h hx hs j (by omega);have hl : (valsN us x j).length = n + j := by rw [zCI j (by omega), hx]
   rw [zDV (by omega)];by_cases e : v < n + j
   ·have h1 : v < (valsN us x j).length := by omega
    rw [getElem!_pos _ v (by simp; omega), List.getElem_append_left h1, ← getElem!_pos _ v h1];exact ih v e
   ·have e3 : v = n + j := by omega
    subst e3;rw [getElem!_pos _ (n + j) (by simp; omega), List.getElem_append_right (by omega), kap_nW];simp only [hl, Nat.sub_self, List.getElem_cons_zero];have hp : 1 ≤ 2 ^ j := Nat.one_le_two_pow;exact sz_maxQ (zA4 (by omega) (zGI (z := 0) (by decide))) (val1_okW h hx (by omega) ih)
theorem vals_KW (h : smUW us n) (hx : x.length = n) (hs : ∀ q ∈ x, sz 200 q) {j : Nat} (hj : j ≤ us.length) : ∀ q ∈ valsN us x j, sz 40000 q := fun q hq => by
 obtain ⟨v, hv, rfl⟩ := List.getElem_of_mem hq;have hl : (valsN us x j).length = n + j := by rw [zCI j (by omega), hx]
 have := vals_okW h hx hs j hj v (by omega);rw [getElem!_pos _ v hv] at this;exact zA4 (kap_leW (by have := h.2.1; omega)) this
theorem pre_KW (h : smUW us n) (hx : x.length = n) (hs : ∀ q ∈ x, sz 200 q) {j : Nat} (hj : j < us.length) : sz 40000 (preL us x)[j]! := by
 rw [zG7 hj];have h2 : 2 ^ j ≤ 2 ^ 4 := Nat.pow_le_pow_right (by decide) (by have := h.2.1; omega);exact zA4 (by omega) (val1_okW h hx hj (vals_okW h hx hs j (by omega)))
end
structure smQ (q : QryL) (kg : Nat) : Prop where
 va : VaQ q
 ins : q.g.ins ≤ 3
 un : q.g.units.length ≤ 4
 rows : q.r.rows.length ≤ 8
 g : okGra 199 q.g
 r : okReg 60 q.r
 goal : okA kg q.goal
theorem smQ.n {q : QryL} {kg : Nat} (h : smQ q kg) : ∃ n : Nat, q.g.ins = (n : Int) ∧ 1 ≤ n ∧ n ≤ 3 ∧ q.r.lo.length = n ∧ q.r.hi.length = n := by
 obtain ⟨⟨h1, h2⟩, _⟩ := h.va.1;have := h.ins;have h3 := h.va.2.1.2.1;have h4 := h.va.2.1.2.2.1;exact ⟨q.g.ins.toNat, by omega, by omega, by omega, by omega, by omega⟩
theorem smQ.us {q : QryL} {kg n : Nat} (h : smQ q kg) (hn : q.g.ins = (n : Int)) : smUW (usQ q) n := by
 have h1 := h.ins;have h2 := h.un;refine ⟨by omega, by rw [zB6]; omega, fun j hj => ?_⟩;rw [zB6] at hj;rw [usQ_get hj];refine ⟨zFH (by decide) (zBT (h.g.1.2 _ (by rw [getElem!_pos q.g.units j hj]; exact List.getElem_mem _)) (by decide)), ?_⟩;have := zCC (h.va.1.2.2.2.1 j hj);rw [hn] at this
 exact_mod_cast this
def wval (q : QryL) (x : List Rat) : Rat := evQ q.goal.Q (vlQ q x)
def phO (q : QryL) (x : List Rat) : List Int := (preL (usQ q) x).map fun a => if a < 0 then 2 else 1
theorem zF6 (q : QryL) (x : List Rat) : (phO q x).length = (usQ q).length := by simp [phO, zB9]
theorem phO_get {q : QryL} {x : List Rat} {j : Nat} (hj : j < (usQ q).length) : (phO q x)[j]! = if (preL (usQ q) x)[j]! < 0 then 2 else 1 := by
 have h1 : j < (preL (usQ q) x).length := by rw [zB9]; exact hj
 rw [getElem!_pos _ j (by rw [zF6]; exact hj), getElem!_pos _ j h1]; simp [phO]
theorem zHZ {q : QryL} {x : List Rat} : ∀ j, j < (usQ q).length → (phO q x)[j]! = 1 ∨ (phO q x)[j]! = 2 := fun j hj => by
 rw [phO_get hj]; split; exact Or.inr rfl; exact Or.inl rfl
theorem phO_ag (q : QryL) (x : List Rat) : AgN (usQ q) x (phO q x) (usQ q).length := fun j hj => by
 rw [phO_get hj]
 split
 ·exact agree_off.2 (Rat.le_of_lt (by assumption))
 ·exact agree_on.2 (Rat.not_lt.1 (by assumption))
def rowsP (q : QryL) (n : Nat) (p : List Int) : List QF := (List.range (usQ q).length).map (rowG (usQ q) n p)
def rowsW (q : QryL) (n : Nat) (x : List Rat) : List QF := rowsP q n (phO q x) ++ q.r.rows.map AffL.Q
def goalP (q : QryL) (n : Nat) (p : List Int) : QF := applyQ q.goal.Q (frmN (usQ q) n p (usQ q).length)
def goalW (q : QryL) (n : Nat) (x : List Rat) : QF := goalP q n (phO q x)
noncomputable def crdQ (q : QryL) (n : Nat) (x : List Rat) (i : Nat) : Rat := crdW (rowsW q n x) (goalW q n x) x i (qv q.r.lo[i]!) (qv q.r.hi[i]!)
section
variable {q : QryL} {kg n : Nat} {x : List Rat}
theorem mrg_one {f : QF} {k m : Nat} (hf : szF k f) (hk : k + 1 ≤ m) : szF m (mergeQ zeroQ f (-1)) := by
 refine ⟨?_, fun p hp => ?_⟩
 ·show sz m (0 + f.c * (-1))
  have : (0 : Rat) + f.c * (-1) = - f.c := by grind
  rw [this]; exact zA4 (by omega) (zGE hf.1)
 ·refine zKA (PA := fun _ => False) (PB := fun y => sz k y) (R := fun y => sz m y) (c := -1) (fun x h => h.elim) (fun y h => ?_) (fun x y h _ => h.elim) _ _ _ (Nat.le_refl _) (fun p hp => by cases hp) hf.2 p hp
  have : y * (-1) = - y := by grind
  rw [this]; exact zA4 (by omega) (zGE h)
theorem rowG_nn (h : smQ q kg) (hn : q.g.ins = (n : Int)) (p : List Int) {j : Nat} (hj : j < (usQ q).length) : okF n (rowG (usQ q) n p j) ∧ szF 40001 (rowG (usQ q) n p j) ∧ (rowG (usQ q) n p j).ts.length ≤ n := by
 have hu := h.us hn;have hl := zBZ (usQ q) n p j;have hk := zHE (n := n) hu (j := j) (by omega);obtain ⟨h1, h2, h3⟩ := zHK (f := (usQ q)[j]!) (zGU (p := p) hu j (by omega)) (hu.2.2 j hj).1 (by rw [hl]; exact (hu.2.2 j hj).2);rw [hl] at h2;unfold rowG
 split
 ·have hok : okF n (mergeQ zeroQ (applyQ (usQ q)[j]! (frmN (usQ q) n p j)) (-1)) := ⟨zDX zC5 h1.1, fun t ht => by
   rcases zC1 _ _ _ _ (Nat.le_refl _) t ht with ⟨p, hp, e⟩ | ⟨p, hp, e⟩
   ·cases hp
   ·have := h1.2 p hp; omega⟩
  have h4 : (mergeQ zeroQ (applyQ (usQ q)[j]! (frmN (usQ q) n p j)) (-1)).ts.length ≤ 0 + (applyQ (usQ q)[j]! (frmN (usQ q) n p j)).ts.length := zHB;refine ⟨hok, mrg_one h2 (by omega), by omega⟩
 ·exact ⟨h1, zFH (by omega) h2, h3⟩
theorem zLA (h : smQ q kg) (hn : q.g.ins = (n : Int)) (hx : x.length = n) (hin : inQ q x) : ∀ f ∈ rowsW q n x, (∀ t ∈ f.ts, 0 ≤ t.1) ∧ 0 ≤ evQ f x := fun f hf => by
 have hu := h.us hn;rcases List.mem_append.1 hf with hf | hf
 ·obtain ⟨j, hj, rfl⟩ := List.mem_map.1 hf
  have hj := List.mem_range.1 hj;refine ⟨fun t ht => ((rowG_nn h hn _ hj).1.2 t ht).1, (zON hx (fun j hj => (hu.2.2 j hj).2) zHZ).2 (phO_ag q x) j hj⟩
 ·obtain ⟨a, ha, rfl⟩ := List.mem_map.1 hf
  obtain ⟨j, hj, rfl⟩ := List.getElem_of_mem ha;have h1 := zCC (h.va.2.1.2.2.2.2.2 j hj);have h2 := hin.2.2 j hj;rw [getElem!_pos _ j hj] at h1 h2;exact ⟨fun t ht => (h1.2 t ht).1, h2⟩
theorem goal_at (h : smQ q kg) (hn : q.g.ins = (n : Int)) (hx : x.length = n) {p : List Int} (hp : ∀ j, j < (usQ q).length → p[j]! = 1 ∨ p[j]! = 2) (ha : AgN (usQ q) x p (usQ q).length) : evQ (goalP q n p) x = wval q x := by
 have hu := h.us hn;unfold goalP wval vlQ;rw [zM4, frmN_ev hx (fun j hj => (hu.2.2 j hj).2) hp _ (Nat.le_refl _) ha];have := zCC h.va.2.2;rw [zBZ, zB6];rw [hn] at this
 exact_mod_cast this
theorem zLJ (h : smQ q kg) (hn : q.g.ins = (n : Int)) (p : List Int) : ∀ t ∈ (goalP q n p).ts, 0 ≤ t.1 := fun t ht => by
 have hu := h.us hn;have hg := zCC h.va.2.2;rw [hn] at hg;have := (zHK (f := q.goal.Q) (zGU (p := p) hu _ (Nat.le_refl _)) (zBT (zB0 (Nat.le_max_left kg 1) h.goal) (Nat.le_max_right _ _)) (by rw [zBZ, zB6]; exact_mod_cast hg)).1.2 t ht;exact this.1
theorem crd_step (h : smQ q kg) (hn : q.g.ins = (n : Int)) (hin : inQ q x) (hv : wval q x < 0) {i : Nat} (hi : i < n) :
 inQ q (x.set i (crdQ q n x i)) ∧ wval q (x.set i (crdQ q n x i)) < 0 ∧ (crdQ q n x i).den ≤ x[i]!.den ∧ qv q.r.lo[i]! ≤ crdQ q n x i ∧ crdQ q n x i ≤ qv q.r.hi[i]! := by
 have hx : x.length = n := by have := hin.1; omega
 have hu := h.us hn;have hb := hin.2.1 i (by omega);have hg := goal_at h hn hx (zHZ (q := q) (x := x)) (phO_ag q x);obtain ⟨c1, c2, c3, c4, c5⟩ := crd_ok (i := i) (rows := rowsW q n x) (g := goalW q n x) (by omega) (zLA h hn hx hin) (zLJ h hn _) (by unfold goalW; rw [hg]; exact hv) hb.1 hb.2;have e : crdW (rowsW q n x) (goalW q n x) x i (qv q.r.lo[i]!) (qv q.r.hi[i]!) = crdQ q n x i := rfl;rw [e] at c1 c2 c3 c4 c5;generalize crdQ q n x i = t at *
 have hx' : (x.set i t).length = n := by simp [hx]
 have hag : AgN (usQ q) (x.set i t) (phO q x) (usQ q).length := (zON hx' (fun j hj => (hu.2.2 j hj).2) zHZ).1 fun j hj => c4 _ (List.mem_append_left _ (List.mem_map.2 ⟨j, List.mem_range.2 hj, rfl⟩))
 refine ⟨⟨by rw [hx', hn], fun k hk => ?_, fun k hk => ?_⟩, ?_, c3, c1, c2⟩
 ·rw [hx'] at hk
  by_cases e : k = i
  ·subst e
   have ek : (x.set k t)[k]! = t := by rw [getElem!_pos _ k (by rw [hx']; omega), List.getElem_set_self]
   rw [ek]; exact ⟨c1, c2⟩
  ·have := hin.2.1 k (by omega)
   have ek : (x.set i t)[k]! = x[k]! := by rw [getElem!_pos _ k (by rw [hx']; omega), List.getElem_set_ne (by omega), ← getElem!_pos x k (by omega)]
   rw [ek]; exact this
 ·exact c4 _ (List.mem_append_right _ (List.mem_map.2 ⟨_, by rw [getElem!_pos _ k hk]; exact List.getElem_mem _, rfl⟩))
 ·rw [← goal_at h hn hx' (zHZ (q := q) (x := x)) hag]
  exact c5
end
end Go.PI
namespace Go.PI
theorem smQ.bnd {q : QryL} {kg : Nat} (h : smQ q kg) {i : Nat} (hi : i < q.r.lo.length) : sz 60 (qv q.r.lo[i]!) ∧ sz 60 (qv q.r.hi[i]!) ∧ qv q.r.lo[i]! ≤ qv q.r.hi[i]! ∧ q.r.lo[i]! = cr (qv q.r.lo[i]!) ∧ q.r.hi[i]! = cr (qv q.r.hi[i]!) := by
 have hb := h.va.2.1.2.2.2.2.1 i hi;have h1 := zA7 h.r.1 hi;have h2 := zA7 h.r.2.1 (i := i) (by have := h.va.2.1.2.1; have := h.va.2.1.2.2.1; omega);exact ⟨zEG h1.1 h1.2.1 h1.2.2 (by decide), zEG h2.1 h2.2.1 h2.2.2 (by decide), hb.2.2, hb.1, hb.2.1⟩
section
variable {q : QryL} {kg n : Nat} {x : List Rat}
theorem zKP (h : smQ q kg) (hn : q.g.ins = (n : Int)) (hx : x.length = n) (hs : ∀ r ∈ x, sz 200 r) :
 (∀ j, j ≤ (usQ q).length → ∀ r ∈ valsN (usQ q) x j, sz 40000 r) ∧ ∀ j, j < (usQ q).length → sz 40000 (preL (usQ q) x)[j]! :=
 ⟨fun j hj => vals_KW (h.us hn) hx hs hj, fun j hj => pre_KW (h.us hn) hx hs hj⟩
theorem zE8 (h : smQ q kg) : (∀ f ∈ q.g.units, f.terms.length ≤ 7) ∧ (∀ f ∈ q.r.rows, f.terms.length ≤ 7) ∧ q.goal.terms.length ≤ 7 := by
 have key : ∀ (f : AffL) (m : Int), ValidF f m → m ≤ 7 → f.terms.length ≤ 7 := fun f m hf hm => by
  have h1 := zCC hf;have h2 := zLX 7 h1.1.1 fun t ht => by have := h1.2 t ht; omega
  simpa [AffL.Q] using h2
 have h1 := h.ins;have h2 := h.un;refine ⟨fun f hf => ?_, fun f hf => ?_, key _ _ h.va.2.2 (by omega)⟩
 ·obtain ⟨j, hj, rfl⟩ := List.getElem_of_mem hf
  have := h.va.1.2.2.2.1 j hj;rw [getElem!_pos _ j hj] at this;exact key _ _ this (by omega)
 ·obtain ⟨j, hj, rfl⟩ := List.getElem_of_mem hf
  have := h.va.2.1.2.2.2.2.2 j hj;rw [getElem!_pos _ j hj] at this;exact key _ _ this (by omega)
theorem zIZ (h : smQ q kg) (hn : q.g.ins = (n : Int)) (hx : x.length = n) : ∀ t ∈ q.goal.Q.ts, 0 ≤ t.1 ∧ t.1 < (vlQ q x).length := fun t ht => by
 have h1 := (zCC h.va.2.2).2 t ht;have hl : (vlQ q x).length = n + q.g.units.length := by unfold vlQ; rw [zCI _ (Nat.le_refl _), hx, zB6]
 omega
theorem zHV (h : smQ q kg) (hkg : kg ≤ 1000000) (hn : q.g.ins = (n : Int)) (hx : x.length = n) (hs : ∀ r ∈ x, sz 200 r) : sz 9000000 (wval q x) := by
 have h1 := (zKP h hn hx hs).1 _ (Nat.le_refl _);have ht := (zE8 h).2.2;have hq : q.goal.Q.ts.length ≤ 7 := by rw [zE1]; exact ht
 have h2 := zM3 (k := 1000000) (kx := 40000) (f := q.goal.Q) (x := vlQ q x) (zBT (zB0 hkg h.goal) (by decide)) h1 (zIZ h hn hx);exact zA4 (by have := Nat.mul_le_mul_right (1000000 + 40000 + 1) hq; omega) h2
end
noncomputable def bstN (q : QryL) (l : List (List Rat)) : Nat → Nat × Rat × Bool
 | 0 => (0, 0, false)
 | i + 1 => if dB (conR q.r (l[i]!.map cr)) = true ∧ ((bstN q l i).2.2 = false ∨ wval q l[i]! < (bstN q l i).2.1) then (i, wval q l[i]!, true) else bstN q l i
theorem zHJ (q : QryL) (l : List (List Rat)) : ∀ i, i ≤ l.length →
 ((bstN q l i).2.2 = true → (bstN q l i).1 < i ∧ conR q.r (l[(bstN q l i).1]!.map cr) ∧ (bstN q l i).2.1 = wval q l[(bstN q l i).1]! ∧ ∀ j, j < i → conR q.r (l[j]!.map cr) → (bstN q l i).2.1 ≤ wval q l[j]!) ∧
 ((bstN q l i).2.2 = false → (bstN q l i).1 = 0 ∧ (bstN q l i).2.1 = 0 ∧ ∀ j, j < i → ¬ conR q.r (l[j]!.map cr))
 | 0, _ => ⟨fun h => absurd (show false = true from h) (by decide), fun _ => ⟨rfl, rfl, fun j hj => by omega⟩⟩
 | i + 1, hi => by
   obtain ⟨h1, h2⟩ := zHJ q l i (by omega);unfold bstN
   split
   ·rename_i hc
    obtain ⟨c1, c2⟩ := hc;refine ⟨fun _ => ⟨Nat.lt_succ_self _, dB_true.1 c1, rfl, fun j hj hjc => ?_⟩, fun h => absurd (show true = false from h) (by decide)⟩;by_cases e : j = i
    ·subst e; exact Rat.le_refl
    ·rcases c2 with c2 | c2
     ·exact absurd hjc ((h2 c2).2.2 j (by omega))
     ·by_cases hb : (bstN q l i).2.2 = true
      ·exact Rat.le_trans (Rat.le_of_lt c2) ((h1 hb).2.2.2 j (by omega) hjc)
      ·exact absurd hjc ((h2 (by simpa using hb)).2.2 j (by omega))
   ·rename_i hc
    refine ⟨fun hb => ?_, fun hb => ?_⟩
    ·obtain ⟨a1, a2, a3, a4⟩ := h1 hb
     refine ⟨by omega, a2, a3, fun j hj hjc => ?_⟩;by_cases e : j = i
     ·subst e
      exact Rat.not_lt.1 fun hlt => hc ⟨dB_true.2 hjc, Or.inr hlt⟩
     ·exact a4 j (by omega) hjc
    ·obtain ⟨a1, a2, a3⟩ := h2 hb
     refine ⟨a1, a2, fun j hj hjc => ?_⟩;by_cases e : j = i
     ·subst e; exact hc ⟨dB_true.2 hjc, Or.inl hb⟩
     ·exact a3 j (by omega) hjc
def triL (q : QryL) (x : List Rat) (i : Nat) : List (List Rat) := [x, x.set i (qv q.r.lo[i]!), x.set i (qv q.r.hi[i]!)]
noncomputable def impW (q : QryL) (x : List Rat) (i : Nat) : List Rat := (triL q x i)[(bstN q (triL q x i) 3).1]!
noncomputable def rndI (q : QryL) (x : List Rat) : Nat → List Rat
 | 0 => x
 | i + 1 => impW q (rndI q x i) i
noncomputable def rdsW (q : QryL) (n : Nat) : Nat → List Rat → List Rat
 | 0, x => x
 | k + 1, x => if rndI q x n = x then x else rdsW q n k (rndI q x n)
noncomputable def candL (q : QryL) (m : Nat) : List (List Rat) := ceR q.r :: (List.range m).map fun b => coR q.r b
structure ptW (q : QryL) (n : Nat) (x : List Rat) : Prop where
 len : x.length = n
 sz : ∀ r ∈ x, sz 200 r
 con : conR q.r (x.map cr)
section
variable {q : QryL} {kg n : Nat} {x : List Rat}
theorem set_sz {k : Nat} {a : Rat} (hs : ∀ r ∈ x, sz k r) (ha : sz k a) (i : Nat) : ∀ r ∈ x.set i a, sz k r := fun r hr => by
 rcases List.mem_or_eq_of_mem_set hr with h | h
 ·exact hs r h
 ·rw [h]; exact ha
theorem tri_sz (h : smQ q kg) (hx : ∀ r ∈ x, sz 200 r) {i : Nat} (hi : i < q.r.lo.length) : ∀ y ∈ triL q x i, y.length = x.length ∧ ∀ r ∈ y, sz 200 r := fun y hy => by
 obtain ⟨b1, b2, _⟩ := h.bnd hi;simp only [triL, List.mem_cons, List.not_mem_nil, or_false] at hy;rcases hy with rfl | rfl | rfl
 ·exact ⟨rfl, hx⟩
 ·exact ⟨by simp, set_sz hx (zA4 (by decide) b1) i⟩
 ·exact ⟨by simp, set_sz hx (zA4 (by decide) b2) i⟩
theorem imp_ok (h : smQ q kg) (hp : ptW q n x) {i : Nat} (hi : i < q.r.lo.length) : ptW q n (impW q x i) ∧ wval q (impW q x i) ≤ wval q x ∧ (bstN q (triL q x i) 3).2.2 = true ∧ (bstN q (triL q x i) 3).1 < 3 := by
 obtain ⟨h1, h2⟩ := zHJ q (triL q x i) 3 (by simp [triL])
 have hb : (bstN q (triL q x i) 3).2.2 = true := by
  cases hb : (bstN q (triL q x i) 3).2.2 with
  | true => rfl
  | false => exact absurd hp.con ((h2 hb).2.2 0 (by decide))
 obtain ⟨a1, a2, a3, a4⟩ := h1 hb
 have hm : impW q x i ∈ triL q x i := by
  unfold impW;rw [getElem!_pos _ _ (by simpa [triL] using a1)]; exact List.getElem_mem _
 obtain ⟨t1, t2⟩ := tri_sz h hp.sz hi _ hm;refine ⟨⟨by rw [t1, hp.len], t2, a2⟩, ?_, hb, a1⟩;have := a4 0 (by decide) hp.con;rw [a3] at this;exact this
theorem rnd_ok (h : smQ q kg) (hp : ptW q n x) : ∀ i, i ≤ q.r.lo.length → ptW q n (rndI q x i) ∧ wval q (rndI q x i) ≤ wval q x
 | 0, _ => ⟨hp, Rat.le_refl⟩
 | i + 1, hi => by
   obtain ⟨h1, h2⟩ := rnd_ok h hp i (by omega);obtain ⟨h3, h4, _⟩ := imp_ok h h1 (i := i) (by omega);exact ⟨h3, Rat.le_trans h4 h2⟩
theorem rds_ok (h : smQ q kg) (hn : q.r.lo.length = n) : ∀ (k : Nat) (x : List Rat), ptW q n x → ptW q n (rdsW q n k x) ∧ wval q (rdsW q n k x) ≤ wval q x
 | 0, x, hp => ⟨hp, Rat.le_refl⟩
 | k + 1, x, hp => by
   obtain ⟨h1, h2⟩ := rnd_ok h hp n (by omega);unfold rdsW
   split
   ·exact ⟨hp, Rat.le_refl⟩
   ·obtain ⟨h3, h4⟩ := rds_ok h hn k _ h1
    exact ⟨h3, Rat.le_trans h4 h2⟩
end
end Go.PI
namespace Go.PI
def guA (l : List Int) (a n : Nat) : Nat → Nat
 | 0 => a
 | j + 1 => (frmI l (guA l a n j) (n + j)).2
def guI (l : List Int) (a n u : Nat) : List QF := (List.range u).map fun j => (frmI l (guA l a n j) (n + j)).1
theorem guA_le {l : List Int} {a n : Nat} (h : a ≤ l.length) : ∀ j, guA l a n j ≤ l.length
 | 0 => h
 | j + 1 => (zGV (guA_le h j) (n + j)).2.2.2
theorem guI_len (l : List Int) (a n u : Nat) : (guI l a n u).length = u := by simp [guI]
theorem guI_get {l : List Int} {a n u j : Nat} (hj : j < u) : (guI l a n u)[j]! = (frmI l (guA l a n j) (n + j)).1 := by unfold guI; rw [zBK hj]
def gfN (l : List Int) (a : Nat) : Nat := 1 + nx1 l a 3
def gfU (l : List Int) (a : Nat) : Nat := nx1 l (nx2 l a) 5
def gfO (l : List Int) (a : Nat) : Nat := 1 + nx1 l (nx2 l (nx2 l a)) 3
def gfS (l : List Int) (a : Nat) : Nat := nx2 l (nx2 l (nx2 l a))
def gfM (l : List Int) (a : Nat) : Nat := guA l (gfS l a) (gfN l a) (gfU l a)
def gfE (l : List Int) (a : Nat) : Nat := rwA l (gfM l a) (gfN l a + gfU l a) (gfO l a)
def gfG (l : List Int) (a : Nat) : GraL := ⟨(gfN l a : Nat), (guI l (gfS l a) (gfN l a) (gfU l a)).map QF.L, (rwI l (gfM l a) (gfN l a + gfU l a) (gfO l a)).map QF.L⟩
theorem gfS_le {l : List Int} {a : Nat} (h : a ≤ l.length) : gfS l a ≤ l.length := zEF (zEF (zEF h))
theorem gfM_le {l : List Int} {a : Nat} (h : a ≤ l.length) : gfM l a ≤ l.length := guA_le (gfS_le h) _
theorem gfE_le {l : List Int} {a : Nat} (h : a ≤ l.length) : gfE l a ≤ l.length := zL5 (gfM_le h) _
theorem gr_lt (l : List Int) (a : Nat) : gfN l a ≤ 3 ∧ 1 ≤ gfN l a ∧ gfU l a ≤ 4 ∧ gfO l a ≤ 3 ∧ 1 ≤ gfO l a := by
 have h1 := zHP (l := l) (a := a) (n := 3) (by decide);have h2 := zHP (l := l) (a := nx2 l a) (n := 5) (by decide);have h3 := zHP (l := l) (a := nx2 l (nx2 l a)) (n := 3) (by decide);unfold gfN gfU gfO;omega
theorem gfG_ok {l : List Int} {a : Nat} (h : a ≤ l.length) : VaG (gfG l a) ∧ okGra 40 (gfG l a) ∧ (gfG l a).units.length = gfU l a := by
 obtain ⟨g1, g2, g3, g4, g5⟩ := gr_lt l a;have e1 : (gfG l a).units.length = gfU l a := by simp [gfG, guI_len]
 have e2 : (gfG l a).outs.length = gfO l a := by simp [gfG, rwI]
 refine ⟨⟨⟨by show (1 : Int) ≤ (gfN l a : Nat); omega, by show ((gfN l a : Nat) : Int) ≤ 256; omega⟩, by omega, ⟨by omega, by omega⟩, fun j hj => ?_, fun i hi => ?_⟩, ⟨⟨by omega, fun f hf => ?_⟩, ⟨by omega, fun f hf => ?_⟩⟩, e1⟩
 ·have hj' : j < gfU l a := by omega
  have e : (gfG l a).units[j]! = (frmI l (guA l (gfS l a) (gfN l a) j) (gfN l a + j)).1.L := by
   rw [getElem!_pos _ j hj];simp only [gfG, List.getElem_map];rw [← guI_get hj', getElem!_pos _ j (by rw [guI_len]; exact hj')]
  rw [e];have := (zGV (guA_le (n := gfN l a) (gfS_le h) j) (gfN l a + j)).1;exact zIE (by exact_mod_cast this)
 ·have hi' : i < gfO l a := by omega
  have e : (gfG l a).outs[i]! = (rwI l (gfM l a) (gfN l a + gfU l a) (gfO l a))[i]!.L := by
   rw [getElem!_pos _ i hi, getElem!_pos _ i (by simpa [rwI] using hi')];simp only [gfG, List.getElem_map]
  rw [e, e1]
  have hm : (rwI l (gfM l a) (gfN l a + gfU l a) (gfO l a))[i]! ∈ rwI l (gfM l a) (gfN l a + gfU l a) (gfO l a) := by
   rw [getElem!_pos _ i (by simpa [rwI] using hi')]; exact List.getElem_mem _
  have := (rw_mem (gfM_le h) hm).1;exact zIE (by show okF ((gfN l a : Nat) + (gfU l a : Nat) : Int) _; exact_mod_cast this)
 ·obtain ⟨g, hg, rfl⟩ := List.mem_map.1 hf
  obtain ⟨j, hj, rfl⟩ := List.mem_map.1 hg;have hj := List.mem_range.1 hj;obtain ⟨_, k2, k3, _⟩ := zGV (guA_le (n := gfN l a) (gfS_le h) j) (gfN l a + j);exact okA_L (zFH (by omega) k2) (by omega)
 ·obtain ⟨g, hg, rfl⟩ := List.mem_map.1 hf
  obtain ⟨_, k2, k3⟩ := rw_mem (gfM_le h) hg;exact okA_L (zFH (by omega) k2) (by omega)
def insQ (l : List Int) : QryL := ⟨gfG l 0, smR' l (gfE l 0) (gfN l 0), (frmI l (smRA l (gfE l 0) (gfN l 0)) (gfN l 0 + gfU l 0)).1.L⟩
theorem smRA_le {l : List Int} {a m : Nat} (h : a ≤ l.length) : smRA l a m ≤ l.length := zL5 (zEF (bdA_le h m)) _
theorem insQ_ok (l : List Int) : smQ (insQ l) 199 := by
 have h0 : 0 ≤ l.length := Nat.zero_le _;obtain ⟨g1, g2, g3⟩ := gfG_ok h0;obtain ⟨n1, n2, n3, _⟩ := gr_lt l 0;obtain ⟨r1, r2, r3, r4, r5, r6⟩ := smR_ok (l := l) (gfE_le h0) (m := gfN l 0) n2 (by omega);obtain ⟨f1, f2, f3, f4⟩ := zGV (smRA_le (m := gfN l 0) (gfE_le h0)) (gfN l 0 + gfU l 0);refine ⟨⟨g1, r1, ?_⟩, by show ((gfN l 0 : Nat) : Int) ≤ 3; omega, by show (gfG l 0).units.length ≤ 4; omega, by show (smR' l (gfE l 0) (gfN l 0)).rows.length ≤ 8; omega, ⟨⟨g2.1.1, fun f hf => zB0 (by decide) (g2.1.2 f hf)⟩, ⟨g2.2.1, fun f hf => zB0 (by decide) (g2.2.2 f hf)⟩⟩, zCE (by decide) r2, okA_L (zFH (by omega) f2) (by omega)⟩;refine zIE ?_;show okF ((gfN l 0 : Nat) + ((gfG l 0).units.length : Nat) : Int) _
 rw [g3]
 exact_mod_cast f1
end Go.PI
namespace Go.PI
theorem bnd_sz {lo hi t : Rat} (hl : sz 60 lo) (hh : sz 60 hi) (h1 : lo ≤ t) (h2 : t ≤ hi) (hd : t.den < pw 140) : sz 200 t := by
 have key : ∀ {a b : Rat}, 0 ≤ a → a ≤ b → sz 60 b → a.num.natAbs < pw 60 * a.den := fun {a b} ha hab hb => by
  have g1 := (Rat.le_iff _ _).1 hab;have g2 : 0 ≤ a.num := Rat.num_nonneg.2 ha;have g3 : 0 ≤ b.num := Rat.num_nonneg.2 (Rat.le_trans ha hab);have g4 := b.den_pos;have g5 := a.den_pos;have g6 := hb.1;have g7 : a.num * 1 ≤ a.num * b.den := Int.mul_le_mul_of_nonneg_left (by omega) g2;have g8 : a.num ≤ b.num * a.den := by omega
  have g9 : b.num.natAbs * a.den < pw 60 * a.den := (Nat.mul_lt_mul_right g5).2 g6
  have e : ((b.num.natAbs * a.den : Nat) : Int) = b.num * a.den := by
   rw [Int.natCast_mul]; congr 1; omega
  omega
 have fin : t.num.natAbs < pw 60 * t.den → sz 200 t := fun h => by
  have e : pw 200 = pw 60 * pw 140 := zMC 60 140;refine ⟨?_, Nat.lt_of_lt_of_le hd (zEC (by decide))⟩;rw [e];exact Nat.lt_of_lt_of_le h (Nat.mul_le_mul_left _ (Nat.le_of_lt hd))
 by_cases h0 : 0 ≤ t
 ·exact fin (key h0 h2 hh)
 ·have := key (a := -t) (b := -lo) (by grind) (by grind) (zGE hl)
  refine fin ?_
  simpa using this
noncomputable def simI (q : QryL) (n : Nat) (x : List Rat) : Nat → List Rat
 | 0 => x
 | i + 1 => (simI q n x i).set i (crdQ q n (simI q n x i) i)
structure simP (q : QryL) (n : Nat) (x y : List Rat) : Prop where
 inp : inQ q y
 val : wval q y < 0
 den : ∀ i, i < n → y[i]!.den ≤ x[i]!.den
theorem sim_ok {q : QryL} {kg n : Nat} {x : List Rat} (h : smQ q kg) (hn : q.g.ins = (n : Int)) (hin : inQ q x) (hv : wval q x < 0) : ∀ i, i ≤ n → simP q n x (simI q n x i)
 | 0, _ => ⟨hin, hv, fun _ _ => Nat.le_refl _⟩
 | i + 1, hi => by
   obtain ⟨h1, h2, h3⟩ := sim_ok h hn hin hv i (by omega);obtain ⟨k1, k2, k3, _, _⟩ := crd_step h hn h1 h2 (i := i) (by omega);refine ⟨k1, k2, fun j hj => ?_⟩;have hl : (simI q n x i).length = n := by have := h1.1; omega
   unfold simI;by_cases e : j = i
   ·subst e
    have ek : ((simI q n x j).set j (crdQ q n (simI q n x j) j))[j]! = crdQ q n (simI q n x j) j := by rw [getElem!_pos _ j (by simpa using by omega), List.getElem_set_self]
    rw [ek];exact Nat.le_trans k3 (h3 j hj)
   ·have ek : ((simI q n x i).set i (crdQ q n (simI q n x i) i))[j]! = (simI q n x i)[j]! := by
     rw [getElem!_pos _ j (by simpa using by omega), List.getElem_set_ne (by omega), ← getElem!_pos _ j (by omega)]
    rw [ek];exact h3 j hj
theorem sim_sz {q : QryL} {kg n : Nat} {x y : List Rat} (h : smQ q kg) (hn : q.g.ins = (n : Int)) (hp : simP q n x y) (hd : ∀ i, i < n → x[i]!.den < pw 140) : ∀ r ∈ y, sz 200 r := fun r hr => by
 obtain ⟨i, hi, rfl⟩ := List.getElem_of_mem hr;have hl : y.length = n := by have := hp.inp.1; omega
 have hlo : q.r.lo.length = n := by obtain ⟨m, e1, _, _, e2, _⟩ := h.n; omega
 obtain ⟨b1, b2, _⟩ := h.bnd (i := i) (by omega);have h1 := hp.inp.2.1 i hi;have h2 := hp.den i (by omega);have h3 := hd i (by omega);rw [getElem!_pos y i hi] at h1 h2;exact bnd_sz b1 b2 h1.1 h1.2 (Nat.lt_of_le_of_lt h2 h3)
end Go.PI
namespace Go.PI
theorem zNB {v : Int} : ∀ {l : List QT}, (∀ p ∈ l, p.1 ≠ v) → cf l v = 0
 | [], _ => rfl
 | p :: l, h => by
   rw [cf, if_neg (h p (by simp)), zNB fun q hq => h q (List.mem_cons_of_mem _ hq)];exact Rat.zero_add 0
theorem cf_at {v : Int} : ∀ {l : List QT}, l.Pairwise (fun p q => p.1 < q.1) → ∀ {p : QT}, p ∈ l → p.1 = v → cf l v = p.2
 | [], _, p, hp, _ => by cases hp
 | q :: l, h, p, hp, e => by
   obtain ⟨h1, h2⟩ := List.pairwise_cons.1 h;rw [cf];rcases List.mem_cons.1 hp with rfl | hp
   ·rw [if_pos e, zNB fun r hr => by have := h1 r hr; omega]
    exact Rat.add_zero _
   ·have := h1 p hp
    rw [if_neg (by omega), cf_at h2 hp e];exact Rat.zero_add _
theorem sz_invR {k : Nat} {b : Rat} (h0 : b ≠ 0) (h : sz k b) : sz k b⁻¹ := by
 have hn : b.num ≠ 0 := fun e => h0 (Rat.num_eq_zero.1 e)
 refine ⟨?_, ?_⟩
 ·rw [Rat.num_inv, Int.natAbs_mul, Int.natAbs_sign_of_ne_zero hn, Nat.one_mul]
  simpa using h.2
 ·rw [Rat.den_inv, if_neg hn]; exact h.1
theorem sz_div {j k : Nat} {a b : Rat} (h0 : b ≠ 0) (ha : sz j a) (hb : sz k b) : sz (j + k) (a / b) := by
 rw [Rat.div_def]; exact zB2 ha (sz_invR h0 hb)
theorem sz_0 {k : Nat} (hk : 1 ≤ k) : sz k (0 : Rat) := zA4 hk (⟨by decide, by decide⟩ : sz 1 (0 : Rat))
theorem cf_sz {k : Nat} (hk : 1 ≤ k) : ∀ {l : List QT} {v : Int}, l.Pairwise (fun p q => p.1 < q.1) → (∀ p ∈ l, sz k p.2) → sz k (cf l v) := fun {l v} hp hl => by
 by_cases h : ∃ p ∈ l, p.1 = v
 ·obtain ⟨p, h1, h2⟩ := h
  rw [cf_at hp h1 h2]; exact hl p h1
 ·rw [zNB fun p hp e => h ⟨p, hp, e⟩]
  exact sz_0 hk
structure szN (f : QF) (x : List Rat) (k : Nat) : Prop where
 ff : szF k f
 ok : okF x.length f
 len : f.ts.length ≤ 3
 xs : ∀ q ∈ x, sz 200 q
 xl : x.length ≤ 3
theorem szN.ev {f : QF} {x : List Rat} {k : Nat} (h : szN f x k) : sz (4 * k + 603) (evQ f x) := by
 have := zM3 h.ff h.xs h.ok.2;exact zA4 (by have := Nat.mul_le_mul_right (k + 200 + 1) h.len; omega) this
theorem w_get {α : Type} [Inhabited α] {l : List α} {i : Nat} (h : i < l.length) : l[i]! ∈ l := by rw [getElem!_pos l i h]; exact List.getElem_mem h
theorem szN.zer {f : QF} {x : List Rat} {k : Nat} (h : szN f x k) (hk : 1 ≤ k) {i : Nat} (hi : i < x.length) (h0 : cf f.ts i ≠ 0) : sz (4 * k + 603 + k) (evQ f x / cf f.ts i) ∧ sz (5 * k + 804) (zer x i f) := by
 have h1 := sz_div h0 h.ev (cf_sz hk h.ok.1.1 h.ff.2);have h2 := sz_sub (h.xs _ (w_get hi)) h1;exact ⟨h1, zA4 (by omega) h2⟩
theorem szN.nar {f : QF} {x : List Rat} {k : Nat} (h : szN f x k) (hk : 1 ≤ k) (hk2 : k ≤ 2000000) {i : Nat} (hi : i < x.length) {b : Rat × Rat} (hb : sz 20000000 b.1 ∧ sz 20000000 b.2) : sz 20000000 (nar x i b f).1 ∧ sz 20000000 (nar x i b f).2 := by
 unfold Go.PI.nar
 split
 ·exact hb
 ·rename_i h0
  have hz := zA4 (k := 20000000) (by omega) (h.zer hk hi h0).2
  split
  ·exact ⟨sz_max hb.1 hz, hb.2⟩
  ·exact ⟨hb.1, sz_min hb.2 hz⟩
theorem zJ8 {x : List Rat} {i : Nat} (hi : i < x.length) : ∀ (fs : List QF) (b : Rat × Rat), (∀ f ∈ fs, szN f x 40001) → sz 20000000 b.1 ∧ sz 20000000 b.2 → sz 20000000 (fs.foldl (nar x i) b).1 ∧ sz 20000000 (fs.foldl (nar x i) b).2
 | [], _, _, h => h
 | f :: fs, b, hf, h => zJ8 hi fs _ (fun g hg => hf g (List.mem_cons_of_mem _ hg)) ((hf f (by simp)).nar (by decide) (by decide) hi h)
theorem insW_sz {g : QF} {x : List Rat} {i : Nat} {e : Rat} (hi : i < x.length) (hx : ∀ q ∈ x, sz 200 q) (he : sz 20000000 e) : sz 20000300 (insW g x i e) := by
 unfold insW
 split
 ·exact zA4 (by omega) (zB2 zHX (zBR he (hx _ (w_get hi))))
 ·exact zA4 (by decide) he
section
variable {q : QryL} {kg n : Nat} {x : List Rat}
theorem smQ.nn (h : smQ q kg) (hn : q.g.ins = (n : Int)) : 1 ≤ n ∧ n ≤ 3 ∧ q.r.lo.length = n ∧ q.r.hi.length = n := by
 obtain ⟨m, e, h1, h2, h3, h4⟩ := h.n;have : m = n := by omega
 subst this; exact ⟨h1, h2, h3, h4⟩
theorem rowsW_sz (h : smQ q kg) (hn : q.g.ins = (n : Int)) (hx : x.length = n) (hs : ∀ r ∈ x, sz 200 r) : ∀ f ∈ rowsW q n x, szN f x 40001 := fun f hf => by
 obtain ⟨n1, n2, n3, n4⟩ := h.nn hn;rcases List.mem_append.1 hf with hf | hf
 ·obtain ⟨j, hj, rfl⟩ := List.mem_map.1 hf
  obtain ⟨r1, r2, r3⟩ := rowG_nn h hn (phO q x) (List.mem_range.1 hj);exact ⟨r2, by rw [hx]; exact r1, by omega, hs, by omega⟩
 ·obtain ⟨a, ha, rfl⟩ := List.mem_map.1 hf
  obtain ⟨j, hj, rfl⟩ := List.getElem_of_mem ha;have h1 := zCC (h.va.2.1.2.2.2.2.2 j hj);rw [getElem!_pos _ j hj, hn] at h1;have h2 := h.r.2.2.1 _ ha;have h1' : okF (n : Nat) q.r.rows[j].Q := by exact_mod_cast h1
  have h3 := zLX n h1'.1.1 h1'.2;exact ⟨zBT (zB0 (by decide) h2) (by decide), by rw [hx]; exact h1', by omega, hs, by omega⟩
theorem goalP_sz (h : smQ q kg) (hkg : kg ≤ 200) (hn : q.g.ins = (n : Int)) (p : List Int) : okF n (goalP q n p) ∧ szF 40000 (goalP q n p) ∧ (goalP q n p).ts.length ≤ n := by
 have hu := h.us hn;have hg := zCC h.va.2.2;rw [hn] at hg;have hl := zBZ (usQ q) n p (usQ q).length;obtain ⟨h1, h2, h3⟩ := zHK (f := q.goal.Q) (k := 200) (zGU (p := p) hu _ (Nat.le_refl _)) (zBT (zB0 hkg h.goal) (by decide)) (by rw [hl, zB6]; exact_mod_cast hg);rw [hl] at h2;have hk := zHE (n := n) hu (j := (usQ q).length) (Nat.le_refl _);exact ⟨h1, zFH (by omega) h2, h3⟩
theorem goalM_sz (h : smQ q kg) (hkg : kg ≤ 200) (hn : q.g.ins = (n : Int)) (p : List Int) : okF n (mergeQ zeroQ (goalP q n p) (-1)) ∧ szF 40001 (mergeQ zeroQ (goalP q n p) (-1)) ∧ (mergeQ zeroQ (goalP q n p) (-1)).ts.length ≤ n := by
 obtain ⟨h1, h2, h3⟩ := goalP_sz h hkg hn p
 have hok : okF n (mergeQ zeroQ (goalP q n p) (-1)) := ⟨zDX zC5 h1.1, fun t ht => by
  rcases zC1 _ _ _ _ (Nat.le_refl _) t ht with ⟨p, hp, e⟩ | ⟨p, hp, e⟩
  ·cases hp
  ·have := h1.2 p hp; omega⟩
 have h4 : (mergeQ zeroQ (goalP q n p) (-1)).ts.length ≤ 0 + (goalP q n p).ts.length := zHB;exact ⟨hok, mrg_one h2 (by omega), by omega⟩
theorem goalM_szN (h : smQ q kg) (hkg : kg ≤ 200) (hn : q.g.ins = (n : Int)) (hx : x.length = n) (hs : ∀ r ∈ x, sz 200 r) (p : List Int) : szN (mergeQ zeroQ (goalP q n p) (-1)) x 40001 := by
 obtain ⟨n1, n2, n3, n4⟩ := h.nn hn;obtain ⟨h1, h2, h3⟩ := goalM_sz h hkg hn p;exact ⟨h2, by rw [hx]; exact h1, by omega, hs, by omega⟩
theorem lohi_sz (h : smQ q kg) {i : Nat} (hi : i < q.r.lo.length) : sz 20000000 (qv q.r.lo[i]!) ∧ sz 20000000 (qv q.r.hi[i]!) := by
 obtain ⟨b1, b2, _⟩ := h.bnd hi;exact ⟨zA4 (by decide) b1, zA4 (by decide) b2⟩
end
def refI (rows : List QF) (g : QF) (x : List Rat) (i : Nat) (b : Rat × Rat) (k : Nat) : Rat × Rat :=
 if k ≤ rows.length then (rows.take k).foldl (nar x i) b else refB x i (rows.foldl (nar x i) b) g
theorem refI_zero (rows : List QF) (g : QF) (x : List Rat) (i : Nat) (b : Rat × Rat) : refI rows g x i b 0 = b := by unfold refI; rw [if_pos (Nat.zero_le _)]; rfl
theorem zMA {rows : List QF} {g : QF} {x : List Rat} {i : Nat} {b : Rat × Rat} {k : Nat} (h : k < rows.length) : refI rows g x i b (k + 1) = nar x i (refI rows g x i b k) rows[k]! := by
 unfold refI;rw [if_pos (show k + 1 ≤ rows.length by omega), if_pos (show k ≤ rows.length by omega), List.take_succ_eq_append_getElem h, List.foldl_append, getElem!_pos rows k h]; rfl
theorem zIK {rows : List QF} {g : QF} {x : List Rat} {i : Nat} {b : Rat × Rat} : refI rows g x i b (rows.length + 1) = refB x i (refI rows g x i b rows.length) g := by
 unfold refI;rw [if_neg (by omega), if_pos (Nat.le_refl _), List.take_length]
theorem refI_sz {rows : List QF} {g : QF} {x : List Rat} {i : Nat} {b : Rat × Rat} (hi : i < x.length) (hr : ∀ f ∈ rows, szN f x 40001) (hb : sz 20000000 b.1 ∧ sz 20000000 b.2) {k : Nat} (hk : k ≤ rows.length) : sz 20000000 (refI rows g x i b k).1 ∧ sz 20000000 (refI rows g x i b k).2 := by
 unfold refI; rw [if_pos hk];exact zJ8 hi _ _ (fun f hf => hr f (List.mem_of_mem_take hf)) hb
theorem ev_out {x : List Rat} {i : Nat} (hi : i < x.length) {f : QF} (h : ∀ t ∈ f.ts, 0 ≤ t.1) (hc : cf f.ts i ≠ 0) : - evQ f (x.set i 0) / cf f.ts i = zer x i f := by
 rw [ev_zer hi 0 h hc];have e : -(cf f.ts i * (0 - zer x i f)) = zer x i f * cf f.ts i := by grind
 rw [e, Rat.mul_div_cancel hc]
end Go.PI
namespace Go.PI
theorem shl2_i64 {b : Int} (h : 0 ≤ b ∧ b ≤ 63) : shl2 .i64 b = 2 ^ b.toNat := by
 rw [zG3]; unfold shl20;have : IntKind.bits .i64 = 64 := rfl;rw [this, show min b.toNat 64 = b.toNat by omega]
theorem candL_len (q : QryL) (m : Nat) : (candL q m).length = 1 + m := by simp [candL]; omega
theorem zOR (q : QryL) (m : Nat) : candL q (m + 1) = candL q m ++ [coR q.r m] := by
 unfold candL; rw [List.range_succ, List.map_append]; rfl
section
variable {q : QryL} {kg n : Nat}
theorem cand_sz (h : smQ q kg) (hn : q.g.ins = (n : Int)) (m : Nat) : ∀ y ∈ candL q m, y.length = n ∧ ∀ r ∈ y, sz 200 r := fun y hy => by
 obtain ⟨n1, n2, n3, n4⟩ := h.nn hn;have hva : VaO q.r := VaR_own h.va.2.1;rcases List.mem_cons.1 hy with rfl | hy
 ·unfold ceR
  rw [if_pos hva];refine ⟨by simp; omega, fun r hr => ?_⟩;obtain ⟨⟨a, b⟩, hp, rfl⟩ := List.mem_map.1 hr;obtain ⟨i, hi, e⟩ := List.getElem_of_mem hp;have hi2 : i < q.r.lo.length := by simp at hi; omega
  obtain ⟨b1, b2, _⟩ := h.bnd hi2;rw [List.getElem_zip, List.getElem_map, List.getElem_map] at e;rw [getElem!_pos q.r.lo i hi2] at b1;rw [getElem!_pos q.r.hi i (by omega)] at b2;cases e
  exact zA4 (by decide) (zB2 zHX (zBR b1 b2))
 ·obtain ⟨b, _, rfl⟩ := List.mem_map.1 hy
  unfold coR;rw [if_pos hva];refine ⟨by simp [n3], fun r hr => ?_⟩;obtain ⟨i, hi, rfl⟩ := List.mem_map.1 hr;have hi2 : i < q.r.lo.length := List.mem_range.1 hi;obtain ⟨b1, b2, _⟩ := h.bnd hi2
  split
  ·exact zA4 (by decide) b2
  ·exact zA4 (by decide) b1
theorem cand_ok (h : smQ q kg) (hn : q.g.ins = (n : Int)) {m : Nat} (hb : (bstN q (candL q m) (candL q m).length).2.2 = true) : (bstN q (candL q m) (candL q m).length).1 < (candL q m).length ∧ ptW q n (candL q m)[(bstN q (candL q m) (candL q m).length).1]! := by
 obtain ⟨a1, a2, a3, a4⟩ := (zHJ q (candL q m) _ (Nat.le_refl _)).1 hb;obtain ⟨c1, c2⟩ := cand_sz h hn m _ (w_get a1);exact ⟨a1, c1, c2, a2⟩
end
end Go.PI
namespace Go.PI
instance dec_okBd (r : RegL) (i : Nat) : Decidable (okBd r i) := by unfold okBd; exact inferInstance
instance dec_VaR (r : RegL) (n : Int) : Decidable (VaR r n) := by unfold VaR; exact inferInstance
instance dec_VaQ (q : QryL) : Decidable (VaQ q) := by unfold VaQ; exact inferInstance
instance dec_RatZ (r : RatL) : Decidable (RatZ r) := by unfold RatZ; exact inferInstance
instance dec_CanR (r : RatL) : Decidable (CanR r) := by unfold CanR; exact inferInstance
instance dec_fitD (q : QryL) (d : DecL) : Decidable (fitD q d) := by unfold fitD; exact inferInstance
instance dec_lessR (a b : RowL) : Decidable (lessR a b) := by unfold lessR; exact inferInstance
instance dec_okM1 (S : ScpL) (l : List MultL) (k : Nat) : Decidable (okM1 S l k) := by unfold okM1; exact inferInstance
instance dec_okM (S : ScpL) (l : List MultL) (i : Nat) : Decidable (okM S l i) := by unfold okM; exact inferInstance
instance dec_prvP (S : ScpL) (f : QF) (l : List MultL) : Decidable (prvP S f l) := by unfold prvP; exact inferInstance
end Go.PI
namespace Go.PI
def unW : QF := ⟨[(0, 1)], -1⟩
def goW : QF := ⟨[(1, -1)], halfQ⟩
def qW : QryL := ⟨⟨1, [unW.L], [unW.L]⟩, ⟨[cr 0], [cr 3], []⟩, goW.L⟩
def half85 : Rat := mkRat 8 5
theorem qW_ok : smQ qW 199 := by
 have h1 : szF 2 unW := ⟨sz1 (-1) (by decide), fun p hp => by rw [List.mem_singleton.1 hp]; exact sz1 1 (by decide)⟩;have h2 : szF 2 goW := ⟨zA4 (by decide) zHX, fun p hp => by rw [List.mem_singleton.1 hp]; exact sz1 (-1) (by decide)⟩;have a1 := zB7 (sz1 0 (by decide));have a2 := zB7 (sz1 3 (by decide));refine ⟨by decide +kernel, by decide, by decide, by decide, ⟨⟨by decide, fun f hf => ?_⟩, ⟨by decide, fun f hf => ?_⟩⟩, ⟨⟨by decide, fun x hx => ?_⟩, ⟨by decide, fun x hx => ?_⟩, (fun f hf => by cases hf), by decide⟩, ?_⟩
 ·rw [List.mem_singleton.1 hf]; exact zB0 (by decide) (okA_L h1 (by decide))
 ·rw [List.mem_singleton.1 hf]; exact zB0 (by decide) (okA_L h1 (by decide))
 ·rw [List.mem_singleton.1 hx]; exact zKV (by decide) a1
 ·rw [List.mem_singleton.1 hx]; exact zKV (by decide) a2
 ·exact zB0 (by decide) (okA_L h2 (by decide))
theorem usW : usQ qW = [unW] := by
 show [unW.L.Q] = [unW]
 rw [Q_L]
theorem goalW_Q : qW.goal.Q = goW := Q_L goW
theorem val_qW (x : List Rat) : wval qW x = evQ goW (valsN [unW] x 1) := by
 unfold wval vlQ; rw [usW, goalW_Q]; rfl
theorem pt_sz (a : Rat) (h : sz 2 a) : ∀ r ∈ [a], sz 200 r := fun r hr => by rw [List.mem_singleton.1 hr]; exact zA4 (by decide) h
theorem zK3 (a : Rat) (h : 0 ≤ a ∧ a ≤ 3) : conR qW.r ([a].map cr) := by
 refine ⟨VaR_own qW_ok.va.2.1, rfl, fun i hi => ?_, fun i hi => absurd hi (by show ¬ i < 0; omega)⟩;have hi : i = 0 := by have : i < 1 := hi; omega
 subst hi;show qv (cr 0) ≤ qv (cr a) ∧ qv (cr a) ≤ qv (cr 3)
 rw [zAL, zAL, zAL]; exact h
theorem crd_qW : crdQ qW 1 [half85] 0 = 2 := by
 have hp : phO qW [half85] = [1] := by unfold phO; rw [usW]; decide +kernel
 have e1 : rowsW qW 1 [half85] = [rowG [unW] 1 [1] 0] := by unfold rowsW rowsP; rw [hp, usW]; rfl
 have e2 : goalW qW 1 [half85] = applyQ goW (frmN [unW] 1 [1] 1) := by unfold goalW goalP; rw [hp, usW, goalW_Q]; rfl
 unfold crdQ;rw [e1, e2, show qv qW.r.lo[0]! = 0 from zAL 0, show qv qW.r.hi[0]! = 3 from zAL 3]
 decide +kernel
theorem sim_qW : simI qW 1 [half85] 1 = [2] := by
 show [half85].set 0 (crdQ qW 1 [half85] 0) = [2]
 rw [crd_qW]; rfl
theorem v85 : wval qW [half85] < 0 := by rw [val_qW]; decide +kernel
theorem v1 : ¬ wval qW [1] < 0 := by rw [val_qW]; decide +kernel
theorem v3 : wval qW [3] = mkRat (-3) 2 := by rw [val_qW]; decide +kernel
theorem v0 : wval qW [0] = halfQ := by rw [val_qW]; decide +kernel
theorem v32 : wval qW [mkRat 3 2] = 0 := by rw [val_qW]; decide +kernel
theorem cand_qW : candL qW 2 = [[mkRat 3 2], [0], [3]] := by
 have hva : VaO qW.r := VaR_own qW_ok.va.2.1
 have e1 : ceR qW.r = [mkRat 3 2] := by
  unfold ceR; rw [if_pos hva];show [halfQ * (qv (cr 0) + qv (cr 3))] = _
  rw [zAL, zAL]; decide +kernel
 have e2 : coR qW.r 0 = [0] := by
  unfold coR; rw [if_pos hva];show [qv (if bitAt 0 0 then cr 3 else cr 0)] = _
  rw [if_neg (by decide), zAL]
 have e3 : coR qW.r 1 = [3] := by
  unfold coR; rw [if_pos hva];show [qv (if bitAt 1 0 then cr 3 else cr 0)] = _
  rw [if_pos (by decide), zAL]
 show [ceR qW.r, coR qW.r 0, coR qW.r 1] = _
 rw [e1, e2, e3]
theorem zKK {q : QryL} {l : List (List Rat)} {i I : Nat} {L : Rat} {F : Bool} {v : Rat} (hb : bstN q l i = (I, L, F)) (hc : conR q.r (l[i]!.map cr)) (hv : wval q l[i]! = v) : bstN q l (i + 1) = if F = false ∨ v < L then (i, v, true) else (I, L, F) := by
 unfold bstN;rw [hb, hv];by_cases h : F = false ∨ v < L
 ·rw [if_pos ⟨dB_true.2 hc, h⟩, if_pos h]
 ·rw [if_neg (fun e => h e.2), if_neg h]
theorem bst_qW : bstN qW (candL qW 2) (candL qW 2).length = (2, mkRat (-3) 2, true) := by
 rw [cand_qW];have h0 : bstN qW [[mkRat 3 2], [0], [3]] 0 = (0, 0, false) := rfl;have h1 := zKK h0 (zK3 (mkRat 3 2) (by decide +kernel)) v32;rw [if_pos (Or.inl rfl)] at h1;have h2 := zKK h1 (zK3 0 (by decide +kernel)) v0;rw [if_neg (by decide +kernel)] at h2;have h3 := zKK h2 (zK3 3 (by decide +kernel)) v3;rw [if_pos (by decide +kernel)] at h3;exact h3
theorem tri_qW : bstN qW (triL qW [3] 0) 3 = (0, mkRat (-3) 2, true) := by
 have e : triL qW [3] 0 = [[3], [0], [3]] := by
  show [[3], [3].set 0 (qv (cr 0)), [3].set 0 (qv (cr 3))] = _
  rw [zAL, zAL]; rfl
 rw [e];have h0 : bstN qW [[3], [0], [3]] 0 = (0, 0, false) := rfl;have h1 := zKK h0 (zK3 3 (by decide +kernel)) v3;rw [if_pos (Or.inl rfl)] at h1;have h2 := zKK h1 (zK3 0 (by decide +kernel)) v0;rw [if_neg (by decide +kernel)] at h2;have h3 := zKK h2 (zK3 3 (by decide +kernel)) v3;rw [if_neg (by decide +kernel)] at h3;exact h3
theorem rds_qW (k : Nat) : rdsW qW 1 k [3] = [3] := by
 have hr : rndI qW [3] 1 = [3] := by
  show impW qW [3] 0 = [3]
  unfold impW; rw [tri_qW]; rfl
 cases k with
 | zero => rfl
 | succ k => unfold rdsW; rw [if_pos hr]
theorem ins_sz (l m : List Int) : (insR (insQ l).r m).length = (insQ l).r.lo.length ∧ ∀ r ∈ insR (insQ l).r m, sz 93 r := by
 obtain ⟨n1, n2, n3, _⟩ := gr_lt l 0;obtain ⟨r1, r2, r3, r4, r5, r6⟩ := smR_ok (l := l) (gfE_le (Nat.zero_le _)) (m := gfN l 0) n2 (by omega);refine ⟨ins_len _ _, fun r hr => ?_⟩;obtain ⟨i, hi, rfl⟩ := List.mem_map.1 hr;have hi : i < (smR' l (gfE l 0) (gfN l 0)).lo.length := List.mem_range.1 hi;have h1 := zA7 r2.1 hi;have h2 := zA7 r2.2.1 (i := i) (by omega);have s1 := zEG h1.1 h1.2.1 h1.2.2 (by decide);have s2 := zEG h2.1 h2.2.1 h2.2.2 (by decide);exact zA4 (by decide) (zBR s1 (zB2 (sz_part m i) (sz_sub s2 s1)))
def movG (g : QF) (d : Rat) : QF := mergeQ g ⟨[], d⟩ 1
theorem movG_ev (g : QF) (d : Rat) (x : List Rat) : evQ (movG g d) x = evQ g x + d := by
 unfold movG; rw [zI4];have : evQ ⟨[], d⟩ x = d := rfl;rw [this]; grind
theorem movG_ok {n : Int} {g : QF} {d : Rat} {k j : Nat} (hg : okF n g) (hs : szF k g) (hk : 1 ≤ k) (hd : sz j d) : okF n (movG g d) ∧ szF (k + (j + 1) + 1) (movG g d) ∧ (movG g d).ts.length ≤ g.ts.length := by
 have h0 : szF j ⟨[], d⟩ := ⟨hd, fun p hp => by cases hp⟩;have h1 : sz 1 (1 : Rat) := ⟨by decide +kernel, by decide +kernel⟩;refine ⟨⟨zDX hg.1 zC5, fun t ht => ?_⟩, zFH (by omega) (zFS hs h0 h1 (Nat.le_refl _)), ?_⟩
 ·rcases zC1 _ _ _ _ (Nat.le_refl _) t ht with ⟨p, hp, e⟩ | ⟨p, hp, e⟩
  ·have := hg.2 p hp; omega
  ·cases hp
 ·have : (movG g d).ts.length ≤ g.ts.length + 0 := zHB
  omega
def levQ (q : QryL) (d : Rat) : QryL := ⟨q.g, q.r, (movG q.goal.Q d).L⟩
theorem lev_val (q : QryL) (d : Rat) (x : List Rat) : wval (levQ q d) x = wval q x + d := by
 show evQ (movG q.goal.Q d).L.Q (vlQ q x) = _
 rw [Q_L, movG_ev]; rfl
theorem lev_ok {q : QryL} {d : Rat} (h : smQ q 199) (hd : sz 300000 d) : smQ (levQ q d) 300210 := by
 have hg := zCC h.va.2.2;have ht := (zE8 h).2.2;obtain ⟨h1, h2, h3⟩ := movG_ok hg (zBT h.goal (by decide)) (by decide) hd;rw [zE1] at h3;exact ⟨⟨h.va.1, h.va.2.1, zIE h1⟩, h.ins, h.un, h.rows, h.g, h.r, zB0 (by decide) (okA_L h2 (by omega))⟩
theorem wval_sz1 {q : QryL} {n : Nat} {x : List Rat} (h : smQ q 199) (hn : q.g.ins = (n : Int)) (hx : x.length = n) (hs : ∀ r ∈ x, sz 200 r) : sz 281599 (wval q x) := by
 have h1 := (zKP h hn hx hs).1 _ (Nat.le_refl _);have ht := (zE8 h).2.2;have hq : q.goal.Q.ts.length ≤ 7 := by rw [zE1]; exact ht
 have h2 := zM3 (k := 199) (kx := 40000) (f := q.goal.Q) (x := vlQ q x) (zBT h.goal (by decide)) h1 (zIZ h hn hx);exact zA4 (by have := Nat.mul_le_mul_right (199 + 40000 + 1) hq; omega) h2
theorem mov_add {g : QF} (hg : Srt g.ts) (d : Rat) : addR g ⟨[], d⟩ = movG g d := by
 obtain ⟨h5, h6⟩ := zJM (g := []) hg;refine qf_ext h5 (zDX hg zC5) (fun v => ?_) ?_
 ·show cf (addL g.ts []) v = cf (mergeQ g ⟨[], d⟩ 1).ts v
  rw [h6, cf_merge hg zC5]; grind
 ·show g.c + d = g.c + d * 1; grind
theorem bit_mod : ∀ n, n < 4 → ∀ b, b < 8 → ∀ i, i < n → bitAt b i = bitAt (b % 2 ^ n) i := by decide
theorem cor_mod {r : RegL} {n b : Nat} (hl : r.lo.length = n) (hn : n < 4) (hb : b < 8) : coR r b = coR r (b % 2 ^ n) := by
 unfold coR
 split
 ·refine List.map_congr_left fun i hi => ?_
  rw [bit_mod n hn b hb i (by have := List.mem_range.1 hi; omega)]
 ·rfl
theorem cand_cen (q : QryL) (m : Nat) : ceR q.r ∈ candL q m := by unfold candL; exact List.mem_cons_self ..
theorem cand_cor {q : QryL} {kg n : Nat} (h : smQ q kg) (hn : q.g.ins = (n : Int)) {b : Nat} (hb : b < 8) : coR q.r b ∈ candL q (2 ^ n) := by
 obtain ⟨n1, n2, n3, n4⟩ := h.nn hn;rw [cor_mod n3 (by omega) hb];unfold candL;exact List.mem_cons_of_mem _ (List.mem_map.2 ⟨_, List.mem_range.2 (Nat.mod_lt _ (Nat.two_pow_pos n)), rfl⟩)
end Go.PI
