/-
  Claims: validity, goals, their forms over the variables. No program in sight.
-/
import Derived.Test.YtcinkbieboiffaaGreatCPD
set_option linter.unusedVariables false
set_option linter.unusedSimpArgs false
set_option linter.unnecessarySimpa false
namespace Go.PI
def usQ (q : QryL) : List QF := q.g.units.map AffL.Q
theorem usQ_len (q : QryL) : (usQ q).length = q.g.units.length := by simp [usQ]
theorem usQ_get {q : QryL} {j : Nat} (h : j < q.g.units.length) : (usQ q)[j]! = q.g.units[j]!.Q := by
 unfold usQ; rw [getElem!_pos _ j (by simpa using h), getElem!_pos q.g.units j h]; simp
def vlQ (q : QryL) (x : List Rat) : List Rat := valsN (usQ q) x (usQ q).length
def holdD (q : QryL) (x : List Rat) (d : DecL) : Prop :=
 if d.kind = 1 then 0 ≤ (preL (usQ q) x)[d.index.toNat]!
 else if d.kind = 2 then (preL (usQ q) x)[d.index.toNat]! ≤ 0
 else if d.kind = 3 then qv d.rat ≤ x[d.index.toNat]!
 else x[d.index.toNat]! ≤ qv d.rat
def inQ (q : QryL) (x : List Rat) : Prop := (x.length : Int) = q.g.ins ∧ (∀ i, i < x.length → qv q.r.lo[i]! ≤ x[i]! ∧ x[i]! ≤ qv q.r.hi[i]!) ∧ ∀ i, i < q.r.rows.length → 0 ≤ evQ q.r.rows[i]!.Q x
def holdL (q : QryL) (x : List Rat) (m : LemL) : Prop := if m.upper = true then (preL (usQ q) x)[m.unit.toNat]! ≤ qv m.value else qv m.value ≤ (preL (usQ q) x)[m.unit.toNat]!
structure memS (S : ScpL) (x : List Rat) : Prop where
 inp : inQ S.q x
 pth : ∀ d ∈ S.path, holdD S.q x d
 lem : ∀ m ∈ S.lems, holdL S.q x m
section
variable {S : ScpL} {x : List Rat}
theorem vl_in {q : QryL} {i : Nat} (hi : i < x.length) : (vlQ q x)[i]! = x[i]! := by
 obtain ⟨t, e⟩ := zGQ (us := usQ q) (x := x) (usQ q).length 0 (by omega);rw [Nat.zero_add, zEO] at e;unfold vlQ;rw [e, getElem!_pos _ i (by simp; omega), getElem!_pos x i hi, List.getElem_append_left hi]
theorem vl_un {q : QryL} {j : Nat} (hj : j < q.g.units.length) : (vlQ q x)[x.length + j]! = maxQ 0 (preL (usQ q) x)[j]! := by
 have hl := usQ_len q;obtain ⟨t, e⟩ := zGQ (us := usQ q) (x := x) ((usQ q).length - (j + 1)) (j + 1) (by omega);rw [show j + 1 + ((usQ q).length - (j + 1)) = (usQ q).length by omega, zFX (by omega)] at e;have h1 := zDG (us := usQ q) (x := x) j (by omega);unfold vlQ;rw [e, preL_get (by omega), getElem!_pos _ (x.length + j) (by simp; omega), List.getElem_append_left (by simp; omega), List.getElem_append_right (by omega)];simp [h1]
theorem zGP (f g : QF) (y : List Rat) : evQ (subQ f g) y = evQ f y - evQ g y := by unfold subQ; rw [zI3]; grind
theorem zNL (f : QF) (c : Rat) (y : List Rat) : evQ (sclQ f c) y = c * evQ f y := by unfold sclQ; rw [zI3, evQ_zero]; grind
theorem zHS (c : Rat) (y : List Rat) : evQ (numQ' c) y = c := evQ_nil rfl y
theorem ev_var {v : Int} (y : List Rat) : evQ (varQ v) y = y[v.toNat]! := by
 rw [zH1]; simp only [varQ, dot]; grind
theorem ev_unit {q : QryL} (hg : VaG q.g) (hx : (x.length : Int) = q.g.ins) {j : Nat} (hj : j < q.g.units.length) : evQ q.g.units[j]!.Q (vlQ q x) = (preL (usQ q) x)[j]! := by
 have h := preL_all (us := usQ q) (n := q.g.ins) hx.symm fun j hj => by rw [usQ_len] at hj; rw [usQ_get hj]; exact zD0 (hg.2.2.2.1 j hj)
 have hj2 : j < (usQ q).length := by rw [usQ_len]; exact hj
 rw [h, getElem!_pos ((usQ q).map _) j (by rw [List.length_map]; exact hj2), List.getElem_map, ← getElem!_pos (usQ q) j hj2, usQ_get hj]; rfl
theorem zF9 (hm : ∀ m ∈ S.lems, holdL S.q x m) {n j : Int} {up : Bool} {v : Rat} (h : bndO S n j up = some v) : if up = true then (preL (usQ S.q) x)[j.toNat]! ≤ v else v ≤ (preL (usQ S.q) x)[j.toNat]! := by
 unfold bndO at h
 split at h
 ·rename_i e
  obtain ⟨e1, e2, e3, e4⟩ := e;cases h
  have hl : n.toNat - 1 < S.lems.length := by omega
  have := hm _ (show S.lems[n.toNat - 1]! ∈ S.lems by rw [getElem!_pos S.lems _ hl]; exact List.getElem_mem _);unfold holdL at this
  rwa [e3, e4] at this
 ·cases h
theorem dec_sound (hp : ∀ d ∈ S.path, holdD S.q x d) {j : Int} (h : decB S 1 j = true) : 0 ≤ (preL (usQ S.q) x)[j.toNat]! := by
 unfold decB at h;rw [List.any_eq_true] at h;obtain ⟨d, hd, e⟩ := h;simp only [Bool.and_eq_true, decide_eq_true_eq] at e;have := hp d hd;unfold holdD at this;rw [if_pos e.1, e.2] at this;exact this
theorem dec_sound2 (hp : ∀ d ∈ S.path, holdD S.q x d) {j : Int} (h : decB S 2 j = true) : (preL (usQ S.q) x)[j.toNat]! ≤ 0 := by
 unfold decB at h;rw [List.any_eq_true] at h;obtain ⟨d, hd, e⟩ := h;simp only [Bool.and_eq_true, decide_eq_true_eq] at e;have := hp d hd;unfold holdD at this;rw [if_neg (by omega), if_pos e.1, e.2] at this;exact this
theorem on_sound (hM : memS S x) {r : RowL} (h : onB S r = true) : 0 ≤ (preL (usQ S.q) x)[r.index.toNat]! := by
 unfold onB at h;simp only [Bool.and_eq_true, Bool.or_eq_true, decide_eq_true_eq] at h;rcases h.2 with ⟨_, e⟩ | e
 ·exact dec_sound hM.pth e
 ·cases hb : bndO S r.lo r.index false with
  | none => rw [hb] at e; cases e
  | some l =>
    rw [hb] at e;have h1 := zF9 hM.lem hb;rw [if_neg (by decide)] at h1;have : 0 ≤ l := by simpa [geO] using e
    grind
theorem off_sound (hM : memS S x) {r : RowL} (h : offB S r = true) : (preL (usQ S.q) x)[r.index.toNat]! ≤ 0 := by
 unfold offB at h;simp only [Bool.and_eq_true, Bool.or_eq_true, decide_eq_true_eq] at h;rcases h.2 with ⟨_, e⟩ | e
 ·exact dec_sound2 hM.pth e
 ·cases hb : bndO S r.hi r.index true with
  | none => rw [hb] at e; cases e
  | some l =>
    rw [hb] at e;have h1 := zF9 hM.lem hb;rw [if_pos rfl] at h1;have : l ≤ 0 := by simpa [leO] using e
    grind
theorem max_cases (p : Rat) : (0 ≤ p ∧ maxQ 0 p = p) ∨ (p ≤ 0 ∧ maxQ 0 p = 0) := by
 unfold maxQ; split <;> grind
theorem tri_arith {p l u v : Rat} (h1 : l ≤ p) (h2 : p ≤ u) (h3 : l < 0) (h4 : 0 < u) (hv : (0 ≤ p ∧ v = p) ∨ (p ≤ 0 ∧ v = 0)) : 0 ≤ u * (p - l) - (u - l) * v := by
 rcases hv with ⟨h5, rfl⟩ | ⟨h5, rfl⟩
 ·have : u * (v - l) - (u - l) * v = (-l) * (u - v) := by grind
  rw [this];exact Rat.mul_nonneg (by grind) (by grind)
 ·have : u * (p - l) - (u - l) * 0 = u * (p - l) := by grind
  rw [this];exact Rat.mul_nonneg (by grind) (by grind)
theorem row_sound (hS : okScp S) (hM : memS S x) {r : RowL} {f : QF} (h : rowO S r = some f) : 0 ≤ evQ f (vlQ S.q x) := by
 obtain ⟨⟨hg, hr, _⟩, hp⟩ := hS;obtain ⟨hx, hb, hrow⟩ := hM.inp;have hi := hg.1.1;unfold rowO at h
 split at h
 ·unfold inO at h
  split at h
  ·cases h
  ·rename_i h0
   split at h
   ·rename_i h1; cases h
    have h2 : r.index.toNat < x.length := by have := hr.2.1; omega
    rw [zGP, ev_var, zHS, vl_in h2];have := (hb _ h2).1; grind
   ·split at h
    ·rename_i h1; cases h
     have h2 : r.index.toNat < x.length := by have := hr.2.2.1; omega
     rw [zGP, ev_var, zHS, vl_in h2];have := (hb _ h2).2; grind
    ·split at h
     ·rename_i h1; cases h
      have h2 : r.index.toNat < S.q.r.rows.length := by omega
      have h3 := hrow _ h2;obtain ⟨t, e⟩ := zGQ (us := usQ S.q) (x := x) (usQ S.q).length 0 (by omega);rw [Nat.zero_add, zEO] at e;unfold vlQ;rw [e, evQ_pre (n := S.q.g.ins) (by omega) (zD0 (hr.2.2.2.2.2 _ h2))];exact h3
     ·split at h
      ·rename_i h1
       have hm : S.path[r.index.toNat]! ∈ S.path := by rw [getElem!_pos S.path r.index.toNat (by omega)]; exact List.getElem_mem _
       have hd := hp _ hm;have hh := hM.pth _ hm;unfold holdD at hh
       split at h
       ·rename_i h2; cases h
        rcases hd with ⟨hk, _⟩ | ⟨hk, h3, h4, _⟩
        ·omega
        ·rw [if_neg (by omega), if_neg (by omega), if_pos h2] at hh
         rw [zGP, ev_var, zHS, vl_in (by omega)]; grind
       ·split at h
        ·rename_i h2; cases h
         rcases hd with ⟨hk, _⟩ | ⟨hk, h3, h4, _⟩
         ·omega
         ·rw [if_neg (by omega), if_neg (by omega), if_neg (by omega)] at hh
          rw [zGP, ev_var, zHS, vl_in (by omega)]; grind
        ·cases h
      ·cases h
 ·unfold unO at h
  rcases zAX h with ⟨h0, h⟩ | ⟨h0, h⟩
  ·cases h
  have hj : r.index.toNat < S.q.g.units.length := by omega
  have hev : evQ (varQ (S.q.g.ins + r.index)) (vlQ S.q x) = maxQ 0 (preL (usQ S.q) x)[r.index.toNat]! := by
   rw [ev_var, show (S.q.g.ins + r.index).toNat = x.length + r.index.toNat by omega, vl_un hj]
  have heu := ev_unit hg hx hj;have hmx := max_cases (preL (usQ S.q) x)[r.index.toNat]!;rcases zAX h with ⟨_, h⟩ | ⟨_, h⟩
  ·rw [← (zBD h).2, hev]; rcases hmx with ⟨h1, e⟩ | ⟨h1, e⟩ <;> rw [e] <;> grind
  rcases zAX h with ⟨_, h⟩ | ⟨_, h⟩
  ·rw [← (zBD h).2, zGP, hev, heu]; rcases hmx with ⟨h1, e⟩ | ⟨h1, e⟩ <;> rw [e] <;> grind
  rcases zAX h with ⟨_, h⟩ | ⟨_, h⟩
  ·obtain ⟨ho, h⟩ := zBD h; rw [← h, heu]; exact on_sound hM ho
  rcases zAX h with ⟨_, h⟩ | ⟨_, h⟩
  ·obtain ⟨ho, h⟩ := zBD h; rw [← h, zGP, heu, hev]; have := on_sound hM ho; rcases hmx with ⟨h1, e⟩ | ⟨h1, e⟩ <;> rw [e] <;> grind
  rcases zAX h with ⟨_, h⟩ | ⟨_, h⟩
  ·obtain ⟨ho, h⟩ := zBD h; rw [← h, zNL, heu]; have := off_sound hM ho; grind
  rcases zAX h with ⟨_, h⟩ | ⟨_, h⟩
  ·obtain ⟨ho, h⟩ := zBD h; rw [← h, zNL, hev]; have := off_sound hM ho; rcases hmx with ⟨h1, e⟩ | ⟨h1, e⟩ <;> rw [e] <;> grind
  rcases zAX h with ⟨_, h⟩ | ⟨_, h⟩
  ·cases hb : bndO S r.lo r.index false with
   | none => rw [hb] at h; cases h
   | some l => rw [hb] at h; have := zF9 hM.lem hb; rw [if_neg (by decide)] at this; rw [← (zBD h).2, zGP, heu, zHS]; grind
  rcases zAX h with ⟨_, h⟩ | ⟨_, h⟩
  ·cases hb : bndO S r.hi r.index true with
   | none => rw [hb] at h; cases h
   | some l => rw [hb] at h; have := zF9 hM.lem hb; rw [if_pos rfl] at this; rw [← (zBD h).2, zGP, heu, zHS]; grind
  rcases zAX h with ⟨_, h⟩ | ⟨_, h⟩
  ·cases hb : bndO S r.lo r.index false with
   | none => rw [hb] at h; cases h
   | some l => cases hb2 : bndO S r.hi r.index true with
     | none => rw [hb, hb2] at h; cases h
     | some u =>
       rw [hb, hb2] at h;obtain ⟨hlu, h⟩ := zBD h;have b1 := zF9 hM.lem hb;have b2 := zF9 hM.lem hb2;rw [if_neg (by decide)] at b1;rw [if_pos rfl] at b2;rw [← h];unfold triQ;rw [zGP, zNL, zNL, zGP, heu, hev, zHS];exact tri_arith b1 b2 hlu.1 hlu.2 hmx
  ·cases h
theorem zLF (hS : okScp S) (hM : memS S x) {f : QF} {l : List MultL} : ∀ i, i ≤ l.length → okM S l i → evQ (rstN S f l i) (vlQ S.q x) ≤ evQ f (vlQ S.q x)
 | 0, _, _ => by unfold rstN; simp only [List.take_zero, List.foldl_nil]; grind
 | i + 1, h, hk => by
   have ih := zLF hS hM (f := f) i (by omega) fun k hk' => hk k (by omega)
   obtain ⟨h1, h2, h3, h4⟩ := hk i (by omega);obtain ⟨g, hg⟩ := Option.isSome_iff_exists.1 h4;have hr := row_sound hS hM hg;rw [zEZ (by omega), zI3];have e : rw' S l[i]! = g := by unfold rw'; rw [hg]; rfl
   rw [e];have := Rat.mul_nonneg (Rat.le_of_lt h2) hr
   grind
theorem prv_sound (hS : okScp S) (hM : memS S x) {f : QF} {l : List MultL} (h : prvP S f l) : 0 ≤ evQ f (vlQ S.q x) := by
 have h1 := zLF hS hM (f := f) l.length (Nat.le_refl _) h.1;rw [evQ_nil h.2.1] at h1;have := h.2.2; grind
theorem ref_sound (hS : okScp S) (hM : memS S x) {l : List MultL} (h : refP S l) : False := by
 have h1 := zLF hS hM (f := zeroQ) l.length (Nat.le_refl _) h.1;rw [evQ_nil h.2.1, evQ_zero] at h1;have := h.2.2; grind
theorem lem_sound (hS : okScp S) (hM : memS S x) {m : LemL} (h : lemP S m) : holdL S.q x m := by
 obtain ⟨⟨h1, h2⟩, h3, h4⟩ := h;have h5 := prv_sound hS hM h4;have hu := ev_unit hS.1.1 hM.inp.1 (show m.unit.toNat < S.q.g.units.length by omega);unfold lemF at h5;unfold holdL
 split at h5
 ·rename_i e; rw [if_pos e]
  rw [zNL, zGP, zHS, hu] at h5; grind
 ·rename_i e; rw [if_neg e]
  rw [zGP, zHS, hu] at h5; grind
theorem ok_add {l : List LemL} (hS : okScp S) : okScp (scpL S l) := hS
theorem zNG (hS : okScp S) (hM : memS S x) {l : List LemL} (h : lemsP S l) : ∀ i, i ≤ l.length → memS (scpL S (l.take i)) x
 | 0, _ => ⟨hM.inp, hM.pth, by simpa [scpL] using hM.lem⟩
 | i + 1, hi => by
   have ih := zNG hS hM h i (by omega);have hl := lem_sound (ok_add hS) ih (h i (by omega));refine ⟨ih.inp, ih.pth, fun m hm => ?_⟩;unfold scpL at hm;simp only [List.take_succ_eq_append_getElem (show i < l.length by omega), List.mem_append, List.mem_singleton] at hm;rcases hm with hm | hm | hm
   ·exact ih.lem m (by unfold scpL; simp [hm])
   ·exact ih.lem m (by unfold scpL; simp [hm])
   ·subst hm; rw [getElem!_pos l i (by omega)] at hl; exact hl
end
theorem hold_or {q : QryL} {x : List Rat} {d : DecL} (hd : fitD q d) : holdD q x d ∨ holdD q x (opD' d) := by
 unfold holdD opD' opp oppK;have hk : d.kind = 1 ∨ d.kind = 2 ∨ d.kind = 3 ∨ d.kind = 4 := by rcases hd with ⟨h, _⟩ | ⟨h, _⟩ <;> omega
 rcases hk with h | h | h | h <;> simp only [h] <;> simp <;> grind
theorem fit_op {q : QryL} {d : DecL} (hd : fitD q d) : fitD q (opD' d) := by
 unfold fitD at *
 unfold opD' opp oppK;rcases hd with ⟨h, h1⟩ | ⟨h, h1⟩
 ·left; refine ⟨?_, h1⟩; rcases h with h | h <;> simp [h]
 ·right; refine ⟨?_, h1⟩; rcases h with h | h <;> simp [h]
inductive NodeL.Bin : NodeL → Prop
 | mk (n : NodeL) (h : n.kids.length = 0 ∨ n.kids.length = 2) (hk : ∀ k ∈ n.kids, NodeL.Bin k) : NodeL.Bin n
theorem NodeL.Bin.len {n : NodeL} (h : n.Bin) : n.kids.length = 0 ∨ n.kids.length = 2 := by cases h; assumption
theorem NodeL.Bin.kid {n : NodeL} (h : n.Bin) {k : NodeL} (hk : k ∈ n.kids) : k.Bin := by
 cases h with | mk _ _ h2 => exact h2 k hk
theorem zCW {S : ScpL} {n : NodeL} (h : ¬ rightP S n) : belowO S n = some S.path := by rw [belowO, if_neg h]
theorem zEX {S : ScpL} {n : NodeL} (h : rightP S n) (hk : n.kids.length = 0) : belowO S n = none := by
 have e : n.kids = [] := List.length_eq_zero_iff.1 hk;rw [belowO, if_pos h]
 split
 ·rename_i a b h2; rw [e] at h2; cases h2
 ·rfl
theorem zDV {S : ScpL} {n : NodeL} {a b : NodeL} (h : rightP S n) (hk : n.kids = [a, b]) : belowO S n = match belowO (kidS S n n.split) a with
 | some p => some p
 | none => belowO (kidS S n (opD' n.split)) b := by
 rw [belowO, if_pos h]
 split
 ·rename_i a' b' h2
  rw [hk] at h2; cases h2; rfl
 ·rename_i h2
  exact absurd hk (h2 a b)
theorem ok_kid {S : ScpL} (hS : okScp S) {n : NodeL} {d : DecL} (hd : fitD S.q d) : okScp (kidS S n d) := ⟨hS.1, fun e he => by
 rcases List.mem_append.1 he with he | he
 ·exact hS.2 e he
 ·rw [List.mem_singleton.1 he]; exact hd⟩
theorem below_sound {x : List Rat} : ∀ (k : Nat) (n : NodeL) (S : ScpL), SizeOf.sizeOf n < k → n.Bin → okScp S → memS S x → belowO S n = none → 0 ≤ evQ S.q.goal.Q (vlQ S.q x) := by
 intro k
 induction k with
 | zero => intro n S h; omega
 | succ k ih =>
   intro n S hn hb hS hM h;by_cases hr : rightP S n
   ·have hM2 := zNG hS hM hr.1 n.lemmas.length (Nat.le_refl _)
    rw [List.take_length] at hM2;rcases hb.len with h0 | h0
    ·have h3 := hr.2
     rw [if_pos h0] at h3
     split at h3
     ·exact (ref_sound (ok_add hS) hM2 h3).elim
     ·exact prv_sound (ok_add hS) hM2 h3
    ·obtain ⟨a, b, hab⟩ : ∃ a b, n.kids = [a, b] := by
      match h1 : n.kids, h0 with
      | [a, b], _ => exact ⟨a, b, rfl⟩
     have hfit := hr.2;rw [if_neg (by omega)] at hfit;have ha : a ∈ n.kids := by rw [hab]; simp
     have hbm : b ∈ n.kids := by rw [hab]; simp
     rw [zDV hr hab] at h
     split at h
     ·cases h
     ·rename_i h1
      have mk : ∀ d, holdD S.q x d → memS (kidS S n d) x := fun d hd => ⟨hM.inp, fun e he => by
       rcases List.mem_append.1 he with he | he
       ·exact hM.pth e he
       ·rw [List.mem_singleton.1 he]; exact hd, hM2.lem⟩
      rcases hold_or (x := x) hfit with hd | hd
      ·exact ih a (kidS S n n.split) (by have := NodeL.sizeOf_kid ha; omega) (hb.kid ha) (ok_kid hS hfit) (mk _ hd) h1
      ·exact ih b (kidS S n (opD' n.split)) (by have := NodeL.sizeOf_kid hbm; omega) (hb.kid hbm) (ok_kid hS (fit_op hfit)) (mk _ hd) h
   ·rw [zCW hr] at h; cases h
end Go.PI
namespace Go.PI
section
variable {S T : ScpL}
end
end Go.PI
namespace Go.PI
def Bd (D A : Nat) (q : Rat) : Prop := 0 < D ∧ (∃ z : Int, (D : Rat) * q = (z : Rat)) ∧ -(A : Rat) ≤ q ∧ q ≤ (A : Rat)
theorem ncast_pos {D : Nat} (h : 0 < D) : (0 : Rat) < (D : Rat) := by exact_mod_cast h
theorem zKQ (D : Nat) : (0 : Rat) ≤ (D : Rat) := by exact_mod_cast Nat.zero_le D
theorem Bd.mul {D E A B : Nat} {p q : Rat} (hp : Bd D A p) (hq : Bd E B q) : Bd (D * E) (A * B) (p * q) := by
 obtain ⟨d0, ⟨z, hz⟩, p1, p2⟩ := hp;obtain ⟨e0, ⟨w, hw⟩, q1, q2⟩ := hq;refine ⟨Nat.mul_pos d0 e0, ⟨z * w, ?_⟩, ?_, ?_⟩
 ·rw [Rat.natCast_mul, Rat.intCast_mul, ← hz, ← hw]; grind
 ·have h1 := Rat.mul_nonneg (show (0 : Rat) ≤ A + p by grind) (show (0 : Rat) ≤ B + q by grind)
  have h2 := Rat.mul_nonneg (show (0 : Rat) ≤ A - p by grind) (show (0 : Rat) ≤ B - q by grind);rw [Rat.natCast_mul]; grind
 ·have h1 := Rat.mul_nonneg (show (0 : Rat) ≤ A - p by grind) (show (0 : Rat) ≤ B + q by grind)
  have h2 := Rat.mul_nonneg (show (0 : Rat) ≤ A + p by grind) (show (0 : Rat) ≤ B - q by grind);rw [Rat.natCast_mul]; grind
theorem Bd.up {D A B : Nat} {q : Rat} (h : Bd D A q) (k : Nat) (hk : 0 < k) (hB : A ≤ B) : Bd (k * D) B q := by
 obtain ⟨d0, ⟨z, hz⟩, p1, p2⟩ := h;have hB' : (A : Rat) ≤ B := by exact_mod_cast hB
 refine ⟨Nat.mul_pos hk d0, ⟨k * z, ?_⟩, by grind, by grind⟩;rw [Rat.natCast_mul, Rat.intCast_mul, ← hz, Rat.intCast_natCast]; grind
theorem Bd.add {D A B : Nat} {p q : Rat} (hp : Bd D A p) (hq : Bd D B q) : Bd D (A + B) (p + q) := by
 obtain ⟨d0, ⟨z, hz⟩, p1, p2⟩ := hp;obtain ⟨_, ⟨w, hw⟩, q1, q2⟩ := hq;refine ⟨d0, ⟨z + w, ?_⟩, ?_, ?_⟩
 ·rw [Rat.intCast_add, ← hz, ← hw]; grind
 ·rw [Rat.natCast_add]; grind
 ·rw [Rat.natCast_add]; grind
theorem Bd.max {D A : Nat} {p : Rat} (h : Bd D A p) : Bd D A (maxQ 0 p) := by
 unfold maxQ
 split
 ·obtain ⟨d0, _, p1, p2⟩ := h
  have := zKQ A;exact ⟨d0, ⟨0, by rw [Rat.intCast_zero]; grind⟩, by grind, by grind⟩
 ·exact h
theorem Bd.sz {D A d a : Nat} {q : Rat} (h : Bd D A q) (hD : D < pw d) (hA : A < pw a) : sz (d + a) q := by
 obtain ⟨d0, ⟨z, hz⟩, p1, p2⟩ := h;have hd := ncast_pos d0
 have e : q = mkRat z D := by
  rw [Rat.mkRat_eq_div, ← Rat.intCast_natCast];rw [← hz, Rat.intCast_natCast];have hn : (D : Rat) ≠ 0 := by grind
  have := Rat.mul_inv_cancel _ hn;rw [Rat.div_def]
  grind
 have hz1 : (z : Rat) ≤ ((D * A : Nat) : Rat) := by
  rw [← hz, Rat.natCast_mul];exact Rat.mul_le_mul_of_nonneg_left p2 (Rat.le_of_lt hd)
 have hz2 : -((D * A : Nat) : Rat) ≤ (z : Rat) := by
  rw [← hz, Rat.natCast_mul];have := Rat.mul_le_mul_of_nonneg_left p1 (Rat.le_of_lt hd)
  grind
 have h1 : z ≤ ((D * A : Nat) : Int) := by
  rw [← Rat.intCast_natCast] at hz1; exact Rat.intCast_le_intCast.1 hz1
 have h2 : -((D * A : Nat) : Int) ≤ z := by
  rw [← Rat.intCast_natCast, ← Rat.intCast_neg] at hz2; exact Rat.intCast_le_intCast.1 hz2
 have h3 := zBB hD hA;have h4 := zCH (show d ≤ d + a by omega);rw [e];exact sz_mk (by omega) (by omega) (by omega)
theorem Bd.qv (r : RatL) : Bd (dn r.den) (nv r.num) (Go.PI.qv r) := by
 have d0 : 0 < dn r.den := Nat.pos_of_ne_zero (zB2 _);have hd := ncast_pos d0
 have e : (dn r.den : Rat) * Go.PI.qv r = ((sg r.neg (nv r.num) : Int) : Rat) := by
  unfold Go.PI.qv;rw [Rat.mkRat_eq_div]
  grind
 have habs := zFZ r.neg (nv r.num);refine ⟨d0, ⟨_, e⟩, ?_, ?_⟩
 ·have h1 : -((nv r.num : Nat) : Int) ≤ sg r.neg (nv r.num) := by omega
  have h2 : (-((nv r.num : Nat) : Rat)) ≤ ((sg r.neg (nv r.num) : Int) : Rat) := by
   rw [← Rat.intCast_natCast, ← Rat.intCast_neg]; exact Rat.intCast_le_intCast.2 h1
  rw [← e] at h2;have h3 : (1 : Rat) ≤ (dn r.den : Rat) := by exact_mod_cast d0
  have h5 := zKQ (nv r.num);apply Rat.not_lt.1;intro hc;have h4 : (0 : Rat) ≤ ((dn r.den : Rat) - 1) * (nv r.num : Rat) := Rat.mul_nonneg (by grind) h5;have h6 : 0 < (dn r.den : Rat) * (-(nv r.num : Rat) - Go.PI.qv r) := Rat.mul_pos hd (by grind)
  grind
 ·have h1 : sg r.neg (nv r.num) ≤ ((nv r.num : Nat) : Int) := by omega
  have h2 : ((sg r.neg (nv r.num) : Int) : Rat) ≤ ((nv r.num : Nat) : Rat) := by
   rw [← Rat.intCast_natCast]; exact Rat.intCast_le_intCast.2 h1
  rw [← e] at h2;have h3 : (1 : Rat) ≤ (dn r.den : Rat) := by exact_mod_cast d0
  have h5 := zKQ (nv r.num);apply Rat.not_lt.1;intro hc;have h4 : (0 : Rat) ≤ ((dn r.den : Rat) - 1) * (nv r.num : Rat) := Rat.mul_nonneg (by grind) h5;have h6 : 0 < (dn r.den : Rat) * (Go.PI.qv r - (nv r.num : Rat)) := Rat.mul_pos hd (by grind)
  grind
def lnQ (r : RatL) : Nat := r.num.length + r.den.length + 1
def tD (l : List TermL) : Nat := l.foldr (fun t d => dn t.coef.den * d) 1
def tA (l : List TermL) : Nat := l.foldr (fun t d => nv t.coef.num + d) 0
def tL (l : List TermL) : Nat := (l.map fun t => lnQ t.coef + 1).sum
def fD (f : AffL) : Nat := dn f.const.den * tD f.terms
def fA (f : AffL) : Nat := nv f.const.num + tA f.terms + 1
def lnA (f : AffL) : Nat := lnQ f.const + 1 + tL f.terms
theorem zM2 : ∀ l : List TermL, 0 < tD l
 | [] => by decide
 | t :: l => Nat.mul_pos (Nat.pos_of_ne_zero (zB2 _)) (zM2 l)
theorem fD_pos (f : AffL) : 0 < fD f := Nat.mul_pos (Nat.pos_of_ne_zero (zB2 _)) (zM2 _)
theorem fA_pos (f : AffL) : 1 ≤ fA f := by unfold fA; omega
theorem nv_ln {r : RatL} (h : okR r) : nv r.num < pw (lnQ r) := Nat.lt_of_lt_of_le (zD1 h.1) (zCH (by unfold lnQ; omega))
theorem dn_ln {r : RatL} (h : okR r) : dn r.den < pw (lnQ r) := dn_lt h.2 (by unfold lnQ; omega) (by unfold lnQ; omega)
theorem zGW (j k : Nat) : pw j + pw k ≤ pw (j + k + 1) := by
 have h1 := zCH (show j ≤ j + k by omega);have h2 := zCH (show k ≤ j + k by omega);have h3 := zA2 (j + k);omega
theorem tD_lt : ∀ {l : List TermL}, (∀ t ∈ l, okR t.coef) → tD l < pw (tL l + 1)
 | [], _ => by decide
 | t :: l, h => by
   have h1 := tD_lt (l := l) fun t ht => h t (List.mem_cons_of_mem _ ht)
   have h2 := dn_ln (h t (by simp));have h3 := zBB h2 h1;refine Nat.lt_of_lt_of_le h3 (zCH ?_);unfold tL; simp only [List.map_cons, List.sum_cons]; omega
theorem tA_lt : ∀ {l : List TermL}, (∀ t ∈ l, okR t.coef) → tA l < pw (tL l)
 | [], _ => by decide
 | t :: l, h => by
   have h1 := tA_lt (l := l) fun t ht => h t (List.mem_cons_of_mem _ ht)
   have h2 := nv_ln (h t (by simp));have h3 := zGW (lnQ t.coef) (tL l);have e : tA (t :: l) = nv t.coef.num + tA l := rfl;rw [e];refine Nat.lt_of_lt_of_le (show _ < pw (lnQ t.coef + tL l + 1) by omega) (zCH ?_);unfold tL; simp only [List.map_cons, List.sum_cons]; omega
theorem fD_lt {f : AffL} {k : Nat} (h : okA k f) : fD f < pw (lnA f) := by
 have h1 := tD_lt (l := f.terms) fun t ht => (h.2.1 t ht).1
 have h2 := dn_ln h.1.1;exact Nat.lt_of_lt_of_le (zBB h2 h1) (zCH (by unfold lnA; omega))
theorem fA_lt {f : AffL} {k : Nat} (h : okA k f) : fA f < pw (lnA f) := by
 have h1 := tA_lt (l := f.terms) fun t ht => (h.2.1 t ht).1
 have h2 := nv_ln h.1.1;have h3 := zGW (lnQ f.const) (tL f.terms);unfold fA;refine Nat.lt_of_lt_of_le (show _ < pw (lnQ f.const + tL f.terms + 1) by omega) (zCH (by unfold lnA; omega))
def BdL (E M : Nat) (vs : List Rat) : Prop := (0 < E ∧ 1 ≤ M) ∧ ∀ v ∈ vs, Bd E M v
theorem dot_bd {E M : Nat} {vs : List Rat} (hv : BdL E M vs) : ∀ {l : List TermL}, (∀ t ∈ l, 0 ≤ t.var ∧ t.var < vs.length) → Bd (tD l * E) (tA l * M) (dot vs (l.map fun t => (t.var, qv t.coef)))
 | [], _ => ⟨by have := hv.1.1; simpa [tD] using this, ⟨0, by simp [dot]⟩, by simp [dot, tA], by simp [dot, tA]⟩
 | t :: l, h => by
   have ih := dot_bd hv (l := l) fun t ht => h t (List.mem_cons_of_mem _ ht)
   have h0 := h t (by simp);have hm : vs[t.var.toNat]! ∈ vs := by rw [getElem!_pos vs _ (by omega)]; exact List.getElem_mem _
   have h1 := (Bd.qv t.coef).mul (hv.2 _ hm);have h2 := h1.up (tD l) (zM2 l) (Nat.le_refl _);have h3 := ih.up (dn t.coef.den) (Nat.pos_of_ne_zero (zB2 _)) (Nat.le_refl _);have e : tD l * (dn t.coef.den * E) = dn t.coef.den * (tD l * E) := by rw [← Nat.mul_assoc, Nat.mul_comm (tD l), Nat.mul_assoc]
   rw [e] at h2;have h4 := h2.add h3;have e2 : tD (t :: l) * E = dn t.coef.den * (tD l * E) := by show dn t.coef.den * tD l * E = _; rw [Nat.mul_assoc]
   have e3 : tA (t :: l) * M = nv t.coef.num * M + tA l * M := by show (nv t.coef.num + tA l) * M = _; rw [Nat.add_mul]
   rw [e2, e3];exact h4
theorem ev_bd {E M : Nat} {vs : List Rat} (hv : BdL E M vs) {f : AffL} (h : ∀ t ∈ f.terms, 0 ≤ t.var ∧ t.var < vs.length) : Bd (fD f * E) (fA f * M) (evQ f.Q vs) := by
 rw [zH1];have h1 := (Bd.qv f.const).up (tD f.terms * E) (Nat.mul_pos (zM2 _) hv.1.1) (Nat.le_refl _);have h2 := (dot_bd hv h).up (dn f.const.den) (Nat.pos_of_ne_zero (zB2 _)) (Nat.le_refl _);have e : tD f.terms * E * dn f.const.den = dn f.const.den * (tD f.terms * E) := Nat.mul_comm ..;rw [e] at h1
 have h3 := (h1.add h2).up 1 (by decide) (B := fA f * M) (by
  unfold fA;rw [Nat.add_mul, Nat.add_mul];have := Nat.le_mul_of_pos_right (nv f.const.num) hv.1.2
  omega)
 rw [Nat.one_mul, ← Nat.mul_assoc] at h3;exact h3
theorem BdL.app {E M D A : Nat} {vs : List Rat} {y : Rat} (hv : BdL E M vs) (hD : 0 < D) (hA : 1 ≤ A) (h : Bd (D * E) (A * M) y) : BdL (D * E) (A * M) (vs ++ [y]) := by
 refine ⟨⟨Nat.mul_pos hD hv.1.1, Nat.mul_pos hA hv.1.2⟩, fun v hm => ?_⟩;rcases List.mem_append.1 hm with hm | hm
 ·exact (hv.2 v hm).up D hD (Nat.le_mul_of_pos_left _ hA)
 ·rw [List.mem_singleton.1 hm]; exact h
def gL (l : List AffL) : Nat := (l.map lnA).sum
theorem gL_take {l : List AffL} {j : Nat} (h : j < l.length) : gL (l.take (j + 1)) = gL (l.take j) + lnA l[j]! := by
 unfold gL; rw [List.take_succ_eq_append_getElem h, List.map_append, List.sum_append, getElem!_pos l j h]; simp
theorem gL_le (l : List AffL) (j : Nat) : gL (l.take j) ≤ gL l := by
 have : gL l = gL (l.take j) + gL (l.drop j) := by unfold gL; rw [← List.sum_append, ← List.map_append, List.take_append_drop]
 omega
theorem vals_bd {units : List AffL} {x : List Rat} {e m k : Nat} (hu : ∀ f ∈ units, okA k f) (hx : ∃ E M, E < pw e ∧ M < pw m ∧ BdL E M x) (hvar : ∀ j, j < units.length → ∀ t ∈ units[j]!.terms, 0 ≤ t.var ∧ t.var < (x.length + j : Nat)) :
 ∀ j, j ≤ units.length → ∃ E M, E < pw (e + gL (units.take j)) ∧ M < pw (m + gL (units.take j)) ∧ BdL E M (valsN (units.map AffL.Q) x j)
 | 0, _ => by
   obtain ⟨E, M, h1, h2, h3⟩ := hx;exact ⟨E, M, by simpa [gL] using h1, by simpa [gL] using h2, by rw [zEO]; exact h3⟩
 | j + 1, hj => by
   obtain ⟨E, M, h1, h2, h3⟩ := vals_bd hu hx hvar j (by omega);have hm : units[j]! ∈ units := by rw [getElem!_pos units _ (by omega)]; exact List.getElem_mem _
   have hlen := zDG (us := units.map AffL.Q) (x := x) j (by simp; omega);have h4 := ev_bd h3 (f := units[j]!) (fun t ht => by rw [hlen]; exact hvar j (by omega) t ht);have eu : (units.map AffL.Q)[j]! = units[j]!.Q := by rw [getElem!_pos _ j (by simp; omega), getElem!_pos units j (by omega)]; simp
   refine ⟨fD units[j]! * E, fA units[j]! * M, ?_, ?_, ?_⟩
   ·rw [gL_take (by omega)]
    exact Nat.lt_of_lt_of_le (zBB (fD_lt (hu _ hm)) h1) (zCH (by omega))
   ·rw [gL_take (by omega)]
    exact Nat.lt_of_lt_of_le (zBB (fA_lt (hu _ hm)) h2) (zCH (by omega))
   ·rw [zFX (by simp; omega), eu]
    exact h3.app (fD_pos _) (fA_pos _) h4.max
theorem BdL.sz {E M d a : Nat} {vs : List Rat} (h : BdL E M vs) (hD : E < pw d) (hA : M < pw a) : ∀ v ∈ vs, sz (d + a) v := fun v hv => (h.2 v hv).sz hD hA
theorem vals_sz {units : List AffL} {x : List Rat} {e k : Nat} (hu : ∀ f ∈ units, okA k f) (hx : ∃ E M, E < pw e ∧ M < pw e ∧ BdL E M x) (hvar : ∀ j, j < units.length → ∀ t ∈ units[j]!.terms, 0 ≤ t.var ∧ t.var < (x.length + j : Nat)) :
 (∀ j, j ≤ units.length → ∀ v ∈ valsN (units.map AffL.Q) x j, sz (2 * (e + gL units)) v) ∧ (∀ j, j < units.length → sz (2 * (e + gL units)) (evQ (units.map AffL.Q)[j]! (valsN (units.map AffL.Q) x j))) := by
 refine ⟨fun j hj v hv => ?_, fun j hj => ?_⟩
 ·obtain ⟨E, M, h1, h2, h3⟩ := vals_bd hu hx hvar j hj
  have := gL_le units j;exact zC9 (by omega) (h3.sz h1 h2 v hv)
 ·obtain ⟨E, M, h1, h2, h3⟩ := vals_bd hu hx hvar j (by omega)
  have hm : units[j]! ∈ units := by rw [getElem!_pos units _ hj]; exact List.getElem_mem _
  have hlen := zDG (us := units.map AffL.Q) (x := x) j (by simp; omega);have h4 := ev_bd h3 (f := units[j]!) (fun t ht => by rw [hlen]; exact hvar j hj t ht);have eu : (units.map AffL.Q)[j]! = units[j]!.Q := by rw [getElem!_pos _ j (by simp; omega), getElem!_pos units j hj]; simp
  have g1 := gL_take hj;have g2 := gL_le units (j + 1);rw [eu];exact zC9 (by omega) (h4.sz (zBB (fD_lt (hu _ hm)) h1) (zBB (fA_lt (hu _ hm)) h2))
theorem form_sz {units : List AffL} {x : List Rat} {e k k' : Nat} {f : AffL} (hu : ∀ f ∈ units, okA k f) (hx : ∃ E M, E < pw e ∧ M < pw e ∧ BdL E M x) (hvar : ∀ j, j < units.length → ∀ t ∈ units[j]!.terms, 0 ≤ t.var ∧ t.var < (x.length + j : Nat))
 (hf : okA k' f) (hfv : ∀ t ∈ f.terms, 0 ≤ t.var ∧ t.var < (x.length + units.length : Nat)) : sz (2 * (e + gL units + lnA f)) (evQ f.Q (valsN (units.map AffL.Q) x units.length)) := by
 obtain ⟨E, M, h1, h2, h3⟩ := vals_bd hu hx hvar units.length (Nat.le_refl _);have hlen := zDG (us := units.map AffL.Q) (x := x) units.length (by simp);have h4 := ev_bd h3 (f := f) (fun t ht => by rw [hlen]; exact hfv t ht);rw [List.take_length] at h1 h2;exact zC9 (by omega) (h4.sz (zBB (fD_lt hf) h1) (zBB (fA_lt hf) h2))
theorem Bd.neg {D A : Nat} {q : Rat} (h : Bd D A q) : Bd D A (-q) := by
 obtain ⟨d0, ⟨z, hz⟩, p1, p2⟩ := h;exact ⟨d0, ⟨-z, by rw [Rat.intCast_neg, ← hz]; grind⟩, by grind, by grind⟩
theorem Bd.sum {D E A B : Nat} {p q : Rat} (hp : Bd D A p) (hq : Bd E B q) : Bd (D * E) (A + B) (p + q) := by
 have h1 := hp.up E hq.1 (Nat.le_refl _);have h2 := hq.up D hp.1 (Nat.le_refl _);rw [Nat.mul_comm] at h1;exact h1.add h2
theorem bd_list : ∀ L : List (Rat × Nat), (∀ p ∈ L, ∃ D A, D < pw p.2 ∧ A < pw p.2 ∧ Bd D A p.1) → ∃ E M, E < pw ((L.map (·.2)).sum + 1) ∧ M < pw ((L.map (·.2)).sum + 1) ∧ BdL E M (L.map (·.1))
 | [], _ => ⟨1, 1, by decide, by decide, ⟨by decide, by decide⟩, fun v h => by cases h⟩
 | p :: L, h => by
   obtain ⟨E, M, h1, h2, h3⟩ := bd_list L fun q hq => h q (List.mem_cons_of_mem _ hq)
   obtain ⟨D, A, g1, g2, g3⟩ := h p (by simp);refine ⟨D * E, (A + 1) * M, ?_, ?_, ⟨Nat.mul_pos g3.1 h3.1.1, Nat.mul_pos (by omega) h3.1.2⟩, fun v hv => ?_⟩
   ·rw [List.map_cons, List.sum_cons, Nat.add_assoc]
    exact zBB g1 h1
   ·rw [List.map_cons, List.sum_cons, Nat.add_assoc, zLK]
    exact Nat.lt_of_le_of_lt (Nat.mul_le_mul_right _ g2) (Nat.mul_lt_mul_of_pos_left h2 (zIH _))
   ·rw [List.map_cons] at hv
    rcases List.mem_cons.1 hv with rfl | hv
    ·have := g3.up E h3.1.1 (B := (A + 1) * M) (Nat.le_trans (Nat.le_succ A) (Nat.le_mul_of_pos_right _ h3.1.2))
     rw [Nat.mul_comm] at this; exact this
    ·exact (h3.2 v hv).up D g3.1 (Nat.le_mul_of_pos_left _ (by omega))
theorem part_bd (l : List Int) (i : Nat) : Bd 8 8 (mkRat (inK l i) 8) := by
 have h : inK l i < 9 := by unfold inK; split <;> omega
 have e : mkRat (inK l i) 8 = ((inK l i : Nat) : Rat) / 8 := by rw [Rat.mkRat_eq_div]; rfl
 have h1 : ((inK l i : Nat) : Rat) ≤ 8 := by exact_mod_cast (show inK l i ≤ 8 by omega)
 have h0 := zKQ (inK l i);rw [e];refine ⟨by decide, ⟨(inK l i : Int), ?_⟩, ?_, ?_⟩
 ·rw [Rat.intCast_natCast]; grind
 ·have : ((8 : Nat) : Rat) = 8 := rfl
  rw [this]; grind
 ·have : ((8 : Nat) : Rat) = 8 := rfl
  rw [this]; grind
def lsL (l : List RatL) : Nat := (l.map lnQ).sum
theorem ins_bd {r : RegL} {l : List Int} {k : Nat} (h1 : okLs k r.lo) (h2 : okLs k r.hi) (hl : r.hi.length = r.lo.length) : ∃ E M, E < pw (2 * lsL r.lo + lsL r.hi + 4 * r.lo.length + 1) ∧ M < pw (2 * lsL r.lo + lsL r.hi + 4 * r.lo.length + 1) ∧ BdL E M (insR r l) := by
 have key : ∀ i, i < r.lo.length → ∃ D A, D < pw (2 * lnQ r.lo[i]! + lnQ r.hi[i]! + 4) ∧ A < pw (2 * lnQ r.lo[i]! + lnQ r.hi[i]! + 4) ∧ Bd D A (qv r.lo[i]! + mkRat (inK l i) 8 * (qv r.hi[i]! - qv r.lo[i]!)) := fun i hi => by
  have q1 := (zBQ h1 hi).1;have q2 := (zBQ h2 (show i < r.hi.length by omega)).1;have b1 := Bd.qv r.lo[i]!;have b2 := Bd.qv r.hi[i]!;have b3 := (part_bd l i).mul (b2.sum b1.neg);rw [← Rat.sub_eq_add_neg] at b3;have b4 := b1.sum b3;have n1 := nv_ln q1;have n2 := nv_ln q2;have d1 := dn_ln q1;have d2 := dn_ln q2;have p8 : (8 : Nat) < pw 1 := by decide
  refine ⟨_, _, ?_, ?_, b4⟩
  ·exact Nat.lt_of_lt_of_le (zBB d1 (zBB p8 (zBB d2 d1))) (zCH (by omega))
  ·have s1 := zGW (lnQ r.hi[i]!) (lnQ r.lo[i]!)
   have s2 := zBB p8 (show nv r.hi[i]!.num + nv r.lo[i]!.num < pw (lnQ r.hi[i]! + lnQ r.lo[i]! + 1) by omega);have s3 := zGW (lnQ r.lo[i]!) (1 + (lnQ r.hi[i]! + lnQ r.lo[i]! + 1));exact Nat.lt_of_lt_of_le (show _ < pw (lnQ r.lo[i]! + (1 + (lnQ r.hi[i]! + lnQ r.lo[i]! + 1)) + 1) by omega) (zCH (by omega))
 obtain ⟨E, M, h3, h4, h5⟩ := bd_list ((List.range r.lo.length).map fun i => (qv r.lo[i]! + mkRat (inK l i) 8 * (qv r.hi[i]! - qv r.lo[i]!), 2 * lnQ r.lo[i]! + lnQ r.hi[i]! + 4)) (fun p hp => by
  obtain ⟨i, hi, rfl⟩ := List.mem_map.1 hp
  exact key i (List.mem_range.1 hi))
 rw [List.map_map] at h3 h4;rw [List.map_map] at h5
 have e : ((List.range r.lo.length).map ((fun p : Rat × Nat => p.2) ∘ fun i => (qv r.lo[i]! + mkRat (inK l i) 8 * (qv r.hi[i]! - qv r.lo[i]!), 2 * lnQ r.lo[i]! + lnQ r.hi[i]! + 4))).sum = 2 * lsL r.lo + lsL r.hi + 4 * r.lo.length := by
  have g : ∀ n, n ≤ r.lo.length → ((List.range n).map fun i => 2 * lnQ r.lo[i]! + lnQ r.hi[i]! + 4).sum = 2 * lsL (r.lo.take n) + lsL (r.hi.take n) + 4 * n := by
   intro n
   induction n with
   | zero => intro _; simp [lsL]
   | succ n ih =>
     intro hn;rw [List.range_succ, List.map_append, List.sum_append, ih (by omega)];unfold lsL;rw [List.take_succ_eq_append_getElem (show n < r.lo.length by omega), List.take_succ_eq_append_getElem (show n < r.hi.length by omega), List.map_append, List.map_append, List.sum_append, List.sum_append, List.map_singleton, List.map_singleton, List.map_singleton, getElem!_pos r.lo n (by omega), getElem!_pos r.hi n (by omega)]
     simp; omega
  have := g r.lo.length (Nat.le_refl _);rw [List.take_length, List.take_of_length_le (by omega)] at this;exact this
 rw [e] at h3 h4;exact ⟨E, M, h3, h4, h5⟩
end Go.PI
namespace Go.PI
def lQ (r : RatL) : Nat := r.num.length + r.den.length
def vL (l : List LemL) : Nat := (l.map fun m => lQ m.value).sum
def sC (l : List MultL) : Nat := (l.map fun m => lQ m.coef + 1).sum
def NodeL.tot (f : NodeL → Nat) (n : NodeL) : Nat := f n + (n.kids.attach.map fun ⟨k, _⟩ => NodeL.tot f k).sum
termination_by SizeOf.sizeOf n
decreasing_by exact NodeL.sizeOf_kid ‹_›
theorem NodeL.tot_eq (f : NodeL → Nat) (n : NodeL) : n.tot f = f n + (n.kids.map (NodeL.tot f)).sum := by
 rw [NodeL.tot]
 congr 1
 simp
theorem tot_kid {f : NodeL → Nat} {n k : NodeL} (h : k ∈ n.kids) : f n + k.tot f ≤ n.tot f := by
 rw [NodeL.tot_eq f n]
 have : ∀ (l : List NodeL), k ∈ l → k.tot f ≤ (l.map (NodeL.tot f)).sum := by
  intro l
  induction l with
  | nil => intro h; cases h
  | cons a l ih =>
    intro h;rw [List.map_cons, List.sum_cons];rcases List.mem_cons.1 h with rfl | h
    ·omega
    ·have := ih h; omega
 have := this _ h;omega
theorem zKK (f : NodeL → Nat) (n : NodeL) : f n ≤ n.tot f := by rw [NodeL.tot_eq]; omega
theorem zK9 {α : Type} (f g : α → Nat) : ∀ l : List α, (l.map fun x => f x + g x).sum = (l.map f).sum + (l.map g).sum
 | [] => rfl
 | x :: l => by simp only [List.map_cons, List.sum_cons, zK9 f g l]; omega
theorem tot_add (f g : NodeL → Nat) : ∀ (k : Nat) (n : NodeL), SizeOf.sizeOf n < k → n.tot (fun x => f x + g x) = n.tot f + n.tot g := by
 intro k
 induction k with
 | zero => intro n h; omega
 | succ k ih =>
   intro n h;rw [NodeL.tot_eq, NodeL.tot_eq f, NodeL.tot_eq g];have : n.kids.map (NodeL.tot fun x => f x + g x) = n.kids.map fun x => x.tot f + x.tot g := List.map_congr_left fun x hx => ih x (by have := NodeL.sizeOf_kid hx; omega)
   rw [this, zK9];omega
def spF (n : NodeL) : Nat := lQ n.split.rat
def vlF (n : NodeL) : Nat := vL n.lemmas
def uL (l : List LemL) : Nat := (l.map fun m => if m.upper = true then lQ m.value else 0).sum
def loL (l : List LemL) : Nat := (l.map fun m => if m.upper = true then 0 else lQ m.value).sum
def uF (n : NodeL) : Nat := uL n.lemmas
def lF (n : NodeL) : Nat := loL n.lemmas
theorem vl_split : vlF = fun n => uF n + lF n := by
 funext n
 unfold vlF uF lF vL uL loL;rw [← zK9]
 congr 1
 refine List.map_congr_left fun m _ => ?_
 split <;> omega
theorem vl_tot (n : NodeL) : n.tot vlF = n.tot uF + n.tot lF := by rw [vl_split, tot_add uF lF _ n (Nat.lt_succ_self _)]
def coF (n : NodeL) : Nat := (n.lemmas.map fun m => sC m.proof).sum + sC n.proof
def NodeL.bk (n : NodeL) : Nat := n.tot fun x => spF x + vlF x + coF x
theorem bk_eq (n : NodeL) : n.bk = n.tot spF + n.tot vlF + n.tot coF := by
 unfold NodeL.bk;rw [tot_add (fun x => spF x + vlF x) coF _ n (Nat.lt_succ_self _), tot_add spF vlF _ n (Nat.lt_succ_self _)]
inductive NodeL.NOk : NodeL → Prop
 | mk (n : NodeL) (h1 : ∀ m ∈ n.lemmas, okR m.value ∧ ∀ p ∈ m.proof, okR p.coef) (h2 : okR n.split.rat) (h3 : ∀ p ∈ n.proof, okR p.coef) (h4 : ∀ k ∈ n.kids, NodeL.NOk k) : NodeL.NOk n
theorem NodeL.NOk.lem {n : NodeL} (h : n.NOk) : ∀ m ∈ n.lemmas, okR m.value ∧ ∀ p ∈ m.proof, okR p.coef := by cases h; assumption
theorem NodeL.NOk.spl {n : NodeL} (h : n.NOk) : okR n.split.rat := by cases h; assumption
theorem NodeL.NOk.prf {n : NodeL} (h : n.NOk) : ∀ p ∈ n.proof, okR p.coef := by cases h; assumption
theorem NodeL.NOk.kid {n : NodeL} (h : n.NOk) {k : NodeL} (hk : k ∈ n.kids) : k.NOk := by
 cases h with | mk _ _ _ _ h4 => exact h4 k hk
theorem zGA {α : Type} {f : α → Nat} {x : α} : ∀ {l : List α}, x ∈ l → f x ≤ (l.map f).sum
 | a :: l, h => by
   rw [List.map_cons, List.sum_cons];rcases List.mem_cons.1 h with rfl | h
   ·omega
   ·have := zGA (f := f) h; omega
theorem sC_mem {l : List MultL} {p : MultL} (h : p ∈ l) : lQ p.coef + 1 ≤ sC l := zGA (f := fun m : MultL => lQ m.coef + 1) h
theorem cnt_wt : ∀ (k : Nat) (n : NodeL), SizeOf.sizeOf n < k → n.cnt ≤ n.wt := by
 intro k
 induction k with
 | zero => intro n h; omega
 | succ k ih =>
   intro n h;rw [NodeL.cnt_eq, NodeL.wt_eq]
   have : ∀ l : List NodeL, (∀ x ∈ l, x ∈ n.kids) → (l.map NodeL.cnt).sum ≤ (l.map NodeL.wt).sum := by
    intro l
    induction l with
    | nil => intro _; exact Nat.le_refl _
    | cons a l ihl =>
      intro hl;have h1 := ih a (by have := NodeL.sizeOf_kid (hl a (by simp)); omega);have h2 := ihl fun x hx => hl x (List.mem_cons_of_mem _ hx)
      rw [List.map_cons, List.map_cons, List.sum_cons, List.sum_cons]; omega
   have := this n.kids fun _ h => h
   omega
end Go.PI
namespace Go.PI
structure Est (U W p T v1 v2 u3 : Nat) : Prop where
 u1 : p * (u3 + 4294967296 * T) ≤ U
 u2 : U < p * (u3 + 4294967296 * T + 1)
 w1 : p * (v2 + 4294967296 * v1) ≤ W
 w2 : W < p * (v2 + 4294967296 * v1 + 1)
 v1l : 2147483648 ≤ v1
 v1h : v1 < 4294967296
 v2h : v2 < 4294967296
 u3h : u3 < 4294967296
 lt : U < W * 4294967296
 p0 : 0 < p
section
variable {U W p T v1 v2 u3 : Nat}
theorem Est.init (h : Est U W p T v1 v2 u3) {q r : Nat} (ht : T = q * v1 + r) (hr : r < v1) : U < (q + 1) * W ∧ q ≤ 4294967297 := by
 constructor
 ·have h1 : p * (u3 + 4294967296 * T + 1) ≤ p * (4294967296 * ((q + 1) * v1)) := Nat.mul_le_mul_left _ (by
   have : (q + 1) * v1 = q * v1 + v1 := by rw [Nat.add_mul, Nat.one_mul]
   have := h.u3h
   omega)
  have h2 : p * (4294967296 * ((q + 1) * v1)) = (q + 1) * (p * (4294967296 * v1)) := by
   rw [Nat.mul_left_comm 4294967296, Nat.mul_left_comm p]
  have h3 : (q + 1) * (p * (4294967296 * v1)) ≤ (q + 1) * W := Nat.mul_le_mul_left _ (Nat.le_trans (Nat.mul_le_mul_left _ (by omega)) h.w1);have := h.u2;omega
 ·have h1 : p * (4294967296 * T) < p * (4294967296 * ((v1 + 1) * 4294967296)) := by
   have a1 : p * (4294967296 * T) ≤ U := Nat.le_trans (Nat.mul_le_mul_left _ (by omega)) h.u1;have a2 : W * 4294967296 ≤ p * (4294967296 * (v1 + 1)) * 4294967296 := Nat.mul_le_mul_right _ (Nat.le_trans (Nat.le_of_lt h.w2) (Nat.mul_le_mul_left _ (by have := h.v2h; omega)));have := h.lt;rw [Nat.mul_assoc, Nat.mul_assoc] at a2;omega
  have h2 : T < (v1 + 1) * 4294967296 := by
   have := Nat.lt_of_mul_lt_mul_left h1;omega
  have h3 : q * v1 < 4294967298 * v1 := by have := h.v1l; omega
  have := Nat.lt_of_mul_lt_mul_right h3;omega
theorem Est.step (h : Est U W p T v1 v2 u3) {q r : Nat} (ht : T = q * v1 + r) (hc : 4294967296 ≤ q ∨ r * 4294967296 + u3 < q * v2) : U < q * W := by
 rcases hc with hc | hc
 ·have := h.lt
  have h1 : W * 4294967296 ≤ W * q := Nat.mul_le_mul_left _ hc;rw [Nat.mul_comm W q] at h1;omega
 ·have h1 : u3 + 4294967296 * T + 1 ≤ q * (v2 + 4294967296 * v1) := by
   rw [Nat.mul_add, Nat.mul_left_comm, ht, Nat.mul_add];omega
  have h2 : p * (q * (v2 + 4294967296 * v1)) = q * (p * (v2 + 4294967296 * v1)) := Nat.mul_left_comm ..;have h3 := Nat.mul_le_mul_left p h1;have h4 := Nat.mul_le_mul_left q h.w1;have := h.u2;omega
theorem Est.last (h : Est U W p T v1 v2 u3) {q r : Nat} (ht : T = q * v1 + r) (hq : q ≤ 4294967296) (hc : q * v2 ≤ r * 4294967296 + u3) : q * W ≤ U + W := by
 have h1 : q * (v2 + 4294967296 * v1) ≤ u3 + 4294967296 * T := by
  rw [Nat.mul_add, Nat.mul_left_comm, ht, Nat.mul_add];omega
 have h2 : q * (p * (v2 + 4294967296 * v1)) ≤ U := by
  rw [Nat.mul_left_comm];exact Nat.le_trans (Nat.mul_le_mul_left p h1) h.u1
 have h3 : q * W ≤ q * (p * (v2 + 4294967296 * v1 + 1)) := Nat.mul_le_mul_left _ (Nat.le_of_lt h.w2);have h4 : q * (p * (v2 + 4294967296 * v1 + 1)) = q * (p * (v2 + 4294967296 * v1)) + q * p := by rw [Nat.mul_add p, Nat.mul_one, Nat.mul_add]
 have h5 : q * p ≤ W := by
  have a1 : q * p ≤ 4294967296 * p := Nat.mul_le_mul_right _ hq;have a2 : p * 4294967296 ≤ p * (v2 + 4294967296 * v1) := Nat.mul_le_mul_left _ (by have := h.v1l; omega);have := h.w1;rw [Nat.mul_comm 4294967296 p] at a1;omega
 omega
theorem Est.great (h : Est U W p T v1 v2 u3) {q r : Nat} (hq : q ≤ 4294967296) (hr : 4294967296 ≤ r) : q * v2 ≤ r * 4294967296 + u3 := by
 have h1 : q * v2 ≤ 4294967296 * 4294967296 := Nat.mul_le_mul hq (Nat.le_of_lt h.v2h);have h2 : 4294967296 * 4294967296 ≤ r * 4294967296 := Nat.mul_le_mul_right _ hr;omega
end
theorem est_of {P V : List Int} (hP : okN P) (hV : okN V) {n : Nat} (hn : 2 ≤ n) (hPl : P.length = n + 1) (hVl : V.length = n) (htop : 2147483648 ≤ lb V (n - 1)) (hlt : nv P < nv V * 4294967296) :
 Est (nv P) (nv V) (pw (n - 2)) (lb P n * 4294967296 + lb P (n - 1)) (lb V (n - 1)) (lb V (n - 2)) (lb P (n - 2)) := by
 have e1 := zCA P (n - 2);have e2 := zCA V (n - 2);have p1 := zCU hP (n - 2);have p2 := zCU hP (n - 1);have p3 := zCU hP n;have p4 : nt P (n + 1) = 0 := zEA (by omega);have v1 := zCU hV (n - 2);have v2 := zCU hV (n - 1);have v3 : nt V n = 0 := zEA (by omega);rw [show n - 2 + 1 = n - 1 by omega] at p1 v1;rw [show n - 1 + 1 = n by omega] at p2 v2;have k1 := zMT hP (n - 2);have k2 := zMT hV (n - 2);have eP : nt P (n - 2) = lb P (n - 2) + 4294967296 * (lb P n * 4294967296 + lb P (n - 1)) := by omega
 have eV : nt V (n - 2) = lb V (n - 2) + 4294967296 * lb V (n - 1) := by omega
 rw [eP] at e1;rw [eV] at e2;exact ⟨by omega, by rw [Nat.mul_add _ _ 1]; omega, by omega, by rw [Nat.mul_add _ _ 1]; omega, htop, zCI hV _, zCI hV _, zCI hP _, hlt, zIH _⟩
theorem norm_props {B : List Int} (hb : okN B) {n k : Nat} (hn : B.length = n) (h1 : 1 ≤ n) (ht : lb B (n - 1) ≠ 0) (hk : bl (lb B (n - 1)) + k = 32) :
 nv B * 2 ^ k < pw n ∧ (lims (nv B * 2 ^ k)).length = n ∧ 2147483648 ≤ lb (lims (nv B * 2 ^ k)) (n - 1) := by
 obtain ⟨b1, b2, b3⟩ := zB7 32 _ (zCI hb (n - 1)) (by decide);have b2 := b2 ht;have e : nv B = nk B (n - 1) + pw (n - 1) * lb B (n - 1) := by rw [← zA7, show n - 1 + 1 = n by omega, zBS (by omega)]
 have hk1 := zMT hb (n - 1);have hp : pw n = pw (n - 1) * 4294967296 := by rw [show n = n - 1 + 1 by omega, zA2, Nat.mul_comm]; rfl
 have hpp := zIH (n - 1);have e32 : 2 ^ bl (lb B (n - 1)) * 2 ^ k = 4294967296 := by rw [← Nat.pow_add, hk]
 have t1 : (lb B (n - 1) + 1) * 2 ^ k ≤ 4294967296 := by rw [← e32]; exact Nat.mul_le_mul_right _ b1
 have t2 : 4294967296 ≤ 2 * (lb B (n - 1) * 2 ^ k) := by rw [← e32, ← Nat.mul_assoc]; exact Nat.mul_le_mul_right _ b2
 have lo : pw (n - 1) * 2147483648 ≤ nv B * 2 ^ k := by
  rw [e, Nat.add_mul, Nat.mul_assoc];exact Nat.le_trans (Nat.mul_le_mul_left _ (by omega)) (Nat.le_add_left ..)
 have up : nv B * 2 ^ k < pw n := by
  have : nv B < pw (n - 1) * (lb B (n - 1) + 1) := by rw [e, Nat.mul_add]; omega
  have := Nat.mul_lt_mul_of_pos_right this (show 0 < 2 ^ k from Nat.pow_pos (by decide));rw [Nat.mul_assoc] at this;rw [hp];exact Nat.lt_of_lt_of_le this (Nat.mul_le_mul_left _ t1)
 have ho := zAO (nv B * 2 ^ k);have hv := zAQ (nv B * 2 ^ k);have hl := zBN up;generalize lims (nv B * 2 ^ k) = V at *
 generalize nv B * 2 ^ k = M at *
 have hl2 : V.length = n := by
  rcases Nat.lt_or_ge V.length n with h | h
  ·have a := zD1 ho
   have b := zCH (show V.length ≤ n - 1 by omega);omega
  ·omega
 refine ⟨up, hl2, ?_⟩;have e2 : nv V = nk V (n - 1) + pw (n - 1) * lb V (n - 1) := by rw [← zA7, show n - 1 + 1 = n by omega, zBS (by omega)]
 have hk2 := zMT ho (n - 1);have : pw (n - 1) * 2147483648 < pw (n - 1) * (lb V (n - 1) + 1) := by rw [Nat.mul_add]; omega
 have := Nat.lt_of_mul_lt_mul_left this;omega
end Go.PI
namespace Go.PI
open Go.RowKit
theorem LeS_nil {G : Gl} {n0 : Nat} {s : St} {j sz : Nat} {agg : Bool} (hj : s.t j = .nilsl) :
 LeS G n0 s ⟨tset s.t j (.own s.nx 0 0), hset s.h s.nx (some ⟨[], sz, agg⟩), s.z, s.nx + 1⟩ := by
 intro E N df a w A κ hE hR;have hf := hR.fresh s.nx (Nat.le_refl _);have hn : E.n0 ≤ s.nx := hR.n0;have hk := hf.2.2;have hle := zCZ (0, sz, 0) hk;refine ⟨A, kset κ s.nx (0, sz, 0), ⟨hR.hr.empty hn hk, fun r hr => ?_, Nat.le_succ_of_le hn, fun i hi => ?_, hR.size, hR.df⟩⟩
 ·have hr' : s.nx + 1 ≤ r := hr
  have hne : r ≠ s.nx := by omega
  have h := hR.fresh r (by omega);exact ⟨by simp only [hset, if_neg hne]; exact h.1, h.2.1, by rw [zAP κ _ hne]; exact h.2.2⟩
 ·show RV w A _ (tset s.t j (.own s.nx 0 0) i) _
  have hv := hR.tm i hi;unfold tset
  split
  ·rename_i e
   subst e;rw [hj] at hv;rw [hv.nilsl_inv];exact zE0 (zA3 ..) none
  ·exact hv.mono (fun _ h => h) (fun _ _ _ => rfl) hle
theorem HR.retell {E : Env} {G : Gl} {w : World} {A : Nat → Prop} {κ : Ka} {h : Hp} {z : Fz} (H : HR E G w A κ h z) {r : Nat} {b b' : Blk} (hb : h r = some b) (hsz : b'.sz = b.sz) (hagg : b'.agg = b.agg) (hlen : b'.els.length ≤ b.els.length)
 (hel : ∀ (i : Nat) (e' : PV), b'.els[i]? = some e' → ∃ e : PV, b.els[i]? = some e ∧ e'.cells.length = e.cells.length ∧ e'.isAgg = e.isAgg ∧ ∀ (j : Nat) (d' : PV), e'.cells[j]? = some d' → ∃ d : PV, e.cells[j]? = some d ∧ ∀ v, RV w A κ d v → RV w A κ d' v)
 (hg : ∀ i, b = gblk i → b' = b) : HR E G w A κ (hset h r (some b')) z := by
 have get : ∀ r' q, hset h r (some b') r' = some q → ∃ q0, h r' = some q0 ∧ (q = q0 ∨ (r' = r ∧ q = b' ∧ q0 = b)) := fun r' q hq => by
  unfold hset at hq
  split at hq
  ·rename_i e; subst e; cases hq; exact ⟨b, hb, Or.inr ⟨rfl, rfl, rfl⟩⟩
  ·exact ⟨q, hq, Or.inl rfl⟩
 refine ⟨H.bel, H.hB, H.alt, H.a0, H.a1, H.acell, H.k0, H.glob, H.klt, ⟨H.kp.base, H.kp.keep, H.kp.wr, fun r' q m sz cap hq hκ hc hz => ?_, H.kp.mks, H.kp.nd, H.kp.kb, H.kp.kk, H.kp.zk, H.kp.mk0, fun g => ⟨(H.kp.gk g).1, (H.kp.gk g).2.1, fun q hq => ?_⟩⟩, fun r' q hq hκ => ?_, fun r1 r2 q1 q2 m1 m2 s1 s2 c1 c2 hne h1 h2 => ?_⟩
 ·obtain ⟨q0, h1, _⟩ := get r' q hq
  exact H.kp.own r' q0 m sz cap h1 hκ hc hz
 ·obtain ⟨q0, h1, h2⟩ := get 0 q hq
  have e := (H.kp.gk g).2.2 q0 h1;rcases h2 with rfl | ⟨_, rfl, rfl⟩
  ·exact e
  ·rw [hg _ e]; exact e
 ·obtain ⟨q0, h1, h2⟩ := get r' q hq
  rcases h2 with rfl | ⟨rfl, rfl, rfl⟩
  ·exact H.blk r' q h1 hκ
  ·obtain ⟨m, cap, g1, g2, g3, g4⟩ := H.blk r' q0 h1 hκ
   refine ⟨m, cap, by rw [hsz]; exact g1, by omega, fun e' he => ?_, ?_⟩
   ·obtain ⟨i, hi, rfl⟩ := List.getElem_of_mem he
    obtain ⟨e, e1, e2, e3, _⟩ := hel i _ (List.getElem?_eq_getElem hi);have := g3 e (List.mem_of_getElem? e1);rw [e2, e3, hsz, hagg]; exact this
   ·rcases g4 with g4 | ⟨c, ty, f1, f2, f3, f4, f5, f6, f7⟩
    ·exact Or.inl g4
    ·refine Or.inr ⟨c, ty, f1, f2, by rw [hsz]; exact f3, f4, fun i e' he j d' hd => ?_, f6, f7⟩
     rw [hsz];obtain ⟨e, e1, e2, e3, e4⟩ := hel i e' he;obtain ⟨d, d1, d2⟩ := e4 j d' hd;obtain ⟨u, t1, t2, t3⟩ := f5 i e e1 j d d1;exact ⟨u, t1, d2 u t2, t3⟩
 ·obtain ⟨p1, g1, _⟩ := get r1 q1 h1
  obtain ⟨p2, g2, _⟩ := get r2 q2 h2;exact H.excl r1 r2 p1 p2 m1 m2 s1 s2 c1 c2 hne g1 g2
def setC (b : Blk) (i c : Nat) (v : PV) : Blk := match b.els[i]? with
 | some (.agg cs) => ⟨b.els.set i (.agg (cs.set c v)), b.sz, b.agg⟩
 | _ => b
theorem LeS_nilB {G : Gl} {n0 : Nat} {s : St} {r i c sz : Nat} {agg : Bool} {b : Blk} {cs : List PV} (hb : s.h r = some b) (hi : b.els[i]? = some (.agg cs)) (hc : cs[c]? = some .nilsl) :
 LeS G n0 s ⟨s.t, hset (hset s.h s.nx (some ⟨[], sz, agg⟩)) r (some (setC b i c (.own s.nx 0 0))), s.z, s.nx + 1⟩ := by
 intro E N df a w A κ hE hR;have hf := hR.fresh s.nx (Nat.le_refl _);have hn : E.n0 ≤ s.nx := hR.n0;have hk := hf.2.2;have hle := zCZ (0, sz, 0) hk;have hrn : r < s.nx := Nat.lt_of_not_le fun e => by have := (hR.fresh r e).1; rw [this] at hb; cases hb
 have eset : setC b i c (.own s.nx 0 0) = ⟨b.els.set i (.agg (cs.set c (.own s.nx 0 0))), b.sz, b.agg⟩ := by unfold setC; rw [hi]
 have H1 := hR.hr.empty (sz := sz) (agg := agg) hn hk;have hb1 : hset s.h s.nx (some ⟨[], sz, agg⟩) r = some b := by simp only [hset, if_neg (show r ≠ s.nx by omega)]; exact hb
 have H2 : HR E G w A (kset κ s.nx (0, sz, 0)) (hset (hset s.h s.nx (some ⟨[], sz, agg⟩)) r (some (setC b i c (.own s.nx 0 0)))) s.z := by
  rw [eset];refine H1.retell hb1 rfl rfl (by simp) (fun j e' he => ?_) (fun k e => ?_)
  ·rw [List.getElem?_set] at he
   split at he
   ·rename_i e
    subst e
    split at he
    ·cases he
     refine ⟨_, hi, by simp [PV.cells], rfl, fun q d' hd => ?_⟩;simp only [PV.cells, List.getElem?_set] at hd
     split at hd
     ·rename_i e
      subst e
      split at hd
      ·cases hd
       refine ⟨_, hc, fun v hv => ?_⟩;rw [hv.nilsl_inv];exact zE0 (zA3 ..) none
      ·cases hd
     ·exact ⟨d', hd, fun _ h => h⟩
    ·cases he
   ·exact ⟨e', he, rfl, rfl, fun q d' hd => ⟨d', hd, fun _ h => h⟩⟩
  ·subst e
   match i, hi with
   | 0, hi => simp [gblk] at hi
   | i + 1, hi => simp [gblk] at hi
 refine ⟨A, kset κ s.nx (0, sz, 0), ⟨H2, fun q hq => ?_, Nat.le_succ_of_le hn, fun j hj => ?_, hR.size, hR.df⟩⟩
 ·have hq' : s.nx + 1 ≤ q := hq
  have hne : q ≠ s.nx := by omega
  have h := hR.fresh q (by omega);exact ⟨by simp only [hset, if_neg hne, if_neg (show q ≠ r by omega)]; exact h.1, h.2.1, by rw [zAP κ _ hne]; exact h.2.2⟩
 ·exact (hR.tm j hj).mono (fun _ h => h) (fun _ _ _ => rfl) hle
inductive Np where
 | sl (j : Nat)
 | cl (r i c : Nat)
def nilS : St → List (Np × Nat × Bool) → St
 | s, [] => s
 | ⟨t, h, z, nx⟩, (.sl j, sz, agg) :: l => nilS ⟨ts t j (.own nx 0 0), hs h nx (some ⟨[], sz, agg⟩), z, nx + 1⟩ l
 | ⟨t, h, z, nx⟩, (.cl r i c, sz, agg) :: l => (match h r with
   | some b => nilS ⟨t, hs (hs h nx (some ⟨[], sz, agg⟩)) r (some (setC b i c (.own nx 0 0))), z, nx + 1⟩ l
   | none => ⟨t, h, z, nx⟩)
def nilOk : St → List (Np × Nat × Bool) → Prop
 | _, [] => True
 | ⟨t, h, z, nx⟩, (.sl j, sz, agg) :: l => t j = .nilsl ∧ nilOk ⟨ts t j (.own nx 0 0), hs h nx (some ⟨[], sz, agg⟩), z, nx + 1⟩ l
 | ⟨t, h, z, nx⟩, (.cl r i c, sz, agg) :: l => ∃ b cs, h r = some b ∧ b.els[i]? = some (.agg cs) ∧ cs[c]? = some .nilsl ∧ nilOk ⟨t, hs (hs h nx (some ⟨[], sz, agg⟩)) r (some (setC b i c (.own nx 0 0))), z, nx + 1⟩ l
theorem zK4 {G : Gl} {n0 : Nat} : ∀ {N : List (Np × Nat × Bool)} {s s' : St}, nilOk s N → LeS G n0 (nilS s N) s' → LeS G n0 s s'
 | [], ⟨t, h, z, nx⟩, s', _, hl => hl
 | (.sl j, sz, agg) :: l, ⟨t, h, z, nx⟩, s', hN, hl => by
   have h1 := LeS_nil (G := G) (n0 := n0) (s := ⟨t, h, z, nx⟩) (sz := sz) (agg := agg) hN.1;refine h1.trans ?_;have h2 := zK4 (N := l) hN.2 hl;rw [ts_eq, zGJ] at h2;exact h2
 | (.cl r i c, sz, agg) :: l, ⟨t, h, z, nx⟩, s', hN, hl => by
   obtain ⟨b, cs, g1, g2, g3, g4⟩ := hN;have h1 := LeS_nilB (G := G) (n0 := n0) (s := ⟨t, h, z, nx⟩) (sz := sz) (agg := agg) g1 g2 g3;refine h1.trans ?_;unfold nilS at hl;rw [g1] at hl;have h2 := zK4 (N := l) g4 hl;rw [zGJ, zGJ] at h2;exact h2
section
variable {P : Program} {T : Ti} {G : Gl} {n0 : Nat}
theorem tellV {K : St → Prop} {Q : Exit → St → Prop} {s : St} (N : List (Np × Nat × Bool)) (L : List (Nat × PV)) (H : List (Nat × Blk)) (Z : List Nat) (k : Nat) (hk : n0 ≤ k) (hZ : ∀ r ∈ Z, r < k) (hN : nilOk s N) (hs : Kept n0 (nilS s N) L H Z k)
 (h : K ⟨sv L, hv H, zv Z, k⟩) : thenL (LeS G, n0) K Q .normal s := tell_to (zK4 hN (hs.le hk hZ)) (by rw [← sv_eq, ← hv_eq, ← zv_eq]; exact h)
theorem zDR (hT : ∀ i x, T i = some x → tinfo P i = x) {c : Code} {Q : Exit → St → Prop} {s : St} {ι : Type} (N : List (Np × Nat × Bool)) (L : ι → List (Nat × PV)) (H : ι → List (Nat × Blk)) (Z : List Nat) (k : Nat) (Inv : ι → Prop) (μ : ι → Nat) (i0 : ι) (h0 : Inv i0) (hk : n0 ≤ k) (hZ : ∀ r ∈ Z, r < k)
 (hN : nilOk s N) (hs : Kept n0 (nilS s N) (L i0) (H i0) Z k)
 (round : ∀ i, Inv i → VC P T G n0 c (thenQ (fun s' => ∃ i', (Inv i' ∧ μ i' < μ i) ∧ Kept n0 s' (L i') (H i') Z k) Q) ⟨sv (L i), hv (H i), zv Z, k⟩) :
 loopV P G (FnC P G) (FnH P G) (LeS G, n0) c Q s := by
 unfold loopV;refine zIT L H (fun _ => Z) k Inv μ i0 h0 (zK4 hN (hs.le hk hZ)) fun i hi => ?_
 have := round i hi;rw [sv_eq, hv_eq, zv_eq] at this
 exact zMP hT (fun e s h => by
  cases e <;> first | (obtain ⟨i', ⟨h1, h2⟩, h3⟩ := h; exact ⟨i', h1, h2, h3.le hk hZ⟩) | exact h) this
theorem LeS_trunc {G : Gl} {n0 : Nat} {s : St} {r n : Nat} {b : Blk} (hb : s.h r = some b) (hg : ∀ i, b ≠ gblk i) : LeS G n0 s { s with h := hset s.h r (some ⟨b.els.take n, b.sz, b.agg⟩) } := by
 intro E N df a w A κ hn hR
 have get : ∀ (i : Nat) (e' : PV), (b.els.take n)[i]? = some e' → b.els[i]? = some e' := fun i e' he => by
  rw [List.getElem?_take] at he
  split at he
  ·exact he
  ·cases he
 refine ⟨A, κ, ⟨hR.hr.retell hb rfl rfl (by simp only [List.length_take]; omega) (fun i e' he => ⟨e', get i e' he, rfl, rfl, fun j d' hd => ⟨d', hd, fun v h => h⟩⟩) (fun i e => absurd e (hg i)), fun r' hr' => ?_, hR.n0, hR.tm, hR.size, hR.df⟩⟩;obtain ⟨q1, q2, q3⟩ := hR.fresh r' hr';refine ⟨?_, q2, q3⟩;show hset s.h r _ r' = none
 unfold hset;rw [if_neg (fun e => by rw [e, hb] at q1; cases q1)];exact q1
theorem tellT {G : Gl} {n0 : Nat} {K : St → Prop} {Q : Exit → St → Prop} {t : Tm} {h : Hp} {z : Fz} {nx : Nat} {b : Blk} (r n : Nat) (hb : h r = some b) (hg : ∀ i, b ≠ gblk i)
 (hk : thenL (LeS G, n0) K Q .normal ⟨t, hs h r (some ⟨b.els.take n, b.sz, b.agg⟩), z, nx⟩) : thenL (LeS G, n0) K Q .normal ⟨t, h, z, nx⟩ := by
 unfold thenL at hk;obtain ⟨s', h1, h2⟩ := hk;rw [zGJ] at h1;exact tell_to ((LeS_trunc (s := ⟨t, h, z, nx⟩) hb hg).trans h1) h2
end
end Go.PI
namespace Go.PI
theorem r_cut {P : Program} {T : Ti} {G : Gl} {C : Contracts} {I : Inline} {Le : LeT} {Q : Exit → St → Prop} {a b : Code} {s : St} (M : St) (h2 : vc P T G C I Le b Q M) (h1 : vc P T G C I Le b Q M → vc P T G C I Le a (thenL Le (vc P T G C I Le b Q) Q) s) : vc P T G C I Le (.seq a b) Q s := h1 h2
theorem r_cutP {P : Program} {T : Ti} {G : Gl} {C : Contracts} {I : Inline} {Le : LeT} {Q : Exit → St → Prop} {a b : Code} {s : St} (M : St) (X : Prop) (h2 : X → vc P T G C I Le b Q M) (h1 : (X → vc P T G C I Le b Q M) → vc P T G C I Le a (thenL Le (vc P T G C I Le b Q) Q) s) : vc P T G C I Le (.seq a b) Q s := h1 h2
end Go.PI
namespace Go.PI
theorem stn {p q : Prop} (h : q) (e : Hq q → p := by
 intro hq
 (first
   | (with_reducible first | refine r_op ?_ | refine r_seq ?_ | refine zBC ?_ | refine zIC ?_ | refine r_nil ?_ | refine zEI ?_ | refine zGH ?_ | refine zIG ?_ | refine zIE ?_ | refine r_ret ?_ | refine zEG ?_ | refine zGF ?_ | refine r_inR ?_ | refine r_inN ?_ | refine zIF ?_ | refine zEH ?_ | refine zGG ?_ | refine r_inE ?_ | refine zID ?_)
   | ((conv => whnf); first
     | with_reducible refine Next.mk ?_
     | with_reducible refine zEB (fun _ => ⟨rfl, rfl⟩) rfl ?_
     | with_reducible refine zCF (fun _ => ⟨rfl, rfl⟩) rfl ?_
     | with_reducible refine zEB zCX rfl ?_
     | with_reducible refine zCF zCX rfl ?_
     | (with_reducible refine zA9 ?_ ?_; · (first | omega | (simp only [List.length_append, List.length_map, List.length_nil, List.length_cons, List.length_replicate, List.length_take, List.length_drop, true_and, and_true]; omega) | (simp only [List.length_append, List.length_map, List.length_nil, List.length_cons, List.length_replicate]; done)))
     | (with_reducible refine zMS ?_ ?_; · (first | omega | (simp only [List.length_append, List.length_map, List.length_nil, List.length_cons, List.length_replicate, List.length_take, List.length_drop, true_and, and_true]; omega) | (simp only [List.length_append, List.length_map, List.length_nil, List.length_cons, List.length_replicate]; done)))
     | (with_reducible refine zC1 ?_ ?_; · omega)
     | (with_reducible refine zGY ?_ ?_; · omega)
     | with_reducible refine zGN ?_
     | with_reducible refine zCC (fun _ => rfl) ?_
     | with_reducible refine zCC (fun x => (zCX x).1) ?_
     | (with_reducible refine oK_node rfl ?_ ?_; · omega)
     | (with_reducible refine oK_node0 ?_ ?_; · omega)
     | (with_reducible refine oK_node1 ?_ ?_; · omega)
     | (with_reducible refine zGI ?_ ?_; · omega)
     | (with_reducible refine zAY rfl ?_ ?_; · omega)))
 repeat (first
  | (with_reducible first | refine r_op ?_ | refine r_seq ?_ | refine zBC ?_ | refine zIC ?_ | refine r_nil ?_ | refine zEI ?_ | refine zGH ?_ | refine zIG ?_ | refine zIE ?_ | refine r_ret ?_ | refine zEG ?_ | refine zGF ?_ | refine r_inR ?_ | refine r_inN ?_ | refine zIF ?_ | refine zEH ?_ | refine zGG ?_ | refine r_inE ?_ | refine zID ?_)
  | ((conv => whnf); first
    | with_reducible refine Next.mk ?_
    | with_reducible refine zEB (fun _ => ⟨rfl, rfl⟩) rfl ?_
    | with_reducible refine zCF (fun _ => ⟨rfl, rfl⟩) rfl ?_
    | with_reducible refine zEB zCX rfl ?_
    | with_reducible refine zCF zCX rfl ?_
    | (with_reducible refine zA9 ?_ ?_; · (first | omega | (simp only [List.length_append, List.length_map, List.length_nil, List.length_cons, List.length_replicate, List.length_take, List.length_drop, true_and, and_true]; omega) | (simp only [List.length_append, List.length_map, List.length_nil, List.length_cons, List.length_replicate]; done)))
    | (with_reducible refine zMS ?_ ?_; · (first | omega | (simp only [List.length_append, List.length_map, List.length_nil, List.length_cons, List.length_replicate, List.length_take, List.length_drop, true_and, and_true]; omega) | (simp only [List.length_append, List.length_map, List.length_nil, List.length_cons, List.length_replicate]; done)))
    | (with_reducible refine zC1 ?_ ?_; · omega)
    | (with_reducible refine zGY ?_ ?_; · omega)
    | with_reducible refine zGN ?_
    | with_reducible refine zCC (fun _ => rfl) ?_
    | with_reducible refine zCC (fun x => (zCX x).1) ?_
    | (with_reducible refine oK_node rfl ?_ ?_; · omega)
    | (with_reducible refine oK_node0 ?_ ?_; · omega)
    | (with_reducible refine oK_node1 ?_ ?_; · omega)
    | (with_reducible refine zGI ?_ ?_; · omega)
    | (with_reducible refine zAY rfl ?_ ?_; · omega)))
 (try (conv => whnf))
 exact hq.h) : p := e ⟨h⟩
theorem sns {p q : Prop} (h : q) (e : Hq q → p := by
 intro hq
 repeat (first
  | (with_reducible first | refine r_op ?_ | refine r_seq ?_ | refine zBC ?_ | refine zIC ?_ | refine r_nil ?_ | refine zEI ?_ | refine zGH ?_ | refine zIG ?_ | refine zIE ?_ | refine r_ret ?_ | refine zEG ?_ | refine zGF ?_ | refine r_inR ?_ | refine r_inN ?_ | refine zIF ?_ | refine zEH ?_ | refine zGG ?_ | refine r_inE ?_ | refine zID ?_)
  | ((conv => whnf); first
    | with_reducible refine Next.mk ?_
    | with_reducible refine zEB (fun _ => ⟨rfl, rfl⟩) rfl ?_
    | with_reducible refine zCF (fun _ => ⟨rfl, rfl⟩) rfl ?_
    | with_reducible refine zEB zCX rfl ?_
    | with_reducible refine zCF zCX rfl ?_
    | (with_reducible refine zA9 ?_ ?_; · (first | omega | (simp only [List.length_append, List.length_map, List.length_nil, List.length_cons, List.length_replicate, List.length_take, List.length_drop, true_and, and_true]; omega) | (simp only [List.length_append, List.length_map, List.length_nil, List.length_cons, List.length_replicate]; done)))
    | (with_reducible refine zMS ?_ ?_; · (first | omega | (simp only [List.length_append, List.length_map, List.length_nil, List.length_cons, List.length_replicate, List.length_take, List.length_drop, true_and, and_true]; omega) | (simp only [List.length_append, List.length_map, List.length_nil, List.length_cons, List.length_replicate]; done)))
    | (with_reducible refine zC1 ?_ ?_; · omega)
    | (with_reducible refine zGY ?_ ?_; · omega)
    | with_reducible refine zGN ?_
    | with_reducible refine zCC (fun _ => rfl) ?_
    | with_reducible refine zCC (fun x => (zCX x).1) ?_
    | (with_reducible refine oK_node rfl ?_ ?_; · omega)
    | (with_reducible refine oK_node0 ?_ ?_; · omega)
    | (with_reducible refine oK_node1 ?_ ?_; · omega)
    | (with_reducible refine zGI ?_ ?_; · omega)
    | (with_reducible refine zAY rfl ?_ ?_; · omega)))
 (try (conv => whnf))
 exact hq.h) : p := e ⟨h⟩
end Go.PI
namespace Go.PI
section
variable {P : Program} {T : Ti} {G : Gl} {n0 : Nat} {C : Contracts}
theorem fnH_peek {f : FuncId} {args ds : List PV} {ks : List Nat} {b : Bool} {K : PV → St → Prop} {s : St} (hC : FnC P G f ds (.data (.bool b))) (hf : mapF (frz s.h 6) args = some (ds, ks)) (hk : K (.bool b) s) : FnH P G f args K s := by
 refine ⟨hC.1, fun E w A κ vs hn hκ hA hw H hfr hvs => ?_⟩;have hRD := zKW H hf hvs;have hHf := H.freeze (zBR hf);have hcall := hC.2 w _ _ hHf.alt hHf.gok hRD;refine hcall.mono fun e w' ⟨v', he, hb, hh⟩ => ?_
 have hv : v' = .bool b := (RV.data (κ := κ) _ _ hh).bool_inv;subst hv;exact ⟨_, .bool b, _, κ, s, he, H.after hb (X := fun _ => False) (fun b h => h.elim), hfr, Nat.le_refl _, .data _ _ (.bool b), hk⟩
theorem zJY {f : FuncId} {args ds : List PV} {ks : List Nat} {b : Bool} {d : Option Nat} {K : FP → St → Prop} {t : Tm} {h : Hp} {z : Fz} {nx : Nat}
 (hC : FnC P G f ds (.data (.bool b))) (hf : mapF (frz h 6) args = some (ds, ks)) (hk : backV K t d (.bool b) h z nx ⟨[], [], []⟩) : callV C (FnH P G) false f args d K ⟨t, h, z, nx⟩ :=
 zF8 (fnH_peek hC hf hk)
end
end Go.PI
namespace Go.PI
open Go.RowKit
theorem HR.rename {E : Env} {G : Gl} {w : World} {A : Nat → Prop} {κ : Ka} {h : Hp} {z : Fz} (H0 : HR E G w A κ h z) {n k : Nat} {κ0 : Ka} {H : List (Nat × Blk)} {Z : List Nat} (ρ : Nat → Nat)
 (hρ : ∀ r, r < n → (if r < k then κ (ρ r) else none) = κ0 r)
 (hH : ∀ q ∈ H, q.1 < k ∧ (∀ e ∈ q.2.els, e ≠ .any) ∧ ∃ b, h (ρ q.1) = some b ∧ rnB ρ k q.2 b ∧ zl Z q.1 = z (ρ q.1))
 (hinj : ∀ p ∈ H, ∀ q ∈ H, p.1 ≠ q.1 → ρ p.1 ≠ ρ q.1) : HR { E with n0 := n, κ0 := κ0, gh := false } G w A (fun r => if r < k then κ (ρ r) else none) (hl H) (zl Z) := by
 let κ' : Ka := fun r => if r < k then κ (ρ r) else none
 have hk' : ∀ r, r < k → κ' r = κ (ρ r) := fun r hr => by simp [κ', hr]
 show HR { E with n0 := n, κ0 := κ0, gh := false } G w A κ' (hl H) (zl Z)
 refine ⟨H0.bel, H0.hB, H0.alt, H0.a0, H0.a1, H0.acell, fun r hr => ?_, fun g e hg => ?_, fun r m sz cap hr => ?_, ⟨H0.kp.base, H0.kp.keep, H0.kp.wr, fun r b' m sz cap hb hκ hc hz => ?_, H0.kp.mks, H0.kp.nd, H0.kp.kb, H0.kp.kk, H0.kp.zk, H0.kp.mk0, fun hg => Bool.noConfusion hg⟩, fun r b' hb hκ => ?_, fun r r' b b' m m' s1 s2 c c' hne hr hr' h1 h2 hc hc' => ?_⟩
 ·exact hρ r hr
 ·obtain ⟨b, o, val, hv, h1, h2, h3⟩ := (H0.glob g e hg).cptr_inv
  rw [hv]; exact .data _ _ (.cptr e 0 b o val h1 h2 h3)
 ·by_cases hlt : r < k
  ·rw [hk' r hlt] at hr; exact H0.klt (ρ r) m sz cap hr
  ·simp [κ', hlt] at hr
 ·obtain ⟨h1, _, b, h2, _, h5⟩ := hH _ (zDO hb)
  rw [hk' r h1] at hκ;exact H0.kp.own _ b m sz cap h2 hκ hc (by rw [← h5]; exact hz)
 ·obtain ⟨h1, hany, b, h2, ⟨h3, h3', h4⟩, h5⟩ := hH _ (zDO hb)
  obtain ⟨m, cap, g1, g2, g3, g4⟩ := H0.blk _ b h2 (by rw [← hk' r h1]; exact hκ)
  have hlen : b'.els.length = b.els.length := by
   rcases h4 with h | h
   ·rw [h.1]
   ·exact (zD9 h).1
  refine ⟨m, cap, by rw [hk' r h1, g1, h3], by omega, fun e he => ?_, ?_⟩
  ·rcases h4 with h | h
   ·rw [h3, h3']; exact g3 e (by rw [← h.1]; exact he)
   ·obtain ⟨i, hi, rfl⟩ := List.getElem_of_mem he
    obtain ⟨y, hy, hxy⟩ := (zD9 h).2 i _ (List.getElem?_eq_getElem hi);obtain ⟨c1, c2, _⟩ := zKM hxy (hany _ he);have := g3 y (List.mem_of_getElem? hy);rw [h3, h3', c1, c2]; exact this
  ·rcases g4 with g4 | ⟨c, ty, f1, f2, f3, f4, f5, f6, f7⟩
   ·exact Or.inl g4
   ·refine Or.inr ⟨c, ty, f1, f2, by rw [h3]; exact f3, f4, fun i e he j x hx => ?_, fun hz => f6 (by rw [← h5]; exact hz), fun hz => f7 (by rw [← h5]; exact hz)⟩
    rw [h3];rcases h4 with h | h
    ·rw [h.1] at he
     obtain ⟨v, q1, q2, q3⟩ := f5 i e he j x hx;refine ⟨v, q1, ?_, q3⟩;have hnr := h.2 e (List.mem_of_getElem? he)
     have hnx : ∃ n, nr n x = true := by
      cases e with
      | agg cs =>
        simp only [nr, List.all_eq_true] at hnr;exact ⟨2, hnr x (List.mem_of_getElem? hx)⟩
      | _ =>
        simp only [PV.cells] at hx;cases j with
        | zero => simp at hx; subst hx; exact ⟨3, hnr⟩
        | succ j => simp at hx
     obtain ⟨n, hn⟩ := hnx;exact RV.nr_any n x v hn q2
    ·obtain ⟨y, hy, hxy⟩ := (zD9 h).2 i e he
     obtain ⟨_, _, c3⟩ := zKM hxy (hany _ (List.mem_of_getElem? he));obtain ⟨m', y', hy', hr'⟩ := c3 j x hx;obtain ⟨v, q1, q2, q3⟩ := f5 i y hy j y' hy';exact ⟨v, q1, RV.rn hk' m' x y' v hr' q2, q3⟩
 ·obtain ⟨p1, _, bp, p2, _, _⟩ := hH _ (zDO hr)
  obtain ⟨q1, _, bq, q2, _, _⟩ := hH _ (zDO hr');rw [hk' r p1] at h1;rw [hk' r' q1] at h2;exact H0.excl _ _ bp bq m m' _ _ _ _ (hinj _ (zDO hr) _ (zDO hr') hne) p2 q2 h1 h2 hc hc'
theorem HR.fromHere {E : Env} {G : Gl} {w : World} {A : Nat → Prop} {κ : Ka} {h : Hp} {z : Fz} (H : HR E G w A κ h z) : HR { E with kw := w } G w A κ h z :=
 ⟨H.bel, H.hB, H.alt, H.a0, H.a1, H.acell, H.k0, H.glob, H.klt, ⟨H.kp.base, H.kp.keep, H.kp.wr, H.kp.own, H.kp.mks, H.kp.nd, Below.refl _ _, fun b hb => ⟨(H.kp.kk b hb).1, rfl, (H.kp.kk b hb).2.2⟩, H.kp.zk, H.kp.mk0, H.kp.gk⟩, H.blk, H.excl⟩
section
variable {P : Program} {G : Gl}
theorem fnH_re {f : FuncId} {args args' : List PV} {K0 K : PV → St → Prop} {t t' : Tm} {h : Hp} {z : Fz} {nx k0 : Nat} {H0 : List (Nat × Blk)} {Z0 : List Nat} (ρ : Nat → Nat)
 (hF : FnH P G f args' K0 ⟨t', hl H0, zl Z0, k0⟩) (hl0 : args'.length = args.length) (hA : ∀ (i : Nat) d', args'[i]? = some d' → ∃ d, args[i]? = some d ∧ rn ρ k0 3 d' d)
 (hH0 : ∀ q ∈ H0, q.1 < k0 ∧ (∀ e ∈ q.2.els, e ≠ .any) ∧ ∃ b, h (ρ q.1) = some b ∧ rnB ρ k0 q.2 b ∧ zl Z0 q.1 = z (ρ q.1)) (hZ0 : ∀ r ∈ Z0, r < k0)
 (hinj0 : ∀ p ∈ H0, ∀ q ∈ H0, p.1 ≠ q.1 → ρ p.1 ≠ ρ q.1) (hg : ∃ b, h 0 = some b ∧ ∀ i, b ≠ gblk i)
 (hK : ∀ pv s', K0 pv s' → ∃ (bv : Bool) (H : List (Nat × Blk)) (Z : List Nat) (k : Nat) (σ : Nat → Nat), pv = .bool bv ∧ nx ≤ k ∧ (∀ r, r < nx → (σ r < k0 ∧ ρ (σ r) = r) ∨ s'.nx ≤ σ r) ∧
   (∀ q ∈ H, q.1 < k ∧ (∀ e ∈ q.2.els, e ≠ .any) ∧ ∃ b, s'.h (σ q.1) = some b ∧ rnB σ k q.2 b ∧ zl Z q.1 = s'.z (σ q.1)) ∧ (∀ r ∈ Z, r < k) ∧ (∀ p ∈ H, ∀ q ∈ H, p.1 ≠ q.1 → σ p.1 ≠ σ q.1) ∧ K (.bool bv) ⟨fun _ => .any, hl H, zl Z, k⟩) :
 FnH P G f args K ⟨t, h, z, nx⟩ := by
 refine ⟨hF.1, fun E w A κ vs hn hκ hA0 hw H hfr hvs => ?_⟩;simp only at hn H hfr
 have gh : E.gh = false := by
  cases e : E.gh with
  | false => rfl
  | true =>
    obtain ⟨b, hb, hb2⟩ := hg;exact absurd ((H.kp.gk e).2.2 b hb) (hb2 _)
 obtain ⟨κ1, hκ1⟩ : ∃ κ1 : Ka, κ1 = fun r => if r < k0 then κ (ρ r) else none := ⟨_, rfl⟩
 have hk1 : ∀ r, r < k0 → κ1 r = κ (ρ r) := fun r hr => by rw [hκ1]; simp [hr]
 have H1 : HR { E with n0 := k0, κ0 := κ1, gh := false } G w A κ1 (hl H0) (zl Z0) := by
  rw [hκ1];exact H.rename ρ (fun r hr => rfl) hH0 hinj0
 have hfr1 : Fresh k0 κ1 (hl H0) (zl Z0) := fun r hr => by
  refine ⟨?_, ?_, by rw [hκ1]; simp only [if_neg (Nat.not_lt.2 hr)]⟩
  ·cases hb : hl H0 r with
   | none => rfl
   | some b => have := (hH0 _ (zDO hb)).1; simp only at this; omega
  ·show Z0.contains r = false
   refine contains_false.2 fun hm => ?_
   have := hZ0 r hm;omega
 have hvs1 : RVs w A κ1 args' vs := by
  refine ⟨hl0.trans hvs.1, fun i d' hd => ?_⟩;obtain ⟨d, h1, h2⟩ := hA i d' hd;exact RV.rn hk1 3 _ _ _ h2 (hvs.2 i d h1)
 have hcall := hF.2 { E with n0 := k0, κ0 := κ1, gh := false, kw := w } w A κ1 vs rfl rfl hA0 hw H1.fromHere hfr1 hvs1;refine hcall.mono fun e w' ⟨v, pv, A', κ', s', he, H2, hfr2, hnx, hpv, hk⟩ => ?_
 obtain ⟨bv, Hn, Z, k, σ, hb, hnk, hσ, hHn, hZ, hinj, hKK⟩ := hK pv s' hk;subst hb;simp only at hnx;have hk0 : ∀ r, r < k0 → κ' r = κ1 r := fun r hr => H2.k0 r hr
 obtain ⟨κ2, hκ2⟩ : ∃ κ2 : Ka, κ2 = fun r => if r < k then κ' (σ r) else none := ⟨_, rfl⟩
 have H3 : HR { E with n0 := 0, κ0 := κ, gh := false, kw := w } G w' A' κ2 (hl Hn) (zl Z) := by
  rw [hκ2];exact H2.rename σ (n := 0) (κ0 := κ) (fun r hr => by cases hr) hHn hinj
 obtain ⟨κ3, hκ3⟩ : ∃ κ3 : Ka, κ3 = fun r => if r < nx then κ r else κ2 r := ⟨_, rfl⟩
 have low : ∀ r, r < nx → κ3 r = κ r := fun r hr => by rw [hκ3]; simp [hr]
 have high : ∀ r, ¬ r < nx → κ3 r = κ2 r := fun r hr => by rw [hκ3]; simp [hr]
 have two : ∀ r, r < nx → κ2 r = κ r ∨ κ2 r = none := fun r hr => by
  rw [hκ2];simp only [if_pos (Nat.lt_of_lt_of_le hr hnk)];rcases hσ r hr with ⟨h1, h2⟩ | h1
  ·left; rw [hk0 _ h1, hk1 _ h1, h2]
  ·right; exact (hfr2 _ h1).2.2
 have mono : ∀ r x, κ2 r = some x → κ3 r = some x := fun r x hx => by
  by_cases hr : r < nx
  ·rw [low r hr]
   rcases two r hr with h1 | h1
   ·rw [← h1]; exact hx
   ·rw [h1] at hx; cases hx
  ·rw [high r hr]; exact hx
 have same : ∀ r b, hl Hn r = some b → κ3 r = κ2 r := fun r b hb => by
  by_cases hr : r < nx
  ·obtain ⟨h1, _, b', h2, _⟩ := hHn _ (zDO hb)
   rcases hσ r hr with ⟨q1, q2⟩ | q1
   ·rw [low r hr, hκ2]
    simp only at h1;simp only [if_pos h1];rw [hk0 _ q1, hk1 _ q1, q2]
   ·rw [(hfr2 _ q1).1] at h2; cases h2
  ·exact high r hr
 have grow : w.heap.size ≤ w'.heap.size := H3.kp.kb.size;have mv : ∀ {d v}, RV w' A' κ2 d v → RV w' A' κ3 d v := fun hv => hv.mono (fun _ h => h) (fun _ _ _ => rfl) mono
 refine ⟨v, .bool bv, A', κ3, _, he, ?_, fun r hr => ?_, hnk, ?_, hKK⟩
 ·refine ⟨H3.bel, H3.hB, H3.alt, H3.a0, H3.a1, H3.acell, fun r hr => ?_, fun g e hg => mv (H3.glob g e hg), fun r m sz cap hr => ?_, ⟨H3.kp.base, H3.kp.keep, H3.kp.wr, fun r b m sz cap hb hκ' hc hz => ?_, H3.kp.mks, H3.kp.nd, H.kp.kb.trans H3.kp.kb, fun b hb => ?_, H3.kp.zk, H3.kp.mk0, fun hg' => by rw [gh] at hg'; cases hg'⟩, fun r b hb hκ' => ?_, fun r r' b b' m m' s1 s2 c c' hne hr hr' h1 h2 hc hc' => ?_⟩
  ·rw [low r (by omega), hκ]
  ·by_cases hr2 : r < nx
   ·rw [low r hr2] at hr
    rcases H.klt r m sz cap hr with h1 | h1
    ·exact Or.inl h1
    ·exact Or.inr (Nat.lt_of_lt_of_le h1 grow)
   ·rw [high r hr2] at hr; exact H3.klt r m sz cap hr
  ·rw [same r b hb] at hκ'; exact H3.kp.own r b m sz cap hb hκ' hc hz
  ·obtain ⟨a1, a2, a3⟩ := H3.kp.kk b hb
   exact ⟨a1, a2.trans (H.kp.kk b hb).2.1, a3⟩
  ·rw [same r b hb] at hκ'
   obtain ⟨m, cap, g1, g2, g3, g4⟩ := H3.blk r b hb hκ';refine ⟨m, cap, by rw [same r b hb]; exact g1, g2, g3, ?_⟩;rcases g4 with g4 | ⟨c, ty, f1, f2, f3, f4, f5, f6, f7⟩
   ·exact Or.inl g4
   ·exact Or.inr ⟨c, ty, f1, f2, f3, f4, fun i e he => (f5 i e he).mono (fun _ h => h) (fun _ _ _ => rfl) mono, f6, f7⟩
  ·rw [same r b hr] at h1
   rw [same r' b' hr'] at h2;exact H3.excl r r' b b' m m' s1 s2 c c' hne hr hr' h1 h2 hc hc'
 ·have hr' : k ≤ r := hr
  refine ⟨?_, ?_, ?_⟩
  ·cases hb : hl Hn r with
   | none => exact hb
   | some b => have := (hHn _ (zDO hb)).1; simp only at this; omega
  ·show Z.contains r = false
   refine contains_false.2 fun hm => ?_
   have := hZ r hm;omega
  ·rw [high r (by omega), hκ2]; simp only [if_neg (Nat.not_lt.2 hr')]
 ·rw [hpv.bool_inv]; exact .data _ _ (.bool bv)
end
end Go.PI
namespace Go.PI
instance dec_okT (ts : List TermL) (n : Int) (i : Nat) : Decidable (okT ts n i) := by unfold okT; exact inferInstance
instance dec_ValidF (f : AffL) (n : Int) : Decidable (ValidF f n) := by unfold ValidF; exact inferInstance
instance dec_VaG (g : GraL) : Decidable (VaG g) := by unfold VaG; exact inferInstance
instance dec_smF (f : AffL) : Decidable (smF f) := by unfold smF; exact inferInstance
instance dec_smFs (l : List AffL) (m : Int) : Decidable (smFs l m) := by unfold smFs; exact inferInstance
instance dec_smG (g : GraL) : Decidable (smG g) := by unfold smG; exact inferInstance
def eqQF (a b : QF) : Bool := decide (a.ts = b.ts) && decide (a.c = b.c)
theorem eqQF_of {a b : QF} (h : eqQF a b = true) : a = b := by
 cases a; cases b; simp only [eqQF, Bool.and_eq_true, decide_eq_true_eq] at h; obtain ⟨rfl, rfl⟩ := h; rfl
def E1 : QF := ⟨[(0, 1)], 0⟩
def E2 : QF := ⟨[(0, -1)], 1⟩
def E3 : QF := ⟨[(1, 2), (2, 1)], 0⟩
theorem sz1 (z : Int) (h : z.natAbs < 4294967296) : sz 2 (z : Rat) := zC9 (by decide) (zCL h)
theorem one_szF (v z c : Int) (h1 : z.natAbs < 4294967296) (h2 : c.natAbs < 4294967296) : szF 2 ⟨[(v, (z : Rat))], (c : Rat)⟩ := ⟨sz1 c h2, fun p hp => by rw [List.mem_singleton.1 hp]; exact sz1 z h1⟩
theorem Q_L (f : QF) : f.L.Q = f := by
 unfold QF.L AffL.Q;simp only [List.map_map, zBA];rw [show ((fun t : TermL => (t.var, qv t.coef)) ∘ tQ) = id from by funext t; simp [tQ, zBA], List.map_id]
end Go.PI
namespace Go.PI
instance dec_okBd (r : RegL) (i : Nat) : Decidable (okBd r i) := by unfold okBd; exact inferInstance
instance dec_VaR (r : RegL) (n : Int) : Decidable (VaR r n) := by unfold VaR; exact inferInstance
instance dec_VaQ (q : QryL) : Decidable (VaQ q) := by unfold VaQ; exact inferInstance
instance dec_RatZ (r : RatL) : Decidable (RatZ r) := by unfold RatZ; exact inferInstance
instance dec_CanR (r : RatL) : Decidable (CanR r) := by unfold CanR; exact inferInstance
instance dec_fitD (q : QryL) (d : DecL) : Decidable (fitD q d) := by unfold fitD; exact inferInstance
instance dec_lessR (a b : RowL) : Decidable (lessR a b) := by unfold lessR; exact inferInstance
instance dec_okM1 (S : ScpL) (l : List MultL) (k : Nat) : Decidable (okM1 S l k) := by unfold okM1; exact inferInstance
instance dec_okM (S : ScpL) (l : List MultL) (i : Nat) : Decidable (okM S l i) := by unfold okM; exact inferInstance
instance dec_prvP (S : ScpL) (f : QF) (l : List MultL) : Decidable (prvP S f l) := by unfold prvP; exact inferInstance
def zD : DecL := ⟨0, 0, ⟨false, [], []⟩⟩
theorem mm2 (a b : Int) : ∀ m ∈ [(⟨⟨a, 0, 0, 0⟩, cr 1⟩ : MultL), ⟨⟨b, 0, 0, 0⟩, cr 1⟩], ∃ k, m = ⟨⟨k, 0, 0, 0⟩, cr 1⟩ := fun m hm => by
 rcases List.mem_cons.1 hm with rfl | hm
 ·exact ⟨_, rfl⟩
 ·rw [List.mem_singleton.1 hm]; exact ⟨_, rfl⟩
theorem mm1 (a : Int) : ∀ m ∈ [(⟨⟨a, 0, 0, 0⟩, cr 1⟩ : MultL)], ∃ k, m = ⟨⟨k, 0, 0, 0⟩, cr 1⟩ := fun m hm => by rw [List.mem_singleton.1 hm]; exact ⟨_, rfl⟩
def leafP (l : List MultL) : NodeL := .mk [] zD [] false l
def mE (k : Int) : MultL := ⟨⟨k, 0, 0, 0⟩, cr 1⟩
def dE : DecL := ⟨1, 0, ⟨false, [], []⟩⟩
def qE : QryL := ⟨⟨1, [(varQ 0).L], [(varQ 1).L]⟩, ⟨[cr (-1)], [cr 1], []⟩, (mergeQ (numQ' 1) (varQ 1) (-1)).L⟩
def nE : NodeL := .mk [] dE [leafP [mE 2, mE 8], leafP [mE 10]] false []
def wE : NodeL := leafP [mE 5]
theorem qE_ok : VaQ qE := by decide +kernel
theorem goalE : qE.goal.Q = ⟨[(1, -1)], 1⟩ := by
 unfold qE; simp only [Q_L]; exact eqQF_of (by decide +kernel)
theorem zLW : nE.kids = [leafP [mE 2, mE 8], leafP [mE 10]] := rfl
theorem nE_right : rightP ⟨qE, [], []⟩ nE := ⟨fun i hi => absurd hi (by show ¬ i < 0; omega), by rw [if_neg (by decide)]; show fitD qE dE; decide +kernel⟩
theorem zNH {S : ScpL} {l : List MultL} (h : prvP S S.q.goal.Q l) : rightP S (leafP l) := by
 refine ⟨fun i hi => absurd hi (by show ¬ i < 0; omega), ?_⟩;rw [if_pos (show (leafP l).kids.length = 0 from rfl), if_neg (show ¬ ((leafP l).empty = true) by show ¬ (false = true); decide)];have e : scpL S (leafP l).lemmas = S := by unfold scpL; show (⟨S.q, S.path, S.lems ++ []⟩ : ScpL) = S; rw [List.append_nil]
 rw [e]; exact h
theorem leaf_wrong {S : ScpL} {l : List MultL} (h : ¬ prvP S S.q.goal.Q l) : ¬ rightP S (leafP l) := by
 rintro ⟨_, h2⟩
 rw [if_pos (show (leafP l).kids.length = 0 from rfl), if_neg (show ¬ ((leafP l).empty = true) by show ¬ (false = true); decide)] at h2;have e : scpL S (leafP l).lemmas = S := by unfold scpL; show (⟨S.q, S.path, S.lems ++ []⟩ : ScpL) = S; rw [List.append_nil]
 rw [e] at h2; exact h h2
theorem left_E : belowO (kidS ⟨qE, [], []⟩ nE dE) (leafP [mE 2, mE 8]) = none := by
 refine zEX (zNH ?_) rfl;show prvP ⟨qE, [dE], []⟩ qE.goal.Q _
 rw [goalE]; decide +kernel
theorem right_E : belowO (kidS ⟨qE, [], []⟩ nE (opD' dE)) (leafP [mE 10]) = none := by
 refine zEX (zNH ?_) rfl;show prvP ⟨qE, [opD' dE], []⟩ qE.goal.Q _
 rw [goalE]; decide +kernel
theorem below_nE : belowO ⟨qE, [], []⟩ nE = none := by
 rw [zDV nE_right zLW, show nE.split = dE from rfl, left_E];exact right_E
theorem below_wE : belowO ⟨qE, [], []⟩ wE = some [] := by
 refine zCW (leaf_wrong ?_);show ¬ prvP ⟨qE, [], []⟩ qE.goal.Q _
 rw [goalE]; decide +kernel
theorem zET (l : List MultL) : (leafP l).kids.length = 0 := rfl
theorem nE_cnt : nE.cnt = 3 := by
 rw [cnt_two (n := nE) rfl, show nE.kids[0]! = leafP [mE 2, mE 8] from rfl, show nE.kids[1]! = leafP [mE 10] from rfl, zHK (zET _), zHK (zET _)]
theorem nE_valid : nE.valid = true := by
 have hf : formOk 2048 nE = true := by
  rw [zEU (n := nE) rfl, show nE.kids[0]! = leafP [mE 2, mE 8] from rfl, show nE.kids[1]! = leafP [mE 10] from rfl, zE8 (zET _), zE8 (zET _)];rfl
 simp [NodeL.valid, nE_cnt, hf]
theorem wE_valid : wE.valid = true := by
 have hf : formOk 2048 wE = true := by rw [show wE = leafP [mE 5] from rfl, zE8 (zET _)]; rfl
 have hc : wE.cnt = 1 := zHK (zET _);simp [NodeL.valid, hc, hf]
theorem leafP_wt (l : List MultL) : (leafP l).wt = 1 + l.length := by rw [NodeL.wt_eq]; simp [leafP, NodeL.lemmas, NodeL.proof, NodeL.kids]
theorem leafP_tot (f : NodeL → Nat) (l : List MultL) : (leafP l).tot f = f (leafP l) := by rw [NodeL.tot_eq]; simp [leafP, NodeL.kids]
theorem mE_ok (k : Int) : okR (mE k).coef := zA1 1
theorem mE_lq (k : Int) : lQ (mE k).coef ≤ 2 := by
 have h := zA6 (k := 1) (q := 1) (zCL (z := 1) (by decide));unfold lQ mE; simp only; omega
theorem leafP_ok (l : List MultL) (h : ∀ m ∈ l, ∃ k, m = mE k) : (leafP l).NOk := .mk _ (fun m hm => by cases hm) (by show okR zD.rat; exact ⟨zDQ, zDQ⟩) (fun p hp => by obtain ⟨k, rfl⟩ := h p hp; exact mE_ok k) (fun k hk => by cases hk)
theorem nE_ok : nE.NOk := .mk _ (fun m hm => by cases hm) (by show okR dE.rat; exact ⟨zDQ, zDQ⟩) (fun p hp => by cases hp) (fun k hk => by
 rw [zLW] at hk;rcases List.mem_cons.1 hk with rfl | hk
 ·exact leafP_ok _ (mm2 2 8)
 ·rw [List.mem_singleton.1 hk]; exact leafP_ok _ (mm1 10))
theorem wE_ok : wE.NOk := leafP_ok _ (mm1 5)
theorem sm_mE (k : Int) : (mE k).sm := by
 have h := zA6 (k := 1) (q := 1) (zCL (z := 1) (by decide));exact ⟨by show (cr 1).num.length < _; omega, by show (cr 1).den.length < _; omega⟩
theorem leafP_sm (l : List MultL) (hl : l.length < 10) (h : ∀ m ∈ l, ∃ k, m = mE k) : (leafP l).Sm := .mk _ ⟨by show 0 < _; decide, fun m hm => by cases hm⟩ ⟨by show 0 < _; decide, by show 0 < _; decide⟩ (by show 0 < _; decide) (fun k hk => by cases hk) ⟨by show l.length < _; omega, fun p hp => by obtain ⟨k, rfl⟩ := h p hp; exact sm_mE k⟩
theorem nE_sm : nE.Sm := .mk _ ⟨by decide, fun m hm => by cases hm⟩ ⟨by decide, by decide⟩ (by decide) (fun k hk => by
 rw [zLW] at hk;rcases List.mem_cons.1 hk with rfl | hk
 ·exact leafP_sm _ (by decide) (mm2 2 8)
 ·rw [List.mem_singleton.1 hk]; exact leafP_sm _ (by decide) (mm1 10)) ⟨by decide, fun p hp => by cases hp⟩
theorem wE_sm : wE.Sm := leafP_sm _ (by decide) (mm1 5)
theorem nE_wt : nE.wt = 6 := by
 rw [NodeL.wt_eq, zLW];simp only [List.map_cons, List.map_nil, leafP_wt]; rfl
theorem wE_wt : wE.wt = 2 := leafP_wt _
theorem leafP_bk (l : List MultL) (h : ∀ m ∈ l, ∃ k, m = mE k) : (leafP l).bk ≤ 3 * l.length := by
 unfold NodeL.bk;rw [leafP_tot]
 have : sC l ≤ 3 * l.length := by
  unfold sC
  have : ∀ l : List MultL, (∀ m ∈ l, ∃ k, m = mE k) → (l.map fun m => lQ m.coef + 1).sum ≤ 3 * l.length := by
   intro l
   induction l with
   | nil => intro _; exact Nat.le_refl _
   | cons a l ih =>
     intro h;obtain ⟨k, rfl⟩ := h a (by simp);have := ih fun m hm => h m (List.mem_cons_of_mem _ hm)
     have := mE_lq k;rw [List.map_cons, List.sum_cons, List.length_cons]; omega
  exact this l h
 have e : spF (leafP l) + vlF (leafP l) + coF (leafP l) = sC l := by
  show 0 + 0 + (0 + sC l) = sC l; omega
 omega
theorem nE_bk : nE.bk ≤ 9 := by
 have e : nE.bk = 0 + ([leafP [mE 2, mE 8], leafP [mE 10]].map NodeL.bk).sum := by
  unfold NodeL.bk; rw [NodeL.tot_eq, zLW]; rfl
 have h1 := leafP_bk [mE 2, mE 8] (mm2 2 8);have h2 := leafP_bk [mE 10] (mm1 10);simp only [List.map_cons, List.map_nil, List.sum_cons, List.sum_nil, List.length_cons, List.length_nil] at e h1 h2;omega
theorem wE_bk : wE.bk ≤ 3 := leafP_bk [mE 5] (mm1 5)
end Go.PI
namespace Go.PI
structure ClaL where
 kind : Int
 target : Int
 margin : RatL
 rows : List AffL
 deriving Inhabited
def encCla (c : ClaL) : PV := .agg [.int .i64 c.kind, .int .i64 c.target, .bool c.margin.neg, encN c.margin.num, encN c.margin.den, .imm (c.rows.map encAff)]
def VaC (c : ClaL) (m : Int) : Prop := (1 ≤ m ∧ m ≤ 256) ∧ CanR c.margin ∧ 0 ≤ qv c.margin ∧ ((c.kind = 1 ∧ (0 ≤ c.target ∧ c.target < m) ∧ c.rows.length = 0) ∨ (c.kind = 2 ∧ c.target = 0 ∧ (1 ≤ c.rows.length ∧ c.rows.length ≤ 256) ∧ ∀ i, i < c.rows.length → ValidF c.rows[i]! m))
def topG (c : ClaL) (j : Nat) : QF := subQ (subQ (varQ c.target) (varQ j)) (numQ' (qv c.margin))
def rowGC (c : ClaL) (f : AffL) : QF := subQ f.Q (numQ' (qv c.margin))
def topL (c : ClaL) (n : Nat) : List QF := ((List.range n).filter fun (j : Nat) => decide ((j : Int) ≠ c.target)).map (topG c)
def goalsC (c : ClaL) (m : Nat) : List QF := c.rows.map (rowGC c) ++ (if c.kind = 1 then topL c m else [])
theorem topL_in {c : ClaL} {n : Nat} (h : (n : Int) ≠ c.target) : topL c (n + 1) = topL c n ++ [topG c n] := by
 unfold topL; rw [List.range_succ, List.filter_append, List.map_append, List.filter_cons_of_pos (by simpa using h)]; rfl
theorem topL_out {c : ClaL} {n : Nat} (h : (n : Int) = c.target) : topL c (n + 1) = topL c n := by
 unfold topL; rw [List.range_succ, List.filter_append, List.map_append, List.filter_cons_of_neg (by simpa using h)]; simp
theorem topL_len (c : ClaL) (n : Nat) : (topL c n).length ≤ n := by
 unfold topL; rw [List.length_map]; exact Nat.le_trans (List.length_filter_le _ _) (by simp)
theorem zIX {c : ClaL} {m : Nat} (h : VaC c m) : (goalsC c m).length ≤ 256 := by
 obtain ⟨h1, _, _, h2⟩ := h;have := topL_len c m;unfold goalsC;rw [List.length_append, List.length_map];rcases h2 with ⟨e, _, e2⟩ | ⟨e, _, e2, _⟩
 ·rw [if_pos e]; omega
 ·rw [if_neg (by omega)]; simp; omega
theorem zHH {c : ClaL} {m : Nat} (h : VaC c m) : ∀ f ∈ goalsC c m, okF m f := fun f hf => by
 obtain ⟨h1, _, _, h2⟩ := h;unfold goalsC at hf;rcases List.mem_append.1 hf with hf | hf
 ·obtain ⟨r, hr, rfl⟩ := List.mem_map.1 hf
  rcases h2 with ⟨_, _, e2⟩ | ⟨_, _, _, e2⟩
  ·rw [List.length_eq_zero_iff.1 e2] at hr; cases hr
  ·obtain ⟨i, hi, rfl⟩ := List.getElem_of_mem hr
   have := e2 i hi;rw [getElem!_pos c.rows i hi] at this;exact zDZ (zD0 this) (zFJ _ _)
 ·split at hf
  ·rename_i e
   unfold topL at hf;obtain ⟨j, hj, rfl⟩ := List.mem_map.1 hf;have hj := List.mem_range.1 (List.mem_filter.1 hj).1;rcases h2 with ⟨_, e1, _⟩ | ⟨e1, _⟩
   ·exact zDZ (zDZ (zK5 e1.1 e1.2) (zK5 (by omega) (by omega))) (zFJ _ _)
   ·omega
  ·cases hf
def goA (g : GraL) (f : QF) (i : Nat) : QF := (f.ts.take i).foldl (fun a t => mergeQ a (sclQ g.outs[t.1.toNat]!.Q t.2) 1) (numQ' f.c)
def goalG (g : GraL) (f : QF) : QF := goA g f f.ts.length
theorem zIY (g : GraL) (f : QF) : goA g f 0 = numQ' f.c := by unfold goA; simp
theorem zIZ {g : GraL} {f : QF} {i : Nat} (h : i < f.ts.length) : goA g f (i + 1) = mergeQ (goA g f i) (sclQ g.outs[f.ts[i]!.1.toNat]!.Q f.ts[i]!.2) 1 := by
 unfold goA; rw [List.take_succ_eq_append_getElem h, List.foldl_append, getElem!_pos f.ts i h]; rfl
theorem out_ok {g : GraL} (hv : VaG g) {f : QF} (hf : okF g.outs.length f) {i : Nat} (h : i < f.ts.length) : f.ts[i]!.1.toNat < g.outs.length ∧ okF (g.ins + g.units.length) g.outs[f.ts[i]!.1.toNat]!.Q := by
 have hm : f.ts[i]! ∈ f.ts := by rw [getElem!_pos f.ts i h]; exact List.getElem_mem _
 have h1 := hf.2 _ hm;have h2 : f.ts[i]!.1.toNat < g.outs.length := by omega
 exact ⟨h2, zD0 (hv.2.2.2.2 _ h2)⟩
theorem goA_ok {g : GraL} (hv : VaG g) {f : QF} (hf : okF g.outs.length f) : ∀ i, i ≤ f.ts.length → okF (g.ins + g.units.length) (goA g f i)
 | 0, _ => by rw [zIY]; exact zFJ _ _
 | i + 1, h => by rw [zIZ (by omega)]; exact zIR (goA_ok hv hf i (by omega)) (zJ4 (out_ok hv hf (by omega)).2)
theorem goA_ev {g : GraL} {f : QF} (y : List Rat) : ∀ i, i ≤ f.ts.length → (∀ t ∈ f.ts, t.1.toNat < g.outs.length) → evQ (goA g f i) y = f.c + dot (g.outs.map fun o => evQ o.Q y) (f.ts.take i)
 | 0, _, _ => by rw [zIY, zHS]; simp only [List.take_zero, dot]; grind
 | i + 1, h, ho => by
   have ih := goA_ev (g := g) (f := f) y i (by omega) ho;have hm : f.ts[i]! ∈ f.ts := by rw [getElem!_pos f.ts i (by omega)]; exact List.getElem_mem _
   have h1 := ho _ hm
   have happ : ∀ (l : List QT) (t : QT) (x : List Rat), dot x (l ++ [t]) = dot x l + t.2 * x[t.1.toNat]! := by
    intro l t x
    induction l with
    | nil => simp only [List.nil_append, dot]; grind
    | cons a l ih => simp only [List.cons_append, dot, ih]; grind
   rw [zIZ (by omega), zI3, ih, zNL, List.take_succ_eq_append_getElem (by omega : i < f.ts.length), happ, ← getElem!_pos f.ts i (by omega)]
   have e : (g.outs.map fun o => evQ o.Q y)[f.ts[i]!.1.toNat]! = evQ g.outs[f.ts[i]!.1.toNat]!.Q y := by
    rw [getElem!_pos (g.outs.map _) _ (by simpa using h1), getElem!_pos g.outs _ h1]; simp
   rw [e]; grind
theorem goal_ev {g : GraL} {f : QF} (hf : okF g.outs.length f) (y : List Rat) : evQ (goalG g f) y = evQ f (g.outs.map fun o => evQ o.Q y) := by
 unfold goalG;rw [goA_ev y _ (Nat.le_refl _) (fun t ht => by have := hf.2 t ht; omega), List.take_length, zH1]
theorem zJQ {c : Rat} {PA PB R : Rat → Prop} (h1 : ∀ x, PA x → R x) (h2 : ∀ y, PB y → R (y * c)) (h3 : ∀ x y, PA x → PB y → R (x + y * c)) : ∀ (n : Nat) (a b : List QT), a.length + b.length ≤ n → (∀ p ∈ a, PA p.2) → (∀ p ∈ b, PB p.2) → ∀ r ∈ mrg c a b, R r.2
 | n, [], [], _, _, _, r, h => by rw [mrg] at h; cases h
 | 0, _ :: _, _, h, _, _, _, _ => by simp at h
 | 0, _, _ :: _, h, _, _, _, _ => by simp at h
 | n + 1, p :: a, [], hn, ha, hb, r, h => by
   rw [mrg, List.mem_append] at h;simp only [List.length_cons] at hn;rcases h with h | h
   ·rw [zE5 h]; exact h1 _ (ha p (by simp))
   ·exact zJQ h1 h2 h3 n a [] (by simp at hn ⊢; omega) (fun q hq => ha q (by simp [hq])) hb r h
 | n + 1, [], q :: b, hn, ha, hb, r, h => by
   rw [mrg, List.mem_append] at h;simp only [List.length_cons] at hn;rcases h with h | h
   ·rw [zE5 h]; exact h2 _ (hb q (by simp))
   ·exact zJQ h1 h2 h3 n [] b (by simp at hn ⊢; omega) ha (fun q hq => hb q (by simp [hq])) r h
 | n + 1, p :: a, q :: b, hn, ha, hb, r, h => by
   rw [mrg] at h;simp only [List.length_cons] at hn
   split at h
   ·rcases List.mem_append.1 h with h | h
    ·rw [zE5 h]; exact h1 _ (ha p (by simp))
    ·exact zJQ h1 h2 h3 n a (q :: b) (by simp; omega) (fun q hq => ha q (by simp [hq])) hb r h
   ·split at h
    ·rcases List.mem_append.1 h with h | h
     ·rw [zE5 h]; exact h2 _ (hb q (by simp))
     ·exact zJQ h1 h2 h3 n (p :: a) b (by simp; omega) ha (fun q hq => hb q (by simp [hq])) r h
    ·rcases List.mem_append.1 h with h | h
     ·rw [zE5 h]; exact h3 _ _ (ha p (by simp)) (hb q (by simp))
     ·exact zJQ h1 h2 h3 n a b (by omega) (fun q hq => ha q (by simp [hq])) (fun q hq => hb q (by simp [hq])) r h
def BdF (D A : Nat) (f : QF) : Prop := Bd D A f.c ∧ ∀ p ∈ f.ts, Bd D A p.2
theorem BdF.merge {D A E B C H : Nat} {f g : QF} {c : Rat} (hf : BdF D A f) (hg : BdF E B g) (hc : Bd C H c) : BdF (D * (E * C)) (A + B * H) (mergeQ f g c) := by
 have d0 := hf.1.1;have e0 : 0 < E * C := Nat.mul_pos hg.1.1 hc.1
 have h1 : ∀ x, Bd D A x → Bd (D * (E * C)) (A + B * H) x := fun x hx => by
  have := hx.up (E * C) e0 (B := A + B * H) (by omega)
  rwa [Nat.mul_comm] at this
 have h2 : ∀ y, Bd E B y → Bd (D * (E * C)) (A + B * H) (y * c) := fun y hy => (hy.mul hc).up D d0 (by omega)
 have h3 : ∀ x y, Bd D A x → Bd E B y → Bd (D * (E * C)) (A + B * H) (x + y * c) := fun x y hx hy => hx.sum (hy.mul hc)
 exact ⟨h3 _ _ hf.1 hg.1, zJQ (PA := Bd D A) (PB := Bd E B) h1 h2 h3 _ f.ts g.ts (Nat.le_refl _) hf.2 hg.2⟩
theorem bd_zero : BdF 1 0 zeroQ := ⟨⟨by decide, ⟨0, by simp [zeroQ]⟩, by simp [zeroQ], by simp [zeroQ]⟩, fun p hp => by cases hp⟩
theorem bd_one : Bd 1 1 (1 : Rat) := ⟨by decide, ⟨1, by simp⟩, by decide +kernel, by decide +kernel⟩
theorem bd_neg : Bd 1 1 (-1 : Rat) := ⟨by decide, ⟨-1, by decide +kernel⟩, by decide +kernel, by decide +kernel⟩
theorem bd_num {D A : Nat} {c : Rat} (h : Bd D A c) : BdF D A (numQ' c) := ⟨h, fun p hp => by cases hp⟩
theorem bd_var (v : Int) : BdF 1 1 (varQ v) := ⟨⟨by decide, ⟨0, by simp [varQ]⟩, by simp [varQ]; decide +kernel, by simp [varQ]; decide +kernel⟩, fun p hp => by rw [List.mem_singleton.1 hp]; exact bd_one⟩
theorem tD_bd : ∀ {l : List TermL} {t : TermL}, t ∈ l → Bd (tD l) (tA l) (qv t.coef)
 | a :: l, t, h => by
   rcases List.mem_cons.1 h with rfl | h
   ·have := (Bd.qv t.coef).up (tD l) (zM2 l) (B := tA (t :: l)) (by show nv t.coef.num ≤ nv t.coef.num + tA l; omega)
    rw [Nat.mul_comm] at this; exact this
   ·exact (tD_bd h).up (dn a.coef.den) (Nat.pos_of_ne_zero (zB2 _)) (by show tA l ≤ nv a.coef.num + tA l; omega)
theorem aff_bd (f : AffL) : BdF (fD f) (fA f) f.Q := by
 refine ⟨?_, fun p hp => ?_⟩
 ·have := (Bd.qv f.const).up (tD f.terms) (zM2 _) (B := fA f) (by unfold fA; omega)
  rw [Nat.mul_comm] at this; exact this
 ·obtain ⟨t, ht, rfl⟩ := List.mem_map.1 hp
  exact (tD_bd ht).up (dn f.const.den) (Nat.pos_of_ne_zero (zB2 _)) (by unfold fA; omega)
theorem BdF.sz {D A d a : Nat} {f : QF} (h : BdF D A f) (hD : D < pw d) (hA : A < pw a) : szF (d + a) f := ⟨h.1.sz hD hA, fun p hp => (h.2 p hp).sz hD hA⟩
def lowF (s : Nat) (f : QF) : Prop := ∃ D A, D < pw s ∧ A < pw s ∧ BdF D A f
theorem lowF.sz {s : Nat} {f : QF} (h : lowF s f) : szF (2 * s) f := by
 obtain ⟨D, A, h1, h2, h3⟩ := h;have := h3.sz h1 h2
 rwa [show s + s = 2 * s by omega] at this
theorem zG2 {s t u : Nat} {f g : QF} {c : Rat} (hf : lowF s f) (hg : lowF t g) (hc : ∃ C H, C < pw u ∧ H < pw u ∧ Bd C H c) : lowF (s + t + u + 1) (mergeQ f g c) := by
 obtain ⟨D, A, h1, h2, h3⟩ := hf;obtain ⟨E, B, g1, g2, g3⟩ := hg;obtain ⟨C, H, c1, c2, c3⟩ := hc;refine ⟨_, _, ?_, ?_, h3.merge g3 c3⟩
 ·exact Nat.lt_of_lt_of_le (zBB h1 (zBB g1 c1)) (zCH (by omega))
 ·have e1 := zBB g2 c2
  have e2 := zGW s (t + u);exact Nat.lt_of_lt_of_le (show _ < pw (s + (t + u) + 1) by omega) (zCH (by omega))
theorem low_le {s t : Nat} (h : s ≤ t) {f : QF} (hf : lowF s f) : lowF t f := by
 obtain ⟨D, A, h1, h2, h3⟩ := hf;exact ⟨D, A, Nat.lt_of_lt_of_le h1 (zCH h), Nat.lt_of_lt_of_le h2 (zCH h), h3⟩
theorem zKR {c : Rat} (h : c = 1 ∨ c = -1) : ∃ C H, C < pw 1 ∧ H < pw 1 ∧ Bd C H c := by
 rcases h with rfl | rfl
 ·exact ⟨1, 1, by decide, by decide, bd_one⟩
 ·exact ⟨1, 1, by decide, by decide, bd_neg⟩
theorem low_rat {r : RatL} (h : okR r) : lowF (lnQ r) (numQ' (qv r)) := ⟨_, _, dn_ln h, nv_ln h, bd_num (Bd.qv r)⟩
theorem low_var (v : Int) : lowF 1 (varQ v) := ⟨1, 1, by decide, by decide, bd_var v⟩
theorem low_aff {f : AffL} {k : Nat} (h : okA k f) : lowF (lnA f) f.Q := ⟨_, _, fD_lt h, fA_lt h, aff_bd f⟩
theorem low_scl {s u : Nat} {f : QF} {c : Rat} (hf : lowF s f) (hc : ∃ C H, C < pw u ∧ H < pw u ∧ Bd C H c) : lowF (s + u + 2) (sclQ f c) := by
 have := zG2 (s := 1) (f := zeroQ) ⟨1, 0, by decide, by decide, bd_zero⟩ hf hc;exact low_le (by omega) this
def clS (c : ClaL) : Nat := gL c.rows + lnQ c.margin + 10
theorem low_goal {c : ClaL} {m k : Nat} (hm : okR c.margin) (hr : ∀ f ∈ c.rows, okA k f) : ∀ f ∈ goalsC c m, lowF (clS c) f := fun f hf => by
 unfold goalsC at hf;rcases List.mem_append.1 hf with hf | hf
 ·obtain ⟨r, h1, rfl⟩ := List.mem_map.1 hf
  have h2 : lnA r ≤ gL c.rows := zGA h1;exact low_le (by unfold clS; omega) (zG2 (low_aff (hr r h1)) (low_rat hm) (zKR (Or.inr rfl)))
 ·split at hf
  ·unfold topL at hf
   obtain ⟨j, _, rfl⟩ := List.mem_map.1 hf;exact low_le (by unfold clS; omega) (zG2 (zG2 (low_var _) (low_var _) (zKR (Or.inr rfl))) (low_rat hm) (zKR (Or.inr rfl)))
  ·cases hf
theorem low_goA {g : GraL} {f : QF} {s k : Nat} (hg : ∀ o ∈ g.outs, okA k o) (hf : lowF s f) (hv : ∀ t ∈ f.ts, t.1.toNat < g.outs.length) : ∀ i, i ≤ f.ts.length → lowF (s + i * (s + gL g.outs + 4)) (goA g f i)
 | 0, _ => by
   obtain ⟨D, A, h1, h2, h3⟩ := hf;rw [zIY, Nat.zero_mul];exact ⟨D, A, h1, h2, bd_num h3.1⟩
 | i + 1, h => by
   have ih := low_goA hg hf hv i (by omega);have hm : f.ts[i]! ∈ f.ts := by rw [getElem!_pos f.ts i (by omega)]; exact List.getElem_mem _
   have ho : g.outs[f.ts[i]!.1.toNat]! ∈ g.outs := by rw [getElem!_pos g.outs _ (hv _ hm)]; exact List.getElem_mem _
   have h2 : lnA g.outs[f.ts[i]!.1.toNat]! ≤ gL g.outs := zGA ho;obtain ⟨D, A, h3, h4, h5⟩ := hf;have hs := low_scl (low_aff (hg _ ho)) ⟨D, A, h3, h4, h5.2 _ hm⟩;rw [zIZ (by omega)];refine low_le ?_ (zG2 ih hs (zKR (Or.inl rfl)));rw [Nat.succ_mul]; omega
end Go.PI
