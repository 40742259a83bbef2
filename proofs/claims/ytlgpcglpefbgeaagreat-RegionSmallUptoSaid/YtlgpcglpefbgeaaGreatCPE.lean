/-
  Regions: points in the center, at corners, in balls, in parts. No program in sight.
-/
import Derived.Test.YtlgpcglpefbgeaaGreatCPD
namespace Go.PI
set_option linter.unusedVariables false
set_option linter.unusedSimpArgs false
set_option linter.unnecessarySimpa false
instance (r : RegL) (i : Nat) : Decidable (okBd r i) := by unfold okBd; exact inferInstance
instance (ts : List TermL) (n : Int) (i : Nat) : Decidable (okT ts n i) := by unfold okT; exact inferInstance
instance (f : AffL) (n : Int) : Decidable (ValidF f n) := by unfold ValidF; exact inferInstance
instance (r : RegL) (n : Int) : Decidable (VaR r n) := by unfold VaR; exact inferInstance
instance (r : RegL) : Decidable (VaO r) := by unfold VaO; exact inferInstance
instance (r : RegL) (x : List RatL) : Decidable (conR r x) := by unfold conR; exact inferInstance
instance (a b : RegL) : Decidable (wiR a b) := by unfold wiR; exact inferInstance
def emD (r : RegL) : Prop := ¬ ∀ i, i < r.lo.length → ¬ qv r.hi[i]! < qv r.lo[i]!
instance (r : RegL) : Decidable (emD r) := by unfold emD; exact inferInstance
theorem emR_D (r : RegL) : emR r ↔ emD r := by unfold emR emD; simp
def cH (a : Int) : RatL := cr (mkRat a 2)
def G1 : AffL := (addR (varQ 0) (scaleR (varQ 1) (-1))).L
def R19 : RegL := ⟨[cH 0, cH (-2)], [cH 2, cH 2], [G1]⟩
def C19 : RegL := ⟨[cH 1, cH (-2)], [cH 2, cH 2], [G1]⟩
theorem w_box : VaO (canR [cH 0, cH (-2)] [cH 2, cH 2]) := by decide +kernel
theorem w_boxV : boxV [cH 0, cH (-2)] [cH 2, cH 2] = (⟨[cH 0, cH (-2)], [cH 2, cH 2], []⟩, 0) := by
  unfold boxV; rw [if_pos w_box]
  rw [show canR [cH 0, cH (-2)] [cH 2, cH 2] = ⟨[cH 0, cH (-2)], [cH 2, cH 2], []⟩ by unfold canR; simp only [List.map_cons, List.map_nil, cH, qv_cr]]
theorem w_ok1 : cliOk R19 ⟨3, 0, cH 1⟩ := ⟨by decide +kernel, Or.inl rfl, by decide, by decide +kernel⟩
theorem w_ok2 : cliOk R19 ⟨3, 0, cH 4⟩ := ⟨by decide +kernel, Or.inl rfl, by decide, by decide +kernel⟩
theorem w_cli1 : cliV R19 ⟨3, 0, cH 1⟩ = (C19, 0) := by
  unfold cliV; rw [if_pos w_ok1, if_neg (fun e => absurd ((emR_D _).1 e) (by decide +kernel))]
  exact congrArg (·, (0 : Int)) (show cliR R19 ⟨3, 0, cH 1⟩ = C19 from by
    have : (cliR R19 ⟨3, 0, cH 1⟩).lo = C19.lo := by decide +kernel
    have e2 : (cliR R19 ⟨3, 0, cH 1⟩).hi = C19.hi := by decide +kernel
    have e3 : (cliR R19 ⟨3, 0, cH 1⟩).rows = C19.rows := rfl
    generalize cliR R19 ⟨3, 0, cH 1⟩ = x at *
    cases x; simp only at this e2 e3; subst this e2 e3; rfl)
theorem w_cli2 : cliV R19 ⟨3, 0, cH 4⟩ = (zeroR, 10) := by
  unfold cliV; rw [if_pos w_ok2, if_pos ((emR_D _).2 (by decide +kernel))]
theorem w_va2 : VaR R19 2 := by decide +kernel
theorem w_va1 : ¬ VaR R19 1 := by decide +kernel
theorem w_con : conR R19 [cH 2, cH 2] := by decide +kernel
theorem w_ncon : ¬ conR R19 [cH 0, cH 2] := by decide +kernel
theorem w_cen : (ceR R19).map cr = [cH 1, cH 0] := by
  unfold ceR; rw [if_pos (show VaO R19 by decide +kernel)]; decide +kernel
theorem w_in : wiR C19 R19 := by decide +kernel
theorem w_nin : ¬ wiR R19 C19 := by decide +kernel
theorem w_reg : okReg 2 R19 ∧ okReg 2 C19 := by
  have h : ∀ a : Int, a.natAbs < 10 → okQ 2 (cH a) := fun a ha => okQ_cr (sz_mk (by decide) (Nat.lt_of_lt_of_le ha (by decide +kernel)) (by decide +kernel))
  have hg : okA 2 G1 := okA_L (f := addR (varQ 0) (scaleR (varQ 1) (-1))) ⟨⟨by decide +kernel, by decide +kernel⟩, fun p hp => by
    have e : (addR (varQ 0) (scaleR (varQ 1) (-1))).ts = [(0, 1), (1, -1)] := by decide +kernel
    rw [e] at hp
    rcases List.mem_cons.1 hp with rfl | hp
    · exact ⟨by decide +kernel, by decide +kernel⟩
    · rw [List.mem_singleton.1 hp]; exact ⟨by decide +kernel, by decide +kernel⟩⟩ (by decide +kernel)
  have two : ∀ {x y : RatL}, okQ 2 x → okQ 2 y → okLs 2 [x, y] := fun hx hy => ⟨by simp, fun z hz => by
    rcases List.mem_cons.1 hz with rfl | hz
    · exact hx
    · rw [List.mem_singleton.1 hz]; exact hy⟩
  refine ⟨⟨two (h _ (by decide)) (h _ (by decide)), two (h _ (by decide)) (h _ (by decide)), fun f hf => ?_, by decide⟩, ⟨two (h _ (by decide)) (h _ (by decide)), two (h _ (by decide)) (h _ (by decide)), fun f hf => ?_, by decide⟩⟩
  · rw [List.mem_singleton.1 hf]; exact hg
  · rw [List.mem_singleton.1 hf]; exact hg
end Go.PI
namespace Go.PI
set_option linter.unusedVariables false
set_option linter.unusedSimpArgs false
set_option linter.unnecessarySimpa false
theorem half_two (a : Rat) : halfQ * a + halfQ * a = a := by
  rw [← Rat.add_mul, show halfQ + halfQ = 1 by decide +kernel, Rat.one_mul]
theorem half_nn : 0 ≤ halfQ := by decide +kernel
theorem half_btw {a b : Rat} (h : a ≤ b) : a ≤ halfQ * (a + b) ∧ halfQ * (a + b) ≤ b := by
  have h1 := half_two a
  have h2 := half_two b
  have h3 : halfQ * (a + b) = halfQ * a + halfQ * b := Rat.mul_add ..
  have h4 : 0 ≤ halfQ * (b - a) := Rat.mul_nonneg half_nn (by grind)
  have h5 : halfQ * (b - a) = halfQ * b - halfQ * a := by grind
  constructor <;> grind
theorem ceR_eq {r : RegL} (hva : VaO r) : ceR r = (List.range r.lo.length).map fun i => halfQ * (qv r.lo[i]! + qv r.hi[i]!) := by
  have hlh : r.hi.length = r.lo.length := by have := hva.2.2.1; omega
  unfold ceR; rw [if_pos hva]
  refine List.ext_getElem (by simp [hlh]) fun j h1 h2 => ?_
  have h3 : j < r.lo.length := by simpa using h2
  have h4 : j < r.hi.length := by omega
  simp [h3, h4]
theorem map_cr_qv (l : List Rat) : (l.map cr).map qv = l := by
  rw [List.map_map]; conv => rhs; rw [← List.map_id l]
  exact List.map_congr_left fun x _ => qv_cr x
theorem con_of {r : RegL} {x : List Rat} (hva : VaO r) (hr : r.rows = []) (hl : x.length = r.lo.length) (h : ∀ i, i < x.length → qv r.lo[i]! ≤ x[i]! ∧ x[i]! ≤ qv r.hi[i]!) : conR r (x.map cr) := by
  refine ⟨hva, by simpa using hl, fun i hi => ?_, fun i hi => by rw [hr] at hi; simp at hi⟩
  have hi : i < x.length := by simpa using hi
  rw [getD_map_cr hi, qv_cr]
  exact h i hi
theorem con_center {r : RegL} (hva : VaO r) (hr : r.rows = []) : conR r ((ceR r).map cr) := by
  have e := ceR_eq hva
  refine con_of hva hr (by rw [e]; simp) fun i hi => ?_
  have hi : i < r.lo.length := by rw [e] at hi; simpa using hi
  rw [e, get_range hi]
  exact half_btw (hva.2.2.2.2.1 i hi).2.2
theorem con_corner {r : RegL} {b : Nat} (hva : VaO r) (hr : r.rows = []) : conR r ((coR r b).map cr) := by
  have e : coR r b = (List.range r.lo.length).map fun i => qv (if bitAt b i then r.hi[i]! else r.lo[i]!) := by unfold coR; rw [if_pos hva]
  refine con_of hva hr (by rw [e]; simp) fun i hi => ?_
  have hi : i < r.lo.length := by rw [e] at hi; simpa using hi
  rw [e, get_range hi]
  have := (hva.2.2.2.2.1 i hi).2.2
  split
  · exact ⟨this, Rat.le_refl⟩
  · exact ⟨Rat.le_refl, this⟩
theorem absL_eq (q : Rat) : qv (absL q) = if 0 ≤ q then q else -q := by
  unfold absL
  have e : qv (cr q) = q := qv_cr q
  by_cases h : 0 ≤ q
  · rw [if_pos h]
    conv => rhs; rw [← e]
    have : (cr q).neg = false := cr_neg_false.2 h
    rw [show cr q = ⟨(cr q).neg, (cr q).num, (cr q).den⟩ from rfl, this]
  · rw [if_neg h]
    have hn : (cr q).neg = true := by
      cases h1 : (cr q).neg with
      | true => rfl
      | false => exact absurd (cr_neg_false.1 h1) h
    have e2 : qv (⟨true, (cr q).num, (cr q).den⟩ : RatL) = q := by rw [← hn]; exact e
    generalize (cr q).num = n at *
    generalize (cr q).den = D at *
    subst e2
    unfold qv sg
    simp only [if_true, Bool.false_eq_true, if_false]
    rw [Rat.neg_mkRat, Int.neg_neg]
theorem absL_le {q t : Rat} : qv (absL q) ≤ t ↔ q ≤ t ∧ -q ≤ t := by
  rw [absL_eq]; split <;> constructor <;> intro h <;> grind
theorem bal_va {r : RegL} {c : List RatL} {d : RatL} (h : balOk r c d) (he : ¬ emR (balR r c d)) : VaO (balR r c d) := by
  obtain ⟨hva, h2, h3⟩ := h
  have h1 := hva.1
  have e1 : (balR r c d).lo.length = r.lo.length := by simp [balR, balLo]
  have e2 : (balR r c d).hi.length = r.lo.length := by simp [balR, balHi]
  refine ⟨by rw [e1]; exact h1, rfl, by rw [e1, e2], hva.2.2.2.1, fun i hi => ?_, fun i hi => by rw [e1]; exact hva.2.2.2.2.2 i hi⟩
  have hi : i < r.lo.length := by omega
  unfold okBd
  have hle : qv (balR r c d).lo[i]! ≤ qv (balR r c d).hi[i]! := Rat.not_lt.1 fun e => he ⟨i, by omega, e⟩
  have g1 : (balR r c d).lo[i]! = cr (balLo r c d)[i]! := getD_map_cr (l := balLo r c d) (by simpa [balLo] using hi)
  have g2 : (balR r c d).hi[i]! = cr (balHi r c d)[i]! := getD_map_cr (l := balHi r c d) (by simpa [balHi] using hi)
  refine ⟨?_, ?_, hle⟩
  · rw [g1, qv_cr]
  · rw [g2, qv_cr]
theorem bal_near {r : RegL} {c p : List RatL} {d : RatL} (h : balOk r c d) (hp : p.length = r.lo.length) :
    (¬ emR (balR r c d) ∧ conR (balR r c d) p) ↔ conR r p ∧ ∀ i, i < p.length → qv (absL (qv p[i]! - qv c[i]!)) ≤ qv d := by
  obtain ⟨hva, h2, h3⟩ := h
  have e1 : (balR r c d).lo.length = r.lo.length := by simp [balR, balLo]
  have gl : ∀ i, i < r.lo.length → qv (balR r c d).lo[i]! = maxQ (qv r.lo[i]!) (qv c[i]! - qv d) := fun i hi => by
    show qv ((balLo r c d).map cr)[i]! = _
    rw [getD_map_cr (by simpa [balLo] using hi), qv_cr]; unfold balLo; rw [get_range hi]
  have gh : ∀ i, i < r.lo.length → qv (balR r c d).hi[i]! = minQ (qv r.hi[i]!) (qv c[i]! + qv d) := fun i hi => by
    show qv ((balHi r c d).map cr)[i]! = _
    rw [getD_map_cr (by simpa [balHi] using hi), qv_cr]; unfold balHi; rw [get_range hi]
  have hq : (∀ i, i < p.length → qv (balR r c d).lo[i]! ≤ qv p[i]! ∧ qv p[i]! ≤ qv (balR r c d).hi[i]!) ↔ ((∀ i, i < p.length → qv r.lo[i]! ≤ qv p[i]! ∧ qv p[i]! ≤ qv r.hi[i]!) ∧ ∀ i, i < p.length → qv (absL (qv p[i]! - qv c[i]!)) ≤ qv d) := by
    constructor
    · intro h
      refine ⟨fun i hi => ?_, fun i hi => ?_⟩
      · have := h i hi
        rw [gl i (by omega), gh i (by omega), le_max, le_min] at this
        exact ⟨this.1.1, this.2.1⟩
      · have := h i hi
        rw [gl i (by omega), gh i (by omega), le_max, le_min] at this
        rw [absL_le]
        constructor <;> grind
    · rintro ⟨ha, hb⟩ i hi
      rw [gl i (by omega), gh i (by omega), le_max, le_min]
      have h1 := ha i hi
      have h2 := absL_le.1 (hb i hi)
      exact ⟨⟨h1.1, by grind⟩, h1.2, by grind⟩
  constructor
  · rintro ⟨he, hv, hl, hb, hr⟩
    have := hq.1 hb
    exact ⟨⟨hva, hp, this.1, hr⟩, this.2⟩
  · rintro ⟨⟨_, hl, hb, hr⟩, hn⟩
    have hall := hq.2 ⟨hb, hn⟩
    have he : ¬ emR (balR r c d) := fun ⟨i, h1, h2⟩ => by
      have := hall i (by omega)
      exact Rat.not_lt.2 (Rat.le_trans this.1 this.2) h2
    exact ⟨he, bal_va ⟨hva, h2, h3⟩ he, by rw [e1]; exact hl, hall, hr⟩
theorem cli_get {r : RegL} {d : DecL} {i : Nat} (h : i < r.lo.length) (hh : r.hi.length = r.lo.length) :
    qv (cliR r d).lo[i]! = (if d.kind = 3 ∧ i = d.index.toNat then maxQ (qv r.lo[i]!) (qv d.rat) else qv r.lo[i]!) ∧ qv (cliR r d).hi[i]! = (if d.kind ≠ 3 ∧ i = d.index.toNat then minQ (qv r.hi[i]!) (qv d.rat) else qv r.hi[i]!) := by
  unfold cliR
  constructor
  · dsimp only
    by_cases e : d.kind = 3
    · rw [if_pos e]
      by_cases e2 : i = d.index.toNat
      · subst e2
        rw [getElem!_pos _ _ (by simpa using h), List.getElem_set_self, qv_cr, if_pos ⟨e, rfl⟩]
      · rw [getElem!_pos _ _ (by simpa using h), List.getElem_set_ne (Ne.symm e2), if_neg (fun q => e2 q.2), getElem!_pos r.lo i h]
    · rw [if_neg e, if_neg (fun q => e q.1)]
  · dsimp only
    by_cases e : d.kind = 3
    · rw [if_pos e, if_neg (fun q => q.1 e)]
    · rw [if_neg e]
      by_cases e2 : i = d.index.toNat
      · subst e2
        rw [getElem!_pos _ _ (by simpa using (by omega : d.index.toNat < r.hi.length)), List.getElem_set_self, qv_cr, if_pos ⟨e, rfl⟩]
      · rw [getElem!_pos _ _ (by simpa using (by omega : i < r.hi.length)), List.getElem_set_ne (Ne.symm e2), if_neg (fun q => e2 q.2), getElem!_pos r.hi i (by omega)]
theorem cli_len (r : RegL) (d : DecL) : (cliR r d).lo.length = r.lo.length ∧ (cliR r d).hi.length = r.hi.length := by
  unfold cliR; constructor <;> (dsimp only; split <;> simp)
theorem cli_va {r : RegL} {d : DecL} (hva : VaO r) (he : ¬ emR (cliR r d)) : VaO (cliR r d) := by
  have h1 := hva.1
  have hlh : r.hi.length = r.lo.length := by have := hva.2.2.1; omega
  obtain ⟨e1, e2⟩ := cli_len r d
  refine ⟨by rw [e1]; exact h1, rfl, by rw [e1, e2, hlh], hva.2.2.2.1, fun i hi => ?_, fun i hi => by rw [e1]; exact hva.2.2.2.2.2 i hi⟩
  have hi : i < r.lo.length := by omega
  have hle : qv (cliR r d).lo[i]! ≤ qv (cliR r d).hi[i]! := Rat.not_lt.1 fun e => he ⟨i, by omega, e⟩
  have hb := hva.2.2.2.2.1 i hi
  have hset : ∀ {l : List RatL} {j : Nat} {q : Rat}, i < l.length → l[i]! = cr (qv l[i]!) → (l.set j (cr q))[i]! = cr (qv (l.set j (cr q))[i]!) := fun {l j q} hl h => by
    rw [getElem!_pos _ i (by simpa using hl)]
    by_cases e : j = i
    · subst e; rw [List.getElem_set_self, qv_cr]
    · rw [List.getElem_set_ne e]; rw [getElem!_pos l i hl] at h; exact h
  refine ⟨?_, ?_, hle⟩
  · unfold cliR; dsimp only; split
    · exact hset hi hb.1
    · exact hb.1
  · unfold cliR; dsimp only; split
    · exact hb.2.1
    · exact hset (by omega) hb.2.1
theorem con_cli {r : RegL} {d : DecL} {p : List RatL} (hva : VaO r) (hi : d.index.toNat < r.lo.length) (hp : p.length = r.lo.length) :
    (¬ emR (cliR r d) ∧ conR (cliR r d) p) ↔ conR r p ∧ if d.kind = 3 then qv d.rat ≤ qv p[d.index.toNat]! else qv p[d.index.toNat]! ≤ qv d.rat := by
  have hlh : r.hi.length = r.lo.length := by have := hva.2.2.1; omega
  obtain ⟨e1, e2⟩ := cli_len r d
  have hq : (∀ i, i < p.length → qv (cliR r d).lo[i]! ≤ qv p[i]! ∧ qv p[i]! ≤ qv (cliR r d).hi[i]!) ↔ (∀ i, i < p.length → qv r.lo[i]! ≤ qv p[i]! ∧ qv p[i]! ≤ qv r.hi[i]!) ∧ if d.kind = 3 then qv d.rat ≤ qv p[d.index.toNat]! else qv p[d.index.toNat]! ≤ qv d.rat := by
    constructor
    · intro h
      refine ⟨fun i hi' => ?_, ?_⟩
      · have := h i hi'
        obtain ⟨g1, g2⟩ := cli_get (d := d) (i := i) (by omega) hlh
        rw [g1, g2] at this
        refine ⟨?_, ?_⟩
        · have := this.1
          split at this
          · exact (le_max.1 this).1
          · exact this
        · have := this.2
          split at this
          · exact (le_min.1 this).1
          · exact this
      · have := h _ (by omega : d.index.toNat < p.length)
        obtain ⟨g1, g2⟩ := cli_get (d := d) hi hlh
        rw [g1, g2] at this
        split
        · rename_i e
          rw [if_pos ⟨e, rfl⟩] at this
          exact (le_max.1 this.1).2
        · rename_i e
          rw [if_pos (c := d.kind ≠ 3 ∧ _) ⟨e, rfl⟩] at this
          exact (le_min.1 this.2).2
    · rintro ⟨ha, hb⟩ i hi'
      obtain ⟨g1, g2⟩ := cli_get (d := d) (i := i) (by omega) hlh
      rw [g1, g2]
      have h1 := ha i hi'
      refine ⟨?_, ?_⟩
      · split
        · rename_i e
          rw [if_pos e.1, ← e.2] at hb
          exact le_max.2 ⟨h1.1, hb⟩
        · exact h1.1
      · split
        · rename_i e
          rw [if_neg e.1, ← e.2] at hb
          exact le_min.2 ⟨h1.2, hb⟩
        · exact h1.2
  constructor
  · rintro ⟨he, hv, hl, hb, hr⟩
    have := hq.1 hb
    exact ⟨⟨hva, hp, this.1, hr⟩, this.2⟩
  · rintro ⟨⟨_, hl, hb, hr⟩, hn⟩
    have hall := hq.2 ⟨hb, hn⟩
    have he : ¬ emR (cliR r d) := fun ⟨i, h1, h2⟩ => by
      have := hall i (by omega)
      exact Rat.not_lt.2 (Rat.le_trans this.1 this.2) h2
    exact ⟨he, cli_va hva he, by rw [e1]; exact hl, hall, hr⟩
theorem wi_con {a b : RegL} {p : List RatL} (h : wiR a b) (hc : conR a p) : conR b p := by
  obtain ⟨_, hb, hl, hr, hw⟩ := h
  obtain ⟨_, hl2, hi, hrows⟩ := hc
  refine ⟨hb, by omega, fun i hi' => ?_, fun i hi' => by rw [← hr] at hi' ⊢; exact hrows i hi'⟩
  have h1 := hi i hi'
  have h2 := hw i (by omega)
  exact ⟨Rat.le_trans h2.1 h1.1, Rat.le_trans h1.2 h2.2⟩
theorem wi_self {a : RegL} : wiR a a ↔ VaO a := ⟨fun h => h.1, fun h => ⟨h, h, rfl, rfl, fun _ _ => ⟨Rat.le_refl, Rat.le_refl⟩⟩⟩
theorem part_btw (l : List Int) (i : Nat) : 0 ≤ mkRat (inK l i) 8 ∧ mkRat (inK l i) 8 ≤ 1 := by
  have h : inK l i < 9 := by unfold inK; split <;> omega
  have : ∀ k : Nat, k < 9 → 0 ≤ mkRat (k : Nat) 8 ∧ mkRat (k : Nat) 8 ≤ 1 := by decide +kernel
  exact this _ h
theorem ins_btw {t a b : Rat} (ht : 0 ≤ t ∧ t ≤ 1) (h : a ≤ b) : a ≤ a + t * (b - a) ∧ a + t * (b - a) ≤ b := by
  have h1 : 0 ≤ t * (b - a) := Rat.mul_nonneg ht.1 (by grind)
  have h2 : 0 ≤ (1 - t) * (b - a) := Rat.mul_nonneg (by grind) (by grind)
  constructor <;> grind
theorem ins_len (r : RegL) (l : List Int) : (insR r l).length = r.lo.length := by simp [insR]
theorem ins_in {r : RegL} (hva : VaO r) (l : List Int) : ∀ i, i < (insR r l).length → qv r.lo[i]! ≤ (insR r l)[i]! ∧ (insR r l)[i]! ≤ qv r.hi[i]! := fun i hi => by
  rw [ins_len] at hi
  unfold insR
  rw [get_range hi]
  exact ins_btw (part_btw l i) (hva.2.2.2.2.1 i hi).2.2
theorem con_ins {r : RegL} (hva : VaO r) (l : List Int) : conR r ((insR r l).map cr) ↔ ∀ i, i < r.rows.length → 0 ≤ evQ r.rows[i]!.Q (insR r l) := by
  constructor
  · intro h i hi
    have := h.2.2.2 i hi
    rwa [map_cr_qv] at this
  · intro h
    refine ⟨hva, by simpa using ins_len r l, fun i hi => ?_, fun i hi => by rw [map_cr_qv]; exact h i hi⟩
    have hi : i < (insR r l).length := by simpa using hi
    rw [getD_map_cr hi, qv_cr]
    exact ins_in hva l i hi
theorem okLs_ins {k : Nat} {r : RegL} (hr : okReg k r) (hk : 1 ≤ k) (hlh : r.hi.length = r.lo.length) (l : List Int) : okLs (3 * k + 3) ((insR r l).map cr) := by
  refine ⟨by simpa [insR] using hr.1.1, fun x hx => ?_⟩
  unfold insR at hx
  simp only [List.map_map, List.mem_map, List.mem_range, Function.comp] at hx
  obtain ⟨i, hi, rfl⟩ := hx
  have q1 := okLs_get hr.1 hi
  have q2 := okLs_get hr.2.1 (i := i) (by omega)
  have s1 := sz_qv q1.1 q1.2.1 q1.2.2 hk
  have s2 := sz_qv q2.1 q2.2.1 q2.2.2 hk
  exact okQ_cr (sz_le (by omega) (sz_add s1 (sz_mul (sz_part l i) (sz_sub s2 s1))))
end Go.PI
