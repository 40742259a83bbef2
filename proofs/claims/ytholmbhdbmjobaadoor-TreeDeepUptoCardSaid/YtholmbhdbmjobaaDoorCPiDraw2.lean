/-
  PI: a region that draws its order: the order of the text serves every order.
-/
import Derived.Test.YtholmbhdbmjobaaDoorCPiDraw
set_option linter.unusedVariables false
set_option linter.unusedSimpArgs false
namespace Go.PI
open Go.RowKit

section
variable {P : Program} {G : Gl} {C : Contracts}

theorem frz_local {h h2 : Hp} : ∀ {n : Nat} {v d : PV} {ks : List Nat}, frz h n v = some (d, ks) → (∀ r ∈ ks, h2 r = h r) → frz h2 n v = some (d, ks) := by
  intro n
  induction n with
  | zero =>
    intro v d ks hf _
    cases v <;> simp [frz] at hf ⊢ <;> exact hf
  | succ n ih =>
    intro v d ks hf hk
    have hm' : ∀ (l ds : List PV) (ks : List Nat), mapF (frz h n) l = some (ds, ks) → (∀ r ∈ ks, h2 r = h r) → mapF (frz h2 n) l = some (ds, ks) := by
      intro l
      induction l with
      | nil => intro ds ks hm _; simpa [mapF] using hm
      | cons x l ihl =>
        intro ds ks hm hk
        unfold mapF at hm ⊢
        split at hm
        · rename_i d ks1 ds' ls h1 h2'
          cases hm
          rw [ih h1 (fun r hr => hk r (List.mem_append_left _ hr)), ihl _ _ h2' (fun r hr => hk r (List.mem_append_right _ hr))]
        · cases hm
    cases v with
    | agg cs =>
      simp only [frz] at hf ⊢
      split at hf
      · rename_i ds ks' hm
        cases hf
        rw [hm' _ _ _ hm hk]
      · cases hf
    | tup cs =>
      simp only [frz] at hf ⊢
      split at hf
      · rename_i ds ks' hm
        cases hf
        rw [hm' _ _ _ hm hk]
      · cases hf
    | own r off len =>
      simp only [frz] at hf ⊢
      split at hf
      · rename_i b hb
        split at hf
        · rename_i hle
          split at hf
          · rename_i ds ks' hm
            cases hf
            rw [hk r (by simp), hb]
            simp only [if_pos hle]
            rw [hm' _ _ _ hm (fun q hq => hk q (List.mem_cons_of_mem _ hq))]
          · cases hf
        · cases hf
      · cases hf
    | ptr r i off =>
      simp only [frz] at hf ⊢
      split at hf
      · rename_i b hb
        split at hf
        · rename_i e he
          split at hf
          · rename_i d ks' hd
            cases hf
            rw [hk r (by simp), hb]
            simp only [he]
            rw [ih hd (fun q hq => hk q (List.mem_cons_of_mem _ hq))]
          · cases hf
        · cases hf
      · cases hf
    | func fn f c =>
      simp only [frz] at hf ⊢
      split at hf
      · rename_i fs ks1 cs ks2 hm1 hm2
        cases hf
        rw [hm' _ _ _ hm1 (fun q hq => hk q (List.mem_append_left _ hq)), hm' _ _ _ hm2 (fun q hq => hk q (List.mem_append_right _ hq))]
      · cases hf
    | _ => first | (simp [frz] at hf; done) | simpa [frz] using hf

theorem mapF_frz_local {h h2 : Hp} {n : Nat} : ∀ {l ds : List PV} {ks : List Nat}, mapF (frz h n) l = some (ds, ks) → (∀ r ∈ ks, h2 r = h r) → mapF (frz h2 n) l = some (ds, ks)
  | [], ds, ks, hm, _ => by simpa [mapF] using hm
  | x :: l, ds, ks, hm, hk => by
    unfold mapF at hm ⊢
    split at hm
    · rename_i d ks1 ds' ls h1 h2'
      cases hm
      rw [frz_local h1 (fun r hr => hk r (List.mem_append_left _ hr)), mapF_frz_local h2' (fun r hr => hk r (List.mem_append_right _ hr))]
    · cases hm

/-- What an operation reads decides what it does: calls by contract, too. -/
theorem opD_local {key : Nat} {o : Oper} {s : St} {fp : FP} {v : PV} {h' : Hp} {z' : Fz} (hd : opD P G C key o s fp v h' z') :
    (∀ r, r ∉ fp.wr → h' r = s.h r) ∧ (∀ r, r ≠ key → s.h r = none → h' r = none ∧ r ∉ fp.fz) ∧ z' = fset s.z fp.fz ∧
    ∀ s2 : St, (∀ x ∈ o.op.operands.toList, ev G s2.t x = ev G s.t x) → (∀ r ∈ fp.rd, s2.h r = s.h r) → (∀ r ∈ fp.wr, s2.z r = s.z r) →
      opD P G C key o s2 fp v (over fp.wr h' s2.h) (fset s2.z fp.fz) := by
  unfold opD at hd
  split at hd
  · rename_i g args ts ho
    obtain ⟨f, pre, rest, m, ds, r, hcal, hfr, hC, hok, rfl, rfl, rfl, hrd, hwr⟩ := hd
    refine ⟨fun q hq => ?_, fun q hq hn => ⟨?_, fun hm => ?_⟩, rfl, fun s2 h1 h2 h3 => ?_⟩
    · rw [hwr] at hq
      cases r with
      | data d => rfl
      | fresh els sz agg => have : q ≠ key := by simpa [CRes.keys] using hq
                            simp [CRes.heap, hset, this]
      | gh i j b => have : q ≠ 0 := by simpa [CRes.keys] using hq
                    simp [CRes.heap, hset, this]
      | seq xs => rfl
    · cases r with
      | data d => exact hn
      | fresh els sz agg => simp [CRes.heap, hset, hq, hn]
      | gh i j b => have : q ≠ 0 := fun e => by
                      have h0 : s.h 0 = some (gblk i) := hok
                      rw [e, h0] at hn; cases hn
                    simp [CRes.heap, hset, this, hn]
      | seq xs => exact hn
    · obtain ⟨b, hb⟩ := mapF_frz_keys hfr q hm
      rw [hn] at hb; cases hb
    · unfold opD
      rw [ho]
      have hg := h1 g (by rw [ho]; simp [Op.operands, Call.operands])
      have ha : args.toList.map (ev G s2.t) = args.toList.map (ev G s.t) := List.map_congr_left fun x hx => h1 x (by rw [ho]; simp [Op.operands, Call.operands]; exact Or.inr (by simpa using hx))
      refine ⟨f, pre, rest, m, ds, r, by rw [hg, ha]; exact hcal, mapF_frz_local hfr (fun q hq => h2 q (by rw [hrd]; exact List.mem_append_right _ hq)), hC, ?_, rfl, ?_, rfl, hrd, hwr⟩
      · cases r with
        | gh i j b => exact (h2 0 (by rw [hrd]; simp [CRes.rds])).trans hok
        | seq xs => exact hok
        | _ => trivial
      rw [hwr]
      cases r with
      | data d => rfl
      | fresh els sz agg => exact over_one _ _ _ _
      | gh i j b => exact over_one _ _ _ _
      | seq xs => rfl
  · rename_i op hne
    obtain ⟨he, rfl, hf⟩ := hd
    have L := evalOp_local he
    have hz : ∀ z : Fz, fset z fp.fz = z := fun z => by rw [hf]; funext r; simp [fset]
    refine ⟨L.out, fun r hr hn => ⟨L.fresh r hr hn, by rw [hf]; simp⟩, (hz _).symm, fun s2 h1 h2 h3 => ?_⟩
    unfold opD
    split
    · rename_i g args ts ho
      exact absurd ho (hne g args ts)
    · exact ⟨L.loc s2.t s2.h s2.z h1 h2 h3, hz _, hf⟩

theorem tset_comm {t : Tm} {i j : Nat} {u v : PV} (h : i ≠ j) : tset (tset t i u) j v = tset (tset t j v) i u := by
  funext k
  simp only [tset]
  by_cases h1 : k = i
  · rw [h1]
    simp [h]
  · by_cases h2 : k = j
    · rw [h2]; simp [Ne.symm h]
    · simp [h1, h2]

theorem put_comm {s : St} {d e : Option Nat} {u v : PV} (h : ∀ i, d = some i → e ≠ some i) : put (put s d u) e v = put (put s e v) d u := by
  cases d with
  | none => rfl
  | some i =>
    cases e with
    | none => rfl
    | some j =>
      have : i ≠ j := fun e => h i rfl (by rw [e])
      simp only [put, tset_comm this]

theorem put_t {s : St} {d : Option Nat} {u : PV} {i : Nat} (h : d ≠ some i) : (put s d u).t i = s.t i := by
  cases d with
  | none => rfl
  | some j =>
    have : i ≠ j := fun e => h (by rw [e])
    simp [put, tset, this]
@[simp] theorem put_h {s : St} {d : Option Nat} {u : PV} : (put s d u).h = s.h := by cases d <;> rfl
@[simp] theorem put_z {s : St} {d : Option Nat} {u : PV} : (put s d u).z = s.z := by cases d <;> rfl
@[simp] theorem put_nx {s : St} {d : Option Nat} {u : PV} : (put s d u).nx = s.nx := by cases d <;> rfl

theorem wants_congr {ops : List Oper} {o : Oper} {t t2 : Tm} (h : ∀ d ∈ o.looksAt ops.toArray, t2 d = t d) : wants ops o t2 = wants ops o t := by
  unfold wants
  cases hg : o.guard with
  | none => rfl
  | some q =>
    obtain ⟨j, want⟩ := q
    simp only
    cases hd : (ops[j]?).bind (·.dst) with
    | none => rfl
    | some d =>
      have : t2 d = t d := h d (by simp [Oper.looksAt, hg, hd])
      simp only [this]

theorem ops_congr {ops : List Oper} {o : Oper} {t t2 : Tm} (h : ∀ d ∈ o.looksAt ops.toArray, t2 d = t d) : ∀ x ∈ o.op.operands.toList, ev G t2 x = ev G t x := fun x hx => ev_congr fun i hi => h i (by
  unfold Oper.looksAt
  rw [List.mem_append]
  left
  rw [List.mem_filterMap]
  exact ⟨x, hx, by rw [hi]⟩)

theorem apart_iff {a b : FP} (h : FP.apart a b = true) : (∀ k ∈ a.wr, k ∉ b.rd ∧ k ∉ b.wr ∧ k ∉ b.fz) ∧ (∀ k ∈ b.wr, k ∉ a.rd ∧ k ∉ a.fz) := by
  simp only [FP.apart, Bool.and_eq_true, List.all_eq_true, Bool.not_eq_true', contains_false] at h
  exact ⟨fun k hk => ⟨(h.1 k hk).1.1, (h.1 k hk).1.2, (h.1 k hk).2⟩, fun k hk => h.2 k hk⟩

theorem fset_comm (z : Fz) (a b : List Nat) : fset (fset z a) b = fset (fset z b) a := by
  funext r
  simp only [fset]
  cases a.contains r <;> cases b.contains r <;> simp

/-- Two operations that wait for each other in no way, and touch nothing in common, may be carried out the other way round. -/
theorem dstep_swap {ops : List Oper} {base : Nat} {fps : Nat → FP} {i j : Nat} {oi oj : Oper} (hi : ops[i]? = some oi) (hj : ops[j]? = some oj) (ha : oi.apart ops.toArray oj = true) (hf : FP.apart (fps i) (fps j) = true)
    {s s1 s2 : St} (h1 : DStep P G C ops base fps i s s1) (h2 : DStep P G C ops base fps j s1 s2) : ∃ s1', DStep P G C ops base fps j s s1' ∧ DStep P G C ops base fps i s1' s2 := by
  obtain ⟨a1, a2, a3⟩ := Oper.apart_spec ha
  obtain ⟨f1, f2⟩ := apart_iff hf
  obtain ⟨oi', hi', h1⟩ := h1
  rw [hi] at hi'; cases hi'
  obtain ⟨oj', hj', h2⟩ := h2
  rw [hj] at hj'; cases hj'
  have look_j : ∀ (s : St) (u : PV), ∀ d ∈ oj.looksAt ops.toArray, s.t d = (put s oi.dst u).t d := fun s u d hd => (put_t (fun e => a1 d e hd)).symm
  have look_i : ∀ (s : St) (u : PV), ∀ d ∈ oi.looksAt ops.toArray, (put s oj.dst u).t d = s.t d := fun s u d hd => put_t (fun e => a3 d e hd)
  rcases h1 with ⟨w1, v1, k1, z1, d1, rfl⟩ | ⟨w1, rfl⟩
  · obtain ⟨o1, o2, o3, o4⟩ := opD_local d1
    rcases h2 with ⟨w2, v2, k2, z2, d2, rfl⟩ | ⟨w2, rfl⟩
    · obtain ⟨p1, p2, p3, p4⟩ := opD_local d2
      simp only [put_h, put_z] at p1 p2 p3
      -- j first
      have e1 := p4 s (ops_congr (fun d hd => by have := look_j { s with h := k1, z := z1 } v1 d hd; exact this)) (fun r hr => by
          simp only [put_h]
          exact (o1 r (fun hw => (f1 r hw).1 hr)).symm) (fun r hr => by
          simp only [put_z]
          rw [o3]
          simp only [fset]
          have : (fps i).fz.contains r = false := contains_false.2 (f2 r hr).2
          rw [this]; rfl)
      refine ⟨put { s with h := over (fps j).wr k2 s.h, z := fset s.z (fps j).fz } oj.dst v2, ⟨oj, hj, Or.inl ⟨?_, v2, _, _, e1, rfl⟩⟩, ⟨oi, hi, Or.inl ⟨?_, v1, over (fps i).wr k1 (over (fps j).wr k2 s.h), fset (fset s.z (fps j).fz) (fps i).fz, ?_, ?_⟩⟩⟩
      · rw [← w2]
        exact (wants_congr (fun d hd => (look_j { s with h := k1, z := z1 } v1 d hd).symm)).symm
      · rw [← w1]
        exact wants_congr (fun d hd => look_i { s with h := over (fps j).wr k2 s.h, z := fset s.z (fps j).fz } v2 d hd)
      · have := o4 (put { s with h := over (fps j).wr k2 s.h, z := fset s.z (fps j).fz } oj.dst v2) (ops_congr (fun d hd => look_i { s with h := over (fps j).wr k2 s.h, z := fset s.z (fps j).fz } v2 d hd)) (fun r hr => by
            simp only [put_h, over]
            have : (fps j).wr.contains r = false := contains_false.2 (fun hw => (f2 r hw).1 hr)
            rw [this]; rfl) (fun r hr => by
            simp only [put_z, fset]
            have : (fps j).fz.contains r = false := contains_false.2 (f1 r hr).2.2
            rw [this]; rfl)
        simpa only [put_h, put_z] using this
      · have hz : z2 = fset (fset s.z (fps j).fz) (fps i).fz := by rw [p3, o3, fset_comm]
        have hk : k2 = over (fps i).wr k1 (over (fps j).wr k2 s.h) := by
          funext r
          simp only [over]
          by_cases hwi : (fps i).wr.contains r = true
          · rw [if_pos hwi]
            have : r ∉ (fps j).wr := (f1 r (by simpa using hwi)).2.1
            exact p1 r this
          · rw [if_neg hwi]
            by_cases hwj : (fps j).wr.contains r = true
            · rw [if_pos hwj]
            · rw [if_neg hwj]
              rw [p1 r (by simpa using hwj)]
              exact o1 r (by simpa using hwi)
        rw [← hz, ← hk]
        have : ∀ (q : St) (d : Option Nat) (u : PV) (hh : Hp) (zz : Fz), ({ put q d u with h := hh, z := zz } : St) = put { q with h := hh, z := zz } d u := fun q d u hh zz => by cases d <;> rfl
        rw [this, this]
        exact put_comm a2
    · -- j is passed over
      refine ⟨put s oj.dst (.tup []), ⟨oj, hj, Or.inr ⟨?_, rfl⟩⟩, ⟨oi, hi, Or.inl ⟨?_, v1, over (fps i).wr k1 s.h, fset s.z (fps i).fz, ?_, ?_⟩⟩⟩
      · rw [← w2]
        exact (wants_congr (fun d hd => (look_j { s with h := k1, z := z1 } v1 d hd).symm)).symm
      · rw [← w1]
        exact wants_congr (fun d hd => look_i s (.tup []) d hd)
      · have := o4 (put s oj.dst (.tup [])) (ops_congr (fun d hd => look_i s (.tup []) d hd)) (fun r _ => by simp only [put_h]) (fun r _ => by simp only [put_z])
        simpa only [put_h, put_z] using this
      · have hk : k1 = over (fps i).wr k1 s.h := by
          funext r
          simp only [over]
          by_cases hwi : (fps i).wr.contains r = true
          · rw [if_pos hwi]
          · rw [if_neg hwi]; exact o1 r (by simpa using hwi)
        rw [← hk, ← o3]
        have : ∀ (q : St) (d : Option Nat) (u : PV) (hh : Hp) (zz : Fz), ({ put q d u with h := hh, z := zz } : St) = put { q with h := hh, z := zz } d u := fun q d u hh zz => by cases d <;> rfl
        rw [this]
        exact put_comm a2
  · rcases h2 with ⟨w2, v2, k2, z2, d2, rfl⟩ | ⟨w2, rfl⟩
    · obtain ⟨p1, p2, p3, p4⟩ := opD_local d2
      simp only [put_h, put_z] at p1 p2 p3
      have e1 := p4 s (ops_congr (fun d hd => look_j s (.tup []) d hd)) (fun r _ => by simp only [put_h]) (fun r _ => by simp only [put_z])
      refine ⟨put { s with h := over (fps j).wr k2 s.h, z := fset s.z (fps j).fz } oj.dst v2, ⟨oj, hj, Or.inl ⟨?_, v2, _, _, e1, rfl⟩⟩, ⟨oi, hi, Or.inr ⟨?_, ?_⟩⟩⟩
      · rw [← w2]
        exact (wants_congr (fun d hd => (look_j s (.tup []) d hd).symm)).symm
      · rw [← w1]
        exact wants_congr (fun d hd => look_i { s with h := over (fps j).wr k2 s.h, z := fset s.z (fps j).fz } v2 d hd)
      · have hk : k2 = over (fps j).wr k2 s.h := by
          funext r
          simp only [over]
          by_cases hwi : (fps j).wr.contains r = true
          · rw [if_pos hwi]
          · rw [if_neg hwi]; exact p1 r (by simpa using hwi)
        rw [← hk, ← p3]
        have : ∀ (q : St) (d : Option Nat) (u : PV) (hh : Hp) (zz : Fz), ({ put q d u with h := hh, z := zz } : St) = put { q with h := hh, z := zz } d u := fun q d u hh zz => by cases d <;> rfl
        rw [this]
        exact put_comm a2
    · refine ⟨put s oj.dst (.tup []), ⟨oj, hj, Or.inr ⟨?_, rfl⟩⟩, ⟨oi, hi, Or.inr ⟨?_, ?_⟩⟩⟩
      · rw [← w2]
        exact (wants_congr (fun d hd => (look_j s (.tup []) d hd).symm)).symm
      · rw [← w1]
        exact wants_congr (fun d hd => look_i s (.tup []) d hd)
      · exact put_comm a2

/-- Whatever order is picked from here on. -/
def anyD (P : Program) (G : Gl) (C : Contracts) (ops : List Oper) (base : Nat) (fps : Nat → FP) (K : St → Prop) : Nat → Array Bool → St → Prop
  | 0, listed, s => Region.ready .any ops.toArray listed = [] ∧ K s
  | fuel + 1, listed, s => (Region.ready .any ops.toArray listed = [] → K s) ∧ ∀ i ∈ Region.ready .any ops.toArray listed, ∃ s', DStep P G C ops base fps i s s' ∧ anyD P G C ops base fps K fuel (listed.setIfInBounds i true) s'

theorem anyD_first {ops : List Oper} {base : Nat} {fps : Nat → FP} {K : St → Prop} {i : Nat} {oi : Oper} (hi : ops[i]? = some oi) : ∀ (fuel : Nat) (listed : Array Bool) (s s1 : St),
    (∀ j oj, ops[j]? = some oj → j ≠ i → listed.getD j true = false → (∀ e ∈ oj.after, Region.binds .any e = true → e.on ≠ i) → oi.apart ops.toArray oj = true ∧ FP.apart (fps i) (fps j) = true) →
    i ∈ Region.ready .any ops.toArray listed → DStep P G C ops base fps i s s1 → anyD P G C ops base fps K fuel (listed.setIfInBounds i true) s1 → anyD P G C ops base fps K (fuel + 1) listed s := by
  intro fuel
  induction fuel with
  | zero =>
    intro listed s s1 hfree hr hd H
    refine ⟨fun h => (by rw [h] at hr; cases hr), fun j hj => ?_⟩
    by_cases hji : j = i
    · subst hji; exact ⟨s1, hd, H⟩
    · have := ready_mono hj hji
      rw [H.1] at this
      cases this
  | succ fuel ih =>
    intro listed s s1 hfree hr hd H
    refine ⟨fun h => (by rw [h] at hr; cases hr), fun j hj => ?_⟩
    by_cases hji : j = i
    · subst hji; exact ⟨s1, hd, H⟩
    · obtain ⟨s2, d2, H2⟩ := H.2 j (ready_mono hj hji)
      obtain ⟨hun, oj, hoj, hall⟩ := mem_ready.1 hj
      have hoj' : ops[j]? = some oj := by simpa using hoj
      have hnot : ∀ e ∈ oj.after, Region.binds .any e = true → e.on ≠ i := by
        intro e he hb heq
        have h1 := hall e he hb
        have h0 := (mem_ready.1 hr).1
        rw [heq] at h1
        rcases Nat.lt_or_ge i listed.size with h' | h'
        · simp [h'] at h0 h1; rw [h0] at h1; cases h1
        · simp [Array.getElem?_eq_none h'] at h1
      obtain ⟨q1, q2⟩ := hfree j oj hoj' hji (by simpa using hun) hnot
      obtain ⟨s1', g1, g2⟩ := dstep_swap hi hoj' q1 q2 hd d2
      refine ⟨s1', g1, ih (listed.setIfInBounds j true) s1' s2 (fun k ok hk hki hkun hno => ?_) (ready_mono hr (Ne.symm hji)) g2 ?_⟩
      · refine hfree k ok hk hki ?_ hno
        by_cases hjk : j = k
        · subst hjk; simpa using hun
        · rw [getD_set_ne true hjk] at hkun; exact hkun
      · rw [Array.setIfInBounds_comm _ _ hji]
        exact H2

/-- The order of the text. -/
def chainD (P : Program) (G : Gl) (C : Contracts) (ops : List Oper) (base : Nat) (fps : Nat → FP) (K : St → Prop) : Nat → Nat → St → Prop
  | 0, _, s => K s
  | m + 1, i, s => ∃ s', DStep P G C ops base fps i s s' ∧ chainD P G C ops base fps K m (i + 1) s'

theorem anyD_lex {ops : List Oper} {base : Nat} {fps : Nat → FP} {K : St → Prop}
    (hp : ∀ i j oj, i < j → ops[j]? = some oj → (∀ e ∈ oj.after, Region.binds .any e = true → e.on ≠ i) → FP.apart (fps i) (fps j) = true) :
    ∀ (m k : Nat) (listed : Array Bool) (s : St), k + m = ops.length → (∀ j, j < k → listed.getD j true = true) → Region.lexFrom .any ops.toArray m k listed = true → chainD P G C ops base fps K m k s → anyD P G C ops base fps K m listed s
  | 0, k, listed, s, _, _, hB, h => ⟨by simpa [Region.lexFrom] using hB, h⟩
  | m + 1, k, listed, s, hl, hdone, hB, h => by
    simp only [Region.lexFrom, Bool.and_eq_true] at hB
    obtain ⟨⟨hr, hf⟩, hB'⟩ := hB
    obtain ⟨s', hd, hc⟩ := h
    have hk : k < ops.length := by omega
    have h0 : ops[k]? = some ops[k] := List.getElem?_eq_getElem hk
    have hfree := Region.free_spec (ops := ops.toArray) (oi := ops[k]) (by simp [hk]) hf
    have hr' : k ∈ Region.ready .any ops.toArray listed := by simpa using hr
    refine anyD_first h0 m listed s s' (fun j oj hj hjk hun hno => ⟨hfree j oj (by simpa using hj) hjk hun hno, ?_⟩) hr' hd
      (anyD_lex hp m (k + 1) _ s' (by omega) (fun j hj => ?_) hB' hc)
    · have hlt : k < j := by
        rcases Nat.lt_or_gt_of_ne hjk with h | h
        · have := hdone j h; rw [hun] at this; cases this
        · exact h
      exact hp k j oj hlt hj hno
    · rcases Nat.lt_or_eq_of_le (Nat.le_of_lt_succ hj) with h | h
      · have := hdone j h
        rw [getD_set_ne true (by omega)]; exact this
      · subst h
        by_cases hs : j < listed.size
        · simp [hs]
        · simp [Array.getElem?_eq_none (Nat.le_of_not_lt hs)]

end
end Go.PI
