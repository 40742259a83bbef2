/-
  For every input of bulk at most 1048576: DualsInvalid returns true and leaves all that came in as it was.
-/
import Derived.Test.YtigeioodiljlaaaGreatCPD
import Derived.Test.YtigeioodiljlaaaGreatCDB
import Derived.Test.YtigeioodiljlaaaGreatCRD
namespace Go.PI
set_option linter.unusedVariables false
set_option linter.unusedSimpArgs false
set_option linter.unnecessarySimpa false

/-- The sum of a form's terms at a point. -/
def dot (x : List Rat) : List QT → Rat
  | [] => 0
  | t :: l => t.2 * x[t.1.toNat]! + dot x l
theorem ev1_dot (x : List Rat) : ∀ (l : List QT) (y : Rat), ev1 x l y = y + dot x l
  | [], y => by simp only [ev1, List.foldl_nil, dot]; grind
  | t :: l, y => by
    have e : ev1 x (t :: l) y = ev1 x l (y + t.2 * x[t.1.toNat]!) := rfl
    rw [e, ev1_dot x l]; simp only [dot]; grind
theorem dot_append (x : List Rat) : ∀ (a b : List QT), dot x (a ++ b) = dot x a + dot x b
  | [], b => by simp only [List.nil_append, dot]; grind
  | t :: a, b => by simp only [List.cons_append, dot, dot_append x a b]; grind
theorem dot_nzq (x : List Rat) (v : Int) (c : Rat) : dot x (nzq v c) = c * x[v.toNat]! := by
  unfold nzq; split
  · rename_i h; subst h; simp only [dot]; grind
  · simp only [dot]; grind
theorem dot_mrg (x : List Rat) (c : Rat) : ∀ (n : Nat) (a b : List QT), a.length + b.length ≤ n → dot x (mrg c a b) = dot x a + c * dot x b
  | n, [], [], _ => by rw [mrg]; simp only [dot]; grind
  | 0, _ :: _, _, h => by simp at h
  | 0, _, _ :: _, h => by simp at h
  | n + 1, p :: a, [], hn => by
    rw [mrg, dot_append, dot_nzq, dot_mrg x c n a [] (by simp at hn ⊢; omega)]; simp only [dot]; grind
  | n + 1, [], q :: b, hn => by
    rw [mrg, dot_append, dot_nzq, dot_mrg x c n [] b (by simp at hn ⊢; omega)]; simp only [dot]; grind
  | n + 1, p :: a, q :: b, hn => by
    simp only [List.length_cons] at hn
    rw [mrg]
    split
    · rw [dot_append, dot_nzq, dot_mrg x c n a (q :: b) (by simp; omega)]; simp only [dot]; grind
    · split
      · rw [dot_append, dot_nzq, dot_mrg x c n (p :: a) b (by simp; omega)]; simp only [dot]; grind
      · have he : p.1 = q.1 := by omega
        rw [dot_append, dot_nzq, dot_mrg x c n a b (by omega)]; simp only [dot, he]; grind
theorem evQ_dot (f : QF) (x : List Rat) : evQ f x = f.c + dot x f.ts := ev1_dot x f.ts f.c
theorem dirQ_dot (f : QF) (x : List Rat) : dirQ f x = dot x f.ts := by unfold dirQ; rw [evQ_dot]; grind
theorem evQ_merge (x : List Rat) (f g : QF) (c : Rat) : evQ (mergeQ f g c) x = evQ f x + c * evQ g x := by
  simp only [evQ_dot, mergeQ, dot_mrg x c _ _ _ (Nat.le_refl _)]; grind
theorem dirQ_merge (x : List Rat) (f g : QF) (c : Rat) : dirQ (mergeQ f g c) x = dirQ f x + c * dirQ g x := by
  simp only [dirQ_dot, mergeQ, dot_mrg x c _ _ _ (Nat.le_refl _)]
theorem evQ_nil {f : QF} (h : f.ts = []) (x : List Rat) : evQ f x = f.c := by rw [evQ_dot, h]; simp only [dot]; grind
theorem dirQ_nil {f : QF} (h : f.ts = []) (x : List Rat) : dirQ f x = 0 := by rw [dirQ_dot, h]; rfl
theorem evQ_zero (x : List Rat) : evQ zeroQ x = 0 := evQ_nil rfl x
theorem dirQ_zero (x : List Rat) : dirQ zeroQ x = 0 := dirQ_nil rfl x

/-- The multipliers' sum of a number of each row. -/
def wsum (val : QF → Rat) : List QF → List RatL → Rat
  | f :: fs, y :: ys => qv y * val f + wsum val fs ys
  | _, _ => 0
theorem cmb_val {val : QF → Rat} (hv : ∀ f g c, val (mergeQ f g c) = val f + c * val g) : ∀ (fs : List QF) (ys : List RatL) (s : QF), (cmb mergeQ fs ys s).2 = true → val (cmb mergeQ fs ys s).1 = val s + wsum val fs ys
  | [], _, s, _ => by simp only [cmb, wsum]; grind
  | _ :: _, [], s, _ => by simp only [cmb, wsum]; grind
  | f :: fs, y :: ys, s, h => by
    simp only [cmb] at h ⊢
    split at h
    · rename_i hp
      rw [if_pos hp, cmb_val hv fs ys _ h, hv]; simp only [wsum]; grind
    · exact absurd h (by simp)
theorem posQ_le {y : RatL} (h : posQ y) : 0 ≤ qv y := Rat.not_lt.1 fun h2 => (posQ_iff h.1).1 h (sgnQ_neg.2 h2)
theorem cmb_pos : ∀ (fs : List QF) (ys : List RatL) (s : QF), (cmb mergeQ fs ys s).2 = true → ∀ i, i < fs.length → i < ys.length → 0 ≤ qv ys[i]!
  | [], _, _, _, i, hi, _ => by simp at hi
  | _ :: _, [], _, _, i, _, hi => by simp at hi
  | f :: fs, y :: ys, s, h, i, hi, hj => by
    simp only [cmb] at h
    split at h
    · rename_i hp
      match i, hi, hj with
      | 0, _, _ => simpa using posQ_le hp
      | i + 1, hi, hj => simpa using cmb_pos fs ys _ h i (by simpa using hi) (by simpa using hj)
    · exact absurd h (by simp)
theorem wsum_nonneg {val : QF → Rat} : ∀ (fs : List QF) (ys : List RatL) (s : QF), (cmb mergeQ fs ys s).2 = true → (∀ f ∈ fs, 0 ≤ val f) → 0 ≤ wsum val fs ys
  | [], _, _, _, _ => by simp only [wsum]; exact Rat.le_refl
  | _ :: _, [], _, _, _ => by simp only [wsum]; exact Rat.le_refl
  | f :: fs, y :: ys, s, h, hf => by
    simp only [cmb] at h
    split at h
    · rename_i hp
      simp only [wsum]
      exact Rat.add_nonneg (Rat.mul_nonneg (posQ_le hp) (hf f (by simp))) (wsum_nonneg fs ys _ h fun g hg => hf g (by simp [hg]))
    · exact absurd h (by simp)
theorem add_zero_of {a b : Rat} (ha : 0 ≤ a) (hb : 0 ≤ b) (h : a + b = 0) : a = 0 ∧ b = 0 := by constructor <;> grind
/-- The sum is zero exactly if each row's number or its multiplier is. -/
theorem wsum_zero {val : QF → Rat} : ∀ (fs : List QF) (ys : List RatL) (s : QF), (cmb mergeQ fs ys s).2 = true → (∀ f ∈ fs, 0 ≤ val f) → ys.length = fs.length → (wsum val fs ys = 0 ↔ ∀ i, i < ys.length → val fs[i]! = 0 ∨ qv ys[i]! = 0)
  | [], [], _, _, _, _ => by simp [wsum]
  | [], _ :: _, _, _, _, h => by simp at h
  | _ :: _, [], _, _, _, h => by simp at h
  | f :: fs, y :: ys, s, h, hf, hl => by
    simp only [cmb] at h
    split at h
    · rename_i hp
      have ih := wsum_zero fs ys _ h (fun g hg => hf g (by simp [hg])) (by simpa using hl)
      have h1 : 0 ≤ qv y * val f := Rat.mul_nonneg (posQ_le hp) (hf f (by simp))
      have h2 := wsum_nonneg (val := val) fs ys _ h fun g hg => hf g (by simp [hg])
      simp only [wsum]
      constructor
      · intro e i hi
        obtain ⟨e1, e2⟩ := add_zero_of h1 h2 e
        match i, hi with
        | 0, _ => simp only [List.getElem!_cons_zero]; rcases Rat.mul_eq_zero.1 e1 with h | h; exact .inr h; exact .inl h
        | i + 1, hi => simpa using ih.1 e2 i (by simpa using hi)
      · intro e
        have e0 := e 0 (by simp)
        simp only [List.getElem!_cons_zero] at e0
        rw [ih.2 fun i hi => by simpa using e (i + 1) (by simpa using hi)]
        rcases e0 with h | h <;> rw [h] <;> grind
    · exact absurd h (by simp)
end Go.PI
namespace Go.PI.Tryz
set_option linter.unusedVariables false
set_option linter.unusedSimpArgs false
set_option linter.unnecessarySimpa false
open Go.Proofs Go.PI

theorem cmbV_eq {P : QP} (hP : okQP P) {ys : List RatL} (h : (cmbV P ys).2 = true) :
    ys.length = P.rows.length ∧ (cmb mergeQ P.rows ys zeroQ).2 = true ∧ (cmbV P ys).1 = (cmb mergeQ P.rows ys zeroQ).1 := by
  have e := cmb_eq (op := opP) (fun s f y hs hf => opP_eq hs hf y) P.rows ys zeroQ srt_nil fun f hf => (hP.2.2.2 f hf).1
  unfold cmbV at h ⊢
  rw [e] at h ⊢
  split at h
  · rename_i hh; rw [if_pos hh]; exact ⟨hh.1, hh.2, rfl⟩
  · exact absurd h (by simp)
/-- A bound that there is: the objective is the bound and the multipliers' sum, at each point and along each ray. -/
theorem bnd_val {P : QP} (hP : okQP P) {ys : List RatL} (h : (bndV P ys).2 = true) (x : List Rat) :
    (cmbV P ys).2 = true ∧ evQ P.obj x = (bndV P ys).1 + wsum (fun f => evQ f x) P.rows ys ∧ dirQ P.obj x = wsum (fun f => dirQ f x) P.rows ys := by
  unfold bndV at h ⊢
  split at h
  · rename_i hh
    rw [if_pos hh]
    obtain ⟨h1, h2⟩ := hh
    obtain ⟨_, h3, h4⟩ := cmbV_eq hP h1
    have e1 := evQ_merge x P.obj (cmbV P ys).1 (-1)
    have e2 := dirQ_merge x P.obj (cmbV P ys).1 (-1)
    rw [evQ_nil h2] at e1
    rw [dirQ_nil h2] at e2
    have e3 := cmb_val (val := fun f => evQ f x) (evQ_merge x) P.rows ys zeroQ h3
    have e4 := cmb_val (val := fun f => dirQ f x) (dirQ_merge x) P.rows ys zeroQ h3
    rw [← h4] at e3 e4
    simp only [evQ_zero, dirQ_zero] at e3 e4
    refine ⟨h1, ?_, ?_⟩ <;> grind
  · exact absurd h (by simp)
theorem bnd_le {P : QP} (hP : okQP P) {ys : List RatL} (h : (bndV P ys).2 = true) {x : List Rat} (hx : feas P x) :
    (bndV P ys).1 ≤ evQ P.obj x ∧ ((bndV P ys).1 = evQ P.obj x ↔ ∀ i, i < ys.length → evQ P.rows[i]! x = 0 ∨ qv ys[i]! = 0) := by
  obtain ⟨h1, h2, _⟩ := bnd_val hP h x
  obtain ⟨hl, h3, _⟩ := cmbV_eq hP h1
  have h4 := wsum_nonneg (val := fun f => evQ f x) P.rows ys zeroQ h3 hx.2
  have h5 := wsum_zero (val := fun f => evQ f x) P.rows ys zeroQ h3 hx.2 hl
  refine ⟨by grind, ?_⟩
  rw [← h5]
  constructor <;> intro e <;> grind
theorem inf_no {P : QP} (hP : okQP P) {ys : List RatL} (h : infV P ys = true) {x : List Rat} (hx : feas P x) : False := by
  unfold infV at h
  simp only [Bool.and_eq_true, decide_eq_true_eq] at h
  obtain ⟨h1, h2, h3⟩ := h
  obtain ⟨_, h4, h5⟩ := cmbV_eq hP h1
  have e3 := cmb_val (val := fun f => evQ f x) (evQ_merge x) P.rows ys zeroQ h4
  have h6 := wsum_nonneg (val := fun f => evQ f x) P.rows ys zeroQ h4 hx.2
  rw [← h5] at e3
  simp only [evQ_nil h2, evQ_zero] at e3
  grind
theorem unb_no {P : QP} (hP : okQP P) {ys : List RatL} (h : (bndV P ys).2 = true) {x : List Rat} (hx : unbX P x) : False := by
  obtain ⟨h1, _, h2⟩ := bnd_val hP h x
  obtain ⟨_, h3, _⟩ := cmbV_eq hP h1
  have h4 := wsum_nonneg (val := fun f => dirQ f x) P.rows ys zeroQ h3 hx.1
  have := hx.2
  grind
/-- At most one status has a proof. -/
theorem one_status {P : QP} (hP : okQP P) {s t : SolL} (hs : chkP P s) (ht : chkP P t) : s.status = t.status ∧ qv s.value = qv t.value := by
  have val : ∀ {r : RatL}, r = ⟨false, [], []⟩ → qv r = 0 := fun h => by rw [h, ← cr_zero, qv_cr]
  have oo : ∀ {a b : SolL}, optP P a → optP P b → qv a.value ≤ qv b.value := fun ha hb => by
    have := (bnd_le hP ha.2.2.2.1 hb.1.2).1
    rw [ha.2.2.2.2.2, hb.2.2.2.2.1] at this
    exact this
  rcases hs with ⟨a, hs⟩ | ⟨a, hs⟩ | ⟨a, hs⟩ <;> rcases ht with ⟨b, ht⟩ | ⟨b, ht⟩ | ⟨b, ht⟩
  · exact ⟨by rw [a, b], Rat.le_antisymm (oo hs ht) (oo ht hs)⟩
  · exact (inf_no hP ht.2.2 hs.1.2).elim
  · exact (unb_no hP hs.2.2.2.1 ht.2.2.2.2.2).elim
  · exact (inf_no hP hs.2.2 ht.1.2).elim
  · exact ⟨by rw [a, b], by rw [val hs.1, val ht.1]⟩
  · exact (inf_no hP hs.2.2 ht.2.2.1.2).elim
  · exact (unb_no hP ht.2.2.2.1 hs.2.2.2.2.2).elim
  · exact (inf_no hP ht.2.2 hs.2.2.1.2).elim
  · exact ⟨by rw [a, b], by rw [val hs.1, val ht.1]⟩
end Go.PI.Tryz
namespace Go.PI.Tryz
set_option linter.unnecessarySimpa false
open Go.Proofs Go.PI
set_option linter.unusedSimpArgs false
set_option linter.unusedVariables false

/-- A solution as it comes in. -/
def okB (s : SolL) : Prop := okQ 1048576 s.value ∧ okL s.point ∧ okL s.dual ∧ okL s.ray
theorem okSol_of {s : SolL} (h : okB s) (h1 : smL s.point) (h2 : smL s.dual) (h3 : smL s.ray) (h4 : smL [s.value]) : okSol s := by
  have hv := h4.2 0 (by simp)
  simp only [List.getElem!_cons_zero] at hv
  exact ⟨⟨h.1.1, hv.1, hv.2⟩, (okL_4 h.2.1 h1).1, (okL_4 h.2.2.1 h2).1, (okL_4 h.2.2.2 h3).1, h1.1, h2.1, h3.1⟩
theorem okL_one {x : RatL} (h : okQ 1048576 x) : okL [x] := ⟨by simp, fun y hy => by simp at hy; subst hy; exact h⟩

theorem ok_dualsOneStatus : FnOk Tryz.prog 9 Tryz.f9 (Tryz.f9.body.getD .skip) [.tmp 6] 54 := ⟨Tryz.func9, rfl, by decide, Tryz.ntmps9, Tryz.results9, by kernel_rfl, by kernel_rfl⟩
theorem c_dualsOneStatus (p : ProgL) (s t : SolL) (hp : okP 1048576 p) (hs : okB s) (ht : okB t) : Fn 9 [encProg p, encSol s, encSol t] (.data (.bool true)) := by
  have cw := c_wsmall p [s.point, s.dual, s.ray, [s.value], t.point, t.dual, t.ray, [t.value]] (okP_le (by decide) hp) (by simp) (okL_len (fun l hl => by
    simp only [List.mem_cons, List.not_mem_nil, or_false] at hl
    rcases hl with rfl | rfl | rfl | rfl | rfl | rfl | rfl | rfl
    · exact hs.2.1
    · exact hs.2.2.1
    · exact hs.2.2.2
    · exact okL_one hs.1
    · exact ht.2.1
    · exact ht.2.2.1
    · exact ht.2.2.2
    · exact okL_one ht.1))
  by_cases hsm : smA p [s.point, s.dual, s.ray, [s.value], t.point, t.dual, t.ray, [t.value]]
  · rw [dB_true.2 hsm] at cw
    have hP := smP_of hp hsm.1
    have he := encP_of hsm.1.2.2.2
    have h := hsm.2
    have os := okSol_of hs (h 0 (by simp)) (h 1 (by simp)) (h 2 (by simp)) (h 3 (by simp))
    have ot := okSol_of ht (h 4 (by simp)) (h 5 (by simp)) (h 6 (by simp)) (h 7 (by simp))
    have c1 := c_dcheck p.Q s hP os
    have c2 := c_dcheck p.Q t hP ot
    have one : chkP p.Q s → chkP p.Q t → s.status = t.status ∧ sgnQ (qv s.value - qv t.value) = 0 := fun a b => by
      obtain ⟨e1, e2⟩ := one_status hP.1 a b
      exact ⟨e1, sgnQ_zero.2 (by rw [e2]; grind)⟩
    have cq := c_rqcmp s.value t.value hs.1.1 ht.1.1 (by have := os.1.2; omega) (by have := os.1.2; omega) (by have := ot.1.2; omega) (by have := ot.1.2; omega)
    rw [he] at cw ⊢
    generalize p.Q = P at *
    refine fnC_v hmix hT ok_dualsOneStatus (by simp [encP, encSol]) ?_
    (repeat' (first|refine stp ?_|(with_reducible refine brr ?_ ?_<;>intro h)|(with_reducible refine nilImm_map ?_ ?_<;>intro h)|with_reducible refine anyb_of ?_ ?_)); all_goals try (conv=>whnf)
    refine callV_data c_awake rfl ?_
    (repeat' (first|refine stp ?_|(with_reducible refine brr ?_ ?_<;>intro h)|(with_reducible refine nilImm_map ?_ ?_<;>intro h)|with_reducible refine anyb_of ?_ ?_)); all_goals try (conv=>whnf)
    refine callV_data cw rfl ?_
    (repeat' (first|refine stp ?_|(with_reducible refine brr ?_ ?_<;>intro h)|(with_reducible refine nilImm_map ?_ ?_<;>intro h)|with_reducible refine anyb_of ?_ ?_)); all_goals try (conv=>whnf)
    refine callV_data c1 rfl ?_
    (repeat' (first|refine stp ?_|(with_reducible refine brr ?_ ?_<;>intro h)|(with_reducible refine nilImm_map ?_ ?_<;>intro h)|with_reducible refine anyb_of ?_ ?_)); all_goals try (conv=>whnf)
    · refine callV_data c2 rfl ?_
      (repeat' (first|refine stp ?_|(with_reducible refine brr ?_ ?_<;>intro h)|(with_reducible refine nilImm_map ?_ ?_<;>intro h)|with_reducible refine anyb_of ?_ ?_)); all_goals try (conv=>whnf)
      · obtain ⟨e1, e2⟩ := one (by assumption) (by assumption)
        rw [e2] at cq
        refine callV_data cq rfl ?_
        (repeat' (first|refine stp ?_|(with_reducible refine brr ?_ ?_<;>intro h)|(with_reducible refine nilImm_map ?_ ?_<;>intro h)|with_reducible refine anyb_of ?_ ?_)); all_goals try (conv=>whnf)
        exact givesV_to rfl rfl
      all_goals first | exact givesV_to rfl rfl | (exfalso; have e := (one (by assumption) (by assumption)).1; first | exact absurd e (by assumption) | omega)
    all_goals exact givesV_to rfl rfl
  · rw [dB_false.2 hsm] at cw
    refine fnC_v hmix hT ok_dualsOneStatus (by simp [encProg, encSol]) ?_
    (repeat' (first|refine stp ?_|(with_reducible refine brr ?_ ?_<;>intro h)|(with_reducible refine nilImm_map ?_ ?_<;>intro h)|with_reducible refine anyb_of ?_ ?_)); all_goals try (conv=>whnf)
    refine callV_data c_awake rfl ?_
    (repeat' (first|refine stp ?_|(with_reducible refine brr ?_ ?_<;>intro h)|(with_reducible refine nilImm_map ?_ ?_<;>intro h)|with_reducible refine anyb_of ?_ ?_)); all_goals try (conv=>whnf)
    refine callV_data cw rfl ?_
    (repeat' (first|refine stp ?_|(with_reducible refine brr ?_ ?_<;>intro h)|(with_reducible refine nilImm_map ?_ ?_<;>intro h)|with_reducible refine anyb_of ?_ ?_)); all_goals try (conv=>whnf)
    exact givesV_to rfl rfl
end Go.PI.Tryz
namespace Go.PI.Tryz
set_option linter.unnecessarySimpa false
open Go.Proofs Go.PI
set_option linter.unusedSimpArgs false
set_option linter.unusedVariables false

theorem rpvalid_dB {p : ProgL} (h : okP 1048576 p) : Fn 29 [encProg p] (.data (.bool (validPB p))) := c_rpvalid p (okP_le (by decide) h)
abbrev zA : PV := .agg [.imm [], .bool false, .imm [], .imm []]
theorem i_dcomb (p : ProgL) (ys : List RatL) (hp : okP 1048576 p) (hn : ¬ ValidP p) : Fn 12 [encProg p, .imm (ys.map encRat)] (.data (.tup [zA, .bool false])) := by
  have cv := pvalid_no (okP_le (by decide) hp) hn
  refine fnC_v hmix hT ok_dcomb (by simp [encProg]) ?_
  (repeat' (first|refine stp ?_|(with_reducible refine brr ?_ ?_<;>intro h)|(with_reducible refine nilImm_map ?_ ?_<;>intro h)|with_reducible refine anyb_of ?_ ?_)); all_goals try (conv=>whnf)
  refine callV_data cv rfl ?_
  (repeat' (first|refine stp ?_|(with_reducible refine brr ?_ ?_<;>intro h)|(with_reducible refine nilImm_map ?_ ?_<;>intro h)|with_reducible refine anyb_of ?_ ?_)); all_goals try (conv=>whnf)
  exact givesV_to rfl rfl
theorem i_dbound (p : ProgL) (ys : List RatL) (hp : okP 1048576 p) (hn : ¬ ValidP p) : Fn 14 [encProg p, .imm (ys.map encRat)] (.data (.tup [encRat ⟨false, [], []⟩, .bool false])) := by
  have cc := i_dcomb p ys hp hn
  refine fnC_v hmix hT ok_dbound (by simp [encProg]) ?_
  (repeat' (first|refine stp ?_|(with_reducible refine brr ?_ ?_<;>intro h)|(with_reducible refine nilImm_map ?_ ?_<;>intro h)|with_reducible refine anyb_of ?_ ?_)); all_goals try (conv=>whnf)
  refine callV_data cc rfl ?_
  (repeat' (first|refine stp ?_|(with_reducible refine brr ?_ ?_<;>intro h)|(with_reducible refine nilImm_map ?_ ?_<;>intro h)|with_reducible refine anyb_of ?_ ?_)); all_goals try (conv=>whnf)
  exact givesV_to rfl rfl
theorem i_dinfeas (p : ProgL) (ys : List RatL) (hp : okP 1048576 p) (hn : ¬ ValidP p) : Fn 22 [encProg p, .imm (ys.map encRat)] (.data (.bool false)) := by
  have cc := i_dcomb p ys hp hn
  refine fnC_v hmix hT ok_dinfeas (by simp [encProg]) ?_
  (repeat' (first|refine stp ?_|(with_reducible refine brr ?_ ?_<;>intro h)|(with_reducible refine nilImm_map ?_ ?_<;>intro h)|with_reducible refine anyb_of ?_ ?_)); all_goals try (conv=>whnf)
  refine callV_data cc rfl ?_
  (repeat' (first|refine stp ?_|(with_reducible refine brr ?_ ?_<;>intro h)|(with_reducible refine nilImm_map ?_ ?_<;>intro h)|with_reducible refine anyb_of ?_ ?_)); all_goals try (conv=>whnf)
  exact givesV_to rfl rfl
theorem i_pfeas (p : ProgL) (l : List RatL) (hp : okP 1048576 p) (hn : ¬ ValidP p) : Fn 87 [encProg p, .imm (l.map encRat)] (.data (.bool false)) := by
  have cv := pvalid_no (okP_le (by decide) hp) hn
  refine fnC_v hmix hT ok_pfeas (by simp [encProg]) ?_
  (repeat' (first|refine stp ?_|(with_reducible refine brr ?_ ?_<;>intro h)|(with_reducible refine nilImm_map ?_ ?_<;>intro h)|with_reducible refine anyb_of ?_ ?_)); all_goals try (conv=>whnf)
  refine callV_data cv rfl ?_
  (repeat' (first|refine stp ?_|(with_reducible refine brr ?_ ?_<;>intro h)|(with_reducible refine nilImm_map ?_ ?_<;>intro h)|with_reducible refine anyb_of ?_ ?_)); all_goals try (conv=>whnf)
  exact givesV_to rfl rfl
theorem i_dfeas (p : ProgL) (l : List RatL) (hp : okP 1048576 p) (hn : ¬ ValidP p) (hl : okL l) : Fn 52 [encProg p, .imm (l.map encRat)] (.data (.bool false)) := by
  have cc := c_dcanon l (fun x hx => okQ_le (by decide) (hl.2 x hx)) hl.1
  have cf := i_pfeas p l hp hn
  refine fnC_v hmix hT ok_dfeas (by simp [encProg]) ?_
  (repeat' (first|refine stp ?_|(with_reducible refine brr ?_ ?_<;>intro h)|(with_reducible refine nilImm_map ?_ ?_<;>intro h)|with_reducible refine anyb_of ?_ ?_)); all_goals try (conv=>whnf)
  refine callV_data cc rfl ?_
  (repeat' (first|refine stp ?_|(with_reducible refine brr ?_ ?_<;>intro h)|(with_reducible refine nilImm_map ?_ ?_<;>intro h)|with_reducible refine anyb_of ?_ ?_)); all_goals try (conv=>whnf)
  · refine callV_data cf rfl ?_
    (repeat' (first|refine stp ?_|(with_reducible refine brr ?_ ?_<;>intro h)|(with_reducible refine nilImm_map ?_ ?_<;>intro h)|with_reducible refine anyb_of ?_ ?_)); all_goals try (conv=>whnf)
    exact givesV_to rfl rfl
  · exact givesV_to rfl rfl
theorem i_dopt (p : ProgL) (s : SolL) (hp : okP 1048576 p) (hn : ¬ ValidP p) (hs : okB s) : Fn 20 [encProg p, encSol s] (.data (.bool false)) := by
  have cc := i_dfeas p s.point hp hn hs.2.1
  refine fnC_v hmix hT ok_dopt (by simp [encProg, encSol]) ?_
  (repeat' (first|refine stp ?_|(with_reducible refine brr ?_ ?_<;>intro h)|(with_reducible refine nilImm_map ?_ ?_<;>intro h)|with_reducible refine anyb_of ?_ ?_)); all_goals try (conv=>whnf)
  refine callV_data cc rfl ?_
  (repeat' (first|refine stp ?_|(with_reducible refine brr ?_ ?_<;>intro h)|(with_reducible refine nilImm_map ?_ ?_<;>intro h)|with_reducible refine anyb_of ?_ ?_)); all_goals try (conv=>whnf)
  exact givesV_to rfl rfl
theorem i_dunb (p : ProgL) (pt ray : List RatL) (hp : okP 1048576 p) (hn : ¬ ValidP p) (hl : okL pt) : Fn 24 [encProg p, .imm (pt.map encRat), .imm (ray.map encRat)] (.data (.bool false)) := by
  have cc := i_dfeas p pt hp hn hl
  refine fnC_v hmix hT ok_dunb (by simp [encProg]) ?_
  (repeat' (first|refine stp ?_|(with_reducible refine brr ?_ ?_<;>intro h)|(with_reducible refine nilImm_map ?_ ?_<;>intro h)|with_reducible refine anyb_of ?_ ?_)); all_goals try (conv=>whnf)
  refine callV_data cc rfl ?_
  (repeat' (first|refine stp ?_|(with_reducible refine brr ?_ ?_<;>intro h)|(with_reducible refine nilImm_map ?_ ?_<;>intro h)|with_reducible refine anyb_of ?_ ?_)); all_goals try (conv=>whnf)
  exact givesV_to rfl rfl
theorem i_dslack (p : ProgL) (pt ys : List RatL) (hp : okP 1048576 p) (hn : ¬ ValidP p) : Fn 27 [encProg p, .imm (pt.map encRat), .imm (ys.map encRat)] (.data (.bool false)) := by
  have cc := i_dcomb p ys hp hn
  refine fnC_v hmix hT ok_dslack (by simp [encProg]) ?_
  (repeat' (first|refine stp ?_|(with_reducible refine brr ?_ ?_<;>intro h)|(with_reducible refine nilImm_map ?_ ?_<;>intro h)|with_reducible refine anyb_of ?_ ?_)); all_goals try (conv=>whnf)
  refine callV_data cc rfl ?_
  (repeat' (first|refine stp ?_|(with_reducible refine brr ?_ ?_<;>intro h)|(with_reducible refine nilImm_map ?_ ?_<;>intro h)|with_reducible refine anyb_of ?_ ?_)); all_goals try (conv=>whnf)
  exact givesV_to rfl rfl
theorem i_dchk1 (p : ProgL) (s : SolL) (hp : okP 1048576 p) (hn : ¬ ValidP p) (hs : okB s) : Fn 47 [.cptr (encProg p) 0, .cptr (encSol s) 0] (.data (.bool false)) := by
  have cc := i_dopt p s hp hn hs
  refine fnC_v hmix hT ok_dchk1 (by simp [encProg, encSol]) ?_
  (repeat' (first|refine stp ?_|(with_reducible refine brr ?_ ?_<;>intro h)|(with_reducible refine nilImm_map ?_ ?_<;>intro h)|with_reducible refine anyb_of ?_ ?_)); all_goals try (conv=>whnf)
  refine callV_data cc rfl ?_
  (repeat' (first|refine stp ?_|(with_reducible refine brr ?_ ?_<;>intro h)|(with_reducible refine nilImm_map ?_ ?_<;>intro h)|with_reducible refine anyb_of ?_ ?_)); all_goals try (conv=>whnf)
  exact givesV_to rfl rfl
theorem i_dchk2 (p : ProgL) (s : SolL) (hp : okP 1048576 p) (hn : ¬ ValidP p) (hs : okB s) : Fn 48 [.cptr (encSol s) 0, .cptr (encProg p) 0] (.data (.bool false)) := by
  have cz := c_dzero s
  have cc := i_dinfeas p s.dual hp hn
  have h1 := hs.2.1.1
  have h2 := hs.2.2.2.1
  refine fnC_v hmix hT ok_dchk2 (by simp [encProg, encSol]) ?_
  (repeat' (first|refine stp ?_|(with_reducible refine brr ?_ ?_<;>intro h)|(with_reducible refine nilImm_map ?_ ?_<;>intro h)|with_reducible refine anyb_of ?_ ?_)); all_goals try (conv=>whnf)
  refine callV_data cz rfl ?_
  (repeat' (first|refine stp ?_|(with_reducible refine brr ?_ ?_<;>intro h)|(with_reducible refine nilImm_map ?_ ?_<;>intro h)|with_reducible refine anyb_of ?_ ?_)); all_goals try (conv=>whnf)
  · refine callV_data cc rfl ?_
    (repeat' (first|refine stp ?_|(with_reducible refine brr ?_ ?_<;>intro h)|(with_reducible refine nilImm_map ?_ ?_<;>intro h)|with_reducible refine anyb_of ?_ ?_)); all_goals try (conv=>whnf)
    exact givesV_to rfl rfl
  all_goals exact givesV_to rfl rfl
theorem i_dchk3 (p : ProgL) (s : SolL) (hp : okP 1048576 p) (hn : ¬ ValidP p) (hs : okB s) : Fn 50 [.cptr (encSol s) 0, .cptr (encProg p) 0] (.data (.bool false)) := by
  have cz := c_dzero s
  have cc := i_dunb p s.point s.ray hp hn hs.2.1
  refine fnC_v hmix hT ok_dchk3 (by simp [encProg, encSol]) ?_
  (repeat' (first|refine stp ?_|(with_reducible refine brr ?_ ?_<;>intro h)|(with_reducible refine nilImm_map ?_ ?_<;>intro h)|with_reducible refine anyb_of ?_ ?_)); all_goals try (conv=>whnf)
  refine callV_data cz rfl ?_
  (repeat' (first|refine stp ?_|(with_reducible refine brr ?_ ?_<;>intro h)|(with_reducible refine nilImm_map ?_ ?_<;>intro h)|with_reducible refine anyb_of ?_ ?_)); all_goals try (conv=>whnf)
  · refine callV_data cc rfl ?_
    (repeat' (first|refine stp ?_|(with_reducible refine brr ?_ ?_<;>intro h)|(with_reducible refine nilImm_map ?_ ?_<;>intro h)|with_reducible refine anyb_of ?_ ?_)); all_goals try (conv=>whnf)
    exact givesV_to rfl rfl
  all_goals exact givesV_to rfl rfl
theorem i_dcheck (p : ProgL) (s : SolL) (hp : okP 1048576 p) (hn : ¬ ValidP p) (hs : okB s) : Fn 18 [encProg p, encSol s] (.data (.bool false)) := by
  have k1 := i_dchk1 p s hp hn hs
  have k2 := i_dchk2 p s hp hn hs
  have k3 := i_dchk3 p s hp hn hs
  obtain ⟨st, val, pt, du, ra, ba, pv⟩ := s
  by_cases e1 : st = 1
  · subst e1
    refine fnC_v hmix hT ok_dcheck (by simp [encProg]) ?_
    (repeat' (first|refine stp ?_|(with_reducible refine brr ?_ ?_<;>intro h)|(with_reducible refine nilImm_map ?_ ?_<;>intro h)|with_reducible refine anyb_of ?_ ?_)); all_goals try (conv=>whnf)
    refine callV_data k1 rfl ?_
    (repeat' (first|refine stp ?_|(with_reducible refine brr ?_ ?_<;>intro h)|(with_reducible refine nilImm_map ?_ ?_<;>intro h)|with_reducible refine anyb_of ?_ ?_)); all_goals try (conv=>whnf)
    exact givesV_to rfl rfl
  by_cases e2 : st = 2
  · subst e2
    refine fnC_v hmix hT ok_dcheck (by simp [encProg]) ?_
    (repeat' (first|refine stp ?_|(with_reducible refine brr ?_ ?_<;>intro h)|(with_reducible refine nilImm_map ?_ ?_<;>intro h)|with_reducible refine anyb_of ?_ ?_)); all_goals try (conv=>whnf)
    refine callV_data k2 rfl ?_
    (repeat' (first|refine stp ?_|(with_reducible refine brr ?_ ?_<;>intro h)|(with_reducible refine nilImm_map ?_ ?_<;>intro h)|with_reducible refine anyb_of ?_ ?_)); all_goals try (conv=>whnf)
    exact givesV_to rfl rfl
  by_cases e3 : st = 3
  · subst e3
    refine fnC_v hmix hT ok_dcheck (by simp [encProg]) ?_
    (repeat' (first|refine stp ?_|(with_reducible refine brr ?_ ?_<;>intro h)|(with_reducible refine nilImm_map ?_ ?_<;>intro h)|with_reducible refine anyb_of ?_ ?_)); all_goals try (conv=>whnf)
    refine callV_data k3 rfl ?_
    (repeat' (first|refine stp ?_|(with_reducible refine brr ?_ ?_<;>intro h)|(with_reducible refine nilImm_map ?_ ?_<;>intro h)|with_reducible refine anyb_of ?_ ?_)); all_goals try (conv=>whnf)
    exact givesV_to rfl rfl
  refine fnC_v hmix hT ok_dcheck (by simp [encProg]) ?_
  (repeat' (first|refine stp ?_|(with_reducible refine brr ?_ ?_<;>intro h)|(with_reducible refine nilImm_map ?_ ?_<;>intro h)|with_reducible refine anyb_of ?_ ?_)); all_goals try (conv=>whnf)
  all_goals try (exfalso; omega)
  all_goals exact givesV_to rfl rfl

theorem ok_dualsInvalid : FnOk Tryz.prog 6 Tryz.f6 (Tryz.f6.body.getD .skip) [.tmp 4] 94 := ⟨Tryz.func6, rfl, by decide, Tryz.ntmps6, Tryz.results6, by kernel_rfl, by kernel_rfl⟩
theorem c_dualsInvalid (p : ProgL) (s : SolL) (hp : okP 1048576 p) (hs : okB s) : Fn 6 [encProg p, encSol s] (.data (.bool true)) := by
  have cv := rpvalid_dB hp
  have hpl := hp.2.2
  have h1 := hs.2.1.1
  have h2 := hs.2.2.1.1
  have h3 := hs.2.2.2.1
  by_cases hn : ValidP p
  · rw [validPB_true.2 hn] at cv
    refine fnC_v hmix hT ok_dualsInvalid (by simp [encProg, encSol]) ?_
    (repeat' (first|refine stp ?_|(with_reducible refine brr ?_ ?_<;>intro h)|(with_reducible refine nilImm_map ?_ ?_<;>intro h)|with_reducible refine anyb_of ?_ ?_)); all_goals try (conv=>whnf)
    refine callV_data c_awake rfl ?_
    (repeat' (first|refine stp ?_|(with_reducible refine brr ?_ ?_<;>intro h)|(with_reducible refine nilImm_map ?_ ?_<;>intro h)|with_reducible refine anyb_of ?_ ?_)); all_goals try (conv=>whnf)
    · exact givesV_to rfl rfl
    refine callV_data cv rfl ?_
    (repeat' (first|refine stp ?_|(with_reducible refine brr ?_ ?_<;>intro h)|(with_reducible refine nilImm_map ?_ ?_<;>intro h)|with_reducible refine anyb_of ?_ ?_)); all_goals try (conv=>whnf)
    exact givesV_to rfl rfl
  · rw [validPB_false.2 hn] at cv
    have a1 := i_dcomb p s.dual hp hn
    have a2 := i_dbound p s.dual hp hn
    have a3 := i_dcheck p s hp hn hs
    have a4 := i_dopt p s hp hn hs
    have a5 := i_dinfeas p s.dual hp hn
    have a6 := i_dunb p s.point s.ray hp hn hs.2.1
    have a7 := i_dslack p s.point s.dual hp hn
    refine fnC_v hmix hT ok_dualsInvalid (by simp [encProg, encSol]) ?_
    (repeat' (first|refine stp ?_|(with_reducible refine brr ?_ ?_<;>intro h)|(with_reducible refine nilImm_map ?_ ?_<;>intro h)|with_reducible refine anyb_of ?_ ?_)); all_goals try (conv=>whnf)
    refine callV_data c_awake rfl ?_
    (repeat' (first|refine stp ?_|(with_reducible refine brr ?_ ?_<;>intro h)|(with_reducible refine nilImm_map ?_ ?_<;>intro h)|with_reducible refine anyb_of ?_ ?_)); all_goals try (conv=>whnf)
    · exact givesV_to rfl rfl
    refine callV_data cv rfl ?_
    (repeat' (first|refine stp ?_|(with_reducible refine brr ?_ ?_<;>intro h)|(with_reducible refine nilImm_map ?_ ?_<;>intro h)|with_reducible refine anyb_of ?_ ?_)); all_goals try (conv=>whnf)
    · exact givesV_to rfl rfl
    · exact givesV_to rfl rfl
    · exact givesV_to rfl rfl
    refine callV_data a1 rfl ?_
    (repeat' (first|refine stp ?_|(with_reducible refine brr ?_ ?_<;>intro h)|(with_reducible refine nilImm_map ?_ ?_<;>intro h)|with_reducible refine anyb_of ?_ ?_)); all_goals try (conv=>whnf)
    refine callV_data a2 rfl ?_
    (repeat' (first|refine stp ?_|(with_reducible refine brr ?_ ?_<;>intro h)|(with_reducible refine nilImm_map ?_ ?_<;>intro h)|with_reducible refine anyb_of ?_ ?_)); all_goals try (conv=>whnf)
    refine callV_data a3 rfl ?_
    (repeat' (first|refine stp ?_|(with_reducible refine brr ?_ ?_<;>intro h)|(with_reducible refine nilImm_map ?_ ?_<;>intro h)|with_reducible refine anyb_of ?_ ?_)); all_goals try (conv=>whnf)
    refine callV_data a4 rfl ?_
    (repeat' (first|refine stp ?_|(with_reducible refine brr ?_ ?_<;>intro h)|(with_reducible refine nilImm_map ?_ ?_<;>intro h)|with_reducible refine anyb_of ?_ ?_)); all_goals try (conv=>whnf)
    refine callV_data a5 rfl ?_
    (repeat' (first|refine stp ?_|(with_reducible refine brr ?_ ?_<;>intro h)|(with_reducible refine nilImm_map ?_ ?_<;>intro h)|with_reducible refine anyb_of ?_ ?_)); all_goals try (conv=>whnf)
    refine callV_data a6 rfl ?_
    (repeat' (first|refine stp ?_|(with_reducible refine brr ?_ ?_<;>intro h)|(with_reducible refine nilImm_map ?_ ?_<;>intro h)|with_reducible refine anyb_of ?_ ?_)); all_goals try (conv=>whnf)
    refine callV_data a7 rfl ?_
    (repeat' (first|refine stp ?_|(with_reducible refine brr ?_ ?_<;>intro h)|(with_reducible refine nilImm_map ?_ ?_<;>intro h)|with_reducible refine anyb_of ?_ ?_)); all_goals try (conv=>whnf)
    exact givesV_to rfl rfl
end Go.PI.Tryz
namespace Go.Proofs.YtigeioodiljlaaaGreat
set_option linter.unusedSimpArgs false
set_option linter.unnecessarySimpa false
open Go Go.PI Go.PI.Tryz
open Go.ChangeShapes Go.WideShapes Go.ChangeAt Go.RowKit
set_option linter.unusedVariables false
theorem ok_law_dualsInvalid : FnOk Tryz.prog 6 Tryz.f6 (Tryz.f6.body.getD .skip) [.tmp 4] 94 := ⟨Tryz.func6, rfl, by decide, Tryz.ntmps6, Tryz.results6, by kernel_rfl, by kernel_rfl⟩
set_option maxRecDepth 100000 in
theorem dualsInvalid_contract (H : Type) (enc : TypeId × Value → H) (W : World) (args : Array Value) (ds gs : List (DataW H)) (before : List MemPlace) (base : Nat) (hb : Rows.uptoBulkAll ds ≤ 1048576)
    (hvl : ∀ (j : Nat) t v, Tryz.f6.params[j]? = some t → args[j]? = some v → Value.okWide Tryz.prog W .any base t v)
    (hW : DataW.Whole enc Tryz.prog Tryz.f6.params.toList Rows.dualsInvalidSpec.vars false W args.toList ds gs before) :
    Calls Tryz.prog 6 args W fun e W' => ∃ v, e = .returned v ∧ Rows.dualsInvalidSpec.post enc Tryz.prog Tryz.f6 false true false false W args v W' := by
  have hW' := hW
  obtain ⟨p, q, hA0, hV, hpq, hfz, hnd⟩ := hW
  have hA : DataW.TrodAll enc Tryz.prog W 0 (fun _ => true) true Tryz.f6.params.toList args.toList ds p := hA0
  rw [Tryz.params6] at hA hvl
  obtain ⟨v0, vs0, d0, ds0, p0, q0', hargs, rfl, hp0, ⟨fuel0, h0⟩, r0⟩ := trodAll_cons hA
  obtain ⟨v1, vs1, d1, ds1, p1, q1', rfl, rfl, hp1, ⟨fuel1, h1⟩, r1⟩ := trodAll_cons r0
  obtain ⟨rfl, rfl, rfl⟩ := trodAll_nil r1
  have hargs2 : args = #[v0, v1] := by cases args; simp_all
  rw [hargs2] at hvl
  simp only [bulkAll_eq, bulkAll] at hb
  obtain ⟨x0, g0, q0⟩ := (r_prog _) fuel0 (Nat.le_refl _) _ _ _ h0
  obtain ⟨x1, g1, q1⟩ := (r_sol _) fuel1 (Nat.le_refl _) _ _ _ h1
  have hval : ∀ (j : Nat) (d : PV), [encProg x0, encSol x1][j]? = some d → RD W (AllB W) d (args.toList.getD j undef) := by
    intro j d hj
    rw [hargs]
    match j, hj with
    | 0, hj => cases hj; exact rc_agg (arg_struct hvl 0 (t := 31) (v := v0) rfl rfl Tryz.underlying31) g0
    | 1, hj => cases hj; exact rc_agg (arg_struct hvl 1 (t := 45) (v := v1) rfl rfl Tryz.underlying45) g1
    | n + 2, hj => simp at hj
  refine law_post (G := G0) laidOut (by kernel_rfl) rfl Tryz.underlying4 rfl (fun gs hgs => by subst hgs; rfl) hW' gok (pvs := [encProg x0, encSol x1]) ⟨by rw [hargs]; rfl, hval⟩ ?_
  exact c_dualsInvalid x0 x1 (q0.ok (by omega)) ⟨okQ_le (by omega) q1.1, q1.2 (by omega)⟩
set_option maxRecDepth 100000 in
theorem dualsInvalid_lifted (os : Os) (started : os.Started) (H : Type) (enc : TypeId × Value → H) (F : Stop.Interp) :
    ReturnsInHanded {} Tryz.checked os 6 .any ((Rows.OpenSpec.upto Rows.dualsInvalidSpec).pre6 enc Tryz.prog Tryz.f6 Rows.dualsInvalidUptoRow.domain false) (((Rows.OpenSpec.upto Rows.dualsInvalidSpec).at F).post enc Tryz.prog Tryz.f6 false true false false) := by
  refine returnsInHanded_of_cond (C := Tryz.checked) (s := Rows.OpenSpec.upto Rows.dualsInvalidSpec) (k := Rows.uptoSmall) rfl own started (by kernel_rfl) Tryz.func6
    (OpenSpec.witness (enc := enc) (C := Tryz.checked) (s := Rows.OpenSpec.upto Rows.dualsInvalidSpec) (k := Rows.uptoSmall) rfl false ⟨#[], #[.agg #[.int .i64 0, .slice none 0 0, .slice none 0 0, .bool false, .slice none 0 0, .slice none 0 0], .agg #[.int .i64 0, .bool false, .slice none 0 0, .slice none 0 0, .slice none 0 0, .slice none 0 0, .slice none 0 0, .slice none 0 0, .int .i64 0]], []⟩ 8 (by kernel_rfl) (by kernel_rfl) (by kernel_rfl)
      (x := ([.agg [.lit (.int .i64 0), .nil, .agg [.nil, .agg [.lit (.bool false), .nil, .nil]]], .agg [.lit (.int .i64 0), .agg [.lit (.bool false), .nil, .nil], .nil, .nil, .nil, .nil, .lit (.int .i64 0)]], [], [])) (by kernel_rfl) rfl (by kernel_rfl)) ?_
  intro W base args ds gs before hval hW _ hk _
  have hb : Rows.uptoBulkAll (ds ++ gs) ≤ 1048576 := of_decide_eq_true hk
  have hgs : gs = [] := by obtain ⟨p, q, _, hV, _⟩ := hW; exact (trodVars_none hV).1
  rw [hgs, List.append_nil] at hb
  exact dualsInvalid_contract H enc W args ds gs before base hb hval hW
/-- THE ROW. -/
theorem dualsInvalid_holds : Rows.DualsInvalidUptoSaid :=
  OpenClaim.holds_of_cond 6 Tryz.f6 rfl rfl rfl rfl rfl rfl rfl ⟨rfl, rfl, rfl, rfl, rfl⟩ rfl rfl rfl rfl rfl (by kernel_rfl) Tryz.func6 (by kernel_rfl)
    (of_decide_eq_true (by kernel_rfl)) (by unfold Func.isWrapper; first | (rw [if_pos (by decide +kernel)]; kernel_rfl) | (rw [if_neg (by decide +kernel)]; exact ⟨rfl, rfl⟩))
    (fun os started H enc _ F => dualsInvalid_lifted os started H enc F)
end Go.Proofs.YtigeioodiljlaaaGreat
