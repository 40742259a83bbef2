/-
  For every input of bulk at most 1048576: DualsBoundIsBound returns true and leaves all that came in as it was.
-/
import Derived.Test.YtigeioodiljlaaaGreatCRD
import Derived.Test.YtigeioodiljlaaaGreatCPD
import Derived.Test.YtigeioodiljlaaaGreatCDB
namespace Go.PI.Tryz
set_option linter.unnecessarySimpa false
open Go.Proofs Go.PI
set_option linter.unusedSimpArgs false
set_option linter.unusedVariables false

theorem ok_rfeas : FnOk Tryz.prog 30 Tryz.f30 (Tryz.f30.body.getD .skip) [.tmp 4] 42 := ⟨Tryz.func30, rfl, by decide, Tryz.ntmps30, Tryz.results30, by kernel_rfl, by kernel_rfl⟩
theorem c_rfeas (P : QP) (x : List Rat) (hP : smP P) (hx : ∀ q ∈ x, sz 4 q) (hxl : x.length ≤ 1048576) : Fn 30 [encP P, .imm (x.map encX)] (.data (.bool (decide (feas P x)))) := by
  have cv := rpvalid_yes hP
  have hl := hP.2.1
  refine fnC_v hmix hT ok_rfeas (by simp [encP]) ?_
  (repeat' (first|refine stp ?_|(with_reducible refine brr ?_ ?_<;>intro h)|(with_reducible refine nilImm_map ?_ ?_<;>intro h)|with_reducible refine anyb_of ?_ ?_)); all_goals try (conv=>whnf)
  refine callV_data cv rfl ?_
  (repeat' (first|refine stp ?_|(with_reducible refine brr ?_ ?_<;>intro h)|(with_reducible refine nilImm_map ?_ ?_<;>intro h)|with_reducible refine anyb_of ?_ ?_)); all_goals try (conv=>whnf)
  · exact givesV_to rfl (congrArg PV.bool (decide_eq_false fun e => h e.1).symm)
  have hxv : (x.length : Int) = P.vars := by omega
  refine loopV_kept hT (fun (i : Nat) => [(1, .imm (x.map encX)), (2, .ptr 0 0 0), (5, .int .i64 i)]) (fun _ => [(0, ⟨[encP P], 6, true⟩)]) [] 1
    (fun i => i ≤ P.rows.length ∧ ∀ j, j < i → 0 ≤ evQ P.rows[j]! x) (fun i => P.rows.length - i) 0 ⟨Nat.zero_le _, fun j h => (by omega)⟩ (by decide) (by simp) ?_ ?_
  · exact ⟨[0], [], [], [], ⟨trivial, trivial, trivial⟩, ⟨at_imm rfl rfl, at_ptr (by decide) rfl, at_int rfl rfl, trivial⟩, ⟨blk_box (by decide) rfl rfl rfl rfl rfl, trivial⟩, by simp [ren]⟩
  intro i ⟨i1, i2⟩
  by_cases hi : i < P.rows.length
  · obtain ⟨⟨h1, h2⟩, h3⟩ := smP_row hP hi
    have hv : ∀ t ∈ P.rows[i]!.ts, 0 ≤ t.1 ∧ t.1 < x.length := fun t ht => by have := h3.2 t ht; omega
    have ce := c_rleval P.rows[i]! x 2 4 h1 hx hv (by omega) (by omega) hxl
    have hs := evQ_sz h1 hx hv
    have hl4 := cr_len hs
    have cs := c_rqsign (cr (evQ P.rows[i]! x)) (okR_cr _) (by omega)
    rw [qv_cr] at cs
    (repeat' (first|refine stp ?_|(with_reducible refine brr ?_ ?_<;>intro h)|(with_reducible refine nilImm_map ?_ ?_<;>intro h)|with_reducible refine anyb_of ?_ ?_)); all_goals try (conv=>whnf)
    · refine callV_data ce rfl ?_
      (repeat' (first|refine stp ?_|(with_reducible refine brr ?_ ?_<;>intro h)|(with_reducible refine nilImm_map ?_ ?_<;>intro h)|with_reducible refine anyb_of ?_ ?_)); all_goals try (conv=>whnf)
      refine callV_data cs rfl ?_
      (repeat' (first|refine stp ?_|(with_reducible refine brr ?_ ?_<;>intro h)|(with_reducible refine nilImm_map ?_ ?_<;>intro h)|with_reducible refine anyb_of ?_ ?_)); all_goals try (conv=>whnf)
      · exact givesV_to rfl (congrArg PV.bool (feas_no hi (sgnQ_neg.1 h)))
      · refine ⟨i + 1, ⟨⟨by omega, fun j hj => ?_⟩, by show P.rows.length - (i + 1) < P.rows.length - i; omega⟩, [0], [], [], [], ⟨trivial, trivial, trivial⟩, ⟨at_imm rfl rfl, at_ptr (by decide) rfl, at_int rfl (by omega), trivial⟩, ⟨blk_box (by decide) rfl rfl rfl rfl rfl, trivial⟩, by simp [ren]⟩
        rcases Nat.lt_or_eq_of_le (Nat.le_of_lt_succ hj) with hj | rfl
        · exact i2 j hj
        · exact Rat.not_lt.1 fun e => h (sgnQ_neg.2 e)
    all_goals (exfalso; omega)
  · (repeat' (first|refine stp ?_|(with_reducible refine brr ?_ ?_<;>intro h)|(with_reducible refine nilImm_map ?_ ?_<;>intro h)|with_reducible refine anyb_of ?_ ?_)); all_goals try (conv=>whnf)
    all_goals try (exfalso; omega)
    exact givesV_to rfl (congrArg PV.bool (feas_yes hxv fun j hj => i2 j (by omega)))

theorem ok_rvalue : FnOk Tryz.prog 31 Tryz.f31 (Tryz.f31.body.getD .skip) [.cell 4 27, .tmp 5] 22 := ⟨Tryz.func31, rfl, by decide, Tryz.ntmps31, Tryz.results31, by kernel_rfl, by kernel_rfl⟩
theorem c_rvalue (P : QP) (x : List Rat) (hP : smP P) (hx : ∀ q ∈ x, sz 4 q) (hxl : x.length ≤ 1048576) (hxv : (x.length : Int) = P.vars) : Fn 31 [encP P, .imm (x.map encX)] (.data (.tup [encRat (cr (evQ P.obj x)), .int .i64 0])) := by
  have cv := rpvalid_yes hP
  have hv : ∀ t ∈ P.obj.ts, 0 ≤ t.1 ∧ t.1 < x.length := fun t ht => by have := hP.1.2.2.1.2 t ht; omega
  have h4 := hP.2.2.2.2
  have ce := c_rleval P.obj x 2 4 hP.2.2.2.1 hx hv (by omega) (by omega) hxl
  refine fnC_v hmix hT ok_rvalue (by simp [encP]) ?_
  (repeat' (first|refine stp ?_|(with_reducible refine brr ?_ ?_<;>intro h)|(with_reducible refine nilImm_map ?_ ?_<;>intro h)|with_reducible refine anyb_of ?_ ?_)); all_goals try (conv=>whnf)
  refine callV_data cv rfl ?_
  (repeat' (first|refine stp ?_|(with_reducible refine brr ?_ ?_<;>intro h)|(with_reducible refine nilImm_map ?_ ?_<;>intro h)|with_reducible refine anyb_of ?_ ?_)); all_goals try (conv=>whnf)
  · exact absurd (show (x.length : Int) = P.vars from hxv) (by omega)
  refine callV_data ce rfl ?_
  (repeat' (first|refine stp ?_|(with_reducible refine brr ?_ ?_<;>intro h)|(with_reducible refine nilImm_map ?_ ?_<;>intro h)|with_reducible refine anyb_of ?_ ?_)); all_goals try (conv=>whnf)
  exact givesV_to rfl rfl

theorem ok_rpoints : FnOk Tryz.prog 90 Tryz.f90 (Tryz.f90.body.getD .skip) [.tmp 4] 23 := ⟨Tryz.func90, rfl, by decide, Tryz.ntmps90, Tryz.results90, by kernel_rfl, by kernel_rfl⟩
theorem c_rpoints (P : QP) (l : List RatL) (hL : ∀ x ∈ l, okQ 4 x) (hl : l.length ≤ 1048576) : Fn 90 [encP P, .imm (l.map encRat)] (.data (.bool (decide ((l.length : Int) = P.vars ∧ canL l)))) := by
  refine fnC_v hmix hT ok_rpoints (by simp [encP]) ?_
  (repeat' (first|refine stp ?_|(with_reducible refine brr ?_ ?_<;>intro h)|(with_reducible refine nilImm_map ?_ ?_<;>intro h)|with_reducible refine anyb_of ?_ ?_)); all_goals try (conv=>whnf)
  · exact givesV_to rfl (congrArg PV.bool (decide_eq_false fun e => h e.1).symm)
  have hv : (l.length : Int) = P.vars := by omega
  refine loopV_kept hT (fun (i : Nat) => [(1, .imm (l.map encRat)), (5, .int .i64 i)]) (fun _ => []) [] 1
    (fun i => i ≤ l.length ∧ ∀ j, j < i → l[j]! = cr (qv l[j]!)) (fun i => l.length - i) 0 ⟨Nat.zero_le _, fun j h => (by omega)⟩ (by decide) (by simp) ?_ ?_
  · exact ⟨[0], [], [], [], ⟨trivial, trivial, trivial⟩, ⟨at_imm rfl rfl, at_int rfl rfl, trivial⟩, trivial, by simp [ren]⟩
  intro i ⟨i1, i2⟩
  by_cases hi : i < l.length
  · have hq := hL l[i]! (by rw [getElem!_pos l i hi]; exact List.getElem_mem hi)
    have cv := c_rqvalid l[i]! hq.1 (by have := hq.2; omega) (by have := hq.2; omega)
    (repeat' (first|refine stp ?_|(with_reducible refine brr ?_ ?_<;>intro h)|(with_reducible refine nilImm_map ?_ ?_<;>intro h)|with_reducible refine anyb_of ?_ ?_)); all_goals try (conv=>whnf)
    · refine callV_data cv rfl ?_
      (repeat' (first|refine stp ?_|(with_reducible refine brr ?_ ?_<;>intro h)|(with_reducible refine nilImm_map ?_ ?_<;>intro h)|with_reducible refine anyb_of ?_ ?_)); all_goals try (conv=>whnf)
      · refine ⟨i + 1, ⟨⟨by omega, fun j hj => ?_⟩, by show l.length - (i + 1) < l.length - i; omega⟩, [0], [], [], [], ⟨trivial, trivial, trivial⟩, ⟨at_imm rfl rfl, at_int rfl (by omega), trivial⟩, trivial, by simp [ren]⟩
        rcases Nat.lt_or_eq_of_le (Nat.le_of_lt_succ hj) with hj | rfl
        · exact i2 j hj
        · assumption
      · exact givesV_to rfl (congrArg PV.bool (decide_eq_false fun e => h (e.2 l[i]! (by rw [getElem!_pos l i hi]; exact List.getElem_mem hi))).symm)
    all_goals (exfalso; omega)
  · (repeat' (first|refine stp ?_|(with_reducible refine brr ?_ ?_<;>intro h)|(with_reducible refine nilImm_map ?_ ?_<;>intro h)|with_reducible refine anyb_of ?_ ?_)); all_goals try (conv=>whnf)
    all_goals try (exfalso; omega)
    exact givesV_to rfl (congrArg PV.bool (decide_eq_true ⟨hv, of_decide_eq_true (canL_yes fun j hj => i2 j (by omega)).symm⟩).symm)

theorem ok_rdir : FnOk Tryz.prog 95 Tryz.f95 (Tryz.f95.body.getD .skip) [.cell 4 27] 16 := ⟨Tryz.func95, rfl, by decide, Tryz.ntmps95, Tryz.results95, by kernel_rfl, by kernel_rfl⟩
theorem c_rdir (f : QF) (x : List Rat) (hf : szF 2 f) (hx : ∀ q ∈ x, sz 4 q) (hv : ∀ t ∈ f.ts, 0 ≤ t.1 ∧ t.1 < x.length) (hl : f.ts.length ≤ 8) (hxl : x.length ≤ 1048576) : Fn 95 [encF f, .imm (x.map encX)] (.data (encRat (cr (dirQ f x)))) := by
  have hf0 : szF 2 (⟨f.ts, 0⟩ : QF) := ⟨(szF_zero 2 (by decide)).1, hf.2⟩
  have ce := c_rleval ⟨f.ts, 0⟩ x 2 4 hf0 hx hv (by show 2 + f.ts.length * _ + _ + _ ≤ _; omega) (by show f.ts.length ≤ _; omega) hxl
  have e0 : encF ⟨f.ts, 0⟩ = .agg [.imm (f.ts.map encQ), .bool false, .imm [], .imm []] := by unfold encF; rw [cr_zero]; rfl
  rw [e0] at ce
  refine fnC_v hmix hT ok_rdir (by simp [encF]) ?_
  (repeat' (first|refine stp ?_|(with_reducible refine brr ?_ ?_<;>intro h)|(with_reducible refine nilImm_map ?_ ?_<;>intro h)|with_reducible refine anyb_of ?_ ?_)); all_goals try (conv=>whnf)
  refine callV_data ce rfl ?_
  (repeat' (first|refine stp ?_|(with_reducible refine brr ?_ ?_<;>intro h)|(with_reducible refine nilImm_map ?_ ?_<;>intro h)|with_reducible refine anyb_of ?_ ?_)); all_goals try (conv=>whnf)
  exact givesV_to rfl rfl

theorem ok_smpoint : FnOk Tryz.prog 26 Tryz.f26 (Tryz.f26.body.getD .skip) [.tmp 2] 19 := ⟨Tryz.func26, rfl, by decide, Tryz.ntmps26, Tryz.results26, by kernel_rfl, by kernel_rfl⟩
def smPt (l : List RatL) : Prop := l.length ≤ 8 ∧ ∀ i, i < l.length → smR l[i]!
theorem smPt_canL {l : List RatL} (h : smPt l) : canL l := fun x hx => by
  obtain ⟨i, hi, rfl⟩ := List.getElem_of_mem hx
  have := h.2 i hi
  rw [getElem!_pos l i hi] at this
  exact this.2.2
theorem c_smpoint (l : List RatL) (hL : ∀ x ∈ l, okQ 1048576 x) (hl : l.length ≤ 1048576) : Fn 26 [.imm (l.map encRat)] (.data (.bool (dB (smPt l)))) := by
  have no : ¬ smPt l → false = dB (smPt l) := dB_no
  refine fnC_v hmix hT ok_smpoint (by simp) ?_
  (repeat' (first|refine stp ?_|(with_reducible refine brr ?_ ?_<;>intro h)|(with_reducible refine nilImm_map ?_ ?_<;>intro h)|with_reducible refine anyb_of ?_ ?_)); all_goals try (conv=>whnf)
  · exact givesV_to rfl (congrArg PV.bool (no fun e => by have := e.1; omega))
  have hv : l.length ≤ 8 := by omega
  refine loopV_kept hT (fun (i : Nat) => [(0, .imm (l.map encRat)), (3, .int .i64 i)]) (fun _ => []) [] 1
    (fun i => i ≤ l.length ∧ ∀ j, j < i → smR l[j]!) (fun i => l.length - i) 0 ⟨Nat.zero_le _, fun j h => (by omega)⟩ (by decide) (by simp) ?_ ?_
  · exact ⟨[0], [], [], [], ⟨trivial, trivial, trivial⟩, ⟨at_imm rfl rfl, at_int rfl rfl, trivial⟩, trivial, by simp [ren]⟩
  intro i ⟨i1, i2⟩
  by_cases hi : i < l.length
  · have hq := hL l[i]! (by rw [getElem!_pos l i hi]; exact List.getElem_mem hi)
    have cv := c_smrat l[i]! (okQ_le (by decide) hq)
    (repeat' (first|refine stp ?_|(with_reducible refine brr ?_ ?_<;>intro h)|(with_reducible refine nilImm_map ?_ ?_<;>intro h)|with_reducible refine anyb_of ?_ ?_)); all_goals try (conv=>whnf)
    · refine callV_data cv rfl ?_
      (repeat' (first|refine stp ?_|(with_reducible refine brr ?_ ?_<;>intro h)|(with_reducible refine nilImm_map ?_ ?_<;>intro h)|with_reducible refine anyb_of ?_ ?_)); all_goals try (conv=>whnf)
      · refine ⟨i + 1, ⟨⟨by omega, fun j hj => ?_⟩, by show l.length - (i + 1) < l.length - i; omega⟩, [0], [], [], [], ⟨trivial, trivial, trivial⟩, ⟨at_imm rfl rfl, at_int rfl (by omega), trivial⟩, trivial, by simp [ren]⟩
        rcases Nat.lt_or_eq_of_le (Nat.le_of_lt_succ hj) with hj | rfl
        · exact i2 j hj
        · assumption
      · exact givesV_to rfl (congrArg PV.bool (no fun e => h (e.2 i hi)))
    all_goals (exfalso; omega)
  · (repeat' (first|refine stp ?_|(with_reducible refine brr ?_ ?_<;>intro h)|(with_reducible refine nilImm_map ?_ ?_<;>intro h)|with_reducible refine anyb_of ?_ ?_)); all_goals try (conv=>whnf)
    all_goals try (exfalso; omega)
    exact givesV_to rfl (congrArg PV.bool (dB_yes ⟨hv, fun j hj => i2 j (by omega)⟩))
end Go.PI.Tryz
namespace Go.PI
set_option linter.unusedVariables false
set_option linter.unusedSimpArgs false
set_option linter.unnecessarySimpa false

/-- The sum of a form's terms at a point. -/
def dot (x : List Rat) : List QT → Rat
  | [] => 0
  | t :: l => t.2 * x[t.1.toNat]! + dot x l
theorem ev1_dot (x : List Rat) : ∀ (l : List QT) (y : Rat), ev1 x l y = y + dot x l
  | [], y => by simp only [ev1, List.foldl_nil, dot]; grind
  | t :: l, y => by
    have e : ev1 x (t :: l) y = ev1 x l (y + t.2 * x[t.1.toNat]!) := rfl
    rw [e, ev1_dot x l]; simp only [dot]; grind
theorem dot_append (x : List Rat) : ∀ (a b : List QT), dot x (a ++ b) = dot x a + dot x b
  | [], b => by simp only [List.nil_append, dot]; grind
  | t :: a, b => by simp only [List.cons_append, dot, dot_append x a b]; grind
theorem dot_nzq (x : List Rat) (v : Int) (c : Rat) : dot x (nzq v c) = c * x[v.toNat]! := by
  unfold nzq; split
  · rename_i h; subst h; simp only [dot]; grind
  · simp only [dot]; grind
theorem dot_mrg (x : List Rat) (c : Rat) : ∀ (n : Nat) (a b : List QT), a.length + b.length ≤ n → dot x (mrg c a b) = dot x a + c * dot x b
  | n, [], [], _ => by rw [mrg]; simp only [dot]; grind
  | 0, _ :: _, _, h => by simp at h
  | 0, _, _ :: _, h => by simp at h
  | n + 1, p :: a, [], hn => by
    rw [mrg, dot_append, dot_nzq, dot_mrg x c n a [] (by simp at hn ⊢; omega)]; simp only [dot]; grind
  | n + 1, [], q :: b, hn => by
    rw [mrg, dot_append, dot_nzq, dot_mrg x c n [] b (by simp at hn ⊢; omega)]; simp only [dot]; grind
  | n + 1, p :: a, q :: b, hn => by
    simp only [List.length_cons] at hn
    rw [mrg]
    split
    · rw [dot_append, dot_nzq, dot_mrg x c n a (q :: b) (by simp; omega)]; simp only [dot]; grind
    · split
      · rw [dot_append, dot_nzq, dot_mrg x c n (p :: a) b (by simp; omega)]; simp only [dot]; grind
      · have he : p.1 = q.1 := by omega
        rw [dot_append, dot_nzq, dot_mrg x c n a b (by omega)]; simp only [dot, he]; grind
theorem evQ_dot (f : QF) (x : List Rat) : evQ f x = f.c + dot x f.ts := ev1_dot x f.ts f.c
theorem dirQ_dot (f : QF) (x : List Rat) : dirQ f x = dot x f.ts := by unfold dirQ; rw [evQ_dot]; grind
theorem evQ_merge (x : List Rat) (f g : QF) (c : Rat) : evQ (mergeQ f g c) x = evQ f x + c * evQ g x := by
  simp only [evQ_dot, mergeQ, dot_mrg x c _ _ _ (Nat.le_refl _)]; grind
theorem dirQ_merge (x : List Rat) (f g : QF) (c : Rat) : dirQ (mergeQ f g c) x = dirQ f x + c * dirQ g x := by
  simp only [dirQ_dot, mergeQ, dot_mrg x c _ _ _ (Nat.le_refl _)]
theorem evQ_nil {f : QF} (h : f.ts = []) (x : List Rat) : evQ f x = f.c := by rw [evQ_dot, h]; simp only [dot]; grind
theorem dirQ_nil {f : QF} (h : f.ts = []) (x : List Rat) : dirQ f x = 0 := by rw [dirQ_dot, h]; rfl
theorem evQ_zero (x : List Rat) : evQ zeroQ x = 0 := evQ_nil rfl x
theorem dirQ_zero (x : List Rat) : dirQ zeroQ x = 0 := dirQ_nil rfl x

/-- The multipliers' sum of a number of each row. -/
def wsum (val : QF → Rat) : List QF → List RatL → Rat
  | f :: fs, y :: ys => qv y * val f + wsum val fs ys
  | _, _ => 0
theorem cmb_val {val : QF → Rat} (hv : ∀ f g c, val (mergeQ f g c) = val f + c * val g) : ∀ (fs : List QF) (ys : List RatL) (s : QF), (cmb mergeQ fs ys s).2 = true → val (cmb mergeQ fs ys s).1 = val s + wsum val fs ys
  | [], _, s, _ => by simp only [cmb, wsum]; grind
  | _ :: _, [], s, _ => by simp only [cmb, wsum]; grind
  | f :: fs, y :: ys, s, h => by
    simp only [cmb] at h ⊢
    split at h
    · rename_i hp
      rw [if_pos hp, cmb_val hv fs ys _ h, hv]; simp only [wsum]; grind
    · exact absurd h (by simp)
theorem posQ_le {y : RatL} (h : posQ y) : 0 ≤ qv y := Rat.not_lt.1 fun h2 => (posQ_iff h.1).1 h (sgnQ_neg.2 h2)
theorem cmb_pos : ∀ (fs : List QF) (ys : List RatL) (s : QF), (cmb mergeQ fs ys s).2 = true → ∀ i, i < fs.length → i < ys.length → 0 ≤ qv ys[i]!
  | [], _, _, _, i, hi, _ => by simp at hi
  | _ :: _, [], _, _, i, _, hi => by simp at hi
  | f :: fs, y :: ys, s, h, i, hi, hj => by
    simp only [cmb] at h
    split at h
    · rename_i hp
      match i, hi, hj with
      | 0, _, _ => simpa using posQ_le hp
      | i + 1, hi, hj => simpa using cmb_pos fs ys _ h i (by simpa using hi) (by simpa using hj)
    · exact absurd h (by simp)
theorem wsum_nonneg {val : QF → Rat} : ∀ (fs : List QF) (ys : List RatL) (s : QF), (cmb mergeQ fs ys s).2 = true → (∀ f ∈ fs, 0 ≤ val f) → 0 ≤ wsum val fs ys
  | [], _, _, _, _ => by simp only [wsum]; exact Rat.le_refl
  | _ :: _, [], _, _, _ => by simp only [wsum]; exact Rat.le_refl
  | f :: fs, y :: ys, s, h, hf => by
    simp only [cmb] at h
    split at h
    · rename_i hp
      simp only [wsum]
      exact Rat.add_nonneg (Rat.mul_nonneg (posQ_le hp) (hf f (by simp))) (wsum_nonneg fs ys _ h fun g hg => hf g (by simp [hg]))
    · exact absurd h (by simp)
theorem add_zero_of {a b : Rat} (ha : 0 ≤ a) (hb : 0 ≤ b) (h : a + b = 0) : a = 0 ∧ b = 0 := by constructor <;> grind
/-- The sum is zero exactly if each row's number or its multiplier is. -/
theorem wsum_zero {val : QF → Rat} : ∀ (fs : List QF) (ys : List RatL) (s : QF), (cmb mergeQ fs ys s).2 = true → (∀ f ∈ fs, 0 ≤ val f) → ys.length = fs.length → (wsum val fs ys = 0 ↔ ∀ i, i < ys.length → val fs[i]! = 0 ∨ qv ys[i]! = 0)
  | [], [], _, _, _, _ => by simp [wsum]
  | [], _ :: _, _, _, _, h => by simp at h
  | _ :: _, [], _, _, _, h => by simp at h
  | f :: fs, y :: ys, s, h, hf, hl => by
    simp only [cmb] at h
    split at h
    · rename_i hp
      have ih := wsum_zero fs ys _ h (fun g hg => hf g (by simp [hg])) (by simpa using hl)
      have h1 : 0 ≤ qv y * val f := Rat.mul_nonneg (posQ_le hp) (hf f (by simp))
      have h2 := wsum_nonneg (val := val) fs ys _ h fun g hg => hf g (by simp [hg])
      simp only [wsum]
      constructor
      · intro e i hi
        obtain ⟨e1, e2⟩ := add_zero_of h1 h2 e
        match i, hi with
        | 0, _ => simp only [List.getElem!_cons_zero]; rcases Rat.mul_eq_zero.1 e1 with h | h; exact .inr h; exact .inl h
        | i + 1, hi => simpa using ih.1 e2 i (by simpa using hi)
      · intro e
        have e0 := e 0 (by simp)
        simp only [List.getElem!_cons_zero] at e0
        rw [ih.2 fun i hi => by simpa using e (i + 1) (by simpa using hi)]
        rcases e0 with h | h <;> rw [h] <;> grind
    · exact absurd h (by simp)
end Go.PI
namespace Go.PI.Tryz
set_option linter.unusedVariables false
set_option linter.unusedSimpArgs false
set_option linter.unnecessarySimpa false
open Go.Proofs Go.PI

theorem cmbV_eq {P : QP} (hP : okQP P) {ys : List RatL} (h : (cmbV P ys).2 = true) :
    ys.length = P.rows.length ∧ (cmb mergeQ P.rows ys zeroQ).2 = true ∧ (cmbV P ys).1 = (cmb mergeQ P.rows ys zeroQ).1 := by
  have e := cmb_eq (op := opP) (fun s f y hs hf => opP_eq hs hf y) P.rows ys zeroQ srt_nil fun f hf => (hP.2.2.2 f hf).1
  unfold cmbV at h ⊢
  rw [e] at h ⊢
  split at h
  · rename_i hh; rw [if_pos hh]; exact ⟨hh.1, hh.2, rfl⟩
  · exact absurd h (by simp)
/-- A bound that there is: the objective is the bound and the multipliers' sum, at each point and along each ray. -/
theorem bnd_val {P : QP} (hP : okQP P) {ys : List RatL} (h : (bndV P ys).2 = true) (x : List Rat) :
    (cmbV P ys).2 = true ∧ evQ P.obj x = (bndV P ys).1 + wsum (fun f => evQ f x) P.rows ys ∧ dirQ P.obj x = wsum (fun f => dirQ f x) P.rows ys := by
  unfold bndV at h ⊢
  split at h
  · rename_i hh
    rw [if_pos hh]
    obtain ⟨h1, h2⟩ := hh
    obtain ⟨_, h3, h4⟩ := cmbV_eq hP h1
    have e1 := evQ_merge x P.obj (cmbV P ys).1 (-1)
    have e2 := dirQ_merge x P.obj (cmbV P ys).1 (-1)
    rw [evQ_nil h2] at e1
    rw [dirQ_nil h2] at e2
    have e3 := cmb_val (val := fun f => evQ f x) (evQ_merge x) P.rows ys zeroQ h3
    have e4 := cmb_val (val := fun f => dirQ f x) (dirQ_merge x) P.rows ys zeroQ h3
    rw [← h4] at e3 e4
    simp only [evQ_zero, dirQ_zero] at e3 e4
    refine ⟨h1, ?_, ?_⟩ <;> grind
  · exact absurd h (by simp)
theorem bnd_le {P : QP} (hP : okQP P) {ys : List RatL} (h : (bndV P ys).2 = true) {x : List Rat} (hx : feas P x) :
    (bndV P ys).1 ≤ evQ P.obj x ∧ ((bndV P ys).1 = evQ P.obj x ↔ ∀ i, i < ys.length → evQ P.rows[i]! x = 0 ∨ qv ys[i]! = 0) := by
  obtain ⟨h1, h2, _⟩ := bnd_val hP h x
  obtain ⟨hl, h3, _⟩ := cmbV_eq hP h1
  have h4 := wsum_nonneg (val := fun f => evQ f x) P.rows ys zeroQ h3 hx.2
  have h5 := wsum_zero (val := fun f => evQ f x) P.rows ys zeroQ h3 hx.2 hl
  refine ⟨by grind, ?_⟩
  rw [← h5]
  constructor <;> intro e <;> grind
theorem inf_no {P : QP} (hP : okQP P) {ys : List RatL} (h : infV P ys = true) {x : List Rat} (hx : feas P x) : False := by
  unfold infV at h
  simp only [Bool.and_eq_true, decide_eq_true_eq] at h
  obtain ⟨h1, h2, h3⟩ := h
  obtain ⟨_, h4, h5⟩ := cmbV_eq hP h1
  have e3 := cmb_val (val := fun f => evQ f x) (evQ_merge x) P.rows ys zeroQ h4
  have h6 := wsum_nonneg (val := fun f => evQ f x) P.rows ys zeroQ h4 hx.2
  rw [← h5] at e3
  simp only [evQ_nil h2, evQ_zero] at e3
  grind
theorem unb_no {P : QP} (hP : okQP P) {ys : List RatL} (h : (bndV P ys).2 = true) {x : List Rat} (hx : unbX P x) : False := by
  obtain ⟨h1, _, h2⟩ := bnd_val hP h x
  obtain ⟨_, h3, _⟩ := cmbV_eq hP h1
  have h4 := wsum_nonneg (val := fun f => dirQ f x) P.rows ys zeroQ h3 hx.1
  have := hx.2
  grind
/-- At most one status has a proof. -/
theorem one_status {P : QP} (hP : okQP P) {s t : SolL} (hs : chkP P s) (ht : chkP P t) : s.status = t.status ∧ qv s.value = qv t.value := by
  have val : ∀ {r : RatL}, r = ⟨false, [], []⟩ → qv r = 0 := fun h => by rw [h, ← cr_zero, qv_cr]
  have oo : ∀ {a b : SolL}, optP P a → optP P b → qv a.value ≤ qv b.value := fun ha hb => by
    have := (bnd_le hP ha.2.2.2.1 hb.1.2).1
    rw [ha.2.2.2.2.2, hb.2.2.2.2.1] at this
    exact this
  rcases hs with ⟨a, hs⟩ | ⟨a, hs⟩ | ⟨a, hs⟩ <;> rcases ht with ⟨b, ht⟩ | ⟨b, ht⟩ | ⟨b, ht⟩
  · exact ⟨by rw [a, b], Rat.le_antisymm (oo hs ht) (oo ht hs)⟩
  · exact (inf_no hP ht.2.2 hs.1.2).elim
  · exact (unb_no hP hs.2.2.2.1 ht.2.2.2.2.2).elim
  · exact (inf_no hP hs.2.2 ht.1.2).elim
  · exact ⟨by rw [a, b], by rw [val hs.1, val ht.1]⟩
  · exact (inf_no hP hs.2.2 ht.2.2.1.2).elim
  · exact (unb_no hP ht.2.2.2.1 hs.2.2.2.2.2).elim
  · exact (inf_no hP ht.2.2 hs.2.2.1.2).elim
  · exact ⟨by rw [a, b], by rw [val hs.1, val ht.1]⟩
end Go.PI.Tryz
namespace Go.PI.Tryz
set_option linter.unnecessarySimpa false
open Go.Proofs Go.PI
set_option linter.unusedSimpArgs false
set_option linter.unusedVariables false

theorem slkB_iff {P : QP} (hP : smP P) {pt ys : List RatL} (hb : (bndV P ys).2 = true) (hc : canL pt) (hf : feas P (pt.map qv)) :
    slkB P pt ys = decide (sgnQ ((bndV P ys).1 - evQ P.obj (pt.map qv)) = 0) := by
  have h1 := bnd_le hP.1 hb hf
  have h2 := (bnd_val hP.1 hb (pt.map qv)).1
  unfold slkB
  refine decide_eq_decide.2 ?_
  rw [sgnQ_zero, sub_zero_iff, h1.2]
  exact ⟨fun e => e.2.2, fun e => ⟨h2, ⟨hc, hf⟩, e⟩⟩
theorem ok_dualsBoundIsBound : FnOk Tryz.prog 7 Tryz.f7 (Tryz.f7.body.getD .skip) [.tmp 6] 62 := ⟨Tryz.func7, rfl, by decide, Tryz.ntmps7, Tryz.results7, by kernel_rfl, by kernel_rfl⟩
theorem c_dualsBoundIsBound (p : ProgL) (pt ys : List RatL) (hp : okP 1048576 p) (hpt : okL pt) (hy : okL ys) : Fn 7 [encProg p, .imm (pt.map encRat), .imm (ys.map encRat)] (.data (.bool true)) := by
  have cw := c_wsmall p [ys] (okP_le (by decide) hp) (by simp) (okL_len (fun l hl => by simp at hl; subst hl; exact hy))
  have cp := c_smpoint pt hpt.2 hpt.1
  by_cases hs : smA p [ys]
  · rw [dB_true.2 hs] at cw
    by_cases hq : smPt pt
    · rw [dB_true.2 hq] at cp
      have hP := smP_of hp hs.1
      have he := encP_of hs.1.2.2.2
      obtain ⟨h4, hyl⟩ := okL_4 hy (hs.2 0 (by simp))
      have hp4 : ∀ y ∈ pt, okQ 4 y := fun y hy => by
        obtain ⟨i, hi, rfl⟩ := List.getElem_of_mem hy
        have h1 := hq.2 i hi
        rw [getElem!_pos pt i hi] at h1
        exact ⟨(hpt.2 _ hy).1, by have := h1.1; omega, by have := h1.2.1; omega⟩
      have hc := smPt_canL hq
      have c1 := c_dbound p.Q ys hP h4 hyl
      have c2 := c_rfeas p.Q (pt.map qv) hP (sz_list hp4) (by simpa using hpt.1)
      have c4 := c_dslack p.Q pt ys hP hp4 h4 hpt.1 hyl
      have zb := cr_len (bndV_sz hP h4)
      have key : (bndV p.Q ys).2 = true → feas p.Q (pt.map qv) → ¬ 0 < sgnQ ((bndV p.Q ys).1 - evQ p.Q.obj (pt.map qv)) ∧ slkB p.Q pt ys = decide (sgnQ ((bndV p.Q ys).1 - evQ p.Q.obj (pt.map qv)) = 0) := fun a b =>
        ⟨fun e => by have h1 := (bnd_le hP.1 a b).1; have h2 := sgnQ_pos.1 e; grind, slkB_iff hP a hc b⟩
      by_cases hf : feas p.Q (pt.map qv)
      · have hxv : ((pt.map qv).length : Int) = p.Q.vars := hf.1
        have hv : ∀ t ∈ p.Q.obj.ts, 0 ≤ t.1 ∧ t.1 < (pt.map qv).length := fun t ht => by have := hP.1.2.2.1.2 t ht; omega
        have hol := hP.2.2.2.2
        have ze := cr_len (evQ_sz hP.2.2.2.1 (sz_list hp4) hv)
        have c3 := c_rvalue p.Q (pt.map qv) hP (sz_list hp4) (by simpa using hpt.1) hxv
        have cq := c_rqcmp (cr (bndV p.Q ys).1) (cr (evQ p.Q.obj (pt.map qv))) (okR_cr _) (okR_cr _) (by omega) (by omega) (by omega) (by omega)
        rw [qv_cr, qv_cr] at cq
        rw [decide_eq_true hf] at c2
        rw [← encL_of hc] at c2 c3
        rw [he] at cw ⊢
        generalize p.Q = P at *
        obtain ⟨S, hS⟩ : ∃ S, sgnQ ((bndV P ys).1 - evQ P.obj (pt.map qv)) = S := ⟨_, rfl⟩
        rw [hS] at cq key
        refine fnC_v hmix hT ok_dualsBoundIsBound (by simp [encP]) ?_
        (repeat' (first|refine stp ?_|(with_reducible refine brr ?_ ?_<;>intro h)|(with_reducible refine nilImm_map ?_ ?_<;>intro h)|with_reducible refine anyb_of ?_ ?_)); all_goals try (conv=>whnf)
        refine callV_data c_awake rfl ?_
        (repeat' (first|refine stp ?_|(with_reducible refine brr ?_ ?_<;>intro h)|(with_reducible refine nilImm_map ?_ ?_<;>intro h)|with_reducible refine anyb_of ?_ ?_)); all_goals try (conv=>whnf)
        refine callV_data cw rfl ?_
        (repeat' (first|refine stp ?_|(with_reducible refine brr ?_ ?_<;>intro h)|(with_reducible refine nilImm_map ?_ ?_<;>intro h)|with_reducible refine anyb_of ?_ ?_)); all_goals try (conv=>whnf)
        refine callV_data cp rfl ?_
        (repeat' (first|refine stp ?_|(with_reducible refine brr ?_ ?_<;>intro h)|(with_reducible refine nilImm_map ?_ ?_<;>intro h)|with_reducible refine anyb_of ?_ ?_)); all_goals try (conv=>whnf)
        refine callV_data c1 rfl ?_
        (repeat' (first|refine stp ?_|(with_reducible refine brr ?_ ?_<;>intro h)|(with_reducible refine nilImm_map ?_ ?_<;>intro h)|with_reducible refine anyb_of ?_ ?_)); all_goals try (conv=>whnf)
        · obtain ⟨k1, k2⟩ := key h hf
          rw [k2] at c4
          refine callV_data c2 rfl ?_
          (repeat' (first|refine stp ?_|(with_reducible refine brr ?_ ?_<;>intro h)|(with_reducible refine nilImm_map ?_ ?_<;>intro h)|with_reducible refine anyb_of ?_ ?_)); all_goals try (conv=>whnf)
          refine callV_data c3 rfl ?_
          (repeat' (first|refine stp ?_|(with_reducible refine brr ?_ ?_<;>intro h)|(with_reducible refine nilImm_map ?_ ?_<;>intro h)|with_reducible refine anyb_of ?_ ?_)); all_goals try (conv=>whnf)
          refine callV_data cq rfl ?_
          (repeat' (first|refine stp ?_|(with_reducible refine brr ?_ ?_<;>intro h)|(with_reducible refine nilImm_map ?_ ?_<;>intro h)|with_reducible refine anyb_of ?_ ?_)); all_goals try (conv=>whnf)
          · exact absurd (by assumption) k1
          refine callV_data c4 rfl ?_
          (repeat' (first|refine stp ?_|(with_reducible refine brr ?_ ?_<;>intro h)|(with_reducible refine nilImm_map ?_ ?_<;>intro h)|with_reducible refine anyb_of ?_ ?_)); all_goals try (conv=>whnf)
          refine callV_data cq rfl ?_
          (repeat' (first|refine stp ?_|(with_reducible refine brr ?_ ?_<;>intro h)|(with_reducible refine nilImm_map ?_ ?_<;>intro h)|with_reducible refine anyb_of ?_ ?_)); all_goals try (conv=>whnf)
          all_goals first | exact givesV_to rfl rfl | exact absurd (rfl : (S == 0) = (S == 0)) (by assumption) | (exfalso; rename_i hh; exact hh (by rw [beq_dec']))
        · exact givesV_to rfl rfl
      · rw [decide_eq_false hf] at c2
        rw [← encL_of hc] at c2
        rw [he] at cw ⊢
        generalize p.Q = P at *
        refine fnC_v hmix hT ok_dualsBoundIsBound (by simp [encP]) ?_
        (repeat' (first|refine stp ?_|(with_reducible refine brr ?_ ?_<;>intro h)|(with_reducible refine nilImm_map ?_ ?_<;>intro h)|with_reducible refine anyb_of ?_ ?_)); all_goals try (conv=>whnf)
        refine callV_data c_awake rfl ?_
        (repeat' (first|refine stp ?_|(with_reducible refine brr ?_ ?_<;>intro h)|(with_reducible refine nilImm_map ?_ ?_<;>intro h)|with_reducible refine anyb_of ?_ ?_)); all_goals try (conv=>whnf)
        refine callV_data cw rfl ?_
        (repeat' (first|refine stp ?_|(with_reducible refine brr ?_ ?_<;>intro h)|(with_reducible refine nilImm_map ?_ ?_<;>intro h)|with_reducible refine anyb_of ?_ ?_)); all_goals try (conv=>whnf)
        refine callV_data cp rfl ?_
        (repeat' (first|refine stp ?_|(with_reducible refine brr ?_ ?_<;>intro h)|(with_reducible refine nilImm_map ?_ ?_<;>intro h)|with_reducible refine anyb_of ?_ ?_)); all_goals try (conv=>whnf)
        refine callV_data c1 rfl ?_
        (repeat' (first|refine stp ?_|(with_reducible refine brr ?_ ?_<;>intro h)|(with_reducible refine nilImm_map ?_ ?_<;>intro h)|with_reducible refine anyb_of ?_ ?_)); all_goals try (conv=>whnf)
        · refine callV_data c2 rfl ?_
          (repeat' (first|refine stp ?_|(with_reducible refine brr ?_ ?_<;>intro h)|(with_reducible refine nilImm_map ?_ ?_<;>intro h)|with_reducible refine anyb_of ?_ ?_)); all_goals try (conv=>whnf)
          exact givesV_to rfl rfl
        · exact givesV_to rfl rfl
    · rw [dB_false.2 hq] at cp
      refine fnC_v hmix hT ok_dualsBoundIsBound (by simp [encProg]) ?_
      (repeat' (first|refine stp ?_|(with_reducible refine brr ?_ ?_<;>intro h)|(with_reducible refine nilImm_map ?_ ?_<;>intro h)|with_reducible refine anyb_of ?_ ?_)); all_goals try (conv=>whnf)
      refine callV_data c_awake rfl ?_
      (repeat' (first|refine stp ?_|(with_reducible refine brr ?_ ?_<;>intro h)|(with_reducible refine nilImm_map ?_ ?_<;>intro h)|with_reducible refine anyb_of ?_ ?_)); all_goals try (conv=>whnf)
      refine callV_data cw rfl ?_
      (repeat' (first|refine stp ?_|(with_reducible refine brr ?_ ?_<;>intro h)|(with_reducible refine nilImm_map ?_ ?_<;>intro h)|with_reducible refine anyb_of ?_ ?_)); all_goals try (conv=>whnf)
      refine callV_data cp rfl ?_
      (repeat' (first|refine stp ?_|(with_reducible refine brr ?_ ?_<;>intro h)|(with_reducible refine nilImm_map ?_ ?_<;>intro h)|with_reducible refine anyb_of ?_ ?_)); all_goals try (conv=>whnf)
      exact givesV_to rfl rfl
  · rw [dB_false.2 hs] at cw
    refine fnC_v hmix hT ok_dualsBoundIsBound (by simp [encProg]) ?_
    (repeat' (first|refine stp ?_|(with_reducible refine brr ?_ ?_<;>intro h)|(with_reducible refine nilImm_map ?_ ?_<;>intro h)|with_reducible refine anyb_of ?_ ?_)); all_goals try (conv=>whnf)
    refine callV_data c_awake rfl ?_
    (repeat' (first|refine stp ?_|(with_reducible refine brr ?_ ?_<;>intro h)|(with_reducible refine nilImm_map ?_ ?_<;>intro h)|with_reducible refine anyb_of ?_ ?_)); all_goals try (conv=>whnf)
    refine callV_data cw rfl ?_
    (repeat' (first|refine stp ?_|(with_reducible refine brr ?_ ?_<;>intro h)|(with_reducible refine nilImm_map ?_ ?_<;>intro h)|with_reducible refine anyb_of ?_ ?_)); all_goals try (conv=>whnf)
    exact givesV_to rfl rfl
end Go.PI.Tryz
namespace Go.Proofs.YtigeioodiljlaaaGreat
set_option linter.unusedSimpArgs false
set_option linter.unnecessarySimpa false
open Go Go.PI Go.PI.Tryz
open Go.ChangeShapes Go.WideShapes Go.ChangeAt Go.RowKit
set_option linter.unusedVariables false
theorem ok_law_dualsBoundIsBound : FnOk Tryz.prog 7 Tryz.f7 (Tryz.f7.body.getD .skip) [.tmp 6] 62 := ⟨Tryz.func7, rfl, by decide, Tryz.ntmps7, Tryz.results7, by kernel_rfl, by kernel_rfl⟩
set_option maxRecDepth 100000 in
theorem dualsBoundIsBound_contract (H : Type) (enc : TypeId × Value → H) (W : World) (args : Array Value) (ds gs : List (DataW H)) (before : List MemPlace) (base : Nat) (hb : Rows.uptoBulkAll ds ≤ 1048576)
    (hvl : ∀ (j : Nat) t v, Tryz.f7.params[j]? = some t → args[j]? = some v → Value.okWide Tryz.prog W .any base t v)
    (hW : DataW.Whole enc Tryz.prog Tryz.f7.params.toList Rows.dualsBoundIsBoundSpec.vars false W args.toList ds gs before) :
    Calls Tryz.prog 7 args W fun e W' => ∃ v, e = .returned v ∧ Rows.dualsBoundIsBoundSpec.post enc Tryz.prog Tryz.f7 false true false false W args v W' := by
  have hW' := hW
  obtain ⟨p, q, hA0, hV, hpq, hfz, hnd⟩ := hW
  have hA : DataW.TrodAll enc Tryz.prog W 0 (fun _ => true) true Tryz.f7.params.toList args.toList ds p := hA0
  rw [Tryz.params7] at hA hvl
  obtain ⟨v0, vs0, d0, ds0, p0, q0', hargs, rfl, hp0, ⟨fuel0, h0⟩, r0⟩ := trodAll_cons hA
  obtain ⟨v1, vs1, d1, ds1, p1, q1', rfl, rfl, hp1, ⟨fuel1, h1⟩, r1⟩ := trodAll_cons r0
  obtain ⟨v2, vs2, d2, ds2, p2, q2', rfl, rfl, hp2, ⟨fuel2, h2⟩, r2⟩ := trodAll_cons r1
  obtain ⟨rfl, rfl, rfl⟩ := trodAll_nil r2
  have hargs2 : args = #[v0, v1, v2] := by cases args; simp_all
  rw [hargs2] at hvl
  simp only [bulkAll_eq, bulkAll] at hb
  obtain ⟨x0, g0, q0⟩ := (r_prog _) fuel0 (Nat.le_refl _) _ _ _ h0
  obtain ⟨x1, g1, q1⟩ := (r_rats _) fuel1 (Nat.le_refl _) _ _ _ h1
  obtain ⟨x2, g2, q2⟩ := (r_rats _) fuel2 (Nat.le_refl _) _ _ _ h2
  have hval : ∀ (j : Nat) (d : PV), [encProg x0, .imm (x1.map encRat), .imm (x2.map encRat)][j]? = some d → RD W (AllB W) d (args.toList.getD j undef) := by
    intro j d hj
    rw [hargs]
    match j, hj with
    | 0, hj => cases hj; exact rc_agg (arg_struct hvl 0 (t := 31) (v := v0) rfl rfl Tryz.underlying31) g0
    | 1, hj => cases hj; exact rc_one (arg_slice hvl 1 (t := 32) (v := v1) rfl rfl Tryz.underlying32) g1
    | 2, hj => cases hj; exact rc_one (arg_slice hvl 2 (t := 32) (v := v2) rfl rfl Tryz.underlying32) g2
    | n + 3, hj => simp at hj
  refine law_post (G := G0) laidOut (by kernel_rfl) rfl Tryz.underlying4 rfl (fun gs hgs => by subst hgs; rfl) hW' gok (pvs := [encProg x0, .imm (x1.map encRat), .imm (x2.map encRat)]) ⟨by rw [hargs]; rfl, hval⟩ ?_
  exact c_dualsBoundIsBound x0 x1 x2 (q0.ok (by omega)) (okL_of q1 (by omega)) (okL_of q2 (by omega))
set_option maxRecDepth 100000 in
theorem dualsBoundIsBound_lifted (os : Os) (started : os.Started) (H : Type) (enc : TypeId × Value → H) (F : Stop.Interp) :
    ReturnsInHanded {} Tryz.checked os 7 .any ((Rows.OpenSpec.upto Rows.dualsBoundIsBoundSpec).pre6 enc Tryz.prog Tryz.f7 Rows.dualsBoundIsBoundUptoRow.domain false) (((Rows.OpenSpec.upto Rows.dualsBoundIsBoundSpec).at F).post enc Tryz.prog Tryz.f7 false true false false) := by
  refine returnsInHanded_of_cond (C := Tryz.checked) (s := Rows.OpenSpec.upto Rows.dualsBoundIsBoundSpec) (k := Rows.uptoSmall) rfl own started (by kernel_rfl) Tryz.func7
    (OpenSpec.witness (enc := enc) (C := Tryz.checked) (s := Rows.OpenSpec.upto Rows.dualsBoundIsBoundSpec) (k := Rows.uptoSmall) rfl false ⟨#[], #[.agg #[.int .i64 0, .slice none 0 0, .slice none 0 0, .bool false, .slice none 0 0, .slice none 0 0], .slice none 0 0, .slice none 0 0], []⟩ 8 (by kernel_rfl) (by kernel_rfl) (by kernel_rfl)
      (x := ([.agg [.lit (.int .i64 0), .nil, .agg [.nil, .agg [.lit (.bool false), .nil, .nil]]], .nil, .nil], [], [])) (by kernel_rfl) rfl (by kernel_rfl)) ?_
  intro W base args ds gs before hval hW _ hk _
  have hb : Rows.uptoBulkAll (ds ++ gs) ≤ 1048576 := of_decide_eq_true hk
  have hgs : gs = [] := by obtain ⟨p, q, _, hV, _⟩ := hW; exact (trodVars_none hV).1
  rw [hgs, List.append_nil] at hb
  exact dualsBoundIsBound_contract H enc W args ds gs before base hb hval hW
/-- THE ROW. -/
theorem dualsBoundIsBound_holds : Rows.DualsBoundIsBoundUptoSaid :=
  OpenClaim.holds_of_cond 7 Tryz.f7 rfl rfl rfl rfl rfl rfl rfl ⟨rfl, rfl, rfl, rfl, rfl⟩ rfl rfl rfl rfl rfl (by kernel_rfl) Tryz.func7 (by kernel_rfl)
    (of_decide_eq_true (by kernel_rfl)) (by unfold Func.isWrapper; first | (rw [if_pos (by decide +kernel)]; kernel_rfl) | (rw [if_neg (by decide +kernel)]; exact ⟨rfl, rfl⟩))
    (fun os started H enc _ F => dualsBoundIsBound_lifted os started H enc F)
end Go.Proofs.YtigeioodiljlaaaGreat
