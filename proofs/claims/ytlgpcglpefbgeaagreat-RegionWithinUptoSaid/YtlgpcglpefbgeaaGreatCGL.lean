/-
  What is read at the types of regions, decisions, points around a center.
-/
import Derived.Test.YtlgpcglpefbgeaaGreatCNA
import Derived.Test.YtlgpcglpefbgeaaGreatCPD
import Derived.Test.YtlgpcglpefbgeaaGreatRows
import Derived.WalkKit
import Derived.ProofKit
import Derived.OpenShut
import Derived.JoinedCond
import Derived.Test.YtlgpcglpefbgeaaGreatCGB
import Derived.Test.YtlgpcglpefbgeaaGreatCPE
namespace Go.PI.Tryz
set_option linter.unusedSimpArgs false
set_option linter.unnecessarySimpa false
open Go Go.Proofs Go.PI Go.Proofs.YtlgpcglpefbgeaaGreat
open Go.ChangeShapes Go.WideShapes Go.ChangeAt Go.RowKit
set_option linter.unusedVariables false
section
variable {H : Type} {enc : TypeId × Value → H} {w : World}
def QNat (xs : List Int) (B : Nat) : Prop := QL (fun x b => (Lit.int .u32 x).wf = true ∧ 1 ≤ b) xs B
theorem r_nat (n : Nat) : Reads enc Tryz.prog w (n + 1) 38 (fun xs : List Int => [encN xs]) QNat :=
  reads_slice Tryz.underlying38 (by kernel_rfl) (by decide) (fun _ => ⟨rfl, rfl⟩) (reads_int Tryz.underlying116)
theorem QNat.ok {x : List Int} {B : Nat} (h : QNat x B) : okN x := fun y hy => by
  obtain ⟨b, ⟨h1, _⟩, _⟩ := QL.mem h y hy
  have : 0 ≤ y ∧ y ≤ 4294967295 := by simpa [Lit.wf, IntKind.min, IntKind.max, IntKind.signed, IntKind.bits] using h1
  omega
theorem QNat.len {x : List Int} {B : Nat} (h : QNat x B) : x.length < B := QL.len (fun _ _ h => h.2) h
def QRat (x : RatL) (B : Nat) : Prop := ∃ b c, QNat x.num b ∧ QNat x.den c ∧ b + c + 2 ≤ B
def cRat (x : RatL) : List PV := [.bool x.neg, encN x.num, encN x.den]
theorem r_rat (n : Nat) : Reads enc Tryz.prog w (n + 2) 40 cRat QRat := by
  refine (reads_struct (tot := 3) Tryz.underlying40 (by kernel_rfl) (readsF_cons rfl (k := 1) (by kernel_rfl) (by decide) (reads_bool Tryz.underlying4)
    (readsF_cons rfl (k := 1) (by kernel_rfl) (by decide) (r_nat n) (readsF_cons rfl (k := 1) (by kernel_rfl) (by decide) (r_nat n) (readsF_nil (by decide)))))).to (fun x => (⟨x.1, x.2.1, x.2.2.1⟩ : RatL)) (fun _ => rfl) ?_
  rintro ⟨a, b, c, u⟩ B ⟨b0, ⟨b1, b2, h1, ⟨b3, b4, h3, ⟨b5, b6, h5, _, h6⟩, h4⟩, h2⟩, h0⟩
  exact ⟨b3, b5, h3, h5, by omega⟩
theorem QRat.ok {x : RatL} {B : Nat} (h : QRat x B) : okQ B x := by
  obtain ⟨b, c, h1, h2, h3⟩ := h
  have := h1.len; have := h2.len
  exact ⟨⟨h1.ok, h2.ok⟩, by omega, by omega⟩
theorem QRat.pos (x : RatL) (B : Nat) (h : QRat x B) : 1 ≤ B := by obtain ⟨b, c, h1, h2, h3⟩ := h; omega
theorem r_rats (m : Nat) : Reads enc Tryz.prog w m 22 (fun xs : List RatL => [.imm (xs.map encRat)]) (QL QRat) :=
  (reads_slice (n := m + 2) (sz := 3) Tryz.underlying22 (by kernel_rfl) (by decide) (fun _ => ⟨rfl, rfl⟩) (r_rat m)).le (by omega)
def cTerm (x : TermL) : List PV := [.int .i64 x.var, .bool x.coef.neg, encN x.coef.num, encN x.coef.den]
def QTerm (x : TermL) (B : Nat) : Prop := ∃ b, QRat x.coef b ∧ b + 2 ≤ B
theorem r_term (m : Nat) : Reads enc Tryz.prog w m 77 cTerm QTerm := by
  refine ((reads_struct (n := m + 2) (tot := 4) Tryz.underlying77 (by kernel_rfl) (readsF_cons rfl (k := 1) (by kernel_rfl) (by decide) (reads_int Tryz.underlying3)
    (readsF_cons rfl (k := 3) (by kernel_rfl) (by decide) (r_rat m) (readsF_nil (by decide))))).le (by omega)).to (fun x => (⟨x.1, x.2.1⟩ : TermL)) (fun _ => rfl) ?_
  rintro ⟨a, c, u⟩ B ⟨b0, ⟨b1, b2, h1, ⟨b3, b4, h3, _, h4⟩, h2⟩, h0⟩
  exact ⟨b3, h3, by have := h1.2; omega⟩
theorem QTerm.pos (x : TermL) (B : Nat) (h : QTerm x B) : 1 ≤ B := by obtain ⟨b, h1, h3⟩ := h; omega
theorem r_terms (m : Nat) : Reads enc Tryz.prog w m 53 (fun xs : List TermL => [.imm (xs.map encTerm)]) (QL QTerm) :=
  (reads_slice (n := m) (sz := 4) Tryz.underlying53 (by kernel_rfl) (by decide) (fun _ => ⟨rfl, rfl⟩) (r_term m)).le (by omega)
def cAff (x : AffL) : List PV := [.imm (x.terms.map encTerm), .bool x.const.neg, encN x.const.num, encN x.const.den]
def QAff (x : AffL) (B : Nat) : Prop := ∃ b c, QL QTerm x.terms b ∧ QRat x.const c ∧ b + c ≤ B
theorem r_aff (m : Nat) : Reads enc Tryz.prog w m 55 cAff QAff := by
  refine ((reads_struct (n := m + 2) (tot := 4) Tryz.underlying55 (by kernel_rfl) (readsF_cons rfl (k := 1) (by kernel_rfl) (by decide) (r_terms (m + 2))
    (readsF_cons rfl (k := 3) (by kernel_rfl) (by decide) (r_rat m) (readsF_nil (by decide))))).le (by omega)).to (fun x => (⟨x.1, x.2.1⟩ : AffL)) (fun _ => rfl) ?_
  rintro ⟨a, c, u⟩ B ⟨b0, ⟨b1, b2, h1, ⟨b3, b4, h3, _, h4⟩, h2⟩, h0⟩
  exact ⟨b1, b3, h1, h3, by omega⟩
theorem QAff.ok {x : AffL} {B : Nat} (h : QAff x B) (hB : B ≤ 1048576) : okA 1048576 x := by
  obtain ⟨b, c, h1, h2, h3⟩ := h
  refine ⟨okQ_le (by omega) h2.ok, fun t ht => ?_, by have := QL.len QTerm.pos h1; omega⟩
  obtain ⟨d, ⟨e, h4, h5⟩, h6⟩ := h1.mem t ht
  exact okQ_le (by omega) h4.ok
theorem QAff.pos (x : AffL) (B : Nat) (h : QAff x B) : 1 ≤ B := by
  obtain ⟨b, c, _, ⟨d, e, _, _, h4⟩, h3⟩ := h; omega
theorem r_rows (m : Nat) : Reads enc Tryz.prog w m 23 (fun xs : List AffL => [.imm (xs.map encAff)]) (QL QAff) :=
  (reads_slice (n := m) (sz := 4) Tryz.underlying23 (by kernel_rfl) (by decide) (fun _ => ⟨rfl, rfl⟩) (r_aff m)).le (by omega)
theorem QInt.pos {k : IntKind} (x : Int) (B : Nat) (h : (Lit.int k x).wf = true ∧ 1 ≤ B) : 1 ≤ B := h.2
theorem r_bytes (m : Nat) : Reads enc Tryz.prog w m 43 (fun xs : List Int => [.imm (xs.map (.int .u8))]) (QL (fun x b => (Lit.int .u8 x).wf = true ∧ 1 ≤ b)) :=
  (reads_slice (n := m) (sz := 1) Tryz.underlying43 (by kernel_rfl) (by decide) (fun _ => ⟨rfl, rfl⟩) (reads_int Tryz.underlying5)).le (by omega)
theorem okBy_of {xs : List Int} {B : Nat} (h : QL (fun x b => (Lit.int .u8 x).wf = true ∧ 1 ≤ b) xs B) (hB : B ≤ 1048576) : okBy xs := by
  refine ⟨by have := QL.len QInt.pos h; omega, fun x hx => ?_⟩
  obtain ⟨b, ⟨h1, _⟩, _⟩ := h.mem x hx
  have : 0 ≤ x ∧ x ≤ 255 := by simpa [Lit.wf, IntKind.min, IntKind.max, IntKind.signed, IntKind.bits] using h1
  omega
theorem u64_of {x : Int} (h : (Lit.int .u64 x).wf = true) : 0 ≤ x ∧ x < 18446744073709551616 := by
  have : 0 ≤ x ∧ x ≤ 18446744073709551615 := by simpa [Lit.wf, IntKind.min, IntKind.max, IntKind.signed, IntKind.bits] using h
  omega
theorem okLs_of {xs : List RatL} {B : Nat} (h : QL QRat xs B) (hB : B ≤ 1048576) : okLs 1048576 xs := by
  refine ⟨by have := QL.len QRat.pos h; omega, fun x hx => ?_⟩
  obtain ⟨b, h1, h2⟩ := h.mem x hx
  exact okQ_le (by omega) h1.ok
end
theorem own : ownKnob Tryz.prog.godebug = none := by kernel_rfl
theorem laidOut : laidOutB Tryz.prog = true := by kernel_rfl
theorem gok {W : World} : Gok G0 W (AllB W) := fun g e hg => by simp [G0] at hg
mutual
theorem bulk_eq {H : Type} : ∀ d : DataW H, Rows.uptoBulk d = bulk d
  | .lit l => by cases l <;> rfl
  | .nil => rfl
  | .ptr d => by simp only [Rows.uptoBulk, bulk, bulk_eq d]
  | .slice elems spare => by simp only [Rows.uptoBulk, bulk, bulkAll_eq elems, bulkAll_eq spare]
  | .agg parts => by simp only [Rows.uptoBulk, bulk, bulkAll_eq parts]
  | .iface _ d => by simp only [Rows.uptoBulk, bulk, bulk_eq d]
  | .map entries => by simp only [Rows.uptoBulk, bulk, bulkEntries_eq entries]
  | .held _ => rfl
theorem bulkAll_eq {H : Type} : ∀ d : List (DataW H), Rows.uptoBulkAll d = bulkAll d
  | [] => rfl
  | d :: r => by simp only [Rows.uptoBulkAll, bulkAll, bulk_eq d, bulkAll_eq r]
theorem bulkEntries_eq {H : Type} : ∀ d : List (Lit × DataW H), Rows.uptoBulkEntries d = bulkEntries d
  | [] => rfl
  | x :: r => by simp only [Rows.uptoBulkEntries, bulkEntries, bulkEntry_eq x, bulkEntries_eq r]
theorem bulkEntry_eq {H : Type} : ∀ d : Lit × DataW H, Rows.uptoBulkEntry d = bulkEntry d
  | (l, d) => by cases l <;> simp only [Rows.uptoBulkEntry, bulkEntry, bulk_eq d]
end
end Go.PI.Tryz
namespace Go.PI.Tryz
set_option linter.unnecessarySimpa false
open Go.Proofs Go.PI
set_option linter.unusedSimpArgs false
set_option linter.unusedVariables false
theorem sh_ok {l : List RatL} {K : Nat} (h : okLs K l) (hs : shL l) : okLs 2 l := ⟨h.1, fun x hx => by
  obtain ⟨i, hi, rfl⟩ := List.getElem_of_mem hx
  have := hs.1 i hi
  rw [getElem!_pos l i hi] at this
  exact ⟨(h.2 _ hx).1, this.1, this.2⟩⟩
theorem few_ok {r : RegL} {K : Nat} (hr : okReg K r) (h : fewR r) : okReg 2 r := by
  refine ⟨sh_ok hr.1 h.1, sh_ok hr.2.1 h.2.1, fun f hf => ?_, hr.2.2.2⟩
  obtain ⟨i, hi, rfl⟩ := List.getElem_of_mem hf
  have h1 := h.2.2.2 i hi
  rw [getElem!_pos r.rows i hi] at h1
  have ha := hr.2.2.1 _ hf
  have hq := sh_ok (okLs_nums ha) h1.2
  refine ⟨hq.2 _ (by simp [numsF]), fun t ht => hq.2 _ ?_, ha.2.2⟩
  rw [numsF, List.take_of_length_le (by omega)]
  exact List.mem_cons_of_mem _ (List.mem_map_of_mem ht)
theorem few_rows {r : RegL} (h : fewR r) {k kx : Nat} (hk : 6 * k + 5 * kx + k + kx ≤ 300000) : ∀ f ∈ r.rows, k + f.terms.length * (k + kx + 1) + k + kx ≤ 399990 := fun f hf => by
  obtain ⟨i, hi, rfl⟩ := List.getElem_of_mem hf
  have h1 := (h.2.2.2 i hi).1
  rw [getElem!_pos r.rows i hi] at h1
  have := Nat.mul_le_mul_right (k + kx + 1) h1
  omega
theorem ok_regionValid : FnOk Tryz.prog 3 Tryz.f3 (Tryz.f3.body.getD .skip) [.tmp 4] 20 := ⟨Tryz.func3, rfl, by decide, Tryz.ntmps3, Tryz.results3, by kernel_rfl, by kernel_rfl⟩
theorem c_regionValid (r : RegL) (n : Int) (hr : okReg 1048576 r) : Fn 3 [encReg r, .int .i64 n] (.data (.bool true)) := by
  have cf := c_wfew r (okReg_le (by decide) hr)
  have cc := c_wcopied r (okReg_le (by decide) hr)
  by_cases hf : fewR r
  · rw [dB_true.2 hf] at cf
    have h2 := few_ok hr hf
    have c1 := c_rgvalid r n (okReg_le (by decide) h2)
    have c2 := c_sgvalid r n (okReg_le (by decide) h2)
    generalize dB (VaR r n) = B at *
    refine fnC_v hmix hT ok_regionValid (by simp [encReg]) ?_
    (repeat' (first|refine stp ?_|(with_reducible refine brr ?_ ?_<;>intro h)|(with_reducible refine nilImm_map ?_ ?_<;>intro h)|with_reducible refine anyb_of ?_ ?_)); all_goals try (conv=>whnf)
    refine callV_data c_awake19 rfl ?_
    (repeat' (first|refine stp ?_|(with_reducible refine brr ?_ ?_<;>intro h)|(with_reducible refine nilImm_map ?_ ?_<;>intro h)|with_reducible refine anyb_of ?_ ?_)); all_goals try (conv=>whnf)
    refine callV_data cf rfl ?_
    (repeat' (first|refine stp ?_|(with_reducible refine brr ?_ ?_<;>intro h)|(with_reducible refine nilImm_map ?_ ?_<;>intro h)|with_reducible refine anyb_of ?_ ?_)); all_goals try (conv=>whnf)
    refine callV_data cc rfl ?_
    (repeat' (first|refine stp ?_|(with_reducible refine brr ?_ ?_<;>intro h)|(with_reducible refine nilImm_map ?_ ?_<;>intro h)|with_reducible refine anyb_of ?_ ?_)); all_goals try (conv=>whnf)
    refine callV_data c1 rfl ?_
    (repeat' (first|refine stp ?_|(with_reducible refine brr ?_ ?_<;>intro h)|(with_reducible refine nilImm_map ?_ ?_<;>intro h)|with_reducible refine anyb_of ?_ ?_)); all_goals try (conv=>whnf)
    refine callV_data c2 rfl ?_
    (repeat' (first|refine stp ?_|(with_reducible refine brr ?_ ?_<;>intro h)|(with_reducible refine nilImm_map ?_ ?_<;>intro h)|with_reducible refine anyb_of ?_ ?_)); all_goals try (conv=>whnf)
    exact givesV_to rfl (by cases B <;> rfl)
  · rw [dB_false.2 hf] at cf
    refine fnC_v hmix hT ok_regionValid (by simp [encReg]) ?_
    (repeat' (first|refine stp ?_|(with_reducible refine brr ?_ ?_<;>intro h)|(with_reducible refine nilImm_map ?_ ?_<;>intro h)|with_reducible refine anyb_of ?_ ?_)); all_goals try (conv=>whnf)
    refine callV_data c_awake19 rfl ?_
    (repeat' (first|refine stp ?_|(with_reducible refine brr ?_ ?_<;>intro h)|(with_reducible refine nilImm_map ?_ ?_<;>intro h)|with_reducible refine anyb_of ?_ ?_)); all_goals try (conv=>whnf)
    refine callV_data cf rfl ?_
    (repeat' (first|refine stp ?_|(with_reducible refine brr ?_ ?_<;>intro h)|(with_reducible refine nilImm_map ?_ ?_<;>intro h)|with_reducible refine anyb_of ?_ ?_)); all_goals try (conv=>whnf)
    exact givesV_to rfl rfl
theorem ok_regionBox : FnOk Tryz.prog 4 Tryz.f4 (Tryz.f4.body.getD .skip) [.tmp 4] 39 := ⟨Tryz.func4, rfl, by decide, Tryz.ntmps4, Tryz.results4, by kernel_rfl, by kernel_rfl⟩
theorem c_regionBox (lo hi : List RatL) (h1 : okLs 1048576 lo) (h2 : okLs 1048576 hi) : Fn 4 [.imm (lo.map encRat), .imm (hi.map encRat)] (.data (.bool true)) := by
  have cl := c_wshort lo (okLs_le (by decide) h1)
  have ch := c_wshort hi (okLs_le (by decide) h2)
  refine fnC_v hmix hT ok_regionBox (by simp) ?_
  (repeat' (first|refine stp ?_|(with_reducible refine brr ?_ ?_<;>intro h)|(with_reducible refine nilImm_map ?_ ?_<;>intro h)|with_reducible refine anyb_of ?_ ?_)); all_goals try (conv=>whnf)
  refine callV_data c_awake19 rfl ?_
  (repeat' (first|refine stp ?_|(with_reducible refine brr ?_ ?_<;>intro h)|(with_reducible refine nilImm_map ?_ ?_<;>intro h)|with_reducible refine anyb_of ?_ ?_)); all_goals try (conv=>whnf)
  refine callV_data cl rfl ?_
  (repeat' (first|refine stp ?_|(with_reducible refine brr ?_ ?_<;>intro h)|(with_reducible refine nilImm_map ?_ ?_<;>intro h)|with_reducible refine anyb_of ?_ ?_)); all_goals try (conv=>whnf)
  rotate_left
  · exact givesV_to rfl rfl
  refine callV_data ch rfl ?_
  (repeat' (first|refine stp ?_|(with_reducible refine brr ?_ ?_<;>intro h)|(with_reducible refine nilImm_map ?_ ?_<;>intro h)|with_reducible refine anyb_of ?_ ?_)); all_goals try (conv=>whnf)
  rotate_left
  · exact givesV_to rfl rfl
  have g1 := sh_ok h1 (dB_true.1 (by assumption))
  have g2 := sh_ok h2 (dB_true.1 (by assumption))
  have b1 := c_rgbox lo hi (okLs_le (by decide) g1) (okLs_le (by decide) g2)
  have b2 := c_sgbox lo hi (okLs_le (by decide) g1) (okLs_le (by decide) g2)
  have hok : okReg 2 (boxV lo hi).1 := by
    unfold boxV; split
    · exact okReg_can g1 g2 (by decide)
    · exact ⟨⟨by decide, fun x hx => by cases hx⟩, ⟨by decide, fun x hx => by cases hx⟩, fun f hf => (by cases hf), by decide⟩
  have ce := c_sgequal (boxV lo hi).1 (boxV lo hi).1 (okReg_le (by decide) hok) (okReg_le (by decide) hok)
  rw [decide_eq_true rfl] at ce
  generalize boxV lo hi = V at *
  refine callV_data b1 rfl ?_
  (repeat' (first|refine stp ?_|(with_reducible refine brr ?_ ?_<;>intro h)|(with_reducible refine nilImm_map ?_ ?_<;>intro h)|with_reducible refine anyb_of ?_ ?_)); all_goals try (conv=>whnf)
  refine callV_data b2 rfl ?_
  (repeat' (first|refine stp ?_|(with_reducible refine brr ?_ ?_<;>intro h)|(with_reducible refine nilImm_map ?_ ?_<;>intro h)|with_reducible refine anyb_of ?_ ?_)); all_goals try (conv=>whnf)
  · refine callV_data ce rfl ?_
    (repeat' (first|refine stp ?_|(with_reducible refine brr ?_ ?_<;>intro h)|(with_reducible refine nilImm_map ?_ ?_<;>intro h)|with_reducible refine anyb_of ?_ ?_)); all_goals try (conv=>whnf)
    exact givesV_to rfl rfl
  · exact absurd trivial h
theorem ok_regionContains : FnOk Tryz.prog 5 Tryz.f5 (Tryz.f5.body.getD .skip) [.tmp 4] 25 := ⟨Tryz.func5, rfl, by decide, Tryz.ntmps5, Tryz.results5, by kernel_rfl, by kernel_rfl⟩
theorem c_regionContains (r : RegL) (x : List RatL) (hr : okReg 1048576 r) (hx : okLs 1048576 x) : Fn 5 [encReg r, .imm (x.map encRat)] (.data (.bool true)) := by
  have cf := c_wfew r (okReg_le (by decide) hr)
  have cs := c_wshort x (okLs_le (by decide) hx)
  have cc := c_wcopied r (okReg_le (by decide) hr)
  refine fnC_v hmix hT ok_regionContains (by simp [encReg]) ?_
  (repeat' (first|refine stp ?_|(with_reducible refine brr ?_ ?_<;>intro h)|(with_reducible refine nilImm_map ?_ ?_<;>intro h)|with_reducible refine anyb_of ?_ ?_)); all_goals try (conv=>whnf)
  refine callV_data c_awake19 rfl ?_
  (repeat' (first|refine stp ?_|(with_reducible refine brr ?_ ?_<;>intro h)|(with_reducible refine nilImm_map ?_ ?_<;>intro h)|with_reducible refine anyb_of ?_ ?_)); all_goals try (conv=>whnf)
  refine callV_data cf rfl ?_
  (repeat' (first|refine stp ?_|(with_reducible refine brr ?_ ?_<;>intro h)|(with_reducible refine nilImm_map ?_ ?_<;>intro h)|with_reducible refine anyb_of ?_ ?_)); all_goals try (conv=>whnf)
  rotate_left
  · exact givesV_to rfl rfl
  refine callV_data cs rfl ?_
  (repeat' (first|refine stp ?_|(with_reducible refine brr ?_ ?_<;>intro h)|(with_reducible refine nilImm_map ?_ ?_<;>intro h)|with_reducible refine anyb_of ?_ ?_)); all_goals try (conv=>whnf)
  rotate_left
  · exact givesV_to rfl rfl
  have hf : fewR r := dB_true.1 (by assumption)
  have h2 := few_ok hr hf
  have g2 := sh_ok hx (dB_true.1 (by assumption))
  have c1 := c_rgcont r x 2 2 h2 (by decide) (by decide) g2 (few_rows hf (by decide)) (by decide) (by decide)
  have c2 := c_sgcont r x 2 2 h2 (by decide) (by decide) g2 (few_rows hf (by decide)) (by decide) (by decide)
  generalize dB (conR r x) = B at *
  refine callV_data cc rfl ?_
  (repeat' (first|refine stp ?_|(with_reducible refine brr ?_ ?_<;>intro h)|(with_reducible refine nilImm_map ?_ ?_<;>intro h)|with_reducible refine anyb_of ?_ ?_)); all_goals try (conv=>whnf)
  refine callV_data c1 rfl ?_
  (repeat' (first|refine stp ?_|(with_reducible refine brr ?_ ?_<;>intro h)|(with_reducible refine nilImm_map ?_ ?_<;>intro h)|with_reducible refine anyb_of ?_ ?_)); all_goals try (conv=>whnf)
  refine callV_data c2 rfl ?_
  (repeat' (first|refine stp ?_|(with_reducible refine brr ?_ ?_<;>intro h)|(with_reducible refine nilImm_map ?_ ?_<;>intro h)|with_reducible refine anyb_of ?_ ?_)); all_goals try (conv=>whnf)
  exact givesV_to rfl (by cases B <;> rfl)
theorem ok_regionWithin : FnOk Tryz.prog 7 Tryz.f7 (Tryz.f7.body.getD .skip) [.tmp 6] 57 := ⟨Tryz.func7, rfl, by decide, Tryz.ntmps7, Tryz.results7, by kernel_rfl, by kernel_rfl⟩
theorem c_regionWithin (a b : RegL) (l : List Int) (ha : okReg 1048576 a) (hb : okReg 1048576 b) (hl : okBy l) : Fn 7 [encReg a, encReg b, .imm (l.map (.int .u8))] (.data (.bool true)) := by
  have cf := c_wfew a (okReg_le (by decide) ha)
  have cg := c_wfew b (okReg_le (by decide) hb)
  have l1 := hl.1
  refine fnC_v hmix hT ok_regionWithin (by simp [encReg]) ?_
  (repeat' (first|refine stp ?_|(with_reducible refine brr ?_ ?_<;>intro h)|(with_reducible refine nilImm_map ?_ ?_<;>intro h)|with_reducible refine anyb_of ?_ ?_)); all_goals try (conv=>whnf)
  refine callV_data c_awake19 rfl ?_
  (repeat' (first|refine stp ?_|(with_reducible refine brr ?_ ?_<;>intro h)|(with_reducible refine nilImm_map ?_ ?_<;>intro h)|with_reducible refine anyb_of ?_ ?_)); all_goals try (conv=>whnf)
  refine callV_data cf rfl ?_
  (repeat' (first|refine stp ?_|(with_reducible refine brr ?_ ?_<;>intro h)|(with_reducible refine nilImm_map ?_ ?_<;>intro h)|with_reducible refine anyb_of ?_ ?_)); all_goals try (conv=>whnf)
  rotate_left
  · exact givesV_to rfl rfl
  refine callV_data cg rfl ?_
  (repeat' (first|refine stp ?_|(with_reducible refine brr ?_ ?_<;>intro h)|(with_reducible refine nilImm_map ?_ ?_<;>intro h)|with_reducible refine anyb_of ?_ ?_)); all_goals try (conv=>whnf)
  · exact givesV_to rfl rfl
  rotate_left
  · exact givesV_to rfl rfl
  have fa : fewR a := dB_true.1 (by assumption)
  have fb : fewR b := dB_true.1 (by assumption)
  have g1 := few_ok ha fa
  have g2 := few_ok hb fb
  have c1 := c_rgwithin a b (okReg_le (by decide) g1) (okReg_le (by decide) g2)
  have c2 := c_sgwithin a b (okReg_le (by decide) g1) (okReg_le (by decide) g2)
  have c3 := c_rgwithin a a (okReg_le (by decide) g1) (okReg_le (by decide) g1)
  have c4 := c_sgvalid a a.lo.length (okReg_le (by decide) g1)
  have e4 : dB (VaR a a.lo.length) = dB (wiR a a) := by
    rw [Bool.eq_iff_iff, dB_true, dB_true]; exact wi_self.symm
  rw [e4] at c4
  have la := g1.1.1
  refine callV_data c1 rfl ?_
  (repeat' (first|refine stp ?_|(with_reducible refine brr ?_ ?_<;>intro h)|(with_reducible refine nilImm_map ?_ ?_<;>intro h)|with_reducible refine anyb_of ?_ ?_)); all_goals try (conv=>whnf)
  refine callV_data c2 rfl ?_
  (repeat' (first|refine stp ?_|(with_reducible refine brr ?_ ?_<;>intro h)|(with_reducible refine nilImm_map ?_ ?_<;>intro h)|with_reducible refine anyb_of ?_ ?_)); all_goals try (conv=>whnf)
  all_goals try first | exact absurd trivial h | exact absurd rfl h
  refine callV_data c3 rfl ?_
  (repeat' (first|refine stp ?_|(with_reducible refine brr ?_ ?_<;>intro h)|(with_reducible refine nilImm_map ?_ ?_<;>intro h)|with_reducible refine anyb_of ?_ ?_)); all_goals try (conv=>whnf)
  refine callV_data c4 (by simp; rfl) ?_
  (repeat' (first|refine stp ?_|(with_reducible refine brr ?_ ?_<;>intro h)|(with_reducible refine nilImm_map ?_ ?_<;>intro h)|with_reducible refine anyb_of ?_ ?_)); all_goals try (conv=>whnf)
  all_goals try first | exact absurd trivial h | exact absurd rfl h
  · have hw : wiR a b := dB_true.1 (by assumption)
    have hva := hw.1
    have hlh : a.hi.length = a.lo.length := by have := hva.2.2.1; omega
    have ci := c_sgins a l (okReg_le (by decide) g1) hlh hl
    rw [encX_eq] at ci
    have ok9 := okLs_ins g1 (by decide) hlh l
    have k1 := c_rgcont a ((insR a l).map cr) 2 9 g1 (by decide) (by decide) ok9 (few_rows fa (by decide)) (by decide) (by decide)
    have k2 := c_rgcont b ((insR a l).map cr) 2 9 g2 (by decide) (by decide) ok9 (few_rows fb (by decide)) (by decide) (by decide)
    refine callV_data ci rfl ?_
    (repeat' (first|refine stp ?_|(with_reducible refine brr ?_ ?_<;>intro h)|(with_reducible refine nilImm_map ?_ ?_<;>intro h)|with_reducible refine anyb_of ?_ ?_)); all_goals try (conv=>whnf)
    refine callV_data k1 rfl ?_
    (repeat' (first|refine stp ?_|(with_reducible refine brr ?_ ?_<;>intro h)|(with_reducible refine nilImm_map ?_ ?_<;>intro h)|with_reducible refine anyb_of ?_ ?_)); all_goals try (conv=>whnf)
    · refine callV_data k2 rfl ?_
      (repeat' (first|refine stp ?_|(with_reducible refine brr ?_ ?_<;>intro h)|(with_reducible refine nilImm_map ?_ ?_<;>intro h)|with_reducible refine anyb_of ?_ ?_)); all_goals try (conv=>whnf)
      refine givesV_to rfl (congrArg PV.bool (dB_true.2 (wi_con hw (dB_true.1 (by assumption)))))
    · exact givesV_to rfl rfl
  · exact givesV_to rfl rfl
theorem ok_regionSmall : FnOk Tryz.prog 8 Tryz.f8 (Tryz.f8.body.getD .skip) [.tmp 4] 59 := ⟨Tryz.func8, rfl, by decide, Tryz.ntmps8, Tryz.results8, by kernel_rfl, by kernel_rfl⟩
theorem c_regionSmall (w l : List Int) (hw : okBy w) (hl : okBy l) : Fn 8 [.imm (w.map (.int .u8)), .imm (l.map (.int .u8))] (.data (.bool true)) := by
  have lw := hw.1
  have ll := hl.1
  have cn := c_fnew w hw
  have cs := c_fsmall w 0 3 hw (Nat.zero_le _) (by decide) (by decide)
  obtain ⟨hva, hok, s1, s2, s3, s4⟩ := smR_ok (l := w) (a := 0) (m := 3) (Nat.zero_le _) (by decide) (by decide)
  have hvo : VaO (smR' w 0 3) := VaR_own hva
  obtain ⟨r, hr⟩ : ∃ r, smR' w 0 3 = r := ⟨_, rfl⟩
  rw [hr] at cs hva hok s1 s2 s3 s4 hvo
  have ci := c_sgins r l (okReg_le (by decide) hok) (by omega) hl
  have ok9 := okLs_ins hok (by decide) (by omega : r.hi.length = r.lo.length) l
  have hrows : ∀ f ∈ r.rows, 30 + f.terms.length * (30 + (3 * 30 + 3) + 1) + 30 + (3 * 30 + 3) ≤ 399990 := fun f hf => by
    have := Nat.mul_le_mul_right (30 + (3 * 30 + 3) + 1) (s4 f hf); omega
  have kv := c_rgvalid r 3 (okReg_le (by decide) hok)
  rw [dB_true.2 (show VaR r 3 from hva)] at kv
  have kc := c_rgcont r ((insR r l).map cr) 30 (3 * 30 + 3) hok (by decide) (by decide) ok9 hrows (by decide) (by decide)
  rw [encX_eq] at ci
  refine fnC_v hmix hT ok_regionSmall (by simp) ?_
  (repeat' (first|refine stp ?_|(with_reducible refine brr ?_ ?_<;>intro h)|(with_reducible refine nilImm_map ?_ ?_<;>intro h)|with_reducible refine anyb_of ?_ ?_)); all_goals try (conv=>whnf)
  refine callV_data c_awake19 rfl ?_
  (repeat' (first|refine stp ?_|(with_reducible refine brr ?_ ?_<;>intro h)|(with_reducible refine nilImm_map ?_ ?_<;>intro h)|with_reducible refine anyb_of ?_ ?_)); all_goals try (conv=>whnf)
  · exact givesV_to rfl rfl
  · exact givesV_to rfl rfl
  refine callV_give cn rfl ?_
  (repeat' (first|refine stp ?_|(with_reducible refine brr ?_ ?_<;>intro h)|(with_reducible refine nilImm_map ?_ ?_<;>intro h)|with_reducible refine anyb_of ?_ ?_)); all_goals try (conv=>whnf)
  refine callV_mut (r := 12) cs rfl rfl rfl rfl (fd_nr _ _) (by decide) ?_
  (repeat' (first|refine stp ?_|(with_reducible refine brr ?_ ?_<;>intro h)|(with_reducible refine nilImm_map ?_ ?_<;>intro h)|with_reducible refine anyb_of ?_ ?_)); all_goals try (conv=>whnf)
  refine callV_data ci rfl ?_
  (repeat' (first|refine stp ?_|(with_reducible refine brr ?_ ?_<;>intro h)|(with_reducible refine nilImm_map ?_ ?_<;>intro h)|with_reducible refine anyb_of ?_ ?_)); all_goals try (conv=>whnf)
  have hP : ((insR r l).map cr).map qv = insR r l := map_cr_qv _
  have hPl : ((insR r l).map cr).length = 3 := by rw [List.length_map, ins_len, s1]
  have hcon := con_ins hvo l
  obtain ⟨X, hX⟩ : ∃ X, (insR r l).map cr = X := ⟨_, rfl⟩
  rw [hX] at kc ok9 hP hPl hcon ⊢
  generalize insR r l = P at *
  refine loopV_kept hT (fun (i : Nat) => [(5, .ptr 0 0 0), (6, .imm (X.map encRat)), (7, .bool (dB (∀ j, j < i → 0 ≤ evQ r.rows[j]!.Q P))), (8, .int .i64 i)]) (fun _ => [(0, ⟨[encReg r], 3, true⟩)]) [] 1
    (fun i => i ≤ r.rows.length) (fun i => r.rows.length - i) 0 (Nat.zero_le _) (by decide) (by simp) ?_ ?_
  · exact ⟨[_], [], [], [], ⟨trivial, trivial, trivial⟩, ⟨at_ptr (by decide) rfl, at_imm rfl rfl, at_bool rfl (dB_true.2 fun j hj => by omega).symm, at_int rfl rfl, trivial⟩, ⟨blk_box (by decide) rfl rfl rfl rfl rfl, trivial⟩, by simp [ren]⟩
  intro i i1
  by_cases hi : i < r.rows.length
  · have hv := hva.2.2.2.2.2 i hi
    have hF := okF_of hv
    have ha := hok.2.2.1 _ (get_mem hi)
    have hs := szF_okA ha (by decide)
    have hlf := ha.2.2
    have hkk := hrows _ (get_mem hi)
    have hvx : ∀ p ∈ r.rows[i]!.Q.ts, 0 ≤ p.1 ∧ p.1 < X.length := fun p hp => by have := hF.2 p hp; omega
    have ql := Q_len r.rows[i]!
    have ce := c_rlevalW r.rows[i]!.Q X 30 (3 * 30 + 3) hs (by decide) ok9.2 hvx (by rw [ql]; exact hkk) (by omega) ok9.1
    rw [← encF_of hv] at ce
    have hz := evQ_sz (kx := 3 * 30 + 3) (x := X.map qv) hs (fun q hq => by
      obtain ⟨y, hy, rfl⟩ := List.mem_map.1 hq
      have := ok9.2 y hy
      exact sz_qv this.1 this.2.1 this.2.2 (by decide)) (fun p hp => by simpa using hvx p hp)
    rw [ql] at hz
    have hl4 := cr_len hz
    have cg := c_rqsign (cr (evQ r.rows[i]!.Q (X.map qv))) (okR_cr _) (by omega)
    rw [qv_cr, hP] at cg
    rw [hP] at ce
    (repeat' (first|refine stp ?_|(with_reducible refine brr ?_ ?_<;>intro h)|(with_reducible refine nilImm_map ?_ ?_<;>intro h)|with_reducible refine anyb_of ?_ ?_)); all_goals try (conv=>whnf)
    all_goals try (exfalso; omega)
    refine callV_data ce rfl ?_
    (repeat' (first|refine stp ?_|(with_reducible refine brr ?_ ?_<;>intro h)|(with_reducible refine nilImm_map ?_ ?_<;>intro h)|with_reducible refine anyb_of ?_ ?_)); all_goals try (conv=>whnf)
    · refine callV_data cg rfl ?_
      (repeat' (first|refine stp ?_|(with_reducible refine brr ?_ ?_<;>intro h)|(with_reducible refine nilImm_map ?_ ?_<;>intro h)|with_reducible refine anyb_of ?_ ?_)); all_goals try (conv=>whnf)
      refine ⟨i + 1, ⟨by omega, by show r.rows.length - (i + 1) < r.rows.length - i; omega⟩, [0], [], [], [], ⟨trivial, trivial, trivial⟩, ⟨at_ptr (by decide) rfl, at_imm rfl rfl, at_bool rfl ?_, at_int rfl rfl, trivial⟩, ⟨blk_box (by decide) rfl rfl rfl rfl rfl, trivial⟩, by simp [ren]⟩
      have hall := dB_true.1 h
      rw [Bool.eq_iff_iff, dB_true, decide_eq_true_eq]
      exact ⟨fun e j hj => lt_succ_cases (p := fun j => 0 ≤ evQ r.rows[j]!.Q P) hall (Rat.not_lt.1 fun e2 => by have := sgnQ_neg.2 e2; omega) hj, fun e => Int.not_lt.1 fun e2 => absurd (sgnQ_neg.1 e2) (Rat.not_lt.2 (e i (by omega)))⟩
    · refine ⟨i + 1, ⟨by omega, by show r.rows.length - (i + 1) < r.rows.length - i; omega⟩, [0], [], [], [], ⟨trivial, trivial, trivial⟩, ⟨at_ptr (by decide) rfl, at_imm rfl rfl, at_bool rfl ?_, at_int rfl rfl, trivial⟩, ⟨blk_box (by decide) rfl rfl rfl rfl rfl, trivial⟩, by simp [ren]⟩
      exact dB_no fun e => dB_false.1 h fun j hj => e j (by omega)
  · obtain rfl : i = r.rows.length := by omega
    (repeat' (first|refine stp ?_|(with_reducible refine brr ?_ ?_<;>intro h)|(with_reducible refine nilImm_map ?_ ?_<;>intro h)|with_reducible refine anyb_of ?_ ?_)); all_goals try (conv=>whnf)
    all_goals try (exfalso; omega)
    refine callV_data kv rfl ?_
    (repeat' (first|refine stp ?_|(with_reducible refine brr ?_ ?_<;>intro h)|(with_reducible refine nilImm_map ?_ ?_<;>intro h)|with_reducible refine anyb_of ?_ ?_)); all_goals try (conv=>whnf)
    refine callV_data kc rfl ?_
    (repeat' (first|refine stp ?_|(with_reducible refine brr ?_ ?_<;>intro h)|(with_reducible refine nilImm_map ?_ ?_<;>intro h)|with_reducible refine anyb_of ?_ ?_)); all_goals try (conv=>whnf)
    refine givesV_to rfl (congrArg PV.bool ?_)
    have : dB (conR r X) = dB (∀ j, j < r.rows.length → 0 ≤ evQ r.rows[j]!.Q P) := by rw [Bool.eq_iff_iff, dB_true, dB_true]; exact hcon
    rw [this]
    simp
end Go.PI.Tryz
namespace Go.PI.Tryz
set_option linter.unnecessarySimpa false
open Go.Proofs Go.PI
set_option linter.unusedSimpArgs false
set_option linter.unusedVariables false
theorem okLs_ce {r : RegL} (h : okReg 2 r) : okLs 6 ((ceR r).map cr) := by
  by_cases hva : VaO r
  · have hlh : r.hi.length = r.lo.length := by have := hva.2.2.1; omega
    rw [ceR_eq hva]
    refine ⟨by simpa using h.1.1, fun x hx => ?_⟩
    simp only [List.map_map, List.mem_map, List.mem_range, Function.comp] at hx
    obtain ⟨i, hi, rfl⟩ := hx
    have q1 := okLs_get h.1 hi
    have q2 := okLs_get h.2.1 (i := i) (by omega)
    exact okQ_cr (sz_le (by decide) (sz_mul sz_half (sz_add (sz_qv q1.1 q1.2.1 q1.2.2 (by decide)) (sz_qv q2.1 q2.2.1 q2.2.2 (by decide)))))
  · rw [show ceR r = [] by unfold ceR; rw [if_neg hva]]
    exact ⟨by simp, fun x hx => by cases hx⟩
theorem okLs_co {r : RegL} {b : Nat} (h : okReg 2 r) : okLs 2 ((coR r b).map cr) := by
  by_cases hva : VaO r
  · have hlh : r.hi.length = r.lo.length := by have := hva.2.2.1; omega
    rw [show coR r b = (List.range r.lo.length).map fun i => qv (if bitAt b i then r.hi[i]! else r.lo[i]!) by unfold coR; rw [if_pos hva]]
    refine ⟨by simpa using h.1.1, fun x hx => ?_⟩
    simp only [List.map_map, List.mem_map, List.mem_range, Function.comp] at hx
    obtain ⟨i, hi, rfl⟩ := hx
    have q1 := okLs_get h.1 hi
    have q2 := okLs_get h.2.1 (i := i) (by omega)
    split
    · exact okQ_cr (sz_qv q2.1 q2.2.1 q2.2.2 (by decide))
    · exact okQ_cr (sz_qv q1.1 q1.2.1 q1.2.2 (by decide))
  · rw [show coR r b = [] by unfold coR; rw [if_neg hva]]
    exact ⟨by simp, fun x hx => by cases hx⟩
theorem iv_len {r : RegL} (h : okReg 2 r) : (ivR r).length ≤ 1048576 := by
  unfold ivR; split
  · simp only [List.length_zip]; have := h.1.1; omega
  · simp
theorem iv_ok {r : RegL} (h : okReg 2 r) {p : RatL × RatL} (hp : p ∈ ivR r) : okQ 2 p.1 ∧ okQ 2 p.2 := by
  unfold ivR at hp; split at hp
  · have := List.of_mem_zip hp
    exact ⟨h.1.2 _ this.1, h.2.1.2 _ this.2⟩
  · cases hp
theorem ok_regionCorners : FnOk Tryz.prog 10 Tryz.f10 (Tryz.f10.body.getD .skip) [.tmp 4] 97 := ⟨Tryz.func10, rfl, by decide, Tryz.ntmps10, Tryz.results10, by kernel_rfl, by kernel_rfl⟩
theorem c_regionCorners (r : RegL) (b : Nat) (hr : okReg 1048576 r) (hb : b < 18446744073709551616) : Fn 10 [encReg r, .int .u64 b] (.data (.bool true)) := by
  have cf := c_wfew r (okReg_le (by decide) hr)
  have cc := c_wcopied r (okReg_le (by decide) hr)
  refine fnC_v hmix hT ok_regionCorners (by simp [encReg]) ?_
  (repeat' (first|refine stp ?_|(with_reducible refine brr ?_ ?_<;>intro h)|(with_reducible refine nilImm_map ?_ ?_<;>intro h)|with_reducible refine anyb_of ?_ ?_)); all_goals try (conv=>whnf)
  refine callV_data c_awake19 rfl ?_
  (repeat' (first|refine stp ?_|(with_reducible refine brr ?_ ?_<;>intro h)|(with_reducible refine nilImm_map ?_ ?_<;>intro h)|with_reducible refine anyb_of ?_ ?_)); all_goals try (conv=>whnf)
  refine callV_data cf rfl ?_
  (repeat' (first|refine stp ?_|(with_reducible refine brr ?_ ?_<;>intro h)|(with_reducible refine nilImm_map ?_ ?_<;>intro h)|with_reducible refine anyb_of ?_ ?_)); all_goals try (conv=>whnf)
  rotate_left
  · exact givesV_to rfl rfl
  have hf : fewR r := dB_true.1 (by assumption)
  have h2 := few_ok hr hf
  have a1 := c_rgcenter r (okReg_le (by decide) h2)
  have a2 := c_rgcorner r b (okReg_le (by decide) h2) hb
  have a3 := c_rgint r (okReg_le (by decide) h2)
  have a4 := c_sgint r (okReg_le (by decide) h2)
  have a5 := c_sgcenter r (okReg_le (by decide) h2)
  have a6 := c_sgcorner r b (okReg_le (by decide) h2) hb
  rw [encX_eq] at a1 a2 a5 a6
  have o1 := okLs_ce h2
  have o2 := okLs_co (b := b) h2
  have s1 := c_sameall ((ceR r).map cr) ((ceR r).map cr) (okLs_le (by decide) o1) (okLs_le (by decide) o1)
  have s2 := c_sameall ((coR r b).map cr) ((coR r b).map cr) (okLs_le (by decide) o2) (okLs_le (by decide) o2)
  rw [decide_eq_true rfl] at s1 s2
  have l3 := h2.2.2.2
  have l4 := h2.1.1
  have ivl := iv_len h2
  refine callV_data a1 rfl ?_
  (repeat' (first|refine stp ?_|(with_reducible refine brr ?_ ?_<;>intro h)|(with_reducible refine nilImm_map ?_ ?_<;>intro h)|with_reducible refine anyb_of ?_ ?_)); all_goals try (conv=>whnf)
  refine callV_data cc rfl ?_
  (repeat' (first|refine stp ?_|(with_reducible refine brr ?_ ?_<;>intro h)|(with_reducible refine nilImm_map ?_ ?_<;>intro h)|with_reducible refine anyb_of ?_ ?_)); all_goals try (conv=>whnf)
  refine callV_data a2 rfl ?_
  (repeat' (first|refine stp ?_|(with_reducible refine brr ?_ ?_<;>intro h)|(with_reducible refine nilImm_map ?_ ?_<;>intro h)|with_reducible refine anyb_of ?_ ?_)); all_goals try (conv=>whnf)
  refine callV_data a3 rfl ?_
  (repeat' (first|refine stp ?_|(with_reducible refine brr ?_ ?_<;>intro h)|(with_reducible refine nilImm_map ?_ ?_<;>intro h)|with_reducible refine anyb_of ?_ ?_)); all_goals try (conv=>whnf)
  refine callV_data a4 rfl ?_
  (repeat' (first|refine stp ?_|(with_reducible refine brr ?_ ?_<;>intro h)|(with_reducible refine nilImm_map ?_ ?_<;>intro h)|with_reducible refine anyb_of ?_ ?_)); all_goals try (conv=>whnf)
  refine callV_data a5 rfl ?_
  (repeat' (first|refine stp ?_|(with_reducible refine brr ?_ ?_<;>intro h)|(with_reducible refine nilImm_map ?_ ?_<;>intro h)|with_reducible refine anyb_of ?_ ?_)); all_goals try (conv=>whnf)
  refine callV_data s1 rfl ?_
  (repeat' (first|refine stp ?_|(with_reducible refine brr ?_ ?_<;>intro h)|(with_reducible refine nilImm_map ?_ ?_<;>intro h)|with_reducible refine anyb_of ?_ ?_)); all_goals try (conv=>whnf)
  refine callV_data a6 rfl ?_
  (repeat' (first|refine stp ?_|(with_reducible refine brr ?_ ?_<;>intro h)|(with_reducible refine nilImm_map ?_ ?_<;>intro h)|with_reducible refine anyb_of ?_ ?_)); all_goals try (conv=>whnf)
  refine callV_data s2 rfl ?_
  (repeat' (first|refine stp ?_|(with_reducible refine brr ?_ ?_<;>intro h)|(with_reducible refine nilImm_map ?_ ?_<;>intro h)|with_reducible refine anyb_of ?_ ?_)); all_goals try (conv=>whnf)
  all_goals try first | exact absurd trivial h | exact absurd rfl h
  refine loopV_kept hT (fun (i : Nat) => [(2, .ptr 0 0 0), (5, .imm (((ceR r).map cr).map encRat)), (6, .imm (((coR r b).map cr).map encRat)), (7, .imm ((ivR r).map encIv)), (8, .imm ((ivR r).map encIv)), (9, .int .i64 i)]) (fun _ => [(0, ⟨[encReg r], 3, true⟩)]) [] 1
    (fun i => i ≤ (ivR r).length) (fun i => (ivR r).length - i) 0 (Nat.zero_le _) (by decide) (by simp) ?_ ?_
  · exact ⟨[0], [], [], [], ⟨trivial, trivial, trivial⟩, ⟨at_ptr (by decide) rfl, at_imm rfl rfl, at_imm rfl rfl, at_imm rfl rfl, at_imm rfl rfl, at_int rfl rfl, trivial⟩, ⟨blk_box (by decide) rfl rfl rfl rfl rfl, trivial⟩, by simp [ren]⟩
  intro i i1
  by_cases hi : i < (ivR r).length
  · obtain ⟨p1, p2⟩ := iv_ok h2 (get_mem hi)
    have e1 := c_rqsame (ivR r)[i]!.1 (ivR r)[i]!.1 (by have := p1.2; omega) (by have := p1.2; omega) (by have := p1.2; omega) (by have := p1.2; omega)
    have e2 := c_rqsame (ivR r)[i]!.2 (ivR r)[i]!.2 (by have := p2.2; omega) (by have := p2.2; omega) (by have := p2.2; omega) (by have := p2.2; omega)
    rw [decide_eq_true rfl] at e1 e2
    (repeat' (first|refine stp ?_|(with_reducible refine brr ?_ ?_<;>intro h)|(with_reducible refine nilImm_map ?_ ?_<;>intro h)|with_reducible refine anyb_of ?_ ?_)); all_goals try (conv=>whnf)
    all_goals try (exfalso; omega)
    refine callV_data e1 rfl ?_
    (repeat' (first|refine stp ?_|(with_reducible refine brr ?_ ?_<;>intro h)|(with_reducible refine nilImm_map ?_ ?_<;>intro h)|with_reducible refine anyb_of ?_ ?_)); all_goals try (conv=>whnf)
    refine callV_data e2 rfl ?_
    (repeat' (first|refine stp ?_|(with_reducible refine brr ?_ ?_<;>intro h)|(with_reducible refine nilImm_map ?_ ?_<;>intro h)|with_reducible refine anyb_of ?_ ?_)); all_goals try (conv=>whnf)
    exact ⟨i + 1, ⟨by omega, by show (ivR r).length - (i + 1) < (ivR r).length - i; omega⟩, [0], [], [], [], ⟨trivial, trivial, trivial⟩, ⟨at_ptr (by decide) rfl, at_imm rfl rfl, at_imm rfl rfl, at_imm rfl rfl, at_imm rfl rfl, at_int rfl rfl, trivial⟩, ⟨blk_box (by decide) rfl rfl rfl rfl rfl, trivial⟩, by simp [ren]⟩
  · have cv := c_sgvalid r r.lo.length (okReg_le (by decide) h2)
    have k1 := c_rgcont r ((ceR r).map cr) 2 6 h2 (by decide) (by decide) o1 (few_rows hf (by decide)) (by decide) (by decide)
    have k2 := c_rgcont r ((coR r b).map cr) 2 2 h2 (by decide) (by decide) o2 (few_rows hf (by decide)) (by decide) (by decide)
    (repeat' (first|refine stp ?_|(with_reducible refine brr ?_ ?_<;>intro h)|(with_reducible refine nilImm_map ?_ ?_<;>intro h)|with_reducible refine anyb_of ?_ ?_)); all_goals try (conv=>whnf)
    all_goals try (exfalso; omega)
    · exact givesV_to rfl rfl
    · have hrows : r.rows = [] := List.length_eq_zero_iff.1 (by omega)
      refine callV_data cv (by simp; rfl) ?_
      (repeat' (first|refine stp ?_|(with_reducible refine brr ?_ ?_<;>intro h)|(with_reducible refine nilImm_map ?_ ?_<;>intro h)|with_reducible refine anyb_of ?_ ?_)); all_goals try (conv=>whnf)
      · have hva : VaO r := dB_true.1 (by assumption)
        rw [dB_true.2 (con_center hva hrows)] at k1
        rw [dB_true.2 (con_corner hva hrows)] at k2
        refine callV_data k1 rfl ?_
        (repeat' (first|refine stp ?_|(with_reducible refine brr ?_ ?_<;>intro h)|(with_reducible refine nilImm_map ?_ ?_<;>intro h)|with_reducible refine anyb_of ?_ ?_)); all_goals try (conv=>whnf)
        refine callV_data k2 rfl ?_
        (repeat' (first|refine stp ?_|(with_reducible refine brr ?_ ?_<;>intro h)|(with_reducible refine nilImm_map ?_ ?_<;>intro h)|with_reducible refine anyb_of ?_ ?_)); all_goals try (conv=>whnf)
        exact givesV_to rfl rfl
      · exact givesV_to rfl rfl
structure ArL where
  center : List RatL
  radius : RatL
def encAr (x : ArL) : PV := .agg [.imm (x.center.map encRat), .bool x.radius.neg, encN x.radius.num, encN x.radius.den]
theorem sh_one {x : RatL} (h : okQ 1048576 x) : okLs 1048576 [x] := ⟨by simp, fun y hy => by rw [List.mem_singleton.1 hy]; exact h⟩
theorem zero_reg : okReg 2 zeroR := ⟨⟨by decide, fun x hx => (by cases hx)⟩, ⟨by decide, fun x hx => (by cases hx)⟩, fun f hf => (by cases hf), by decide⟩
theorem ok_regionBall : FnOk Tryz.prog 9 Tryz.f9 (Tryz.f9.body.getD .skip) [.tmp 6] 108 := ⟨Tryz.func9, rfl, by decide, Tryz.ntmps9, Tryz.results9, by kernel_rfl, by kernel_rfl⟩
theorem c_regionBall (x : ArL) (r : RegL) (l : List Int) (hc : okLs 1048576 x.center) (hd : okQ 1048576 x.radius) (hr : okReg 1048576 r) (hl : okBy l) : Fn 9 [encAr x, encReg r, .imm (l.map (.int .u8))] (.data (.bool true)) := by
  have cf := c_wfew r (okReg_le (by decide) hr)
  have cs := c_wshort x.center (okLs_le (by decide) hc)
  have ct := c_wshort [x.radius] (okLs_le (by decide) (sh_one hd))
  have cc := c_wcopied r (okReg_le (by decide) hr)
  have l1 := hl.1
  refine fnC_v hmix hT ok_regionBall (by simp [encReg, encAr]) ?_
  (repeat' (first|refine stp ?_|(with_reducible refine brr ?_ ?_<;>intro h)|(with_reducible refine nilImm_map ?_ ?_<;>intro h)|with_reducible refine anyb_of ?_ ?_)); all_goals try (conv=>whnf)
  refine callV_data c_awake19 rfl ?_
  (repeat' (first|refine stp ?_|(with_reducible refine brr ?_ ?_<;>intro h)|(with_reducible refine nilImm_map ?_ ?_<;>intro h)|with_reducible refine anyb_of ?_ ?_)); all_goals try (conv=>whnf)
  refine callV_data cf rfl ?_
  (repeat' (first|refine stp ?_|(with_reducible refine brr ?_ ?_<;>intro h)|(with_reducible refine nilImm_map ?_ ?_<;>intro h)|with_reducible refine anyb_of ?_ ?_)); all_goals try (conv=>whnf)
  rotate_left
  · exact givesV_to rfl rfl
  refine callV_data cs rfl ?_
  (repeat' (first|refine stp ?_|(with_reducible refine brr ?_ ?_<;>intro h)|(with_reducible refine nilImm_map ?_ ?_<;>intro h)|with_reducible refine anyb_of ?_ ?_)); all_goals try (conv=>whnf)
  rotate_left
  · exact givesV_to rfl rfl
  refine callV_data ct rfl ?_
  (repeat' (first|refine stp ?_|(with_reducible refine brr ?_ ?_<;>intro h)|(with_reducible refine nilImm_map ?_ ?_<;>intro h)|with_reducible refine anyb_of ?_ ?_)); all_goals try (conv=>whnf)
  · exact givesV_to rfl rfl
  rotate_left
  · exact givesV_to rfl rfl
  have hf : fewR r := dB_true.1 (by assumption)
  have g1 := few_ok hr hf
  have g2 : okLs 2 x.center := sh_ok hc (dB_true.1 (by assumption))
  have g3 : okQ 2 x.radius := (sh_ok (sh_one hd) (dB_true.1 (by assumption))).2 _ (by simp)
  obtain ⟨c, d⟩ := x
  dsimp only at *
  have b1 := c_rgball r c d (okReg_le (by decide) g1) (okLs_le (by decide) g2) (okQ_le (by decide) g3)
  have b2 := c_sgball r c d (okReg_le (by decide) g1) (okLs_le (by decide) g2) (okQ_le (by decide) g3)
  by_cases hok : balOk r c d
  · have hva := hok.1
    have hlh : r.hi.length = r.lo.length := by have := hva.2.2.1; omega
    have hR := bal_reg g1 g2 g3 (by decide) hlh hok.2.1
    have hyT : emR (balR r c d) → balV r c d = (zeroR, 10) := fun h => by unfold balV; rw [if_pos hok, if_pos h]
    have hyF : ¬ emR (balR r c d) → balV r c d = (balR r c d, 0) := fun h => by unfold balV; rw [if_pos hok, if_neg h]
    have hV : okReg 5 (balV r c d).1 := by
      by_cases he : emR (balR r c d)
      · rw [hyT he]; exact okReg_le (by decide) zero_reg
      · rw [hyF he]; exact hR
    have ce := c_sgequal (balV r c d).1 (balV r c d).1 (okReg_le (by decide) hV) (okReg_le (by decide) hV)
    rw [decide_eq_true rfl] at ce
    have hv2 : (balV r c d).2 ≠ 1 ∧ ((balV r c d).2 = 0 ↔ ¬ emR (balR r c d)) ∧ ((balV r c d).2 = 0 → (balV r c d).1 = balR r c d) := by
      by_cases he : emR (balR r c d)
      · rw [hyT he]; simp [he]
      · rw [hyF he]; simp [he]
    have ci := c_sgins r l (okReg_le (by decide) g1) hlh hl
    rw [encX_eq] at ci
    have ok9 := okLs_ins g1 (by decide) hlh l
    have lP : ((insR r l).map cr).length = r.lo.length := by rw [List.length_map, ins_len]
    obtain ⟨X, hX⟩ : ∃ X, (insR r l).map cr = X := ⟨_, rfl⟩
    rw [hX] at ci ok9 lP
    have kc := c_sgcont r X 2 9 g1 (by decide) (by decide) ok9 (few_rows hf (by decide)) (by decide) (by decide)
    have hnear := bal_near hok lP
    have hrowsV : ∀ f ∈ (balV r c d).1.rows, 5 + f.terms.length * (5 + 9 + 1) + 5 + 9 ≤ 399990 := by
      by_cases he : emR (balR r c d)
      · rw [hyT he]; intro f hf2; cases hf2
      · rw [hyF he]; exact few_rows hf (by decide)
    have kd := c_rgcont (balV r c d).1 X 5 9 hV (by decide) (by decide) ok9 hrowsV (by decide) (by decide)
    have lc := hok.2.1
    have l5 := g1.1.1
    refine callV_data cc rfl ?_
    (repeat' (first|refine stp ?_|(with_reducible refine brr ?_ ?_<;>intro h)|(with_reducible refine nilImm_map ?_ ?_<;>intro h)|with_reducible refine anyb_of ?_ ?_)); all_goals try (conv=>whnf)
    refine callV_data b1 rfl ?_
    (repeat' (first|refine stp ?_|(with_reducible refine brr ?_ ?_<;>intro h)|(with_reducible refine nilImm_map ?_ ?_<;>intro h)|with_reducible refine anyb_of ?_ ?_)); all_goals try (conv=>whnf)
    refine callV_data b2 rfl ?_
    (repeat' (first|refine stp ?_|(with_reducible refine brr ?_ ?_<;>intro h)|(with_reducible refine nilImm_map ?_ ?_<;>intro h)|with_reducible refine anyb_of ?_ ?_)); all_goals try (conv=>whnf)
    all_goals try first | exact absurd trivial h | exact absurd rfl h
    generalize balV r c d = V at *
    obtain ⟨hv1, hv0, hvb⟩ := hv2
    have hres : (decide (V.2 = 0) && dB (conR V.1 X)) = dB (conR r X ∧ ∀ i, i < X.length → qv (absL (qv X[i]! - qv c[i]!)) ≤ qv d) := by
      rw [Bool.eq_iff_iff, Bool.and_eq_true, decide_eq_true_eq, dB_true, dB_true, ← hnear]
      constructor
      · rintro ⟨h1, h2⟩; exact ⟨hv0.1 h1, by rw [← hvb h1]; exact h2⟩
      · rintro ⟨h1, h2⟩; have h0 := hv0.2 h1; exact ⟨h0, by rw [hvb h0]; exact h2⟩
    refine callV_data ce rfl ?_
    (repeat' (first|refine stp ?_|(with_reducible refine brr ?_ ?_<;>intro h)|(with_reducible refine nilImm_map ?_ ?_<;>intro h)|with_reducible refine anyb_of ?_ ?_)); all_goals try (conv=>whnf)
    · exact absurd (by assumption) hv1
    refine callV_data ci rfl ?_
    (repeat' (first|refine stp ?_|(with_reducible refine brr ?_ ?_<;>intro h)|(with_reducible refine nilImm_map ?_ ?_<;>intro h)|with_reducible refine anyb_of ?_ ?_)); all_goals try (conv=>whnf)
    refine callV_data kc rfl ?_
    (repeat' (first|refine stp ?_|(with_reducible refine brr ?_ ?_<;>intro h)|(with_reducible refine nilImm_map ?_ ?_<;>intro h)|with_reducible refine anyb_of ?_ ?_)); all_goals try (conv=>whnf)
    refine loopV_kept hT (fun (i : Nat) => [(3, .ptr 0 0 0), (7, .ptr 1 0 0), (8, .int .i64 V.2), (11, .imm (X.map encRat)), (12, .bool (dB (conR r X ∧ ∀ j, j < i → qv (absL (qv X[j]! - qv c[j]!)) ≤ qv d))), (13, .int .i64 i)])
      (fun _ => [(0, ⟨[encAr ⟨c, d⟩], 4, true⟩), (1, ⟨[encReg V.1], 3, true⟩)]) [] 2
      (fun i => i ≤ X.length) (fun i => X.length - i) 0 (Nat.zero_le _) (by decide) (by simp) ?_ ?_
    · exact ⟨[_, _], [], [], [], ⟨trivial, trivial, trivial⟩, ⟨at_ptr (by decide) rfl, at_ptr (by decide) rfl, at_int rfl rfl, at_imm rfl rfl, at_bool rfl (by rw [Bool.eq_iff_iff, dB_true, dB_true]; exact ⟨fun e => ⟨e, fun j hj => by omega⟩, fun e => e.1⟩), at_int rfl rfl, trivial⟩,
        ⟨blk_box (by decide) rfl rfl rfl rfl rfl, blk_box (by decide) rfl rfl rfl rfl rfl, trivial⟩, by simp [ren]⟩
    intro i i1
    by_cases hi : i < X.length
    · have hic : i < c.length := by omega
      have q1 := okLs_get ok9 hi
      have q2 := okLs_get g2 hic
      have z1 := sz_qv q1.1 q1.2.1 q1.2.2 (by decide)
      have z2 := sz_qv q2.1 q2.2.1 q2.2.2 (by decide)
      have l6 := cr_len (sz_sub z1 z2)
      have d1 := c_rqsub X[i]! c[i]! q1.1 q2.1 (by have := q1.2; omega) (by have := q1.2; omega) (by have := q2.2; omega) (by have := q2.2; omega)
      have d2 := c_rqcmp (absL (qv X[i]! - qv c[i]!)) d (absL_ok _) g3.1 (by show (cr _).num.length < _; omega) (by show (cr _).den.length < _; omega) (by have := g3.2; omega) (by have := g3.2; omega)
      (repeat' (first|refine stp ?_|(with_reducible refine brr ?_ ?_<;>intro h)|(with_reducible refine nilImm_map ?_ ?_<;>intro h)|with_reducible refine anyb_of ?_ ?_)); all_goals try (conv=>whnf)
      all_goals try (exfalso; omega)
      refine callV_data d1 rfl ?_
      (repeat' (first|refine stp ?_|(with_reducible refine brr ?_ ?_<;>intro h)|(with_reducible refine nilImm_map ?_ ?_<;>intro h)|with_reducible refine anyb_of ?_ ?_)); all_goals try (conv=>whnf)
      · refine callV_data d2 rfl ?_
        (repeat' (first|refine stp ?_|(with_reducible refine brr ?_ ?_<;>intro h)|(with_reducible refine nilImm_map ?_ ?_<;>intro h)|with_reducible refine anyb_of ?_ ?_)); all_goals try (conv=>whnf)
        refine ⟨i + 1, ⟨by omega, by show X.length - (i + 1) < X.length - i; omega⟩, [0, 1], [], [], [], ⟨trivial, trivial, trivial⟩, ⟨at_ptr (by decide) rfl, at_ptr (by decide) rfl, at_int rfl rfl, at_imm rfl rfl, at_bool rfl ?_, at_int rfl rfl, trivial⟩,
          ⟨blk_box (by decide) rfl rfl rfl rfl rfl, blk_box (by decide) rfl rfl rfl rfl rfl, trivial⟩, by simp [ren]⟩
        have hall := dB_true.1 h
        rw [Bool.eq_iff_iff, dB_true, decide_eq_true_eq]
        exact ⟨fun e => ⟨hall.1, fun j hj => lt_succ_cases (p := fun j => qv (absL (qv X[j]! - qv c[j]!)) ≤ qv d) hall.2 (sgn_le.1 e) hj⟩, fun e => sgn_le.2 (e.2 i (by omega))⟩
      · refine ⟨i + 1, ⟨by omega, by show X.length - (i + 1) < X.length - i; omega⟩, [0, 1], [], [], [], ⟨trivial, trivial, trivial⟩, ⟨at_ptr (by decide) rfl, at_ptr (by decide) rfl, at_int rfl rfl, at_imm rfl rfl, at_bool rfl ?_, at_int rfl rfl, trivial⟩,
          ⟨blk_box (by decide) rfl rfl rfl rfl rfl, blk_box (by decide) rfl rfl rfl rfl rfl, trivial⟩, by simp [ren]⟩
        exact dB_no fun e => dB_false.1 h ⟨e.1, fun j hj => e.2 j (by omega)⟩
    · obtain rfl : i = X.length := by omega
      (repeat' (first|refine stp ?_|(with_reducible refine brr ?_ ?_<;>intro h)|(with_reducible refine nilImm_map ?_ ?_<;>intro h)|with_reducible refine anyb_of ?_ ?_)); all_goals try (conv=>whnf)
      all_goals try (exfalso; omega)
      · refine callV_data kd rfl ?_
        (repeat' (first|refine stp ?_|(with_reducible refine brr ?_ ?_<;>intro h)|(with_reducible refine nilImm_map ?_ ?_<;>intro h)|with_reducible refine anyb_of ?_ ?_)); all_goals try (conv=>whnf)
        refine givesV_to rfl (congrArg PV.bool ?_)
        rw [← hres, decide_eq_true (by assumption)]
        simp
      · refine givesV_to rfl (congrArg PV.bool ?_)
        rw [← hres, decide_eq_false (by assumption)]
        simp
  · rw [show balV r c d = (zeroR, 1) by unfold balV; rw [if_neg hok]] at b1 b2
    have ce := c_sgequal zeroR zeroR (okReg_le (by decide) zero_reg) (okReg_le (by decide) zero_reg)
    rw [decide_eq_true rfl] at ce
    refine callV_data cc rfl ?_
    (repeat' (first|refine stp ?_|(with_reducible refine brr ?_ ?_<;>intro h)|(with_reducible refine nilImm_map ?_ ?_<;>intro h)|with_reducible refine anyb_of ?_ ?_)); all_goals try (conv=>whnf)
    refine callV_data b1 rfl ?_
    (repeat' (first|refine stp ?_|(with_reducible refine brr ?_ ?_<;>intro h)|(with_reducible refine nilImm_map ?_ ?_<;>intro h)|with_reducible refine anyb_of ?_ ?_)); all_goals try (conv=>whnf)
    refine callV_data b2 rfl ?_
    (repeat' (first|refine stp ?_|(with_reducible refine brr ?_ ?_<;>intro h)|(with_reducible refine nilImm_map ?_ ?_<;>intro h)|with_reducible refine anyb_of ?_ ?_)); all_goals try (conv=>whnf)
    refine callV_data ce rfl ?_
    (repeat' (first|refine stp ?_|(with_reducible refine brr ?_ ?_<;>intro h)|(with_reducible refine nilImm_map ?_ ?_<;>intro h)|with_reducible refine anyb_of ?_ ?_)); all_goals try (conv=>whnf)
    exact givesV_to rfl rfl
end Go.PI.Tryz
namespace Go.PI.Tryz
set_option linter.unnecessarySimpa false
open Go.Proofs Go.PI
set_option linter.unusedSimpArgs false
set_option linter.unusedVariables false
theorem cliV_facts {r : RegL} {d : DecL} (hr : okReg 2 r) (hf : fewR r) (hd : okQ 2 d.rat) :
    okReg 2 (cliV r d).1 ∧ (∀ f ∈ (cliV r d).1.rows, 2 + f.terms.length * (2 + 9 + 1) + 2 + 9 ≤ 399990) ∧ (cliOk r d → (cliV r d).2 ≠ 1 ∧ ((cliV r d).2 = 0 ↔ ¬ emR (cliR r d)) ∧ ((cliV r d).2 = 0 → (cliV r d).1 = cliR r d)) ∧ (¬ cliOk r d → cliV r d = (zeroR, 1)) := by
  have hno : ¬ cliOk r d → cliV r d = (zeroR, 1) := fun h => by unfold cliV; rw [if_neg h]
  by_cases hok : cliOk r d
  · have hva := hok.1
    have hlh : r.hi.length = r.lo.length := by have := hva.2.2.1; omega
    have hi0 := hok.2.2
    obtain ⟨g1, g2, g3⟩ := cli_reg hr hd (by decide) (show d.index.toNat < r.lo.length by omega) hlh
    by_cases he : emR (cliR r d)
    · have e : cliV r d = (zeroR, 10) := by unfold cliV; rw [if_pos hok, if_pos he]
      rw [e]
      exact ⟨zero_reg, fun f hf => (by cases hf), fun _ => ⟨by simp, by simp [he], by simp⟩, fun h => absurd hok h⟩
    · have e : cliV r d = (cliR r d, 0) := by unfold cliV; rw [if_pos hok, if_neg he]
      rw [e]
      exact ⟨g1, few_rows hf (by decide), fun _ => ⟨by simp, by simp [he], by simp⟩, fun h => absurd hok h⟩
  · rw [hno hok]
    exact ⟨zero_reg, fun f hf => (by cases hf), fun h => absurd h hok, fun _ => rfl⟩
theorem ok_regionClip : FnOk Tryz.prog 6 Tryz.f6 (Tryz.f6.body.getD .skip) [.tmp 6] 102 := ⟨Tryz.func6, rfl, by decide, Tryz.ntmps6, Tryz.results6, by kernel_rfl, by kernel_rfl⟩
theorem c_regionClip (r : RegL) (d : DecL) (l : List Int) (hr : okReg 1048576 r) (hd : okQ 1048576 d.rat) (hl : okBy l) : Fn 6 [encReg r, encDec d, .imm (l.map (.int .u8))] (.data (.bool true)) := by
  have cf := c_wfew r (okReg_le (by decide) hr)
  have ct := c_wshort [d.rat] (okLs_le (by decide) (sh_one hd))
  have cc := c_wcopied r (okReg_le (by decide) hr)
  have l1 := hl.1
  refine fnC_v hmix hT ok_regionClip (by simp [encReg, encDec]) ?_
  (repeat' (first|refine stp ?_|(with_reducible refine brr ?_ ?_<;>intro h)|(with_reducible refine nilImm_map ?_ ?_<;>intro h)|with_reducible refine anyb_of ?_ ?_)); all_goals try (conv=>whnf)
  refine callV_data c_awake19 rfl ?_
  (repeat' (first|refine stp ?_|(with_reducible refine brr ?_ ?_<;>intro h)|(with_reducible refine nilImm_map ?_ ?_<;>intro h)|with_reducible refine anyb_of ?_ ?_)); all_goals try (conv=>whnf)
  refine callV_data cf rfl ?_
  (repeat' (first|refine stp ?_|(with_reducible refine brr ?_ ?_<;>intro h)|(with_reducible refine nilImm_map ?_ ?_<;>intro h)|with_reducible refine anyb_of ?_ ?_)); all_goals try (conv=>whnf)
  rotate_left
  · exact givesV_to rfl rfl
  refine callV_data ct rfl ?_
  (repeat' (first|refine stp ?_|(with_reducible refine brr ?_ ?_<;>intro h)|(with_reducible refine nilImm_map ?_ ?_<;>intro h)|with_reducible refine anyb_of ?_ ?_)); all_goals try (conv=>whnf)
  · exact givesV_to rfl rfl
  rotate_left
  · exact givesV_to rfl rfl
  have hf : fewR r := dB_true.1 (by assumption)
  have g1 := few_ok hr hf
  have g3 : okQ 2 d.rat := (sh_ok (sh_one hd) (dB_true.1 (by assumption))).2 _ (by simp)
  have b1 := c_rgclip r d (okReg_le (by decide) g1) (okQ_le (by decide) g3)
  have b2 := c_sgclip r d (okReg_le (by decide) g1) (okQ_le (by decide) g3)
  obtain ⟨v1, v2, v3, v4⟩ := cliV_facts g1 hf g3
  have ce := c_sgequal (cliV r d).1 (cliV r d).1 (okReg_le (by decide) v1) (okReg_le (by decide) v1)
  rw [decide_eq_true rfl] at ce
  refine callV_data cc rfl ?_
  (repeat' (first|refine stp ?_|(with_reducible refine brr ?_ ?_<;>intro h)|(with_reducible refine nilImm_map ?_ ?_<;>intro h)|with_reducible refine anyb_of ?_ ?_)); all_goals try (conv=>whnf)
  refine callV_data b1 rfl ?_
  (repeat' (first|refine stp ?_|(with_reducible refine brr ?_ ?_<;>intro h)|(with_reducible refine nilImm_map ?_ ?_<;>intro h)|with_reducible refine anyb_of ?_ ?_)); all_goals try (conv=>whnf)
  refine callV_data b2 rfl ?_
  (repeat' (first|refine stp ?_|(with_reducible refine brr ?_ ?_<;>intro h)|(with_reducible refine nilImm_map ?_ ?_<;>intro h)|with_reducible refine anyb_of ?_ ?_)); all_goals try (conv=>whnf)
  all_goals try first | exact absurd trivial h | exact absurd rfl h
  refine callV_data ce rfl ?_
  (repeat' (first|refine stp ?_|(with_reducible refine brr ?_ ?_<;>intro h)|(with_reducible refine nilImm_map ?_ ?_<;>intro h)|with_reducible refine anyb_of ?_ ?_)); all_goals try (conv=>whnf)
  · exact givesV_to rfl rfl
  have hok : cliOk r d := Classical.byContradiction fun e => by have := v4 e; rw [this] at h; exact h rfl
  have hva := hok.1
  have hlh : r.hi.length = r.lo.length := by have := hva.2.2.1; omega
  have hi0 := hok.2.2
  have hj : d.index.toNat < r.lo.length := by omega
  have ci := c_sgins r l (okReg_le (by decide) g1) hlh hl
  rw [encX_eq] at ci
  have ok9 := okLs_ins g1 (by decide) hlh l
  have lP : ((insR r l).map cr).length = r.lo.length := by rw [List.length_map, ins_len]
  obtain ⟨X, hX⟩ : ∃ X, (insR r l).map cr = X := ⟨_, rfl⟩
  rw [hX] at ci ok9 lP
  have kc := c_sgcont r X 2 9 g1 (by decide) (by decide) ok9 (few_rows hf (by decide)) (by decide) (by decide)
  have d4 := c_rgclip r ⟨4, d.index, d.rat⟩ (okReg_le (by decide) g1) (okQ_le (by decide) g3)
  have d3 := c_rgclip r ⟨3, d.index, d.rat⟩ (okReg_le (by decide) g1) (okQ_le (by decide) g3)
  obtain ⟨p1, p2, p3, _⟩ := cliV_facts (d := ⟨4, d.index, d.rat⟩) g1 hf g3
  obtain ⟨q1, q2, q3, _⟩ := cliV_facts (d := ⟨3, d.index, d.rat⟩) g1 hf g3
  obtain ⟨_, p4, p5⟩ := p3 ⟨hva, Or.inr rfl, hok.2.2⟩
  obtain ⟨_, q4, q5⟩ := q3 ⟨hva, Or.inl rfl, hok.2.2⟩
  have n4 := con_cli (d := ⟨4, d.index, d.rat⟩) (p := X) hva hj lP
  have n3 := con_cli (d := ⟨3, d.index, d.rat⟩) (p := X) hva hj lP
  have k4 := c_rgcont (cliV r ⟨4, d.index, d.rat⟩).1 X 2 9 p1 (by decide) (by decide) ok9 p2 (by decide) (by decide)
  have k3 := c_rgcont (cliV r ⟨3, d.index, d.rat⟩).1 X 2 9 q1 (by decide) (by decide) ok9 q2 (by decide) (by decide)
  have e4 : ((cliV r ⟨4, d.index, d.rat⟩).2 = 0 ∧ conR (cliV r ⟨4, d.index, d.rat⟩).1 X) ↔ conR r X ∧ qv X[d.index.toNat]! ≤ qv d.rat := by
    have n4' : _ ↔ conR r X ∧ qv X[d.index.toNat]! ≤ qv d.rat := n4
    rw [← n4']
    constructor
    · rintro ⟨h1, h2⟩; exact ⟨p4.1 h1, by rw [← p5 h1]; exact h2⟩
    · rintro ⟨h1, h2⟩; have h0 := p4.2 h1; exact ⟨h0, by rw [p5 h0]; exact h2⟩
  have e3 : ((cliV r ⟨3, d.index, d.rat⟩).2 = 0 ∧ conR (cliV r ⟨3, d.index, d.rat⟩).1 X) ↔ conR r X ∧ qv d.rat ≤ qv X[d.index.toNat]! := by
    have n3' : _ ↔ conR r X ∧ qv d.rat ≤ qv X[d.index.toNat]! := n3
    rw [← n3']
    constructor
    · rintro ⟨h1, h2⟩; exact ⟨q4.1 h1, by rw [← q5 h1]; exact h2⟩
    · rintro ⟨h1, h2⟩; have h0 := q4.2 h1; exact ⟨h0, by rw [q5 h0]; exact h2⟩
  have hall : conR r X ↔ ((cliV r ⟨4, d.index, d.rat⟩).2 = 0 ∧ conR (cliV r ⟨4, d.index, d.rat⟩).1 X) ∨ ((cliV r ⟨3, d.index, d.rat⟩).2 = 0 ∧ conR (cliV r ⟨3, d.index, d.rat⟩).1 X) := by
    rw [e4, e3]
    constructor
    · intro h
      rcases Rat.le_total (a := qv X[d.index.toNat]!) (b := qv d.rat) with e | e
      · exact Or.inl ⟨h, e⟩
      · exact Or.inr ⟨h, e⟩
    · rintro (h | h)
      · exact h.1
      · exact h.1
  generalize cliV r ⟨4, d.index, d.rat⟩ = V4 at *
  generalize cliV r ⟨3, d.index, d.rat⟩ = V3 at *
  refine callV_data ci rfl ?_
  (repeat' (first|refine stp ?_|(with_reducible refine brr ?_ ?_<;>intro h)|(with_reducible refine nilImm_map ?_ ?_<;>intro h)|with_reducible refine anyb_of ?_ ?_)); all_goals try (conv=>whnf)
  refine callV_data d4 rfl ?_
  (repeat' (first|refine stp ?_|(with_reducible refine brr ?_ ?_<;>intro h)|(with_reducible refine nilImm_map ?_ ?_<;>intro h)|with_reducible refine anyb_of ?_ ?_)); all_goals try (conv=>whnf)
  refine callV_data d3 rfl ?_
  (repeat' (first|refine stp ?_|(with_reducible refine brr ?_ ?_<;>intro h)|(with_reducible refine nilImm_map ?_ ?_<;>intro h)|with_reducible refine anyb_of ?_ ?_)); all_goals try (conv=>whnf)
  · have h4 : V4.2 = 0 := by assumption
    refine callV_data k4 rfl ?_
    (repeat' (first|refine stp ?_|(with_reducible refine brr ?_ ?_<;>intro h)|(with_reducible refine nilImm_map ?_ ?_<;>intro h)|with_reducible refine anyb_of ?_ ?_)); all_goals try (conv=>whnf)
    · have hc := hall.2 (Or.inl ⟨h4, dB_true.1 (by assumption)⟩)
      rw [dB_true.2 hc] at kc
      refine callV_data kc rfl ?_
      (repeat' (first|refine stp ?_|(with_reducible refine brr ?_ ?_<;>intro h)|(with_reducible refine nilImm_map ?_ ?_<;>intro h)|with_reducible refine anyb_of ?_ ?_)); all_goals try (conv=>whnf)
      exact givesV_to rfl rfl
    · have n4c := dB_false.1 (by assumption)
      have h3 : V3.2 = 0 := by assumption
      have hb : dB (conR V3.1 X) = dB (conR r X) := by
        rw [Bool.eq_iff_iff, dB_true, dB_true, hall]
        exact ⟨fun e => Or.inr ⟨h3, e⟩, fun e => e.elim (fun q => absurd q.2 n4c) (·.2)⟩
      rw [hb] at k3
      generalize dB (conR r X) = B at *
      refine callV_data k3 rfl ?_
      (repeat' (first|refine stp ?_|(with_reducible refine brr ?_ ?_<;>intro h)|(with_reducible refine nilImm_map ?_ ?_<;>intro h)|with_reducible refine anyb_of ?_ ?_)); all_goals try (conv=>whnf)
      refine callV_data kc rfl ?_
      (repeat' (first|refine stp ?_|(with_reducible refine brr ?_ ?_<;>intro h)|(with_reducible refine nilImm_map ?_ ?_<;>intro h)|with_reducible refine anyb_of ?_ ?_)); all_goals try (conv=>whnf)
      exact givesV_to rfl (by cases B <;> rfl)
    · have n4c := dB_false.1 (by assumption)
      have h3 : ¬ V3.2 = 0 := by assumption
      rw [dB_false.2 (fun e => (hall.1 e).elim (fun q => n4c q.2) (fun q => h3 q.1))] at kc
      refine callV_data kc rfl ?_
      (repeat' (first|refine stp ?_|(with_reducible refine brr ?_ ?_<;>intro h)|(with_reducible refine nilImm_map ?_ ?_<;>intro h)|with_reducible refine anyb_of ?_ ?_)); all_goals try (conv=>whnf)
      exact givesV_to rfl rfl
  · have n4c : ¬ V4.2 = 0 := by assumption
    have h3 : V3.2 = 0 := by assumption
    have hb : dB (conR V3.1 X) = dB (conR r X) := by
      rw [Bool.eq_iff_iff, dB_true, dB_true, hall]
      exact ⟨fun e => Or.inr ⟨h3, e⟩, fun e => e.elim (fun q => absurd q.1 n4c) (·.2)⟩
    rw [hb] at k3
    generalize dB (conR r X) = B at *
    refine callV_data k3 rfl ?_
    (repeat' (first|refine stp ?_|(with_reducible refine brr ?_ ?_<;>intro h)|(with_reducible refine nilImm_map ?_ ?_<;>intro h)|with_reducible refine anyb_of ?_ ?_)); all_goals try (conv=>whnf)
    refine callV_data kc rfl ?_
    (repeat' (first|refine stp ?_|(with_reducible refine brr ?_ ?_<;>intro h)|(with_reducible refine nilImm_map ?_ ?_<;>intro h)|with_reducible refine anyb_of ?_ ?_)); all_goals try (conv=>whnf)
    exact givesV_to rfl (by cases B <;> rfl)
  · have n4c : ¬ V4.2 = 0 := by assumption
    have h3 : ¬ V3.2 = 0 := by assumption
    rw [dB_false.2 (fun e => (hall.1 e).elim (fun q => n4c q.1) (fun q => h3 q.1))] at kc
    refine callV_data kc rfl ?_
    (repeat' (first|refine stp ?_|(with_reducible refine brr ?_ ?_<;>intro h)|(with_reducible refine nilImm_map ?_ ?_<;>intro h)|with_reducible refine anyb_of ?_ ?_)); all_goals try (conv=>whnf)
    exact givesV_to rfl rfl
end Go.PI.Tryz
namespace Go.PI.Tryz
set_option linter.unusedSimpArgs false
set_option linter.unnecessarySimpa false
open Go Go.Proofs Go.PI Go.Proofs.YtlgpcglpefbgeaaGreat
open Go.ChangeShapes Go.WideShapes Go.ChangeAt Go.RowKit
set_option linter.unusedVariables false
section
variable {H : Type} {enc : TypeId × Value → H} {w : World}
def cReg (x : RegL) : List PV := [.imm (x.lo.map encRat), .imm (x.hi.map encRat), .imm (x.rows.map encAff)]
def QReg (x : RegL) (B : Nat) : Prop := ∃ a b c, QL QRat x.lo a ∧ QL QRat x.hi b ∧ QL QAff x.rows c ∧ a + b + c ≤ B
theorem r_reg (m : Nat) : Reads enc Tryz.prog w m 25 cReg QReg := by
  refine ((reads_struct (n := m) (tot := 3) Tryz.underlying25 (by kernel_rfl) (readsF_cons rfl (k := 1) (by kernel_rfl) (by decide) (r_rats m)
    (readsF_cons rfl (k := 1) (by kernel_rfl) (by decide) (r_rats m) (readsF_cons rfl (k := 1) (by kernel_rfl) (by decide) (r_rows m) (readsF_nil (by decide)))))).le (by omega)).to (fun x => (⟨x.1, x.2.1, x.2.2.1⟩ : RegL)) (fun _ => rfl) ?_
  rintro ⟨a, b, c, u⟩ B ⟨b0, ⟨b1, b2, h1, ⟨b3, b4, h3, ⟨b5, b6, h5, _, h6⟩, h4⟩, h2⟩, h0⟩
  exact ⟨b1, b3, b5, h1, h3, h5, by omega⟩
theorem QReg.ok {x : RegL} {B : Nat} (h : QReg x B) (hB : B ≤ 1048576) : okReg 1048576 x := by
  obtain ⟨a, b, c, h1, h2, h3, h4⟩ := h
  refine ⟨okLs_of h1 (by omega), okLs_of h2 (by omega), fun f hf => ?_, by have := QL.len QAff.pos h3; omega⟩
  obtain ⟨d, h5, h6⟩ := h3.mem f hf
  exact h5.ok (by omega)
def cDec (x : DecL) : List PV := [.int .i64 x.kind, .int .i64 x.index, .bool x.rat.neg, encN x.rat.num, encN x.rat.den]
def QDec (x : DecL) (B : Nat) : Prop := ∃ b, QRat x.rat b ∧ b ≤ B
theorem r_dec (m : Nat) : Reads enc Tryz.prog w m 42 cDec QDec := by
  refine ((reads_struct (n := m + 2) (tot := 5) Tryz.underlying42 (by kernel_rfl) (readsF_cons rfl (k := 1) (by kernel_rfl) (by decide) (reads_int Tryz.underlying3)
    (readsF_cons rfl (k := 1) (by kernel_rfl) (by decide) (reads_int Tryz.underlying3) (readsF_cons rfl (k := 3) (by kernel_rfl) (by decide) (r_rat m) (readsF_nil (by decide)))))).le (by omega)).to (fun x => (⟨x.1, x.2.1, x.2.2.1⟩ : DecL)) (fun _ => rfl) ?_
  rintro ⟨a, b, c, u⟩ B ⟨b0, ⟨b1, b2, h1, ⟨b3, b4, h3, ⟨b5, b6, h5, _, h6⟩, h4⟩, h2⟩, h0⟩
  exact ⟨b5, h5, by omega⟩
theorem QDec.ok {x : DecL} {B : Nat} (h : QDec x B) (hB : B ≤ 1048576) : okQ 1048576 x.rat := by
  obtain ⟨b, h1, h2⟩ := h
  exact okQ_le (by omega) h1.ok
def cAr (x : ArL) : List PV := [.imm (x.center.map encRat), .bool x.radius.neg, encN x.radius.num, encN x.radius.den]
def QAr (x : ArL) (B : Nat) : Prop := ∃ a b, QL QRat x.center a ∧ QRat x.radius b ∧ a + b ≤ B
theorem r_ar (m : Nat) : Reads enc Tryz.prog w m 59 cAr QAr := by
  refine ((reads_struct (n := m + 2) (tot := 4) Tryz.underlying59 (by kernel_rfl) (readsF_cons rfl (k := 1) (by kernel_rfl) (by decide) (r_rats _)
    (readsF_cons rfl (k := 3) (by kernel_rfl) (by decide) (r_rat m) (readsF_nil (by decide))))).le (by omega)).to (fun x => (⟨x.1, x.2.1⟩ : ArL)) (fun _ => rfl) ?_
  rintro ⟨a, b, u⟩ B ⟨b0, ⟨b1, b2, h1, ⟨b3, b4, h3, _, h4⟩, h2⟩, h0⟩
  exact ⟨b1, b3, h1, h3, by omega⟩
end
end Go.PI.Tryz
