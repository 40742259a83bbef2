/-
  The law CheckerRepeated.
-/
import Derived.Test.YtcinkbieboiffaaGreatCKO
set_option linter.unusedVariables false
set_option linter.unusedSimpArgs false
set_option linter.unnecessarySimpa false
namespace Go.PI.Tryz
open Go.Proofs Go.PI
def againN (m : NodeL) : NodeL := .mk (m.lemmas ++ [m.lemmas[m.lemmas.length - 1]!]) m.split m.kids m.empty m.proof
theorem again_of {q : QryL} {n m : NodeL} {P V v : Nat} {p : List DecL} (hq : szQ q P) (hvV : v ≤ V) (hB : P + 2 * V + 20 ≤ 20000000) (zn : NodeZ P V v 900 n) (hsn : n.Sm) (hn4 : n.wt ≤ 400) (ht : (treeR q n).2 = 0) (hm : (p, m) ∈ allV n) (hk : m.kids.length = 0) (hl : 0 < m.lemmas.length) :
 ∃ n', (againN m).Sm ∧ repV (againN m) n p = (n', 0) ∧ inZ q n' P V v ∧ treeR q n' = ([], 0) := by
 obtain ⟨hv, hva, hb⟩ := tree_ok ht;obtain ⟨hf, hcn⟩ := zJP hv;have hall : (p, m) ∈ n.all := by unfold allV at hm; rw [if_pos hv] at hm; exact hm
 have hat := atF_mem _ n 2048 p m (Nat.lt_succ_self _) hf hall;have hsmp := all_sm _ n (Nat.lt_succ_self _) hsn _ hall;have hms : m.Sm := hsmp.1;have hmw : m.wt ≤ n.wt := by have h := hsmp.2.2; dsimp only at h; omega
 have hS0 : okScp ⟨q, [], []⟩ := ⟨hva, fun d hd => by cases hd⟩
 have hnv : nvar ⟨q, [], []⟩ ≤ 1280 := by
  have h1 := hva.1.1;have h2 := hva.1.2.1;show q.g.ins + q.g.units.length ≤ 1280
  omega
 have hz0 : szT ⟨q, [], []⟩ P V v 900 2048 :=
  ⟨hq.P1, hq.g.1.2, hq.r.1, hq.r.2.1, ⟨hq.r.2.2.2, hq.r.2.2.1⟩, hq.goal, (by show 0 + 2048 ≤ 1048576; omega), (fun d hd => by cases hd), (fun d hd => by cases hd), (fun d hd => by cases hd), ⟨hvV, fun m hm => by cases hm⟩, (by show 0 + 900 ≤ 1048576; omega), by omega, hnv⟩
 obtain ⟨c', d', _, hzm, hfm, hc'⟩ := zK8 p n ⟨q, [], []⟩ 2048 m _ _ _ _ hf hb hz0 zn hat;have hlast : m.lemmas[m.lemmas.length - 1]! ∈ m.lemmas := get_mem (by omega);have hnum := hzm.num
 have zw : NodeZ P V v 1000 (againN m) := by
  refine .mk v 1000 _ (fun l hl => ?_) (by show (m.lemmas ++ [_]).length ≤ _; rw [List.length_append, List.length_singleton]; omega) (fun l hl => ?_) hzm.spl hzm.prf (fun x hx => ?_)
  ·rcases List.mem_append.1 hl with hl | hl
   ·exact hzm.val l hl
   ·rw [List.mem_singleton.1 hl]; exact hzm.val _ hlast
  ·rcases List.mem_append.1 hl with hl | hl
   ·exact hzm.lem l hl
   ·rw [List.mem_singleton.1 hl]; exact hzm.lem _ hlast
  ·have : m.kids = [] := List.length_eq_zero_iff.1 hk
   have hx : x ∈ m.kids := hx;rw [this] at hx; cases hx
 have hsw : (againN m).Sm := by
  refine .mk _ ⟨by show (m.lemmas ++ [_]).length < _; have h1 := m.wt_eq; have h2 := zE8 m.lemmas; rw [List.length_append, List.length_singleton]; omega, fun l hl => ?_⟩ hms.dec hms.len (fun x hx => hms.kid hx) hms.prf;rcases List.mem_append.1 hl with hl | hl
  ·exact hms.lems.2 l hl
  ·rw [List.mem_singleton.1 hl]; exact hms.lems.2 _ hlast
 have hww : (againN m).wt ≤ 1000 := by
  have h1 := m.wt_eq;rw [NodeL.wt_eq];show 1 + ((m.lemmas ++ [m.lemmas[m.lemmas.length - 1]!]).map lemWt).sum + m.proof.length + (m.kids.map NodeL.wt).sum ≤ 1000
  rw [List.map_append, List.sum_append];have h2 : lemWt m.lemmas[m.lemmas.length - 1]! ≤ (m.lemmas.map lemWt).sum := zGW hlast;simp only [List.map_cons, List.map_nil, List.sum_cons, List.sum_nil];omega
 have hfw : ∀ d, formOk d m = true → formOk d (againN m) = true := fun d h => by
  rw [zCH hk] at h;rw [zCH (show (againN m).kids.length = 0 from hk)];exact h
 have hwv : (againN m).valid = true := by
  unfold NodeL.valid;have h1 := zFB _ _ _ 2048 (Nat.lt_succ_self _) (by omega) (form_wt _ m _ (Nat.lt_succ_self _) hfm);rw [hfw _ h1, zGK (show (againN m).kids.length = 0 from hk)];rfl
 obtain ⟨n', S, h1, h2, h3, h4, h5, h6, h7, h8, h9, h10, h11⟩ := local_of' hq hvV hB (zn.more _ _ _ _ (Nat.lt_succ_self _) (by omega)) zw hsn hsw hn4 hww hwv ht hm;refine ⟨n', hsw, h1, h3, ?_⟩;have hr := leaf_again (zIK h9) hk hl (n' := againN m) rfl rfl rfl rfl;rw [h11, zDL hr (show (againN m).kids.length = 0 from hk)]
theorem zEG : FO 7 Tryz.f7 [.tmp 2] 97 := mkO Tryz.func7 Tryz.ntmps7 Tryz.results7
theorem zKI (q : QryL) (n : NodeL) (x : List Int) (Bq Bn : Nat) (hi : inB q n Bq Bn) : Fn 7 [encCase q n x] (.data (.bool true)) := by
 obtain ⟨b, hb, cf⟩ := zKB hi;have hnw := hi.wt;have hBB := hi.B;cases b with
 | false =>
   refine zAJ hmix hT zEG (by simp [encCase]) ?_;refine sns ?_;refine zAA zAX rfl ?_;refine sns ?_;refine zAA cf rfl ?_;refine sns ?_;refine zAA zAX rfl ?_;refine sns ?_;exact zAB rfl rfl
 | true =>
   obtain ⟨f1, f2, f3, f4⟩ := hb rfl;obtain ⟨_, t0⟩ := zD5 hi f4 (by omega);by_cases g4 : (treeR q n).2 = 0
   ·have call := c_all n hi.sm (by omega)
    have hal := allV_len n;have hz := hi.z f4;have hag := fun p m (hm : (p, m) ∈ allV n) => again_of (p := p) (m := m) hz.q hz.hv hz.B (zLF _ n 900 (Nat.lt_succ_self _) hi.ok f4 (by have := bk_eq n; have := hi.bk; omega) (by have := bk_eq n; have := hi.bk; have := vl_tot n; omega) (Nat.le_refl _) (by have := vl_tot n; omega) (by omega)) hi.sm f4 g4 hm
    have hsm : ∀ p m, (p, m) ∈ allV n → m.Sm ∧ smPath p ∧ p.length + m.wt ≤ n.wt := fun p m hm => allV_sm hi.sm (by omega) hm
    generalize treeR q n = R at *
    refine zAJ hmix hT zEG (by simp [encCase]) ?_;refine sns ?_;refine zAA zAX rfl ?_;refine sns ?_;refine zAA cf rfl ?_;refine sns ?_;refine zAA t0 rfl ?_
    (repeat' (first|refine stn ?_|(with_reducible refine brr ?_ ?_<;>intro h)|(with_reducible refine zAF ?_ ?_<;>intro h)|with_reducible refine zAL ?_ ?_)); all_goals try (conv=>whnf)
    all_goals try (exfalso; omega)
    refine zBZ call rfl ?_;refine sns ?_
    refine zAN hT (fun (i : Nat) => [(1, .ptr 0 0 0), (5, .imm ((allV n).map encVis)), (6, .int .i64 i)])
     (fun i => [(0, ⟨[encCase q n x], 20, true⟩)]) [] 1
     (fun i => i ≤ (allV n).length) (fun i => (allV n).length - i) 0 (Nat.zero_le _) (by decide) (by simp) ?_ ?_
    ·exact ⟨[0], [26], [(5, .imm ((allV n).map encVis))], [], ⟨⟨⟨_, rfl⟩, trivial⟩, ⟨⟨6, [26], zAK rfl rfl (by simp) (fun x => frz_vis _ _ x), rfl⟩, trivial⟩, trivial⟩, ⟨apx, zAE rfl rfl, zAC rfl rfl, trivial⟩, ⟨bbx, trivial⟩, by simp [ren]⟩
    intro i i1;by_cases hj : i < (allV n).length
    ·have hmem : ((allV n)[i]!.1, (allV n)[i]!.2) ∈ allV n := by rw [getElem!_pos _ i hj]; exact List.getElem_mem _
     obtain ⟨hms, hmp, hmw⟩ := hsm _ _ hmem
     have hml : (allV n)[i]!.2.lemmas.length ≤ 400 := by
      have h1 := (allV n)[i]!.2.wt_eq;have h2 := zE8 (allV n)[i]!.2.lemmas;omega
     (repeat' (first|refine stn ?_|(with_reducible refine brr ?_ ?_<;>intro h)|(with_reducible refine zAF ?_ ?_<;>intro h)|with_reducible refine zAL ?_ ?_)); all_goals try (conv=>whnf)
     all_goals try (exfalso; omega)
     ·exact ⟨i + 1, ⟨by omega, by show (allV n).length - (i + 1) < (allV n).length - i; omega⟩, [0], [], [], [], ttt, ⟨apx, zAE rfl rfl, zAC rfl rfl, trivial⟩, ⟨bbx, trivial⟩, by simp [ren]⟩
     ·exact ⟨i + 1, ⟨by omega, by show (allV n).length - (i + 1) < (allV n).length - i; omega⟩, [0], [], [], [], ttt, ⟨apx, zAE rfl rfl, zAC rfl rfl, trivial⟩, ⟨bbx, trivial⟩, by simp [ren]⟩
     obtain ⟨n', hsw, r1, r3, r4⟩ := hag _ _ hmem (by omega) (by omega);have crep := zHH (againN (allV n)[i]!.2) n (allV n)[i]!.1 hi.sm hsw (by omega) hmp;rw [r1] at crep;have ct := (r3.trees (by omega)).1;rw [r4] at ct;refine zAZ (j := (allV n)[i]!.2.lemmas.length - 1) (by simp only [List.length_map]; omega) (by omega) ?_;refine sns ?_;refine zAA crep (zAD (ks := []) rfl (zAD (ks := []) rfl (zAD (zCT (zAD (zAK (f := encLem) (l := (allV n)[i]!.2.lemmas ++ [(allV n)[i]!.2.lemmas[(allV n)[i]!.2.lemmas.length - 1]!]) rfl (by show List.map encLem _ ++ [encLem _] = _; rw [List.map_append]; rfl) (by show 0 + (List.map encLem _).length + 1 = _; simp) (fun x => frz_lem x)) (zAD (ks := []) rfl (zAD (ks := []) rfl (zAD (ks := []) rfl (zAD (ks := []) rfl (zAD (ks := []) rfl (zAD (ks := []) rfl (zAD (ks := []) rfl (zAD (ks := []) rfl rfl))))))))) ) rfl))) ?_;refine sns ?_;refine zAA ct rfl ?_;refine sns ?_;exact ⟨i + 1, ⟨by omega, by show (allV n).length - (i + 1) < (allV n).length - i; omega⟩, [0], [], [], [], ttt, ⟨apx, zAE rfl rfl, zAC rfl rfl, trivial⟩, ⟨bbx, trivial⟩, by simp [ren]⟩
    ·(repeat' (first|refine stn ?_|(with_reducible refine brr ?_ ?_<;>intro h)|(with_reducible refine zAF ?_ ?_<;>intro h)|with_reducible refine zAL ?_ ?_)); all_goals try (conv=>whnf)
     all_goals try (exfalso; omega)
     exact zAB rfl rfl
   ·generalize treeR q n = R at *
    refine zAJ hmix hT zEG (by simp [encCase]) ?_;refine sns ?_;refine zAA zAX rfl ?_;refine sns ?_;refine zAA cf rfl ?_;refine sns ?_;refine zAA t0 rfl ?_
    (repeat' (first|refine stn ?_|(with_reducible refine brr ?_ ?_<;>intro h)|(with_reducible refine zAF ?_ ?_<;>intro h)|with_reducible refine zAL ?_ ?_)); all_goals try (conv=>whnf)
    ·exact zAB rfl rfl
    ·exfalso; omega
end Go.PI.Tryz
