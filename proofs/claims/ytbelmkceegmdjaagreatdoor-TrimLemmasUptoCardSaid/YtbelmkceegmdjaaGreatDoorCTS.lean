/-
  The definition's splits, Splits.
-/
import Derived.Test.YtbelmkceegmdjaaGreatDoorCTR
import Derived.Test.YtbelmkceegmdjaaGreatDoorCPD
import Derived.Test.YtbelmkceegmdjaaGreatDoorCTQ
import Derived.Test.YtbelmkceegmdjaaGreatDoorCPE
set_option linter.unusedVariables false
set_option linter.unusedSimpArgs false
set_option linter.unnecessarySimpa false
namespace Go.PI.Tryz
open Go.Proofs Go.PI
def vEQ (v : List DecL × NodeL) : List PV := [.imm (v.1.map vA9), vA7 v.2]
abbrev uIB {xs : List (List PV)} {k : Nat} (Y : Cons Tryz.prog xs k) : vA6 := FnY Tryz.prog G0 Y
theorem vKH (x : NodeL) : ∀ (b a : Nat), a ≤ b → b ≤ x.kids.length → ∃ r, x.upto b = x.upto a ++ r := by
 intro b
 induction b with
 | zero =>
   intro a h _;have e : a = 0 := by omega
   subst e; exact ⟨[], by simp⟩
 | succ b ih =>
   intro a h hb;by_cases e : a = b + 1
   ·subst e; exact ⟨[], by simp⟩
   ·obtain ⟨r, hr⟩ := ih a (by omega) (by omega)
    exact ⟨_, by rw [x.upto_succ (by omega), hr, List.append_assoc]⟩
theorem vSI (p : List DecL) (a b : List (List DecL × NodeL)) : pre p (a ++ b) = pre p a ++ pre p b := by simp [pre]
theorem vW7 (path : List DecL) (x : NodeL) {m : Nat} (hm : m < x.kids.length) : pre path (x.upto (m + 1)) = pre path (x.upto m) ++ pre (path ++ [vC6 x m]) x.kids[m]!.all := by
 rw [x.upto_succ hm, vSI]
 congr 1
 simp only [pre, List.map_map];refine List.map_congr_left fun q _ => ?_
 simp
theorem vWD {xs : List (List PV)} {path : List DecL} {x : NodeL} {i m : Nat} (hm : m < x.kids.length) (hxs : ∀ m v, (pre path x.all)[m]? = some v → xs[i + m]? = some (vEQ v)) :
 ∀ m' v, (pre (path ++ [vC6 x m]) x.kids[m]!.all)[m']? = some v → xs[i + (x.upto m).length + m']? = some (vEQ v) := by
 intro m' v hv
 have := hxs ((x.upto m).length + m') v (by
  obtain ⟨r, hr⟩ := vKH x x.kids.length (m + 1) (by omega) (Nat.le_refl _)
  rw [x.all_eq, hr, vSI, vW7 path x hm, List.append_assoc, List.getElem?_append_right (by rw [vSH]; omega), vSH, Nat.add_sub_cancel_left,
   List.getElem?_append_left (List.getElem?_eq_some_iff.1 hv).1]
  exact hv)
 rw [← Nat.add_assoc] at this;exact this
theorem vXI : FO 108 Tryz.f108 [.tmp 6] 32 := mkO Tryz.func108 Tryz.ntmps108 Tryz.results108
theorem uD0 {xs : List (List PV)} {k : Nat} (Y : Cons Tryz.prog xs k) : ∀ (n : Nat) (path : List DecL) (x : NodeL) (i : Nat), SizeOf.sizeOf x < n → x.Sm → path.length + x.wt < 2097151 → i ≤ k →
 (∀ m v, (pre path x.all)[m]? = some v → xs[i + m]? = some (vEQ v)) →
 uIB Y 108 [.imm (path.map vA9), vA7 x, .func (.yield Y.l) [] []] (.gh i (min (i + x.all.length) (k + 1)) (decide (i + x.all.length ≤ k))) := by
 intro n
 induction n with
 | zero => intro p x i h; omega
 | succ n ih =>
   intro path x i hx hs hw hik hxs;have hl := hs.len;have hal := vVW _ x (Nat.lt_succ_self _)
   have hyield : xs[i]? = some (vEQ (path, x)) := by
    have := hxs 0 (path ++ [], x) (by rw [x.all_eq]; simp [pre, NodeL.upto])
    simpa using this
   refine vW6 vBC hT vXI Y (by simp) (fun _ => by simp) ?_;refine sns ?_;refine zA5 (show uIB Y _ _ _ from zHG vA9 (fun _ _ x => zEY x) (fun _ => ⟨rfl, rfl⟩) path (by omega)) rfl ?_;refine sns ?_;refine vQP (vUJ Y hyield hik) (zAG (zAM rfl rfl (by simp) (fun x => zEY x)) rfl) rfl ?_
   (repeat' (first|refine stn ?_|(with_reducible refine brr ?_ ?_<;>intro h)|(with_reducible refine zAD ?_ ?_<;>intro h)|with_reducible refine zAK ?_ ?_)); all_goals try (conv=>whnf)
   ·refine vPV hT (fun m : Nat => [(0, .imm (path.map vA9)), (2, .func (.yield Y.l) [] []), (4, .ptr 1 0 0), (16, .imm (x.kids.map vBD)), (17, .int .i64 x.kids.length), (18, .int .i64 m)]) (fun m => [(0, vCK (i + (x.upto m).length)), (1, ⟨[vA7 x], 9, true⟩)]) [] 2 (fun m => m ≤ x.kids.length ∧ i + (x.upto m).length ≤ k) (fun m => x.kids.length - m) 0 ⟨by simp, by rw [NodeL.upto_zero]; simp; omega⟩ (by decide) (by simp) ?_ ?_
    ·refine ⟨[1], [], [], [], ttt, ⟨zAE rfl rfl, vVQ rfl, apx, zAE rfl rfl, zAC rfl (by simp), zAC rfl rfl, trivial⟩,
      ⟨zE4 (by decide) rfl (by simp [NodeL.upto_zero]) rfl rfl rfl, bbx, trivial⟩, by simp [ren]⟩
    ·intro m hm
     have hul := hal.2 m;have hul1 := hal.2 (m + 1)
     (repeat' (first|refine stn ?_|(with_reducible refine brr ?_ ?_<;>intro h)|(with_reducible refine zAD ?_ ?_<;>intro h)|with_reducible refine zAK ?_ ?_)); all_goals try (conv=>whnf)
     ·have hm' : m < x.kids.length := by omega
      have hkm : x.kids[m]! ∈ x.kids := zA1 hm';have hwk := vZO hkm;refine zA5 (show uIB Y _ _ _ from uHP path x m (by omega)) rfl ?_;refine sns ?_;refine vN7 (ih (path ++ [vC6 x m]) x.kids[m]! (i + (x.upto m).length) (by have := NodeL.sizeOf_kid hkm; omega) (hs.kid hkm) (by simp only [List.length_append, List.length_singleton]; omega) hm.2 (vWD hm' hxs)) (zAG (zAM rfl rfl (by simp) (fun x => zEY x)) rfl) rfl ?_;have hlen : (x.upto (m + 1)).length = (x.upto m).length + x.kids[m]!.all.length := by rw [x.upto_succ hm', List.length_append, List.length_map]
      obtain ⟨j, hj⟩ : ∃ j, min (i + (x.upto m).length + x.kids[m]!.all.length) (k + 1) = j := ⟨_, rfl⟩;rw [hj]
      (repeat' (first|refine stn ?_|(with_reducible refine brr ?_ ?_<;>intro h)|(with_reducible refine zAD ?_ ?_<;>intro h)|with_reducible refine zAK ?_ ?_)); all_goals try (conv=>whnf)
      ·have hj' : j = i + (x.upto (m + 1)).length := by omega
       refine ⟨m + 1, ⟨⟨by omega, by omega⟩, by omega⟩, [1], [], [], [], ttt, ⟨zAE rfl rfl, vVQ rfl, apx, zAE rfl rfl, zAC rfl rfl, zAC rfl (by omega), trivial⟩,
        ⟨zE4 (by decide) rfl (by rw [hj']) rfl rfl rfl, bbx, trivial⟩, by simp [ren]⟩
      ·have hle : (x.upto (m + 1)).length ≤ x.all.length := by
        obtain ⟨r, hr⟩ := vKH x x.kids.length (m + 1) (by omega) (Nat.le_refl _);rw [x.all_eq, hr, List.length_append]; omega
       have e1 : decide (i + x.all.length ≤ k) = false := decide_eq_false (by omega);have e2 : min (i + x.all.length) (k + 1) = j := by omega
       rw [e1, e2];exact ⟨rfl, rfl⟩
     ·have hall : x.all.length = (x.upto m).length := by rw [x.all_eq, show m = x.kids.length by omega]
      have e1 : decide (i + x.all.length ≤ k) = true := decide_eq_true (by omega);have e2 : min (i + x.all.length) (k + 1) = i + (x.upto m).length := by omega
      rw [e1, e2];exact ⟨rfl, rfl⟩
   ·have h1 : 1 ≤ x.all.length := by
     obtain ⟨r, hr⟩ := vKH x x.kids.length 0 (by omega) (Nat.le_refl _);rw [x.all_eq, hr, List.length_append, NodeL.upto_zero]; simp
    have hik' : i = k := by omega
    have e1 : decide (i + x.all.length ≤ k) = false := decide_eq_false (by omega);have e2 : min (i + x.all.length) (k + 1) = i + 1 := by omega
    rw [e1, e2];exact ⟨rfl, rfl⟩
theorem vXG : FO 107 Tryz.f107 [] 8 := mkO Tryz.func107 Tryz.ntmps107 Tryz.results107
theorem uDZ (x : NodeL) (hs : x.Sm) (hw : x.wt < 2097151) : Fn 107 [.cptr (vA7 x) 0] (.seq ((vFK x).map vEQ)) := by
 refine uBL vBC hT vXG (by simp) fun k Y => ?_
 refine sns ?_;refine zAA (show uIB Y _ _ _ from zJX x hs) rfl ?_
 (repeat' (first|refine stn ?_|(with_reducible refine brr ?_ ?_<;>intro h)|(with_reducible refine zAD ?_ ?_<;>intro h)|with_reducible refine zAK ?_ ?_)); all_goals try (conv=>whnf)
 ·have hall : vFK x = x.all := by simp [vFK, h]
  refine vN7 (uD0 Y _ [] x 0 (Nat.lt_succ_self _) hs (by simpa using hw) (Nat.zero_le _) (fun m v hv => by
   rw [pre_nil] at hv
   rw [hall, Nat.zero_add, List.getElem?_map, hv]; rfl)) rfl rfl ?_
  obtain ⟨j, hj⟩ : ∃ j, min (0 + x.all.length) (k + 1) = j := ⟨_, rfl⟩;obtain ⟨b, hb⟩ : ∃ b, decide (0 + x.all.length ≤ k) = b := ⟨_, rfl⟩;rw [hj, hb];refine sns ?_;have e : min ((vFK x).map vEQ).length (k + 1) = j := by rw [List.length_map, hall, ← hj, Nat.zero_add]
  refine Eq.trans ?_ (congrArg (fun n => some (vCK n)) e.symm);exact rfl
 ·have hall : vFK x = [] := by simp [vFK, h]
  have e : min ((vFK x).map vEQ).length (k + 1) = 0 := by rw [List.length_map, hall]; simp
  refine Eq.trans ?_ (congrArg (fun n => some (vCK n)) e.symm);exact rfl
theorem uC4 : FO 73 Tryz.f73 [.tmp 2] 4 := mkO Tryz.func73 Tryz.ntmps73 Tryz.results73
theorem uHU (x : NodeL) : Fn 73 [vA7 x] (.data (.func (.func 107) [] [.cptr (vA7 x) 0])) := by
 refine zAO vBC hT uC4 (by simp) ?_;refine sns ?_;exact zAB rfl rfl
abbrev vEZ : Blk := ⟨[.agg [.nilsl, .int .i64 0, .int .i64 0, .bool false, .nilsl, .nilsl, .nilsl, .bool false, .nilsl]], 9, true⟩
theorem vTW {g : PV → Option (PV × List Nat)} {α : Type} {f : α → PV} (hf : ∀ x, g (f x) = some (f x, [])) : ∀ l : List α, vBW g (l.map f) = some (l.map f, [])
 | [] => rfl
 | a :: l => by rw [List.map_cons]; exact zAG (hf a) (vTW hf l)
theorem vJA {g : PV → Option (PV × List Nat)} {c d : PV} {ks : List Nat} (h1 : g c = some (d, ks)) : ∀ {l ds : List PV}, vBW g l = some (ds, []) → vBW g (l ++ [c]) = some (ds ++ [d], ks)
 | [], ds, h => by
   have : ds = [] := by simp [vBW] at h; exact h
   subst this;have := zAG (f := g) (cs := []) (ds := []) (ls := []) h1 rfl
   simpa using this
 | a :: l, ds, h => by
   simp only [vBW] at h
   split at h
   ·rename_i d1 k1 ds1 k2 e1 e2
    simp only [Option.some.injEq, Prod.mk.injEq, List.append_eq_nil_iff] at h;obtain ⟨rfl, rfl, rfl⟩ := h;exact zAG e1 (vJA h1 e2)
   ·cases h
theorem uED (k : NodeL) : k.all.filter (fun q => decide (q.1.length = 0)) = [([], k)] := by
 rw [NodeL.all, List.filter_cons];simp only [List.length_nil, decide_true, if_true]
 congr 1
 rw [List.filter_eq_nil_iff];intro q hq;simp only [List.mem_flatMap, List.mem_map] at hq;obtain ⟨_, _, r, _, rfl⟩ := hq
 simp
theorem uEC {y : NodeL} (hk : y.kids.length = 2) : y.all.filter (fun q => decide (q.1.length = 1)) = [([vC6 y 0], y.kids[0]!), ([vC6 y 1], y.kids[1]!)] := by
 have e : ∀ (d : DecL) (k : NodeL), (k.all.map fun q => (d :: q.1, q.2)).filter (fun q => decide (q.1.length = 1)) = [([d], k)] := fun d k => by
  have := uED k;rw [List.filter_map]
  have e2 : ((fun q : List DecL × NodeL => decide (q.1.length = 1)) ∘ fun q : List DecL × NodeL => (d :: q.1, q.2)) = fun q => decide (q.1.length = 0) := by
   funext q; simp
  rw [e2, this]; rfl
 rw [y.all_eq, hk, y.upto_succ (by omega), y.upto_succ (by omega), NodeL.upto_zero, List.filter_append, List.filter_append, e, e]
 simp
def vJG (p : List DecL) (y : NodeL) (i : Nat) : List (List DecL) := (((vFK y).take i).filter fun q => decide (q.1.length = 1)).map fun q => p ++ q.1
theorem vT6 {p : List DecL} {y : NodeL} {i : Nat} {v : List DecL × NodeL} (h : (vFK y)[i]? = some v) : vJG p y (i + 1) = vJG p y i ++ (if v.1.length = 1 then [p ++ v.1] else []) := by
 obtain ⟨hlt, hve⟩ := List.getElem?_eq_some_iff.1 h;unfold vJG;rw [List.take_succ_eq_append_getElem hlt, hve, List.filter_append, List.map_append]
 congr 1
 by_cases h1 : v.1.length = 1 <;> simp [h1]
theorem vYH {p : List DecL} {y : NodeL} {i : Nat} : (vJG p y i).length ≤ (vFK y).length := by
 unfold vJG;rw [List.length_map];have h1 := List.length_filter_le (fun q : List DecL × NodeL => decide (q.1.length = 1)) ((vFK y).take i);have h2 : ((vFK y).take i).length ≤ (vFK y).length := by simp; omega
 omega
abbrev vK3 (p : List DecL) : PV := .imm (p.map vA9)
def vQM (m y : NodeL) (p : List DecL) (i : Nat) : List (Nat × Blk) := if vJG p y i = [] then [(0, ⟨[vA7 m], 9, true⟩), (1, vEZ), (2, ⟨[.nilsl], 1, false⟩)] else [(0, ⟨[vA7 m], 9, true⟩), (1, vEZ), (2, ⟨[.own 3 0 (vJG p y i).length], 1, false⟩), (3, ⟨(vJG p y i).map vK3, 1, false⟩)]
def vO7 (y : NodeL) (p : List DecL) (i : Nat) : Nat := if vJG p y i = [] then 3 else 4
theorem uBS (y : NodeL) (p : List DecL) (i : Nat) : 3 ≤ vO7 y p i := by unfold vO7; split <;> omega
theorem vS0 : FnOkJ Tryz.prog 39 Tryz.f39 (Tryz.f39.body.getD .skip) [.cell 6 32] 92 := ⟨Tryz.func39, rfl, by decide, Tryz.ntmps39, Tryz.results39, by kernel_rfl⟩
theorem vYK (q : QryL) (P V v : Nat) (hvV : v ≤ V) (hq : szQ q P) (hB : P + 2 * V + 20 ≤ 20000000) : ∀ (f : Nat) (n x : NodeL) (p : List DecL), x.cnt < f → AccT q P V v n → atF n p = some x →
 ∃ n', vB7 (vCY (vB5 ⟨q, [], []⟩ n p) x) n p = some n' ∧ Fn 39 [vBP q, vA7 n, .imm (p.map vA9)] (.data (vA7 n')) := by
 intro f
 induction f with
 | zero => intro n x p h; omega
 | succ f ih =>
   intro n x p hf hA hat;obtain ⟨N', hN'⟩ := zKN (w := vCY (vB5 ⟨q, [], []⟩ n p) x) hat;refine ⟨N', hN', zNM (zNL (K := fun v s => gives s.h v (vA7 N')) ((?_ : FnM Tryz.prog G0 39 [vBP q, vA7 n, .imm (p.map vA9)] (fun v s' _ => vE8 s'.h v (vA7 N')) (start [vBP q, vA7 n, .imm (p.map vA9)]) []).mono fun _ _ _ h => by unfold vE8 at h; exact h))⟩;have hpl := at_len p n x 2048 (zB6 hA.val).1 hat;obtain ⟨S, hS⟩ : ∃ S, vB5 ⟨q, [], []⟩ n p = S := ⟨_, rfl⟩;have q4 : ∀ {m : NodeL}, AccT q P V v m → m.Sm ∧ NodeRg m := fun h => zMP _ _ _ (Nat.lt_succ_self _) (Nat.le_refl _) h.z h.tok
   refine uH1 vS0 (by simp [vBP]) ?_
   refine vQX vBC hT (fun m : NodeL => [(3, .cptr (vBP q) 0), (4, .ptr 0 0 0), (5, .cptr (.imm (p.map vA9)) 0), (6, .ptr 1 0 0)]) (fun m => [(0, ⟨[vA7 m], 9, true⟩), (1, vEZ)]) [] 2
    (fun m => AccT q P V v m ∧ vB5 ⟨q, [], []⟩ m p = S ∧ ∃ y, atF m p = some y ∧ y.cnt ≤ x.cnt ∧ vB7 (vCY S y) m p = some N') NodeL.cnt (by kernel_rfl) ?_ ?_ ?_ ?_
   ·decide
   ·simp
   ·refine sns ?_
    refine ⟨n, ⟨hA, hS, x, hat, Nat.le_refl _, by rw [← hS]; exact hN'⟩, ?_⟩
    exact ⟨[1, 3], [0, 2], [(3, .cptr (vBP q) 0), (5, .cptr (.imm (p.map vA9)) 0)], [], ⟨⟨⟨_, rfl⟩, ⟨_, rfl⟩, trivial⟩, ⟨⟨6, [0], zLX rfl rfl, rfl⟩, ⟨6, [2], zLX rfl rfl, rfl⟩, trivial⟩, trivial⟩, ⟨zAH rfl, apx, zAH rfl, apx, trivial⟩,
     ⟨bbx, bbx, trivial⟩, by simp [ren]⟩
   ·intro m ⟨hAm, hSm, y, haty, hcy, hrep⟩
    have hsm := q4 hAm
    have ca : Fn 70 [vA7 m, .imm (p.map vA9)] (.data (.tup [vA7 y, .bool true])) := by
     have h1 : atV m p = some y := by unfold atV; rw [if_pos hAm.val]; exact haty
     have := uKH m p hsm.1 (by omega);rw [h1] at this;exact this
    refine zAQ (zBF vBC hT (by kernel_rfl) ?_);refine sns ?_;refine zAA ca rfl ?_;refine sns ?_;refine vEO [] [(3, .cptr (vBP q) 0), (4, .ptr 0 0 0), (5, .cptr (.imm (p.map vA9)) 0), (6, .ptr 1 0 0), (7, .cptr (vA7 y) 0)] [(0, ⟨[vA7 m], 9, true⟩), (1, vEZ)] [] 2 (by decide) (by simp) trivial ?_ ?_
    ·exact ⟨[0, 1], [8], [(7, .cptr (vA7 y) 0)], [], ⟨⟨⟨_, rfl⟩, trivial⟩, ⟨⟨6, [8], zC6 rfl, rfl⟩, trivial⟩, trivial⟩, ⟨zAH rfl, apx, zAH rfl, apx, zAH rfl, trivial⟩, ⟨bbx, bbx, trivial⟩, by simp [ren]⟩
    have hym : y.valid = true := zKH hAm.val haty;obtain ⟨_, hyz⟩ := zM9 (H := fun _ n => NodeZ P V v 1048576 n) (nx := fun c _ => c) (fun c n k h hk => (h.kid k hk).more _ _ _ _ (Nat.lt_succ_self _) (by omega)) p m 0 hAm.z haty;obtain ⟨_, hyt⟩ := zM9 (H := fun _ n => Tok n) (nx := fun c _ => c) (fun c n k h hk => h.kid k hk) p m 0 hAm.tok haty
    have hy2 : y.kids.length = 0 ∨ y.kids.length = 2 := by
     by_cases h0 : y.kids.length = 0
     ·exact Or.inl h0
     ·exact Or.inr (zD4 h0 (zB6 hym).1).1
    refine vV8 vBC hT (by kernel_rfl) ?_
    (repeat' (first|refine stn ?_|(with_reducible refine brr ?_ ?_<;>intro h)|(with_reducible refine zAD ?_ ?_<;>intro h)|with_reducible refine zAK ?_ ?_)); all_goals try (conv=>whnf)
    ·refine zAB rfl ?_
     have h0 : y.kids.length = 0 := by omega
     rw [zH4 h0, vMV p m y haty] at hrep;cases hrep
     rfl
    ·have hk2 : y.kids.length = 2 := by omega
     refine vCR (zAQ (zAQ (zBF vBC hT (by kernel_rfl) ?_)));refine sns ?_;refine vCR (zBU ?_);refine zE6 (fun i : Nat => [(3, .cptr (vBP q) 0), (4, .ptr 0 0 0), (5, .cptr (.imm (p.map vA9)) 0), (6, .ptr 1 0 0), (7, .cptr (vA7 y) 0), (32, .imm (y.kids.map vBD)), (33, .int .i64 2), (34, .int .i64 i)]) (fun _ => [(0, ⟨[vA7 m], 9, true⟩), (1, vEZ)]) [] 2 (fun _ => []) (fun i => i ≤ 2 ∧ ∀ j, j < i → vDQ S y j = false) (fun i => 2 - i) 0 ⟨by omega, fun j hj => by omega⟩ (by decide) (by simp) ?_ rfl ?_
     ·exact ⟨[0, 1], [], [], [], ttt, ⟨zAH rfl, apx, zAH rfl, apx, zAH rfl, zAE rfl rfl, zAC rfl (by rw [List.length_map, hk2]; rfl), zAC rfl rfl, trivial⟩, ⟨bbx, bbx, trivial⟩, by simp [ren]⟩
     intro i ⟨hi, hno⟩;refine zAQ (zBF vBC hT (by kernel_rfl) ?_);refine sns ?_;by_cases hi2 : i < 2
     ·have hik : i < y.kids.length := by omega
      obtain ⟨m', r1, r2, r3, r4, r5, r6, r7, r8, r9, r10⟩ := vPW hAm haty hik;have hsm' := zMP _ _ _ (Nat.lt_succ_self _) (Nat.le_refl _) r4 r5;have hsw := zMP _ _ _ (Nat.lt_succ_self _) (Nat.le_refl _) r8 r9;have hsy := zKH hAm.val haty;obtain ⟨W, hW⟩ : ∃ W, vB6 y i p.length = W := ⟨_, rfl⟩
      have cl : Fn 71 [vA7 y, .int .i64 i, .int .i64 ((p.map vA9).length : Nat)] (.data (.tup [vA7 (vB6 y i p.length), .bool (!onN y.kids[i]! p.length)])) := by
       rw [List.length_map];exact uHK y i p.length ⟨by omega, by omega⟩ (by omega) (zMP _ _ _ (Nat.lt_succ_self _) (Nat.le_refl _) hyz hyt).2 hik
      have hSp : S.path = p := by rw [← hSm]; exact vWS haty
      have hg1 : onN y.kids[i]! p.length = true → vDQ S y i = false := fun h => by unfold vDQ; rw [hSp, h]; rfl
      have hg2 : vBF S W ≠ none → vDQ S y i = false := fun h => by
       unfold vDQ;rw [hSp, hW];cases hb : vBF S W with
       | none => exact absurd hb h
       | some _ => simp
      have hg3 : onN y.kids[i]! p.length = false → vBF S W = none → vDQ S y i = true := fun h1 h2 => by unfold vDQ; rw [hSp, hW, h1, h2]; rfl
      have hlt : vDQ S y i = false → ∀ j, j < i + 1 → vDQ S y j = false := fun h j hj => by
       rcases Nat.lt_or_eq_of_le (Nat.le_of_lt_succ hj) with g | rfl
       ·exact hno j g
       ·exact h
      have cr := vP6 W m p hsm.1 (by rw [← hW]; exact hsw.1) (by omega);have ct := vVG q m' P V v hvV hq hsm'.1 (by have := (zB6 r3).2; omega) r4 (by omega);rw [hW] at cl r1 r2 r10;rw [r2] at cr;rw [hSm] at r10;rw [r10] at ct;refine vCR (zAQ (zBF vBC hT (by kernel_rfl) ?_))
      (repeat' (first|refine stn ?_|(with_reducible refine brr ?_ ?_<;>intro h)|(with_reducible refine zAD ?_ ?_<;>intro h)|with_reducible refine zAK ?_ ?_)); all_goals try (conv=>whnf)
      all_goals try (exfalso; omega)
      refine vCR (zAQ (zBU (zAQ (zBF vBC hT (by kernel_rfl) ?_))));refine sns ?_;refine vCR (zAQ (zBF vBC hT (by kernel_rfl) ?_));refine sns ?_;refine zAA cl rfl ?_;refine sns ?_;refine vEO [] [(3, .cptr (vBP q) 0), (4, .ptr 0 0 0), (5, .cptr (.imm (p.map vA9)) 0), (6, .ptr 1 0 0), (7, .cptr (vA7 y) 0), (32, .imm (y.kids.map vBD)), (33, .int .i64 2), (34, .int .i64 i), (10, .cptr (vA7 W) 0), (11, .bool (!onN y.kids[i]! p.length))] [(0, ⟨[vA7 m], 9, true⟩), (1, vEZ)] [] 2 (by decide) (by simp) trivial ?_ ?_
      ·exact ⟨[0, 1], [13], [(10, .cptr (vA7 W) 0)], [], ⟨⟨⟨_, rfl⟩, trivial⟩, ⟨⟨6, [13], zC6 rfl, rfl⟩, trivial⟩, trivial⟩, ⟨zAH rfl, apx, zAH rfl, apx, zAH rfl, zAE rfl rfl, zAC rfl rfl, zAC rfl rfl, zAH rfl, zAT rfl rfl, trivial⟩, ⟨bbx, bbx, trivial⟩, by simp [ren]⟩
      refine zAQ (zBF vBC hT (by kernel_rfl) ?_)
      (repeat' (first|refine stn ?_|(with_reducible refine brr ?_ ?_<;>intro h)|(with_reducible refine zAD ?_ ?_<;>intro h)|with_reducible refine zAK ?_ ?_)); all_goals try (conv=>whnf)
      ·refine vCR (zBF vBC hT (by kernel_rfl) ?_)
       refine sns ?_;exact ⟨i + 1, ⟨⟨by omega, hlt (hg1 (by simp_all))⟩, by omega⟩, ⟨[0, 1], [], [], [], ttt, ⟨zAH rfl, apx, zAH rfl, apx, zAH rfl, zAE rfl rfl, zAC rfl rfl, zAC rfl (by omega), trivial⟩, ⟨bbx, bbx, trivial⟩, by simp [ren]⟩, rfl⟩
      ·refine vCR (zAQ (zBF vBC hT (by kernel_rfl) ?_))
       have hon : onN y.kids[i]! p.length = false := by simp_all
       refine sns ?_;refine zAA cr rfl ?_;refine sns ?_;refine vEO [] [(3, .cptr (vBP q) 0), (4, .ptr 0 0 0), (5, .cptr (.imm (p.map vA9)) 0), (6, .ptr 1 0 0), (7, .cptr (vA7 y) 0), (32, .imm (y.kids.map vBD)), (33, .int .i64 2), (34, .int .i64 i), (12, .cptr (vA7 m') 0), (13, .int .i64 0)] [(0, ⟨[vA7 m], 9, true⟩), (1, vEZ)] [] 2 (by decide) (by simp) trivial ?_ ?_
       ·exact ⟨[0, 1], [11], [(12, .cptr (vA7 m') 0)], [], ⟨⟨⟨_, rfl⟩, trivial⟩, ⟨⟨6, [11], zC6 rfl, rfl⟩, trivial⟩, trivial⟩, ⟨zAH rfl, apx, zAH rfl, apx, zAH rfl, zAE rfl rfl, zAC rfl rfl, zAC rfl rfl, zAH rfl, zAC rfl rfl, trivial⟩, ⟨bbx, bbx, trivial⟩, by simp [ren]⟩
       refine zAQ (zBF vBC hT (by kernel_rfl) ?_);refine sns ?_;refine vCR (zAQ (zBF vBC hT (by kernel_rfl) ?_));cases hbw : vBF S W with
       | some pb =>
         rw [hbw] at ct;refine sns ?_;refine zAA ct rfl ?_;refine sns ?_;refine vEO [] [(3, .cptr (vBP q) 0), (4, .ptr 0 0 0), (5, .cptr (.imm (p.map vA9)) 0), (6, .ptr 1 0 0), (7, .cptr (vA7 y) 0), (32, .imm (y.kids.map vBD)), (33, .int .i64 2), (34, .int .i64 i), (12, .cptr (vA7 m') 0), (15, .int .i64 12)] [(0, ⟨[vA7 m], 9, true⟩), (1, vEZ)] [] 2 (by decide) (by simp) trivial ?_ ?_
         ·exact ⟨[0, 1], [], [], [], ttt, ⟨zAH rfl, apx, zAH rfl, apx, zAH rfl, zAE rfl rfl, zAC rfl rfl, zAC rfl rfl, zAH rfl, zAC rfl rfl, trivial⟩, ⟨bbx, bbx, trivial⟩, by simp [ren]⟩
         refine zAQ (zBF vBC hT (by kernel_rfl) ?_);refine sns ?_;refine vCR (zHZ (t := false) rfl rfl (fun h => by cases h) (fun _ => ?_));refine zHY ?_;refine vCR (zBF vBC hT (by kernel_rfl) ?_);refine sns ?_;exact ⟨i + 1, ⟨⟨by omega, hlt (hg2 (by rw [hbw]; simp))⟩, by omega⟩, ⟨[0, 1], [], [], [], ttt, ⟨zAH rfl, apx, zAH rfl, apx, zAH rfl, zAE rfl rfl, zAC rfl rfl, zAC rfl (by omega), trivial⟩, ⟨bbx, bbx, trivial⟩, by simp [ren]⟩, rfl⟩
       | none =>
         rw [hbw] at ct;refine sns ?_;refine zAA ct rfl ?_;refine sns ?_;refine vEO [] [(3, .cptr (vBP q) 0), (4, .ptr 0 0 0), (5, .cptr (.imm (p.map vA9)) 0), (6, .ptr 1 0 0), (7, .cptr (vA7 y) 0), (32, .imm (y.kids.map vBD)), (33, .int .i64 2), (34, .int .i64 i), (12, .cptr (vA7 m') 0), (15, .int .i64 0)] [(0, ⟨[vA7 m], 9, true⟩), (1, vEZ)] [] 2 (by decide) (by simp) trivial ?_ ?_
         ·exact ⟨[0, 1], [], [], [], ttt, ⟨zAH rfl, apx, zAH rfl, apx, zAH rfl, zAE rfl rfl, zAC rfl rfl, zAC rfl rfl, zAH rfl, zAC rfl rfl, trivial⟩, ⟨bbx, bbx, trivial⟩, by simp [ren]⟩
         refine zAQ (zBF vBC hT (by kernel_rfl) ?_);refine sns ?_;refine vCR (zHZ (t := true) rfl rfl (fun _ => ?_) (fun h => by cases h));refine zAQ (zBF vBC hT (by kernel_rfl) ?_);refine sns ?_;refine vCR (vWB ?_);have hfi := vJK hik (hg3 hon hbw) hno;have hsp := zDL hfi;rw [hSp, hW] at hsp;have hcw := zC7 (p := p.length) hik;rw [hW] at hcw;exact ⟨rfl, rfl, m', ⟨⟨vZM hAm haty hik (by rw [hW]; exact r1) (by rw [hSm, hW]; exact hbw), (zLC p m m' _ r1).trans hSm, W, vVP p m m' r1, by omega, by rw [vKW p m m' r1, ← hsp]; exact hrep⟩, r6⟩, ⟨[0, 1], [], [], [], ttt, ⟨zAH rfl, apx, zAH rfl, apx, trivial⟩, ⟨bbx, bbx, trivial⟩, by simp [ren]⟩⟩
     ·obtain rfl : i = 2 := by omega
      have hfn : vCB S y = none := zLY (fun j hj => hno j (by omega));refine vCR (zAQ (zBF vBC hT (by kernel_rfl) ?_));refine sns ?_
      all_goals try (exfalso; omega)
      refine vEO [] [(3, .cptr (vBP q) 0), (4, .ptr 0 0 0), (5, .cptr (.imm (p.map vA9)) 0), (6, .ptr 1 0 0), (7, .cptr (vA7 y) 0)] [(0, ⟨[vA7 m], 9, true⟩), (1, vEZ)] [] 2 (by decide) (by simp) trivial ?_ ?_
      ·exact ⟨[0, 1], [], [], [], ttt, ⟨zAH rfl, apx, zAH rfl, apx, zAH rfl, trivial⟩, ⟨bbx, bbx, trivial⟩, by simp [ren]⟩
      refine vWC vBC hT (by kernel_rfl) ?_;refine sns ?_;refine zAA (uHU y) rfl ?_;refine sns ?_;have hsy := zMP _ _ _ (Nat.lt_succ_self _) (Nat.le_refl _) hyz hyt;have hwy : y.wt < 2097151 := by have := uEW p m y haty; have := hAm.wt; omega
      have hav : vFK y = y.all := if_pos hym;have hal : (vFK y).length ≤ 2097151 := by rw [hav]; have := (vVW _ y (Nat.lt_succ_self _)).1; omega
      have k00 : vJG p y 0 = [] := rfl;refine vKZ hT [(3, .cptr (vBP q) 0), (4, .ptr 0 0 0), (5, .cptr (.imm (p.map vA9)) 0), (6, .ptr 1 0 0), (7, .cptr (vA7 y) 0), (16, .ptr 2 0 0), (67, .func (.func 107) [] [.cptr (vA7 y) 0])] (vQM m y p) [] 3 (xs := (vFK y).map vEQ) ((vFK y).map vEQ).length (vO7 y p) (if_pos k00) (uBS y p) (by decide) (by simp) (by simp) ?_ rfl rfl (uDZ y hsy.1 hwy) (by simp only [List.mem_map]; rintro _ ⟨v, _, rfl⟩; rfl) ?_ ?_ ?_
      ·rw [show vQM m y p 0 = _ from if_pos k00]
       exact ⟨[0, 1, 2], [], [], [], ttt, ⟨zAH rfl, apx, zAH rfl, apx, zAH rfl, apx, zDJ rfl, trivial⟩, ⟨bbx, bbx, bbx, trivial⟩, by simp [ren]⟩
      ·intro i v0 hv0 hi
       obtain ⟨v, hv, rfl⟩ : ∃ v, (vFK y)[i]? = some v ∧ v0 = vEQ v := by
        rw [List.getElem?_map] at hv0;obtain ⟨v, h1, h2⟩ := Option.map_eq_some_iff.1 hv0;exact ⟨v, h1, h2.symm⟩
       have hsu := vT6 (p := p) hv;have hlen := vYH (p := p) (y := y) (i := i);have cd := zHG vA9 (fun _ _ x => zEY x) (fun _ => ⟨rfl, rfl⟩) p (by omega);by_cases hv1 : v.1.length = 1
       ·rw [if_pos hv1] at hsu
        have hne : vJG p y (i + 1) ≠ [] := by rw [hsu]; simp
        by_cases hb : vJG p y i = []
        ·rw [show vQM m y p i = _ from if_pos hb, show vO7 y p i = 3 from if_pos hb]
         rw [hb, List.nil_append] at hsu
         (repeat' (first|refine stn ?_|(with_reducible refine brr ?_ ?_<;>intro h)|(with_reducible refine zAD ?_ ?_<;>intro h)|with_reducible refine zAK ?_ ?_)); all_goals try (conv=>whnf)
         all_goals try (exfalso; omega)
         refine zA5 cd rfl ?_;refine sns ?_;rw [show vQM m y p (i + 1) = _ from if_neg hne, show vO7 y p (i + 1) = 4 from if_neg hne, hsu];exact ⟨[13], [11], [], [(13, [vK3 (p ++ v.1)])], ⟨⟨⟨_, rfl⟩, trivial⟩, trivial, ⟨⟨_, 6, [11], rfl, zAG (ks := [11]) (ls := []) (zAM (f := vA9) (l := p ++ v.1) rfl (by rw [List.map_append]) (by simp) (fun x => zEY x)) rfl, rfl⟩, trivial⟩⟩, trivial, ⟨bbx, bbx, zAI (by decide) rfl (by rw [zCT]; exact ⟨by decide, rfl⟩) rfl rfl, zAF (by decide) rfl rfl (fun e he => by obtain ⟨x, _, rfl⟩ := List.mem_map.1 he; exact ⟨rfl, by simp⟩) rfl, trivial⟩, by simp [ren]⟩
        ·rw [show vQM m y p i = _ from if_neg hb, show vO7 y p i = 4 from if_neg hb]
         (repeat' (first|refine stn ?_|(with_reducible refine brr ?_ ?_<;>intro h)|(with_reducible refine zAD ?_ ?_<;>intro h)|with_reducible refine zAK ?_ ?_)); all_goals try (conv=>whnf)
         all_goals try (exfalso; omega)
         refine zA5 cd rfl ?_;refine sns ?_;rw [show vQM m y p (i + 1) = _ from if_neg hne, show vO7 y p (i + 1) = 4 from if_neg hne, hsu];exact ⟨[14], [12], [], [(14, (vJG p y i).map vK3 ++ [vK3 (p ++ v.1)])], ⟨⟨⟨_, rfl⟩, trivial⟩, trivial, ⟨⟨_, 6, [12], rfl, vJA (zAM (f := vA9) (l := p ++ v.1) rfl (by rw [List.map_append]) (by simp) (fun x => zEY x)) (vTW (fun x => rfl) _), rfl⟩, trivial⟩⟩, trivial, ⟨bbx, bbx, zAI (by decide) rfl (by rw [zCT, List.length_append]; exact ⟨by decide, rfl⟩) rfl rfl, zAF (by decide) rfl (by rw [List.map_append]; rfl) (fun e he => by obtain ⟨x, _, rfl⟩ := List.mem_map.1 he; exact ⟨rfl, by simp⟩) rfl, trivial⟩, by simp [ren]⟩
       ·rw [if_neg hv1, List.append_nil] at hsu
        rw [show vQM m y p (i + 1) = vQM m y p i by unfold vQM; rw [hsu], show vO7 y p (i + 1) = vO7 y p i by unfold vO7; rw [hsu]];by_cases hb : vJG p y i = []
        ·rw [show vQM m y p i = _ from if_pos hb, show vO7 y p i = 3 from if_pos hb]
         (repeat' (first|refine stn ?_|(with_reducible refine brr ?_ ?_<;>intro h)|(with_reducible refine zAD ?_ ?_<;>intro h)|with_reducible refine zAK ?_ ?_)); all_goals try (conv=>whnf)
         all_goals try (exfalso; omega)
         exact ⟨[], [], [], [], ttt, trivial, ⟨bbx, bbx, bbx, trivial⟩, by simp [ren]⟩
        ·rw [show vQM m y p i = _ from if_neg hb, show vO7 y p i = 4 from if_neg hb]
         (repeat' (first|refine stn ?_|(with_reducible refine brr ?_ ?_<;>intro h)|(with_reducible refine zAD ?_ ?_<;>intro h)|with_reducible refine zAK ?_ ?_)); all_goals try (conv=>whnf)
         all_goals try (exfalso; omega)
         exact ⟨[3], [], [], [], ttt, trivial, ⟨bbx, bbx, zAI (by decide) rfl (by rw [zCT]; exact ⟨by decide, rfl⟩) rfl rfl, zAF (by decide) rfl rfl (fun e he => by obtain ⟨x, _, rfl⟩ := List.mem_map.1 he; exact ⟨rfl, by simp⟩) rfl, trivial⟩, by simp [ren]⟩
      ·intro v0 hv0
       simp at hv0
      ·intro _
       have hB2 : vJG p y ((vFK y).map vEQ).length = [p ++ [vC6 y 0], p ++ [vC6 y 1]] := by
        unfold vJG;rw [List.length_map, List.take_length, hav, uEC hk2];rfl
       have hne : vJG p y ((vFK y).map vEQ).length ≠ [] := by rw [hB2]; simp
       obtain ⟨n1, n2, e1, accN, e3, e4, e5, e6⟩ := vW3 hAm haty hk2 (by rw [hSm]; exact hfn);have k0 := zDC (n := y) (i := 0) (by omega);have k1 := zDC (n := y) (i := 1) (by omega);obtain ⟨n1', g1, c0⟩ := ih m _ _ (by omega) hAm e3;obtain ⟨n2', g2, c1⟩ := ih n1 _ _ (by omega) accN e4;rw [e1] at g1;rw [e5] at g2;cases g1
       cases g2
       rw [hSm, hrep] at e6;cases e6
       rw [show vQM m y p _ = _ from if_neg hne, show vO7 y p _ = 4 from if_neg hne, hB2];refine sns ?_
       refine zA0 hT (fun ((i, w) : Nat × NodeL) => [(3, .cptr (vBP q) 0), (4, .ptr 0 0 0), (6, .ptr 1 0 0), (80, .imm ([p ++ [vC6 y 0], p ++ [vC6 y 1]].map vK3)), (81, .int .i64 2), (82, .int .i64 i)]) (fun ((i, w) : Nat × NodeL) => [(0, ⟨[vA7 w], 9, true⟩), (1, vEZ)]) [] 2
        (fun ((i, w) : Nat × NodeL) => (i = 0 ∧ w = m) ∨ (i = 1 ∧ w = n1) ∨ (i = 2 ∧ w = N')) (fun ((i, w) : Nat × NodeL) => 2 - i) (0, m) (Or.inl ⟨rfl, rfl⟩) (by decide) (by simp) ?_ ?_
       ·exact ⟨[0, 1], [3], [(80, .imm ([p ++ [vC6 y 0], p ++ [vC6 y 1]].map vK3))], [], ⟨⟨⟨_, rfl⟩, trivial⟩, ⟨⟨6, [3], zAM (f := vK3) (l := [p ++ [vC6 y 0], p ++ [vC6 y 1]]) rfl rfl rfl (fun x => rfl), rfl⟩, trivial⟩, trivial⟩, ⟨zAH rfl, apx, apx, zAE rfl rfl, zAC rfl rfl, zAC rfl rfl, trivial⟩, ⟨bbx, bbx, trivial⟩, by simp [ren]⟩
       rintro ⟨i, w⟩ (⟨rfl, rfl⟩ | ⟨rfl, rfl⟩ | ⟨rfl, rfl⟩)
       ·refine sns ?_
        all_goals try (exfalso; omega)
        refine zAA c0 rfl ?_;refine sns ?_;exact ⟨(1, n1), ⟨Or.inr (Or.inl ⟨rfl, rfl⟩), (by show 2 - 1 < 2 - 0; omega)⟩, [0, 1], [], [], [], ttt, ⟨zAH rfl, apx, apx, zAE rfl rfl, zAC rfl rfl, zAC rfl rfl, trivial⟩, ⟨bbx, bbx, trivial⟩, by simp [ren]⟩
       ·refine sns ?_
        all_goals try (exfalso; omega)
        refine zAA c1 rfl ?_;refine sns ?_;exact ⟨(2, N'), ⟨Or.inr (Or.inr ⟨rfl, rfl⟩), (by show 2 - 2 < 2 - 1; omega)⟩, [0, 1], [], [], [], ttt, ⟨zAH rfl, apx, apx, zAE rfl rfl, zAC rfl rfl, zAC rfl rfl, trivial⟩, ⟨bbx, bbx, trivial⟩, by simp [ren]⟩
       ·refine sns ?_
        all_goals try (exfalso; omega)
        exact zAB rfl rfl
theorem uA6 {q : QryL} {n : NodeL} (h : (vDN q n).2 = 0) : n.valid = true ∧ VaQ q ∧ vBF ⟨q, [], []⟩ n = none := by
 unfold vDN at h
 split at h
 ·rename_i hv
  split at h
  ·rename_i hb; exact ⟨hv.1, hv.2, hb⟩
  ·cases h
 ·cases h
noncomputable def uFB (q : QryL) (n : NodeL) : NodeL × Int := if (vDN q n).2 = 0 then (vCY ⟨q, [], []⟩ n, 0) else (zeroN, (vDN q n).2)
structure inS (q : QryL) (P V v : Nat) (n : NodeL) : Prop where
 q : szQ q P
 hv : v ≤ V
 B : P + 2 * V + 20 ≤ 20000000
 z : NodeZ P V v 1048576 n
 tok : Tok n
 wt : n.wt ≤ 1048576
theorem inS.sm {q : QryL} {P V v : Nat} {n : NodeL} (h : inS q P V v n) : n.Sm ∧ NodeRg n := zMP _ _ _ (Nat.lt_succ_self _) (Nat.le_refl _) h.z h.tok
theorem inS.cnt {q : QryL} {P V v : Nat} {n : NodeL} (h : inS q P V v n) : n.cnt ≤ 4194304 := by have := uAL _ n (Nat.lt_succ_self _); have := h.wt; omega
theorem inS.tree {q : QryL} {P V v : Nat} {n : NodeL} (h : inS q P V v n) : Fn 38 [vBP q, vA7 n] (.data (.tup [.imm ((vDN q n).1.map vA9), .int .i64 (vDN q n).2])) := by
 have := h.B;exact vVG q n P V v h.hv h.q h.sm.1 h.cnt h.z (by omega)
theorem zMZ : FO 16 Tryz.f16 [.cell 4 32, .tmp 5] 21 := mkO Tryz.func16 Tryz.ntmps16 Tryz.results16
theorem vU7 (q : QryL) (P V v : Nat) (n : NodeL) (h : inS q P V v n) : Fn 16 [vBP q, vA7 n] (.data (.tup [vA7 (uFB q n).1, .int .i64 (uFB q n).2])) := by
 have ct := h.tree;unfold uFB;by_cases h0 : (vDN q n).2 = 0
 ·obtain ⟨k1, k2, k3⟩ := uA6 h0
  obtain ⟨n', g1, cr⟩ := vYK q P V v h.hv h.q h.B _ n n [] (Nat.lt_succ_self _) ⟨k1, k2, k3, h.z, h.tok, h.wt⟩ rfl
  have g2 : n' = vCY ⟨q, [], []⟩ n := by
   have : vB7 (vCY (vB5 ⟨q, [], []⟩ n []) n) n [] = some (vCY ⟨q, [], []⟩ n) := rfl;rw [this] at g1; cases g1; rfl
  rw [if_pos h0, ← g2];rw [h0] at ct;refine zAO vBC hT zMZ (by simp [vBP]) ?_;refine sns ?_;refine zAA ct rfl ?_;refine sns ?_;refine zAA cr rfl ?_;refine sns ?_;exact zAB rfl rfl
 ·rw [if_neg h0]
  generalize (vDN q n).2 = e at *
  refine zAO vBC hT zMZ (by simp [vBP]) ?_;refine sns ?_;refine zAA ct rfl ?_
  (repeat' (first|refine stn ?_|(with_reducible refine brr ?_ ?_<;>intro h)|(with_reducible refine zAD ?_ ?_<;>intro h)|with_reducible refine zAK ?_ ?_)); all_goals try (conv=>whnf)
  all_goals try (exfalso; omega)
  exact zAB rfl rfl
end Go.PI.Tryz
