/-
  Splits: plain. What is taken out leaves an accepted tree.
-/
import Derived.Test.YtbelmkceegmdjaaGreatDoorCSB
import Derived.Test.YtbelmkceegmdjaaGreatDoorCTR
import Derived.Test.YtbelmkceegmdjaaGreatDoorCTN
set_option linter.unusedVariables false
set_option linter.unusedSimpArgs false
set_option linter.unnecessarySimpa false
namespace Go.PI.Tryz
open Go.Proofs Go.PI
def vB5 : ScpL → NodeL → List DecL → ScpL
 | S, _, [] => S
 | S, n, d :: p => match vBX n d with
   | some i => vB5 (vCZ S n d) n.kids[i]! p
   | none => S
theorem zKM {S : ScpL} {n : NodeL} (h : vBF S n = none) : vC2 S n := by
 refine Classical.byContradiction fun hr => ?_
 rw [zDF hr] at h; cases h
theorem zD4 {n : NodeL} {d : Nat} (h0 : n.kids.length ≠ 0) (hf : vBE d n = true) : n.kids.length = 2 ∧ d ≠ 0 ∧ vBE (d - 1) n.kids[0]! = true ∧ vBE (d - 1) n.kids[1]! = true ∧ 1 ≤ n.split.kind ∧ n.split.kind ≤ 4 := by
 have hfo := hf;rw [zA3 h0] at hfo;simp only [Bool.and_eq_true, decide_eq_true_eq] at hfo;have h5 := hfo.1.1;unfold vBU at h5;obtain ⟨e1, e2, e3, _⟩ := of_decide_eq_true h5;have hfk := zCW e1 (d := d);rw [hf] at hfk;have hfk := hfk.symm;simp only [Bool.and_eq_true] at hfk;exact ⟨e1, hfo.1.2, hfk.2.1, hfk.2.2, e2, e3⟩
theorem vTS {n : NodeL} {d : Nat} {e : DecL} {i : Nat} (hf : vBE d n = true) (h : vBX n e = some i) : n.kids.length ≠ 0 ∧ ((i = 0 ∧ e = n.split) ∨ (i = 1 ∧ e = opp n.split)) := by
 obtain ⟨h1, h2⟩ := zCG h;have h0 : n.kids.length ≠ 0 := by omega
 refine ⟨h0, ?_⟩;obtain ⟨e1, _⟩ := zD4 h0 hf;rcases Nat.lt_or_ge i 1 with hi | hi
 ·obtain rfl : i = 0 := by omega
  exact Or.inl ⟨rfl, by rw [← h2]; rfl⟩
 ·obtain rfl : i = 1 := by omega
  exact Or.inr ⟨rfl, by rw [← h2]; rfl⟩
theorem set0 {α : Type} {a b : α} (k : α) : ([a, b] : List α).set 0 k = [k, b] := rfl
theorem set1 {α : Type} {a b : α} (k : α) : ([a, b] : List α).set 1 k = [a, k] := rfl
theorem vG7 {S : ScpL} {n : NodeL} {d : Nat} (h0 : n.kids.length ≠ 0) (hf : vBE d n = true) (hb : vBF S n = none) : vBF (vCZ S n n.split) n.kids[0]! = none ∧ vBF (vCZ S n (opp n.split)) n.kids[1]! = none := by
 obtain ⟨e1, _⟩ := zD4 h0 hf;rw [zCX (zKM hb) (zH1 e1)] at hb;cases h1 : vBF (vCZ S n n.split) n.kids[0]! with
 | some p => rw [h1] at hb; cases hb
 | none => rw [h1] at hb; exact ⟨rfl, hb⟩
theorem zJD {w : NodeL} : ∀ (p : List DecL) (n : NodeL) (S : ScpL) (d : Nat) (n' : NodeL), vBE d n = true → vBF S n = none → vB7 w n p = some n' → vBF S n' = vBF (vB5 S n p) w
 | [], n, S, d, n', _, _, h => by
   simp only [vB7, Option.some.injEq] at h;subst h; rfl
 | e :: p, n, S, d, n', hf, hb, h => by
   simp only [vB7] at h;cases hk : vBX n e with
   | none => rw [hk] at h; cases h
   | some i =>
     rw [hk] at h;simp only [Option.map_eq_some_iff] at h;obtain ⟨k', h1, h2⟩ := h;obtain ⟨h0, hi⟩ := vTS hf hk;obtain ⟨e1, e2, f0, f1, _⟩ := zD4 h0 hf;obtain ⟨b0, b1⟩ := vG7 h0 hf hb;have hr := zKM hb
     have hr' : vC2 S n' := by
      rw [← h2];refine ⟨hr.1, ?_⟩;have h3 := hr.2;rw [if_neg h0] at h3;rw [if_neg (show ¬ (vBT n i k').kids.length = 0 by show ¬ (n.kids.set i k').length = 0; rw [List.length_set]; exact h0)];exact h3
     have hsc : vB5 S n (e :: p) = vB5 (vCZ S n e) n.kids[i]! p := by simp only [vB5, hk]
     rw [hsc];rcases hi with ⟨rfl, he⟩ | ⟨rfl, he⟩
     ·have hkids : n'.kids = [k', n.kids[1]!] := by
       rw [← h2]; show n.kids.set 0 k' = _
       conv => lhs; rw [zH1 e1]
       exact set0 k'
      have hs : n'.split = n.split := by rw [← h2]; rfl
      have hkS : ∀ x, vCZ S n' x = vCZ S n x := fun x => by rw [← h2]; rfl
      have ih := zJD p n.kids[0]! (vCZ S n n.split) (d - 1) k' f0 b0 h1;rw [zCX hr' hkids, hs, hkS, hkS, ih, he];have e5 : vBF (vCZ S n (vZ3 n.split)) n.kids[1]! = none := b1;rw [e5];cases vBF (vB5 (vCZ S n n.split) n.kids[0]! p) w <;> rfl
     ·have hkids : n'.kids = [n.kids[0]!, k'] := by
       rw [← h2]; show n.kids.set 1 k' = _
       conv => lhs; rw [zH1 e1]
       exact set1 k'
      have hs : n'.split = n.split := by rw [← h2]; rfl
      have hkS : ∀ x, vCZ S n' x = vCZ S n x := fun x => by rw [← h2]; rfl
      have ih := zJD p n.kids[1]! (vCZ S n (opp n.split)) (d - 1) k' f1 b1 h1;rw [zCX hr' hkids, hs, hkS, hkS, b0, he];exact ih
theorem vF2 : ∀ (p : List DecL) (n : NodeL) (S : ScpL) (d : Nat) (m : NodeL), vBE d n = true → vBF S n = none → vCU S → atF n p = some m → vCU (vB5 S n p) ∧ vBF (vB5 S n p) m = none ∧ (vB5 S n p).q = S.q
 | [], n, S, d, m, _, hb, hS, h => by
   simp only [atF, Option.some.injEq] at h;subst h; exact ⟨hS, hb, rfl⟩
 | e :: p, n, S, d, m, hf, hb, hS, h => by
   simp only [atF] at h;cases hk : vBX n e with
   | none => rw [hk] at h; cases h
   | some i =>
     rw [hk] at h;obtain ⟨h0, hi⟩ := vTS hf hk;obtain ⟨e1, e2, f0, f1, _⟩ := zD4 h0 hf;obtain ⟨b0, b1⟩ := vG7 h0 hf hb;have hfit : vNW S.q n.split := by have := (zKM hb).2; rw [if_neg h0] at this; exact this
     have hsc : vB5 S n (e :: p) = vB5 (vCZ S n e) n.kids[i]! p := by simp only [vB5, hk]
     rw [hsc];rcases hi with ⟨rfl, rfl⟩ | ⟨rfl, rfl⟩
     ·exact vF2 p n.kids[0]! _ (d - 1) m f0 b0 (Go.PI.ok_kid hS hfit) h
     ·exact vF2 p n.kids[1]! _ (d - 1) m f1 b1 (Go.PI.ok_kid hS (uAK hfit)) h
def vG4 : NodeL → List DecL → List LemL
 | n, [] => n.lemmas
 | n, d :: p => n.lemmas ++ (match vBX n d with
   | some i => vG4 n.kids[i]! p
   | none => [])
theorem vNM : ∀ (p : List DecL) (n m : NodeL), atF n p = some m → m.lemmas.length ≤ (vG4 n p).length
 | [], n, m, h => by simp only [atF, Option.some.injEq] at h; subst h; exact Nat.le_refl _
 | e :: p, n, m, h => by
   simp only [atF] at h;cases hk : vBX n e with
   | none => rw [hk] at h; cases h
   | some i =>
     rw [hk] at h;have := vNM p _ m h;simp only [vG4, hk, List.length_append]; omega
theorem vMO : ∀ (p : List DecL) (n : NodeL) (S : ScpL) (m : NodeL), atF n p = some m → vB5 S n p = ⟨S.q, S.path ++ p, S.lems ++ (vG4 n p).take ((vG4 n p).length - m.lemmas.length)⟩
 | [], n, S, m, h => by
   simp only [atF, Option.some.injEq] at h;subst h;simp [vB5, vG4]
 | e :: p, n, S, m, h => by
   simp only [atF] at h;cases hk : vBX n e with
   | none => rw [hk] at h; cases h
   | some i =>
     rw [hk] at h;have h1 := vMO p n.kids[i]! (vCZ S n e) m h;have h2 := vNM p _ m h;simp only [vB5, vG4, hk];rw [h1];simp only [vCZ, List.append_assoc, List.cons_append, List.nil_append, List.length_append];rw [List.take_append, List.take_of_length_le (l := n.lemmas) (by omega), show n.lemmas.length + (vG4 n.kids[i]! p).length - m.lemmas.length - n.lemmas.length = (vG4 n.kids[i]! p).length - m.lemmas.length by omega]
theorem vJJ : ∀ (k : Nat) (n : NodeL) (d e : Nat), SizeOf.sizeOf n < k → d ≤ e → vBE d n = true → vBE e n = true := by
 intro k
 induction k with
 | zero => intro n d e h; omega
 | succ k ih =>
   intro n d e hk hde hf;by_cases h0 : n.kids.length = 0
   ·rw [zBR h0] at hf ⊢; exact hf
   ·obtain ⟨e1, e2, f0, f1, k1, k4⟩ := zD4 h0 hf
    have s0 := NodeL.sizeOf_kid (get_mem (l := n.kids) (show 0 < n.kids.length by omega));have s1 := NodeL.sizeOf_kid (get_mem (l := n.kids) (show 1 < n.kids.length by omega));rw [zCW e1] at hf ⊢;simp only [Bool.and_eq_true, decide_eq_true_eq] at hf ⊢;exact ⟨⟨hf.1.1, by omega⟩, ih _ _ _ (by omega) (by omega) f0, ih _ _ _ (by omega) (by omega) f1⟩
theorem vHL : ∀ (k : Nat) (n : NodeL), SizeOf.sizeOf n < k → n.cnt = n.tot fun _ => 1 := by
 intro k
 induction k with
 | zero => intro n h; omega
 | succ k ih =>
   intro n h;rw [NodeL.cnt_eq, NodeL.tot_eq]
   congr 2
   exact List.map_congr_left fun x hx => ih x (by have := NodeL.sizeOf_kid hx; omega)
theorem vRR {α : Type} [Inhabited α] (f : α → Nat) : ∀ (l : List α) (i : Nat) (x : α), i < l.length → ((l.set i x).map f).sum + f l[i]! = (l.map f).sum + f x
 | a :: l, 0, x, _ => by
   simp only [List.set_cons_zero, List.map_cons, List.sum_cons];have : (a :: l)[0]! = a := rfl;rw [this]; omega
 | a :: l, i + 1, x, h => by
   have := vRR f l i x (by simpa using h);simp only [List.set_cons_succ, List.map_cons, List.sum_cons]
   have e : (a :: l)[i + 1]! = l[i]! := by
    rw [getElem!_pos (a :: l) (i + 1) h, getElem!_pos l i (by simpa using h)]; rfl
   rw [e]; omega
theorem vKJ {w : NodeL} {f : NodeL → Nat} (hf : ∀ x i k, f (vBT x i k) = f x) : ∀ (p : List DecL) (n n' m : NodeL), atF n p = some m → vB7 w n p = some n' → n'.tot f + m.tot f = n.tot f + w.tot f
 | [], n, n', m, hm, h => by
   simp only [vB7, Option.some.injEq] at h;simp only [atF, Option.some.injEq] at hm;subst h hm; omega
 | x :: p, n, n', m, hm, h => by
   simp only [vB7] at h;simp only [atF] at hm;cases hk : vBX n x with
   | none => rw [hk] at h; cases h
   | some i =>
     rw [hk] at h hm;simp only [Option.map_eq_some_iff] at h;obtain ⟨k', h1, h2⟩ := h;have ih := vKJ hf p _ k' m hm h1;have hl := (zCG hk).1;rw [← h2, NodeL.tot_eq f (vBT n i k'), hf, NodeL.tot_eq f n];have := vRR (NodeL.tot f) n.kids i k' hl;show f n + ((n.kids.set i k').map (NodeL.tot f)).sum + _ = _
     omega
theorem NodeZ.more {P V v : Nat} : ∀ (k : Nat) (n : NodeL) (c c' : Nat), SizeOf.sizeOf n < k → c ≤ c' → NodeZ P V v c n → NodeZ P V v c' n := by
 intro k
 induction k with
 | zero => intro n c c' h; omega
 | succ k ih =>
   intro n c c' hk hc h;exact .mk v c' n h.val (by have := h.num; omega) h.lem h.spl h.prf fun x hx => ih x _ _ (by have := NodeL.sizeOf_kid hx; omega) (by omega) (h.kid x hx)
theorem zKN {w n m : NodeL} {p : List DecL} (h : atF n p = some m) : ∃ n', vB7 w n p = some n' := by
 have := vVR w p n;rw [h] at this;cases hr : vB7 w n p with
 | some n' => exact ⟨n', rfl⟩
 | none => rw [hr] at this; cases this
theorem uDU (f : RowL → RowL) : ∀ (k : Nat) (n : NodeL), SizeOf.sizeOf n < k → (vCF f n).cnt = n.cnt := by
 intro k
 induction k with
 | zero => intro n h; omega
 | succ k ih =>
   intro n h;rw [NodeL.cnt_eq, NodeL.cnt_eq n, zDZ];show 1 + ((n.kids.map (vCF f)).map NodeL.cnt).sum = _
   rw [List.map_map]
   congr 2
   exact List.map_congr_left fun x hx => ih x (by have := NodeL.sizeOf_kid hx; omega)
theorem zHF (f : RowL → RowL) (n : NodeL) : (vCF f n).kids = n.kids.map (vCF f) := by rw [zDZ]; rfl
theorem zHE (f : RowL → RowL) (n : NodeL) : (vCF f n).lemmas = n.lemmas.map (vDB f) := by rw [zDZ]; rfl
theorem zI6 (f : RowL → RowL) (n : NodeL) : (vCF f n).split = n.split := by rw [zDZ]; rfl
theorem vU1 (f : RowL → RowL) (n : NodeL) : (vCF f n).empty = n.empty := by rw [zDZ]; rfl
theorem zI7 (f : RowL → RowL) (n : NodeL) : (vCF f n).proof = vBM f n.proof := by rw [zDZ]; rfl
theorem vYV (f : RowL → RowL) : ∀ (k : Nat) (n : NodeL) (d : Nat), SizeOf.sizeOf n < k → vBE d (vCF f n) = vBE d n := by
 intro k
 induction k with
 | zero => intro n d h; omega
 | succ k ih =>
   intro n d h;have hl : (vCF f n).kids.length = n.kids.length := by rw [zHF, List.length_map]
   by_cases h0 : n.kids.length = 0
   ·rw [zBR h0, zBR (by omega)]; unfold vD3; rw [zI6]
   ·rw [zA3 h0, zA3 (by omega)]
    congr 1
    ·congr 1
     unfold vBU;rw [hl, zI6, vU1, zI7];simp [vBM]
    ·rw [zHF, List.all_map, Bool.eq_iff_iff, List.all_eq_true, List.all_eq_true]
     have e : ∀ x ∈ n.kids, vBE (d - 1) (vCF f x) = vBE (d - 1) x := fun x hx => ih x _ (by have := NodeL.sizeOf_kid hx; omega)
     exact ⟨fun g x hx => by have := g x hx; rw [← e x hx]; exact this, fun g x hx => by have := g x hx; rw [← e x hx] at this; exact this⟩
theorem vUI {n m : NodeL} (h1 : n.kids = m.kids) (h2 : n.split = m.split) (h3 : n.empty = m.empty) (h4 : n.proof.length = m.proof.length) (d : Nat) : vBE d n = vBE d m := by
 by_cases h0 : n.kids.length = 0
 ·rw [zBR h0, zBR (by rw [← h1]; exact h0)]; unfold vD3; rw [h2]
 ·rw [zA3 h0, zA3 (by rw [← h1]; exact h0)]
  unfold vBU;rw [h1, h2, h3, h4]
theorem zIZ {n : NodeL} {d i : Nat} (hf : vBE d n = true) (hi : i < n.kids.length) : vBE (d - 1) n.kids[i]! = true := by
 rw [zA3 (by omega)] at hf;simp only [Bool.and_eq_true, List.all_eq_true] at hf;exact hf.2 _ (get_mem hi)
theorem zGP {n : NodeL} {d i : Nat} {p : Int} (hf : vBE d n = true) (hi : i < n.kids.length) : vBE d (vB6 n i p) = true := by
 rw [vUI (n := vB6 n i p) (m := vCF (vCE (-1) p) n.kids[i]!) rfl rfl rfl rfl, vYV _ _ _ _ (Nat.lt_succ_self _)];exact vJJ _ _ _ _ (Nat.lt_succ_self _) (by omega) (zIZ hf hi)
theorem vY2 {n m : NodeL} (h1 : n.kids = m.kids) : n.cnt = m.cnt := by rw [NodeL.cnt_eq, NodeL.cnt_eq m, h1]
theorem zDC {n : NodeL} {i : Nat} (hi : i < n.kids.length) : n.kids[i]!.cnt < n.cnt := by
 rw [NodeL.cnt_eq n];have := zFK (f := NodeL.cnt) (get_mem hi);omega
theorem zC7 {n : NodeL} {i : Nat} {p : Int} (hi : i < n.kids.length) : (vB6 n i p).cnt < n.cnt := by
 rw [vY2 (n := vB6 n i p) (m := vCF (vCE (-1) p) n.kids[i]!) rfl, uDU _ _ _ (Nat.lt_succ_self _)];exact zDC hi
theorem uEV (f : RowL → RowL) : ∀ (k : Nat) (n : NodeL), SizeOf.sizeOf n < k → (vCF f n).wt = n.wt := by
 intro k
 induction k with
 | zero => intro n h; omega
 | succ k ih =>
   intro n h;rw [NodeL.wt_eq, n.wt_eq, zHF, zHE, zI7, List.map_map, List.map_map];have e1 : n.kids.map (NodeL.wt ∘ vCF f) = n.kids.map NodeL.wt := List.map_congr_left fun x hx => ih x (by have := NodeL.sizeOf_kid hx; omega)
   have e2 : n.lemmas.map (vDI ∘ vDB f) = n.lemmas.map vDI := List.map_congr_left fun x hx => by simp [vDI, vDB, vBM]
   rw [e1, e2];simp [vBM]
theorem vQS {n : NodeL} {i : Nat} (hi : i < n.kids.length) : 1 + (n.lemmas.map vDI).sum + n.kids[i]!.wt ≤ n.wt := by
 rw [n.wt_eq];have := zFK (f := NodeL.wt) (get_mem hi);omega
theorem vQR {n : NodeL} {i : Nat} {p : Int} (hi : i < n.kids.length) : (vB6 n i p).wt < n.wt := by
 have h1 := vQS hi;have h2 := uEV (vCE (-1) p) _ n.kids[i]! (Nat.lt_succ_self _);rw [NodeL.wt_eq] at h2
 have h3 : (vB6 n i p).wt = 1 + ((n.lemmas ++ (vCF (vCE (-1) p) n.kids[i]!).lemmas).map vDI).sum + (vCF (vCE (-1) p) n.kids[i]!).proof.length + ((vCF (vCE (-1) p) n.kids[i]!).kids.map NodeL.wt).sum := by
  rw [NodeL.wt_eq]; rfl
 rw [List.map_append, List.sum_append] at h3;omega
def vEL (S : ScpL) (n : NodeL) (i : Nat) : ScpL := vCZ S n (vC6 n i)
noncomputable def vDQ (S : ScpL) (n : NodeL) (i : Nat) : Bool := !onN n.kids[i]! S.path.length && (vBF S (vB6 n i S.path.length)).isNone
noncomputable def vCB (S : ScpL) (n : NodeL) : Option Nat := (List.range n.kids.length).find? (vDQ S n)
theorem zB1 {S : ScpL} {n : NodeL} {i : Nat} (h : vCB S n = some i) : i < n.kids.length ∧ vDQ S n i = true := by
 unfold vCB at h;have h1 := List.mem_of_find?_eq_some h;have h2 := List.find?_some h;simp at h1;exact ⟨h1, h2⟩
theorem vJK {S : ScpL} {n : NodeL} {i : Nat} (hi : i < n.kids.length) (h : vDQ S n i = true) (hb : ∀ j, j < i → vDQ S n j = false) : vCB S n = some i := by
 unfold vCB;rw [List.find?_eq_some_iff_getElem];refine ⟨h, i, by simpa using hi, by simp, fun j hj => ?_⟩;simp only [List.getElem_range];rw [hb j hj]; rfl
theorem zLY {S : ScpL} {n : NodeL} (hb : ∀ j, j < n.kids.length → vDQ S n j = false) : vCB S n = none := by
 unfold vCB;rw [List.find?_eq_none];intro j hj;simp at hj;rw [hb j hj]; simp
noncomputable def uBD : Nat → ScpL → NodeL → NodeL
 | 0, _, n => n
 | f + 1, S, n => match vCB S n with
   | some i => uBD f S (vB6 n i S.path.length)
   | none => .mk n.lemmas n.split ((List.range n.kids.length).map fun i => uBD f (vEL S n i) n.kids[i]!) n.empty n.proof
noncomputable def vCY (S : ScpL) (n : NodeL) : NodeL := uBD n.cnt S n
theorem zH5 : ∀ (f g : Nat) (S : ScpL) (n : NodeL), n.cnt ≤ f → n.cnt ≤ g → uBD f S n = uBD g S n
 | 0, g, S, n, h, _ => by have := zE0 n; omega
 | f + 1, 0, S, n, _, h => by have := zE0 n; omega
 | f + 1, g + 1, S, n, hf, hg => by
   unfold uBD;cases h : vCB S n with
   | some i =>
     have := zC7 (p := S.path.length) (zB1 h).1;exact zH5 f g _ _ (by omega) (by omega)
   | none =>
     dsimp only
     congr 1
     refine List.map_congr_left fun i hi => ?_
     simp at hi;have := zDC hi;exact zH5 f g _ _ (by omega) (by omega)
theorem vRE (S : ScpL) (n : NodeL) : vCY S n = match vCB S n with
 | some i => vCY S (vB6 n i S.path.length)
 | none => .mk n.lemmas n.split ((List.range n.kids.length).map fun i => vCY (vEL S n i) n.kids[i]!) n.empty n.proof := by
 unfold vCY;have hc := zE0 n;obtain ⟨m, hm⟩ : ∃ m, n.cnt = m + 1 := ⟨n.cnt - 1, by omega⟩;rw [hm]
 conv => lhs; unfold uBD
 cases h : vCB S n with
 | some i =>
   have := zC7 (p := S.path.length) (zB1 h).1;exact zH5 _ _ _ _ (by omega) (Nat.le_refl _)
 | none =>
   dsimp only
   congr 1
   refine List.map_congr_left fun i hi => ?_
   simp at hi;have := zDC hi;exact zH5 _ _ _ _ (by omega) (Nat.le_refl _)
theorem zDL {S : ScpL} {n : NodeL} {i : Nat} (h : vCB S n = some i) : vCY S n = vCY S (vB6 n i S.path.length) := by
 rw [vRE, h]
theorem zDM {S : ScpL} {n : NodeL} (h : vCB S n = none) : vCY S n = .mk n.lemmas n.split ((List.range n.kids.length).map fun i => vCY (vEL S n i) n.kids[i]!) n.empty n.proof := by
 rw [vRE, h]
theorem zH4 {S : ScpL} {n : NodeL} (h : n.kids.length = 0) : vCY S n = n := by
 rw [zDM (zLY fun j hj => by omega), h];have : n.kids = [] := List.length_eq_zero_iff.1 h;cases n
 simp_all [NodeL.lemmas, NodeL.split, NodeL.kids, NodeL.empty, NodeL.proof]
inductive Tok : NodeL → Prop
 | mk (n : NodeL) (h1 : ∀ m ∈ n.lemmas, m.value.sm ∧ vCG m.proof ∧ vCH m.proof) (h2 : n.split.sm) (h3 : vCG n.proof ∧ vCH n.proof) (h4 : n.kids.length < 2097152) (h5 : ∀ k ∈ n.kids, Tok k) : Tok n
theorem Tok.lem {n : NodeL} (h : Tok n) : ∀ m ∈ n.lemmas, m.value.sm ∧ vCG m.proof ∧ vCH m.proof := by cases h; assumption
theorem Tok.spl {n : NodeL} (h : Tok n) : n.split.sm := by cases h; assumption
theorem Tok.prf {n : NodeL} (h : Tok n) : vCG n.proof ∧ vCH n.proof := by cases h; assumption
theorem Tok.kn {n : NodeL} (h : Tok n) : n.kids.length < 2097152 := by cases h; assumption
theorem Tok.kid {n : NodeL} (h : Tok n) : ∀ k ∈ n.kids, Tok k := by cases h; assumption
theorem zMP {P V v : Nat} : ∀ (k : Nat) (n : NodeL) (c : Nat), SizeOf.sizeOf n < k → c ≤ 1048576 → NodeZ P V v c n → Tok n → n.Sm ∧ NodeRg n := by
 intro k
 induction k with
 | zero => intro n c h; omega
 | succ k ih =>
   intro n c hk hc hz ht;have hl := hz.num;have hkid := fun x hx => ih x _ (by have := NodeL.sizeOf_kid hx; omega) (by omega) (hz.kid x hx) (ht.kid x hx)
   exact ⟨.mk n ⟨by omega, fun m hm => ⟨(ht.lem m hm).1, (ht.lem m hm).2.2⟩⟩ ht.spl ht.kn (fun x hx => (hkid x hx).1) ht.prf.2,
    .mk n (by omega) (fun m hm => (ht.lem m hm).2.1) ht.prf.1 ht.kn (fun x hx => (hkid x hx).2)⟩
theorem uFC : ∀ (k : Nat) (n : NodeL), SizeOf.sizeOf n < k → n.Sm → NodeRg n → Tok n := by
 intro k
 induction k with
 | zero => intro n h; omega
 | succ k ih =>
   intro n hk hs hr;exact .mk n (fun m hm => ⟨(hs.lems.2 m hm).1, hr.lem m hm, (hs.lems.2 m hm).2⟩) hs.dec ⟨hr.prf, hs.prf⟩ hr.kn fun x hx => ih x (by have := NodeL.sizeOf_kid hx; omega) (hs.kid hx) (hr.kid x hx)
theorem vMR {p : Int} (h0 : 0 ≤ p) {l : List MultL} (h : vCG l ∧ vCH l) : vCG (vBM (vCE (-1) p) l) ∧ vCH (vBM (vCE (-1) p) l) := by
 obtain ⟨⟨h1, h2⟩, h3, h4⟩ := h;refine ⟨⟨by simpa [vBM] using h1, fun m hm => ?_⟩, by simpa [vBM] using h3, fun m hm => ?_⟩
 ·obtain ⟨x, hx, rfl⟩ := List.mem_map.1 hm
  obtain ⟨g1, g2, g3⟩ := h2 x hx;refine ⟨g1, ?_⟩;show -9223372036854775808 ≤ (if 0 ≤ p ∧ x.row.kind = 4 then vC5 x.row.index p else x.row.index) ∧ (if 0 ≤ p ∧ x.row.kind = 4 then vC5 x.row.index p else x.row.index) < 9223372036854775808
  unfold vC5
  split
  ·split <;> omega
  ·omega
 ·obtain ⟨x, hx, rfl⟩ := List.mem_map.1 hm
  exact h4 x hx
theorem uA8 {p : Int} (h0 : 0 ≤ p) : ∀ (k : Nat) (n : NodeL), SizeOf.sizeOf n < k → Tok n → Tok (vCF (vCE (-1) p) n) := by
 intro k
 induction k with
 | zero => intro n h; omega
 | succ k ih =>
   intro n hk h;refine .mk _ (fun m hm => ?_) (by rw [zI6]; exact h.spl) (by rw [zI7]; exact vMR h0 h.prf) (by rw [zHF, List.length_map]; exact h.kn) fun x hx => ?_
   ·rw [zHE] at hm
    obtain ⟨y, hy, rfl⟩ := List.mem_map.1 hm;exact ⟨(h.lem y hy).1, vMR h0 (h.lem y hy).2⟩
   ·rw [zHF] at hx
    obtain ⟨y, hy, rfl⟩ := List.mem_map.1 hx;exact ih y (by have := NodeL.sizeOf_kid hy; omega) (h.kid y hy)
theorem zKJ {n : NodeL} {i : Nat} {p : Int} (h0 : 0 ≤ p) (hi : i < n.kids.length) (h : Tok n) : Tok (vB6 n i p) := by
 have hk := uA8 h0 _ _ (Nat.lt_succ_self _) (h.kid _ (get_mem hi));refine .mk _ (fun m hm => ?_) hk.spl hk.prf hk.kn hk.kid;rcases List.mem_append.1 hm with hm | hm
 ·exact h.lem m hm
 ·exact hk.lem m hm
theorem vN3 {P V : Nat} {f : RowL → RowL} {l : List MultL} (h : vLX P V l) : vLX P V (vBM f l) := by
 obtain ⟨⟨h1, h2⟩, h3⟩ := h;have e1 : (vBM f l).length = l.length := by simp [vBM]
 have e2 : vHW (vBM f l) = vHW l := by unfold vHW vBM; rw [List.map_map]; rfl
 refine ⟨⟨by omega, fun m hm => ?_⟩, by rw [e1, e2]; exact h3⟩;obtain ⟨x, hx, rfl⟩ := List.mem_map.1 hm;exact h2 x hx
theorem vTR {f : RowL → RowL} {P V v : Nat} : ∀ (k : Nat) (n : NodeL) (c : Nat), SizeOf.sizeOf n < k → NodeZ P V v c n → NodeZ P V v c (vCF f n) := by
 intro k
 induction k with
 | zero => intro n c h; omega
 | succ k ih =>
   intro n c hk h;refine .mk v c _ (fun m hm => ?_) (by rw [zHE, List.length_map]; exact h.num) (fun m hm => ?_) (by rw [zI6]; exact h.spl) (by rw [zI7]; exact vN3 h.prf) fun x hx => ?_
   ·rw [zHE] at hm
    obtain ⟨y, hy, rfl⟩ := List.mem_map.1 hm;exact h.val y hy
   ·rw [zHE] at hm
    obtain ⟨y, hy, rfl⟩ := List.mem_map.1 hm;exact ⟨(h.lem y hy).1, vN3 (h.lem y hy).2⟩
   ·rw [zHF] at hx
    obtain ⟨y, hy, rfl⟩ := List.mem_map.1 hx;rw [zHE, List.length_map];exact ih y _ (by have := NodeL.sizeOf_kid hy; omega) (h.kid y hy)
theorem zG4 {n : NodeL} {i : Nat} {p : Int} {P V v c : Nat} (hi : i < n.kids.length) (h : NodeZ P V v c n) : NodeZ P V v c (vB6 n i p) := by
 have hk := vTR (f := vCE (-1) p) _ _ _ (Nat.lt_succ_self _) (h.kid _ (get_mem hi));have h1 := h.num;have h2 := hk.num;have el : (vB6 n i p).lemmas.length = n.lemmas.length + (vCF (vCE (-1) p) n.kids[i]!).lemmas.length := List.length_append;refine .mk v c _ (fun m hm => ?_) (by omega) (fun m hm => ?_) hk.spl hk.prf fun x hx => ?_
 ·rcases List.mem_append.1 hm with hm | hm
  ·exact h.val m hm
  ·exact hk.val m hm
 ·rcases List.mem_append.1 hm with hm | hm
  ·exact h.lem m hm
  ·exact hk.lem m hm
 ·have := hk.kid x hx
  rw [el, ← Nat.sub_sub];exact this
theorem vVS : ∀ (p q : List DecL) (n : NodeL), atF n (p ++ q) = (atF n p).bind fun m => atF m q
 | [], q, n => by simp [atF]
 | d :: p, q, n => by
   simp only [List.cons_append, atF];cases vBX n d with
   | none => rfl
   | some i => exact vVS p q _
theorem zIU (n : NodeL) (i : Nat) (k : NodeL) (d : DecL) : vBX (vBT n i k) d = vBX n d := by
 unfold vBX;have e1 : (vBT n i k).kids.length = n.kids.length := List.length_set;have e2 : ∀ j, vC6 (vBT n i k) j = vC6 n j := fun j => rfl
 simp only [e1, e2]
theorem vRS {n : NodeL} {i : Nat} {k : NodeL} (h : i < n.kids.length) : (vBT n i k).kids[i]! = k := by
 show (n.kids.set i k)[i]! = k
 rw [getElem!_pos _ i (by simpa using h)]
 simp
theorem uFH {n : NodeL} {i j : Nat} {k : NodeL} (hne : i ≠ j) (h : j < n.kids.length) : (vBT n i k).kids[j]! = n.kids[j]! := by
 show (n.kids.set i k)[j]! = _
 rw [getElem!_pos _ j (by simpa using h), getElem!_pos _ j h, List.getElem_set_ne hne]
theorem set_set {n : NodeL} {i : Nat} {k k' : NodeL} : vBT (vBT n i k) i k' = vBT n i k' := by
 show NodeL.mk _ _ ((n.kids.set i k).set i k') _ _ = NodeL.mk _ _ (n.kids.set i k') _ _
 rw [List.set_set]; rfl
theorem zIA {w n n' : NodeL} {d : DecL} {p : List DecL} (h : vB7 w n (d :: p) = some n') : ∃ i k', vBX n d = some i ∧ vB7 w n.kids[i]! p = some k' ∧ n' = vBT n i k' := by
 simp only [vB7] at h;cases hk : vBX n d with
 | none => rw [hk] at h; cases h
 | some i =>
   rw [hk] at h;simp only [Option.map_eq_some_iff] at h;obtain ⟨k', h1, h2⟩ := h;exact ⟨i, k', rfl, h1, h2.symm⟩
theorem zKO {w n k' : NodeL} {d : DecL} {p : List DecL} {i : Nat} (hk : vBX n d = some i) (h : vB7 w n.kids[i]! p = some k') : vB7 w n (d :: p) = some (vBT n i k') := by
 simp only [vB7, hk, h, Option.map_some]
theorem vKW {v w : NodeL} : ∀ (p : List DecL) (n n' : NodeL), vB7 v n p = some n' → vB7 w n' p = vB7 w n p
 | [], n, n', h => rfl
 | d :: p, n, n', h => by
   obtain ⟨i, k', h1, h2, rfl⟩ := zIA h;have hl := (zCG h1).1;simp only [vB7, zIU, h1];rw [vRS hl, vKW p _ _ h2];cases vB7 w n.kids[i]! p with
   | none => rfl
   | some k2 =>
     simp only [Option.map_some];rw [set_set]
theorem vVP {w : NodeL} : ∀ (p : List DecL) (n n' : NodeL), vB7 w n p = some n' → atF n' p = some w
 | [], n, n', h => by simp only [vB7, Option.some.injEq] at h; subst h; rfl
 | d :: p, n, n', h => by
   obtain ⟨i, k', h1, h2, rfl⟩ := zIA h;simp only [atF, zIU, h1];rw [vRS (zCG h1).1];exact vVP p _ _ h2
theorem vMV : ∀ (p : List DecL) (n m : NodeL), atF n p = some m → vB7 m n p = some n
 | [], n, m, h => by simp only [atF, Option.some.injEq] at h; subst h; rfl
 | d :: p, n, m, h => by
   simp only [atF] at h;cases hk : vBX n d with
   | none => rw [hk] at h; cases h
   | some i =>
     rw [hk] at h;have ih := vMV p _ m h;have hl := (zCG hk).1;rw [zKO hk ih]
     congr 1
     unfold vBT
     have : n.kids.set i n.kids[i]! = n.kids := by
      rw [getElem!_pos n.kids i hl]; exact List.set_getElem_self hl
     rw [this];cases n; rfl
theorem vKX {w : NodeL} : ∀ (p q : List DecL) (n m m' n' : NodeL), atF n p = some m → vB7 w m q = some m' → vB7 m' n p = some n' → vB7 w n (p ++ q) = some n'
 | [], q, n, m, m', n', h1, h2, h3 => by
   simp only [atF, Option.some.injEq] at h1;simp only [vB7, Option.some.injEq] at h3;subst h1 h3; exact h2
 | d :: p, q, n, m, m', n', h1, h2, h3 => by
   obtain ⟨i, k', g1, g2, rfl⟩ := zIA h3;simp only [atF, g1] at h1;rw [List.cons_append];exact zKO g1 (vKX p q _ m m' k' h1 h2 g2)
theorem zLC {w : NodeL} : ∀ (p : List DecL) (n n' : NodeL) (S : ScpL), vB7 w n p = some n' → vB5 S n' p = vB5 S n p
 | [], n, n', S, h => rfl
 | d :: p, n, n', S, h => by
   obtain ⟨i, k', h1, h2, rfl⟩ := zIA h;simp only [vB5, zIU, h1];rw [vRS (zCG h1).1];exact zLC p _ _ _ h2
theorem zH7 : ∀ (p : List DecL) (n m : NodeL) (S : ScpL) (d : DecL) (i : Nat), atF n p = some m → vBX m d = some i → vB5 S n (p ++ [d]) = vCZ (vB5 S n p) m d
 | [], n, m, S, d, i, h, hn => by
   simp only [atF, Option.some.injEq] at h;subst h;simp only [List.nil_append, vB5, hn]
 | e :: p, n, m, S, d, i, h, hn => by
   simp only [atF] at h;cases hk : vBX n e with
   | none => rw [hk] at h; cases h
   | some j =>
     rw [hk] at h;simp only [List.cons_append, vB5, hk];exact zH7 p _ m _ d i h hn
theorem uAZ {n m : NodeL} {p : List DecL} {d : DecL} {i : Nat} (h : atF n p = some m) (hn : vBX m d = some i) : atF n (p ++ [d]) = some m.kids[i]! := by
 rw [vVS, h];simp only [Option.bind_some, atF, hn]
theorem vG8 {H : Nat → NodeL → Prop} {nx : Nat → NodeL → Nat} (hk : ∀ c n k, H c n → k ∈ n.kids → H (nx c n) k) (hs : ∀ c n i k, H c n → i < n.kids.length → H (nx c n) k → H c (vBT n i k)) {w x : NodeL} (hw : ∀ c, H c x → H c w) :
 ∀ (p : List DecL) (n n' : NodeL) (c : Nat), H c n → atF n p = some x → vB7 w n p = some n' → H c n'
 | [], n, n', c, h, h1, h2 => by
   simp only [atF, Option.some.injEq] at h1;simp only [vB7, Option.some.injEq] at h2;subst h1 h2; exact hw c h
 | d :: p, n, n', c, h, h1, h2 => by
   obtain ⟨i, k', g1, g2, rfl⟩ := zIA h2;simp only [atF, g1] at h1;have hl := (zCG g1).1;exact hs c n i k' h hl (vG8 hk hs hw p _ k' _ (hk c n _ h (get_mem hl)) h1 g2)
theorem zM9 {H : Nat → NodeL → Prop} {nx : Nat → NodeL → Nat} (hk : ∀ c n k, H c n → k ∈ n.kids → H (nx c n) k) {x : NodeL} : ∀ (p : List DecL) (n : NodeL) (c : Nat), H c n → atF n p = some x → ∃ c', H c' x
 | [], n, c, h, h1 => by simp only [atF, Option.some.injEq] at h1; subst h1; exact ⟨c, h⟩
 | d :: p, n, c, h, h1 => by
   simp only [atF] at h1;cases hn : vBX n d with
   | none => rw [hn] at h1; cases h1
   | some i =>
     rw [hn] at h1;exact zM9 hk p _ _ (hk c n _ h (get_mem (zCG hn).1)) h1
theorem zM2 {w x n n' : NodeL} {p : List DecL} {P V v c : Nat} (hw : ∀ c, NodeZ P V v c x → NodeZ P V v c w) (h : NodeZ P V v c n) (h1 : atF n p = some x) (h2 : vB7 w n p = some n') : NodeZ P V v c n' := by
 refine vG8 (H := fun c n => NodeZ P V v c n) (nx := fun c n => c - n.lemmas.length) (fun c n k h hk => h.kid k hk) (fun c n i k h hi hk => ?_) hw p n n' c h h1 h2;refine .mk v c _ h.val h.num h.lem h.spl h.prf fun y hy => ?_
 rcases List.mem_or_eq_of_mem_set hy with hy | rfl
 ·exact h.kid y hy
 ·exact hk
theorem vQ4 {w x n n' : NodeL} {p : List DecL} (hw : Tok x → Tok w) (h : Tok n) (h1 : atF n p = some x) (h2 : vB7 w n p = some n') : Tok n' := by
 refine vG8 (H := fun _ n => Tok n) (nx := fun c n => c) (fun c n k h hk => h.kid k hk) (fun c n i k h hi hk => ?_) (fun _ => hw) p n n' 0 h h1 h2;refine .mk _ h.lem h.spl h.prf (by show (n.kids.set i k).length < _; rw [List.length_set]; exact h.kn) fun y hy => ?_
 rcases List.mem_or_eq_of_mem_set hy with hy | rfl
 ·exact h.kid y hy
 ·exact hk
theorem vJI {w x n n' : NodeL} {p : List DecL} {d : Nat} (hw : ∀ d, vBE d x = true → vBE d w = true) (h : vBE d n = true) (h1 : atF n p = some x) (h2 : vB7 w n p = some n') : vBE d n' = true := by
 refine vG8 (H := fun d n => vBE d n = true) (nx := fun c n => c - 1) (fun c n k h hk => ?_) (fun c n i k h hi hk => ?_) hw p n n' d h h1 h2
 ·have h0 : n.kids.length ≠ 0 := by have := List.length_pos_of_mem hk; omega
  rw [zA3 h0] at h;simp only [Bool.and_eq_true, List.all_eq_true] at h;exact h.2 k hk
 ·have h0 : n.kids.length ≠ 0 := by omega
  have e1 : (vBT n i k).kids.length = n.kids.length := List.length_set;rw [zA3 h0] at h;rw [zA3 (by omega)];have e2 : vBU (vBT n i k) = vBU n := by unfold vBU; simp only [e1]; rfl
  rw [e2];simp only [Bool.and_eq_true, List.all_eq_true] at h ⊢;refine ⟨h.1, fun y hy => ?_⟩;rcases List.mem_or_eq_of_mem_set hy with hy | rfl
  ·exact h.2 y hy
  ·exact hk
theorem vUW {w x n n' : NodeL} {p : List DecL} (h1 : atF n p = some x) (h2 : vB7 w n p = some n') : n'.cnt + x.cnt = n.cnt + w.cnt := by
 have g3 := vKJ (f := fun _ => 1) (fun _ _ _ => rfl) p n n' x h1 h2;rw [← vHL _ n' (Nat.lt_succ_self _), ← vHL _ n (Nat.lt_succ_self _), ← vHL _ w (Nat.lt_succ_self _), ← vHL _ x (Nat.lt_succ_self _)] at g3;exact g3
def wtF (n : NodeL) : Nat := 1 + (n.lemmas.map vDI).sum + n.proof.length
theorem vMC : ∀ (k : Nat) (n : NodeL), SizeOf.sizeOf n < k → n.wt = n.tot wtF := by
 intro k
 induction k with
 | zero => intro n h; omega
 | succ k ih =>
   intro n h;rw [n.wt_eq, NodeL.tot_eq]
   congr 2
   exact List.map_congr_left fun x hx => ih x (by have := NodeL.sizeOf_kid hx; omega)
theorem uEU {w x n n' : NodeL} {p : List DecL} (h1 : atF n p = some x) (h2 : vB7 w n p = some n') : n'.wt + x.wt = n.wt + w.wt := by
 have g3 := vKJ (f := wtF) (fun _ _ _ => rfl) p n n' x h1 h2;rw [← vMC _ n' (Nat.lt_succ_self _), ← vMC _ n (Nat.lt_succ_self _), ← vMC _ w (Nat.lt_succ_self _), ← vMC _ x (Nat.lt_succ_self _)] at g3;exact g3
theorem uEW : ∀ (p : List DecL) (n x : NodeL), atF n p = some x → x.wt ≤ n.wt
 | [], n, x, h => by simp only [atF, Option.some.injEq] at h; subst h; exact Nat.le_refl _
 | d :: p, n, x, h => by
   simp only [atF] at h;cases hk : vBX n d with
   | none => rw [hk] at h; cases h
   | some i =>
     rw [hk] at h;have h1 := uEW p _ x h;have h2 := vQS (zCG hk).1;omega
theorem uBB : ∀ (f : Nat) (n : NodeL) (S : ScpL), n.cnt < f → (vCY S n).cnt ≤ n.cnt := by
 intro f
 induction f with
 | zero => intro n S h; omega
 | succ f ih =>
   intro n S hf;cases h : vCB S n with
   | some i =>
     rw [zDL h];have h1 := zC7 (p := S.path.length) (zB1 h).1;have h2 := ih _ S (by omega : (vB6 n i S.path.length).cnt < f);omega
   | none =>
     rw [zDM h, NodeL.cnt_eq, NodeL.cnt_eq n];show 1 + (((List.range n.kids.length).map fun i => vCY (vEL S n i) n.kids[i]!).map NodeL.cnt).sum ≤ _
     have e : n.kids.map NodeL.cnt = (List.range n.kids.length).map fun i => n.kids[i]!.cnt := by
      refine List.ext_getElem (by simp) fun i h1 h2 => ?_
      simp only [List.length_map] at h1;rw [List.getElem_map, List.getElem_map, List.getElem_range, getElem!_pos n.kids i h1]
     rw [e, List.map_map]
     have : ∀ l : List Nat, (∀ i ∈ l, i < n.kids.length) → (l.map (NodeL.cnt ∘ fun i => vCY (vEL S n i) n.kids[i]!)).sum ≤ (l.map fun i => n.kids[i]!.cnt).sum := by
      intro l
      induction l with
      | nil => intro _; exact Nat.le_refl _
      | cons a l ihl =>
        intro hl;have ha := hl a (by simp);have h1 := zDC ha;have h2 := ih n.kids[a]! (vEL S n a) (by omega);have h3 := ihl fun i hi => hl i (List.mem_cons_of_mem _ hi)
        simp only [List.map_cons, List.sum_cons, Function.comp_apply];omega
     have := this (List.range n.kids.length) fun i hi => by simpa using hi
     omega
theorem uE9 : ∀ (f : Nat) (n : NodeL) (S : ScpL), n.cnt < f → (vCY S n).wt ≤ n.wt := by
 intro f
 induction f with
 | zero => intro n S h; omega
 | succ f ih =>
   intro n S hf;cases h : vCB S n with
   | some i =>
     rw [zDL h];have h1 := zC7 (p := S.path.length) (zB1 h).1;have h3 := vQR (p := S.path.length) (zB1 h).1;have h2 := ih _ S (by omega : (vB6 n i S.path.length).cnt < f);omega
   | none =>
     rw [zDM h, NodeL.wt_eq, n.wt_eq];show 1 + (n.lemmas.map vDI).sum + n.proof.length + (((List.range n.kids.length).map fun i => vCY (vEL S n i) n.kids[i]!).map NodeL.wt).sum ≤ _
     have e : n.kids.map NodeL.wt = (List.range n.kids.length).map fun i => n.kids[i]!.wt := by
      refine List.ext_getElem (by simp) fun i h1 h2 => ?_
      simp only [List.length_map] at h1;rw [List.getElem_map, List.getElem_map, List.getElem_range, getElem!_pos n.kids i h1]
     rw [e, List.map_map]
     have : ∀ l : List Nat, (∀ i ∈ l, i < n.kids.length) → (l.map (NodeL.wt ∘ fun i => vCY (vEL S n i) n.kids[i]!)).sum ≤ (l.map fun i => n.kids[i]!.wt).sum := by
      intro l
      induction l with
      | nil => intro _; exact Nat.le_refl _
      | cons a l ihl =>
        intro hl;have ha := hl a (by simp);have h1 := zDC ha;have h2 := ih n.kids[a]! (vEL S n a) (by omega);have h3 := ihl fun i hi => hl i (List.mem_cons_of_mem _ hi)
        simp only [List.map_cons, List.sum_cons, Function.comp_apply];omega
     have := this (List.range n.kids.length) fun i hi => by simpa using hi
     omega
theorem vWL : ∀ (f : Nat) (n : NodeL) (S : ScpL) (d : Nat), n.cnt < f → vBE d n = true → vBE d (vCY S n) = true := by
 intro f
 induction f with
 | zero => intro n S d h; omega
 | succ f ih =>
   intro n S d hf hn;cases h : vCB S n with
   | some i =>
     rw [zDL h];have hi := (zB1 h).1;have h1 := zC7 (p := S.path.length) hi;exact ih _ S d (by omega) (zGP hn hi)
   | none =>
     by_cases h0 : n.kids.length = 0
     ·rw [zH4 h0]; exact hn
     ·rw [zDM h]
      have hl : (NodeL.mk n.lemmas n.split ((List.range n.kids.length).map fun i => vCY (vEL S n i) n.kids[i]!) n.empty n.proof).kids.length = n.kids.length := by
       show ((List.range n.kids.length).map _).length = _
       simp
      have hn' := hn;rw [zA3 h0] at hn';rw [zA3 (by omega)];simp only [Bool.and_eq_true, List.all_eq_true] at hn' ⊢;refine ⟨⟨?_, hn'.1.2⟩, fun y hy => ?_⟩
      ·have := hn'.1.1
       unfold vBU at this ⊢;rw [hl]; exact this
      ·obtain ⟨i, hi, rfl⟩ := List.mem_map.1 (show y ∈ (List.range n.kids.length).map _ from hy)
       have hi' : i < n.kids.length := by simpa using hi
       have h1 := zDC hi';exact ih _ _ _ (by omega) (zIZ hn hi')
theorem uBA : ∀ (f : Nat) (n : NodeL) (S : ScpL), n.cnt < f → Tok n → Tok (vCY S n) := by
 intro f
 induction f with
 | zero => intro n S h; omega
 | succ f ih =>
   intro n S hf hn;cases h : vCB S n with
   | some i =>
     rw [zDL h];have hi := (zB1 h).1;have h1 := zC7 (p := S.path.length) hi;exact ih _ S (by omega) (zKJ (by omega) hi hn)
   | none =>
     rw [zDM h];refine .mk _ hn.lem hn.spl hn.prf (by show ((List.range n.kids.length).map _).length < _; simpa using hn.kn) fun y hy => ?_
     obtain ⟨i, hi, rfl⟩ := List.mem_map.1 (show y ∈ (List.range n.kids.length).map _ from hy);have hi' : i < n.kids.length := by simpa using hi
     have h1 := zDC hi';exact ih _ _ (by omega) (hn.kid _ (get_mem hi'))
theorem vRC {P V v : Nat} : ∀ (f : Nat) (n : NodeL) (S : ScpL) (c : Nat), n.cnt < f → NodeZ P V v c n → NodeZ P V v c (vCY S n) := by
 intro f
 induction f with
 | zero => intro n S c h; omega
 | succ f ih =>
   intro n S c hf hn;cases h : vCB S n with
   | some i =>
     rw [zDL h];have hi := (zB1 h).1;have h1 := zC7 (p := S.path.length) hi;exact ih _ S c (by omega) (zG4 hi hn)
   | none =>
     rw [zDM h];refine .mk v c _ hn.val hn.num hn.lem hn.spl hn.prf fun y hy => ?_
     obtain ⟨i, hi, rfl⟩ := List.mem_map.1 (show y ∈ (List.range n.kids.length).map _ from hy);have hi' : i < n.kids.length := by simpa using hi
     have h1 := zDC hi';exact ih _ _ _ (by omega) (hn.kid _ (get_mem hi'))
theorem vO6 {S : ScpL} {n m : NodeL} (h1 : n.lemmas = m.lemmas) (h2 : n.kids.length = m.kids.length) (h3 : n.split = m.split) (h4 : n.empty = m.empty) (h5 : n.proof = m.proof) : vC2 S n ↔ vC2 S m := by
 unfold vC2;rw [h1, h2, h3, h4, h5]
theorem vTV {α : Type} (g : Nat → α) : (List.range 2).map g = [g 0, g 1] := rfl
theorem vRD : ∀ (f : Nat) (n : NodeL) (S : ScpL) (d : Nat), n.cnt < f → vBE d n = true → vBF S n = none → vBF S (vCY S n) = none := by
 intro f
 induction f with
 | zero => intro n S d h; omega
 | succ f ih =>
   intro n S d hf hn hb;cases h : vCB S n with
   | some i =>
     rw [zDL h];obtain ⟨hi, hg⟩ := zB1 h;have h1 := zC7 (p := S.path.length) hi;unfold vDQ at hg;simp only [Bool.and_eq_true, Option.isNone_iff_eq_none] at hg;exact ih _ S d (by omega) (zGP hn hi) hg.2
   | none =>
     by_cases h0 : n.kids.length = 0
     ·rw [zH4 h0]; exact hb
     ·obtain ⟨e1, e2, f0, f1, _⟩ := zD4 h0 hn
      obtain ⟨b0, b1⟩ := vG7 h0 hn hb;have c0 := zDC (n := n) (i := 0) (by omega);have c1 := zDC (n := n) (i := 1) (by omega);have g0 := ih n.kids[0]! (vEL S n 0) (d - 1) (by omega) f0 b0;have g1 := ih n.kids[1]! (vEL S n 1) (d - 1) (by omega) f1 b1;rw [zDM h, e1, vTV];have hr : vC2 S (.mk n.lemmas n.split [vCY (vEL S n 0) n.kids[0]!, vCY (vEL S n 1) n.kids[1]!] n.empty n.proof) := (vO6 (n := .mk n.lemmas n.split [vCY (vEL S n 0) n.kids[0]!, vCY (vEL S n 1) n.kids[1]!] n.empty n.proof) (m := n) rfl (by rw [e1]; rfl) rfl rfl rfl).2 (zKM hb);rw [zCX hr rfl];have g0' : vBF (vCZ S (.mk n.lemmas n.split [vCY (vEL S n 0) n.kids[0]!, vCY (vEL S n 1) n.kids[1]!] n.empty n.proof) n.split) (vCY (vEL S n 0) n.kids[0]!) = none := g0;have g1' : vBF (vCZ S (.mk n.lemmas n.split [vCY (vEL S n 0) n.kids[0]!, vCY (vEL S n 1) n.kids[1]!] n.empty n.proof) (vZ3 n.split)) (vCY (vEL S n 1) n.kids[1]!) = none := g1;show (match vBF (vCZ S _ n.split) _ with | some p => some p | none => vBF (vCZ S _ (vZ3 n.split)) _) = none
      rw [g0'];exact g1'
structure AccT (q : QryL) (P V v : Nat) (n : NodeL) : Prop where
 val : n.valid = true
 va : VaQ q
 bel : vBF ⟨q, [], []⟩ n = none
 z : NodeZ P V v 1048576 n
 tok : Tok n
 wt : n.wt ≤ 1048576
theorem zB6 {n : NodeL} (h : n.valid = true) : vBE 2048 n = true ∧ n.cnt ≤ 65536 := by
 unfold NodeL.valid at h;simp only [Bool.and_eq_true, decide_eq_true_eq] at h; exact h
theorem zHA {n : NodeL} (h1 : vBE 2048 n = true) (h2 : n.cnt ≤ 65536) : n.valid = true := by
 unfold NodeL.valid;rw [h1]
 simpa using h2
theorem zKH {n x : NodeL} {p : List DecL} (h : n.valid = true) (h1 : atF n p = some x) : x.valid = true := by
 obtain ⟨_, h⟩ := zM9 (H := fun _ n => n.valid = true) (nx := fun c _ => c) (fun c n k h hk => by
  obtain ⟨g1, g2⟩ := zB6 h;obtain ⟨i, hi, rfl⟩ := List.getElem_of_mem hk;have e := getElem!_pos n.kids i hi;rw [← e];have := zDC hi
  exact zHA (vJJ _ _ _ _ (Nat.lt_succ_self _) (by omega) (zIZ g1 hi)) (by omega)) p n 0 h h1
 exact h
theorem at_len : ∀ (p : List DecL) (n x : NodeL) (d : Nat), vBE d n = true → atF n p = some x → p.length ≤ d
 | [], n, x, d, _, _ => Nat.zero_le _
 | e :: p, n, x, d, h, h1 => by
   simp only [atF] at h1;cases hk : vBX n e with
   | none => rw [hk] at h1; cases h1
   | some i =>
     rw [hk] at h1;have hl := (zCG hk).1;obtain ⟨e1, e2, _⟩ := zD4 (by omega) h;have := at_len p _ x (d - 1) (zIZ h hl) h1;simp only [List.length_cons]; omega
theorem vVX {q : QryL} {P V v : Nat} {n x w n' : NodeL} {p : List DecL} (h : AccT q P V v n) (h1 : atF n p = some x) (h2 : vB7 w n p = some n') (hf : ∀ d, vBE d x = true → vBE d w = true) (hc : w.cnt ≤ x.cnt) (hw : w.wt ≤ x.wt) (hz : ∀ c, NodeZ P V v c x → NodeZ P V v c w) (ht : Tok x → Tok w) (hb : vBF (vB5 ⟨q, [], []⟩ n p) w = none) : AccT q P V v n' := by
 obtain ⟨g1, g2⟩ := zB6 h.val;have hc2 := vUW h1 h2;exact ⟨zHA (vJI hf g1 h1 h2) (by omega), h.va, by rw [zJD p n _ 2048 n' g1 h.bel h2]; exact hb, zM2 hz h.z h1 h2, vQ4 ht h.tok h1 h2, by have := uEU h1 h2; have := h.wt; omega⟩
theorem vPW {q : QryL} {P V v : Nat} {n x : NodeL} {p : List DecL} {i : Nat} (h : AccT q P V v n) (h1 : atF n p = some x) (hi : i < x.kids.length) :
 ∃ n', vB7 (vB6 x i p.length) n p = some n' ∧ vMW (vB6 x i p.length) n p = (n', 0) ∧ n'.valid = true ∧ NodeZ P V v 1048576 n' ∧ Tok n' ∧ n'.cnt < n.cnt ∧ (vB6 x i p.length).valid = true ∧ NodeZ P V v 1048576 (vB6 x i p.length) ∧ Tok (vB6 x i p.length) ∧
   vDN q n' = (match vBF (vB5 ⟨q, [], []⟩ n p) (vB6 x i p.length) with | none => ([], 0) | some p => (p, 12)) := by
 obtain ⟨g1, g2⟩ := zB6 h.val;obtain ⟨n', hr⟩ := zKN (w := vB6 x i p.length) h1;have hxv := zKH h.val h1;obtain ⟨x1, x2⟩ := zB6 hxv;have hcl := zC7 (p := p.length) hi;have hc2 := vUW h1 hr;have hv' : n'.valid = true := zHA (vJI (fun d hd => zGP hd hi) g1 h1 hr) (by omega);have hwv : (vB6 x i p.length).valid = true := zHA (zGP x1 hi) (by omega);obtain ⟨_, hxt⟩ := zM9 (H := fun _ n => Tok n) (nx := fun c _ => c) (fun c n k h hk => h.kid k hk) p n 0 h.tok h1;obtain ⟨_, hxz⟩ := zM9 (H := fun _ n => NodeZ P V v 1048576 n) (nx := fun c _ => c) (fun c n k h hk => (h.kid k hk).more _ _ _ _ (Nat.lt_succ_self _) (by omega)) p n 0 h.z h1;refine ⟨n', hr, ?_, hv', zM2 (fun c hc => zG4 hi hc) h.z h1 hr, vQ4 (fun ht => zKJ (by omega) hi ht) h.tok h1 hr, by omega, hwv, zG4 hi hxz, zKJ (by omega) hi hxt, ?_⟩
 ·unfold vMW
  rw [h.val, hwv, hr];simp [hv']
 ·unfold vDN
  rw [if_pos ⟨hv', h.va⟩, zJD p n _ 2048 n' g1 h.bel hr];cases vBF (vB5 ⟨q, [], []⟩ n p) (vB6 x i p.length) <;> rfl
theorem vWS {q : QryL} {n x : NodeL} {p : List DecL} (h1 : atF n p = some x) : (vB5 ⟨q, [], []⟩ n p).path = p := by
 rw [vMO p n _ x h1]; simp
theorem vZM {q : QryL} {P V v : Nat} {n x n' : NodeL} {p : List DecL} {i : Nat} (h : AccT q P V v n) (h1 : atF n p = some x) (hi : i < x.kids.length) (hr : vB7 (vB6 x i p.length) n p = some n') (hb : vBF (vB5 ⟨q, [], []⟩ n p) (vB6 x i p.length) = none) : AccT q P V v n' := by
 have hcl := zC7 (p := p.length) hi;exact vVX h h1 hr (fun d hd => zGP hd hi) (by omega) (Nat.le_of_lt (vQR hi)) (fun c hc => zG4 hi hc) (fun ht => zKJ (by omega) hi ht) hb
theorem vNH {n : NodeL} (hv : n.valid = true) {i : Nat} (hi : i < n.kids.length) : vBX n (vC6 n i) = some i := by
 obtain ⟨g1, _⟩ := zB6 hv;obtain ⟨e1, e2, _, _, k1, k4⟩ := zD4 (by omega) g1;have hne := uF2 k1 k4;rcases Nat.lt_or_ge i 1 with h | h
 ·obtain rfl : i = 0 := by omega
  exact vPT (by omega) rfl
 ·obtain rfl : i = 1 := by omega
  unfold vBX;have c1 : vC6 n 1 = opp n.split := rfl;have c0 : vC6 n 0 = n.split := rfl;rw [e1];have e0 : ¬ vC6 n 0 = vC6 n 1 := by rw [c0, c1]; exact fun e => hne e.symm
  simp [List.range_succ, e0]
theorem vW3 {q : QryL} {P V v : Nat} {n x : NodeL} {p : List DecL} (h : AccT q P V v n) (h1 : atF n p = some x) (hk : x.kids.length = 2) (hno : vCB (vB5 ⟨q, [], []⟩ n p) x = none) :
 ∃ n1 n2, vB7 (vCY (vB5 ⟨q, [], []⟩ n (p ++ [vC6 x 0])) x.kids[0]!) n (p ++ [vC6 x 0]) = some n1 ∧ AccT q P V v n1 ∧ atF n (p ++ [vC6 x 0]) = some x.kids[0]! ∧ atF n1 (p ++ [vC6 x 1]) = some x.kids[1]! ∧
   vB7 (vCY (vB5 ⟨q, [], []⟩ n1 (p ++ [vC6 x 1])) x.kids[1]!) n1 (p ++ [vC6 x 1]) = some n2 ∧ vB7 (vCY (vB5 ⟨q, [], []⟩ n p) x) n p = some n2 := by
 have hxv := zKH h.val h1;have hn0 := vNH hxv (i := 0) (by omega);have hn1 := vNH hxv (i := 1) (by omega);have a0 := uAZ h1 hn0;have s0 := zH7 p n x ⟨q, [], []⟩ _ _ h1 hn0;have s1 := zH7 p n x ⟨q, [], []⟩ _ _ h1 hn1;obtain ⟨S, hS⟩ : ∃ S, vB5 ⟨q, [], []⟩ n p = S := ⟨_, rfl⟩;obtain ⟨k0, hk0⟩ : ∃ k, vCY (vEL S x 0) x.kids[0]! = k := ⟨_, rfl⟩;obtain ⟨k1, hk1⟩ : ∃ k, vCY (vEL S x 1) x.kids[1]! = k := ⟨_, rfl⟩;rw [hS] at hno;rw [s0, hS];show ∃ n1 n2, vB7 (vCY (vEL S x 0) x.kids[0]!) n _ = some n1 ∧ _
 rw [hk0];obtain ⟨n1, hr1⟩ := zKN (w := vBT x 0 k0) h1;have hr1' : vB7 k0 n (p ++ [vC6 x 0]) = some n1 := vKX p _ n x _ n1 h1 (zKO hn0 rfl) hr1;obtain ⟨x1, x2⟩ := zB6 hxv;have hb := (vF2 p n ⟨q, [], []⟩ 2048 x (zB6 h.val).1 h.bel ⟨h.va, fun d hd => by cases hd⟩ h1).2.1;rw [hS] at hb;have hkb := (vG7 (by omega) x1 hb).1
 have acc1 : AccT q P V v n1 := by
  refine vVX h a0 hr1' (fun d hd => ?_) ?_ ?_ (fun c hc => ?_) (fun ht => ?_) ?_
  ·rw [← hk0]; exact vWL _ _ _ _ (Nat.lt_succ_self _) hd
  ·rw [← hk0]; exact uBB _ _ _ (Nat.lt_succ_self _)
  ·rw [← hk0]; exact uE9 _ _ _ (Nat.lt_succ_self _)
  ·rw [← hk0]; exact vRC _ _ _ _ (Nat.lt_succ_self _) hc
  ·rw [← hk0]; exact uBA _ _ _ (Nat.lt_succ_self _) ht
  ·rw [s0, hS, ← hk0]
   exact vRD _ _ _ _ (Nat.lt_succ_self _) (zIZ x1 (by omega)) hkb
 have a1 : atF n1 p = some (vBT x 0 k0) := vVP p n n1 hr1;have hn1' : vBX (vBT x 0 k0) (vC6 x 1) = some 1 := by rw [zIU]; exact hn1
 have a2 := uAZ a1 hn1';rw [uFH (by decide) (by omega)] at a2;have s2 := zH7 p n1 _ ⟨q, [], []⟩ _ _ a1 hn1';rw [zLC p n n1 _ hr1, hS] at s2;obtain ⟨n2, hr2⟩ := zKN (w := vBT (vBT x 0 k0) 1 k1) a1;have hr2' : vB7 k1 n1 (p ++ [vC6 x 1]) = some n2 := vKX p _ n1 _ _ n2 a1 (zKO hn1' rfl) hr2;refine ⟨n1, n2, hr1', acc1, a0, a2, ?_, ?_⟩
 ·rw [s2]
  show vB7 (vCY (vEL S x 1) x.kids[1]!) n1 _ = _
  rw [hk1]; exact hr2'
 ·rw [zDM hno, hk, vTV, hk0, hk1, ← vKW p n n1 hr1]
  have e : vBT (vBT x 0 k0) 1 k1 = .mk x.lemmas x.split [k0, k1] x.empty x.proof := by
   show NodeL.mk _ _ ((x.kids.set 0 k0).set 1 k1) _ _ = _
   have := zH1 hk;generalize x.kids[0]! = a at *
   generalize x.kids[1]! = b at *
   rw [this]; rfl
  rw [← e]; exact hr2
end Go.PI.Tryz
