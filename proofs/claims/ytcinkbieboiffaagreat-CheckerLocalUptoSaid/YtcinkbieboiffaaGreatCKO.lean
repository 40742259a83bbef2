/-
  The law CheckerLocal.
-/
import Derived.Test.YtcinkbieboiffaaGreatCKN
import Derived.Test.YtcinkbieboiffaaGreatCTR
set_option linter.unusedVariables false
set_option linter.unusedSimpArgs false
set_option linter.unnecessarySimpa false
namespace Go.PI.Tryz
open Go.Proofs Go.PI
def scpAt : ScpL → NodeL → List DecL → ScpL
 | S, _, [] => S
 | S, n, d :: p => match nextK n d with
   | some i => scpAt (kidS S n d) n.kids[i]! p
   | none => S
theorem zIK {S : ScpL} {n : NodeL} (h : belowO S n = none) : rightP S n := by
 refine Classical.byContradiction fun hr => ?_
 rw [zB1 hr] at h; cases h
theorem zER {n : NodeL} {d : Nat} (h0 : n.kids.length ≠ 0) (hf : formOk d n = true) : n.kids.length = 2 ∧ d ≠ 0 ∧ formOk (d - 1) n.kids[0]! = true ∧ formOk (d - 1) n.kids[1]! = true ∧ 1 ≤ n.split.kind ∧ n.split.kind ≤ 4 := by
 have hfo := hf;rw [zBW h0] at hfo;simp only [Bool.and_eq_true, decide_eq_true_eq] at hfo;have h5 := hfo.1.1;unfold innerOk at h5;obtain ⟨e1, e2, e3, _⟩ := of_decide_eq_true h5;have hfk := zB4 e1 (d := d);rw [hf] at hfk;have hfk := hfk.symm;simp only [Bool.and_eq_true] at hfk;exact ⟨e1, hfo.1.2, hfk.2.1, hfk.2.2, e2, e3⟩
theorem next_of {n : NodeL} {d : Nat} {e : DecL} {i : Nat} (hf : formOk d n = true) (h : nextK n e = some i) : n.kids.length ≠ 0 ∧ ((i = 0 ∧ e = n.split) ∨ (i = 1 ∧ e = opp n.split)) := by
 obtain ⟨h1, h2⟩ := zHL h;have h0 : n.kids.length ≠ 0 := by omega
 refine ⟨h0, ?_⟩;obtain ⟨e1, _⟩ := zER h0 hf;rcases Nat.lt_or_ge i 1 with hi | hi
 ·obtain rfl : i = 0 := by omega
  exact Or.inl ⟨rfl, by rw [← h2]; rfl⟩
 ·obtain rfl : i = 1 := by omega
  exact Or.inr ⟨rfl, by rw [← h2]; rfl⟩
theorem set0 {α : Type} {a b : α} (k : α) : ([a, b] : List α).set 0 k = [k, b] := rfl
theorem set1 {α : Type} {a b : α} (k : α) : ([a, b] : List α).set 1 k = [a, k] := rfl
theorem kids_of {S : ScpL} {n : NodeL} {d : Nat} (h0 : n.kids.length ≠ 0) (hf : formOk d n = true) (hb : belowO S n = none) : belowO (kidS S n n.split) n.kids[0]! = none ∧ belowO (kidS S n (opp n.split)) n.kids[1]! = none := by
 obtain ⟨e1, _⟩ := zER h0 hf;rw [zB6 (zIK hb) (zFZ e1)] at hb;cases h1 : belowO (kidS S n n.split) n.kids[0]! with
 | some p => rw [h1] at hb; cases hb
 | none => rw [h1] at hb; exact ⟨rfl, hb⟩
theorem zM7 {w : NodeL} : ∀ (p : List DecL) (n : NodeL) (S : ScpL) (d : Nat) (n' : NodeL), formOk d n = true → belowO S n = none → repF w n p = some n' → belowO S n' = belowO (scpAt S n p) w
 | [], n, S, d, n', _, _, h => by
   simp only [repF, Option.some.injEq] at h;subst h; rfl
 | e :: p, n, S, d, n', hf, hb, h => by
   simp only [repF] at h;cases hk : nextK n e with
   | none => rw [hk] at h; cases h
   | some i =>
     rw [hk] at h;simp only [Option.map_eq_some_iff] at h;obtain ⟨k', h1, h2⟩ := h;obtain ⟨h0, hi⟩ := next_of hf hk;obtain ⟨e1, e2, f0, f1, _⟩ := zER h0 hf;obtain ⟨b0, b1⟩ := kids_of h0 hf hb;have hr := zIK hb
     have hr' : rightP S n' := by
      rw [← h2];refine ⟨hr.1, ?_⟩;have h3 := hr.2;rw [if_neg h0] at h3;rw [if_neg (show ¬ (setKid n i k').kids.length = 0 by show ¬ (n.kids.set i k').length = 0; rw [List.length_set]; exact h0)];exact h3
     have hsc : scpAt S n (e :: p) = scpAt (kidS S n e) n.kids[i]! p := by simp only [scpAt, hk]
     rw [hsc];rcases hi with ⟨rfl, he⟩ | ⟨rfl, he⟩
     ·have hkids : n'.kids = [k', n.kids[1]!] := by
       rw [← h2]; show n.kids.set 0 k' = _
       conv => lhs; rw [zFZ e1]
       exact set0 k'
      have hs : n'.split = n.split := by rw [← h2]; rfl
      have hkS : ∀ x, kidS S n' x = kidS S n x := fun x => by rw [← h2]; rfl
      have ih := zM7 p n.kids[0]! (kidS S n n.split) (d - 1) k' f0 b0 h1;rw [zB6 hr' hkids, hs, hkS, hkS, ih, he];have e5 : belowO (kidS S n (opD' n.split)) n.kids[1]! = none := b1;rw [e5];cases belowO (scpAt (kidS S n n.split) n.kids[0]! p) w <;> rfl
     ·have hkids : n'.kids = [n.kids[0]!, k'] := by
       rw [← h2]; show n.kids.set 1 k' = _
       conv => lhs; rw [zFZ e1]
       exact set1 k'
      have hs : n'.split = n.split := by rw [← h2]; rfl
      have hkS : ∀ x, kidS S n' x = kidS S n x := fun x => by rw [← h2]; rfl
      have ih := zM7 p n.kids[1]! (kidS S n (opp n.split)) (d - 1) k' f1 b1 h1;rw [zB6 hr' hkids, hs, hkS, hkS, b0, he];exact ih
theorem scpAt_ok : ∀ (p : List DecL) (n : NodeL) (S : ScpL) (d : Nat) (m : NodeL), formOk d n = true → belowO S n = none → okScp S → atF n p = some m → okScp (scpAt S n p) ∧ belowO (scpAt S n p) m = none ∧ (scpAt S n p).q = S.q
 | [], n, S, d, m, _, hb, hS, h => by
   simp only [atF, Option.some.injEq] at h;subst h; exact ⟨hS, hb, rfl⟩
 | e :: p, n, S, d, m, hf, hb, hS, h => by
   simp only [atF] at h;cases hk : nextK n e with
   | none => rw [hk] at h; cases h
   | some i =>
     rw [hk] at h;obtain ⟨h0, hi⟩ := next_of hf hk;obtain ⟨e1, e2, f0, f1, _⟩ := zER h0 hf;obtain ⟨b0, b1⟩ := kids_of h0 hf hb;have hfit : fitD S.q n.split := by have := (zIK hb).2; rw [if_neg h0] at this; exact this
     have hsc : scpAt S n (e :: p) = scpAt (kidS S n e) n.kids[i]! p := by simp only [scpAt, hk]
     rw [hsc];rcases hi with ⟨rfl, rfl⟩ | ⟨rfl, rfl⟩
     ·exact scpAt_ok p n.kids[0]! _ (d - 1) m f0 b0 (zKQ hS hfit) h
     ·exact scpAt_ok p n.kids[1]! _ (d - 1) m f1 b1 (zKQ hS (fit_op hfit)) h
theorem zK8 : ∀ (p : List DecL) (n : NodeL) (S : ScpL) (d : Nat) (m : NodeL) (P V v c : Nat), formOk d n = true → belowO S n = none → szT S P V v c d → NodeZ P V v c n → atF n p = some m → ∃ c' d', szT (scpAt S n p) P V v c' d' ∧ NodeZ P V v c' m ∧ formOk d' m = true ∧ c' ≤ c
 | [], n, S, d, m, P, V, v, c, hf, hb, hS, hn, h => by
   simp only [atF, Option.some.injEq] at h;subst h; exact ⟨c, d, hS, hn, hf, Nat.le_refl _⟩
 | e :: p, n, S, d, m, P, V, v, c, hf, hb, hS, hn, h => by
   simp only [atF] at h;cases hk : nextK n e with
   | none => rw [hk] at h; cases h
   | some i =>
     rw [hk] at h;obtain ⟨h0, hi⟩ := next_of hf hk;obtain ⟨e1, e2, f0, f1, _⟩ := zER h0 hf;obtain ⟨b0, b1⟩ := kids_of h0 hf hb;have hcan : ∀ k, k < n.lemmas.length → CanR n.lemmas[k]!.value := fun k hk => ((zIK hb).1 k hk).2.1
     have hsc : scpAt S n (e :: p) = scpAt (kidS S n e) n.kids[i]! p := by simp only [scpAt, hk]
     rw [hsc];have m0 : n.kids[0]! ∈ n.kids := get_mem (by omega);have m1 : n.kids[1]! ∈ n.kids := get_mem (by omega);rcases hi with ⟨rfl, rfl⟩ | ⟨rfl, rfl⟩
     ·obtain ⟨c', d', g1, g2, g3, g4⟩ := zK8 p n.kids[0]! _ (d - 1) m P V v _ f0 b0 (hS.kid e2 hn hcan hn.spl) (hn.kid _ m0) h
      exact ⟨c', d', g1, g2, g3, by omega⟩
     ·obtain ⟨c', d', g1, g2, g3, g4⟩ := zK8 p n.kids[1]! _ (d - 1) m P V v _ f1 b1 (hS.kid e2 hn hcan (show okQ P (opp n.split).rat from hn.spl)) (hn.kid _ m1) h
      exact ⟨c', d', g1, g2, g3, by omega⟩
def lemsF : NodeL → List DecL → List LemL
 | n, [] => n.lemmas
 | n, d :: p => n.lemmas ++ (match nextK n d with
   | some i => lemsF n.kids[i]! p
   | none => [])
theorem lemsF_ge : ∀ (p : List DecL) (n m : NodeL), atF n p = some m → m.lemmas.length ≤ (lemsF n p).length
 | [], n, m, h => by simp only [atF, Option.some.injEq] at h; subst h; exact Nat.le_refl _
 | e :: p, n, m, h => by
   simp only [atF] at h;cases hk : nextK n e with
   | none => rw [hk] at h; cases h
   | some i =>
     rw [hk] at h;have := lemsF_ge p _ m h;simp only [lemsF, hk, List.length_append]; omega
theorem scpAt_eq : ∀ (p : List DecL) (n : NodeL) (S : ScpL) (m : NodeL), atF n p = some m → scpAt S n p = ⟨S.q, S.path ++ p, S.lems ++ (lemsF n p).take ((lemsF n p).length - m.lemmas.length)⟩
 | [], n, S, m, h => by
   simp only [atF, Option.some.injEq] at h;subst h;simp [scpAt, lemsF]
 | e :: p, n, S, m, h => by
   simp only [atF] at h;cases hk : nextK n e with
   | none => rw [hk] at h; cases h
   | some i =>
     rw [hk] at h;have h1 := scpAt_eq p n.kids[i]! (kidS S n e) m h;have h2 := lemsF_ge p _ m h;simp only [scpAt, lemsF, hk];rw [h1];simp only [kidS, List.append_assoc, List.cons_append, List.nil_append, List.length_append];rw [List.take_append, List.take_of_length_le (l := n.lemmas) (by omega), show n.lemmas.length + (lemsF n.kids[i]! p).length - m.lemmas.length - n.lemmas.length = (lemsF n.kids[i]! p).length - m.lemmas.length by omega]
theorem atF_mem : ∀ (k : Nat) (n : NodeL) (d : Nat) (p : List DecL) (m : NodeL), SizeOf.sizeOf n < k → formOk d n = true → (p, m) ∈ n.all → atF n p = some m := by
 intro k
 induction k with
 | zero => intro n d p m h; omega
 | succ k ih =>
   intro n d p m hk hf hm;by_cases h0 : n.kids.length = 0
   ·rw [n.all_eq, h0, n.upto_zero] at hm
    cases List.mem_singleton.1 hm
    rfl
   ·obtain ⟨e1, e2, f0, f1, k1, k4⟩ := zER h0 hf
    have hne := opp_ne k1 k4;rw [n.all_eq, e1, n.upto_succ (by omega), n.upto_succ (by omega), n.upto_zero] at hm;have s0 := NodeL.sizeOf_kid (get_mem (l := n.kids) (show 0 < n.kids.length by omega));have s1 := NodeL.sizeOf_kid (get_mem (l := n.kids) (show 1 < n.kids.length by omega));have c0 : kidD n 0 = n.split := rfl;have c1 : kidD n 1 = opp n.split := rfl;rcases List.mem_append.1 hm with hm | hm
    ·rcases List.mem_append.1 hm with hm | hm
     ·cases List.mem_singleton.1 hm; rfl
     ·obtain ⟨q, hq, e⟩ := List.mem_map.1 hm
      cases e
      have := ih _ (d - 1) q.1 q.2 (by omega) f0 hq;simp only [atF, zJ4 (show 0 < n.kids.length by omega) rfl];exact this
    ·obtain ⟨q, hq, e⟩ := List.mem_map.1 hm
     cases e
     have := ih _ (d - 1) q.1 q.2 (by omega) f1 hq
     have hn : nextK n (kidD n 1) = some 1 := by
      unfold nextK;rw [e1, c1];have e0 : ¬ kidD n 0 = opp n.split := by rw [c0]; exact fun e => hne e.symm
      simp [List.range_succ, e0, c1]
     simp only [atF, hn];exact this
theorem zFB : ∀ (k : Nat) (n : NodeL) (d e : Nat), SizeOf.sizeOf n < k → d ≤ e → formOk d n = true → formOk e n = true := by
 intro k
 induction k with
 | zero => intro n d e h; omega
 | succ k ih =>
   intro n d e hk hde hf;by_cases h0 : n.kids.length = 0
   ·rw [zCH h0] at hf ⊢; exact hf
   ·obtain ⟨e1, e2, f0, f1, k1, k4⟩ := zER h0 hf
    have s0 := NodeL.sizeOf_kid (get_mem (l := n.kids) (show 0 < n.kids.length by omega));have s1 := NodeL.sizeOf_kid (get_mem (l := n.kids) (show 1 < n.kids.length by omega));rw [zB4 e1] at hf ⊢;simp only [Bool.and_eq_true, decide_eq_true_eq] at hf ⊢;exact ⟨⟨hf.1.1, by omega⟩, ih _ _ _ (by omega) (by omega) f0, ih _ _ _ (by omega) (by omega) f1⟩
theorem form_wt : ∀ (k : Nat) (n : NodeL) (d : Nat), SizeOf.sizeOf n < k → formOk d n = true → formOk n.wt n = true := by
 intro k
 induction k with
 | zero => intro n d h; omega
 | succ k ih =>
   intro n d hk hf;by_cases h0 : n.kids.length = 0
   ·rw [zCH h0] at hf ⊢; exact hf
   ·obtain ⟨e1, e2, f0, f1, k1, k4⟩ := zER h0 hf
    have m0 := get_mem (l := n.kids) (show 0 < n.kids.length by omega);have m1 := get_mem (l := n.kids) (show 1 < n.kids.length by omega);have s0 := NodeL.sizeOf_kid m0;have s1 := NodeL.sizeOf_kid m1;have w0 := wt_kid m0;have w1 := wt_kid m1;rw [zB4 e1] at hf ⊢;simp only [Bool.and_eq_true, decide_eq_true_eq] at hf ⊢;exact ⟨⟨hf.1.1, by omega⟩, zFB _ _ _ _ (Nat.lt_succ_self _) (by omega) (ih _ _ (by omega) f0), zFB _ _ _ _ (Nat.lt_succ_self _) (by omega) (ih _ _ (by omega) f1)⟩
theorem form_rep {w : NodeL} {e : Nat} (hw : formOk e w = true) : ∀ (p : List DecL) (n n' : NodeL) (d : Nat), formOk d n = true → repF w n p = some n' → formOk (d + e) n' = true
 | [], n, n', d, _, h => by
   simp only [repF, Option.some.injEq] at h;subst h; exact zFB _ _ _ _ (Nat.lt_succ_self _) (by omega) hw
 | x :: p, n, n', d, hf, h => by
   simp only [repF] at h;cases hk : nextK n x with
   | none => rw [hk] at h; cases h
   | some i =>
     rw [hk] at h;simp only [Option.map_eq_some_iff] at h;obtain ⟨k', h1, h2⟩ := h;obtain ⟨h0, hi⟩ := next_of hf hk;obtain ⟨e1, e2, f0, f1, _⟩ := zER h0 hf;have hl : n'.kids.length = 2 := by rw [← h2]; show (n.kids.set i k').length = 2; rw [List.length_set]; exact e1
     have hin : innerOk n' = innerOk n := by
      rw [← h2]; unfold innerOk;have hs : (setKid n i k').kids.length = n.kids.length := by show (n.kids.set i k').length = _; rw [List.length_set]
      simp only [hs]; rfl
     have hio : innerOk n = true := by
      rw [zB4 e1] at hf;simp only [Bool.and_eq_true] at hf; exact hf.1.1
     rw [zB4 hl, hin, hio];simp only [Bool.and_eq_true, decide_eq_true_eq, Bool.true_and];refine ⟨by omega, ?_⟩;rcases hi with ⟨rfl, _⟩ | ⟨rfl, _⟩
     ·have hkids : n'.kids = [k', n.kids[1]!] := by
       rw [← h2]; show n.kids.set 0 k' = _
       conv => lhs; rw [zFZ e1]
       exact set0 k'
      have g := form_rep hw p _ k' (d - 1) f0 h1;rw [hkids];exact ⟨by rw [show d + e - 1 = d - 1 + e by omega]; exact g, zFB _ _ _ _ (Nat.lt_succ_self _) (by omega) f1⟩
     ·have hkids : n'.kids = [n.kids[0]!, k'] := by
       rw [← h2]; show n.kids.set 1 k' = _
       conv => lhs; rw [zFZ e1]
       exact set1 k'
      have g := form_rep hw p _ k' (d - 1) f1 h1;rw [hkids];exact ⟨zFB _ _ _ _ (Nat.lt_succ_self _) (by omega) f0, by rw [show d + e - 1 = d - 1 + e by omega]; exact g⟩
theorem cnt_tot : ∀ (k : Nat) (n : NodeL), SizeOf.sizeOf n < k → n.cnt = n.tot fun _ => 1 := by
 intro k
 induction k with
 | zero => intro n h; omega
 | succ k ih =>
   intro n h;rw [NodeL.cnt_eq, NodeL.tot_eq]
   congr 2
   exact List.map_congr_left fun x hx => ih x (by have := NodeL.sizeOf_kid hx; omega)
theorem set_sum {α : Type} [Inhabited α] (f : α → Nat) : ∀ (l : List α) (i : Nat) (x : α), i < l.length → ((l.set i x).map f).sum + f l[i]! = (l.map f).sum + f x
 | a :: l, 0, x, _ => by
   simp only [List.set_cons_zero, List.map_cons, List.sum_cons];have : (a :: l)[0]! = a := rfl;rw [this]; omega
 | a :: l, i + 1, x, h => by
   have := set_sum f l i x (by simpa using h);simp only [List.set_cons_succ, List.map_cons, List.sum_cons]
   have e : (a :: l)[i + 1]! = l[i]! := by
    rw [getElem!_pos (a :: l) (i + 1) h, getElem!_pos l i (by simpa using h)]; rfl
   rw [e]; omega
theorem tot_rep {w : NodeL} {f : NodeL → Nat} (hf : ∀ x i k, f (setKid x i k) = f x) : ∀ (p : List DecL) (n n' m : NodeL), atF n p = some m → repF w n p = some n' → n'.tot f + m.tot f = n.tot f + w.tot f
 | [], n, n', m, hm, h => by
   simp only [repF, Option.some.injEq] at h;simp only [atF, Option.some.injEq] at hm;subst h hm; omega
 | x :: p, n, n', m, hm, h => by
   simp only [repF] at h;simp only [atF] at hm;cases hk : nextK n x with
   | none => rw [hk] at h; cases h
   | some i =>
     rw [hk] at h hm;simp only [Option.map_eq_some_iff] at h;obtain ⟨k', h1, h2⟩ := h;have ih := tot_rep hf p _ k' m hm h1;have hl := (zHL hk).1;rw [← h2, NodeL.tot_eq f (setKid n i k'), hf, NodeL.tot_eq f n];have := set_sum (NodeL.tot f) n.kids i k' hl;show f n + ((n.kids.set i k').map (NodeL.tot f)).sum + _ = _
     omega
theorem NodeZ.more {P V v : Nat} : ∀ (k : Nat) (n : NodeL) (c c' : Nat), SizeOf.sizeOf n < k → c ≤ c' → NodeZ P V v c n → NodeZ P V v c' n := by
 intro k
 induction k with
 | zero => intro n c c' h; omega
 | succ k ih =>
   intro n c c' hk hc h;exact .mk v c' n h.val (by have := h.num; omega) h.lem h.spl h.prf fun x hx => ih x _ _ (by have := NodeL.sizeOf_kid hx; omega) (by omega) (h.kid x hx)
theorem nodeZ_rep {w : NodeL} {P V v e : Nat} (hw : NodeZ P V v e w) : ∀ (p : List DecL) (n n' : NodeL) (c : Nat), NodeZ P V v c n → repF w n p = some n' → NodeZ P V v (c + e) n'
 | [], n, n', c, _, h => by
   simp only [repF, Option.some.injEq] at h;subst h; exact hw.more _ _ _ _ (Nat.lt_succ_self _) (by omega)
 | x :: p, n, n', c, hn, h => by
   simp only [repF] at h;cases hk : nextK n x with
   | none => rw [hk] at h; cases h
   | some i =>
     rw [hk] at h;simp only [Option.map_eq_some_iff] at h;obtain ⟨k', h1, h2⟩ := h;have hl := (zHL hk).1;have hnum := hn.num;have ih := nodeZ_rep hw p _ k' _ (hn.kid _ (get_mem hl)) h1;rw [← h2];refine .mk v (c + e) _ hn.val (by show n.lemmas.length ≤ _; omega) hn.lem hn.spl hn.prf fun y hy => ?_
     have e3 : c + e - n.lemmas.length = c - n.lemmas.length + e := by omega
     rcases List.mem_or_eq_of_mem_set hy with hy | hy
     ·exact (hn.kid y hy).more _ _ _ _ (Nat.lt_succ_self _) (by show _ ≤ c + e - n.lemmas.length; omega)
     ·subst hy
      show NodeZ P V v (c + e - n.lemmas.length) y
      rw [e3]; exact ih
theorem rep_some {w n m : NodeL} {p : List DecL} (h : atF n p = some m) : ∃ n', repF w n p = some n' := by
 have := atF_rep w p n;rw [h] at this;cases hr : repF w n p with
 | some n' => exact ⟨n', rfl⟩
 | none => rw [hr] at this; cases this
end Go.PI.Tryz
namespace Go.PI.Tryz
open Go.Proofs Go.PI
theorem atF_app : ∀ (p q : List DecL) (n : NodeL), atF n (p ++ q) = (atF n p).bind fun m => atF m q
 | [], q, n => by simp [atF]
 | d :: p, q, n => by
   simp only [List.cons_append, atF];cases nextK n d with
   | none => rfl
   | some i => exact atF_app p q _
theorem lemsF_app : ∀ (p : List DecL) (n m : NodeL) (d : DecL) (i : Nat), atF n p = some m → nextK m d = some i → lemsF n (p ++ [d]) = lemsF n p ++ m.kids[i]!.lemmas
 | [], n, m, d, i, h, hn => by
   simp only [atF, Option.some.injEq] at h;subst h;simp [lemsF, hn]
 | e :: p, n, m, d, i, h, hn => by
   simp only [List.cons_append, lemsF, atF] at h ⊢;cases hk : nextK n e with
   | none => rw [hk] at h; cases h
   | some j =>
     rw [hk] at h;dsimp only at h ⊢;rw [lemsF_app p _ m d i h hn, List.append_assoc]
theorem lems_wt (n : NodeL) : n.lemmas.length + (n.kids.map NodeL.wt).sum ≤ n.wt := by
 rw [NodeL.wt_eq];have := zE8 n.lemmas;omega
theorem zHB : ∀ (p : List DecL) (n : NodeL), (lemsF n p).length ≤ n.wt
 | [], n => by have := lems_wt n; simp only [lemsF]; omega
 | d :: p, n => by
   have := lems_wt n;simp only [lemsF, List.length_append];cases hk : nextK n d with
   | none => simp; omega
   | some i =>
     dsimp only;have h1 := zHB p n.kids[i]!
     have h2 : n.kids[i]!.wt ≤ (n.kids.map NodeL.wt).sum := by
      have hlt := (zHL hk).1;have := @zIF _ _ NodeL.wt n.kids i hlt;have := @sum_take_le _ NodeL.wt n.kids (i + 1);omega
     omega
def zeroS : PV := .agg [.int .i64 0, .nilsl, .nilsl, .nilsl, .nilsl, .nilsl, .nilsl, .bool false, .nilsl, .nilsl, .nilsl, .nilsl]
theorem ok_refScope48 : FO 23 Tryz.f23 [.cell 6 68, .tmp 7] 49 := mkO Tryz.func23 Tryz.ntmps23 Tryz.results23
def rsH (q : QryL) (x : NodeL) (path : List DecL) : Nat → List (Nat × Blk)
 | 0 => [(0, ⟨[zeroS], 12, true⟩), (1, ⟨[.agg [.int .i64 q.g.ins, .imm (q.g.units.map encAff), .imm (q.g.outs.map encAff), .imm (q.r.lo.map encRat), .imm (q.r.hi.map encRat), .imm (q.r.rows.map encAff), .imm (q.goal.terms.map encTerm), .bool q.goal.const.neg, encN q.goal.const.num, encN q.goal.const.den, .own 2 0 path.length, .nilsl]], 12, true⟩), (2, ⟨path.map encDec, 5, true⟩)]
 | i + 1 => [(0, ⟨[zeroS], 12, true⟩), (1, ⟨[.agg [.int .i64 q.g.ins, .imm (q.g.units.map encAff), .imm (q.g.outs.map encAff), .imm (q.r.lo.map encRat), .imm (q.r.hi.map encRat), .imm (q.r.rows.map encAff), .imm (q.goal.terms.map encTerm), .bool q.goal.const.neg, encN q.goal.const.num, encN q.goal.const.den, .own 2 0 path.length, .own 3 0 (lemsF x (path.take i)).length]], 12, true⟩), (2, ⟨path.map encDec, 5, true⟩), (3, ⟨(lemsF x (path.take i)).map encLem, 6, true⟩)]
theorem c_refScope48 (q : QryL) (x : NodeL) (path : List DecL) (hs : x.Sm) (hw : x.wt < 2097151) (hp : smPath path) (hat0 : (atV x path).isSome = true) : Fn 23 [encQry q, nodeV x, .imm (path.map encDec)] (.data (.tup [encScp ⟨q, path, lemsF x path⟩, .bool true])) := by
 have hp1 := hp.1;have hat := c_refAt x path hs hw hp;rw [atL_V] at hat;refine zAJ hmix hT ok_refScope48 (by simp [encQry]) ?_;refine sns ?_;refine zAA hat rfl ?_
 (repeat' (first|refine stn ?_|(with_reducible refine brr ?_ ?_<;>intro h)|(with_reducible refine zAF ?_ ?_<;>intro h)|with_reducible refine zAL ?_ ?_)); all_goals try (conv=>whnf)
 ·have hv : atF x path = atV x path := by
   unfold atV at h ⊢
   split at h
   ·rename_i hx; rw [if_pos hx]
   ·cases h
  have hxv : x.valid = true := by
   unfold atV at h
   split at h
   ·assumption
   ·cases h
  refine zAN hT (fun i : Nat => [(2, .imm (path.map encDec)), (4, .ptr 4 0 0), (6, .ptr 0 0 0), (10, .ptr 1 0 0), (11, .int .i64 i)]) (fun i => rsH q x path i ++ [(4, ⟨[nodeV x], 9, true⟩)]) [] 5 (fun i => i ≤ path.length + 1) (fun i => path.length + 1 - i) 0 (by simp) (by decide) (by simp) ?_ ?_
  ·refine ⟨[2, 20, 18, 99, 1], [], [], [], ttt, ⟨zAE rfl rfl, apx, apx, apx, zAC rfl rfl, trivial⟩,
    ⟨bbx, zAQ (by decide) rfl ?_ rfl rfl, zAG (by decide) rfl (by simp) (zAM fun _ => ⟨rfl, by simp [encDec]⟩) rfl, bbx, trivial⟩, by simp [ren, rsH]⟩
   simp [rn_agg, rnL_cons, rnL_nil, rn_int, rn_imm, rn_bool, rn_own, rn_nilsl, ren]
  ·intro i hi
   have hsome : ∀ j, ∃ m, atF x (path.take j) = some m := fun j => by
    have h1 : (atF x (path.take j ++ path.drop j)).isSome = true := by rw [List.take_append_drop, hv]; exact h
    rw [atF_app] at h1;cases hk : atF x (path.take j) with
    | none => rw [hk] at h1; cases h1
    | some m => exact ⟨m, rfl⟩
   have hpt : smPath (path.take i) := ⟨by rw [List.length_take]; omega, fun d hd => hp.2 d (List.mem_of_mem_take hd)⟩;have hi1 := c_refAt x (path.take i) hs hw hpt;obtain ⟨m, hm⟩ := hsome i;have hmv : atV x (path.take i) = some m := by unfold atV; rw [if_pos hxv]; exact hm
   rw [atL_V, hmv] at hi1;have hi1 : Fn 60 [nodeV x, .imm ((path.take i).map encDec)] (.data (.tup [nodeV m, .bool true])) := hi1;cases i with
   | zero =>
     refine sns ?_;refine zB8 (l' := path.take 0) (by simp) ?_;refine sns ?_;refine zAA hi1 rfl ?_;refine sns ?_
     have hmx : m = x := by
      have : atF x (path.take 0) = some x := by rw [List.take_zero]; rfl
      rw [hm] at this; exact Option.some.inj this
     subst hmx;have hl1 := hs.lems.1;refine zBC (by rw [List.length_map]; omega) ?_;refine sns ?_
     refine ⟨1, ⟨by omega, by omega⟩, [0, 1, 2, 24, 4], [], [], [], ttt, ⟨zAE rfl rfl, apx, apx, apx, zAC rfl rfl, trivial⟩,
      ⟨bbx, zAQ (by decide) rfl ?_ rfl rfl, zAG (by decide) rfl rfl (zAM fun _ => ⟨rfl, by simp [encDec]⟩) rfl, zAG (by decide) rfl ?_ (zAM fun _ => ⟨rfl, by simp [encLem]⟩) rfl, bbx, trivial⟩, by simp [ren, rsH]⟩
     ·simp [rn_agg, rnL_cons, rnL_nil, rn_int, rn_imm, rn_bool, rn_own, ren, lemsF]
     ·simp [lemsF]
   | succ i =>
     obtain ⟨m', hm'⟩ := hsome i;have hll := zHB (path.take i) x;have hll1 := zHB (path.take (i + 1)) x
     (repeat' (first|refine stn ?_|(with_reducible refine brr ?_ ?_<;>intro h)|(with_reducible refine zAF ?_ ?_<;>intro h)|with_reducible refine zAL ?_ ?_)); all_goals try (conv=>whnf)
     ·have hi' : i < path.length := by omega
      have ht : path.take (i + 1) = path.take i ++ [path[i]!] := by rw [List.take_succ_eq_append_getElem hi', getElem!_pos path i hi']
      obtain ⟨j, hj, hmj⟩ : ∃ j, nextK m' path[i]! = some j ∧ m'.kids[j]! = m := by
       have h2 := hm;rw [ht, atF_app, hm'] at h2;simp only [Option.bind_some, atF] at h2;cases hk : nextK m' path[i]! with
       | none => rw [hk] at h2; cases h2
       | some j => rw [hk] at h2; exact ⟨j, rfl, Option.some.inj h2⟩
      have hlf := lemsF_app (path.take i) x m' path[i]! j hm' hj;rw [← ht, hmj] at hlf;have hlk := congrArg List.length hlf;rw [List.length_append] at hlk;refine zB8 (l' := path.take (i + 1)) (by simp) ?_;refine sns ?_;refine zAA hi1 rfl ?_;refine sns ?_
      refine ⟨i + 2, ⟨by omega, by omega⟩, [0, 1, 2, 24, 4], [], [], [], ttt, ⟨zAE rfl rfl, apx, apx, apx, zAC rfl (by omega), trivial⟩,
       ⟨bbx, zAQ (by decide) rfl ?_ rfl rfl, zAG (by decide) rfl rfl (zAM fun _ => ⟨rfl, by simp [encDec]⟩) rfl, zAG (by decide) rfl ?_ (zAM fun _ => ⟨rfl, by simp [encLem]⟩) rfl, bbx, trivial⟩, by simp [ren, rsH]⟩
      ·simp [rn_agg, rnL_cons, rnL_nil, rn_int, rn_imm, rn_bool, rn_own, ren, hlf]
      ·rw [hlf, List.map_append]
     ·have hi' : path.take i = path := List.take_of_length_le (by omega)
      refine zAB (zLK (zAD (zCT (zAD rfl (zAD rfl (zAD rfl (zAD rfl (zAD rfl (zAD rfl (zAD rfl (zAD rfl (zAD rfl (zAD rfl (zAD (zAK rfl rfl rfl (fun x => zMI x)) (zAD (zAK rfl rfl rfl (fun x => frz_lem x)) rfl))))))))))))) rfl)) ?_;rw [hi']; rfl
 ·have : (atV x path).isSome = false := by assumption
  rw [hat0] at this; cases this
end Go.PI.Tryz
namespace Go.PI.Tryz
open Go.Proofs Go.PI
structure treeB (w : NodeL) (Bw : Nat) : Prop where
 ok : w.NOk
 sm : w.Sm
 bk : w.bk ≤ Bw
 wt : w.wt ≤ Bw
theorem zJP {n : NodeL} (h : n.valid = true) : formOk 2048 n = true ∧ n.cnt ≤ 65536 := by
 unfold NodeL.valid at h;simp only [Bool.and_eq_true, decide_eq_true_eq] at h; exact h
theorem tree_ok {q : QryL} {n : NodeL} (h : (treeR q n).2 = 0) : n.valid = true ∧ VaQ q ∧ belowO ⟨q, [], []⟩ n = none := by
 unfold treeR at h
 split at h
 ·rename_i hv
  split at h
  ·rename_i hb; exact ⟨hv.1, hv.2, hb⟩
  ·cases h
 ·cases h
theorem local_of' {q : QryL} {n w m : NodeL} {P V v : Nat} {p : List DecL} (hq : szQ q P) (hvV : v ≤ V) (hB : P + 2 * V + 20 ≤ 20000000) (zn : NodeZ P V v 1000 n) (zw : NodeZ P V v 1000 w) (hsn : n.Sm) (hsw : w.Sm) (hn4 : n.wt ≤ 400) (hw4 : w.wt ≤ 1000) (hwv : w.valid = true) (ht : (treeR q n).2 = 0) (hm : (p, m) ∈ allV n) :
 ∃ (n' : NodeL) (S : ScpL), repV w n p = (n', 0) ∧ n'.valid = true ∧ inZ q n' P V v ∧ okScp S ∧ szT S P V v 1000 2048 ∧ szQ S.q P ∧ formOk 2048 w = true
   ∧ S = ⟨q, p, (lemsF n p).take ((lemsF n p).length - m.lemmas.length)⟩ ∧ belowO S m = none ∧ atV n p = some m ∧ treeR q n' = (match belowO S w with
     | none => ([], 0)
     | some p => (p, 12)) := by
 obtain ⟨hv, hva, hb⟩ := tree_ok ht;obtain ⟨hf, hcn⟩ := zJP hv;obtain ⟨hfw, hcw⟩ := zJP hwv;have hall : (p, m) ∈ n.all := by unfold allV at hm; rw [if_pos hv] at hm; exact hm
 have hat := atF_mem _ n 2048 p m (Nat.lt_succ_self _) hf hall;obtain ⟨n', hr⟩ := rep_some (w := w) hat;have hsmp := all_sm _ n (Nat.lt_succ_self _) hsn _ hall;have g1 := form_rep (form_wt _ w _ (Nat.lt_succ_self _) hfw) p n n' _ (form_wt _ n _ (Nat.lt_succ_self _) hf) hr;have g2 : formOk 2048 n' = true := zFB _ _ _ _ (Nat.lt_succ_self _) (by omega) g1;have g3 := tot_rep (f := fun _ => 1) (fun _ _ _ => rfl) p n n' m hat hr;rw [← cnt_tot _ n' (Nat.lt_succ_self _), ← cnt_tot _ n (Nat.lt_succ_self _), ← cnt_tot _ w (Nat.lt_succ_self _)] at g3;have c1 := cnt_wt _ n (Nat.lt_succ_self _);have c2 := cnt_wt _ w (Nat.lt_succ_self _)
 have hv' : n'.valid = true := by
  unfold NodeL.valid;rw [g2];simp only [Bool.true_and, decide_eq_true_eq]; omega
 have zn' := nodeZ_rep zw p n n' _ zn hr;have hS0 : okScp ⟨q, [], []⟩ := ⟨hva, fun d hd => by cases hd⟩
 have hnv : nvar ⟨q, [], []⟩ ≤ 1280 := by
  have h1 := hva.1.1;have h2 := hva.1.2.1;show q.g.ins + q.g.units.length ≤ 1280
  omega
 have hz0 : szT ⟨q, [], []⟩ P V v 1000 2048 :=
  ⟨hq.P1, hq.g.1.2, hq.r.1, hq.r.2.1, ⟨hq.r.2.2.2, hq.r.2.2.1⟩, hq.goal, (by show 0 + 2048 ≤ 1048576; omega), (fun d hd => by cases hd), (fun d hd => by cases hd), (fun d hd => by cases hd), ⟨hvV, fun m hm => by cases hm⟩, (by show 0 + 1000 ≤ 1048576; omega), by omega, hnv⟩
 obtain ⟨hSo, hSb, hSq⟩ := scpAt_ok p n ⟨q, [], []⟩ 2048 m hf hb hS0 hat;obtain ⟨c', d', hsz, hzm, _, _⟩ := zK8 p n ⟨q, [], []⟩ 2048 m _ _ _ _ hf hb hz0 zn hat;have hSe := scpAt_eq p n ⟨q, [], []⟩ m hat;have hpl : p.length ≤ n.wt := by have h := hsmp.2.2; dsimp only at h; omega
 have hlen : (scpAt ⟨q, [], []⟩ n p).path.length = p.length := by rw [hSe]; simp
 have hlm := zHB p n;have hsl : (scpAt ⟨q, [], []⟩ n p).lems.length ≤ n.wt := by rw [hSe]; simp only [List.nil_append, List.length_take]; omega
 have hsz2 : szT (scpAt ⟨q, [], []⟩ n p) P V v 1000 2048 :=
  ⟨hsz.P1, hsz.units, hsz.lo, hsz.hi, hsz.rows, hsz.goal, by rw [hlen]; omega, hsz.path, hsz.lems, hsz.can, hsz.val, by omega, hsz.B, hsz.nv⟩
 refine ⟨n', scpAt ⟨q, [], []⟩ n p, ?_, hv', ⟨hq, hvV, hB, zn'.more _ _ _ _ (Nat.lt_succ_self _) (by omega), ?_, by omega⟩, hSo, hsz2, by rw [hSq]; exact hq, hfw, by rw [hSe]; simp, hSb, ?_, ?_⟩
 ·unfold repV
  rw [hv, hwv, hr];simp [hv']
 ·have := repK_sm hsw hsn (path := p) (by rw [hr]; rfl)
  rw [repK_of hr] at this; exact this
 ·unfold atV; rw [if_pos hv]; exact hat
 ·have h1 := zM7 (w := w) p n ⟨q, [], []⟩ 2048 n' hf hb hr
  unfold treeR;rw [if_pos ⟨hv', hva⟩, h1];cases belowO (scpAt ⟨q, [], []⟩ n p) w <;> rfl
theorem local_of {q : QryL} {n w m : NodeL} {Bq Bn Bw : Nat} {p : List DecL} (hi : inB q n Bq Bn) (hw : treeB w Bw) (hB : Bq + Bn + Bw ≤ 1048590) (hn4 : n.wt ≤ 400) (hw4 : w.wt ≤ 400) (hwv : w.valid = true) (ht : (treeR q n).2 = 0) (hm : (p, m) ∈ allV n) :
 ∃ (n' : NodeL) (S : ScpL) (P V v c : Nat), repV w n p = (n', 0) ∧ n'.valid = true ∧ inZ q n' P V v ∧ okScp S ∧ szT S P V v c 2048 ∧ NodeZ P V v c w ∧ szQ S.q P ∧ P + 2 * V ≤ 20000000 ∧ formOk 2048 w = true
   ∧ S = ⟨q, p, (lemsF n p).take ((lemsF n p).length - m.lemmas.length)⟩ ∧ belowO S m = none ∧ atV n p = some m ∧ treeR q n' = (match belowO S w with
     | none => ([], 0)
     | some p => (p, 12)) := by
 have b1 := bk_eq n;have b2 := bk_eq w;have b3 := hi.bk;have b4 := hw.bk;have v1 := vl_tot n;have v2 := vl_tot w;have zn : NodeZ (Bq + n.tot spF + w.tot spF) (n.tot vlF + w.tot vlF) (n.tot uF + w.tot uF) 1000 n := zLF _ n _ (Nat.lt_succ_self _) hi.ok hn4 (by omega) (by omega) (by omega) (by omega) (by omega);have zw : NodeZ (Bq + n.tot spF + w.tot spF) (n.tot vlF + w.tot vlF) (n.tot uF + w.tot uF) 1000 w := zLF _ w _ (Nat.lt_succ_self _) hw.ok hw4 (by omega) (by omega) (by omega) (by omega) (by omega);obtain ⟨n', S, h1, h2, h3, h4, h5, h6, h7, h8, h9, h10, h11⟩ := local_of' (hi.q.le (by omega)) (by omega) (by omega) zn zw hi.sm hw.sm hn4 (by omega) hwv ht hm;exact ⟨n', S, _, _, _, 1000, h1, h2, h3, h4, h5, zw, h6, by omega, h7, h8, h9, h10, h11⟩
theorem zGH : FO 5 Tryz.f5 [.tmp 6] 136 := mkO Tryz.func5 Tryz.ntmps5 Tryz.results5
theorem zNJ (q : QryL) (n : NodeL) (x : List Int) (at' : Int) (w : NodeL) (Bq Bn Bw : Nat) (hi : inB q n Bq Bn) (hw : treeB w Bw) (hB : Bq + Bn + Bw ≤ 1048590) : Fn 5 [encCase q n x, .int .i64 at', nodeV w] (.data (.bool true)) := by
 obtain ⟨b, hb, cf⟩ := zKB hi;have hP : Bq ≤ 2000000 := by omega
 have hww := hw.wt;have hnw := hi.wt;have cl := c_lsize48 _ w 200 (Nat.lt_succ_self _) (by omega);have cv := zE0 q Bq hi.q (by omega);have cvw := zD2 w hw.sm;cases b with
 | false =>
   refine zAJ hmix hT zGH (by simp [encCase]) ?_;refine sns ?_;refine zAA zAX rfl ?_;refine sns ?_;refine zAA cf rfl ?_;refine sns ?_;refine zAA zAX rfl ?_;refine sns ?_;exact zAB rfl rfl
 | true =>
   obtain ⟨f1, f2, f3, f4⟩ := hb rfl;obtain ⟨_, t0⟩ := zD5 hi f4 (by omega);have call := c_all n hi.sm (by omega);have hlz := lsz_wt 200 _ w (Nat.lt_succ_self _);have hal := allV_len n;by_cases hg : VaQ q ∧ w.valid = true ∧ lsz 200 w ≤ 200 ∧ (treeR q n).2 = 0 ∧ 0 ≤ at' ∧ at' < (allV n).length
   ·obtain ⟨g1, g2, g3, g4, g5, g6⟩ := hg
    obtain ⟨j, rfl⟩ := Int.eq_ofNat_of_zero_le g5;have hj : j < (allV n).length := by omega
    have hmem : ((allV n)[j]!.1, (allV n)[j]!.2) ∈ allV n := by rw [getElem!_pos _ j hj]; exact List.getElem_mem _
    obtain ⟨n', S, P, V, v, c, r1, r2, r3, r4, r5, r6, r7, r8, r9, r10, r11, r12, r13⟩ := local_of hi hw hB f4 (by have := hlz g3; omega) g2 g4 hmem;have hsm := allV_sm hi.sm (by omega) hmem;have crep := zHH w n (allV n)[j]!.1 hi.sm hw.sm (by omega) hsm.2.1;rw [r1] at crep;have csc := c_refScope48 q n (allV n)[j]!.1 hi.sm (by omega) hsm.2.1 (by rw [r12]; rfl)
    have cbl := c_below48 _ w S P V v c 2048 (Nat.lt_succ_self _) hw.sm r9 r4 r5 r6 r7 r8 (by
     have : nvar S = q.g.ins + q.g.units.length := by rw [r10]; rfl
     omega)
    have ct := (r3.trees (by omega)).1;have hge := lemsF_ge (allV n)[j]!.1 n (allV n)[j]!.2 (by unfold atV at r12; rw [if_pos (tree_ok g4).1] at r12; exact r12);have hlf := zHB (allV n)[j]!.1 n;rw [dB_true.2 g1] at cv;rw [g2] at cvw;rw [r10] at cbl r13;generalize treeR q n = R at *
    generalize hvis : (allV n)[j]! = vis at *
    refine zAJ hmix hT zGH (by simp [encCase]) ?_;refine sns ?_;refine zAA zAX rfl ?_;refine sns ?_;refine zAA cf rfl ?_;refine sns ?_;refine zAA cl rfl ?_
    (repeat' (first|refine stn ?_|(with_reducible refine brr ?_ ?_<;>intro h)|(with_reducible refine zAF ?_ ?_<;>intro h)|with_reducible refine zAL ?_ ?_)); all_goals try (conv=>whnf)
    all_goals try (exfalso; omega)
    refine zAA cv rfl ?_;refine sns ?_;refine zAA cvw rfl ?_;refine sns ?_;refine zBZ call rfl ?_;refine sns ?_;refine zAA t0 rfl ?_
    (repeat' (first|refine stn ?_|(with_reducible refine brr ?_ ?_<;>intro h)|(with_reducible refine zAF ?_ ?_<;>intro h)|with_reducible refine zAL ?_ ?_)); all_goals try (conv=>whnf)
    all_goals try (exfalso; omega)
    refine zBN (f := encVis) (l := allV n) j (by omega) hj ?_;refine sns ?_;rw [hvis];refine zAA crep rfl ?_;refine sns ?_;refine zBN (f := encVis) (l := allV n) j (by omega) hj ?_;refine sns ?_;rw [hvis];refine zAA csc rfl ?_;refine sns ?_;refine zBN (f := encVis) (l := allV n) j (by omega) hj ?_;refine sns ?_;rw [hvis];refine sns ?_;refine zB8 (f := encLem) (l := lemsF n vis.1) (l' := (lemsF n vis.1).take ((lemsF n vis.1).length - vis.2.lemmas.length)) (by simp only [List.length_map]; rw [show (0 : Int).toNat = 0 from rfl, List.drop_zero]; congr 1; omega) ?_;refine sns ?_;unfold belV at cbl;cases hbo : belowO ⟨q, vis.1, (lemsF n vis.1).take ((lemsF n vis.1).length - vis.2.lemmas.length)⟩ w with
    | none =>
      rw [hbo] at cbl r13;rw [r13] at ct;refine zAA cbl rfl ?_;refine sns ?_;refine zAA ct rfl ?_;refine sns ?_;exact zAB rfl rfl
    | some p' =>
      rw [hbo] at cbl r13;rw [r13] at ct;have hps : smPath p' := by have := tree_sm (q := q) (n := n') r3.sm; rw [r13] at this; exact this
      have cs := zHQ p' p' hps;rw [decide_eq_true rfl] at cs;refine zAA cbl rfl ?_;refine sns ?_;refine zAA ct rfl ?_;refine sns ?_;refine zAA cs rfl ?_;refine sns ?_;exact zAB rfl rfl
   ·have hg' : VaQ q → w.valid = true → lsz 200 w ≤ 200 → (treeR q n).2 = 0 → 0 ≤ at' → ¬ at' < (allV n).length := fun a1 a2 a3 a4 a5 a6 => hg ⟨a1, a2, a3, a4, a5, a6⟩
    generalize treeR q n = R at *
    generalize hdv : dB (VaQ q) = dv at *
    generalize hwv : w.valid = wv at *
    generalize lsz 200 w = lw at *
    refine zAJ hmix hT zGH (by simp [encCase]) ?_;refine sns ?_;refine zAA zAX rfl ?_;refine sns ?_;refine zAA cf rfl ?_;refine sns ?_;refine zAA cl rfl ?_
    (repeat' (first|refine stn ?_|(with_reducible refine brr ?_ ?_<;>intro h)|(with_reducible refine zAF ?_ ?_<;>intro h)|with_reducible refine zAL ?_ ?_)); all_goals try (conv=>whnf)
    ·refine zAA zAX rfl ?_
     refine sns ?_;exact zAB rfl rfl
    refine zAA cv rfl ?_
    (repeat' (first|refine stn ?_|(with_reducible refine brr ?_ ?_<;>intro h)|(with_reducible refine zAF ?_ ?_<;>intro h)|with_reducible refine zAL ?_ ?_)); all_goals try (conv=>whnf)
    rotate_left
    ·refine zAA zAX rfl ?_
     refine sns ?_;exact zAB rfl rfl
    refine zAA cvw rfl ?_
    (repeat' (first|refine stn ?_|(with_reducible refine brr ?_ ?_<;>intro h)|(with_reducible refine zAF ?_ ?_<;>intro h)|with_reducible refine zAL ?_ ?_)); all_goals try (conv=>whnf)
    rotate_left
    ·refine zAA zAX rfl ?_
     refine sns ?_;exact zAB rfl rfl
    refine zBZ call rfl ?_;refine sns ?_;refine zAA t0 rfl ?_
    (repeat' (first|refine stn ?_|(with_reducible refine brr ?_ ?_<;>intro h)|(with_reducible refine zAF ?_ ?_<;>intro h)|with_reducible refine zAL ?_ ?_)); all_goals try (conv=>whnf)
    ·exact zAB rfl rfl
    ·exact zAB rfl rfl
    ·exact zAB rfl rfl
    exact absurd (show at' < (allV n).length by omega) (hg' (dB_true.1 (hdv.trans (by assumption))) (by assumption) (by omega) (by omega) (by omega))
end Go.PI.Tryz
