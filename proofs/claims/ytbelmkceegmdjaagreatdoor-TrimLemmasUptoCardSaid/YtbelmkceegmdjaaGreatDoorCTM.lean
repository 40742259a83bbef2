/-
  The program's Lemmas.
-/
import Derived.Test.YtbelmkceegmdjaaGreatDoorCNA
import Derived.Test.YtbelmkceegmdjaaGreatDoorCPE
import Derived.Test.YtbelmkceegmdjaaGreatDoorCTR
set_option linter.unusedVariables false
set_option linter.unusedSimpArgs false
set_option linter.unnecessarySimpa false
namespace Go.PI.Tryz
open Go.Proofs Go.PI
def vKS (r : RowL) : Prop := (-9223372036854775808 ≤ r.lo ∧ r.lo < 9223372036854775808) ∧ (-9223372036854775808 ≤ r.hi ∧ r.hi < 9223372036854775808)
def vPZ (r : RowL) : Prop := -9223372036854775808 ≤ r.index ∧ r.index < 9223372036854775808
def vCG (l : List MultL) : Prop := l.length < 2097152 ∧ ∀ m ∈ l, vKS m.row ∧ vPZ m.row
abbrev vSC (m : Nat) : PV := .raw (.map (some m))
theorem uGL : Tryz.prog.underlying 78 = some (.map 3 4) := by kernel_rfl
theorem uH8 : Tryz.prog.underlying 3 = some (.int .i64) := by kernel_rfl
def uIN (ks : List Int) (m : Nat) (l : List MultL) (μ : Mp) : Prop := ∃ es clock ks', μ = [(m, .map es clock)] ∧ IsSet ks' es clock ∧ ∀ k, k ∈ ks' ↔ k ∈ ks ∨ k ∈ vC3 l
theorem vOZ {l : List MultL} {i : Nat} (h : i < l.length) : vC3 (l.take (i + 1)) = vC3 (l.take i) ++ vC3 [l[i]!] := by
 rw [List.take_succ_eq_append_getElem h, getElem!_pos l i h];unfold vC3;rw [List.flatMap_append]
def vIV (vs : List Int) : List Int := vs.flatMap fun v => if 0 < v then [v - 1] else []
theorem vPC (m : MultL) : vC3 [m] = vIV [m.row.lo, m.row.hi] := by simp [vC3, vIV]
theorem uB2 : FO 53 Tryz.f53 [] 31 := mkO Tryz.func53 Tryz.ntmps53 Tryz.results53
theorem uGU (m : Nat) (es : Array MapEntry) (clock : Nat) (ks : List Int) (l : List MultL) (hs : IsSet ks es clock) (hl : vCG l) (t : Tm) :
 FnM Tryz.prog G0 53 [vSC m, .imm (l.map vBA)] (fun pv s' μ' => pv = .tup [] ∧ uIN ks m l μ') ⟨t, fun _ => none, fun _ => false, 0⟩ [(m, .map es clock)] := by
 refine uEH vBC uB2 (by simp) ?_;refine zAQ (zBF vBC hT (by kernel_rfl) ?_);refine sts ?_;refine vCR (zBU ?_)
 refine zE6 (fun ((i, _) : Nat × Array MapEntry × Nat × List Int) => [(0, vSC m), (8, .imm (l.map vBA)), (9, .int .i64 l.length), (10, .int .i64 i)]) (fun _ => []) [] 0 (fun ((_, es, clock, _) : Nat × Array MapEntry × Nat × List Int) => [(m, .map es clock)])
  (fun ((i, es, clock, ks') : Nat × Array MapEntry × Nat × List Int) => i ≤ l.length ∧ IsSet ks' es clock ∧ ∀ k, k ∈ ks' ↔ k ∈ ks ∨ k ∈ vC3 (l.take i)) (fun ((i, _) : Nat × Array MapEntry × Nat × List Int) => l.length - i) (0, es, clock, ks) ⟨by simp, hs, by simp [vC3]⟩ (by decide) (by simp) ?_ rfl ?_
 ·exact ⟨[], [], [], [], ttt, ⟨zCY rfl, zAE rfl rfl, zAC rfl (by simp), zAC rfl rfl, trivial⟩, trivial, by simp [ren]⟩
 rintro ⟨i, es, clock, ks'⟩ ⟨hi, hs, hk⟩
 dsimp only at hi hs hk ⊢;refine zAQ (zBF vBC hT (by kernel_rfl) ?_);refine sts ?_;refine vCR (zAQ (zBF vBC hT (by kernel_rfl) ?_))
 (repeat' (first|refine stp ?_|with_reducible(refine brr ?_ ?_<;>intro h)));all_goals try(conv=>whnf)
 ·have hi' : i < l.length := by omega
  have hr := (hl.2 _ (zA1 hi')).1;have hln : l.length < 2097152 := hl.1;unfold vKS at hr;refine vCR (zAQ (zBU ?_));refine zAQ (zBF vBC hT (by kernel_rfl) ?_);refine sts ?_;refine vCR (zAQ (zBF vBC hT (by kernel_rfl) ?_));refine sts ?_;refine vCR (zBU ?_)
  refine zE6 (fun ((j, _) : Nat × Array MapEntry × Nat × List Int) => [(0, vSC m), (8, .imm (l.map vBA)), (9, .int .i64 l.length), (10, .int .i64 i), (20, .agg [.int .i64 l[i]!.row.lo, .int .i64 l[i]!.row.hi]), (21, .int .i64 j)]) (fun _ => []) [] 0 (fun ((_, es, clock, _) : Nat × Array MapEntry × Nat × List Int) => [(m, .map es clock)])
   (fun ((j, es, clock, ks2) : Nat × Array MapEntry × Nat × List Int) => j ≤ 2 ∧ IsSet ks2 es clock ∧ ∀ k, k ∈ ks2 ↔ k ∈ ks' ∨ k ∈ vIV ([l[i]!.row.lo, l[i]!.row.hi].take j)) (fun ((j, _) : Nat × Array MapEntry × Nat × List Int) => 2 - j) (0, es, clock, ks') ⟨by simp, hs, by simp [vIV]⟩ (by decide) (by simp) ?_ rfl ?_
  ·exact ⟨[], [], [], [], ttt, ⟨zCY rfl, zAE rfl rfl, zAC rfl rfl, zAC rfl rfl, vJ6 rfl ⟨rfl, rfl, trivial⟩, zAC rfl rfl, trivial⟩, trivial, by simp [ren]⟩
  rintro ⟨j, es2, clock2, ks2⟩ ⟨hj, hs2, hk2⟩
  dsimp only at hj hs2 hk2 ⊢;refine zAQ (zBF vBC hT (by kernel_rfl) ?_);refine sts ?_;refine vCR (zAQ (zBF vBC hT (by kernel_rfl) ?_));obtain rfl | rfl | rfl : j = 0 ∨ j = 1 ∨ j = 2 := by omega
  all_goals ((refine sts ?_))
  all_goals try (exfalso; omega)
  ·refine vCR (zAQ (zBU ?_))
   refine zAQ (zBF vBC hT (by kernel_rfl) ?_);refine sts ?_;refine vCR (zAQ (zBF vBC hT (by kernel_rfl) ?_));refine sts ?_;refine vCR (zHZ (t := decide (0 < l[i]!.row.lo)) rfl rfl (fun hp => ?_) (fun hp => ?_))
   ·rw [decide_eq_true_eq] at hp
    refine zBT (zF5 hT 3 rfl ?_);refine sts ?_;refine zHT (k := l[i]!.row.lo - 1) (μ1 := []) (μ2 := []) rfl rfl rfl rfl rfl rfl uGL uH8 hs2 fun es3 clock3 hs3 => zCO ?_
    refine vCR (zBF vBC hT (by kernel_rfl) ?_);refine sts ?_;refine ⟨(1, es3, clock3, vYI ks2 (l[i]!.row.lo - 1)), ⟨⟨by omega, hs3, fun k => ?_⟩, by omega⟩, ⟨[], [], [], [], ttt, ⟨zCY rfl, zAE rfl rfl, zAC rfl rfl, zAC rfl rfl, vJ6 rfl ⟨rfl, rfl, trivial⟩, zAC rfl rfl, trivial⟩, trivial, by simp [ren]⟩, rfl⟩;rw [vGX, hk2]
    revert hp
    generalize l[i]!.row.lo = v;generalize l[i]!.row.hi = u;intro hp;simp [vIV, hp, or_assoc]
   ·rw [decide_eq_false_iff_not] at hp
    refine zHY (vCR (zBF vBC hT (by kernel_rfl) ?_));refine sts ?_;refine ⟨(1, es2, clock2, ks2), ⟨⟨by omega, hs2, fun k => ?_⟩, by omega⟩, ⟨[], [], [], [], ttt, ⟨zCY rfl, zAE rfl rfl, zAC rfl rfl, zAC rfl rfl, vJ6 rfl ⟨rfl, rfl, trivial⟩, zAC rfl rfl, trivial⟩, trivial, by simp [ren]⟩, rfl⟩;rw [hk2]
    revert hp
    generalize l[i]!.row.lo = v;generalize l[i]!.row.hi = u;intro hp;simp [vIV, hp]
  ·refine vCR (zAQ (zBU ?_))
   refine zAQ (zBF vBC hT (by kernel_rfl) ?_);refine sts ?_;refine vCR (zAQ (zBF vBC hT (by kernel_rfl) ?_));refine sts ?_;refine vCR (zHZ (t := decide (0 < l[i]!.row.hi)) rfl rfl (fun hp => ?_) (fun hp => ?_))
   ·rw [decide_eq_true_eq] at hp
    refine zBT (zF5 hT 3 rfl ?_);refine sts ?_;refine zHT (k := l[i]!.row.hi - 1) (μ1 := []) (μ2 := []) rfl rfl rfl rfl rfl rfl uGL uH8 hs2 fun es3 clock3 hs3 => zCO ?_
    refine vCR (zBF vBC hT (by kernel_rfl) ?_);refine sts ?_;refine ⟨(2, es3, clock3, vYI ks2 (l[i]!.row.hi - 1)), ⟨⟨by omega, hs3, fun k => ?_⟩, by omega⟩, ⟨[], [], [], [], ttt, ⟨zCY rfl, zAE rfl rfl, zAC rfl rfl, zAC rfl rfl, vJ6 rfl ⟨rfl, rfl, trivial⟩, zAC rfl rfl, trivial⟩, trivial, by simp [ren]⟩, rfl⟩;rw [vGX, hk2]
    revert hp
    generalize l[i]!.row.lo = v;generalize l[i]!.row.hi = u;intro hp;simp [vIV, hp, or_assoc]
   ·rw [decide_eq_false_iff_not] at hp
    refine zHY (vCR (zBF vBC hT (by kernel_rfl) ?_));refine sts ?_;refine ⟨(2, es2, clock2, ks2), ⟨⟨by omega, hs2, fun k => ?_⟩, by omega⟩, ⟨[], [], [], [], ttt, ⟨zCY rfl, zAE rfl rfl, zAC rfl rfl, zAC rfl rfl, vJ6 rfl ⟨rfl, rfl, trivial⟩, zAC rfl rfl, trivial⟩, trivial, by simp [ren]⟩, rfl⟩;rw [hk2]
    revert hp
    generalize l[i]!.row.lo = v;generalize l[i]!.row.hi = u;intro hp;simp [vIV, hp]
  ·refine vCR (zBF vBC hT (by kernel_rfl) ?_)
   refine sts ?_;refine ⟨(i + 1, es2, clock2, ks2), ⟨⟨by omega, hs2, fun k => ?_⟩, by omega⟩, ⟨[], [], [], [], ttt, ⟨zCY rfl, zAE rfl rfl, zAC rfl rfl, zAC rfl (by omega), trivial⟩, trivial, by simp [ren]⟩, rfl⟩;rw [hk2, hk, vOZ hi', vPC, List.mem_append, or_assoc];rfl
 ·exact ⟨_, rfl, rfl, _, _, _, rfl, hs, by
   rw [show i = l.length by omega, List.take_length] at hk
   exact hk⟩
mutual
def vCA : NodeL → Int → List (List Bool)
 | .mk l s ks e p, b => ownB l ks p b :: vBL ks (b + l.length)
def vBL : List NodeL → Int → List (List Bool)
 | [], _ => []
 | k :: ks, b => vCA k b ++ vBL ks b
end
abbrev vZU (bs : List Bool) : PV := .imm (bs.map .bool)
abbrev vDF (ls : List (List Bool)) : List PV := ls.map vZU
inductive NodeRg : NodeL → Prop
 | mk (n : NodeL) (h1 : n.lemmas.length < 2097152) (h2 : ∀ m ∈ n.lemmas, vCG m.proof) (h3 : vCG n.proof) (h4 : n.kids.length < 2097152) (h5 : ∀ k ∈ n.kids, NodeRg k) : NodeRg n
theorem NodeRg.ln {n : NodeL} (h : NodeRg n) : n.lemmas.length < 2097152 := by cases h; assumption
theorem NodeRg.lem {n : NodeL} (h : NodeRg n) : ∀ m ∈ n.lemmas, vCG m.proof := by cases h; assumption
theorem NodeRg.prf {n : NodeL} (h : NodeRg n) : vCG n.proof := by cases h; assumption
theorem NodeRg.kn {n : NodeL} (h : NodeRg n) : n.kids.length < 2097152 := by cases h; assumption
theorem NodeRg.kid {n : NodeL} (h : NodeRg n) : ∀ k ∈ n.kids, NodeRg k := by cases h; assumption
def frK (e : PV) : Prop := (∃ u, e = .raw u) ∨ ∃ es, e = .imm es
theorem frK.nr {e : PV} (h : frK e) : nr 3 e = true ∧ e ≠ .any := by rcases h with ⟨u, rfl⟩ | ⟨u, rfl⟩ <;> exact ⟨rfl, by simp⟩
theorem frK.frz {e : PV} (h : frK e) (hp : Hp) (n : Nat) : frz hp n e = some (e, []) := by rcases h with ⟨u, rfl⟩ | ⟨u, rfl⟩ <;> cases n <;> rfl
theorem frK.rn {e : PV} (h : frK e) (ρ : Nat → Nat) (k : Nat) : rn ρ k 3 e e := by
 rcases h with ⟨u, rfl⟩ | ⟨u, rfl⟩
 ·rw [vZW]
 ·rw [vR1]
theorem vR3 {f : PV → PV → Prop} : ∀ {a a' b b' : List PV}, rnL f a a' → rnL f b b' → rnL f (a ++ b) (a' ++ b')
 | [], [], _, _, _, h => h
 | _ :: _, _ :: _, _, _, h, h2 => ⟨h.1, vR3 h.2 h2⟩
 | [], _ :: _, _, _, h, _ => h.elim
 | _ :: _, [], _, _, h, _ => h.elim
theorem vR2 {ρ : Nat → Nat} {k : Nat} : ∀ {l : List PV}, (∀ e ∈ l, frK e) → rnL (rn ρ k 3) l l
 | [], _ => trivial
 | e :: l, h => ⟨(h e (by simp)).rn ρ k, vR2 fun x hx => h x (by simp [hx])⟩
theorem zB0 {ls : List (List Bool)} : ∀ e ∈ vDF ls, frK e := fun e he => by obtain ⟨x, _, rfl⟩ := List.mem_map.1 he; exact Or.inr ⟨_, rfl⟩
theorem zE3 {ρ : Nat → Nat} {k : Nat} {Z : List Nat} {r p p' n n' : Nat} {pre post els' : List PV} {h : Hp} {z : Fz} (hr : r < k) (hb : h (ρ r) = some ⟨els', 1, false⟩) (he : els' = pre ++ .own p' 0 n' :: post) (hp : p < k) (e : p' = ρ p) (en : n' = n) (hpre : ∀ e ∈ pre, frK e) (hpost : ∀ e ∈ post, frK e) (hz : vNI Z r = z (ρ r)) :
 vQC ρ k Z r ⟨pre ++ .own p 0 n :: post, 1, false⟩ h z := by
 subst he e en;refine ⟨hr, fun e he => ?_, ⟨_, hb, rfl, rfl, Or.inr (vR3 (vR2 hpre) ⟨by rw [zCT]; exact ⟨hp, rfl⟩, vR2 hpost⟩)⟩, hz⟩;simp only [List.mem_append, List.mem_cons] at he;rcases he with he | rfl | he
 ·exact (hpre e he).nr.2
 ·simp
 ·exact (hpost e he).nr.2
theorem zC6 {h : Hp} {n r : Nat} {d : NodeL} {sz : Nat} {agg : Bool} (hb : h r = some ⟨[vA7 d], sz, agg⟩) : frz h (n + 2) (.ptr r 0 0) = some (.cptr (vA7 d) 0, [r]) := by
 have he : frz h (n + 1) (vA7 d) = some (vA7 d, []) := by rw [← zBJ]; exact zG8 d
 unfold frz;simp only [hb, List.getElem?_cons_zero, he]
def uI9 (n : NodeL) (b : Int) (pre : List PV) (pv : PV) (s' : St) (μ' : Mp) : Prop :=
 (∃ m es clock ks, pv = vSC m ∧ μ' = [(m, .map es clock)] ∧ IsSet ks es clock ∧ ∀ k, k ∈ ks ↔ k ∈ vH3 n b) ∧ nr 3 pv = true ∧ ∃ k', k' ≠ 0 ∧ k' < s'.nx ∧ s'.h 0 = some ⟨[.own k' 0 (pre.length + (vCA n b).length)], 1, false⟩ ∧ s'.h k' = some ⟨pre ++ vDF (vCA n b), 1, false⟩ ∧ s'.z 0 = false ∧ s'.z k' = false
abbrev vM5 (b : Int) (n : NodeL) (i : Nat) : List Int := vC3 n.proof ++ vDD (n.kids.take i) (b + n.lemmas.length)
theorem vG6 {ks : List NodeL} {i : Nat} (h : i < ks.length) : ((ks.take i).map NodeL.wt).sum + ks[i]!.wt ≤ (ks.map NodeL.wt).sum := by
 have := zFJ (f := NodeL.wt) h;have := sum_take_le (f := NodeL.wt) (l := ks) (i := i + 1);omega
theorem zKQ : ∀ (l : List LemL), l.length ≤ (l.map vDI).sum
 | [] => by simp
 | m :: l => by have := zKQ l; simp [vDI]; omega
mutual
theorem vI8 : ∀ (n : NodeL) (b : Int), (vCA n b).length ≤ n.wt
 | .mk l s ks e p, b => by
   have := zG6 ks (b + l.length);rw [NodeL.wt_eq];simp only [vCA, List.length_cons, NodeL.lemmas, NodeL.proof, NodeL.kids];omega
theorem zG6 : ∀ (ks : List NodeL) (b : Int), (vBL ks b).length ≤ (ks.map NodeL.wt).sum
 | [], _ => by simp [vBL]
 | k :: ks, b => by
   have h1 := vI8 k b;have h2 := zG6 ks b;simp only [vBL, List.length_append, List.map_cons, List.sum_cons];omega
end
theorem zM5 : ∀ (ks ks' : List NodeL) (b : Int), vBL (ks ++ ks') b = vBL ks b ++ vBL ks' b
 | [], _, _ => rfl
 | k :: ks, ks', b => by simp only [List.cons_append, vBL, zM5 ks ks' b, List.append_assoc]
theorem vH4 : ∀ (ks ks' : List NodeL) (b : Int), vDD (ks ++ ks') b = vDD ks b ++ vDD ks' b
 | [], _, _ => rfl
 | k :: ks, ks', b => by simp only [List.cons_append, vDD, vH4 ks ks' b, List.append_assoc]
theorem zLM {ks : List NodeL} {i : Nat} (h : i < ks.length) (b : Int) : vBL (ks.take (i + 1)) b = vBL (ks.take i) b ++ vCA ks[i]! b := by
 rw [List.take_succ_eq_append_getElem h, getElem!_pos ks i h, zM5];simp [vBL]
theorem vO0 {ks : List NodeL} {i : Nat} (h : i < ks.length) (b : Int) : vDD (ks.take (i + 1)) b = vDD (ks.take i) b ++ vH3 ks[i]! b := by
 rw [List.take_succ_eq_append_getElem h, getElem!_pos ks i h, vH4];simp [vDD]
theorem FnM.args {f : FuncId} {args args' : List PV} {K : PV → St → Mp → Prop} {s : St} {μ : Mp} (e : args = args') (h : FnM Tryz.prog G0 f args' K s μ) : FnM Tryz.prog G0 f args K s μ := e ▸ h
theorem uHW {a b b' c : PV} (h : b = b') : [a, b, c] = [a, b', c] := h ▸ rfl
abbrev uJY (it : Nat) : PV := .raw (.pointer (some ⟨it, 0, none⟩))
theorem vLM {h : Hp} {n : Nat} : ∀ {l : List PV}, (∀ e ∈ l, frK e) → vBW (frz h n) l = some (l, [])
 | [], _ => rfl
 | e :: l, hl => zAG ((hl e (by simp)).frz h n) (vLM fun x hx => hl x (by simp [hx]))
theorem vNJ {f : PV → Option (PV × List Nat)} : ∀ {l a l' b : List PV} {ks ls : List Nat}, vBW f l = some (a, ks) → vBW f l' = some (b, ls) → vBW f (l ++ l') = some (a ++ b, ks ++ ls)
 | [], a, l', b, ks, ls, h, h2 => by simp [vBW] at h; obtain ⟨rfl, rfl⟩ := h; exact h2
 | x :: l, a, l', b, ks, ls, h, h2 => by
   unfold vBW at h
   split at h
   ·rename_i d ks1 ds ls1 e1 e2
    cases h
    have := zAG e1 (vNJ e2 h2);rw [List.append_assoc];exact this
   ·cases h
theorem uID : (Tryz.prog.info? 4).bind (·.zero) = some (.bool false) := by kernel_rfl
theorem uIE (w : World) : (zeroValue 4).run Tryz.prog w = .ok (.bool false) w := by
 obtain ⟨i, hi, hz⟩ := Option.bind_eq_some_iff.1 uID;simp [zeroValue, typeInfo, hi, hz, Result.andThen]
abbrev vDP (b : Int) (n : NodeL) (j : Nat) : List Bool × List Int := keepR (n.lemmas.drop j) (b + j) (vC3 n.proof ++ vDD n.kids (b + n.lemmas.length))
abbrev vSN (b : Int) (n : NodeL) (j : Nat) : List PV := List.replicate j (.bool false) ++ (vDP b n j).1.map .bool
theorem uCO : FO 35 Tryz.f35 [.tmp 6] 86 := mkO Tryz.func35 Tryz.ntmps35 Tryz.results35
theorem uGV : ∀ (sz : Nat) (n : NodeL) (b : Int) (pre : List PV) (t : Tm), SizeOf.sizeOf n < sz → NodeRg n → 0 ≤ b → b + n.wt ≤ 4611686018427387904 → pre.length + n.wt ≤ 1073741824 → (∀ e ∈ pre, frK e) →
 FnM Tryz.prog G0 35 [vA7 n, .int .i64 b, .ptr 0 0 0] (uI9 n b pre) ⟨t, hv [(0, ⟨[.own 1 0 pre.length], 1, false⟩), (1, ⟨pre, 1, false⟩)], zv [], 2⟩ [] := by
 intro sz
 induction sz with
 | zero => intro n b pre t h; omega
 | succ sz ih =>
   intro n b pre t hsz hn hb hbw hpw hpre;have hwt := n.wt_eq;have hll : n.lemmas.length ≤ (n.lemmas.map vDI).sum := zKQ _;have hln := hn.ln;have hkn := hn.kn;refine uEH vBC uCO (by simp) ?_;refine zAQ (zBF vBC hT (by kernel_rfl) ?_);refine sns ?_;refine vCR (zAQ (zBF vBC hT (by kernel_rfl) ?_));refine sns ?_;refine vCR (zAQ (zBF vBC hT (by kernel_rfl) ?_));refine sns ?_;refine vEO [] [(1, .int .i64 b), (2, .ptr 0 0 0), (3, .cptr (vA7 n) 0), (7, .int .i64 pre.length)] [(0, ⟨[.own 2 0 (pre.length + 1)], 1, false⟩), (2, ⟨pre ++ .own 3 0 n.lemmas.length :: [], 1, false⟩), (3, ⟨List.replicate n.lemmas.length (.bool false), 1, false⟩)] [] 4 (by decide) (by simp) trivial ?_ ?_
   ·exact ⟨[18, 16], [2], [(3, .cptr (vA7 n) 0)], [], ⟨⟨⟨_, rfl⟩, trivial⟩, ⟨⟨6, [2], zC6 rfl, rfl⟩, trivial⟩, trivial⟩, ⟨zAC rfl rfl, apx, zAH rfl, zAC rfl rfl, trivial⟩, ⟨zAI (by decide) rfl (by rw [zCT]; exact ⟨by decide, rfl⟩) rfl rfl, zE3 (by decide) rfl (by simp; rfl) (by decide) rfl rfl hpre (by simp) rfl, zAF (by decide) rfl (by simp) (fun e he => by rw [List.eq_of_mem_replicate he]; exact ⟨rfl, by simp⟩) rfl, trivial⟩, by simp [ren]⟩
   refine zAQ (zBT (vSQ rfl rfl rfl fun m => zF5 hT 1 rfl ?_));refine sns ?_;refine zCO (vCR (zAQ (zBT (zF5 hT 3 rfl ?_))));refine sns ?_;refine zIL rfl rfl rfl rfl ?_;refine (vOV (uGU m #[] 0 [] n.proof vT8 hn.prf (fun _ => .any)) (fun a ha => ?_)).mono fun pv s' μ' hK => ?_
   ·simp only [List.mem_cons, List.not_mem_nil, or_false] at ha
    rcases ha with rfl | rfl <;> rfl
   obtain ⟨rfl, hK⟩ := hK;have hu : uIN [] m n.proof μ' := by rcases hK with ⟨⟨_, _, h⟩, _⟩ | ⟨_, _, _, _, h⟩ <;> exact h
   clear hK;obtain ⟨es, clock, ks, rfl, hs, hks⟩ := hu;simp only [List.not_mem_nil, false_or] at hks;refine zCO (vCR (zAQ (zAQ (zBF vBC hT (by kernel_rfl) ?_))));refine sns ?_;refine vCR (zBU ?_)
   refine zE6 (fun ((i, _) : Nat × Array MapEntry × Nat × List Int) => [(1, .int .i64 b), (2, .ptr 0 0 0), (3, .cptr (vA7 n) 0), (7, .int .i64 pre.length), (8, vSC m), (34, .imm (n.kids.map vBD)), (35, .int .i64 n.kids.length), (36, .int .i64 i)])
    (fun ((i, _) : Nat × Array MapEntry × Nat × List Int) => [(0, ⟨[.own 2 0 (pre.length + 1 + (vBL (n.kids.take i) (b + n.lemmas.length)).length)], 1, false⟩), (2, ⟨pre ++ .own 3 0 n.lemmas.length :: vDF (vBL (n.kids.take i) (b + n.lemmas.length)), 1, false⟩), (3, ⟨List.replicate n.lemmas.length (.bool false), 1, false⟩)]) [] 4
    (fun ((_, es, clock, _) : Nat × Array MapEntry × Nat × List Int) => [(m, .map es clock)])
    (fun ((i, es, clock, ks) : Nat × Array MapEntry × Nat × List Int) => i ≤ n.kids.length ∧ IsSet ks es clock ∧ ∀ k, k ∈ ks ↔ k ∈ vM5 b n i) (fun ((i, _) : Nat × Array MapEntry × Nat × List Int) => n.kids.length - i) (0, es, clock, ks) ⟨by simp, hs, by simpa [vM5, vDD] using hks⟩ (by decide) (by simp) ?_ rfl ?_
   ·exact ⟨[2, 3], [], [], [], ttt, ⟨zAC rfl rfl, apx, zAH rfl, zAC rfl rfl, zCY rfl, zAE rfl rfl, zAC rfl (by simp), zAC rfl rfl, trivial⟩,
     ⟨zAI (by decide) rfl (by rw [zCT]; exact ⟨by decide, rfl⟩) rfl rfl, zE3 (by decide) rfl rfl (by decide) rfl rfl hpre zB0 rfl, zAF (by decide) rfl rfl (fun e he => by rw [List.eq_of_mem_replicate he]; exact ⟨rfl, by simp⟩) rfl, trivial⟩, by simp [ren]⟩
   ·clear hs hks
    rintro ⟨i, es, clock, ks⟩ ⟨hi, hs, hks⟩
    dsimp only at hi hs hks ⊢;refine zAQ (zBF vBC hT (by kernel_rfl) ?_);refine sns ?_;refine vCR (zAQ (zBF vBC hT (by kernel_rfl) ?_))
    (repeat' (first|refine stn ?_|(with_reducible refine brr ?_ ?_<;>intro h)|(with_reducible refine zAD ?_ ?_<;>intro h)|with_reducible refine zAK ?_ ?_)); all_goals try (conv=>whnf)
    ·have hi' : i < n.kids.length := by omega
     refine vCR (zAQ (zBU ?_));refine zAQ (zBF vBC hT (by kernel_rfl) ?_);refine sns ?_
     refine vEO [] [(1, .int .i64 b), (2, .ptr 0 0 0), (3, .cptr (vA7 n) 0), (7, .int .i64 pre.length), (8, vSC m), (34, .imm (n.kids.map vBD)), (35, .int .i64 n.kids.length), (36, .int .i64 i), (10, .cptr (vA7 n.kids[i]!) 0)]
      [(0, ⟨[.own 2 0 (pre.length + 1 + (vBL (n.kids.take i) (b + n.lemmas.length)).length)], 1, false⟩), (2, ⟨pre ++ .own 3 0 n.lemmas.length :: vDF (vBL (n.kids.take i) (b + n.lemmas.length)), 1, false⟩), (3, ⟨List.replicate n.lemmas.length (.bool false), 1, false⟩)] [] 4 (by decide) (by simp) trivial ?_ ?_
     ·exact ⟨[2, 3], [7], [(10, .cptr (vA7 n.kids[i]!) 0)], [], ⟨⟨⟨_, rfl⟩, trivial⟩, ⟨⟨6, [7], zC6 rfl, rfl⟩, trivial⟩, trivial⟩, ⟨zAC rfl rfl, apx, zAH rfl, zAC rfl rfl, zCY rfl, zAE rfl rfl, zAC rfl rfl, zAC rfl rfl, zAH rfl, trivial⟩,
       ⟨zAI (by decide) rfl (by rw [zCT]; exact ⟨by decide, rfl⟩) rfl rfl, zE3 (by decide) rfl rfl (by decide) rfl rfl hpre zB0 rfl, zAF (by decide) rfl rfl (fun e he => by rw [List.eq_of_mem_replicate he]; exact ⟨rfl, by simp⟩) rfl, trivial⟩, by simp [ren]⟩
     have hkm : n.kids[i]! ∈ n.kids := zA1 hi';have hks1 := vG6 hi';have hks2 := zG6 (n.kids.take i) (b + n.lemmas.length);have hks3 := vI8 n.kids[i]! (b + n.lemmas.length);refine zAQ (zBT (zF5 hT 7 rfl ?_));refine sns ?_;refine zIL rfl rfl rfl rfl ?_;refine FnM.args (uHW (a := vA7 n.kids[i]!) (b := .int .i64 (b + ((List.map vBB n.lemmas).length : Nat))) (b' := .int .i64 (b + n.lemmas.length)) (c := .ptr 0 0 0) (by rw [List.length_map])) ?_;refine (vVZ (μ := []) [(m, .map es clock)] (uEI (K0 := fun pv μ' => ∃ m es clock ks, pv = vSC m ∧ μ' = [(m, .map es clock)] ∧ IsSet ks es clock ∧ ∀ k, k ∈ ks ↔ k ∈ vH3 n.kids[i]! (b + n.lemmas.length)) (k := 2) (p := 3) (n := n.lemmas.length) (L := pre.length + 1 + (vBL (n.kids.take i) (b + n.lemmas.length)).length) (pre := pre) (post := vDF (vBL (n.kids.take i) (b + n.lemmas.length))) (new := vDF (vCA n.kids[i]! (b + n.lemmas.length))) (t0 := fun _ => .any) (by simp) (fun u => ?_) (fun a ha => ?_) (by simp) (fun e he => ?_) (fun e he => (zB0 e he).nr.1) rfl rfl (by decide) (by decide) (by decide) rfl rfl)).mono fun pv2 s' μ' hK => ?_
     ·have e1 : (pre ++ .raw u :: vDF (vBL (n.kids.take i) (b + n.lemmas.length))).length = pre.length + 1 + (vBL (n.kids.take i) (b + n.lemmas.length)).length := by
       simp; omega
      have hI := ih n.kids[i]! (b + n.lemmas.length) (pre ++ .raw u :: vDF (vBL (n.kids.take i) (b + n.lemmas.length))) (fun _ => .any) (by have := NodeL.sizeOf_kid hkm; omega) (hn.kid _ hkm) (by omega) (by omega) (by rw [e1]; omega) (fun e he => by
       simp only [List.mem_append, List.mem_cons] at he;rcases he with he | rfl | he
       ·exact hpre e he
       ·exact Or.inl ⟨_, rfl⟩
       ·exact zB0 e he)
      rw [zGB, zF9, e1] at hI;refine hI.mono fun pv s' μ' ⟨k1, k2, k', k3, k4, k5, k6, k7, k8⟩ => ⟨k1, k2, k', k3, k4, ?_, ?_, k7, k8⟩
      ·rw [k5, e1]; simp
      ·rw [k6]; simp
     ·simp only [List.mem_cons, List.not_mem_nil, or_false] at ha
      rcases ha with rfl | rfl | rfl
      ·exact Or.inr rfl
      ·exact Or.inr rfl
      ·exact Or.inl rfl
     ·simp only [List.mem_append] at he
      rcases he with he | he
      ·exact (hpre e he).nr.1
      ·exact (zB0 e he).nr.1
     obtain ⟨μ2, rfl, ⟨mk, esk, clk, ksk, rfl, rfl, hsk, hksk⟩, rfl⟩ := hK
     refine vXE rfl rfl rfl rfl uGL (m := mk) (es := esk) (clock := clk) (by simp) fun it => zCO (vEO [] [(1, .int .i64 b), (2, .ptr 0 0 0), (3, .cptr (vA7 n) 0), (7, .int .i64 pre.length), (8, vSC m), (34, .imm (n.kids.map vBD)), (35, .int .i64 n.kids.length), (36, .int .i64 i), (48, uJY it)]
      [(0, ⟨[.own 2 0 (pre.length + 1 + (vBL (n.kids.take (i + 1)) (b + n.lemmas.length)).length)], 1, false⟩), (2, ⟨pre ++ .own 3 0 n.lemmas.length :: vDF (vBL (n.kids.take (i + 1)) (b + n.lemmas.length)), 1, false⟩), (3, ⟨List.replicate n.lemmas.length (.bool false), 1, false⟩)] [] 4 (by decide) (by simp) trivial ?_ ?_)
     ·exact ⟨[11, 3], [], [], [], ttt, ⟨zAC rfl rfl, apx, zAH rfl, zAC rfl rfl, zCY rfl, zAE rfl rfl, zAC rfl rfl, zAC rfl rfl, zCY rfl, trivial⟩,
       ⟨zAI (by decide) rfl (by rw [zCT]; exact ⟨by decide, by simp [zLM hi']; exact ⟨rfl, by omega⟩⟩) rfl rfl, zE3 (by decide) rfl (by rw [zLM hi']; simp; rfl) (by decide) rfl rfl hpre zB0 rfl, zAF (by decide) rfl rfl (fun e he => by rw [List.eq_of_mem_replicate he]; exact ⟨rfl, by simp⟩) rfl, trivial⟩, by simp [ren]⟩
     refine zBU ?_;have hold : ∀ x ∈ esk.toList, x.born < clk := hsk.2.1
     refine zE6 (fun _ : Array Nat × Array MapEntry × Nat × List Int => [(1, .int .i64 b), (2, .ptr 0 0 0), (3, .cptr (vA7 n) 0), (7, .int .i64 pre.length), (8, vSC m), (34, .imm (n.kids.map vBD)), (35, .int .i64 n.kids.length), (36, .int .i64 i), (48, uJY it)])
      (fun _ => [(0, ⟨[.own 2 0 (pre.length + 1 + (vBL (n.kids.take (i + 1)) (b + n.lemmas.length)).length)], 1, false⟩), (2, ⟨pre ++ .own 3 0 n.lemmas.length :: vDF (vBL (n.kids.take (i + 1)) (b + n.lemmas.length)), 1, false⟩), (3, ⟨List.replicate n.lemmas.length (.bool false), 1, false⟩)]) [] 4
      (fun ((seen, es, clock, _) : Array Nat × Array MapEntry × Nat × List Int) => [(it, .mapIter (some mk) clk seen clk), (mk, .map esk clk), (m, .map es clock)])
      (fun ((seen, es, clock, ks') : Array Nat × Array MapEntry × Nat × List Int) => IsSet ks' es clock ∧ ∀ k, k ∈ ks' ↔ k ∈ ks ∨ ∃ e ∈ esk.toList, seen.contains e.born = true ∧ e.key = .int .i64 k) (fun ((seen, _) : Array Nat × Array MapEntry × Nat × List Int) => (leftOf esk seen).size) (#[], es, clock, ks) ⟨hs, fun k => by simp⟩ (by decide) (by simp) ?_ rfl ?_
     ·exact ⟨[2, 3], [], [], [], ttt, ⟨zAC rfl rfl, apx, zAH rfl, zAC rfl rfl, zCY rfl, zAE rfl rfl, zAC rfl rfl, zAC rfl rfl, zCY rfl, trivial⟩,
       ⟨zAI (by decide) rfl (by rw [zCT]; exact ⟨by decide, rfl⟩) rfl rfl, zE3 (by decide) rfl rfl (by decide) rfl rfl hpre zB0 rfl, zAF (by decide) rfl rfl (fun e he => by rw [List.eq_of_mem_replicate he]; exact ⟨rfl, by simp⟩) rfl, trivial⟩, by simp [ren]⟩
     rintro ⟨seen, es2, clock2, ks2⟩ ⟨hs2, hks2⟩
     dsimp only at hs2 hks2 ⊢;refine zAQ (zBT (vSP (m := mk) (es := esk) (clock := clk) (μ1 := []) (μ2 := [(mk, .map esk clk), (m, .map es2 clock2)]) rfl rfl rfl rfl (by simp) hold (Nat.le_refl _) (fun h0 => ?_) (fun e he => ?_)))
     ·refine zF5 hT 1 rfl ?_
      refine sns ?_;refine zCO (vCR (zAQ (zBF vBC hT (by kernel_rfl) ?_)));refine sns ?_;refine vCR (vQT (μ2 := [(m, .map es2 clock2)]) (by simp) (zBF vBC hT (by kernel_rfl) ?_));refine sns ?_
      refine ⟨(i + 1, es2, clock2, ks2), ⟨⟨by omega, hs2, fun k => ?_⟩, by omega⟩, ⟨[2, 3], [], [], [], ttt, ⟨zAC rfl rfl, apx, zAH rfl, zAC rfl rfl, zCY rfl, zAE rfl rfl, zAC rfl rfl, zAC rfl (by omega), trivial⟩,
       ⟨zAI (by decide) rfl (by rw [zCT]; exact ⟨by decide, rfl⟩) rfl rfl, zE3 (by decide) rfl rfl (by decide) rfl rfl hpre zB0 rfl, zAF (by decide) rfl rfl (fun e he => by rw [List.eq_of_mem_replicate he]; exact ⟨rfl, by simp⟩) rfl, trivial⟩, by simp [ren]⟩, rfl⟩
      unfold vM5 at hks ⊢;rw [hks2, hks, vO0 hi', ← List.append_assoc, List.mem_append (t := vH3 _ _), ← hksk];refine or_congr_right ⟨fun ⟨e, h1, _, h3⟩ => ?_, fun hk => ?_⟩
      ·obtain ⟨k', h4, h5, _⟩ := hsk.key h1
       rw [h5] at h3;cases h3
       exact h4
      ·obtain ⟨e, h1, h2⟩ := hsk.mem hk
       exact ⟨e, h1, all_seen esk seen h0 e h1, h2⟩
     ·refine zF5 hT 1 rfl ?_
      refine sns ?_;refine zCO (vCR (zAQ (zBF vBC hT (by kernel_rfl) ?_)));refine sns ?_;obtain ⟨hem, hen⟩ := mem_left he;obtain ⟨k, hk, ek, ev⟩ := hsk.key hem;refine vCR (zBU (zAQ (zBT (vPF (m := mk) (it := it) (k := k) (since := clk) (seen := seen) (e := e) (es := esk) (clock := clk) rfl rfl rfl rfl (by simp) (by simp) hem hsk.2.2.1 ek (zF5 hT 2 rfl ?_)))));refine sns ?_;refine zCO (vCR (zBT (zF5 hT 2 rfl ?_)));refine sns ?_;refine zHT (k := k) (m := m) (es := es2) (clock := clock2) (μ1 := [(it, .mapIter (some mk) clk (seen.push e.born) clk), (mk, .map esk clk)]) (μ2 := []) rfl rfl rfl rfl rfl rfl uGL uH8 hs2 fun es3 clock3 hs3 => zCO ?_
      refine ⟨(seen.push e.born, es3, clock3, vYI ks2 k), ⟨⟨hs3, fun j => ?_⟩, left_shrinks esk seen e he⟩, ⟨[2, 3], [], [], [], ttt, ⟨zAC rfl rfl, apx, zAH rfl, zAC rfl rfl, zCY rfl, zAE rfl rfl, zAC rfl rfl, zAC rfl rfl, zCY rfl, trivial⟩,
       ⟨zAI (by decide) rfl (by rw [zCT]; exact ⟨by decide, rfl⟩) rfl rfl, zE3 (by decide) rfl rfl (by decide) rfl rfl hpre zB0 rfl, zAF (by decide) rfl rfl (fun e he => by rw [List.eq_of_mem_replicate he]; exact ⟨rfl, by simp⟩) rfl, trivial⟩, by simp [ren]⟩, rfl⟩
      rw [vGX, hks2, or_assoc];refine or_congr_right ⟨fun h => ?_, fun ⟨e', h1, h2, h3⟩ => ?_⟩
      ·rcases h with ⟨e', h1, h2, h3⟩ | rfl
       ·exact ⟨e', h1, by rw [contains_push, h2]; rfl, h3⟩
       ·exact ⟨e, hem, by rw [contains_push, beq_self_eq_true, Bool.or_true], ek⟩
      ·rw [contains_push, Bool.or_eq_true, beq_iff_eq] at h2
       rcases h2 with h2 | h2
       ·exact Or.inl ⟨e', h1, h2, h3⟩
       ·have := born_inj hsk.2.2.1 h1 hem h2
        subst this;rw [ek] at h3;cases h3
        exact Or.inr rfl
    ·obtain rfl : i = n.kids.length := by omega
     unfold vM5 at hks;simp only [List.take_length] at hks ⊢;refine vCR (zAQ (zAQ (zBF vBC hT (by kernel_rfl) ?_)));refine sns ?_;refine vCR (zBU ?_);have hlr := zG6 n.kids (b + n.lemmas.length);have hnrB : ∀ e ∈ List.replicate n.lemmas.length (PV.bool false), nr 3 e = true ∧ e ≠ .any := fun e he => by rw [List.eq_of_mem_replicate he]; exact ⟨rfl, by simp⟩
     have hnrJ : ∀ j, ∀ e ∈ vSN b n j, nr 3 e = true ∧ e ≠ .any := fun j e he => by
      rcases List.mem_append.1 he with he | he
      ·rw [List.eq_of_mem_replicate he]; exact ⟨rfl, by simp⟩
      ·obtain ⟨x, _, rfl⟩ := List.mem_map.1 he; exact ⟨rfl, by simp⟩
     refine zE6 (fun ((j, _) : Nat × Array MapEntry × Nat × List Int) => [(1, .int .i64 b), (2, .ptr 0 0 0), (3, .cptr (vA7 n) 0), (7, .int .i64 pre.length), (8, vSC m), (12, .int .i64 ((j : Int) - 1))])
      (fun ((j, _) : Nat × Array MapEntry × Nat × List Int) => [(0, ⟨[.own 2 0 (pre.length + 1 + (vBL n.kids (b + n.lemmas.length)).length)], 1, false⟩), (2, ⟨pre ++ .own 3 0 n.lemmas.length :: vDF (vBL n.kids (b + n.lemmas.length)), 1, false⟩), (3, ⟨vSN b n j, 1, false⟩)]) [] 4
      (fun ((_, es, clock, _) : Nat × Array MapEntry × Nat × List Int) => [(m, .map es clock)])
      (fun ((j, es, clock, ks) : Nat × Array MapEntry × Nat × List Int) => j ≤ n.lemmas.length ∧ IsSet ks es clock ∧ ∀ k, k ∈ ks ↔ k ∈ (vDP b n j).2) (fun ((j, _) : Nat × Array MapEntry × Nat × List Int) => j) (n.lemmas.length, es, clock, ks) ⟨Nat.le_refl _, hs, fun k => by unfold vDP; rw [List.drop_length]; exact hks k⟩ (by decide) (by simp) ?_ rfl ?_
     ·exact ⟨[2, 3], [], [], [], ttt, ⟨zAC rfl rfl, apx, zAH rfl, zAC rfl rfl, zCY rfl, zAC rfl (by simp), trivial⟩,
       ⟨zAI (by decide) rfl (by rw [zCT]; exact ⟨by decide, rfl⟩) rfl rfl, zE3 (by decide) rfl rfl (by decide) rfl rfl hpre zB0 rfl, zAF (by decide) rfl (by unfold vSN vDP; rw [List.drop_length]; simp [keepR]) (hnrJ _) rfl, trivial⟩, by simp [ren]⟩
     clear hs hks
     rintro ⟨j, es, clock, ks⟩ ⟨hj, hs, hks⟩
     dsimp only at hj hs hks ⊢;refine zAQ (zAQ (zBF vBC hT (by kernel_rfl) ?_));refine sns ?_;refine vCR (zBF vBC hT (by kernel_rfl) ?_)
     (repeat' (first|refine stn ?_|(with_reducible refine brr ?_ ?_<;>intro h)|(with_reducible refine zAD ?_ ?_<;>intro h)|with_reducible refine zAK ?_ ?_)); all_goals try (conv=>whnf)
     ·obtain ⟨j, rfl⟩ : ∃ i, j = i + 1 := ⟨j - 1, by omega⟩
      have hj' : j < n.lemmas.length := by omega
      have ed : n.lemmas.drop j = n.lemmas[j]! :: n.lemmas.drop (j + 1) := by rw [getElem!_pos n.lemmas j hj']; exact List.drop_eq_getElem_cons hj'
      have hlm : n.lemmas[j]! ∈ n.lemmas := zA1 hj';refine vCR (zAQ (zBU ?_));refine zAQ (zBT (zF5 hT 4 rfl ?_));refine sns ?_;refine vSR (k := b + j) (m := m) (es := es) (clock := clock) (ks := ks) rfl rfl rfl rfl ?_ uGL uH8 uIE hs (by simp) (zCO (vCR ?_))
      ·exact congrArg (PV.int .i64) (by omega)
      refine zHZ (t := decide (b + j ∈ ks)) rfl rfl (fun hp => ?_) (fun hp => ?_)
      ·rw [decide_eq_true_eq] at hp
       refine zAQ (zBF vBC hT (by kernel_rfl) ?_);refine sns ?_;refine zIQ (a := .own 3 0 n.lemmas.length) (by rw [zC1]; simp) ?_;refine sns ?_;refine zIQ (a := .bool false) (by rw [zC1, show 0 + (((j + 1 : Nat) : Int) - 1).toNat = j by omega]; show (vSN b n (j + 1))[j]? = _; unfold vSN; rw [List.getElem?_append_left (by simp)]; simp [List.getElem?_replicate]) ?_;refine sns ?_;refine vCR (zBT (zF5 hT 7 rfl ?_));refine sns ?_;refine zA4 (j := j) (by omega) hj' ?_;refine sns ?_;refine zIL rfl rfl rfl rfl ?_;refine (vOV (uGU m es clock ks n.lemmas[j]!.proof hs (hn.lem _ hlm) (fun _ => .any)) (fun a ha => ?_)).mono fun pv3 s' μ' hK => ?_
       ·simp only [List.mem_cons, List.not_mem_nil, or_false] at ha
        rcases ha with rfl | rfl <;> rfl
       obtain ⟨rfl, hK⟩ := hK;have hu : uIN ks m n.lemmas[j]!.proof μ' := by rcases hK with ⟨⟨_, _, h⟩, _⟩ | ⟨_, _, _, _, h⟩ <;> exact h
       clear hK;obtain ⟨es3, clock3, ks3, rfl, hs3, hks3⟩ := hu;refine zCO (vCR (zBF vBC hT (by kernel_rfl) ?_));refine sns ?_
       have ek : (vDP b n j) = (true :: (vDP b n (j + 1)).1, (vDP b n (j + 1)).2 ++ vC3 n.lemmas[j]!.proof) := by
        unfold vDP
        rw [ed, zJU, if_pos (by
         have := (hks (b + j)).1 hp;unfold vDP at this;rw [show b + ((j + 1 : Nat) : Int) = b + j + 1 by omega] at this
         exact this), show b + ((j + 1 : Nat) : Int) = b + j + 1 by omega]
       refine ⟨(j, es3, clock3, ks3), ⟨⟨by omega, hs3, fun k => ?_⟩, by show j < j + 1; omega⟩, ⟨[2, 3], [], [], [], ttt, ⟨zAC rfl rfl, apx, zAH rfl, zAC rfl rfl, zCY rfl, zAC rfl (by show _ = ((j : Nat) : Int) - 1; omega), trivial⟩,
        ⟨zAI (by decide) rfl (by rw [zCT]; exact ⟨by decide, rfl⟩) rfl rfl, zE3 (by decide) rfl rfl (by decide) rfl rfl hpre zB0 rfl, zAF (by decide) rfl ?_ (hnrJ _) rfl, trivial⟩, by simp [ren]⟩, rfl⟩
       ·rw [hks3, hks, ek, List.mem_append]
       ·show (vSN b n (j + 1)).set _ _ = vSN b n j
        rw [show 0 + (((j + 1 : Nat) : Int) - 1).toNat = j by omega];unfold vSN;rw [ek, List.replicate_succ', List.append_assoc, List.set_append_right _ _ (by simp)]
        simp
      ·rw [decide_eq_false_iff_not] at hp
       refine zHY (vCR (zBF vBC hT (by kernel_rfl) ?_));refine sns ?_
       have ek : (vDP b n j) = (false :: (vDP b n (j + 1)).1, (vDP b n (j + 1)).2) := by
        unfold vDP
        rw [ed, zJU, if_neg (fun hc => hp ((hks (b + j)).2 (by
         unfold vDP;rw [show b + ((j + 1 : Nat) : Int) = b + j + 1 by omega]
         exact hc))), show b + ((j + 1 : Nat) : Int) = b + j + 1 by omega]
       refine ⟨(j, es, clock, ks), ⟨⟨by omega, hs, fun k => ?_⟩, by show j < j + 1; omega⟩, ⟨[2, 3], [], [], [], ttt, ⟨zAC rfl rfl, apx, zAH rfl, zAC rfl rfl, zCY rfl, zAC rfl (by show _ = ((j : Nat) : Int) - 1; omega), trivial⟩,
        ⟨zAI (by decide) rfl (by rw [zCT]; exact ⟨by decide, rfl⟩) rfl rfl, zE3 (by decide) rfl rfl (by decide) rfl rfl hpre zB0 rfl, zAF (by decide) rfl ?_ (hnrJ _) rfl, trivial⟩, by simp [ren]⟩, rfl⟩
       ·rw [hks, ek]
       ·unfold vSN
        rw [ek, List.replicate_succ', List.append_assoc]
        simp
     ·obtain rfl : j = 0 := by omega
      have e0 : vDP b n 0 = keepR n.lemmas b (vC3 n.proof ++ vDD n.kids (b + n.lemmas.length)) := by
       unfold vDP;rw [List.drop_zero, show b + ((0 : Nat) : Int) = b by omega]
      have e1 : vSN b n 0 = (ownB n.lemmas n.kids n.proof b).map PV.bool := by
       unfold vSN;rw [e0];rfl
      have e2 : vCA n b = ownB n.lemmas n.kids n.proof b :: vBL n.kids (b + n.lemmas.length) := by cases n; rfl
      have e3 : vH3 n b = (vDP b n 0).2 := by rw [e0]; cases n; rfl
      have el : (ownB n.lemmas n.kids n.proof b).length = n.lemmas.length := zFC _ _ _;refine vEO [] [(8, vSC m)] [(0, ⟨[.own 2 0 (pre.length + 1 + (vBL n.kids (b + n.lemmas.length)).length)], 1, false⟩), (2, ⟨pre ++ vDF (vCA n b), 1, false⟩)] [] 3 (by decide) (by simp) trivial ?_ ?_
      ·exact ⟨[2], [3], [], [(2, pre ++ vDF (vCA n b))], ⟨⟨⟨_, rfl⟩, trivial⟩, trivial, ⟨⟨_, 4, [3], rfl, by rw [e2]; exact vNJ (ls := [3]) (vLM hpre) (zAG (zAM rfl e1 el.symm (fun x => rfl)) (vLM zB0)), rfl⟩, trivial⟩⟩, ⟨zCY rfl, trivial⟩,
        ⟨zAI (by decide) rfl (by rw [zCT]; exact ⟨by decide, rfl⟩) rfl rfl, zAF (by decide) rfl rfl (fun e he => by
          rcases List.mem_append.1 he with he | he
          ·exact (hpre e he).nr
          ·exact (zB0 e he).nr) rfl, trivial⟩, by simp [ren]⟩
      refine vQW vBC hT (by kernel_rfl) ?_;refine sns ?_;refine ⟨⟨m, es, clock, ks, rfl, rfl, hs, fun k => by rw [hks, e3]⟩, rfl, 2, by decide, by show 2 < 5; decide, ?_, rfl, rfl, rfl⟩;show some _ = some _
      rw [e2, List.length_cons, show pre.length + 1 + (vBL n.kids (b + n.lemmas.length)).length = pre.length + ((vBL n.kids (b + n.lemmas.length)).length + 1) by omega]
open Go.Proofs Go.PI
abbrev vLP (R : List Int) : PV := .imm (R.map (.int .i64))
def uGD (R : List Int) : Prop := R.length < 1073741824 ∧ ∀ r ∈ R, 0 ≤ r ∧ r < 4611686018427387904
theorem uB4 : FO 55 Tryz.f55 [.tmp 3] 23 := mkO Tryz.func55 Tryz.ntmps55 Tryz.results55
theorem uAO (k : Int) (R : List Int) (hR : uGD R) (h1 : -9223372036854775808 ≤ k) (h2 : k < 9223372036854775808) : Fn 55 [.int .i64 k, .cptr (vLP R) 0] (.data (.int .i64 (vD9 R k))) := by
 have hl := hR.1;refine zAO vBC hT uB4 (by simp) ?_;refine sts ?_;refine zBB hT (fun i : Nat => [(0, .int .i64 k), (4, .int .i64 (((R.take i).filter fun r => decide (r + 1 < k)).length : Nat)), (7, vLP R), (8, .int .i64 R.length), (9, .int .i64 i)]) (fun i => i ≤ R.length) (fun i => R.length - i) 0 (by simp) ⟨zAC rfl rfl, zAC rfl rfl, zAE rfl rfl, zAC rfl (by simp), zAC rfl rfl, trivial⟩ ?_;intro i hi;have hf := List.length_filter_le (fun r => decide (r + 1 < k)) (R.take i);have hf2 : (R.take i).length ≤ i := by simp; omega
 by_cases h : i < R.length
 ·have hr := hR.2 _ (zA1 h)
  have et : ((R.take (i + 1)).filter fun r => decide (r + 1 < k)) = ((R.take i).filter fun r => decide (r + 1 < k)) ++ (if R[i]! + 1 < k then [R[i]!] else []) := by
   rw [List.take_succ_eq_append_getElem h, List.filter_append, getElem!_pos R i h];simp [List.filter_cons]
  (repeat' (first|refine stp ?_|with_reducible(refine brr ?_ ?_<;>intro h)));all_goals try(conv=>whnf)
  ·refine ⟨i + 1, ⟨by omega, by omega⟩, zAC rfl rfl, zAC rfl ?_, zAE rfl rfl, zAC rfl rfl, zAC rfl (by omega), trivial⟩
   rw [et, if_pos (by omega)]; simp
  ·refine ⟨i + 1, ⟨by omega, by omega⟩, zAC rfl rfl, zAC rfl ?_, zAE rfl rfl, zAC rfl rfl, zAC rfl (by omega), trivial⟩
   rw [et, if_neg (by omega)]; simp
  all_goals (exfalso; omega)
 ·obtain rfl : i = R.length := by omega
  rw [List.take_length] at hf ⊢
  have key : (R.filter fun r => decide (r + 1 < k)).length = 0 ∨ 1 < k := by
   by_cases h0 : ∃ r ∈ R, r + 1 < k
   ·obtain ⟨r, hr, h3⟩ := h0
    have := hR.2 r hr;exact Or.inr (by omega)
   ·left
    rw [List.length_eq_zero_iff, List.filter_eq_nil_iff];intro r hr h3;exact h0 ⟨r, hr, by simpa using h3⟩
  (repeat' (first|refine stp ?_|with_reducible(refine brr ?_ ?_<;>intro h)));all_goals try(conv=>whnf)
  all_goals try (exfalso; omega)
  all_goals exact zAB rfl rfl
theorem zDJ {ρ : Nat → Nat} {k : Nat} {t : Tm} {j : Nat} {fn : Go.Fn} {e : PV} {o : Nat} (h : t j = .func fn [] [.cptr e o]) : at' ρ k t j (.func fn [] [.cptr e o]) := by unfold at'; rw [h, vKU]; exact ⟨rfl, trivial, by rw [vKV], trivial⟩
abbrev uH5 (R : List Int) : PV := .func (.func 55) [] [.cptr (vLP R) 0]
theorem uB6 : FO 56 Tryz.f56 [.cell 3 70] 15 := mkO Tryz.func56 Tryz.ntmps56 Tryz.results56
theorem uHA (r : RowL) (R : List Int) (hR : uGD R) (hr : vKS r) : Fn 56 [vBJ r, .cptr (uH5 R) 0] (.data (vBJ (vCI R r))) := by
 have c1 := uAO r.lo R hR hr.1.1 hr.1.2;have c2 := uAO r.hi R hR hr.2.1 hr.2.2;refine zAO vBC hT uB6 (by simp) ?_;refine sts ?_;refine zAA c1 rfl ?_;refine sts ?_;refine zAA c2 rfl ?_;refine sts ?_;exact zAB rfl rfl
abbrev uAM (R : List Int) : PV := .func (.func 56) [] [.cptr (uH5 R) 0]
theorem vM9 : FO 57 Tryz.f57 [.tmp 4] 25 := mkO Tryz.func57 Tryz.ntmps57 Tryz.results57
theorem zJH {f : RowL → RowL} {l : List MultL} {i : Nat} (h : i < l.length) : (vBM f (l.take i)).map vBA ++ [vBA ⟨f l[i]!.row, l[i]!.coef⟩] = (vBM f (l.take (i + 1))).map vBA := by
 rw [List.take_succ_eq_append_getElem h, getElem!_pos l i h];unfold vBM;rw [List.map_append, List.map_append];rfl
theorem zBZ (l : List MultL) : ∀ e ∈ l.map vBA, nr 3 e = true ∧ e ≠ .any := zAP fun _ => ⟨rfl, by simp [vBA]⟩
theorem vU8 (l : List MultL) (R : List Int) (hR : uGD R) (hl : vCG l) : Fn 57 [.imm (l.map vBA), uAM R] (.fresh ((vBM (vCI R) l).map vBA) 7 true) := by
 have hln := hl.1;refine zD6 vBC hT vM9 (by simp) ?_;refine sts ?_
 refine zB8 hT [(.sl 5, 7, true)] (fun (i : Nat) => [(1, uAM R), (5, .own 0 0 i), (8, .imm (l.map vBA)), (9, .int .i64 l.length), (10, .int .i64 i)]) (fun i => [(0, ⟨(vBM (vCI R) (l.take i)).map vBA, 7, true⟩)]) [] 1
  (fun i => i ≤ l.length) (fun i => l.length - i) 0 (Nat.zero_le _) (by decide) (by simp) ⟨rfl, trivial⟩ ?_ ?_
 ·exact ⟨[_], [], [], [], ttt, ⟨zDJ rfl, zBA (by decide) rfl rfl, zAE rfl rfl, zAC rfl (by simp), zAC rfl rfl, trivial⟩, ⟨zAF (by decide) rfl rfl (zBZ _) rfl, trivial⟩, by simp [ren]⟩
 intro i hi;have hlen : (vBM (vCI R) (l.take i)).length = i := by simp [vBM]; omega
 by_cases h0 : i < l.length
 ·have c1 := uHA l[i]!.row R hR (hl.2 _ (zA1 h0)).1
  (repeat' (first|refine stp ?_|with_reducible(refine brr ?_ ?_<;>intro h)));all_goals try(conv=>whnf)
  ·refine zAA c1 rfl ?_
   refine sts ?_;exact ⟨i + 1, ⟨by omega, by show l.length - (i + 1) < l.length - i; omega⟩, [_], [], [], [], ttt, ⟨zDJ rfl, zBA (by decide) rfl rfl, zAE rfl rfl, zAC rfl rfl, zAC rfl (by omega), trivial⟩, ⟨zAF (by decide) rfl (zJH h0) (zBZ _) rfl, trivial⟩, by simp [ren]⟩
  all_goals (exfalso; omega)
 ·obtain rfl : i = l.length := by omega
  rw [List.take_length]
  (repeat' (first|refine stp ?_|with_reducible(refine brr ?_ ?_<;>intro h)));all_goals try(conv=>whnf)
  all_goals try (exfalso; omega)
  refine zBI rfl rfl (by simp [vBM]) rfl (zDY (fun x => zIX x) _)
theorem vSW : FO 54 Tryz.f54 [.tmp 2] 8 := mkO Tryz.func54 Tryz.ntmps54 Tryz.results54
theorem vY8 (xs : List Int) (hl : xs.length < 1073741824) : Fn 54 [vLP xs] (.fresh (xs.map (.int .i64)) 1 false) := by
 refine zD6 vBC hT vSW (by simp) ?_
 (repeat' (first|refine stn ?_|(with_reducible refine brr ?_ ?_<;>intro h)|(with_reducible refine zAD ?_ ?_<;>intro h)|with_reducible refine zAK ?_ ?_)); all_goals try (conv=>whnf)
 ·subst h; exact zC4
 all_goals refine zBI rfl rfl ?_ rfl (zDY (fun x => rfl) _)
 all_goals simp
theorem vNV {h : Hp} {n r q len sz : Nat} {agg : Bool} {R : List Int} {bs : Nat} {ba : Bool} (hb : h r = some ⟨[.own q 0 len], bs, ba⟩) (hq : h q = some ⟨R.map (.int .i64), sz, agg⟩) (hl : len = R.length) : frz h (n + 2) (.ptr r 0 0) = some (.cptr (vLP R) 0, [r, q]) := by
 have h1 : frz h (n + 1) (.own q 0 len) = some (vLP R, [q]) := zAM hq rfl hl (fun x => by cases n <;> rfl);unfold frz;simp only [hb, List.getElem?_cons_zero, h1]
theorem uDL {h : Hp} {n p r q len sz : Nat} {agg : Bool} {R : List Int} {bs bs' : Nat} {ba ba' : Bool} (hp : h p = some ⟨[.func (.func 55) [] [.ptr r 0 0]], bs', ba'⟩) (hb : h r = some ⟨[.own q 0 len], bs, ba⟩) (hq : h q = some ⟨R.map (.int .i64), sz, agg⟩) (hl : len = R.length) : frz h (n + 5) (.func (.func 56) [] [.ptr p 0 0]) = some (uAM R, [p, r, q]) := by
 have h1 : frz h (n + 2) (.ptr r 0 0) = some (.cptr (vLP R) 0, [r, q]) := vNV hb hq hl
 have h2 : frz h (n + 3) (.func (.func 55) [] [.ptr r 0 0]) = some (uH5 R, [r, q]) := by
  unfold frz;simp only [vBW, h1, List.append_nil, List.nil_append]
 have h3 : frz h (n + 4) (.ptr p 0 0) = some (.cptr (uH5 R) 0, [p, r, q]) := by
  unfold frz;simp only [hp, List.getElem?_cons_zero, h2]
 unfold frz;simp only [vBW, h3, List.append_nil, List.nil_append]
abbrev vHX (n : NodeL) (x0 x6 x8 : PV) : PV := .agg [x0, .int .i64 n.split.kind, .int .i64 n.split.index, .bool n.split.rat.neg, vBK n.split.rat.num, vBK n.split.rat.den, x6, .bool n.empty, x8]
theorem zBW {ρ : Nat → Nat} {k : Nat} {n : NodeL} {x0 x6 x8 y0 y6 y8 : PV} (h0 : rn ρ k 2 x0 y0) (h6 : rn ρ k 2 x6 y6) (h8 : rn ρ k 2 x8 y8) : rn ρ k 3 (vHX n x0 x6 x8) (vHX n y0 y6 y8) := by
 unfold vHX;rw [vZX];exact ⟨h0, rfl, rfl, rfl, rfl, rfl, h6, rfl, h8, trivial⟩
theorem zGC {ρ : Nat → Nat} {k r q a c : Nat} (h : r < k) (e : q = ρ r) (e2 : c = a) : rn ρ k 2 (.own r 0 a) (.own q 0 c) := by subst e e2; rw [zCT]; exact ⟨h, rfl⟩
theorem vKT {ρ : Nat → Nat} {k : Nat} : rn ρ k 2 .nilsl .nilsl := by rw [vWV]
theorem zEH (l : List LemL) : ∀ e ∈ l.map vBB, nr 3 e = true ∧ e ≠ .any := zAP fun _ => ⟨rfl, by simp [vBB]⟩
theorem vJH : ∀ (l l' : List LemL) (O O' : List Bool), l.length = O.length → vB3 (l ++ l') (O ++ O') = vB3 l O ++ vB3 l' O'
 | [], l', [], O', _ => by simp [vB3]
 | m :: l, l', b :: O, O', h => by
   have := vJH l l' O O' (by simpa using h);cases b <;> simp [vB3, this]
theorem vPY {l : List LemL} {O : List Bool} {i : Nat} (h : i < l.length) (h2 : O.length = l.length) : vB3 (l.take (i + 1)) (O.take (i + 1)) = vB3 (l.take i) (O.take i) ++ (if O[i]! = true then [l[i]!] else []) := by
 rw [List.take_succ_eq_append_getElem h, List.take_succ_eq_append_getElem (l := O) (by omega), vJH _ _ _ _ (by simp; omega), getElem!_pos l i h, getElem!_pos O i (by omega)];cases O[i] <;> simp [vB3]
theorem vNU {h : Hp} {n r len sz : Nat} {agg : Bool} {m : LemL} {P : List MultL} (hr : h r = some ⟨P.map vBA, sz, agg⟩) (hl : len = P.length) : frz h (n + 3) (.agg [.int .i64 m.unit, .bool m.upper, .bool m.value.neg, vBK m.value.num, vBK m.value.den, .own r 0 len]) = some (vBB ⟨m.unit, m.upper, m.value, P⟩, [r]) :=
 zD5 (zAG (ks := []) rfl (zAG (ks := []) rfl (zAG (ks := []) rfl (zAG (ks := []) rfl (zAG (ks := []) rfl (zAG (zAM hr rfl hl (fun x => zIX x)) rfl))))))
theorem zLT : ∀ (l : List LemL) (O : List Bool), (vB3 l O).length ≤ l.length
 | [], O => by simp [vB3]
 | m :: l, [] => by simp [vB3]
 | m :: l, b :: O => by
   have := zLT l O;unfold vB3
   split <;> simp <;> omega
theorem zGL (l : List NodeL) : ∀ e ∈ l.map vBD, nr 3 e = true ∧ e ≠ .any := zAP fun x => by rw [zBJ]; exact ⟨rfl, by simp⟩
theorem vN2 : ∀ (ks ks' : List NodeL) (b : Int) (R : List Int), vDT (ks ++ ks') b R = vDT ks b R ++ vDT ks' b R
 | [], _, _, _ => rfl
 | k :: ks, ks', b, R => by simp only [List.cons_append, vDT, vN2 ks ks' b R]
theorem vUT {ks : List NodeL} {i : Nat} (h : i < ks.length) (b : Int) (R : List Int) : vDT (ks.take (i + 1)) b R = vDT (ks.take i) b R ++ [vHI ks[i]! b R] := by
 rw [List.take_succ_eq_append_getElem h, getElem!_pos ks i h, vN2];rfl
theorem zKV : ∀ (ks : List NodeL) (b : Int) (R : List Int), (vDT ks b R).length = ks.length
 | [], _, _ => rfl
 | k :: ks, b, R => by simp only [vDT, List.length_cons, zKV ks b R]
theorem vLL {ks : List NodeL} {i : Nat} (h : i < ks.length) (b : Int) (rest : List (List Bool)) : vBL (ks.drop i) b ++ rest = vCA ks[i]! b ++ (vBL (ks.drop (i + 1)) b ++ rest) := by
 rw [List.drop_eq_getElem_cons h, getElem!_pos ks i h, vBL, List.append_assoc]
theorem vUG {h : Hp} {m r q p a sz sz2 sz3 : Nat} {g1 g2 g3 : Bool} {n : NodeL} {L : List LemL} {K : List NodeL} {P : List MultL} (h1 : h r = some ⟨L.map vBB, sz, g1⟩) (h2 : h q = some ⟨K.map vBD, sz2, g2⟩) (h3 : h p = some ⟨P.map vBA, sz3, g3⟩) (ha : a = K.length) :
 frz h (m + 4) (vHX n (.own r 0 L.length) (.own q 0 a) (.own p 0 P.length)) = some (vA7 (.mk L n.split K n.empty P), [r, q, p]) :=
 zD5 (zAG (zAM h1 rfl rfl (fun x => zLW x)) (zAG (ks := []) rfl (zAG (ks := []) rfl (zAG (ks := []) rfl (zAG (ks := []) rfl (zAG (ks := []) rfl (zAG (zAM h2 rfl ha (fun x => zG8 x)) (zAG (ks := []) rfl (zAG (zAM h3 rfl rfl (fun x => zIX x)) rfl)))))))))
abbrev vNO (n : NodeL) (O : List Bool) (R : List Int) (i : Nat) : List LemL := (vB3 (n.lemmas.take i) (O.take i)).map (vDB (vCI R))
abbrev vP4 (ls : List (List Bool)) : Blk := ⟨[.imm (vDF ls)], 1, false⟩
theorem vI9 (n : NodeL) (b : Int) : vCA n b = ownB n.lemmas n.kids n.proof b :: vBL n.kids (b + n.lemmas.length) := by cases n; rfl
theorem vUS (n : NodeL) (b : Int) (R : List Int) : vHI n b R = .mk ((vB3 n.lemmas (ownB n.lemmas n.kids n.proof b)).map (vDB (vCI (R ++ vCJ (ownB n.lemmas n.kids n.proof b) b)))) n.split (vDT n.kids (b + n.lemmas.length) (R ++ vCJ (ownB n.lemmas n.kids n.proof b) b)) n.empty (vBM (vCI (R ++ vCJ (ownB n.lemmas n.kids n.proof b) b)) n.proof) := by cases n; rfl
theorem zIB : ∀ (bs : List Bool) (j : Int), (vCJ bs j).length ≤ bs.length
 | [], _ => by simp [vCJ]
 | true :: bs, j => by have := zIB bs (j + 1); simp only [vCJ, List.length_cons]; omega
 | false :: bs, j => by have := zIB bs (j + 1); simp only [vCJ, List.length_cons]; omega
theorem vF9 : ∀ (bs cs : List Bool) (j : Int), vCJ (bs ++ cs) j = vCJ bs j ++ vCJ cs (j + bs.length)
 | [], cs, j => by simp [vCJ]
 | true :: bs, cs, j => by simp only [List.cons_append, vCJ, vF9 bs cs (j + 1), List.length_cons]; rw [show j + 1 + (bs.length : Int) = j + ((bs.length + 1 : Nat) : Int) by omega]
 | false :: bs, cs, j => by simp only [List.cons_append, vCJ, vF9 bs cs (j + 1), List.length_cons]; rw [show j + 1 + (bs.length : Int) = j + ((bs.length + 1 : Nat) : Int) by omega]
theorem vSA {O : List Bool} {i : Nat} (h : i < O.length) (b : Int) : vCJ (O.take (i + 1)) b = vCJ (O.take i) b ++ (if O[i]! = true then [] else [b + i]) := by
 rw [List.take_succ_eq_append_getElem h, vF9, getElem!_pos O i h, List.length_take, Nat.min_eq_left (Nat.le_of_lt h)];cases O[i] <;> simp [vCJ]
theorem uB5 : FO 36 Tryz.f36 [.cell 8 32] 106 := mkO Tryz.func36 Tryz.ntmps36 Tryz.results36
theorem uG9 : ∀ (sz : Nat) (n : NodeL) (b : Int) (R : List Int) (rest : List (List Bool)), SizeOf.sizeOf n < sz → NodeRg n → 0 ≤ b → b + n.wt ≤ 2305843009213693952 → uGD R → R.length + n.wt ≤ 1073741000 →
 Fn 36 [vA7 n, .int .i64 b, vLP R, .ptr 0 0 0] (.wrt (vP4 (vCA n b ++ rest)) (vA7 (vHI n b R)) (vP4 rest)) := by
 intro sz
 induction sz with
 | zero => intro n b R rest h; omega
 | succ sz ih =>
   intro n b R rest hsz hn hb hbw hR hRw;have hwt := n.wt_eq;have hll := zKQ n.lemmas;have hln := hn.ln;have hkn := hn.kn;have hol : (ownB n.lemmas n.kids n.proof b).length = n.lemmas.length := zFC _ _ _;rw [vI9, vUS];obtain ⟨O, hO⟩ : ∃ O, ownB n.lemmas n.kids n.proof b = O := ⟨_, rfl⟩;rw [hO] at hol ⊢;have hcl := vY8 R (by have := hR.1; omega);refine zHB vBC hT uB5 (by simp) ?_;refine sns ?_;refine zBP (l' := vBL n.kids (b + n.lemmas.length) ++ rest) (by rw [List.take_of_length_le (by rw [Int.toNat_natCast, List.length_map]; exact Nat.le_refl _)]; rfl) ?_;refine sns ?_;refine zA5 hcl rfl ?_;refine sns ?_
   refine zA0 hT (fun i : Nat => [(1, .int .i64 b), (3, .ptr 0 0 0), (4, .cptr (vA7 n) 0), (6, .ptr 1 0 0), (8, .ptr 2 0 0), (9, vZU O), (32, vZU O), (33, .int .i64 O.length), (34, .int .i64 i)])
    (fun i => [(0, vP4 (vBL n.kids (b + n.lemmas.length) ++ rest)), (1, ⟨[.own 3 0 (R ++ vCJ (O.take i) b).length], 1, false⟩), (2, ⟨[.agg [.nilsl, .int .i64 0, .int .i64 0, .bool false, .nilsl, .nilsl, .nilsl, .bool false, .nilsl]], 9, true⟩), (3, ⟨(R ++ vCJ (O.take i) b).map (.int .i64), 1, false⟩)]) [] 4
    (fun i => i ≤ O.length) (fun i => O.length - i) 0 (by simp) (by decide) (by simp) ?_ ?_
   ·exact ⟨[2, 3, 18], [1], [(4, .cptr (vA7 n) 0)], [], ⟨⟨⟨_, rfl⟩, trivial⟩, ⟨⟨6, [1], zC6 rfl, rfl⟩, trivial⟩, trivial⟩, ⟨zAC rfl rfl, apx, zAH rfl, apx, apx, zAE rfl rfl, zAE rfl rfl, zAC rfl (by simp), zAC rfl rfl, trivial⟩,
     ⟨bbx, zAI (by decide) rfl (by rw [zCT]; exact ⟨by decide, by simp [vCJ]; rfl⟩) rfl rfl, bbx, zAF (by decide) rfl (by simp [vCJ]) (fun e he => by obtain ⟨x, _, rfl⟩ := List.mem_map.1 he; exact ⟨rfl, by simp⟩) rfl, trivial⟩, by simp [ren]⟩
   intro i hi
   have hrl : (vCJ (O.take i) b).length ≤ i := by
    have := zIB (O.take i) b;have : (O.take i).length ≤ i := by simp; omega
    omega
   by_cases hi' : i < O.length
   ·have ers := vSA hi' b
    (repeat' (first|refine stp ?_|with_reducible(refine brr ?_ ?_<;>intro h)));all_goals try(conv=>whnf)
    ·exact ⟨i + 1, ⟨by omega, by omega⟩, [1, 2, 3], [], [], [], ttt, ⟨zAC rfl rfl, apx, zAH rfl, apx, apx, zAE rfl rfl, zAE rfl rfl, zAC rfl rfl, zAC rfl (by omega), trivial⟩,
      ⟨bbx, zAI (by decide) rfl (by rw [ers, if_pos (by assumption), List.append_nil, zCT]; exact ⟨by decide, rfl⟩) rfl rfl, bbx, zAF (by decide) rfl (by rw [ers, if_pos (by assumption), List.append_nil]) (fun e he => by obtain ⟨x, _, rfl⟩ := List.mem_map.1 he; exact ⟨rfl, by simp⟩) rfl, trivial⟩, by simp [ren]⟩
    ·exact ⟨i + 1, ⟨by omega, by omega⟩, [1, 2, _], [], [], [], ttt, ⟨zAC rfl rfl, (apy rfl), zAH rfl, (apy rfl), (apy rfl), zAE rfl rfl, zAE rfl rfl, zAC rfl rfl, zAC rfl (by omega), trivial⟩,
      ⟨bbx, zAI (by decide) rfl (by rw [ers, if_neg (by simp_all), zCT]; exact ⟨by decide, by simp [Nat.add_assoc]; rfl⟩) rfl rfl, bbx, zAF (by decide) rfl (by rw [ers, if_neg (by simp_all)]; simp) (fun e he => by obtain ⟨x, _, rfl⟩ := List.mem_map.1 he; exact ⟨rfl, by simp⟩) rfl, trivial⟩, by simp [ren]⟩
    all_goals (exfalso; omega)
   ·obtain rfl : i = O.length := by omega
    rw [List.take_length];obtain ⟨R', hR'⟩ : ∃ R', R ++ vCJ O b = R' := ⟨_, rfl⟩
    have hR2 : uGD R' := by
     have h1 := zIB O b;rw [← hR'];refine ⟨by have := hR.1; simp only [List.length_append]; omega, fun r hr => ?_⟩;rcases List.mem_append.1 hr with hr | hr
     ·exact hR.2 r hr
     ·have h2 := vJ7 (zGX O b) r hr
      have h3 := zJI O b r hr;exact ⟨by omega, by omega⟩
    have hRl : R'.length + (n.wt - n.lemmas.length) ≤ 1073741000 := by
     have h1 := zIB O b;rw [← hR', List.length_append]; omega
    rw [hR'];refine sus ?_;refine zAS ?_; (repeat' (first|refine stu ?_|with_reducible(refine brr ?_ ?_<;>intro h)));all_goals try(conv=>whnf)
    ·exfalso; omega
    (refine zAS ?_; refine sus ?_)
    (refine zAS ?_; refine sus ?_)
    refine vB0 [] [(1, .int .i64 b), (3, .ptr 0 0 0), (4, .cptr (vA7 n) 0), (6, .cptr (vLP R') 0), (8, .ptr 1 0 0), (9, vZU O), (13, uAM R')]
     [(0, vP4 (vBL n.kids (b + n.lemmas.length) ++ rest)), (1, ⟨[.agg [.nilsl, .int .i64 0, .int .i64 0, .bool false, .nilsl, .nilsl, .nilsl, .bool false, .nilsl]], 9, true⟩)] [] 2 (by decide) (by simp) trivial ?_ ?_
    ·exact ⟨[2], [1, 3, 6], [(6, .cptr (vLP R') 0), (13, uAM R')], [], ⟨⟨⟨_, rfl⟩, ⟨_, rfl⟩, ⟨_, rfl⟩, trivial⟩, ⟨⟨6, [1, 3], vNV rfl rfl rfl, rfl⟩, ⟨6, [6, 1, 3], uDL rfl rfl rfl rfl, rfl⟩, trivial⟩, trivial⟩, ⟨zAC rfl rfl, apx, zAH rfl, zAH rfl, apx, zAE rfl rfl, zDJ rfl, trivial⟩,
      ⟨bbx, bbx, trivial⟩, by simp [ren]⟩
    refine sus ?_;refine zA5 (vU8 n.proof R' hR2 hn.prf) rfl ?_;refine sus ?_
    (refine zAS ?_; refine sus ?_)
    have hpl : (vBM (vCI R') n.proof).length = n.proof.length := by simp [vBM]
    obtain ⟨PF, hPF⟩ : ∃ PF, vBM (vCI R') n.proof = PF := ⟨_, rfl⟩;rw [hPF] at hpl ⊢
    refine vB0 [] [(1, .int .i64 b), (3, .ptr 0 0 0), (4, .cptr (vA7 n) 0), (6, .cptr (vLP R') 0), (8, .ptr 1 0 0), (9, vZU O), (13, uAM R'), (14, .ptr 2 0 0), (60, .imm (n.lemmas.map vBB)), (61, .int .i64 n.lemmas.length), (62, .int .i64 0)]
     [(0, vP4 (vBL n.kids (b + n.lemmas.length) ++ rest)), (1, ⟨[.agg [.nilsl, .int .i64 0, .int .i64 0, .bool false, .nilsl, .nilsl, .nilsl, .bool false, .nilsl]], 9, true⟩), (2, ⟨[.agg [.nilsl, .int .i64 n.split.kind, .int .i64 n.split.index, .bool n.split.rat.neg, vBK n.split.rat.num, vBK n.split.rat.den, .nilsl, .bool n.empty, .own 3 0 PF.length]], 9, true⟩), (3, ⟨PF.map vBA, 7, true⟩)] [] 4 (by decide) (by simp) trivial ?_ ?_
    ·exact ⟨[1, 11, 9], [], [], [], ttt, ⟨zAC rfl rfl, apx, zAH rfl, zAH rfl, apx, zAE rfl rfl, zDJ rfl, apx, zAE rfl rfl, zAC rfl (by simp), zAC rfl rfl, trivial⟩,
      ⟨bbx, bbx, zAI (by decide) rfl (zBW vKT vKT (zGC (by decide) rfl (by simp))) rfl rfl, zAF (by decide) rfl rfl (zBZ _) rfl, trivial⟩, by simp [ren]⟩
    refine sts ?_
    refine zB8 hT [(.cl 2 0 0, 6, true)] (fun (i : Nat) => [(1, .int .i64 b), (3, .ptr 0 0 0), (4, .cptr (vA7 n) 0), (6, .cptr (vLP R') 0), (8, .ptr 1 0 0), (9, vZU O), (13, uAM R'), (14, .ptr 2 0 0), (60, .imm (n.lemmas.map vBB)), (61, .int .i64 n.lemmas.length), (62, .int .i64 i)])
     (fun i => [(0, vP4 (vBL n.kids (b + n.lemmas.length) ++ rest)), (1, ⟨[.agg [.nilsl, .int .i64 0, .int .i64 0, .bool false, .nilsl, .nilsl, .nilsl, .bool false, .nilsl]], 9, true⟩), (2, ⟨[vHX n (.own 4 0 (vNO n O R' i).length) .nilsl (.own 3 0 PF.length)], 9, true⟩), (3, ⟨PF.map vBA, 7, true⟩), (4, ⟨(vNO n O R' i).map vBB, 6, true⟩)]) [] 5
     (fun i => i ≤ n.lemmas.length) (fun i => n.lemmas.length - i) 0 (Nat.zero_le _) (by decide) (by simp) ⟨_, _, rfl, rfl, rfl, trivial⟩ ?_ ?_
    ·exact ⟨[1, 2, 3, 4], [], [], [], ttt, ⟨zAC rfl rfl, apx, zAH rfl, zAH rfl, apx, zAE rfl rfl, zDJ rfl, apx, zAE rfl rfl, zAC rfl rfl, zAC rfl rfl, trivial⟩,
      ⟨bbx, bbx, zAI (by decide) rfl (zBW (zGC (by decide) rfl (by simp [vB3])) vKT (zGC (by decide) rfl rfl)) rfl rfl, zAF (by decide) rfl rfl (zBZ _) rfl, zAF (by decide) rfl rfl (zEH _) rfl, trivial⟩, by simp [ren]⟩
    intro i hi;by_cases hi' : i < n.lemmas.length
    ·have hks := vPY hi' hol
     have hlm : n.lemmas[i]! ∈ n.lemmas := zA1 hi'
     have hlI : (vNO n O R' i).length ≤ i := by
      have := zLT (n.lemmas.take i) (O.take i);simp only [List.length_map, List.length_take] at this ⊢;omega
     refine sus ?_;refine zAS ?_; (repeat' (first|refine stu ?_|with_reducible(refine brr ?_ ?_<;>intro h)));all_goals try(conv=>whnf)
     ·(refine zAS ?_; refine sus ?_)
      (refine zAS ?_; refine sus ?_)
      refine zAS ?_; (repeat' (first|refine stu ?_|with_reducible(refine brr ?_ ?_<;>intro h)));all_goals try(conv=>whnf)
      ·refine zA5 (vU8 n.lemmas[i]!.proof R' hR2 (hn.lem _ hlm)) rfl ?_
       refine sus ?_
       refine vB0 [] [(1, .int .i64 b), (3, .ptr 0 0 0), (4, .cptr (vA7 n) 0), (6, .cptr (vLP R') 0), (8, .ptr 1 0 0), (9, vZU O), (13, uAM R'), (14, .ptr 2 0 0), (60, .imm (n.lemmas.map vBB)), (61, .int .i64 n.lemmas.length), (62, .int .i64 i), (16, .ptr 5 0 0)]
        [(0, vP4 (vBL n.kids (b + n.lemmas.length) ++ rest)), (1, ⟨[.agg [.nilsl, .int .i64 0, .int .i64 0, .bool false, .nilsl, .nilsl, .nilsl, .bool false, .nilsl]], 9, true⟩), (2, ⟨[vHX n (.own 4 0 (vNO n O R' i).length) .nilsl (.own 3 0 PF.length)], 9, true⟩), (3, ⟨PF.map vBA, 7, true⟩), (4, ⟨(vNO n O R' i).map vBB, 6, true⟩), (5, ⟨[vBB (vDB (vCI R') n.lemmas[i]!)], 6, true⟩)] [] 6 (by decide) (by simp) trivial ?_ ?_
       ·exact ⟨[1, 2, 3, 4, 9], [19], [], [(9, [vBB (vDB (vCI R') n.lemmas[i]!)])], ⟨⟨⟨_, rfl⟩, trivial⟩, trivial, ⟨⟨_, 6, [19], rfl, zAG (ks := [19]) (ls := []) (vNU rfl (List.length_map _)) rfl, rfl⟩, trivial⟩⟩, ⟨zAC rfl rfl, apx, zAH rfl, zAH rfl, apx, zAE rfl rfl, zDJ rfl, apx, zAE rfl rfl, zAC rfl rfl, zAC rfl rfl, apx, trivial⟩,
         ⟨bbx, bbx, zAI (by decide) rfl (zBW (zGC (by decide) rfl rfl) vKT (zGC (by decide) rfl rfl)) rfl rfl, zAF (by decide) rfl rfl (zBZ _) rfl, zAF (by decide) rfl rfl (zEH _) rfl, bbx, trivial⟩, by simp [ren]⟩
       refine sts ?_;refine zBE ⟨rfl, (List.length_map _).symm, ?_⟩ ?_
       ·show (vNO n O R' i).length + 1 ≤ 4294967296
        omega
       refine sts ?_
       have el : vNO n O R' (i + 1) = vNO n O R' i ++ [vDB (vCI R') n.lemmas[i]!] := by
        unfold vNO;rw [hks, if_pos (by assumption), List.map_append];rfl
       refine ⟨i + 1, ⟨by omega, by omega⟩, [1, 2, 3, _], [], [], [], ttt, ⟨zAC rfl rfl, (apy rfl), zAH rfl, zAH rfl, (apy rfl), zAE rfl rfl, zDJ rfl, (apy rfl), zAE rfl rfl, zAC rfl rfl, zAC rfl (by omega), trivial⟩,
        ⟨bbx, bbx, zAI (by decide) rfl (zBW (zGC (by decide) rfl ?_) vKT (zGC (by decide) rfl rfl)) rfl rfl, zAF (by decide) rfl rfl (zBZ _) rfl, zAF (by decide) rfl ?_ (zEH _) rfl, trivial⟩, by simp [ren]⟩
       ·rw [el, List.length_append]; rfl
       ·rw [el, List.map_append]; rfl
      ·have el : vNO n O R' (i + 1) = vNO n O R' i := by
        unfold vNO;rw [hks, if_neg (by simp_all), List.append_nil]
       refine sts ?_
       exact ⟨i + 1, ⟨by omega, by omega⟩, [1, 2, 3, 4], [], [], [], ttt, ⟨zAC rfl rfl, apx, zAH rfl, zAH rfl, apx, zAE rfl rfl, zDJ rfl, apx, zAE rfl rfl, zAC rfl rfl, zAC rfl (by omega), trivial⟩,
        ⟨bbx, bbx, zAI (by decide) rfl (zBW (zGC (by decide) rfl (by rw [el])) vKT (zGC (by decide) rfl rfl)) rfl rfl, zAF (by decide) rfl rfl (zBZ _) rfl, zAF (by decide) rfl (by rw [el]) (zEH _) rfl, trivial⟩, by simp [ren]⟩
     ·exfalso; omega
    ·obtain rfl : i = n.lemmas.length := by omega
     obtain ⟨LM, hLM⟩ : ∃ LM, vNO n O R' n.lemmas.length = LM := ⟨_, rfl⟩;rw [hLM]
     (repeat' (first|refine stp ?_|with_reducible(refine brr ?_ ?_<;>intro h)));all_goals try(conv=>whnf)
     all_goals try (exfalso; omega)
     refine zB8 hT [(.cl 2 0 6, 9, true)] (fun (i : Nat) => [(1, .int .i64 b), (3, .ptr 0 0 0), (4, .cptr (vA7 n) 0), (6, .cptr (vLP R') 0), (8, .ptr 1 0 0), (14, .ptr 2 0 0), (84, .imm (n.kids.map vBD)), (85, .int .i64 n.kids.length), (86, .int .i64 i)])
      (fun i => [(0, vP4 (vBL (n.kids.drop i) (b + n.lemmas.length) ++ rest)), (1, ⟨[.agg [.nilsl, .int .i64 0, .int .i64 0, .bool false, .nilsl, .nilsl, .nilsl, .bool false, .nilsl]], 9, true⟩), (2, ⟨[vHX n (.own 4 0 LM.length) (.own 5 0 i) (.own 3 0 PF.length)], 9, true⟩), (3, ⟨PF.map vBA, 7, true⟩), (4, ⟨LM.map vBB, 6, true⟩), (5, ⟨(vDT (n.kids.take i) (b + n.lemmas.length) R').map vBD, 9, true⟩)]) [] 6
      (fun i => i ≤ n.kids.length) (fun i => n.kids.length - i) 0 (Nat.zero_le _) (by decide) (by simp) ⟨_, _, rfl, rfl, rfl, trivial⟩ ?_ ?_
     ·exact ⟨[1, 2, 3, 4, _], [], [], [], ttt, ⟨zAC rfl rfl, (apy rfl), zAH rfl, zAH rfl, (apy rfl), (apy rfl), zAE rfl rfl, zAC rfl (by simp), zAC rfl rfl, trivial⟩,
       ⟨bbx, bbx, zAI (by decide) rfl (zBW (zGC (by decide) rfl rfl) (zGC (by decide) rfl rfl) (zGC (by decide) rfl rfl)) rfl rfl, zAF (by decide) rfl rfl (zBZ _) rfl, zAF (by decide) rfl rfl (zEH _) rfl, zAF (by decide) rfl rfl (zGL _) rfl, trivial⟩, by simp [ren]⟩
     intro i hi;by_cases hi' : i < n.kids.length
     ·have hkm : n.kids[i]! ∈ n.kids := zA1 hi'
      have hks1 := vG6 hi';have hcl1 := zKV (n.kids.take i) (b + n.lemmas.length) R'
      have ck : Fn 36 [vA7 n.kids[i]!, .int .i64 (b + ((n.lemmas.map vBB).length : Nat)), vLP R', .ptr 0 0 0] (.wrt (vP4 (vCA n.kids[i]! (b + n.lemmas.length) ++ (vBL (n.kids.drop (i + 1)) (b + n.lemmas.length) ++ rest))) (vA7 (vHI n.kids[i]! (b + n.lemmas.length) R')) (vP4 (vBL (n.kids.drop (i + 1)) (b + n.lemmas.length) ++ rest))) := by
       rw [List.length_map];exact ih n.kids[i]! (b + n.lemmas.length) R' _ (by have := NodeL.sizeOf_kid hkm; omega) (hn.kid _ hkm) (by omega) (by omega) hR2 (by omega)
      (repeat' (first|refine stn ?_|(with_reducible refine brr ?_ ?_<;>intro h)|(with_reducible refine zAD ?_ ?_<;>intro h)|with_reducible refine zAK ?_ ?_)); all_goals try (conv=>whnf)
      ·refine zJW (r := 0) (ks := []) ck rfl (congrArg (fun x => some (vP4 x)) (vLL hi' _ rest)) rfl rfl (fun e he => by simp at he; subst he; rfl) (fun i => by simp [vCK]) ?_
       refine sns ?_;refine zBE ⟨rfl, by show i = (List.map vBD _).length; rw [List.length_map, hcl1, List.length_take]; omega, ?_⟩ ?_
       ·show i + 1 ≤ 4294967296
        omega
       refine sns ?_
       refine ⟨i + 1, ⟨by omega, by omega⟩, [1, 2, 3, 4, _], [], [], [], ttt, ⟨zAC rfl rfl, (apy rfl), zAH rfl, zAH rfl, (apy rfl), (apy rfl), zAE rfl rfl, zAC rfl rfl, zAC rfl (by omega), trivial⟩,
        ⟨bbx, bbx, zAI (by decide) rfl (zBW (zGC (by decide) rfl rfl) (zGC (by decide) rfl rfl) (zGC (by decide) rfl rfl)) rfl rfl, zAF (by decide) rfl rfl (zBZ _) rfl, zAF (by decide) rfl rfl (zEH _) rfl, zAF (by decide) rfl ?_ (zGL _) rfl, trivial⟩, by simp [ren]⟩
       rw [vUT hi', List.map_append];show _ ++ [vA7 _] = _ ++ [vBD _]
       rw [zBJ]
      all_goals (exfalso; omega)
     ·obtain rfl : i = n.kids.length := by omega
      obtain ⟨KD, hKD⟩ : ∃ KD, vDT n.kids (b + n.lemmas.length) R' = KD := ⟨_, rfl⟩;have hkl : KD.length = n.kids.length := by rw [← hKD]; exact zKV _ _ _
      rw [List.take_length, List.drop_length, hKD];refine sus ?_;refine zAS ?_; (repeat' (first|refine stu ?_|with_reducible(refine brr ?_ ?_<;>intro h)));all_goals try(conv=>whnf)
      ·exfalso; omega
      have elm : (vB3 n.lemmas O).map (vDB (vCI R')) = LM := by
       rw [← hLM];unfold vNO;rw [List.take_length, ← hol, List.take_length]
      rw [elm];refine vB0 [] [(8, .ptr 1 0 0), (14, .ptr 2 0 0)] [(0, vP4 rest), (1, ⟨[.agg [.nilsl, .int .i64 0, .int .i64 0, .bool false, .nilsl, .nilsl, .nilsl, .bool false, .nilsl]], 9, true⟩), (2, ⟨[vA7 (.mk LM n.split KD n.empty PF)], 9, true⟩)] [] 3 (by decide) (by simp) trivial ?_ ?_
      ·exact ⟨[1, 2], [3, 4, 5], [], [(2, [vA7 (.mk LM n.split KD n.empty PF)])], ⟨⟨⟨_, rfl⟩, ⟨_, rfl⟩, ⟨_, rfl⟩, trivial⟩, trivial, ⟨⟨_, 6, [4, 5, 3], rfl, zAG (ks := [4, 5, 3]) (ls := []) (vUG rfl rfl rfl hkl.symm) rfl, rfl⟩, trivial⟩⟩, ⟨apx, apx, trivial⟩,
        ⟨bbx, bbx, bbx, trivial⟩, by simp [ren]⟩
      refine sns ?_
      ·exact zJQ rfl rfl rfl rfl rfl (fun e he => by simp at he; subst he; rfl)
def vB9 (n : NodeL) : NodeL := if n.valid = true then vHI n 0 [] else zeroN
theorem vPG : FO 13 Tryz.f13 [.cell 2 32] 12 := mkO Tryz.func13 Tryz.ntmps13 Tryz.results13
theorem vUD (n : NodeL) (hs : n.Sm) (hn : NodeRg n) (hw : n.wt ≤ 536870912) : FnM Tryz.prog G0 13 [vA7 n] (fun v s' _ => vE8 s'.h v (vA7 (vB9 n))) (start [vA7 n]) [] := by
 have cv := zJX n hs;have hne : vDF (vCA n 0) ≠ [] := by rw [vI9]; simp
 unfold start;refine uEH vBC vPG (by simp) ?_;refine zAQ (zBF vBC hT (by kernel_rfl) ?_);refine sns ?_;refine vCR (vV9 vBC hT (by kernel_rfl) ?_);refine sns ?_;refine zAA cv rfl ?_
 (repeat' (first|refine stn ?_|(with_reducible refine brr ?_ ?_<;>intro h)|(with_reducible refine zAD ?_ ?_<;>intro h)|with_reducible refine zAK ?_ ?_)); all_goals try (conv=>whnf)
 ·refine vCR (zAQ (zBF vBC hT (by kernel_rfl) ?_))
  refine sns ?_;refine vEO [] [(1, .cptr (vA7 n) 0), (2, .ptr 1 0 0), (3, .ptr 0 0 0)] [(0, ⟨[.nilsl], 1, false⟩), (1, ⟨[.agg [.nilsl, .int .i64 0, .int .i64 0, .bool false, .nilsl, .nilsl, .nilsl, .bool false, .nilsl]], 9, true⟩)] [] 2 (by decide) (by simp) trivial ?_ ?_
  ·exact ⟨[5, 1], [0], [(1, .cptr (vA7 n) 0)], [], ⟨⟨⟨_, rfl⟩, trivial⟩, ⟨⟨6, [0], zC6 rfl, rfl⟩, trivial⟩, trivial⟩, ⟨zAH rfl, apx, apx, trivial⟩, ⟨bbx, bbx, trivial⟩, by simp [ren]⟩
  refine zAQ (zBT (zF5 hT 1 rfl ?_));refine sns ?_;refine zIL rfl rfl rfl rfl ?_;refine FnM.args (uHW (a := vA7 n) (b := .int .i64 0) (b' := .int .i64 0) (c := .ptr 0 0 0) rfl) ?_;have hI := uGV _ n 0 [] (fun _ => .any) (Nat.lt_succ_self _) hn (by omega) (by omega) (by simp; omega) (fun e he => by cases he);rw [zGB, zF9] at hI;have hN := hI.mono (K' := fun pv s' μ' => True ∧ nr 3 pv = true ∧ ∃ k', k' ≠ 0 ∧ k' < s'.nx ∧ s'.h 0 = some ⟨[.own k' 0 (vDF (vCA n 0)).length], 1, false⟩ ∧ s'.h k' = some ⟨vDF (vCA n 0), 1, false⟩ ∧ s'.z 0 = false ∧ s'.z k' = false) (fun pv s' μ' ⟨k1, k2, k', k3, k4, k5, k6, k7, k8⟩ => ⟨trivial, k2, k', k3, k4, by rw [k5]; simp, by rw [k6]; simp, k7, k8⟩)
  have hA : ∀ a ∈ [vA7 n, .int .i64 0, .ptr 0 0 0], a = .ptr 0 0 0 ∨ nr 3 a = true := fun a ha => by
   simp only [List.mem_cons, List.not_mem_nil, or_false] at ha;rcases ha with rfl | rfl | rfl
   ·exact Or.inr rfl
   ·exact Or.inr rfl
   ·exact Or.inl rfl
  refine (uEJ (K0 := fun _ _ => True) (new := vDF (vCA n 0)) (t0 := fun _ => .any) hN hA (by simp) (fun e he => (zB0 e he).nr.1) hne rfl rfl).mono fun pv s' μ' hK => ?_
  obtain ⟨-, rfl⟩ := hK;refine zCO (vEO [] [(1, .cptr (vA7 n) 0), (2, .ptr 1 0 0), (3, .ptr 0 0 0)] [(0, vP4 (vCA n 0)), (1, ⟨[.agg [.nilsl, .int .i64 0, .int .i64 0, .bool false, .nilsl, .nilsl, .nilsl, .bool false, .nilsl]], 9, true⟩)] [] 2 (by decide) (by simp) trivial ?_ ?_)
  ·exact ⟨[0, 1], [3], [], [(0, [.imm (vDF (vCA n 0))])], ⟨⟨⟨_, rfl⟩, trivial⟩, trivial, ⟨⟨_, 6, [3], rfl, zAG (ks := [3]) (ls := []) (zAM (f := vZU) rfl rfl (by simp) (fun x => rfl)) rfl, rfl⟩, trivial⟩⟩, ⟨zAH rfl, apx, apx, trivial⟩, ⟨bbx, bbx, trivial⟩, by simp [ren]⟩
  refine vQT (μ2 := []) (by simp) (vQW vBC hT (by kernel_rfl) ?_);have cc := uEK (uG9 _ n 0 [] [] (Nat.lt_succ_self _) hn (by omega) (by omega) ⟨by simp, fun r hr => by cases hr⟩ (by simp; omega));rw [List.append_nil] at cc;refine sns ?_;refine zJW (r := 0) (ks := []) cc rfl rfl rfl rfl (fun e he => by simp at he; subst he; rfl) (fun i => by simp [vCK]) ?_;refine sns ?_;refine zAB rfl ?_;rw [show vB9 n = vHI n 0 [] from if_pos (by assumption)]
 ·refine zAB rfl ?_
  rw [show vB9 n = zeroN from if_neg (by simp_all)];rfl
theorem vJX (n : NodeL) (hs : n.Sm) (hn : NodeRg n) (hw : n.wt ≤ 536870912) : Fn 13 [vA7 n] (.data (vA7 (vB9 n))) :=
 zNM (zNL (K := fun v s => gives s.h v (vA7 (vB9 n))) ((vUD n hs hn hw).mono fun _ _ _ h => by unfold vE8 at h; exact h))
end Go.PI.Tryz
