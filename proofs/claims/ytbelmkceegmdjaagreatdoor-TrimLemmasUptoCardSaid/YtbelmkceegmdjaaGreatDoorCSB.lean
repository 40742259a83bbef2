/-
  Trees that were read: their walk stays in bounds.
-/
import Derived.Test.YtbelmkceegmdjaaGreatDoorCSA
import Derived.Test.YtbelmkceegmdjaaGreatDoorCTR
import Derived.Test.YtbelmkceegmdjaaGreatDoorCKA
import Derived.Test.YtbelmkceegmdjaaGreatDoorCPE
set_option linter.unusedVariables false
set_option linter.unusedSimpArgs false
set_option linter.unnecessarySimpa false
namespace Go.PI.Tryz
open Go.Proofs Go.PI
set_option maxHeartbeats 0
set_option maxHeartbeats 0
set_option maxHeartbeats 0
theorem vUU {P V C : Nat} {l : List MultL} (hr : ∀ p ∈ l, okR p.coef) (hl : l.length ≤ 400) (hC : sC l ≤ C) (hB : P + V + C ≤ 1048600) : vLX P V l := by
 refine ⟨⟨by omega, fun p hp => ?_⟩, ?_⟩
 ·have := uFI hp
  unfold lQ at this;exact ⟨hr p hp, by omega, by omega⟩
 ·have h1 : l.length * (P + 2 * V + 18) ≤ 400 * (P + 2 * V + 18) := Nat.mul_le_mul_right _ hl
  have h2 : vHW l ≤ C := hC;omega
theorem vX6 {P V v : Nat} : ∀ (k : Nat) (n : NodeL) (c : Nat), SizeOf.sizeOf n < k → n.NOk → n.wt ≤ 400 → n.tot spF ≤ P → P + V + n.tot coF ≤ 1048600 → n.tot uF ≤ v → n.tot lF ≤ V - v → n.wt ≤ c → NodeZ P V v c n := by
 intro k
 induction k with
 | zero => intro n c h; omega
 | succ k ih =>
   intro n c h hok hw hP hB hu hl hc;have s1 := zKI spF n;have s2 := zKI uF n;have s4 := zKI lF n;have s3 := zKI coF n;have hwt := n.wt_eq;have hll := zLP n.lemmas;refine .mk v c n (fun m hm => ?_) (by omega) (fun m hm => ⟨⟨(hok.lem m hm).1, by unfold vEW; omega, by unfold vEW; omega⟩, ?_⟩) ?_ ?_ fun x hx => ?_
   ·split
    ·rename_i hup
     have h1 : (if m.upper = true then lQ m.value else 0) ≤ uL n.lemmas := zFK (f := fun m : LemL => if m.upper = true then lQ m.value else 0) hm;rw [if_pos hup] at h1;have e : uF n = uL n.lemmas := rfl;have e2 : vEW m.value = lQ m.value := rfl;omega
    ·rename_i hup
     have h1 : (if m.upper = true then 0 else lQ m.value) ≤ loL n.lemmas := zFK (f := fun m : LemL => if m.upper = true then 0 else lQ m.value) hm;rw [if_neg hup] at h1;have e : lF n = loL n.lemmas := rfl;have e2 : vEW m.value = lQ m.value := rfl;omega
   ·have h1 : vDI m ≤ (n.lemmas.map vDI).sum := zFK hm
    have h2 : sC m.proof ≤ (n.lemmas.map fun m => sC m.proof).sum := zFK (f := fun m : LemL => sC m.proof) hm;have e1 : vDI m = 1 + m.proof.length := rfl;have e2 : coF n = (n.lemmas.map fun m => sC m.proof).sum + sC n.proof := rfl;exact vUU (hok.lem m hm).2 (by omega) (C := n.tot coF) (by omega) hB
   ·have e1 : spF n = n.split.rat.num.length + n.split.rat.den.length := rfl
    exact ⟨hok.spl, by omega, by omega⟩
   ·have e2 : coF n = (n.lemmas.map fun m => sC m.proof).sum + sC n.proof := rfl
    exact vUU hok.prf (by omega) (C := n.tot coF) (by omega) hB
   ·have k1 := vFS (f := spF) hx
    have k2 := vFS (f := uF) hx;have k4 := vFS (f := lF) hx;have k3 := vFS (f := coF) hx;have k5 : x.wt ≤ (n.kids.map NodeL.wt).sum := zFK hx;exact ih x _ (by have := NodeL.sizeOf_kid hx; omega) (hok.kid hx) (by omega) (by omega) (by omega) (by omega) (by omega) (by omega)
structure inZ (q : QryL) (n : NodeL) (P V v : Nat) : Prop where
 q : szQ q P
 hv : v ≤ V
 B : P + 2 * V + 20 ≤ 20000000
 z : NodeZ P V v 1048576 n
 sm : n.Sm
 cnt : n.cnt ≤ 4194304
theorem szQ.le {q : QryL} {P P' : Nat} (hq : szQ q P) (h : P ≤ P') : szQ q P' := by
 have hg : vTN P' q.g := ⟨⟨hq.g.1.1, fun f hf => zEF h (hq.g.1.2 f hf)⟩, ⟨hq.g.2.1, fun f hf => zEF h (hq.g.2.2 f hf)⟩⟩;exact ⟨by have := hq.P1; omega, hg, vX1 h hq.r, hq.goal⟩
structure inB (q : QryL) (n : NodeL) (Bq Bn : Nat) : Prop where
 q : szQ q Bq
 B : Bq + Bn ≤ 1048590
 ok : n.NOk
 sm : n.Sm
 bk : n.bk ≤ Bn
 wt : n.wt ≤ Bn
theorem inB.z {q : QryL} {n : NodeL} {Bq Bn : Nat} (h : inB q n Bq Bn) (hw : n.wt ≤ 400) : inZ q n (Bq + n.tot spF) (n.tot vlF) (n.tot uF) := by
 have hb := uJR n;have hvl := uEY n;have hbk := h.bk;have hB := h.B;have hc := uAL _ n (Nat.lt_succ_self _);exact ⟨h.q.le (by omega), by omega, by omega, vX6 _ n _ (Nat.lt_succ_self _) h.ok hw (by omega) (by omega) (Nat.le_refl _) (by omega) (by omega), h.sm, by omega⟩
end Go.PI.Tryz
