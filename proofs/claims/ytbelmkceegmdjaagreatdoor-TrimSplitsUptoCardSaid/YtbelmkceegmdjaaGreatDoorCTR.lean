/-
  The node with a path; a node replaced; the scope of a node.
-/
import Derived.Test.YtbelmkceegmdjaaGreatDoorCPD
import Derived.Test.YtbelmkceegmdjaaGreatDoorCNA
import Derived.Test.YtbelmkceegmdjaaGreatDoorCPE
set_option linter.unusedVariables false
set_option linter.unusedSimpArgs false
set_option linter.unnecessarySimpa false
set_option maxHeartbeats 0
namespace Go.PI.Tryz
open Go.Proofs Go.PI
theorem uAO:FO 141 Tryz.f141 [.tmp 4] 26:=mkO Tryz.func141 Tryz.ntmps141 Tryz.results141
theorem vXL(xs ys:List Int)(h1:xs.length<2097152):Fn 141 [vBJ xs,vBJ ys] (.data (.bool (decide (xs=ys)))):=by
 refine zAL vBD hT uAO zsm ?_
 (refine gon ?_ ?_<;>intro h)
 ·refine zAB rfl ?_
  simp; intro e; subst e; exact h rfl
 ·
  refine zBA hT (fun i:Nat=>[(0,vBJ xs),(1,vBJ ys),(12,.int .i64 xs.length),(13,.int .i64 i)]) (fun i=>i≤xs.length∧∀ j,j<i→xs[j]! = ys[j]!) (fun i=>xs.length - i) 0 zsm ?_ ?_
  ·exact⟨zAE rfl rfl,zAE rfl rfl,zAC rfl zsm,zAC rfl rfl,trivial⟩
  ·intro i ⟨hi1,hi2⟩
   (repeat' (first|refine stn ?_|(with_reducible refine brr ?_ ?_<;>intro h)|(with_reducible refine zAS ?_ ?_<;>intro h)|with_reducible refine zBD ?_ ?_)); all_goals try (conv=>whnf)
   ·refine zAB rfl ?_
    simp; intro e; subst e; exact h rfl
   ·refine⟨i+1,⟨⟨zom,fun j hj=>?_⟩,zom⟩,zAE rfl rfl,zAE rfl rfl,zAC rfl rfl,zAC rfl zom,trivial⟩
    rcases Nat.lt_succ_iff_lt_or_eq.1 hj with hj | rfl
    ·exact hi2 j hj
    ·assumption
   ·refine zAB rfl ?_
    have:xs=ys:=(zEH zom).2 fun j hj=>hi2 j zom
    simp[this]
theorem vQB:FO 91 Tryz.f91 [.tmp 4] 26:=mkO Tryz.func91 Tryz.ntmps91 Tryz.results91
theorem vJ4(xs ys:List Int)(h1:xs.length<2097152):Fn 91 [vBJ xs,vBJ ys] (.data (.bool (decide (xs=ys)))):=by
 refine zAL vBD hT vQB zsm ?_
 (refine gon ?_ ?_<;>intro h)
 ·refine zAB rfl ?_
  simp; intro e; subst e; exact h rfl
 ·
  refine zBA hT (fun i:Nat=>[(0,vBJ xs),(1,vBJ ys),(5,.int .i64 i)]) (fun i=>i≤xs.length∧∀ j,j<i→xs[j]! = ys[j]!) (fun i=>xs.length - i) 0 zsm ?_ ?_
  ·exact⟨zAE rfl rfl,zAE rfl rfl,zAC rfl rfl,trivial⟩
  ·intro i ⟨hi1,hi2⟩
   (repeat' (first|refine stn ?_|(with_reducible refine brr ?_ ?_<;>intro h)|(with_reducible refine zAS ?_ ?_<;>intro h)|with_reducible refine zBD ?_ ?_)); all_goals try (conv=>whnf)
   ·refine zAB rfl ?_
    simp; intro e; subst e; exact h rfl
   ·refine⟨i+1,⟨⟨zom,fun j hj=>?_⟩,zom⟩,zAE rfl rfl,zAE rfl rfl,zAC rfl zom,trivial⟩
    rcases Nat.lt_succ_iff_lt_or_eq.1 hj with hj | rfl
    ·exact hi2 j hj
    ·assumption
   ·refine zAB rfl ?_
    have:xs=ys:=(zEH zom).2 fun j hj=>hi2 j zom
    simp[this]
theorem uJQ:FO 110 Tryz.f110 [.tmp 4] 24:=mkO Tryz.func110 Tryz.ntmps110 Tryz.results110
theorem uM1(x y:RatL)(h1:x.sm):Fn 110 [vA5 x,vA5 y] (.data (.bool (decide (x=y)))):=by
 refine zAL vBD hT uJQ zsm ?_
 (refine gon ?_ ?_<;>intro h)
 ·refine zAA (vXL _ _ h1.1) rfl ?_
  (refine gon ?_ ?_<;>intro h)
  ·refine zAA (vXL _ _ h1.2) rfl ?_
   refine sns ?_;refine zAB rfl ?_;cases x; cases y; simp_all
  ·refine zAB rfl ?_
   cases x; cases y; simp_all
 ·refine zAB rfl ?_
  cases x; cases y; simp_all
theorem uFG:FO 51 Tryz.f51 [.tmp 4] 24:=mkO Tryz.func51 Tryz.ntmps51 Tryz.results51
theorem vW1(x y:RatL)(h1:x.sm):Fn 51 [vA5 x,vA5 y] (.data (.bool (decide (x=y)))):=by
 refine zAL vBD hT uFG zsm ?_
 (refine gon ?_ ?_<;>intro h)
 ·refine zAA (vJ4 _ _ h1.1) rfl ?_
  (refine gon ?_ ?_<;>intro h)
  ·refine zAA (vJ4 _ _ h1.2) rfl ?_
   refine sns ?_;refine zAB rfl ?_;cases x; cases y; simp_all
  ·refine zAB rfl ?_
   cases x; cases y; simp_all
 ·refine zAB rfl ?_
  cases x; cases y; simp_all
theorem uJX:FO 77 Tryz.f77 [.tmp 4] 24:=mkO Tryz.func77 Tryz.ntmps77 Tryz.results77
theorem uK7(x y:DecL)(h1:x.sm):Fn 77 [vA9 x,vA9 y] (.data (.bool (decide (x=y)))):=by
 refine zAL vBD hT uJX zsm ?_
 (repeat' (first|refine stn ?_|(with_reducible refine brr ?_ ?_<;>intro h)|(with_reducible refine zAS ?_ ?_<;>intro h)|with_reducible refine zBD ?_ ?_)); all_goals try (conv=>whnf)
 ·refine zAA (uM1 x.rat y.rat h1) rfl ?_
  refine sns ?_;refine zAB rfl ?_;cases x; cases y; simp_all
 ·refine zAB rfl ?_
  cases x; cases y; simp_all
 ·refine zAB rfl ?_
  cases x; cases y; simp_all
theorem vQC:FO 31 Tryz.f31 [.tmp 4] 24:=mkO Tryz.func31 Tryz.ntmps31 Tryz.results31
theorem vJ5(x y:DecL)(h1:x.sm):Fn 31 [vA9 x,vA9 y] (.data (.bool (decide (x=y)))):=by
 refine zAL vBD hT vQC zsm ?_
 (repeat' (first|refine stn ?_|(with_reducible refine brr ?_ ?_<;>intro h)|(with_reducible refine zAS ?_ ?_<;>intro h)|with_reducible refine zBD ?_ ?_)); all_goals try (conv=>whnf)
 ·refine zAA (vW1 x.rat y.rat h1) rfl ?_
  refine sns ?_;refine zAB rfl ?_;cases x; cases y; simp_all
 ·refine zAB rfl ?_
  cases x; cases y; simp_all
 ·refine zAB rfl ?_
  cases x; cases y; simp_all
theorem vIW:FO 33 Tryz.f33 [.tmp 4] 42:=mkO Tryz.func33 Tryz.ntmps33 Tryz.results33
theorem zNR(xs ys:List MultL)(h1:vC6 xs):Fn 33 [.imm (xs.map vBC),.imm (ys.map vBC)] (.data (.bool (decide (xs=ys)))):=by
 have hl:=h1.1;refine zAL vBD hT vIW zsm ?_
 (refine gon ?_ ?_<;>intro h)
 ·refine zAB rfl ?_
  simp; intro e; subst e; exact h rfl
 ·refine zBA hT (fun i:Nat=>[(0,.imm (xs.map vBC)),(1,.imm (ys.map vBC)),(5,.int .i64 i)]) (fun i=>i≤xs.length∧∀ j,j<i→xs[j]! = ys[j]!) (fun i=>xs.length - i) 0 zsm ?_ ?_
  ·exact⟨zAE rfl rfl,zAE rfl rfl,zAC rfl rfl,trivial⟩
  ·intro i ⟨hi1,hi2⟩
   (repeat' (first|refine stn ?_|(with_reducible refine brr ?_ ?_<;>intro h)|(with_reducible refine zAS ?_ ?_<;>intro h)|with_reducible refine zBD ?_ ?_)); all_goals try (conv=>whnf)
   ·have hi:i<xs.length:=by omega
    have hr:=h;refine zAA (vW1 _ ys[i]!.coef (h1.2 _ (zA7 hi))) rfl ?_
    (refine gon ?_ ?_<;>intro h)
    ·refine⟨i+1,⟨⟨zom,fun j hj=>?_⟩,zom⟩,zAE rfl rfl,zAE rfl rfl,zAC rfl zom,trivial⟩
     rcases Nat.lt_succ_iff_lt_or_eq.1 hj with hj | rfl
     ·exact hi2 j hj
     ·exact uA0 hr (by assumption)
    ·refine zAB rfl ?_; simp only[PV.bool.injEq]; refine(decide_eq_false fun e=>?_).symm; subst e; first | exact h rfl | simp at h | simp_all
   ·refine zAB rfl ?_; simp only[PV.bool.injEq]; refine(decide_eq_false fun e=>?_).symm; subst e; first | exact h rfl | simp at h | simp_all
   ·refine zAB rfl ?_
    have:xs=ys:=(zEH zom).2 fun j hj=>hi2 j zom
    simp[this]
theorem vLM:FO 32 Tryz.f32 [.tmp 4] 69:=mkO Tryz.func32 Tryz.ntmps32 Tryz.results32
theorem vRC(xs ys:List LemL)(h1:vM2 xs):Fn 32 [.imm (xs.map vBA),.imm (ys.map vBA)] (.data (.bool (decide (xs=ys)))):=by
 have hl:=h1.1;refine zAL vBD hT vLM zsm ?_
 (refine gon ?_ ?_<;>intro h)
 ·refine zAB rfl ?_
  simp; intro e; subst e; exact h rfl
 ·refine zBA hT (fun i:Nat=>[(0,.imm (xs.map vBA)),(1,.imm (ys.map vBA)),(5,.int .i64 i)]) (fun i=>i≤xs.length∧∀ j,j<i→xs[j]! = ys[j]!) (fun i=>xs.length - i) 0 zsm ?_ ?_
  ·exact⟨zAE rfl rfl,zAE rfl rfl,zAC rfl rfl,trivial⟩
  ·intro i ⟨hi1,hi2⟩
   (repeat' (first|refine stn ?_|(with_reducible refine brr ?_ ?_<;>intro h)|(with_reducible refine zAS ?_ ?_<;>intro h)|with_reducible refine zBD ?_ ?_)); all_goals try (conv=>whnf)
   ·refine zAB rfl ?_; simp only[PV.bool.injEq]; refine(decide_eq_false fun e=>?_).symm; subst e; first | exact h rfl | simp at h | simp_all
   ·refine zAB rfl ?_; simp only[PV.bool.injEq]; refine(decide_eq_false fun e=>?_).symm; subst e; first | exact h rfl | simp at h | simp_all
   ·have hi:i<xs.length:=by omega
    refine zAA (vW1 _ ys[i]!.value (h1.2 _ (zA7 hi)).1) rfl ?_
    (refine gon ?_ ?_<;>intro h)
    ·refine zAA (zNR _ ys[i]!.proof (h1.2 _ (zA7 hi)).2) rfl ?_
     (refine gon ?_ ?_<;>intro h)
     ·refine⟨i+1,⟨⟨zom,fun j hj=>?_⟩,zom⟩,zAE rfl rfl,zAE rfl rfl,zAC rfl zom,trivial⟩
      rcases Nat.lt_succ_iff_lt_or_eq.1 hj with hj | rfl
      ·exact hi2 j hj
      ·exact uGP (by assumption) (by assumption) (by assumption) (by assumption)
     ·refine zAB rfl ?_; simp only[PV.bool.injEq]; refine(decide_eq_false fun e=>?_).symm; subst e; first | exact h rfl | simp at h | simp_all
    ·refine zAB rfl ?_; simp only[PV.bool.injEq]; refine(decide_eq_false fun e=>?_).symm; subst e; first | exact h rfl | simp at h | simp_all
   ·refine zAB rfl ?_
    have:xs=ys:=(zEH zom).2 fun j hj=>hi2 j zom
    simp[this]
theorem vLP:FO 12 Tryz.f12 [.tmp 4] 63:=mkO Tryz.func12 Tryz.ntmps12 Tryz.results12
theorem vRE:∀ (n:Nat) (x y:NodeL),SizeOf.sizeOf x<n→x.Sm→Fn 12 [vA7 x,vA7 y] (.data (.bool (decide (x=y)))):=by
 intro n
 induction n with
 | zero=>intro x y h; omega
 | succ n ih =>
   intro x y hx hs;have hl:=hs.len;refine zAL vBD hT vLP zsm ?_
   (refine gon ?_ ?_<;>intro h)
   ·refine zAB rfl ?_; simp only[PV.bool.injEq]; refine(decide_eq_false fun e=>?_).symm; subst e; first | exact h rfl | simp at h | simp_all
   ·have e1:=h
    refine zAA (vJ5 x.split y.split hs.dec) rfl ?_
    (refine gon ?_ ?_<;>intro h)
    ·have e2:=h
     refine zAA (vRC x.lemmas y.lemmas hs.lems) rfl ?_
     (refine gon ?_ ?_<;>intro h)
     ·have e3:=h
      refine zAA (zNR x.proof y.proof hs.prf) rfl ?_
      (repeat' (first|refine stn ?_|(with_reducible refine brr ?_ ?_<;>intro h)|(with_reducible refine zAS ?_ ?_<;>intro h)|with_reducible refine zBD ?_ ?_)); all_goals try (conv=>whnf)
      ·refine zAB rfl ?_; simp only[PV.bool.injEq]; refine(decide_eq_false fun e=>?_).symm; subst e; first | exact h rfl | simp at h | simp_all
      ·have e4:=h
       refine zC5 hT (fun i:Nat=>[(2,.ptr 0 0 0),(3,.ptr 1 0 0),(5,.int .i64 i)]) (fun _=>[(0,⟨[vA7 x],9,true⟩),(1,⟨[vA7 y],9,true⟩)]) [] 2 (fun i=>i≤x.kids.length∧∀ j,j<i→x.kids[j]! = y.kids[j]!) (fun i=>x.kids.length - i) 0 zsm zdd zsm
        [0,1] ⟨apx,apx,zAC rfl rfl,trivial⟩ ⟨bbx,bbx,trivial⟩ (by simp[ren]) ?_
       intro i ⟨hi1,hi2⟩
       (refine gon ?_ ?_<;>intro h)
       ·have hi:i<x.kids.length:=by omega
        refine zAA (ih x.kids[i]! y.kids[i]! (by have:=NodeL.sizeOf_kid (zA7 hi); omega) (hs.kid (zA7 hi))) rfl ?_
        (refine gon ?_ ?_<;>intro h)
        ·refine⟨i+1,[0,1],⟨⟨zom,fun j hj=>?_⟩,zom⟩,⟨apx,apx,zAC rfl zom,trivial⟩,⟨bbx,bbx,trivial⟩,by simp[ren]⟩
         rcases Nat.lt_succ_iff_lt_or_eq.1 hj with hj | rfl
         ·exact hi2 j hj
         ·assumption
        ·refine zAB rfl ?_; simp only[PV.bool.injEq]; refine(decide_eq_false fun e=>?_).symm; subst e; first | exact h rfl | simp at h | simp_all
       ·refine zAB rfl ?_
        have:x.kids=y.kids:=(zEH zom).2 fun j hj=>hi2 j zom
        simp only[PV.bool.injEq];exact(decide_eq_true (uAW e3 e2 this e1 (by assumption))).symm
      ·refine zAB rfl ?_; simp only[PV.bool.injEq]; refine(decide_eq_false fun e=>?_).symm; subst e; first | exact h rfl | simp at h | simp_all
     ·refine zAB rfl ?_; simp only[PV.bool.injEq]; refine(decide_eq_false fun e=>?_).symm; subst e; first | exact h rfl | simp at h | simp_all
    ·refine zAB rfl ?_; simp only[PV.bool.injEq]; refine(decide_eq_false fun e=>?_).symm; subst e; first | exact h rfl | simp at h | simp_all
def lsz(most:Int)(n:NodeL):Int:=(n.kids.attach.map fun⟨k,_⟩=>lsz most k).foldl (fun k c=>if k≤most then k+c else k) (1+n.lemmas.length+n.proof.length+((n.lemmas.map fun x=>x.proof.length).sum:Nat))
termination_by SizeOf.sizeOf n
decreasing_by exact NodeL.sizeOf_kid ‹_›
theorem zOV(most:Int)(n:NodeL):lsz most n=(n.kids.map (lsz most)).foldl (fun k c=>if k≤most then k+c else k) (1+n.lemmas.length+n.proof.length+((n.lemmas.map fun x=>x.proof.length).sum:Nat)):=by
 rw[lsz]
 congr 1
 simp
theorem zIU(most:Int)(l:List NodeL)(h:∀ k∈l,1≤lsz most k∧lsz most k≤k.wt):∀ k0:Int,k0≤(l.map (lsz most)).foldl (fun k c=>if k≤most then k+c else k) k0∧(l.map (lsz most)).foldl (fun k c=>if k≤most then k+c else k) k0≤k0+(l.map NodeL.wt).sum:=by
 induction l with
 | nil=>intro k0; simp
 | cons a l ih =>
   intro k0;have h1:=h a zsm;have h2:=ih (fun k hk=>h k (by simp[hk])) (if k0≤most then k0+lsz most a else k0);simp only[List.map_cons,List.foldl_cons,List.sum_cons]
   split at h2<;>rename_i hc
   ·rw[if_pos hc]; omega
   ·rw[if_neg hc]; omega
theorem zHH(most:Int):∀ (n:Nat) (x:NodeL),SizeOf.sizeOf x<n→1≤lsz most x∧lsz most x≤x.wt:=by
 intro n
 induction n with
 | zero=>intro x h; omega
 | succ n ih =>
   intro x hx;have h:=zIU most x.kids (fun k hk=>ih k (by have:=NodeL.sizeOf_kid hk; omega)) (1+x.lemmas.length+x.proof.length+((x.lemmas.map fun x=>x.proof.length).sum:Nat));have hw:=x.wt_eq;have hl:=zHK x.lemmas;rw[zOV];omega
theorem zK9(most:Int)(l:List Int)(k:Int)(h:¬ k≤most):l.foldl (fun k c=>if k≤most then k+c else k) k=k:=by
 induction l with
 | nil=>rfl
 | cons a l ih=>rw[List.foldl_cons,if_neg h]; exact ih
theorem vL3(n:NodeL):n.kids.length<n.wt:=by
 rw[n.wt_eq]
 have:∀ l:List NodeL,l.length≤(l.map NodeL.wt).sum:=by
  intro l
  induction l with
  | nil=>simp
  | cons a l ih =>
    simp only[List.length_cons,List.map_cons,List.sum_cons];have:=a.wt_eq;omega
 have:=this n.kids;omega
theorem vJO(most:Int)(l:List NodeL)(h:∀ k∈l,1≤lsz most k):∀ k0:Int,(l.map (lsz most)).foldl (fun k c=>if k≤most then k+c else k) k0≤most→(l.map (lsz most)).foldl (fun k c=>if k≤most then k+c else k) k0=k0+(l.map (lsz most)).sum∧∀ k∈l,lsz most k≤most - k0:=by
 induction l with
 | nil=>intro k0 _; simp
 | cons a l ih =>
   intro k0 hk;simp only[List.map_cons,List.foldl_cons,List.sum_cons]at hk ⊢;have ha:=h a zsm
   have h0:k0≤most:=by
    by_cases h0:k0≤most
    ·exact h0
    ·rw[if_neg h0,zK9 most _ _ h0]at hk; exact absurd hk h0
   rw[if_pos h0]at hk ⊢;obtain⟨h1,h2⟩:=ih (fun k hk=>h k (by simp[hk])) (k0+lsz most a) hk
   have hb:k0+lsz most a≤most:=by
    by_cases hb:k0+lsz most a≤most
    ·exact hb
    ·rw[zK9 most _ _ hb]at hk; exact absurd hk hb
   refine⟨by rw[h1]; omega,fun k hk=>?_⟩;rcases List.mem_cons.1 hk with rfl | hk
   ·omega
   ·have:=h2 k hk; omega
theorem zJN:FO 52 Tryz.f52 [.tmp 6,.tmp 7] 84:=mkO Tryz.func52 Tryz.ntmps52 Tryz.results52
def vHV(d m:Int)(x:NodeL)(k:Int)(b:Bool):Prop:=(b=true↔vBH d.toNat x=true∧(x.cnt:Int)≤m)∧(b=true→k=x.cnt)∧0≤k∧k≤max m 0
theorem uHK:∀ (n:Nat) (x:NodeL) (d m:Int),SizeOf.sizeOf x<n→x.Sm→0≤d→d≤2048→m≤65536→-65536≤m→∃ k b,vHV d m x k b∧Fn 52 [vA7 x,.int .i64 d,.int .i64 m] (.data (.tup [.int .i64 k,.bool b])):=by
 intro n
 induction n with
 | zero=>intro x d m h; omega
 | succ n ih =>
   intro x d m hx hs hd0 hd1 hm hm0;have hno:∀ k,0≤k→k≤max m 0→¬ (vBH d.toNat x=true∧(x.cnt:Int)≤m)→vHV d m x k false:=fun k h1 h2 h=>⟨by simpa using h,zsm,h1,h2⟩
   have hc:=zFS x;by_cases hm1:m<1
   ·refine⟨0,false,hno 0 zom zom zom,?_⟩
    refine zAL vBD hT zJN zsm ?_
    (repeat' (first|refine stn ?_|(with_reducible refine brr ?_ ?_<;>intro h)|(with_reducible refine zAS ?_ ?_<;>intro h)|with_reducible refine zBD ?_ ?_)); all_goals try (conv=>whnf)
    ·exact zAB rfl rfl
    all_goals omega
   ·by_cases hk0:x.kids.length=0
    ·refine⟨1,vEH x,?_,?_⟩
     ·have h1:=zB8 (d:=d.toNat) hk0
      have h2:=zIA hk0;unfold vHV;rw[h1,h2];refine⟨⟨fun h=>⟨h,zom⟩,fun h=>h.1⟩,fun _=>rfl,zom,zom⟩
     ·refine zAL vBD hT zJN zsm ?_
      (repeat' (first|refine stn ?_|(with_reducible refine brr ?_ ?_<;>intro h)|(with_reducible refine zAS ?_ ?_<;>intro h)|with_reducible refine zBD ?_ ?_)); all_goals try (conv=>whnf)
      ·omega
      ·refine zAA (uK7 x.split ⟨0,0,⟨false,[],[]⟩⟩ hs.dec) rfl ?_
       refine sns ?_;exact zAB rfl rfl
      all_goals omega
    ·by_cases hin:vBU x=true∧d≠0
     ·obtain⟨hin,hd⟩:=hin
      have hin':=hin;simp only[vBU,decide_eq_true_eq]at hin';obtain⟨i1,i2,i3,i4,i5⟩:=hin';have e2:=zDA (d:=d.toNat) i1;have e3:=vHJ i1;have k0:x.kids[0]! ∈ x.kids:=zA7 zom;have k1:x.kids[1]! ∈ x.kids:=zA7 zom;have ed:(d - 1).toNat=d.toNat - 1:=by omega
      obtain⟨a,ok,⟨a1,a2,a3,a4⟩,ha⟩:=ih x.kids[0]! (d - 1) (m - 1) (by have:=NodeL.sizeOf_kid k0; omega) (hs.kid k0) zom zom zom zom;rw[ed]at a1;rw[hin,decide_eq_true (show d.toNat≠0 by omega),Bool.and_true,Bool.true_and]at e2;have hp:=zFS x.kids[1]!;cases ok with
      | false =>
        refine⟨0,false,hno 0 zom zom (fun h=>?_),?_⟩
        ·rw[e2,Bool.and_eq_true]at h
         exact absurd (a1.2 ⟨h.1.1,zom⟩) zsm
        ·refine zAL vBD hT zJN zsm ?_
         (repeat' (first|refine stn ?_|(with_reducible refine brr ?_ ?_<;>intro h)|(with_reducible refine zAS ?_ ?_<;>intro h)|with_reducible refine zBD ?_ ?_)); all_goals try (conv=>whnf)
         all_goals try (exfalso; first | omega | simp_all; done)
         refine zAA ha rfl ?_;refine sns ?_;exact zAB rfl rfl
      | true =>
        obtain⟨b,ok,⟨b1,b2,b3,b4⟩,hb⟩:=ih x.kids[1]! (d - 1) (m - 1 - a) (by have:=NodeL.sizeOf_kid k1; omega) (hs.kid k1) zom zom zom zom;rw[ed]at b1;have a2:=a2 rfl;have a1:=a1.1 rfl;refine⟨1+a+b,ok,⟨?_,?_,zom,zom⟩,?_⟩
        ·rw[e2,Bool.and_eq_true,b1]
         constructor
         ·intro h; exact⟨⟨a1.1,h.1⟩,zom⟩
         ·intro h; exact⟨h.1.2,zom⟩
        ·intro h; have:=b2 h; omega
        ·refine zAL vBD hT zJN zsm ?_
         (repeat' (first|refine stn ?_|(with_reducible refine brr ?_ ?_<;>intro h)|(with_reducible refine zAS ?_ ?_<;>intro h)|with_reducible refine zBD ?_ ?_)); all_goals try (conv=>whnf)
         all_goals try (exfalso; first | omega | simp_all; done)
         refine zAA ha rfl ?_;refine sns ?_;refine zAA hb rfl ?_;refine sns ?_;exact zAB rfl rfl
     ·refine⟨0,false,hno 0 zom zom (fun h=>hin ?_),?_⟩
      ·rw[zA3 hk0]at h
       simp only[Bool.and_eq_true,decide_eq_true_eq]at h;exact⟨h.1.1.1,zom⟩
      ·refine zAL vBD hT zJN zsm ?_
       (repeat' (first|refine stn ?_|(with_reducible refine brr ?_ ?_<;>intro h)|(with_reducible refine zAS ?_ ?_<;>intro h)|with_reducible refine zBD ?_ ?_)); all_goals try (conv=>whnf)
       all_goals try (exact zAB rfl rfl)
       all_goals try (exfalso; omega)
       exfalso;apply hin;simp only[vBU,decide_eq_true_eq];refine⟨⟨?_,?_,?_,?_,?_⟩,?_⟩<;>first | assumption | omega
theorem vZO:FO 34 Tryz.f34 [.tmp 2] 11:=mkO Tryz.func34 Tryz.ntmps34 Tryz.results34
theorem zLC(x:NodeL)(hs:x.Sm):Fn 34 [vA7 x] (.data (.bool x.valid)):=by
 obtain⟨k,b,⟨h1,_,_,_⟩,hr⟩:=uHK _ x 2048 65536 (Nat.lt_succ_self _) hs zom zom zom zom;refine zAL vBD hT vZO zsm ?_;refine sns ?_;refine zAA hr rfl ?_;refine sns ?_;refine zAB rfl ?_;simp only[PV.bool.injEq];rw[Bool.eq_iff_iff,h1];simp only[NodeL.valid,Bool.and_eq_true,decide_eq_true_eq];exact and_congr Iff.rfl zom
def NodeL.size(x:NodeL):Nat:=if x.valid then x.cnt else 0
theorem zM6:FO 44 Tryz.f44 [.tmp 4,.tmp 5] 77:=mkO Tryz.func44 Tryz.ntmps44 Tryz.results44
def vHX(d:Int)(x:NodeL)(k:Int)(b:Bool):Prop:=(b=true→d≤2048∧vBH (2048 - d).toNat x=true∧k=x.cnt)∧(d≤2048→vBH (2048 - d).toNat x=true→x.cnt≤65536→b=true)∧0≤k∧k≤(2050 - d) * 65537
theorem uK6:∀ (n:Nat) (x:NodeL) (d:Int),SizeOf.sizeOf x<n→x.Sm→0≤d→d≤2049→∃ k b,vHX d x k b∧Fn 44 [vA7 x,.int .i64 d] (.data (.tup [.bool b,.int .i64 k])):=by
 intro n
 induction n with
 | zero=>intro x d h; omega
 | succ n ih =>
   intro x d hx hs hd0 hd1;have hc:=zFS x;have hno:¬ (d≤2048∧vBH (2048 - d).toNat x=true∧x.cnt≤65536)→vHX d x 0 false:=fun h=>⟨zsm,fun h0 h1 h2=>absurd ⟨h0,h1,h2⟩ h,zom,zom⟩
   by_cases hdd:2048<d
   ·refine⟨0,false,hno zom,?_⟩
    refine zAL vBD hT zM6 zsm ?_
    (repeat' (first|refine stn ?_|(with_reducible refine brr ?_ ?_<;>intro h)|(with_reducible refine zAS ?_ ?_<;>intro h)|with_reducible refine zBD ?_ ?_)); all_goals try (conv=>whnf)
    all_goals try (exact zAB rfl rfl)
    all_goals (exfalso; omega)
   ·by_cases hk0:x.kids.length=0
    ·refine⟨1,vEH x,?_,?_⟩
     ·have h1:=zB8 (d:=(2048 - d).toNat) hk0
      have h2:=zIA hk0;unfold vHX;rw[h1,h2];exact⟨fun h=>⟨zom,h,rfl⟩,fun _ h _=>h,zom,zom⟩
     ·refine zAL vBD hT zM6 zsm ?_
      (repeat' (first|refine stn ?_|(with_reducible refine brr ?_ ?_<;>intro h)|(with_reducible refine zAS ?_ ?_<;>intro h)|with_reducible refine zBD ?_ ?_)); all_goals try (conv=>whnf)
      ·exfalso; omega
      ·refine zAA (vJ5 x.split ⟨0,0,⟨false,[],[]⟩⟩ hs.dec) rfl ?_
       refine sns ?_;exact zAB rfl rfl
      all_goals (exfalso; omega)
    ·by_cases hin:vBU x=true
     ·have hin':=hin
      simp only[vBU,decide_eq_true_eq]at hin';obtain⟨i1,i2,i3,i4,i5⟩:=hin';have e2:=zDA (d:=(2048 - d).toNat) i1;have e3:=vHJ i1;have k0:x.kids[0]! ∈ x.kids:=zA7 zom;have k1:x.kids[1]! ∈ x.kids:=zA7 zom;have ed:(2048 - (d+1)).toNat=(2048 - d).toNat - 1:=by omega
      obtain⟨a,ok,⟨a1,a2,a3,a4⟩,ha⟩:=ih x.kids[0]! (d+1) (by have:=NodeL.sizeOf_kid k0; omega) (hs.kid k0) zom zom;rw[ed]at a1 a2;rw[hin,Bool.true_and]at e2;have hp:=zFS x.kids[1]!;by_cases hbad:ok=false∨a > 65536
      ·refine⟨0,false,hno (fun h=>?_),?_⟩
       ·rw[e2]at h
        simp only[Bool.and_eq_true,decide_eq_true_eq]at h;rcases hbad with hb | hb
        ·have:=a2 zom h.2.1.2.1 zom; rw[hb]at this; cases this
        ·cases ok with
         | false=>have:=a2 zom h.2.1.2.1 zom; cases this
         | true=>have:=(a1 rfl).2.2; omega
       ·refine zAL vBD hT zM6 zsm ?_
        (repeat' (first|refine stn ?_|(with_reducible refine brr ?_ ?_<;>intro h)|(with_reducible refine zAS ?_ ?_<;>intro h)|with_reducible refine zBD ?_ ?_)); all_goals try (conv=>whnf)
        all_goals try (exfalso; first | omega | simp_all; done)
        refine zAA ha rfl ?_
        (repeat' (first|refine stn ?_|(with_reducible refine brr ?_ ?_<;>intro h)|(with_reducible refine zAS ?_ ?_<;>intro h)|with_reducible refine zBD ?_ ?_)); all_goals try (conv=>whnf)
        all_goals try (exact zAB rfl rfl)
        all_goals (exfalso; rcases hbad with hb | hb<;>first | omega | simp_all)
      ·have hok:ok=true:=by cases ok<;>simp_all
       subst hok;have ha6:a≤65536:=by omega
       obtain⟨a1,a5,a6⟩:=a1 rfl;obtain⟨b,ok,⟨b1,b2,b3,b4⟩,hb⟩:=ih x.kids[1]! (d+1) (by have:=NodeL.sizeOf_kid k1; omega) (hs.kid k1) zom zom;rw[ed]at b1 b2;refine⟨1+a+b,ok,⟨?_,?_,zom,zom⟩,?_⟩
       ·intro h
        obtain⟨b1,b5,b6⟩:=b1 h;rw[e2,a5,b5];exact⟨zom,by simp; omega,zom⟩
       ·intro h0 h h2
        rw[e2]at h;simp only[Bool.and_eq_true,decide_eq_true_eq]at h;exact b2 zom h.2.2 zom
       ·refine zAL vBD hT zM6 zsm ?_
        (repeat' (first|refine stn ?_|(with_reducible refine brr ?_ ?_<;>intro h)|(with_reducible refine zAS ?_ ?_<;>intro h)|with_reducible refine zBD ?_ ?_)); all_goals try (conv=>whnf)
        all_goals try (exfalso; first | omega | simp_all; done)
        refine zAA ha rfl ?_
        (repeat' (first|refine stn ?_|(with_reducible refine brr ?_ ?_<;>intro h)|(with_reducible refine zAS ?_ ?_<;>intro h)|with_reducible refine zBD ?_ ?_)); all_goals try (conv=>whnf)
        all_goals try (exfalso; first | omega | simp_all; done)
        refine zAA hb rfl ?_;refine sns ?_;exact zAB rfl rfl
     ·refine⟨0,false,hno (fun h=>hin ?_),?_⟩
      ·rw[zA3 hk0]at h
       simp only[Bool.and_eq_true,decide_eq_true_eq]at h;exact h.2.1.1.1
      ·refine zAL vBD hT zM6 zsm ?_
       (repeat' (first|refine stn ?_|(with_reducible refine brr ?_ ?_<;>intro h)|(with_reducible refine zAS ?_ ?_<;>intro h)|with_reducible refine zBD ?_ ?_)); all_goals try (conv=>whnf)
       all_goals try (exact zAB rfl rfl)
       all_goals try (exfalso; omega)
       exfalso;apply hin;simp only[vBU,decide_eq_true_eq];refine⟨?_,?_,?_,?_,?_⟩<;>first | assumption | omega
theorem vLO:FO 21 Tryz.f21 [.tmp 2] 15:=mkO Tryz.func21 Tryz.ntmps21 Tryz.results21
theorem vRD(x:NodeL)(hs:x.Sm):Fn 21 [vA7 x] (.data (.bool x.valid)):=by
 obtain⟨k,b,⟨h1,h2,_,_⟩,hr⟩:=uK6 _ x 0 (Nat.lt_succ_self _) hs zom zom;have e0:(2048 - (0:Int)).toNat=2048:=rfl;rw[e0]at h1 h2;refine zAL vBD hT vLO zsm ?_;refine sns ?_;refine zAA hr rfl ?_
 (repeat' (first|refine stn ?_|(with_reducible refine brr ?_ ?_<;>intro h)|(with_reducible refine zAS ?_ ?_<;>intro h)|with_reducible refine zBD ?_ ?_)); all_goals try (conv=>whnf)
 all_goals refine zAB rfl ?_
 all_goals simp only[PV.bool.injEq]
 all_goals rw[Bool.eq_iff_iff]
 all_goals simp only[NodeL.valid,Bool.and_eq_true,decide_eq_true_eq]
 ·have⟨_,h3,h4⟩:=h1 (by assumption)
  constructor
  ·intro h; exact⟨h3,zom⟩
  ·intro h; omega
 ·constructor
  ·intro h; cases h
  ·intro⟨h3,h4⟩
   have:=h2 zom h3 h4
   simp_all
theorem vLX:FO 74 Tryz.f74 [.tmp 2] 8:=mkO Tryz.func74 Tryz.ntmps74 Tryz.results74
theorem zIE{α:Type}(enc:α→PV)(hf:∀ h n x,frz h (n+1) (enc x)=some (enc x,[]))(hs:∀ x,(enc x).cells.length=5∧(enc x).isAgg=true)(xs:List α)(hl:xs.length<2097152):Fn 74 [.imm (xs.map enc)] (.fresh (xs.map enc) 5 true):=by
 refine zEE vBD hT vLX zsm ?_
 (repeat' (first|refine stn ?_|(with_reducible refine brr ?_ ?_<;>intro h)|(with_reducible refine zAS ?_ ?_<;>intro h)|with_reducible refine zBD ?_ ?_)); all_goals try (conv=>whnf)
 ·subst h; exact zD1
 all_goals refine zIY hs rfl ?_
 all_goals ((refine sns ?_))
 all_goals refine zBJ rfl rfl ?_ rfl (zD2 (fun x=>hf _ _ x) _)
 all_goals simp
theorem vLW:FO 105 Tryz.f105 [.tmp 2] 8:=mkO Tryz.func105 Tryz.ntmps105 Tryz.results105
theorem vRI{α:Type}(enc:α→PV)(hf:∀ h n x,frz h (n+1) (enc x)=some (enc x,[]))(hs:∀ x,(enc x).cells.length=6∧(enc x).isAgg=true)(xs:List α)(hl:xs.length<2097152):Fn 105 [.imm (xs.map enc)] (.fresh (xs.map enc) 6 true):=by
 refine zEE vBD hT vLW zsm ?_
 (repeat' (first|refine stn ?_|(with_reducible refine brr ?_ ?_<;>intro h)|(with_reducible refine zAS ?_ ?_<;>intro h)|with_reducible refine zBD ?_ ?_)); all_goals try (conv=>whnf)
 ·subst h; exact zD1
 all_goals refine zIY hs rfl ?_
 all_goals ((refine sns ?_))
 all_goals refine zBJ rfl rfl ?_ rfl (zD2 (fun x=>hf _ _ x) _)
 all_goals simp
theorem vI4:FO 140 Tryz.f140 [.tmp 2] 8:=mkO Tryz.func140 Tryz.ntmps140 Tryz.results140
theorem vMM{α:Type}(enc:α→PV)(hf:∀ h n x,frz h (n+1) (enc x)=some (enc x,[]))(hs:∀ x,(enc x).cells.length=9∧(enc x).isAgg=true)(xs:List α)(hl:xs.length<2097152):Fn 140 [.imm (xs.map enc)] (.fresh (xs.map enc) 9 true):=by
 refine zEE vBD hT vI4 zsm ?_
 (repeat' (first|refine stn ?_|(with_reducible refine brr ?_ ?_<;>intro h)|(with_reducible refine zAS ?_ ?_<;>intro h)|with_reducible refine zBD ?_ ?_)); all_goals try (conv=>whnf)
 ·subst h; exact zD1
 all_goals refine zIY hs rfl ?_
 all_goals ((refine sns ?_))
 all_goals refine zBJ rfl rfl ?_ rfl (zD2 (fun x=>hf _ _ x) _)
 all_goals simp
theorem vUQ:FO 109 Tryz.f109 [.cell 2 28] 18:=mkO Tryz.func109 Tryz.ntmps109 Tryz.results109
theorem uB1(d:DecL):Fn 109 [vA9 d] (.data (vA9 (opp d))):=by
 refine zAL vBD hT vUQ zsm ?_
 (repeat' (first|refine stn ?_|(with_reducible refine brr ?_ ?_<;>intro h)|(with_reducible refine zAS ?_ ?_<;>intro h)|with_reducible refine zBD ?_ ?_)); all_goals try (conv=>whnf)
 all_goals refine zAB rfl ?_
 all_goals simp_all [opp,uIH,vA9]
theorem vUD:FO 168 Tryz.f168 [.cell 2 28] 17:=mkO Tryz.func168 Tryz.ntmps168 Tryz.results168
theorem uKP(d:DecL):Fn 168 [vA9 d] (.data (vA9 (opp d))):=by
 obtain⟨k,i,r⟩:=d;by_cases h0:0<k∧k<5
 ·obtain rfl | rfl | rfl | rfl:k=1∨k=2∨k=3∨k=4:=by omega
  all_goals refine zAL vBD hT vUD zsm ?_
  all_goals ((refine sns ?_))
  all_goals exact zAB rfl rfl
 ·refine zAL vBD hT vUD zsm ?_
  (repeat' (first|refine stn ?_|(with_reducible refine brr ?_ ?_<;>intro h)|(with_reducible refine zAS ?_ ?_<;>intro h)|with_reducible refine zBD ?_ ?_)); all_goals try (conv=>whnf)
  all_goals try (exfalso; omega)
  all_goals refine zAB rfl ?_
  all_goals simp only[opp,uIH,vA9]
  all_goals rw[if_neg zom,if_neg zom,if_neg zom,if_neg zom]
theorem vUR:FO 75 Tryz.f75 [.tmp 6] 20:=mkO Tryz.func75 Tryz.ntmps75 Tryz.results75
theorem vOW(path:List DecL)(n:NodeL)(i:Nat)(hp:path.length<2097151):Fn 75 [.imm (path.map vA9),vA7 n,.int .i64 i] (.fresh ((path++[vCR n i]).map vA9) 5 true):=by
 refine zEE vBD hT vUR zsm ?_
 (refine gon ?_ ?_<;>intro h)
 ·obtain rfl:i=1:=by omega
  refine zAA (uB1 n.split) rfl ?_;refine sns ?_;refine zBJ rfl ?_ ?_ rfl (zD2 (fun x=>zEP x) _)
  ·simp[vCR]; rfl
  ·simp
 ·refine zBJ rfl ?_ ?_ rfl (zD2 (fun x=>zEP x) _)
  ·simp[vCR,show i≠1 by omega]; rfl
  ·simp
theorem ok_kid:FO 138 Tryz.f138 [.tmp 6] 19:=mkO Tryz.func138 Tryz.ntmps138 Tryz.results138
theorem uK3(path:List DecL)(n:NodeL)(i:Nat)(hp:path.length<2097151):Fn 138 [.imm (path.map vA9),vA7 n,.int .i64 i] (.fresh ((path++[vCR n i]).map vA9) 5 true):=by
 refine zEE vBD hT ok_kid zsm ?_
 (refine gon ?_ ?_<;>intro h)
 ·obtain rfl:i=1:=by omega
  refine zAA (uKP n.split) rfl ?_;refine sns ?_;refine zBB (zIE vA9 (fun _ _ x=>zEP x) (fun _=>⟨rfl,rfl⟩) path zom) rfl ?_;refine sns ?_;refine zBJ rfl ?_ ?_ rfl (zD2 (fun x=>zEP x) _)
  ·simp[vCR]; rfl
  ·simp
 ·refine zBB (zIE vA9 (fun _ _ x=>zEP x) (fun _=>⟨rfl,rfl⟩) path zom) rfl ?_
  refine sns ?_;refine zBJ rfl ?_ ?_ rfl (zD2 (fun x=>zEP x) _)
  ·simp[vCR,show i≠1 by omega]; rfl
  ·simp
def vB4(n:NodeL)(d:DecL):Option Nat:=(List.range n.kids.length).find? fun i=>vCR n i=d
theorem uFU:FO 103 Tryz.f103 [.tmp 4] 23:=mkO Tryz.func103 Tryz.ntmps103 Tryz.results103
theorem uDT(n:NodeL)(d:DecL)(hs:n.Sm):Fn 103 [vA7 n,vA9 d] (.data (.int .i64 (match vB4 n d with | some i=>(i:Int) | none=>-1))):=by
 have hl:=hs.len;refine zAL vBD hT uFU zsm ?_;refine sns ?_
 refine zC5 hT (fun i:Nat=>[(2,.ptr 0 0 0),(3,.ptr 1 0 0),(9,.int .i64 n.kids.length),(10,.int .i64 i)]) (fun _=>[(0,⟨[vA7 n],9,true⟩),(1,⟨[vA9 d],5,true⟩)]) [] 2 (fun i=>i≤n.kids.length∧∀ j,j<i→vCR n j≠d) (fun i=>n.kids.length - i) 0 zsm zdd zsm
  [0,1] ⟨apx,apx,zAC rfl zsm,zAC rfl rfl,trivial⟩ ⟨bbx,bbx,trivial⟩ (by simp[ren]) ?_
 intro i ⟨hi,hn⟩
 (refine gon ?_ ?_<;>intro h)
 ·refine zBB (uK3 [] n i zsm) rfl ?_
  refine sns ?_;refine zAA (uK7 (vCR n i) d (by unfold vCR; split<;>exact hs.dec)) rfl ?_
  (refine gon ?_ ?_<;>intro h)
  ·refine zAB rfl ?_
   have:vB4 n d=some i:=by
    unfold vB4;rw[List.find?_eq_some_iff_append];refine⟨by simpa using h,List.range i,(List.range (n.kids.length - i - 1)).map (·+i+1),?_,fun j hj=>?_⟩
    ·have e:n.kids.length=i+1+(n.kids.length - i - 1):=by omega
     rw[e,List.range_add,List.range_succ,List.append_assoc]
     congr 2
     rw[show i+1+(n.kids.length - i - 1) - i - 1=n.kids.length - i - 1 by omega];simp only[List.singleton_append,List.cons.injEq,List.map_inj_left];exact⟨trivial,fun a _=>by omega⟩
    ·simpa using hn j (by simpa using hj)
   rw[this]
  ·refine⟨i+1,[0,1],⟨⟨zom,fun j hj=>?_⟩,zom⟩,⟨apx,apx,zAC rfl rfl,zAC rfl zom,trivial⟩,⟨bbx,bbx,trivial⟩,by simp[ren]⟩
   rcases Nat.lt_succ_iff_lt_or_eq.1 hj with hj | rfl
   ·exact hn j hj
   ·assumption
 ·refine zAB rfl ?_
  have:vB4 n d=none:=by
   unfold vB4;rw[List.find?_eq_none];intro j hj
   simpa using hn j (by simp at hj; omega)
  rw[this]
def pre(path:List DecL)(l:List (List DecL×NodeL)):List (List DecL×NodeL):=l.map fun q=>(path++q.1,q.2)
theorem vTY(path:List DecL)(l:List (List DecL×NodeL)):(pre path l).length=l.length:=by simp[pre]
theorem vXY:∀ (n:Nat) (x:NodeL),SizeOf.sizeOf x<n→x.all.length≤x.wt∧∀ i,(x.upto i).length≤x.wt:=by
 intro n
 induction n with
 | zero=>intro x h; omega
 | succ n ih =>
   intro x hx
   have hu:∀ i,i≤x.kids.length→(x.upto i).length≤1+((x.kids.take i).map NodeL.wt).sum:=by
    intro i
    induction i with
    | zero=>intro _; simp[NodeL.upto_zero]
    | succ i ihi =>
      intro hi;have h1:=ihi zom;have h2:=(ih x.kids[i]! (by have:=NodeL.sizeOf_kid (zA7 (show i<x.kids.length by omega)); omega)).1;rw[x.upto_succ zom,List.length_append,List.length_map,zGM zom];omega
   have hw:=x.wt_eq
   have hall:∀ i,i≤x.kids.length→(x.upto i).length≤x.wt:=fun i hi=>by
    have h1:=hu i hi;have h2:=@sum_take_le _ NodeL.wt x.kids i;omega
   refine⟨by rw[x.all_eq]; exact hall _ (Nat.le_refl _),fun i=>?_⟩;by_cases hi:i≤x.kids.length
   ·exact hall i hi
   ·have:x.upto i=x.upto x.kids.length:=by
     unfold NodeL.upto;rw[List.take_of_length_le (by simp; omega),List.take_of_length_le zsm]
    rw[this]; exact hall _ (Nat.le_refl _)
def vFZ(x:NodeL):List (List DecL×NodeL):=if x.valid then x.all else []
theorem pre_nil(l:List (List DecL×NodeL)):pre [] l=l:=by simp[pre]
instance:Inhabited (List DecL×NodeL):=⟨([],default)⟩
def zeroN:NodeL:=.mk [] ⟨0,0,⟨false,[],[]⟩⟩ [] false []
def atF:NodeL→List DecL→Option NodeL
 | n,[]=>some n
 | n,d::p=>match vB4 n d with
   | some i=>atF n.kids[i]! p
   | none=>none
theorem zC9{n:NodeL}{d:DecL}{i:Nat}(h:vB4 n d=some i):i<n.kids.length∧vCR n i=d:=by
 unfold vB4 at h;have h1:=List.mem_of_find?_eq_some h;have h2:=List.find?_some h;simp at h1 h2;exact⟨h1,h2⟩
theorem vQY{n:NodeL}{d:DecL}(hl:0<n.kids.length)(h:vCR n 0=d):vB4 n d=some 0:=by
 unfold vB4;obtain⟨k,hk⟩:∃ k,n.kids.length=k+1:=⟨n.kids.length - 1,zom⟩;rw[hk,List.range_succ_eq_map,List.find?_cons];simp[h]
def atV(x:NodeL)(path:List DecL):Option NodeL:=if x.valid then atF x path else none
theorem uMJ:FO 70 Tryz.f70 [.cell 4 32,.tmp 5] 32:=mkO Tryz.func70 Tryz.ntmps70 Tryz.results70
theorem uN0(x:NodeL)(path:List DecL)(hs:x.Sm)(hp:path.length<2097152):Fn 70 [vA7 x,.imm (path.map vA9)] (.data (.tup [vA7 ((atV x path).getD zeroN),.bool (atV x path).isSome])):=by
 refine zAL vBD hT uMJ zsm ?_;refine sns ?_;refine zAA (zLC x hs) rfl ?_
 (refine gon ?_ ?_<;>intro h)
 ·have hv:=h
  refine zAP hT (fun s:Nat×NodeL=>[(2,.ptr 0 0 0),(4,.ptr 1 0 0),(13,.imm (path.map vA9)),(14,.int .i64 path.length),(15,.int .i64 s.1)]) (fun s=>[(0,⟨[vA7 s.2],9,true⟩),(1,⟨[vA7 zeroN],9,true⟩)]) [] 2 (fun s=>s.1≤path.length∧s.2.Sm∧atF x path=atF s.2 (path.drop s.1)) (fun s=>path.length - s.1) (0,x) ⟨zsm,hs,zsm⟩ zdd zsm ?_ ?_
  ·refine⟨[0,1],[],[],[(1,[vA7 zeroN])],⟨trivial,trivial,⟨⟨_,4,_,rfl,rfl,rfl⟩,trivial⟩⟩,⟨apx,apx,zAE rfl rfl,zAC rfl zsm,zAC rfl rfl,trivial⟩,⟨bbx,bbx,trivial⟩,by simp[ren]⟩
  ·intro⟨i,m⟩ ⟨hi,hm,he⟩
   dsimp only at hi hm he
   (refine gon ?_ ?_<;>intro h)
   ·have hi':i<path.length:=by omega
    have hd:path.drop i=path[i]! :: path.drop (i+1):=by rw[getElem!_pos path i hi',← List.drop_eq_getElem_cons hi']
    have hc:=uDT m path[i]! hm;rw[hd,atF]at he;cases hk:vB4 m path[i]! with
    | none =>
      rw[hk]at hc he;refine zAA hc rfl ?_;refine sns ?_;refine zAB rfl ?_;have:atV x path=none:=by simp[atV,hv,he]
      rw[this]; rfl
    | some j =>
      rw[hk]at hc he;have hj:=(zC9 hk).1;refine zAA hc rfl ?_;refine sns ?_;refine⟨(i+1,m.kids[j]!),⟨⟨by simp only; omega,hm.kid (zA7 hj),he⟩,by simp only; omega⟩,[0,1],[],[],[],ttt,⟨apx,apx,zAE rfl rfl,zAC rfl rfl,zAC rfl rfl,trivial⟩,⟨bbx,bbx,trivial⟩,by simp[ren]⟩
   ·refine zAB rfl ?_
    have:atV x path=some m:=by
     rw[atV,hv,if_pos rfl,he,List.drop_eq_nil_of_le zom]; rfl
    rw[this]; rfl
 ·have:atV x path=none:=by simp[atV,h]
  rw[this];exact zAB rfl rfl
def vBX(n:NodeL)(i:Nat)(k:NodeL):NodeL:=.mk n.lemmas n.split (n.kids.set i k) n.empty n.proof
def vCF(w:NodeL):NodeL→List DecL→Option NodeL
 | _,[]=>some w
 | n,d::p=>match vB4 n d with
   | some i=>(vCF w n.kids[i]! p).map fun k=>vBX n i k
   | none=>none
def vNG(w:NodeL):NodeL→List DecL→NodeL
 | _,[]=>w
 | n,d::p=>match vB4 n d with
   | some i=>vBX n i (vNG w n.kids[i]! p)
   | none=>zeroN
theorem zOP:FO 106 Tryz.f106 [.cell 6 32,.tmp 7] 46:=mkO Tryz.func106 Tryz.ntmps106 Tryz.results106
theorem vW8(w:NodeL):∀ (path:List DecL) (x:NodeL),x.Sm→path.length<2097152→Fn 106 [vA7 x,.imm (path.map vA9),vA7 w] (.data (.tup [vA7 (vNG w x path),.bool (vCF w x path).isSome])):=by
 intro path
 induction path with
 | nil =>
   intro x hs hp;refine zAL vBD hT zOP zsm ?_;refine sns ?_;exact zAB rfl rfl
 | cons d p ih =>
   intro x hs hp;refine zAL vBD hT zOP zsm ?_;refine sns ?_;have hc:=uDT x d hs;cases hk:vB4 x d with
   | none =>
     rw[hk]at hc;refine zAA hc rfl ?_;refine sns ?_;refine zAB rfl ?_;have h1:vNG w x (d::p)=zeroN:=by simp only[vNG,hk]
     have h2:vCF w x (d::p)=none:=by simp only[vCF,hk]
     rw[h1,h2]; rfl
   | some i =>
     rw[hk]at hc;have hi:=(zC9 hk).1;have hl:=hs.len;simp only[List.length_cons]at hp;refine zAA hc rfl ?_;refine sns ?_;refine zCT (l':=p) zsm ?_;refine sns ?_;refine zAA (ih x.kids[i]! (hs.kid (zA7 hi)) zom) rfl ?_;refine sns ?_;refine zBB (vMM vBI (fun _ _ x=>zH3 x) zH0 x.kids hl) rfl ?_;refine sns ?_;refine uAS i zsm hi ?_;refine sns ?_
     have e1:(x.kids.map vBI).set (0+((match some i with | some i=>(i:Int) | none=>-1):Int).toNat) (vA7 (vNG w x.kids[i]! p))=(x.kids.set i (vNG w x.kids[i]! p)).map vBI:=by
      rw[List.map_set,zBZ]; simp
     refine zAB (zJY (zAD (zCA (zAD rfl (zAD rfl (zAD rfl (zAD rfl (zAD rfl (zAD rfl (zAD (zAJ rfl e1 zsm (fun x=>zH3 x)) rfl)))))))) rfl)) ?_;have h1:vNG w x (d::p)=vBX x i (vNG w x.kids[i]! p):=by simp only[vNG,hk]
     have h2:(vCF w x (d::p)).isSome=(vCF w x.kids[i]! p).isSome:=by simp only[vCF,hk]; cases vCF w x.kids[i]! p<;>rfl
     rw[h1,h2]; rfl
theorem vTH{w:NodeL}:∀ {path:List DecL} {x k:NodeL},vCF w x path=some k→vNG w x path=k
 | [],x,k,h=>by simp only[vCF,Option.some.injEq]at h; simp only[vNG]; exact h
 | d :: p,x,k,h=>by
   simp only[vCF]at h;simp only[vNG];cases hk:vB4 x d with
   | none=>rw[hk]at h; cases h
   | some i =>
     rw[hk]at h;simp only[Option.map_eq_some_iff]at h;obtain⟨k',h1,h2⟩:=h;dsimp only;rw[vTH h1]; exact h2
theorem vS2{x k:NodeL}{i:Nat}(hx:x.Sm)(hk:k.Sm):(vBX x i k).Sm:=by
 refine .mk _ hx.lems hx.dec (by simp only[vBX,NodeL.kids,List.length_set]; exact hx.len) (fun z hz=>?_) hx.prf;simp only[vBX,NodeL.kids]at hz;rcases List.mem_or_eq_of_mem_set hz with h | h
 ·exact hx.kid h
 ·subst h; exact hk
theorem vTG{w:NodeL}(hw:w.Sm):∀ {path:List DecL} {x:NodeL},x.Sm→(vCF w x path).isSome→(vNG w x path).Sm
 | [],x,_,_=>hw
 | d :: p,x,hx,h=>by
   simp only[vCF]at h;simp only[vNG];cases hk:vB4 x d with
   | none=>rw[hk]at h; cases h
   | some i =>
     rw[hk]at h;refine vS2 hx (vTG hw (hx.kid (zA7 (zC9 hk).1)) ?_);dsimp only at h;cases hr:vCF w x.kids[i]! p with
     | none=>rw[hr]at h; cases h
     | some _=>rfl
def vNF(w x:NodeL)(path:List DecL):NodeL×Int :=
 if x.valid && w.valid then(match vCF w x path with
  | some k=>if k.valid then(k,0) else(zeroN,8)
  | none=>(zeroN,10)) else(zeroN,1)
theorem vLL:FO 72 Tryz.f72 [.cell 6 32,.tmp 7] 34:=mkO Tryz.func72 Tryz.ntmps72 Tryz.results72
theorem vRB(w x:NodeL)(path:List DecL)(hs:x.Sm)(hw:w.Sm)(hp:path.length<2097152):Fn 72 [vA7 x,.imm (path.map vA9),vA7 w] (.data (.tup [vA7 (vNF w x path).1,.int .i64 (vNF w x path).2])):=by
 refine zAL vBD hT vLL zsm ?_;refine sns ?_;refine zAA (zLC x hs) rfl ?_
 (refine gon ?_ ?_<;>intro h)
 ·refine zAA (zLC w hw) rfl ?_
  (refine gon ?_ ?_<;>intro h)
  ·have hx:=h
   have hxv:x.valid=true:=by assumption
   refine zAA (vW8 w path x hs hp) rfl ?_;cases hr:vCF w x path with
   | none =>
     refine sns ?_;have:vNF w x path=(zeroN,10):=by simp[vNF,hxv,hx,hr]
     rw[this]; exact zAB rfl rfl
   | some k =>
     have hk:=vTH hr;have hsm:k.Sm:=by rw[← hk]; exact vTG hw hs (by rw[hr]; rfl)
     rw[hk];refine sns ?_;refine zAA (zLC k hsm) rfl ?_
     (refine gon ?_ ?_<;>intro h)
     ·have:vNF w x path=(k,0):=by simp[vNF,hxv,hx,hr,h]
      rw[this]; exact zAB rfl rfl
     ·have:vNF w x path=(zeroN,8):=by simp[vNF,hxv,hx,hr,h]
      rw[this]; exact zAB rfl rfl
  ·have hxv:x.valid=true:=by assumption
   have:vNF w x path=(zeroN,1):=by simp[vNF,hxv,h]
   rw[this]; exact zAB rfl rfl
 ·have:vNF w x path=(zeroN,1):=by simp[vNF,h]
  rw[this]; exact zAB rfl rfl
theorem uJP{d:DecL}(h1:1≤d.kind)(h2:d.kind≤4):opp d≠d:=by
 intro h;have:=congrArg DecL.kind h;simp only[opp,uIH]at this
 split at this
 ·omega
 ·split at this
  ·omega
  ·split at this
   ·omega
   ·split at this<;>omega
theorem vXT(w:NodeL):∀ (path:List DecL) (x:NodeL),(atF x path).isSome=(vCF w x path).isSome
 | [],x=>rfl
 | d::p,x=>by
   simp only[atF,vCF];cases vB4 x d with
   | none=>rfl
   | some i=>simp only[Option.isSome_map]; exact vXT w p _
end Go.PI.Tryz
