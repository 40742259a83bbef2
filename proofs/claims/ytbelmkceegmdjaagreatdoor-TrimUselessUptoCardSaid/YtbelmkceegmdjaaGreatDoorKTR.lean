/-
  The node with a path; a node replaced; the scope of a node.
-/
import Derived.Test.YtbelmkceegmdjaaGreatDoorKNA
set_option linter.unusedVariables false
set_option linter.unusedSimpArgs false
set_option linter.unnecessarySimpa false
set_option maxHeartbeats 0
namespace Go.PI.Tryz
open Go.Proofs Go.PI
theorem uDA:FO 141 Tryz.f141 [.tmp 4] 26:=mkO Tryz.func141 Tryz.ntmps141 Tryz.results141
theorem vZ3(xs ys:List Int)(h1:xs.length<2097152):Fn 141 [vBK xs,vBK ys] (.data (.bool (decide (xs=ys)))):=by
 refine zAL vBC hT uDA zsm ?_
 refine gon ?_ ?_<;>intro h
 .refine zAB rfl ?_
  simp; intro e; subst e; exact h rfl
 .
  refine zA4 hT (fun i:Nat=>[(0,vBK xs),(1,vBK ys),(12,.int .i64 xs.length),(13,.int .i64 i)]) (fun i=>i<=xs.length/\∀ j,j<i->xs[j]! = ys[j]!) (fun i=>xs.length - i) 0 zsm ?_ ?_
  .exact⟨rAJ,rAJ,zAC rfl zsm,rAI,rGU⟩
  .intro i ⟨hi1,hi2⟩
   (repeat' (first|refine stn ?_|(with_reducible refine brr ?_ ?_<;>intro h)|(with_reducible refine zAT ?_ ?_<;>intro h)|with_reducible refine zBC ?_ ?_)); all_goals try (conv=>whnf)
   .refine zAB rfl ?_
    simp; intro e; subst e; exact h rfl
   .refine⟨i+1,⟨⟨zom,fun j hj=>?_⟩,zom⟩,rAJ,rAJ,rAI,zAC rfl zom,rGU⟩
    rcases rCH.1 hj with hj | rfl
    .exact hi2 j hj
    .assumption
   .refine zAB rfl ?_
    have:xs=ys:=(zCM zom).2 fun j hj=>hi2 j zom
    simp[this]
theorem vR3:FO 91 Tryz.f91 [.tmp 4] 26:=mkO Tryz.func91 Tryz.ntmps91 Tryz.results91
theorem vK2(xs ys:List Int)(h1:xs.length<2097152):Fn 91 [vBK xs,vBK ys] (.data (.bool (decide (xs=ys)))):=by
 refine zAL vBC hT vR3 zsm ?_
 refine gon ?_ ?_<;>intro h
 .refine zAB rfl ?_
  simp; intro e; subst e; exact h rfl
 .
  refine zA4 hT (fun i:Nat=>[(0,vBK xs),(1,vBK ys),(5,.int .i64 i)]) (fun i=>i<=xs.length/\∀ j,j<i->xs[j]! = ys[j]!) (fun i=>xs.length - i) 0 zsm ?_ ?_
  .exact⟨rAJ,rAJ,rAI,rGU⟩
  .intro i ⟨hi1,hi2⟩
   (repeat' (first|refine stn ?_|(with_reducible refine brr ?_ ?_<;>intro h)|(with_reducible refine zAT ?_ ?_<;>intro h)|with_reducible refine zBC ?_ ?_)); all_goals try (conv=>whnf)
   .refine zAB rfl ?_
    simp; intro e; subst e; exact h rfl
   .refine⟨i+1,⟨⟨zom,fun j hj=>?_⟩,zom⟩,rAJ,rAJ,zAC rfl zom,rGU⟩
    rcases rCH.1 hj with hj | rfl
    .exact hi2 j hj
    .assumption
   .refine zAB rfl ?_
    have:xs=ys:=(zCM zom).2 fun j hj=>hi2 j zom
    simp[this]
theorem uMV:FO 110 Tryz.f110 [.tmp 4] 24:=mkO Tryz.func110 Tryz.ntmps110 Tryz.results110
theorem uKZ(x y:RatL)(h1:x.sm):Fn 110 [vA5 x,vA5 y] (.data (.bool (decide (x=y)))):=by
 refine zAL vBC hT uMV zsm ?_
 refine gon ?_ ?_<;>intro h
 .refine zAA (vZ3 _ _ h1.1) rfl ?_
  refine gon ?_ ?_<;>intro h
  .refine zAA (vZ3 _ _ h1.2) rfl ?_
   refine sns ?_;refine zAB rfl ?_;cases x; cases y; simp_all
  .refine zAB rfl ?_
   cases x; cases y; simp_all
 .refine zAB rfl ?_
  cases x; cases y; simp_all
theorem uIH:FO 51 Tryz.f51 [.tmp 4] 24:=mkO Tryz.func51 Tryz.ntmps51 Tryz.results51
theorem vZF(x y:RatL)(h1:x.sm):Fn 51 [vA5 x,vA5 y] (.data (.bool (decide (x=y)))):=by
 refine zAL vBC hT uIH zsm ?_
 refine gon ?_ ?_<;>intro h
 .refine zAA (vK2 _ _ h1.1) rfl ?_
  refine gon ?_ ?_<;>intro h
  .refine zAA (vK2 _ _ h1.2) rfl ?_
   refine sns ?_;refine zAB rfl ?_;cases x; cases y; simp_all
  .refine zAB rfl ?_
   cases x; cases y; simp_all
 .refine zAB rfl ?_
  cases x; cases y; simp_all
theorem uM3:FO 77 Tryz.f77 [.tmp 4] 24:=mkO Tryz.func77 Tryz.ntmps77 Tryz.results77
theorem uK6(x y:DecL)(h1:x.sm):Fn 77 [vA9 x,vA9 y] (.data (.bool (decide (x=y)))):=by
 refine zAL vBC hT uM3 zsm ?_
 (repeat' (first|refine stn ?_|(with_reducible refine brr ?_ ?_<;>intro h)|(with_reducible refine zAT ?_ ?_<;>intro h)|with_reducible refine zBC ?_ ?_)); all_goals try (conv=>whnf)
 .refine zAA (uKZ x.rat y.rat h1) rfl ?_
  refine sns ?_;refine zAB rfl ?_;cases x; cases y; simp_all
 .refine zAB rfl ?_
  cases x; cases y; simp_all
 .refine zAB rfl ?_
  cases x; cases y; simp_all
theorem vR4:FO 31 Tryz.f31 [.tmp 4] 24:=mkO Tryz.func31 Tryz.ntmps31 Tryz.results31
theorem vK3(x y:DecL)(h1:x.sm):Fn 31 [vA9 x,vA9 y] (.data (.bool (decide (x=y)))):=by
 refine zAL vBC hT vR4 zsm ?_
 (repeat' (first|refine stn ?_|(with_reducible refine brr ?_ ?_<;>intro h)|(with_reducible refine zAT ?_ ?_<;>intro h)|with_reducible refine zBC ?_ ?_)); all_goals try (conv=>whnf)
 .refine zAA (vZF x.rat y.rat h1) rfl ?_
  refine sns ?_;refine zAB rfl ?_;cases x; cases y; simp_all
 .refine zAB rfl ?_
  cases x; cases y; simp_all
 .refine zAB rfl ?_
  cases x; cases y; simp_all
theorem uIY:FO 112 Tryz.f112 [.tmp 4] 17:=mkO Tryz.func112 Tryz.ntmps112 Tryz.results112
theorem uN6(x y:MultL)(h1:x.sm):Fn 112 [vBB x,vBB y] (.data (.bool (decide (x=y)))):=by
 refine zAL vBC hT uIY zsm ?_
 refine gon ?_ ?_<;>intro h
 .refine zAA (uKZ x.coef y.coef h1) rfl ?_
  refine sns ?_;refine zAB rfl ?_;obtain⟨⟨_,_,_,_⟩,_⟩:=x; obtain⟨⟨_,_,_,_⟩,_⟩:=y; simp_all
 .refine zAB rfl ?_
  simp only[PV.bool.injEq];refine(rBD fun e=>?_).symm;subst e; simp at h
theorem vSK:FO 111 Tryz.f111 [.tmp 6] 32:=mkO Tryz.func111 Tryz.ntmps111 Tryz.results111
theorem vZ2(xs ys:List MultL)(h1:vCK xs):Fn 111 [.imm (xs.map vBB),.imm (ys.map vBB),.func (.func 112) [] []] (.data (.bool (decide (xs=ys)))):=by
 have hl:=h1.1;refine zAL vBC hT vSK zsm ?_
 refine gon ?_ ?_<;>intro h
 .refine zAB rfl ?_
  simp; intro e; subst e; exact h rfl
 .refine zA4 hT (fun i:Nat=>[(1,.imm (ys.map vBB)),(2,.func (.func 112) [] []),(15,.imm (xs.map vBB)),(16,.int .i64 xs.length),(17,.int .i64 i)]) (fun i=>i<=xs.length/\∀ j,j<i->xs[j]! = ys[j]!) (fun i=>xs.length - i) 0 zsm ?_ ?_
  .exact⟨rAJ,zH3 rfl,rAJ,zAC rfl zsm,rAI,rGU⟩
  .intro i ⟨hi1,hi2⟩
   refine gon ?_ ?_<;>intro h
   .have hi:i<xs.length:=by omega
    refine zAA (uN6 xs[i]! ys[i]! (h1.2 _ (zA2 hi))) rfl ?_
    refine gon ?_ ?_<;>intro h
    .refine⟨i+1,⟨⟨zom,fun j hj=>?_⟩,zom⟩,rAJ,zH3 rfl,rAJ,rAI,zAC rfl zom,rGU⟩
     rcases rCH.1 hj with hj | rfl
     .exact hi2 j hj
     .assumption
    .refine zAB rfl ?_
     simp; intro e; subst e; exact h rfl
   .refine zAB rfl ?_
    have:xs=ys:=(zCM zom).2 fun j hj=>hi2 j zom
    simp[this]
theorem uCW:FO 78 Tryz.f78 [.tmp 4] 8:=mkO Tryz.func78 Tryz.ntmps78 Tryz.results78
theorem vZT(xs ys:List MultL)(h1:vCK xs):Fn 78 [.imm (xs.map vBB),.imm (ys.map vBB)] (.data (.bool (decide (xs=ys)))):=by
 refine zAL vBC hT uCW zsm ?_;refine sns ?_;refine zAA (vZ2 xs ys h1) rfl ?_;refine sns ?_;exact rGV
theorem vJT:FO 33 Tryz.f33 [.tmp 4] 42:=mkO Tryz.func33 Tryz.ntmps33 Tryz.results33
theorem zOF(xs ys:List MultL)(h1:vCK xs):Fn 33 [.imm (xs.map vBB),.imm (ys.map vBB)] (.data (.bool (decide (xs=ys)))):=by
 have hl:=h1.1;refine zAL vBC hT vJT zsm ?_
 refine gon ?_ ?_<;>intro h
 .refine zAB rfl ?_
  simp; intro e; subst e; exact h rfl
 .refine zA4 hT (fun i:Nat=>[(0,.imm (xs.map vBB)),(1,.imm (ys.map vBB)),(5,.int .i64 i)]) (fun i=>i<=xs.length/\∀ j,j<i->xs[j]! = ys[j]!) (fun i=>xs.length - i) 0 zsm ?_ ?_
  .exact⟨rAJ,rAJ,rAI,rGU⟩
  .intro i ⟨hi1,hi2⟩
   (repeat' (first|refine stn ?_|(with_reducible refine brr ?_ ?_<;>intro h)|(with_reducible refine zAT ?_ ?_<;>intro h)|with_reducible refine zBC ?_ ?_)); all_goals try (conv=>whnf)
   .have hi:i<xs.length:=by omega
    have hr:=h;refine zAA (vZF _ ys[i]!.coef (h1.2 _ (zA2 hi))) rfl ?_
    refine gon ?_ ?_<;>intro h
    .refine⟨i+1,⟨⟨zom,fun j hj=>?_⟩,zom⟩,rAJ,rAJ,zAC rfl zom,rGU⟩
     rcases rCH.1 hj with hj | rfl
     .exact hi2 j hj
     .exact uDL hr rAC
    .refine zAB rfl ?_; simp only[PV.bool.injEq]; refine(rBD fun e=>?_).symm; subst e; first | exact h rfl | simp at h | simp_all
   .refine zAB rfl ?_; simp only[PV.bool.injEq]; refine(rBD fun e=>?_).symm; subst e; first | exact h rfl | simp at h | simp_all
   .refine zAB rfl ?_
    have:xs=ys:=(zCM zom).2 fun j hj=>hi2 j zom
    simp[this]
theorem uMY:FO 80 Tryz.f80 [.tmp 4] 31:=mkO Tryz.func80 Tryz.ntmps80 Tryz.results80
theorem uQA(x y:LemL)(h1:x.sm):Fn 80 [vBA x,vBA y] (.data (.bool (decide (x=y)))):=by
 refine zAL vBC hT uMY zsm ?_
 (repeat' (first|refine stn ?_|(with_reducible refine brr ?_ ?_<;>intro h)|(with_reducible refine zAT ?_ ?_<;>intro h)|with_reducible refine zBC ?_ ?_)); all_goals try (conv=>whnf)
 .refine zAA (uKZ x.value y.value h1.1) rfl ?_
  refine gon ?_ ?_<;>intro h
  .refine zAA (vZT x.proof y.proof h1.2) rfl ?_
   refine sns ?_;refine zAB rfl ?_;simp only[PV.bool.injEq,rCW];exact⟨fun e=>vX4 rAC rAC rAC e,fun e=>by rw[e]⟩
  .refine zAB rfl ?_; simp only[PV.bool.injEq]; refine(rBD fun e=>?_).symm; subst e; first | exact h rfl | simp at h | simp_all
 .refine zAB rfl ?_; simp only[PV.bool.injEq]; refine(rBD fun e=>?_).symm; subst e; first | exact h rfl | simp at h | simp_all
 .refine zAB rfl ?_; simp only[PV.bool.injEq]; refine(rBD fun e=>?_).symm; subst e; first | exact h rfl | simp at h | simp_all
theorem vXI:FO 79 Tryz.f79 [.tmp 6] 32:=mkO Tryz.func79 Tryz.ntmps79 Tryz.results79
theorem uE7(xs ys:List LemL)(h1:vI9 xs):Fn 79 [.imm (xs.map vBA),.imm (ys.map vBA),.func (.func 80) [] []] (.data (.bool (decide (xs=ys)))):=by
 have hl:=h1.1;refine zAL vBC hT vXI zsm ?_
 refine gon ?_ ?_<;>intro h
 .refine zAB rfl ?_
  simp; intro e; subst e; exact h rfl
 .refine zA4 hT (fun i:Nat=>[(1,.imm (ys.map vBA)),(2,.func (.func 80) [] []),(15,.imm (xs.map vBA)),(16,.int .i64 xs.length),(17,.int .i64 i)]) (fun i=>i<=xs.length/\∀ j,j<i->xs[j]! = ys[j]!) (fun i=>xs.length - i) 0 zsm ?_ ?_
  .exact⟨rAJ,zH3 rfl,rAJ,zAC rfl zsm,rAI,rGU⟩
  .intro i ⟨hi1,hi2⟩
   refine gon ?_ ?_<;>intro h
   .have hi:i<xs.length:=by omega
    refine zAA (uQA xs[i]! ys[i]! (h1.2 _ (zA2 hi))) rfl ?_
    refine gon ?_ ?_<;>intro h
    .refine⟨i+1,⟨⟨zom,fun j hj=>?_⟩,zom⟩,rAJ,zH3 rfl,rAJ,rAI,zAC rfl zom,rGU⟩
     rcases rCH.1 hj with hj | rfl
     .exact hi2 j hj
     .assumption
    .refine zAB rfl ?_
     simp; intro e; subst e; exact h rfl
   .refine zAB rfl ?_
    have:xs=ys:=(zCM zom).2 fun j hj=>hi2 j zom
    simp[this]
theorem vMN:FO 32 Tryz.f32 [.tmp 4] 69:=mkO Tryz.func32 Tryz.ntmps32 Tryz.results32
theorem vS6(xs ys:List LemL)(h1:vI9 xs):Fn 32 [.imm (xs.map vBA),.imm (ys.map vBA)] (.data (.bool (decide (xs=ys)))):=by
 have hl:=h1.1;refine zAL vBC hT vMN zsm ?_
 refine gon ?_ ?_<;>intro h
 .refine zAB rfl ?_
  simp; intro e; subst e; exact h rfl
 .refine zA4 hT (fun i:Nat=>[(0,.imm (xs.map vBA)),(1,.imm (ys.map vBA)),(5,.int .i64 i)]) (fun i=>i<=xs.length/\∀ j,j<i->xs[j]! = ys[j]!) (fun i=>xs.length - i) 0 zsm ?_ ?_
  .exact⟨rAJ,rAJ,rAI,rGU⟩
  .intro i ⟨hi1,hi2⟩
   (repeat' (first|refine stn ?_|(with_reducible refine brr ?_ ?_<;>intro h)|(with_reducible refine zAT ?_ ?_<;>intro h)|with_reducible refine zBC ?_ ?_)); all_goals try (conv=>whnf)
   .refine zAB rfl ?_; simp only[PV.bool.injEq]; refine(rBD fun e=>?_).symm; subst e; first | exact h rfl | simp at h | simp_all
   .refine zAB rfl ?_; simp only[PV.bool.injEq]; refine(rBD fun e=>?_).symm; subst e; first | exact h rfl | simp at h | simp_all
   .have hi:i<xs.length:=by omega
    refine zAA (vZF _ ys[i]!.value (h1.2 _ (zA2 hi)).1) rfl ?_
    refine gon ?_ ?_<;>intro h
    .refine zAA (zOF _ ys[i]!.proof (h1.2 _ (zA2 hi)).2) rfl ?_
     refine gon ?_ ?_<;>intro h
     .refine⟨i+1,⟨⟨zom,fun j hj=>?_⟩,zom⟩,rAJ,rAJ,zAC rfl zom,rGU⟩
      rcases rCH.1 hj with hj | rfl
      .exact hi2 j hj
      .exact vX4 rAC rAC rAC rAC
     .refine zAB rfl ?_; simp only[PV.bool.injEq]; refine(rBD fun e=>?_).symm; subst e; first | exact h rfl | simp at h | simp_all
    .refine zAB rfl ?_; simp only[PV.bool.injEq]; refine(rBD fun e=>?_).symm; subst e; first | exact h rfl | simp at h | simp_all
   .refine zAB rfl ?_
    have:xs=ys:=(zCM zom).2 fun j hj=>hi2 j zom
    simp[this]
theorem uC9:FO 43 Tryz.f43 [.tmp 4] 38:=mkO Tryz.func43 Tryz.ntmps43 Tryz.results43
theorem vSJ:FO 81 Tryz.f81 [.tmp 6] 32:=mkO Tryz.func81 Tryz.ntmps81 Tryz.results81
theorem vZ1(xs ys:List NodeL)(hl:xs.length<2097152)(hc:∀ x∈xs,∀ y,Fn 43 [vA7 x,vA7 y] (.data (.bool (decide (x=y))))):Fn 81 [.imm (xs.map vBF),.imm (ys.map vBF),.func (.func 43) [] []] (.data (.bool (decide (xs=ys)))):=by
 refine zAL vBC hT vSJ zsm ?_
 refine gon ?_ ?_<;>intro h
 .refine zAB rfl ?_
  simp; intro e; subst e; exact h rfl
 .refine zA4 hT (fun i:Nat=>[(1,.imm (ys.map vBF)),(2,.func (.func 43) [] []),(15,.imm (xs.map vBF)),(16,.int .i64 xs.length),(17,.int .i64 i)]) (fun i=>i<=xs.length/\∀ j,j<i->xs[j]! = ys[j]!) (fun i=>xs.length - i) 0 zsm ?_ ?_
  .exact⟨rAJ,zH3 rfl,rAJ,zAC rfl zsm,rAI,rGU⟩
  .intro i ⟨hi1,hi2⟩
   refine gon ?_ ?_<;>intro h
   .have hi:i<xs.length:=by omega
    refine zAA (hc xs[i]! (zA2 hi) ys[i]!) rfl ?_
    refine gon ?_ ?_<;>intro h
    .refine⟨i+1,⟨⟨zom,fun j hj=>?_⟩,zom⟩,rAJ,zH3 rfl,rAJ,rAI,zAC rfl zom,rGU⟩
     rcases rCH.1 hj with hj | rfl
     .exact hi2 j hj
     .assumption
    .refine zAB rfl ?_
     simp; intro e; subst e; exact h rfl
   .refine zAB rfl ?_
    have:xs=ys:=(zCM zom).2 fun j hj=>hi2 j zom
    simp[this]
theorem vZ0:∀ (n:Nat) (x y:NodeL),SizeOf.sizeOf x<n->x.Sm->Fn 43 [vA7 x,vA7 y] (.data (.bool (decide (x=y)))):=by
 intro n
 induction n with
 | zero=>intro x y h; omega
 | succ n ih =>
   intro x y hx hs;refine zAL vBC hT uC9 zsm ?_
   refine gon ?_ ?_<;>intro h
   .have e1:=h
    refine zAA (uK6 x.split y.split hs.dec) rfl ?_
    refine gon ?_ ?_<;>intro h
    .have e2:=h
     refine zAA (vZT x.proof y.proof hs.prf) rfl ?_
     refine gon ?_ ?_<;>intro h
     .have e3:=h
      refine zAA (uE7 x.lemmas y.lemmas hs.lems) rfl ?_
      refine gon ?_ ?_<;>intro h
      .have e4:=h
       refine zAA (vZ1 x.kids y.kids hs.len (fun k hk z=>ih k z (by have:=NodeL.sizeOf_kid hk; omega) (hs.kid hk))) rfl ?_;refine sns ?_;refine zAB rfl ?_;simp only[PV.bool.injEq,rCW];exact⟨fun e=>vPF e4 e2 e e1 e3,fun e=>by rw[e]⟩
      .refine zAB rfl ?_; simp only[PV.bool.injEq]; refine(rBD fun e=>?_).symm; subst e; first | exact h rfl | simp at h | simp_all
     .refine zAB rfl ?_; simp only[PV.bool.injEq]; refine(rBD fun e=>?_).symm; subst e; first | exact h rfl | simp at h | simp_all
    .refine zAB rfl ?_; simp only[PV.bool.injEq]; refine(rBD fun e=>?_).symm; subst e; first | exact h rfl | simp at h | simp_all
   .refine zAB rfl ?_; simp only[PV.bool.injEq]; refine(rBD fun e=>?_).symm; subst e; first | exact h rfl | simp at h | simp_all
theorem vMQ:FO 12 Tryz.f12 [.tmp 4] 63:=mkO Tryz.func12 Tryz.ntmps12 Tryz.results12
theorem zP2:∀ (n:Nat) (x y:NodeL),SizeOf.sizeOf x<n->x.Sm->Fn 12 [vA7 x,vA7 y] (.data (.bool (decide (x=y)))):=by
 intro n
 induction n with
 | zero=>intro x y h; omega
 | succ n ih =>
   intro x y hx hs;have hl:=hs.len;refine zAL vBC hT vMQ zsm ?_
   refine gon ?_ ?_<;>intro h
   .refine zAB rfl ?_; simp only[PV.bool.injEq]; refine(rBD fun e=>?_).symm; subst e; first | exact h rfl | simp at h | simp_all
   .have e1:=h
    refine zAA (vK3 x.split y.split hs.dec) rfl ?_
    refine gon ?_ ?_<;>intro h
    .have e2:=h
     refine zAA (vS6 x.lemmas y.lemmas hs.lems) rfl ?_
     refine gon ?_ ?_<;>intro h
     .have e3:=h
      refine zAA (zOF x.proof y.proof hs.prf) rfl ?_
      (repeat' (first|refine stn ?_|(with_reducible refine brr ?_ ?_<;>intro h)|(with_reducible refine zAT ?_ ?_<;>intro h)|with_reducible refine zBC ?_ ?_)); all_goals try (conv=>whnf)
      .refine zAB rfl ?_; simp only[PV.bool.injEq]; refine(rBD fun e=>?_).symm; subst e; first | exact h rfl | simp at h | simp_all
      .have e4:=h
       refine zC8 hT (fun i:Nat=>[(2,.ptr 0 0 0),(3,.ptr 1 0 0),(5,.int .i64 i)]) (fun _=>[(0,⟨[vA7 x],9,true⟩),(1,⟨[vA7 y],9,true⟩)]) [] 2 (fun i=>i<=x.kids.length/\∀ j,j<i->x.kids[j]! = y.kids[j]!) (fun i=>x.kids.length - i) 0 zsm zdd zsm
        [0,1] ⟨apx,apx,rAI,rGU⟩ ⟨bbx,bbx,rGU⟩ rAA ?_
       intro i ⟨hi1,hi2⟩
       refine gon ?_ ?_<;>intro h
       .have hi:i<x.kids.length:=by omega
        refine zAA (ih x.kids[i]! y.kids[i]! (by have:=NodeL.sizeOf_kid (zA2 hi); omega) (hs.kid (zA2 hi))) rfl ?_
        refine gon ?_ ?_<;>intro h
        .refine⟨i+1,[0,1],⟨⟨zom,fun j hj=>?_⟩,zom⟩,⟨apx,apx,zAC rfl zom,rGU⟩,⟨bbx,bbx,rGU⟩,rAA⟩
         rcases rCH.1 hj with hj | rfl
         .exact hi2 j hj
         .assumption
        .refine zAB rfl ?_; simp only[PV.bool.injEq]; refine(rBD fun e=>?_).symm; subst e; first | exact h rfl | simp at h | simp_all
       .refine zAB rfl ?_
        have:x.kids=y.kids:=(zCM zom).2 fun j hj=>hi2 j zom
        simp only[PV.bool.injEq];exact(rB4 (vPF e3 e2 this e1 rAC)).symm
      .refine zAB rfl ?_; simp only[PV.bool.injEq]; refine(rBD fun e=>?_).symm; subst e; first | exact h rfl | simp at h | simp_all
     .refine zAB rfl ?_; simp only[PV.bool.injEq]; refine(rBD fun e=>?_).symm; subst e; first | exact h rfl | simp at h | simp_all
    .refine zAB rfl ?_; simp only[PV.bool.injEq]; refine(rBD fun e=>?_).symm; subst e; first | exact h rfl | simp at h | simp_all
def lsz(most:Int)(n:NodeL):Int:=(n.kids.attach.map fun⟨k,_⟩=>lsz most k).foldl (fun k c=>if k<=most then k+c else k) (1+n.lemmas.length+n.proof.length+((n.lemmas.map fun x=>x.proof.length).sum:Nat))
termination_by SizeOf.sizeOf n
decreasing_by exact NodeL.sizeOf_kid ‹_›
theorem vPK(most:Int)(n:NodeL):lsz most n=(n.kids.map (lsz most)).foldl (fun k c=>if k<=most then k+c else k) (1+n.lemmas.length+n.proof.length+((n.lemmas.map fun x=>x.proof.length).sum:Nat)):=by
 rw[lsz]
 congr 1
 simp
theorem zI9(most:Int)(l:List NodeL)(h:∀ k∈l,1<=lsz most k/\lsz most k<=k.wt):∀ k0:Int,k0<=(l.map (lsz most)).foldl (fun k c=>if k<=most then k+c else k) k0/\(l.map (lsz most)).foldl (fun k c=>if k<=most then k+c else k) k0<=k0+(l.map NodeL.wt).sum:=by
 induction l with
 | nil=>intro k0; simp
 | cons a l ih =>
   intro k0;have h1:=h a zsm;have h2:=ih (fun k hk=>h k (by simp[hk])) (if k0<=most then k0+lsz most a else k0);simp only[rBM,List.foldl_cons,List.sum_cons]
   split at h2<;>rename_i hc
   .rw[rAU hc]; omega
   .rw[rAM hc]; omega
theorem zKB(most:Int):∀ (n:Nat) (x:NodeL),SizeOf.sizeOf x<n->1<=lsz most x/\lsz most x<=x.wt:=by
 intro n
 induction n with
 | zero=>intro x h; omega
 | succ n ih =>
   intro x hx;have h:=zI9 most x.kids (fun k hk=>ih k (by have:=NodeL.sizeOf_kid hk; omega)) (1+x.lemmas.length+x.proof.length+((x.lemmas.map fun x=>x.proof.length).sum:Nat));have hw:=x.wt_eq;have hl:=zGN x.lemmas;rw[vPK];omega
theorem zLU(most:Int)(l:List Int)(k:Int)(h:¬ k<=most):l.foldl (fun k c=>if k<=most then k+c else k) k=k:=by
 induction l with
 | nil=>rfl
 | cons a l ih=>rw[List.foldl_cons,rAM h]; exact ih
theorem vM4(n:NodeL):n.kids.length<n.wt:=by
 rw[n.wt_eq]
 have:∀ l:List NodeL,l.length<=(l.map NodeL.wt).sum:=by
  intro l
  induction l with
  | nil=>simp
  | cons a l ih =>
    simp only[List.length_cons,rBM,List.sum_cons];have:=a.wt_eq;omega
 have:=this n.kids;omega
theorem vYP(most:Int)(l:List NodeL)(h:∀ k∈l,1<=lsz most k):∀ k0:Int,(l.map (lsz most)).foldl (fun k c=>if k<=most then k+c else k) k0<=most->(l.map (lsz most)).foldl (fun k c=>if k<=most then k+c else k) k0=k0+(l.map (lsz most)).sum/\∀ k∈l,lsz most k<=most - k0:=by
 induction l with
 | nil=>intro k0 _; simp
 | cons a l ih =>
   intro k0 hk;simp only[rBM,List.foldl_cons,List.sum_cons]at hk ⊢;have ha:=h a zsm
   have h0:k0<=most:=by
    by_cases h0:k0<=most
    .exact h0
    .rw[rAM h0,zLU most _ _ h0]at hk; exact absurd hk h0
   rw[rAU h0]at hk ⊢;obtain⟨h1,h2⟩:=ih (fun k hk=>h k (by simp[hk])) (k0+lsz most a) hk
   have hb:k0+lsz most a<=most:=by
    by_cases hb:k0+lsz most a<=most
    .exact hb
    .rw[zLU most _ _ hb]at hk; exact absurd hk hb
   refine⟨by rw[h1]; omega,fun k hk=>?_⟩;rcases rBA.1 hk with rfl | hk
   .omega
   .have:=h2 k hk; omega
theorem zJ1:FO 52 Tryz.f52 [.tmp 6,.tmp 7] 84:=mkO Tryz.func52 Tryz.ntmps52 Tryz.results52
def vIJ(d m:Int)(x:NodeL)(k:Int)(b:Bool):Prop:=(b=true↔vBH d.toNat x=true/\(x.cnt:Int)<=m)/\(b=true->k=x.cnt)/\0<=k/\k<=max m 0
theorem uKO:∀ (n:Nat) (x:NodeL) (d m:Int),SizeOf.sizeOf x<n->x.Sm->0<=d->d<=2048->m<=65536->-65536<=m->∃ k b,vIJ d m x k b/\Fn 52 [vA7 x,.int .i64 d,.int .i64 m] (.data (.tup [.int .i64 k,.bool b])):=by
 intro n
 induction n with
 | zero=>intro x d m h; omega
 | succ n ih =>
   intro x d m hx hs hd0 hd1 hm hm0;have hno:∀ k,0<=k->k<=max m 0->¬ (vBH d.toNat x=true/\(x.cnt:Int)<=m)->vIJ d m x k false:=fun k h1 h2 h=>⟨by simpa using h,zsm,h1,h2⟩
   have hc:=zF5 x;by_cases hm1:m<1
   .refine⟨0,false,hno 0 zom zom zom,?_⟩
    refine zAL vBC hT zJ1 zsm ?_
    (repeat' (first|refine stn ?_|(with_reducible refine brr ?_ ?_<;>intro h)|(with_reducible refine zAT ?_ ?_<;>intro h)|with_reducible refine zBC ?_ ?_)); all_goals try (conv=>whnf)
    .exact rGV
    all_goals omega
   .by_cases hk0:x.kids.length=0
    .refine⟨1,vED x,?_,?_⟩
     .have h1:=zBI (d:=d.toNat) hk0
      have h2:=zG3 hk0;unfold vIJ;rw[h1,h2];refine⟨⟨fun h=>⟨h,zom⟩,fun h=>h.1⟩,fun _=>rfl,zom,zom⟩
     .refine zAL vBC hT zJ1 zsm ?_
      (repeat' (first|refine stn ?_|(with_reducible refine brr ?_ ?_<;>intro h)|(with_reducible refine zAT ?_ ?_<;>intro h)|with_reducible refine zBC ?_ ?_)); all_goals try (conv=>whnf)
      .omega
      .refine zAA (uK6 x.split ⟨0,0,⟨false,[],[]⟩⟩ hs.dec) rfl ?_
       refine sns ?_;exact rGV
      all_goals omega
    .by_cases hin:vBX x=true/\d≠0
     .obtain⟨hin,hd⟩:=hin
      have hin':=hin;simp only[vBX,rAY]at hin';obtain⟨i1,i2,i3,i4,i5⟩:=hin';have e2:=zCV (d:=d.toNat) i1;have e3:=vH7 i1;have k0:x.kids[0]! ∈ x.kids:=zA2 zom;have k1:x.kids[1]! ∈ x.kids:=zA2 zom;have ed:(d - 1).toNat=d.toNat - 1:=by omega
      obtain⟨a,ok,⟨a1,a2,a3,a4⟩,ha⟩:=ih x.kids[0]! (d - 1) (m - 1) (by have:=NodeL.sizeOf_kid k0; omega) (hs.kid k0) zom zom zom zom;rw[ed]at a1;rw[hin,rB4 (show d.toNat≠0 by omega),rDQ,rDP]at e2;have hp:=zF5 x.kids[1]!;cases ok with
      | false =>
        refine⟨0,false,hno 0 zom zom (fun h=>?_),?_⟩
        .rw[e2,rAO]at h
         exact absurd (a1.2 ⟨h.1.1,zom⟩) zsm
        .refine zAL vBC hT zJ1 zsm ?_
         (repeat' (first|refine stn ?_|(with_reducible refine brr ?_ ?_<;>intro h)|(with_reducible refine zAT ?_ ?_<;>intro h)|with_reducible refine zBC ?_ ?_)); all_goals try (conv=>whnf)
         all_goals try (exfalso; first | omega | simp_all; done)
         refine zAA ha rfl ?_;refine sns ?_;exact rGV
      | true =>
        obtain⟨b,ok,⟨b1,b2,b3,b4⟩,hb⟩:=ih x.kids[1]! (d - 1) (m - 1 - a) (by have:=NodeL.sizeOf_kid k1; omega) (hs.kid k1) zom zom zom zom;rw[ed]at b1;have a2:=a2 rfl;have a1:=a1.1 rfl;refine⟨1+a+b,ok,⟨?_,?_,zom,zom⟩,?_⟩
        .rw[e2,rAO,b1]
         constructor
         .intro h; exact⟨⟨a1.1,h.1⟩,zom⟩
         .intro h; exact⟨h.1.2,zom⟩
        .intro h; have:=b2 h; omega
        .refine zAL vBC hT zJ1 zsm ?_
         (repeat' (first|refine stn ?_|(with_reducible refine brr ?_ ?_<;>intro h)|(with_reducible refine zAT ?_ ?_<;>intro h)|with_reducible refine zBC ?_ ?_)); all_goals try (conv=>whnf)
         all_goals try (exfalso; first | omega | simp_all; done)
         refine zAA ha rfl ?_;refine sns ?_;refine zAA hb rfl ?_;refine sns ?_;exact rGV
     .refine⟨0,false,hno 0 zom zom (fun h=>hin ?_),?_⟩
      .rw[zA1 hk0]at h
       simp only[rAO,rAY]at h;exact⟨h.1.1.1,zom⟩
      .refine zAL vBC hT zJ1 zsm ?_
       (repeat' (first|refine stn ?_|(with_reducible refine brr ?_ ?_<;>intro h)|(with_reducible refine zAT ?_ ?_<;>intro h)|with_reducible refine zBC ?_ ?_)); all_goals try (conv=>whnf)
       all_goals try (exact rGV)
       all_goals try (exfalso; omega)
       exfalso;apply hin;simp only[vBX,rAY];refine⟨⟨?_,?_,?_,?_,?_⟩,?_⟩<;>first | assumption | omega
theorem uB8:FO 34 Tryz.f34 [.tmp 2] 11:=mkO Tryz.func34 Tryz.ntmps34 Tryz.results34
theorem zLX(x:NodeL)(hs:x.Sm):Fn 34 [vA7 x] (.data (.bool x.valid)):=by
 obtain⟨k,b,⟨h1,_,_,_⟩,hr⟩:=uKO _ x 2048 65536 (rAL _) hs zom zom zom zom;refine zAL vBC hT uB8 zsm ?_;refine sns ?_;refine zAA hr rfl ?_;refine sns ?_;refine zAB rfl ?_;simp only[PV.bool.injEq];rw[rA1,h1];simp only[NodeL.valid,rAO,rAY];exact and_congr Iff.rfl zom
def NodeL.size(x:NodeL):Nat:=if x.valid then x.cnt else 0
theorem zNU:FO 44 Tryz.f44 [.tmp 4,.tmp 5] 77:=mkO Tryz.func44 Tryz.ntmps44 Tryz.results44
def vIL(d:Int)(x:NodeL)(k:Int)(b:Bool):Prop:=(b=true->d<=2048/\vBH (2048 - d).toNat x=true/\k=x.cnt)/\(d<=2048->vBH (2048 - d).toNat x=true->x.cnt<=65536->b=true)/\0<=k/\k<=(2050 - d) * 65537
theorem uOG:∀ (n:Nat) (x:NodeL) (d:Int),SizeOf.sizeOf x<n->x.Sm->0<=d->d<=2049->∃ k b,vIL d x k b/\Fn 44 [vA7 x,.int .i64 d] (.data (.tup [.bool b,.int .i64 k])):=by
 intro n
 induction n with
 | zero=>intro x d h; omega
 | succ n ih =>
   intro x d hx hs hd0 hd1;have hc:=zF5 x;have hno:¬ (d<=2048/\vBH (2048 - d).toNat x=true/\x.cnt<=65536)->vIL d x 0 false:=fun h=>⟨zsm,fun h0 h1 h2=>absurd ⟨h0,h1,h2⟩ h,zom,zom⟩
   by_cases hdd:2048<d
   .refine⟨0,false,hno zom,?_⟩
    refine zAL vBC hT zNU zsm ?_
    (repeat' (first|refine stn ?_|(with_reducible refine brr ?_ ?_<;>intro h)|(with_reducible refine zAT ?_ ?_<;>intro h)|with_reducible refine zBC ?_ ?_)); all_goals try (conv=>whnf)
    all_goals try (exact rGV)
    all_goals (exfalso; omega)
   .by_cases hk0:x.kids.length=0
    .refine⟨1,vED x,?_,?_⟩
     .have h1:=zBI (d:=(2048 - d).toNat) hk0
      have h2:=zG3 hk0;unfold vIL;rw[h1,h2];exact⟨fun h=>⟨zom,h,rfl⟩,fun _ h _=>h,zom,zom⟩
     .refine zAL vBC hT zNU zsm ?_
      (repeat' (first|refine stn ?_|(with_reducible refine brr ?_ ?_<;>intro h)|(with_reducible refine zAT ?_ ?_<;>intro h)|with_reducible refine zBC ?_ ?_)); all_goals try (conv=>whnf)
      .exfalso; omega
      .refine zAA (vK3 x.split ⟨0,0,⟨false,[],[]⟩⟩ hs.dec) rfl ?_
       refine sns ?_;exact rGV
      all_goals (exfalso; omega)
    .by_cases hin:vBX x=true
     .have hin':=hin
      simp only[vBX,rAY]at hin';obtain⟨i1,i2,i3,i4,i5⟩:=hin';have e2:=zCV (d:=(2048 - d).toNat) i1;have e3:=vH7 i1;have k0:x.kids[0]! ∈ x.kids:=zA2 zom;have k1:x.kids[1]! ∈ x.kids:=zA2 zom;have ed:(2048 - (d+1)).toNat=(2048 - d).toNat - 1:=by omega
      obtain⟨a,ok,⟨a1,a2,a3,a4⟩,ha⟩:=ih x.kids[0]! (d+1) (by have:=NodeL.sizeOf_kid k0; omega) (hs.kid k0) zom zom;rw[ed]at a1 a2;rw[hin,rDP]at e2;have hp:=zF5 x.kids[1]!;by_cases hbad:ok=false\/a > 65536
      .refine⟨0,false,hno (fun h=>?_),?_⟩
       .rw[e2]at h
        simp only[rAO,rAY]at h;rcases hbad with hb | hb
        .have:=a2 zom h.2.1.2.1 zom; rw[hb]at this; cases this
        .cases ok with
         | false=>have:=a2 zom h.2.1.2.1 zom; cases this
         | true=>have:=(a1 rfl).2.2; omega
       .refine zAL vBC hT zNU zsm ?_
        (repeat' (first|refine stn ?_|(with_reducible refine brr ?_ ?_<;>intro h)|(with_reducible refine zAT ?_ ?_<;>intro h)|with_reducible refine zBC ?_ ?_)); all_goals try (conv=>whnf)
        all_goals try (exfalso; first | omega | simp_all; done)
        refine zAA ha rfl ?_
        (repeat' (first|refine stn ?_|(with_reducible refine brr ?_ ?_<;>intro h)|(with_reducible refine zAT ?_ ?_<;>intro h)|with_reducible refine zBC ?_ ?_)); all_goals try (conv=>whnf)
        all_goals try (exact rGV)
        all_goals (exfalso; rcases hbad with hb | hb<;>first | omega | simp_all)
      .have hok:ok=true:=by cases ok<;>simp_all
       subst hok;have ha6:a<=65536:=by omega
       obtain⟨a1,a5,a6⟩:=a1 rfl;obtain⟨b,ok,⟨b1,b2,b3,b4⟩,hb⟩:=ih x.kids[1]! (d+1) (by have:=NodeL.sizeOf_kid k1; omega) (hs.kid k1) zom zom;rw[ed]at b1 b2;refine⟨1+a+b,ok,⟨?_,?_,zom,zom⟩,?_⟩
       .intro h
        obtain⟨b1,b5,b6⟩:=b1 h;rw[e2,a5,b5];exact⟨zom,by simp; omega,zom⟩
       .intro h0 h h2
        rw[e2]at h;simp only[rAO,rAY]at h;exact b2 zom h.2.2 zom
       .refine zAL vBC hT zNU zsm ?_
        (repeat' (first|refine stn ?_|(with_reducible refine brr ?_ ?_<;>intro h)|(with_reducible refine zAT ?_ ?_<;>intro h)|with_reducible refine zBC ?_ ?_)); all_goals try (conv=>whnf)
        all_goals try (exfalso; first | omega | simp_all; done)
        refine zAA ha rfl ?_
        (repeat' (first|refine stn ?_|(with_reducible refine brr ?_ ?_<;>intro h)|(with_reducible refine zAT ?_ ?_<;>intro h)|with_reducible refine zBC ?_ ?_)); all_goals try (conv=>whnf)
        all_goals try (exfalso; first | omega | simp_all; done)
        refine zAA hb rfl ?_;refine sns ?_;exact rGV
     .refine⟨0,false,hno (fun h=>hin ?_),?_⟩
      .rw[zA1 hk0]at h
       simp only[rAO,rAY]at h;exact h.2.1.1.1
      .refine zAL vBC hT zNU zsm ?_
       (repeat' (first|refine stn ?_|(with_reducible refine brr ?_ ?_<;>intro h)|(with_reducible refine zAT ?_ ?_<;>intro h)|with_reducible refine zBC ?_ ?_)); all_goals try (conv=>whnf)
       all_goals try (exact rGV)
       all_goals try (exfalso; omega)
       exfalso;apply hin;simp only[vBX,rAY];refine⟨?_,?_,?_,?_,?_⟩<;>first | assumption | omega
theorem vMP:FO 21 Tryz.f21 [.tmp 2] 15:=mkO Tryz.func21 Tryz.ntmps21 Tryz.results21
theorem zP1(x:NodeL)(hs:x.Sm):Fn 21 [vA7 x] (.data (.bool x.valid)):=by
 obtain⟨k,b,⟨h1,h2,_,_⟩,hr⟩:=uOG _ x 0 (rAL _) hs zom zom;have e0:(2048 - (0:Int)).toNat=2048:=rfl;rw[e0]at h1 h2;refine zAL vBC hT vMP zsm ?_;refine sns ?_;refine zAA hr rfl ?_
 (repeat' (first|refine stn ?_|(with_reducible refine brr ?_ ?_<;>intro h)|(with_reducible refine zAT ?_ ?_<;>intro h)|with_reducible refine zBC ?_ ?_)); all_goals try (conv=>whnf)
 all_goals refine zAB rfl ?_
 all_goals simp only[PV.bool.injEq]
 all_goals rw[rA1]
 all_goals simp only[NodeL.valid,rAO,rAY]
 .have⟨_,h3,h4⟩:=h1 rAC
  constructor
  .intro h; exact⟨h3,zom⟩
  .intro h; omega
 .constructor
  .intro h; cases h
  .intro⟨h3,h4⟩
   have:=h2 zom h3 h4
   simp_all
theorem vMY:FO 74 Tryz.f74 [.tmp 2] 8:=mkO Tryz.func74 Tryz.ntmps74 Tryz.results74
theorem zIP{α:Type}(enc:α->PV)(hf:∀ h n x,frz h (n+1) (enc x)=some (enc x,[]))(hs:∀ x,(enc x).cells.length=5/\(enc x).isAgg=true)(xs:List α)(hl:xs.length<2097152):Fn 74 [.imm (xs.map enc)] (.fresh (xs.map enc) 5 true):=by
 refine zEJ vBC hT vMY zsm ?_
 (repeat' (first|refine stn ?_|(with_reducible refine brr ?_ ?_<;>intro h)|(with_reducible refine zAT ?_ ?_<;>intro h)|with_reducible refine zBC ?_ ?_)); all_goals try (conv=>whnf)
 .subst h; exact zD6
 all_goals refine zJD hs rfl ?_
 all_goals ((refine sns ?_))
 all_goals refine zBL rfl rfl ?_ rfl (zD7 (fun x=>hf _ _ x) _)
 all_goals simp
theorem vMX:FO 105 Tryz.f105 [.tmp 2] 8:=mkO Tryz.func105 Tryz.ntmps105 Tryz.results105
theorem vTA{α:Type}(enc:α->PV)(hf:∀ h n x,frz h (n+1) (enc x)=some (enc x,[]))(hs:∀ x,(enc x).cells.length=6/\(enc x).isAgg=true)(xs:List α)(hl:xs.length<2097152):Fn 105 [.imm (xs.map enc)] (.fresh (xs.map enc) 6 true):=by
 refine zEJ vBC hT vMX zsm ?_
 (repeat' (first|refine stn ?_|(with_reducible refine brr ?_ ?_<;>intro h)|(with_reducible refine zAT ?_ ?_<;>intro h)|with_reducible refine zBC ?_ ?_)); all_goals try (conv=>whnf)
 .subst h; exact zD6
 all_goals refine zJD hs rfl ?_
 all_goals ((refine sns ?_))
 all_goals refine zBL rfl rfl ?_ rfl (zD7 (fun x=>hf _ _ x) _)
 all_goals simp
theorem vJ1:FO 140 Tryz.f140 [.tmp 2] 8:=mkO Tryz.func140 Tryz.ntmps140 Tryz.results140
theorem vNP{α:Type}(enc:α->PV)(hf:∀ h n x,frz h (n+1) (enc x)=some (enc x,[]))(hs:∀ x,(enc x).cells.length=9/\(enc x).isAgg=true)(xs:List α)(hl:xs.length<2097152):Fn 140 [.imm (xs.map enc)] (.fresh (xs.map enc) 9 true):=by
 refine zEJ vBC hT vJ1 zsm ?_
 (repeat' (first|refine stn ?_|(with_reducible refine brr ?_ ?_<;>intro h)|(with_reducible refine zAT ?_ ?_<;>intro h)|with_reducible refine zBC ?_ ?_)); all_goals try (conv=>whnf)
 .subst h; exact zD6
 all_goals refine zJD hs rfl ?_
 all_goals ((refine sns ?_))
 all_goals refine zBL rfl rfl ?_ rfl (zD7 (fun x=>hf _ _ x) _)
 all_goals simp
theorem vWQ:FO 109 Tryz.f109 [.cell 2 28] 18:=mkO Tryz.func109 Tryz.ntmps109 Tryz.results109
theorem uEU(d:DecL):Fn 109 [vA9 d] (.data (vA9 (opp d))):=by
 refine zAL vBC hT vWQ zsm ?_
 (repeat' (first|refine stn ?_|(with_reducible refine brr ?_ ?_<;>intro h)|(with_reducible refine zAT ?_ ?_<;>intro h)|with_reducible refine zBC ?_ ?_)); all_goals try (conv=>whnf)
 all_goals refine zAB rfl ?_
 all_goals simp_all [opp,uLO,vA9]
theorem vWD:FO 168 Tryz.f168 [.cell 2 28] 17:=mkO Tryz.func168 Tryz.ntmps168 Tryz.results168
theorem uNY(d:DecL):Fn 168 [vA9 d] (.data (vA9 (opp d))):=by
 obtain⟨k,i,r⟩:=d;by_cases h0:0<k/\k<5
 .obtain rfl | rfl | rfl | rfl:k=1\/k=2\/k=3\/k=4:=by omega
  all_goals refine zAL vBC hT vWD zsm ?_
  all_goals ((refine sns ?_))
  all_goals exact rGV
 .refine zAL vBC hT vWD zsm ?_
  (repeat' (first|refine stn ?_|(with_reducible refine brr ?_ ?_<;>intro h)|(with_reducible refine zAT ?_ ?_<;>intro h)|with_reducible refine zBC ?_ ?_)); all_goals try (conv=>whnf)
  all_goals try (exfalso; omega)
  all_goals refine zAB rfl ?_
  all_goals simp only[opp,uLO,vA9]
  all_goals rw[rAM zom,rAM zom,rAM zom,rAM zom]
theorem vWR:FO 75 Tryz.f75 [.tmp 6] 20:=mkO Tryz.func75 Tryz.ntmps75 Tryz.results75
theorem vQL(path:List DecL)(n:NodeL)(i:Nat)(hp:path.length<2097151):Fn 75 [.imm (path.map vA9),vA7 n,.int .i64 i] (.fresh ((path++[vC6 n i]).map vA9) 5 true):=by
 refine zEJ vBC hT vWR zsm ?_
 refine gon ?_ ?_<;>intro h
 .obtain rfl:i=1:=by omega
  refine zAA (uEU n.split) rfl ?_;refine sns ?_;refine zBL rfl ?_ ?_ rfl (zD7 (fun x=>zEU x) _)
  .simp[vC6]; rfl
  .simp
 .refine zBL rfl ?_ ?_ rfl (zD7 (fun x=>zEU x) _)
  .simp[vC6,show i≠1 by omega]; rfl
  .simp
theorem ok_kid:FO 138 Tryz.f138 [.tmp 6] 19:=mkO Tryz.func138 Tryz.ntmps138 Tryz.results138
theorem uOD(path:List DecL)(n:NodeL)(i:Nat)(hp:path.length<2097151):Fn 138 [.imm (path.map vA9),vA7 n,.int .i64 i] (.fresh ((path++[vC6 n i]).map vA9) 5 true):=by
 refine zEJ vBC hT ok_kid zsm ?_
 refine gon ?_ ?_<;>intro h
 .obtain rfl:i=1:=by omega
  refine zAA (uNY n.split) rfl ?_;refine sns ?_;refine zBB (zIP vA9 (fun _ _ x=>zEU x) (fun _=>⟨rfl,rfl⟩) path zom) rfl ?_;refine sns ?_;refine zBL rfl ?_ ?_ rfl (zD7 (fun x=>zEU x) _)
  .simp[vC6]; rfl
  .simp
 .refine zBB (zIP vA9 (fun _ _ x=>zEU x) (fun _=>⟨rfl,rfl⟩) path zom) rfl ?_
  refine sns ?_;refine zBL rfl ?_ ?_ rfl (zD7 (fun x=>zEU x) _)
  .simp[vC6,show i≠1 by omega]; rfl
  .simp
def vB9(n:NodeL)(d:DecL):Option Nat:=(List.range n.kids.length).find? fun i=>vC6 n i=d
theorem uIV:FO 103 Tryz.f103 [.tmp 4] 23:=mkO Tryz.func103 Tryz.ntmps103 Tryz.results103
theorem uGQ(n:NodeL)(d:DecL)(hs:n.Sm):Fn 103 [vA7 n,vA9 d] (.data (.int .i64 (match vB9 n d with | some i=>(i:Int) | none=>-1))):=by
 have hl:=hs.len;refine zAL vBC hT uIV zsm ?_;refine sns ?_
 refine zC8 hT (fun i:Nat=>[(2,.ptr 0 0 0),(3,.ptr 1 0 0),(9,.int .i64 n.kids.length),(10,.int .i64 i)]) (fun _=>[(0,⟨[vA7 n],9,true⟩),(1,⟨[vA9 d],5,true⟩)]) [] 2 (fun i=>i<=n.kids.length/\∀ j,j<i->vC6 n j≠d) (fun i=>n.kids.length - i) 0 zsm zdd zsm
  [0,1] ⟨apx,apx,zAC rfl zsm,rAI,rGU⟩ ⟨bbx,bbx,rGU⟩ rAA ?_
 intro i ⟨hi,hn⟩
 refine gon ?_ ?_<;>intro h
 .refine zBB (uOD [] n i zsm) rfl ?_
  refine sns ?_;refine zAA (uK6 (vC6 n i) d (by unfold vC6; split<;>exact hs.dec)) rfl ?_
  refine gon ?_ ?_<;>intro h
  .refine zAB rfl ?_
   have:vB9 n d=some i:=by
    unfold vB9;rw[List.find?_eq_some_iff_append];refine⟨by simpa using h,List.range i,(List.range (n.kids.length - i - 1)).map (·+i+1),?_,fun j hj=>?_⟩
    .have e:n.kids.length=i+1+(n.kids.length - i - 1):=by omega
     rw[e,List.range_add,rF5,rBB]
     congr 2
     rw[show i+1+(n.kids.length - i - 1) - i - 1=n.kids.length - i - 1 by omega];simp only[List.singleton_append,rF6,List.map_inj_left];exact⟨rGU,fun a _=>by omega⟩
    .simpa using hn j (by simpa using hj)
   rw[this]
  .refine⟨i+1,[0,1],⟨⟨zom,fun j hj=>?_⟩,zom⟩,⟨apx,apx,rAI,zAC rfl zom,rGU⟩,⟨bbx,bbx,rGU⟩,rAA⟩
   rcases rCH.1 hj with hj | rfl
   .exact hn j hj
   .assumption
 .refine zAB rfl ?_
  have:vB9 n d=none:=by
   unfold vB9;rw[List.find?_eq_none];intro j hj
   simpa using hn j (by simp at hj; omega)
  rw[this]
def pre(path:List DecL)(l:List (List DecL×NodeL)):List (List DecL×NodeL):=l.map fun q=>(path++q.1,q.2)
theorem vVW(path:List DecL)(l:List (List DecL×NodeL)):(pre path l).length=l.length:=by simp[pre]
theorem uAF:∀ (n:Nat) (x:NodeL),SizeOf.sizeOf x<n->x.all.length<=x.wt/\∀ i,(x.upto i).length<=x.wt:=by
 intro n
 induction n with
 | zero=>intro x h; omega
 | succ n ih =>
   intro x hx
   have hu:∀ i,i<=x.kids.length->(x.upto i).length<=1+((x.kids.take i).map NodeL.wt).sum:=by
    intro i
    induction i with
    | zero=>intro _; simp[NodeL.upto_zero]
    | succ i ihi =>
      intro hi;have h1:=ihi zom;have h2:=(ih x.kids[i]! (by have:=NodeL.sizeOf_kid (zA2 (show i<x.kids.length by omega)); omega)).1;rw[x.upto_succ zom,rAV,rAN,zGW zom];omega
   have hw:=x.wt_eq
   have hall:∀ i,i<=x.kids.length->(x.upto i).length<=x.wt:=fun i hi=>by
    have h1:=hu i hi;have h2:=@sum_take_le _ NodeL.wt x.kids i;omega
   refine⟨by rw[x.all_eq]; exact hall _ (rAR _),fun i=>?_⟩;by_cases hi:i<=x.kids.length
   .exact hall i hi
   .have:x.upto i=x.upto x.kids.length:=by
     unfold NodeL.upto;rw[rBR rAE,rBR zsm]
    rw[this]; exact hall _ (rAR _)
def vGD(x:NodeL):List (List DecL×NodeL):=if x.valid then x.all else []
theorem pre_nil(l:List (List DecL×NodeL)):pre [] l=l:=by simp[pre]
instance:Inhabited (List DecL×NodeL):=⟨([],default)⟩
def vDW:NodeL:=.mk [] ⟨0,0,⟨false,[],[]⟩⟩ [] false []
def atF:NodeL->List DecL->Option NodeL
 | n,[]=>some n
 | n,d::p=>match vB9 n d with
   | some i=>atF n.kids[i]! p
   | none=>none
theorem zDD{n:NodeL}{d:DecL}{i:Nat}(h:vB9 n d=some i):i<n.kids.length/\vC6 n i=d:=by
 unfold vB9 at h;have h1:=rGF h;have h2:=List.find?_some h;simp at h1 h2;exact⟨h1,h2⟩
theorem vSR{n:NodeL}{d:DecL}(hl:0<n.kids.length)(h:vC6 n 0=d):vB9 n d=some 0:=by
 unfold vB9;obtain⟨k,hk⟩:∃ k,n.kids.length=k+1:=⟨n.kids.length - 1,zom⟩;rw[hk,List.range_succ_eq_map,List.find?_cons];simp[h]
def atV(x:NodeL)(path:List DecL):Option NodeL:=if x.valid then atF x path else none
theorem uPS:FO 70 Tryz.f70 [.cell 4 32,.tmp 5] 32:=mkO Tryz.func70 Tryz.ntmps70 Tryz.results70
theorem uQ8(x:NodeL)(path:List DecL)(hs:x.Sm)(hp:path.length<2097152):Fn 70 [vA7 x,.imm (path.map vA9)] (.data (.tup [vA7 ((atV x path).getD vDW),.bool (atV x path).isSome])):=by
 refine zAL vBC hT uPS zsm ?_;refine sns ?_;refine zAA (zLX x hs) rfl ?_
 refine gon ?_ ?_<;>intro h
 .have hv:=h
  refine zAN hT (fun s:Nat×NodeL=>[(2,.ptr 0 0 0),(4,.ptr 1 0 0),(13,.imm (path.map vA9)),(14,.int .i64 path.length),(15,.int .i64 s.1)]) (fun s=>[(0,⟨[vA7 s.2],9,true⟩),(1,⟨[vA7 vDW],9,true⟩)]) [] 2 (fun s=>s.1<=path.length/\s.2.Sm/\atF x path=atF s.2 (path.drop s.1)) (fun s=>path.length - s.1) (0,x) ⟨zsm,hs,zsm⟩ zdd zsm ?_ ?_
  .refine⟨[0,1],[],[],[(1,[vA7 vDW])],⟨rGU,rGU,⟨⟨_,4,_,rfl,rfl,rfl⟩,rGU⟩⟩,⟨apx,apx,zAE rfl rfl,zAC rfl zsm,zAC rfl rfl,rGU⟩,⟨bbx,bbx,rGU⟩,rAA⟩
  .intro⟨i,m⟩ ⟨hi,hm,he⟩
   dsimp only at hi hm he
   refine gon ?_ ?_<;>intro h
   .have hi':i<path.length:=by omega
    have hd:path.drop i=path[i]! :: path.drop (i+1):=by rw[rAT path i hi',<- rBT hi']
    have hc:=uGQ m path[i]! hm;rw[hd,atF]at he;cases hk:vB9 m path[i]! with
    | none =>
      rw[hk]at hc he;refine zAA hc rfl ?_;refine sns ?_;refine zAB rfl ?_;have:atV x path=none:=by simp[atV,hv,he]
      rw[this]; rfl
    | some j =>
      rw[hk]at hc he;have hj:=(zDD hk).1;refine zAA hc rfl ?_;refine sns ?_;refine⟨(i+1,m.kids[j]!),⟨⟨by simp only; omega,hm.kid (zA2 hj),he⟩,by simp only; omega⟩,[0,1],[],[],[],ttt,⟨apx,apx,rAJ,rAI,rAI,rGU⟩,⟨bbx,bbx,rGU⟩,rAA⟩
   .refine zAB rfl ?_
    have:atV x path=some m:=by
     rw[atV,hv,rAU rfl,he,rDU zom]; rfl
    rw[this]; rfl
 .have:atV x path=none:=by simp[atV,h]
  rw[this];exact rGV
def vB2(n:NodeL)(i:Nat)(k:NodeL):NodeL:=.mk n.lemmas n.split (n.kids.set i k) n.empty n.proof
def vCY(w:NodeL):NodeL->List DecL->Option NodeL
 | _,[]=>some w
 | n,d::p=>match vB9 n d with
   | some i=>(vCY w n.kids[i]! p).map fun k=>vB2 n i k
   | none=>none
def vON(w:NodeL):NodeL->List DecL->NodeL
 | _,[]=>w
 | n,d::p=>match vB9 n d with
   | some i=>vB2 n i (vON w n.kids[i]! p)
   | none=>vDW
theorem zPJ:FO 106 Tryz.f106 [.cell 6 32,.tmp 7] 46:=mkO Tryz.func106 Tryz.ntmps106 Tryz.results106
theorem vZM(w:NodeL):∀ (path:List DecL) (x:NodeL),x.Sm->path.length<2097152->Fn 106 [vA7 x,.imm (path.map vA9),vA7 w] (.data (.tup [vA7 (vON w x path),.bool (vCY w x path).isSome])):=by
 intro path
 induction path with
 | nil =>
   intro x hs hp;refine zAL vBC hT zPJ zsm ?_;refine sns ?_;exact rGV
 | cons d p ih =>
   intro x hs hp;refine zAL vBC hT zPJ zsm ?_;refine sns ?_;have hc:=uGQ x d hs;cases hk:vB9 x d with
   | none =>
     rw[hk]at hc;refine zAA hc rfl ?_;refine sns ?_;refine zAB rfl ?_;have h1:vON w x (d::p)=vDW:=by simp only[vON,hk]
     have h2:vCY w x (d::p)=none:=by simp only[vCY,hk]
     rw[h1,h2]; rfl
   | some i =>
     rw[hk]at hc;have hi:=(zDD hk).1;have hl:=hs.len;simp only[List.length_cons]at hp;refine zAA hc rfl ?_;refine sns ?_;refine zCE (l':=p) zsm ?_;refine sns ?_;refine zAA (ih x.kids[i]! (hs.kid (zA2 hi)) zom) rfl ?_;refine sns ?_;refine zBB (vNP vBF (fun _ _ x=>zG1 x) zIE x.kids hl) rfl ?_;refine sns ?_;refine uDF i zsm hi ?_;refine sns ?_
     have e1:(x.kids.map vBF).set (0+((match some i with | some i=>(i:Int) | none=>-1):Int).toNat) (vA7 (vON w x.kids[i]! p))=(x.kids.set i (vON w x.kids[i]! p)).map vBF:=by
      rw[List.map_set,zBR]; simp
     refine zAB (zKF (zAD (zBZ (zAD rfl (zAD rfl (zAD rfl (zAD rfl (zAD rfl (zAD rfl (zAD (zAI rfl e1 zsm (fun x=>zG1 x)) rfl)))))))) rfl)) ?_;have h1:vON w x (d::p)=vB2 x i (vON w x.kids[i]! p):=by simp only[vON,hk]
     have h2:(vCY w x (d::p)).isSome=(vCY w x.kids[i]! p).isSome:=by simp only[vCY,hk]; cases vCY w x.kids[i]! p<;>rfl
     rw[h1,h2]; rfl
theorem vVE{w:NodeL}:∀ {path:List DecL} {x k:NodeL},vCY w x path=some k->vON w x path=k
 | [],x,k,h=>by simp only[vCY,rBS]at h; simp only[vON]; exact h
 | d :: p,x,k,h=>by
   simp only[vCY]at h;simp only[vON];cases hk:vB9 x d with
   | none=>rw[hk]at h; cases h
   | some i =>
     rw[hk]at h;simp only[rBJ]at h;obtain⟨k',h1,h2⟩:=h;dsimp only;rw[vVE h1]; exact h2
theorem vUW{x k:NodeL}{i:Nat}(hx:x.Sm)(hk:k.Sm):(vB2 x i k).Sm:=by
 refine .mk _ hx.lems hx.dec (by simp only[vB2,NodeL.kids,rEW]; exact hx.len) (fun z hz=>?_) hx.prf;simp only[vB2,NodeL.kids]at hz;rcases rCU hz with h | h
 .exact hx.kid h
 .subst h; exact hk
theorem vVD{w:NodeL}(hw:w.Sm):∀ {path:List DecL} {x:NodeL},x.Sm->(vCY w x path).isSome->(vON w x path).Sm
 | [],x,_,_=>hw
 | d :: p,x,hx,h=>by
   simp only[vCY]at h;simp only[vON];cases hk:vB9 x d with
   | none=>rw[hk]at h; cases h
   | some i =>
     rw[hk]at h;refine vUW hx (vVD hw (hx.kid (zA2 (zDD hk).1)) ?_);dsimp only at h;cases hr:vCY w x.kids[i]! p with
     | none=>rw[hr]at h; cases h
     | some _=>rfl
def vOM(w x:NodeL)(path:List DecL):NodeL×Int :=
 if x.valid && w.valid then(match vCY w x path with
  | some k=>if k.valid then(k,0) else(vDW,8)
  | none=>(vDW,10)) else(vDW,1)
theorem vMM:FO 72 Tryz.f72 [.cell 6 32,.tmp 7] 34:=mkO Tryz.func72 Tryz.ntmps72 Tryz.results72
theorem vS5(w x:NodeL)(path:List DecL)(hs:x.Sm)(hw:w.Sm)(hp:path.length<2097152):Fn 72 [vA7 x,.imm (path.map vA9),vA7 w] (.data (.tup [vA7 (vOM w x path).1,.int .i64 (vOM w x path).2])):=by
 refine zAL vBC hT vMM zsm ?_;refine sns ?_;refine zAA (zLX x hs) rfl ?_
 refine gon ?_ ?_<;>intro h
 .refine zAA (zLX w hw) rfl ?_
  refine gon ?_ ?_<;>intro h
  .have hx:=h
   have hxv:x.valid=true:=by assumption
   refine zAA (vZM w path x hs hp) rfl ?_;cases hr:vCY w x path with
   | none =>
     refine sns ?_;have:vOM w x path=(vDW,10):=by simp[vOM,hxv,hx,hr]
     rw[this]; exact rGV
   | some k =>
     have hk:=vVE hr;have hsm:k.Sm:=by rw[<- hk]; exact vVD hw hs (by rw[hr]; rfl)
     rw[hk];refine sns ?_;refine zAA (zLX k hsm) rfl ?_
     refine gon ?_ ?_<;>intro h
     .have:vOM w x path=(k,0):=by simp[vOM,hxv,hx,hr,h]
      rw[this]; exact rGV
     .have:vOM w x path=(vDW,8):=by simp[vOM,hxv,hx,hr,h]
      rw[this]; exact rGV
  .have hxv:x.valid=true:=by assumption
   have:vOM w x path=(vDW,1):=by simp[vOM,hxv,h]
   rw[this]; exact rGV
 .have:vOM w x path=(vDW,1):=by simp[vOM,h]
  rw[this]; exact rGV
theorem uMU{d:DecL}(h1:1<=d.kind)(h2:d.kind<=4):opp d≠d:=by
 intro h;have:=rA3 DecL.kind h;simp only[opp,uLO]at this
 split at this
 .omega
 .split at this
  .omega
  .split at this
   .omega
   .split at this<;>omega
theorem vZ9(w:NodeL):∀ (path:List DecL) (x:NodeL),(atF x path).isSome=(vCY w x path).isSome
 | [],x=>rfl
 | d::p,x=>by
   simp only[atF,vCY];cases vB9 x d with
   | none=>rfl
   | some i=>simp only[Option.isSome_map]; exact vZ9 w p _
end Go.PI.Tryz
