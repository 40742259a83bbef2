/-
  The node with a path; a node replaced; the scope of a node.
-/
import Derived.Test.YtbelmkceegmdjaaGreatDoorCNA
set_option linter.unusedVariables false
set_option linter.unusedSimpArgs false
set_option linter.unnecessarySimpa false
set_option maxHeartbeats 0
namespace Go.PI.Tryz
open Go.Proofs Go.PI
theorem uC9:FO 141 Tryz.f141 [.tmp 4] 26:=mkO Tryz.func141 Tryz.ntmps141 Tryz.results141
theorem vZ7(xs ys:List Int)(h1:xs.length<2097152):Fn 141 [vBK xs,vBK ys] (.data (.bool (decide (xs=ys)))):=by
 refine zAM vBC hT uC9 zsm ?_
 refine gon ?_ ?_<;>intro h
 .refine zAB rfl ?_
  simp; intro e; subst e; exact h rfl
 .
  refine zA6 hT (fun i:Nat=>[(0,vBK xs),(1,vBK ys),(12,.int .i64 xs.length),(13,.int .i64 i)]) (fun i=>i<=xs.length/\∀ j,j<i->xs[j]! = ys[j]!) (fun i=>xs.length - i) 0 zsm ?_ ?_
  .exact⟨rAJ,rAJ,zAC rfl zsm,rAI,rGW⟩
  .intro i ⟨hi1,hi2⟩
   (repeat' (first|refine stn ?_|(with_reducible refine brr ?_ ?_<;>intro h)|(with_reducible refine zAF ?_ ?_<;>intro h)|with_reducible refine zAL ?_ ?_)); all_goals try (conv=>whnf)
   .refine zAB rfl ?_
    simp; intro e; subst e; exact h rfl
   .refine⟨i+1,⟨⟨zom,fun j hj=>?_⟩,zom⟩,rAJ,rAJ,rAI,zAC rfl zom,rGW⟩
    rcases rB8.1 hj with hj | rfl
    .exact hi2 j hj
    .assumption
   .refine zAB rfl ?_
    have:xs=ys:=(zCD zom).2 fun j hj=>hi2 j zom
    simp[this]
theorem vR4:FO 91 Tryz.f91 [.tmp 4] 26:=mkO Tryz.func91 Tryz.ntmps91 Tryz.results91
theorem vK9(xs ys:List Int)(h1:xs.length<2097152):Fn 91 [vBK xs,vBK ys] (.data (.bool (decide (xs=ys)))):=by
 refine zAM vBC hT vR4 zsm ?_
 refine gon ?_ ?_<;>intro h
 .refine zAB rfl ?_
  simp; intro e; subst e; exact h rfl
 .
  refine zA6 hT (fun i:Nat=>[(0,vBK xs),(1,vBK ys),(5,.int .i64 i)]) (fun i=>i<=xs.length/\∀ j,j<i->xs[j]! = ys[j]!) (fun i=>xs.length - i) 0 zsm ?_ ?_
  .exact⟨rAJ,rAJ,rAI,rGW⟩
  .intro i ⟨hi1,hi2⟩
   (repeat' (first|refine stn ?_|(with_reducible refine brr ?_ ?_<;>intro h)|(with_reducible refine zAF ?_ ?_<;>intro h)|with_reducible refine zAL ?_ ?_)); all_goals try (conv=>whnf)
   .refine zAB rfl ?_
    simp; intro e; subst e; exact h rfl
   .refine⟨i+1,⟨⟨zom,fun j hj=>?_⟩,zom⟩,rAJ,rAJ,zAC rfl zom,rGW⟩
    rcases rB8.1 hj with hj | rfl
    .exact hi2 j hj
    .assumption
   .refine zAB rfl ?_
    have:xs=ys:=(zCD zom).2 fun j hj=>hi2 j zom
    simp[this]
theorem uMQ:FO 110 Tryz.f110 [.tmp 4] 24:=mkO Tryz.func110 Tryz.ntmps110 Tryz.results110
theorem uKS(x y:RatL)(h1:x.sm):Fn 110 [vA5 x,vA5 y] (.data (.bool (decide (x=y)))):=by
 refine zAM vBC hT uMQ zsm ?_
 refine gon ?_ ?_<;>intro h
 .refine zAA (vZ7 _ _ h1.1) rfl ?_
  refine gon ?_ ?_<;>intro h
  .refine zAA (vZ7 _ _ h1.2) rfl ?_
   refine sns ?_;refine zAB rfl ?_;cases x; cases y; simp_all
  .refine zAB rfl ?_
   cases x; cases y; simp_all
 .refine zAB rfl ?_
  cases x; cases y; simp_all
theorem uIC:FO 51 Tryz.f51 [.tmp 4] 24:=mkO Tryz.func51 Tryz.ntmps51 Tryz.results51
theorem vZK(x y:RatL)(h1:x.sm):Fn 51 [vA5 x,vA5 y] (.data (.bool (decide (x=y)))):=by
 refine zAM vBC hT uIC zsm ?_
 refine gon ?_ ?_<;>intro h
 .refine zAA (vK9 _ _ h1.1) rfl ?_
  refine gon ?_ ?_<;>intro h
  .refine zAA (vK9 _ _ h1.2) rfl ?_
   refine sns ?_;refine zAB rfl ?_;cases x; cases y; simp_all
  .refine zAB rfl ?_
   cases x; cases y; simp_all
 .refine zAB rfl ?_
  cases x; cases y; simp_all
theorem uMY:FO 77 Tryz.f77 [.tmp 4] 24:=mkO Tryz.func77 Tryz.ntmps77 Tryz.results77
theorem uKZ(x y:DecL)(h1:x.sm):Fn 77 [vA9 x,vA9 y] (.data (.bool (decide (x=y)))):=by
 refine zAM vBC hT uMY zsm ?_
 (repeat' (first|refine stn ?_|(with_reducible refine brr ?_ ?_<;>intro h)|(with_reducible refine zAF ?_ ?_<;>intro h)|with_reducible refine zAL ?_ ?_)); all_goals try (conv=>whnf)
 .refine zAA (uKS x.rat y.rat h1) rfl ?_
  refine sns ?_;refine zAB rfl ?_;cases x; cases y; simp_all
 .refine zAB rfl ?_
  cases x; cases y; simp_all
 .refine zAB rfl ?_
  cases x; cases y; simp_all
theorem vR5:FO 31 Tryz.f31 [.tmp 4] 24:=mkO Tryz.func31 Tryz.ntmps31 Tryz.results31
theorem zK8(x y:DecL)(h1:x.sm):Fn 31 [vA9 x,vA9 y] (.data (.bool (decide (x=y)))):=by
 refine zAM vBC hT vR5 zsm ?_
 (repeat' (first|refine stn ?_|(with_reducible refine brr ?_ ?_<;>intro h)|(with_reducible refine zAF ?_ ?_<;>intro h)|with_reducible refine zAL ?_ ?_)); all_goals try (conv=>whnf)
 .refine zAA (vZK x.rat y.rat h1) rfl ?_
  refine sns ?_;refine zAB rfl ?_;cases x; cases y; simp_all
 .refine zAB rfl ?_
  cases x; cases y; simp_all
 .refine zAB rfl ?_
  cases x; cases y; simp_all
theorem uIT:FO 112 Tryz.f112 [.tmp 4] 17:=mkO Tryz.func112 Tryz.ntmps112 Tryz.results112
theorem uN0(x y:MultL)(h1:x.sm):Fn 112 [vBA x,vBA y] (.data (.bool (decide (x=y)))):=by
 refine zAM vBC hT uIT zsm ?_
 refine gon ?_ ?_<;>intro h
 .refine zAA (uKS x.coef y.coef h1) rfl ?_
  refine sns ?_;refine zAB rfl ?_;obtain⟨⟨_,_,_,_⟩,_⟩:=x; obtain⟨⟨_,_,_,_⟩,_⟩:=y; simp_all
 .refine zAB rfl ?_
  simp only[PV.bool.injEq];refine(rBC fun e=>?_).symm;subst e; simp at h
theorem vSN:FO 111 Tryz.f111 [.tmp 6] 32:=mkO Tryz.func111 Tryz.ntmps111 Tryz.results111
theorem vZ6(xs ys:List MultL)(h1:vCP xs):Fn 111 [.imm (xs.map vBA),.imm (ys.map vBA),.func (.func 112) [] []] (.data (.bool (decide (xs=ys)))):=by
 have hl:=h1.1;refine zAM vBC hT vSN zsm ?_
 refine gon ?_ ?_<;>intro h
 .refine zAB rfl ?_
  simp; intro e; subst e; exact h rfl
 .refine zA6 hT (fun i:Nat=>[(1,.imm (ys.map vBA)),(2,.func (.func 112) [] []),(15,.imm (xs.map vBA)),(16,.int .i64 xs.length),(17,.int .i64 i)]) (fun i=>i<=xs.length/\∀ j,j<i->xs[j]! = ys[j]!) (fun i=>xs.length - i) 0 zsm ?_ ?_
  .exact⟨rAJ,zH5 rfl,rAJ,zAC rfl zsm,rAI,rGW⟩
  .intro i ⟨hi1,hi2⟩
   refine gon ?_ ?_<;>intro h
   .have hi:i<xs.length:=by omega
    refine zAA (uN0 xs[i]! ys[i]! (h1.2 _ (zAX hi))) rfl ?_
    refine gon ?_ ?_<;>intro h
    .refine⟨i+1,⟨⟨zom,fun j hj=>?_⟩,zom⟩,rAJ,zH5 rfl,rAJ,rAI,zAC rfl zom,rGW⟩
     rcases rB8.1 hj with hj | rfl
     .exact hi2 j hj
     .assumption
    .refine zAB rfl ?_
     simp; intro e; subst e; exact h rfl
   .refine zAB rfl ?_
    have:xs=ys:=(zCD zom).2 fun j hj=>hi2 j zom
    simp[this]
theorem uCV:FO 78 Tryz.f78 [.tmp 4] 8:=mkO Tryz.func78 Tryz.ntmps78 Tryz.results78
theorem vZX(xs ys:List MultL)(h1:vCP xs):Fn 78 [.imm (xs.map vBA),.imm (ys.map vBA)] (.data (.bool (decide (xs=ys)))):=by
 refine zAM vBC hT uCV zsm ?_;refine sns ?_;refine zAA (vZ6 xs ys h1) rfl ?_;refine sns ?_;exact rGX
theorem vJ1:FO 33 Tryz.f33 [.tmp 4] 42:=mkO Tryz.func33 Tryz.ntmps33 Tryz.results33
theorem zO4(xs ys:List MultL)(h1:vCP xs):Fn 33 [.imm (xs.map vBA),.imm (ys.map vBA)] (.data (.bool (decide (xs=ys)))):=by
 have hl:=h1.1;refine zAM vBC hT vJ1 zsm ?_
 refine gon ?_ ?_<;>intro h
 .refine zAB rfl ?_
  simp; intro e; subst e; exact h rfl
 .refine zA6 hT (fun i:Nat=>[(0,.imm (xs.map vBA)),(1,.imm (ys.map vBA)),(5,.int .i64 i)]) (fun i=>i<=xs.length/\∀ j,j<i->xs[j]! = ys[j]!) (fun i=>xs.length - i) 0 zsm ?_ ?_
  .exact⟨rAJ,rAJ,rAI,rGW⟩
  .intro i ⟨hi1,hi2⟩
   (repeat' (first|refine stn ?_|(with_reducible refine brr ?_ ?_<;>intro h)|(with_reducible refine zAF ?_ ?_<;>intro h)|with_reducible refine zAL ?_ ?_)); all_goals try (conv=>whnf)
   .have hi:i<xs.length:=by omega
    have hr:=h;refine zAA (vZK _ ys[i]!.coef (h1.2 _ (zAX hi))) rfl ?_
    refine gon ?_ ?_<;>intro h
    .refine⟨i+1,⟨⟨zom,fun j hj=>?_⟩,zom⟩,rAJ,rAJ,zAC rfl zom,rGW⟩
     rcases rB8.1 hj with hj | rfl
     .exact hi2 j hj
     .exact uDL hr rAC
    .refine zAB rfl ?_; simp only[PV.bool.injEq]; refine(rBC fun e=>?_).symm; subst e; first | exact h rfl | simp at h | simp_all
   .refine zAB rfl ?_; simp only[PV.bool.injEq]; refine(rBC fun e=>?_).symm; subst e; first | exact h rfl | simp at h | simp_all
   .refine zAB rfl ?_
    have:xs=ys:=(zCD zom).2 fun j hj=>hi2 j zom
    simp[this]
theorem uMT:FO 80 Tryz.f80 [.tmp 4] 31:=mkO Tryz.func80 Tryz.ntmps80 Tryz.results80
theorem uP3(x y:LemL)(h1:x.sm):Fn 80 [vBB x,vBB y] (.data (.bool (decide (x=y)))):=by
 refine zAM vBC hT uMT zsm ?_
 (repeat' (first|refine stn ?_|(with_reducible refine brr ?_ ?_<;>intro h)|(with_reducible refine zAF ?_ ?_<;>intro h)|with_reducible refine zAL ?_ ?_)); all_goals try (conv=>whnf)
 .refine zAA (uKS x.value y.value h1.1) rfl ?_
  refine gon ?_ ?_<;>intro h
  .refine zAA (vZX x.proof y.proof h1.2) rfl ?_
   refine sns ?_;refine zAB rfl ?_;simp only[PV.bool.injEq,rCW];exact⟨fun e=>vX7 rAC rAC rAC e,fun e=>by rw[e]⟩
  .refine zAB rfl ?_; simp only[PV.bool.injEq]; refine(rBC fun e=>?_).symm; subst e; first | exact h rfl | simp at h | simp_all
 .refine zAB rfl ?_; simp only[PV.bool.injEq]; refine(rBC fun e=>?_).symm; subst e; first | exact h rfl | simp at h | simp_all
 .refine zAB rfl ?_; simp only[PV.bool.injEq]; refine(rBC fun e=>?_).symm; subst e; first | exact h rfl | simp at h | simp_all
theorem vXI:FO 79 Tryz.f79 [.tmp 6] 32:=mkO Tryz.func79 Tryz.ntmps79 Tryz.results79
theorem uE2(xs ys:List LemL)(h1:vJJ xs):Fn 79 [.imm (xs.map vBB),.imm (ys.map vBB),.func (.func 80) [] []] (.data (.bool (decide (xs=ys)))):=by
 have hl:=h1.1;refine zAM vBC hT vXI zsm ?_
 refine gon ?_ ?_<;>intro h
 .refine zAB rfl ?_
  simp; intro e; subst e; exact h rfl
 .refine zA6 hT (fun i:Nat=>[(1,.imm (ys.map vBB)),(2,.func (.func 80) [] []),(15,.imm (xs.map vBB)),(16,.int .i64 xs.length),(17,.int .i64 i)]) (fun i=>i<=xs.length/\∀ j,j<i->xs[j]! = ys[j]!) (fun i=>xs.length - i) 0 zsm ?_ ?_
  .exact⟨rAJ,zH5 rfl,rAJ,zAC rfl zsm,rAI,rGW⟩
  .intro i ⟨hi1,hi2⟩
   refine gon ?_ ?_<;>intro h
   .have hi:i<xs.length:=by omega
    refine zAA (uP3 xs[i]! ys[i]! (h1.2 _ (zAX hi))) rfl ?_
    refine gon ?_ ?_<;>intro h
    .refine⟨i+1,⟨⟨zom,fun j hj=>?_⟩,zom⟩,rAJ,zH5 rfl,rAJ,rAI,zAC rfl zom,rGW⟩
     rcases rB8.1 hj with hj | rfl
     .exact hi2 j hj
     .assumption
    .refine zAB rfl ?_
     simp; intro e; subst e; exact h rfl
   .refine zAB rfl ?_
    have:xs=ys:=(zCD zom).2 fun j hj=>hi2 j zom
    simp[this]
theorem vMY:FO 32 Tryz.f32 [.tmp 4] 69:=mkO Tryz.func32 Tryz.ntmps32 Tryz.results32
theorem vS6(xs ys:List LemL)(h1:vJJ xs):Fn 32 [.imm (xs.map vBB),.imm (ys.map vBB)] (.data (.bool (decide (xs=ys)))):=by
 have hl:=h1.1;refine zAM vBC hT vMY zsm ?_
 refine gon ?_ ?_<;>intro h
 .refine zAB rfl ?_
  simp; intro e; subst e; exact h rfl
 .refine zA6 hT (fun i:Nat=>[(0,.imm (xs.map vBB)),(1,.imm (ys.map vBB)),(5,.int .i64 i)]) (fun i=>i<=xs.length/\∀ j,j<i->xs[j]! = ys[j]!) (fun i=>xs.length - i) 0 zsm ?_ ?_
  .exact⟨rAJ,rAJ,rAI,rGW⟩
  .intro i ⟨hi1,hi2⟩
   (repeat' (first|refine stn ?_|(with_reducible refine brr ?_ ?_<;>intro h)|(with_reducible refine zAF ?_ ?_<;>intro h)|with_reducible refine zAL ?_ ?_)); all_goals try (conv=>whnf)
   .refine zAB rfl ?_; simp only[PV.bool.injEq]; refine(rBC fun e=>?_).symm; subst e; first | exact h rfl | simp at h | simp_all
   .refine zAB rfl ?_; simp only[PV.bool.injEq]; refine(rBC fun e=>?_).symm; subst e; first | exact h rfl | simp at h | simp_all
   .have hi:i<xs.length:=by omega
    refine zAA (vZK _ ys[i]!.value (h1.2 _ (zAX hi)).1) rfl ?_
    refine gon ?_ ?_<;>intro h
    .refine zAA (zO4 _ ys[i]!.proof (h1.2 _ (zAX hi)).2) rfl ?_
     refine gon ?_ ?_<;>intro h
     .refine⟨i+1,⟨⟨zom,fun j hj=>?_⟩,zom⟩,rAJ,rAJ,zAC rfl zom,rGW⟩
      rcases rB8.1 hj with hj | rfl
      .exact hi2 j hj
      .exact vX7 rAC rAC rAC rAC
     .refine zAB rfl ?_; simp only[PV.bool.injEq]; refine(rBC fun e=>?_).symm; subst e; first | exact h rfl | simp at h | simp_all
    .refine zAB rfl ?_; simp only[PV.bool.injEq]; refine(rBC fun e=>?_).symm; subst e; first | exact h rfl | simp at h | simp_all
   .refine zAB rfl ?_
    have:xs=ys:=(zCD zom).2 fun j hj=>hi2 j zom
    simp[this]
theorem vMX:FO 76 Tryz.f76 [.tmp 4] 27:=mkO Tryz.func76 Tryz.ntmps76 Tryz.results76
theorem vS5(xs ys:List DecL)(h1:vON xs):Fn 76 [.imm (xs.map vA9),.imm (ys.map vA9)] (.data (.bool (decide (xs=ys)))):=by
 have hl:=h1.1;refine zAM vBC hT vMX zsm ?_
 refine gon ?_ ?_<;>intro h
 .refine zAB rfl ?_
  simp; intro e; subst e; exact h rfl
 .refine zA6 hT (fun i:Nat=>[(0,.imm (xs.map vA9)),(1,.imm (ys.map vA9)),(5,.int .i64 i)]) (fun i=>i<=xs.length/\∀ j,j<i->xs[j]! = ys[j]!) (fun i=>xs.length - i) 0 zsm ?_ ?_
  .exact⟨rAJ,rAJ,rAI,rGW⟩
  .intro i ⟨hi1,hi2⟩
   refine gon ?_ ?_<;>intro h
   .have hi:i<xs.length:=by omega
    refine zAA (zK8 _ ys[i]! (h1.2 _ (zAX hi))) rfl ?_
    refine gon ?_ ?_<;>intro h
    .refine⟨i+1,⟨⟨zom,fun j hj=>?_⟩,zom⟩,rAJ,rAJ,zAC rfl zom,rGW⟩
     rcases rB8.1 hj with hj | rfl
     .exact hi2 j hj
     .assumption
    .refine zAB rfl ?_; simp only[PV.bool.injEq]; refine(rBC fun e=>?_).symm; subst e; first | exact h rfl | simp at h | simp_all
   .refine zAB rfl ?_
    have:xs=ys:=(zCD zom).2 fun j hj=>hi2 j zom
    simp[this]
theorem uC8:FO 43 Tryz.f43 [.tmp 4] 38:=mkO Tryz.func43 Tryz.ntmps43 Tryz.results43
theorem vSM:FO 81 Tryz.f81 [.tmp 6] 32:=mkO Tryz.func81 Tryz.ntmps81 Tryz.results81
theorem vZ5(xs ys:List NodeL)(hl:xs.length<2097152)(hc:∀ x∈xs,∀ y,Fn 43 [vA7 x,vA7 y] (.data (.bool (decide (x=y))))):Fn 81 [.imm (xs.map vBF),.imm (ys.map vBF),.func (.func 43) [] []] (.data (.bool (decide (xs=ys)))):=by
 refine zAM vBC hT vSM zsm ?_
 refine gon ?_ ?_<;>intro h
 .refine zAB rfl ?_
  simp; intro e; subst e; exact h rfl
 .refine zA6 hT (fun i:Nat=>[(1,.imm (ys.map vBF)),(2,.func (.func 43) [] []),(15,.imm (xs.map vBF)),(16,.int .i64 xs.length),(17,.int .i64 i)]) (fun i=>i<=xs.length/\∀ j,j<i->xs[j]! = ys[j]!) (fun i=>xs.length - i) 0 zsm ?_ ?_
  .exact⟨rAJ,zH5 rfl,rAJ,zAC rfl zsm,rAI,rGW⟩
  .intro i ⟨hi1,hi2⟩
   refine gon ?_ ?_<;>intro h
   .have hi:i<xs.length:=by omega
    refine zAA (hc xs[i]! (zAX hi) ys[i]!) rfl ?_
    refine gon ?_ ?_<;>intro h
    .refine⟨i+1,⟨⟨zom,fun j hj=>?_⟩,zom⟩,rAJ,zH5 rfl,rAJ,rAI,zAC rfl zom,rGW⟩
     rcases rB8.1 hj with hj | rfl
     .exact hi2 j hj
     .assumption
    .refine zAB rfl ?_
     simp; intro e; subst e; exact h rfl
   .refine zAB rfl ?_
    have:xs=ys:=(zCD zom).2 fun j hj=>hi2 j zom
    simp[this]
theorem vZ4:∀ (n:Nat) (x y:NodeL),SizeOf.sizeOf x<n->x.Sm->Fn 43 [vA7 x,vA7 y] (.data (.bool (decide (x=y)))):=by
 intro n
 induction n with
 | zero=>intro x y h; omega
 | succ n ih =>
   intro x y hx hs;refine zAM vBC hT uC8 zsm ?_
   refine gon ?_ ?_<;>intro h
   .have e1:=h
    refine zAA (uKZ x.split y.split hs.dec) rfl ?_
    refine gon ?_ ?_<;>intro h
    .have e2:=h
     refine zAA (vZX x.proof y.proof hs.prf) rfl ?_
     refine gon ?_ ?_<;>intro h
     .have e3:=h
      refine zAA (uE2 x.lemmas y.lemmas hs.lems) rfl ?_
      refine gon ?_ ?_<;>intro h
      .have e4:=h
       refine zAA (vZ5 x.kids y.kids hs.len (fun k hk z=>ih k z (by have:=NodeL.sizeOf_kid hk; omega) (hs.kid hk))) rfl ?_;refine sns ?_;refine zAB rfl ?_;simp only[PV.bool.injEq,rCW];exact⟨fun e=>vPR e4 e2 e e1 e3,fun e=>by rw[e]⟩
      .refine zAB rfl ?_; simp only[PV.bool.injEq]; refine(rBC fun e=>?_).symm; subst e; first | exact h rfl | simp at h | simp_all
     .refine zAB rfl ?_; simp only[PV.bool.injEq]; refine(rBC fun e=>?_).symm; subst e; first | exact h rfl | simp at h | simp_all
    .refine zAB rfl ?_; simp only[PV.bool.injEq]; refine(rBC fun e=>?_).symm; subst e; first | exact h rfl | simp at h | simp_all
   .refine zAB rfl ?_; simp only[PV.bool.injEq]; refine(rBC fun e=>?_).symm; subst e; first | exact h rfl | simp at h | simp_all
theorem vM1:FO 12 Tryz.f12 [.tmp 4] 63:=mkO Tryz.func12 Tryz.ntmps12 Tryz.results12
theorem vS7:∀ (n:Nat) (x y:NodeL),SizeOf.sizeOf x<n->x.Sm->Fn 12 [vA7 x,vA7 y] (.data (.bool (decide (x=y)))):=by
 intro n
 induction n with
 | zero=>intro x y h; omega
 | succ n ih =>
   intro x y hx hs;have hl:=hs.len;refine zAM vBC hT vM1 zsm ?_
   refine gon ?_ ?_<;>intro h
   .refine zAB rfl ?_; simp only[PV.bool.injEq]; refine(rBC fun e=>?_).symm; subst e; first | exact h rfl | simp at h | simp_all
   .have e1:=h
    refine zAA (zK8 x.split y.split hs.dec) rfl ?_
    refine gon ?_ ?_<;>intro h
    .have e2:=h
     refine zAA (vS6 x.lemmas y.lemmas hs.lems) rfl ?_
     refine gon ?_ ?_<;>intro h
     .have e3:=h
      refine zAA (zO4 x.proof y.proof hs.prf) rfl ?_
      (repeat' (first|refine stn ?_|(with_reducible refine brr ?_ ?_<;>intro h)|(with_reducible refine zAF ?_ ?_<;>intro h)|with_reducible refine zAL ?_ ?_)); all_goals try (conv=>whnf)
      .refine zAB rfl ?_; simp only[PV.bool.injEq]; refine(rBC fun e=>?_).symm; subst e; first | exact h rfl | simp at h | simp_all
      .have e4:=h
       refine zDE hT (fun i:Nat=>[(2,.ptr 0 0 0),(3,.ptr 1 0 0),(5,.int .i64 i)]) (fun _=>[(0,⟨[vA7 x],9,true⟩),(1,⟨[vA7 y],9,true⟩)]) [] 2 (fun i=>i<=x.kids.length/\∀ j,j<i->x.kids[j]! = y.kids[j]!) (fun i=>x.kids.length - i) 0 zsm zdd zsm
        [0,1] ⟨apx,apx,rAI,rGW⟩ ⟨bbx,bbx,rGW⟩ rAA ?_
       intro i ⟨hi1,hi2⟩
       refine gon ?_ ?_<;>intro h
       .have hi:i<x.kids.length:=by omega
        refine zAA (ih x.kids[i]! y.kids[i]! (by have:=NodeL.sizeOf_kid (zAX hi); omega) (hs.kid (zAX hi))) rfl ?_
        refine gon ?_ ?_<;>intro h
        .refine⟨i+1,[0,1],⟨⟨zom,fun j hj=>?_⟩,zom⟩,⟨apx,apx,zAC rfl zom,rGW⟩,⟨bbx,bbx,rGW⟩,rAA⟩
         rcases rB8.1 hj with hj | rfl
         .exact hi2 j hj
         .assumption
        .refine zAB rfl ?_; simp only[PV.bool.injEq]; refine(rBC fun e=>?_).symm; subst e; first | exact h rfl | simp at h | simp_all
       .refine zAB rfl ?_
        have:x.kids=y.kids:=(zCD zom).2 fun j hj=>hi2 j zom
        simp only[PV.bool.injEq];exact(rB4 (vPR e3 e2 this e1 rAC)).symm
      .refine zAB rfl ?_; simp only[PV.bool.injEq]; refine(rBC fun e=>?_).symm; subst e; first | exact h rfl | simp at h | simp_all
     .refine zAB rfl ?_; simp only[PV.bool.injEq]; refine(rBC fun e=>?_).symm; subst e; first | exact h rfl | simp at h | simp_all
    .refine zAB rfl ?_; simp only[PV.bool.injEq]; refine(rBC fun e=>?_).symm; subst e; first | exact h rfl | simp at h | simp_all
def lsz(most:Int)(n:NodeL):Int:=(n.kids.attach.map fun⟨k,_⟩=>lsz most k).foldl (fun k c=>if k<=most then k+c else k) (1+n.lemmas.length+n.proof.length+((n.lemmas.map fun x=>x.proof.length).sum:Nat))
termination_by SizeOf.sizeOf n
decreasing_by exact NodeL.sizeOf_kid ‹_›
theorem vPV(most:Int)(n:NodeL):lsz most n=(n.kids.map (lsz most)).foldl (fun k c=>if k<=most then k+c else k) (1+n.lemmas.length+n.proof.length+((n.lemmas.map fun x=>x.proof.length).sum:Nat)):=by
 rw[lsz]
 congr 1
 simp
theorem zJG(most:Int)(l:List NodeL)(h:∀ k∈l,1<=lsz most k/\lsz most k<=k.wt):∀ k0:Int,k0<=(l.map (lsz most)).foldl (fun k c=>if k<=most then k+c else k) k0/\(l.map (lsz most)).foldl (fun k c=>if k<=most then k+c else k) k0<=k0+(l.map NodeL.wt).sum:=by
 induction l with
 | nil=>intro k0; simp
 | cons a l ih =>
   intro k0;have h1:=h a zsm;have h2:=ih (fun k hk=>h k (by simp[hk])) (if k0<=most then k0+lsz most a else k0);simp only[rBJ,List.foldl_cons,List.sum_cons]
   split at h2<;>rename_i hc
   .rw[rAV hc]; omega
   .rw[rAN hc]; omega
theorem zKL(most:Int):∀ (n:Nat) (x:NodeL),SizeOf.sizeOf x<n->1<=lsz most x/\lsz most x<=x.wt:=by
 intro n
 induction n with
 | zero=>intro x h; omega
 | succ n ih =>
   intro x hx;have h:=zJG most x.kids (fun k hk=>ih k (by have:=NodeL.sizeOf_kid hk; omega)) (1+x.lemmas.length+x.proof.length+((x.lemmas.map fun x=>x.proof.length).sum:Nat));have hw:=x.wt_eq;have hl:=zGS x.lemmas;rw[vPV];omega
theorem zME(most:Int)(l:List Int)(k:Int)(h:¬ k<=most):l.foldl (fun k c=>if k<=most then k+c else k) k=k:=by
 induction l with
 | nil=>rfl
 | cons a l ih=>rw[List.foldl_cons,rAN h]; exact ih
theorem vNJ(n:NodeL):n.kids.length<n.wt:=by
 rw[n.wt_eq]
 have:∀ l:List NodeL,l.length<=(l.map NodeL.wt).sum:=by
  intro l
  induction l with
  | nil=>simp
  | cons a l ih =>
    simp only[List.length_cons,rBJ,List.sum_cons];have:=a.wt_eq;omega
 have:=this n.kids;omega
theorem vYU(most:Int)(l:List NodeL)(h:∀ k∈l,1<=lsz most k):∀ k0:Int,(l.map (lsz most)).foldl (fun k c=>if k<=most then k+c else k) k0<=most->(l.map (lsz most)).foldl (fun k c=>if k<=most then k+c else k) k0=k0+(l.map (lsz most)).sum/\∀ k∈l,lsz most k<=most - k0:=by
 induction l with
 | nil=>intro k0 _; simp
 | cons a l ih =>
   intro k0 hk;simp only[rBJ,List.foldl_cons,List.sum_cons]at hk ⊢;have ha:=h a zsm
   have h0:k0<=most:=by
    by_cases h0:k0<=most
    .exact h0
    .rw[rAN h0,zME most _ _ h0]at hk; exact absurd hk h0
   rw[rAV h0]at hk ⊢;obtain⟨h1,h2⟩:=ih (fun k hk=>h k (by simp[hk])) (k0+lsz most a) hk
   have hb:k0+lsz most a<=most:=by
    by_cases hb:k0+lsz most a<=most
    .exact hb
    .rw[zME most _ _ hb]at hk; exact absurd hk hb
   refine⟨by rw[h1]; omega,fun k hk=>?_⟩;rcases rA7.1 hk with rfl | hk
   .omega
   .have:=h2 k hk; omega
theorem zJ9:FO 52 Tryz.f52 [.tmp 6,.tmp 7] 84:=mkO Tryz.func52 Tryz.ntmps52 Tryz.results52
def vIT(d m:Int)(x:NodeL)(k:Int)(b:Bool):Prop:=(b=true↔vBH d.toNat x=true/\(x.cnt:Int)<=m)/\(b=true->k=x.cnt)/\0<=k/\k<=max m 0
theorem uKG:∀ (n:Nat) (x:NodeL) (d m:Int),SizeOf.sizeOf x<n->x.Sm->0<=d->d<=2048->m<=65536->-65536<=m->∃ k b,vIT d m x k b/\Fn 52 [vA7 x,.int .i64 d,.int .i64 m] (.data (.tup [.int .i64 k,.bool b])):=by
 intro n
 induction n with
 | zero=>intro x d m h; omega
 | succ n ih =>
   intro x d m hx hs hd0 hd1 hm hm0;have hno:∀ k,0<=k->k<=max m 0->¬ (vBH d.toNat x=true/\(x.cnt:Int)<=m)->vIT d m x k false:=fun k h1 h2 h=>⟨by simpa using h,zsm,h1,h2⟩
   have hc:=zF9 x;by_cases hm1:m<1
   .refine⟨0,false,hno 0 zom zom zom,?_⟩
    refine zAM vBC hT zJ9 zsm ?_
    (repeat' (first|refine stn ?_|(with_reducible refine brr ?_ ?_<;>intro h)|(with_reducible refine zAF ?_ ?_<;>intro h)|with_reducible refine zAL ?_ ?_)); all_goals try (conv=>whnf)
    .exact rGX
    all_goals omega
   .by_cases hk0:x.kids.length=0
    .refine⟨1,vEE x,?_,?_⟩
     .have h1:=zBT (d:=d.toNat) hk0
      have h2:=zIR hk0;unfold vIT;rw[h1,h2];refine⟨⟨fun h=>⟨h,zom⟩,fun h=>h.1⟩,fun _=>rfl,zom,zom⟩
     .refine zAM vBC hT zJ9 zsm ?_
      (repeat' (first|refine stn ?_|(with_reducible refine brr ?_ ?_<;>intro h)|(with_reducible refine zAF ?_ ?_<;>intro h)|with_reducible refine zAL ?_ ?_)); all_goals try (conv=>whnf)
      .omega
      .refine zAA (uKZ x.split ⟨0,0,⟨false,[],[]⟩⟩ hs.dec) rfl ?_
       refine sns ?_;exact rGX
      all_goals omega
    .by_cases hin:vBV x=true/\d≠0
     .obtain⟨hin,hd⟩:=hin
      have hin':=hin;simp only[vBV,rAX]at hin';obtain⟨i1,i2,i3,i4,i5⟩:=hin';have e2:=zCO (d:=d.toNat) i1;have e3:=vID i1;have k0:x.kids[0]! ∈ x.kids:=zAX zom;have k1:x.kids[1]! ∈ x.kids:=zAX zom;have ed:(d - 1).toNat=d.toNat - 1:=by omega
      obtain⟨a,ok,⟨a1,a2,a3,a4⟩,ha⟩:=ih x.kids[0]! (d - 1) (m - 1) (by have:=NodeL.sizeOf_kid k0; omega) (hs.kid k0) zom zom zom zom;rw[ed]at a1;rw[hin,rB4 (show d.toNat≠0 by omega),rDT,rDS]at e2;have hp:=zF9 x.kids[1]!;cases ok with
      | false =>
        refine⟨0,false,hno 0 zom zom (fun h=>?_),?_⟩
        .rw[e2,rAQ]at h
         exact absurd (a1.2 ⟨h.1.1,zom⟩) zsm
        .refine zAM vBC hT zJ9 zsm ?_
         (repeat' (first|refine stn ?_|(with_reducible refine brr ?_ ?_<;>intro h)|(with_reducible refine zAF ?_ ?_<;>intro h)|with_reducible refine zAL ?_ ?_)); all_goals try (conv=>whnf)
         all_goals try (exfalso; first | omega | simp_all; done)
         refine zAA ha rfl ?_;refine sns ?_;exact rGX
      | true =>
        obtain⟨b,ok,⟨b1,b2,b3,b4⟩,hb⟩:=ih x.kids[1]! (d - 1) (m - 1 - a) (by have:=NodeL.sizeOf_kid k1; omega) (hs.kid k1) zom zom zom zom;rw[ed]at b1;have a2:=a2 rfl;have a1:=a1.1 rfl;refine⟨1+a+b,ok,⟨?_,?_,zom,zom⟩,?_⟩
        .rw[e2,rAQ,b1]
         constructor
         .intro h; exact⟨⟨a1.1,h.1⟩,zom⟩
         .intro h; exact⟨h.1.2,zom⟩
        .intro h; have:=b2 h; omega
        .refine zAM vBC hT zJ9 zsm ?_
         (repeat' (first|refine stn ?_|(with_reducible refine brr ?_ ?_<;>intro h)|(with_reducible refine zAF ?_ ?_<;>intro h)|with_reducible refine zAL ?_ ?_)); all_goals try (conv=>whnf)
         all_goals try (exfalso; first | omega | simp_all; done)
         refine zAA ha rfl ?_;refine sns ?_;refine zAA hb rfl ?_;refine sns ?_;exact rGX
     .refine⟨0,false,hno 0 zom zom (fun h=>hin ?_),?_⟩
      .rw[zA2 hk0]at h
       simp only[rAQ,rAX]at h;exact⟨h.1.1.1,zom⟩
      .refine zAM vBC hT zJ9 zsm ?_
       (repeat' (first|refine stn ?_|(with_reducible refine brr ?_ ?_<;>intro h)|(with_reducible refine zAF ?_ ?_<;>intro h)|with_reducible refine zAL ?_ ?_)); all_goals try (conv=>whnf)
       all_goals try (exact rGX)
       all_goals try (exfalso; omega)
       exfalso;apply hin;simp only[vBV,rAX];refine⟨⟨?_,?_,?_,?_,?_⟩,?_⟩<;>first | assumption | omega
theorem uB6:FO 34 Tryz.f34 [.tmp 2] 11:=mkO Tryz.func34 Tryz.ntmps34 Tryz.results34
theorem zMH(x:NodeL)(hs:x.Sm):Fn 34 [vA7 x] (.data (.bool x.valid)):=by
 obtain⟨k,b,⟨h1,_,_,_⟩,hr⟩:=uKG _ x 2048 65536 (rAL _) hs zom zom zom zom;refine zAM vBC hT uB6 zsm ?_;refine sns ?_;refine zAA hr rfl ?_;refine sns ?_;refine zAB rfl ?_;simp only[PV.bool.injEq];rw[rA1,h1];simp only[NodeL.valid,rAQ,rAX];exact and_congr Iff.rfl zom
def NodeL.size(x:NodeL):Nat:=if x.valid then x.cnt else 0
theorem zOI:FO 44 Tryz.f44 [.tmp 4,.tmp 5] 77:=mkO Tryz.func44 Tryz.ntmps44 Tryz.results44
def vIV(d:Int)(x:NodeL)(k:Int)(b:Bool):Prop:=(b=true->d<=2048/\vBH (2048 - d).toNat x=true/\k=x.cnt)/\(d<=2048->vBH (2048 - d).toNat x=true->x.cnt<=65536->b=true)/\0<=k/\k<=(2050 - d) * 65537
theorem uOA:∀ (n:Nat) (x:NodeL) (d:Int),SizeOf.sizeOf x<n->x.Sm->0<=d->d<=2049->∃ k b,vIV d x k b/\Fn 44 [vA7 x,.int .i64 d] (.data (.tup [.bool b,.int .i64 k])):=by
 intro n
 induction n with
 | zero=>intro x d h; omega
 | succ n ih =>
   intro x d hx hs hd0 hd1;have hc:=zF9 x;have hno:¬ (d<=2048/\vBH (2048 - d).toNat x=true/\x.cnt<=65536)->vIV d x 0 false:=fun h=>⟨zsm,fun h0 h1 h2=>absurd ⟨h0,h1,h2⟩ h,zom,zom⟩
   by_cases hdd:2048<d
   .refine⟨0,false,hno zom,?_⟩
    refine zAM vBC hT zOI zsm ?_
    (repeat' (first|refine stn ?_|(with_reducible refine brr ?_ ?_<;>intro h)|(with_reducible refine zAF ?_ ?_<;>intro h)|with_reducible refine zAL ?_ ?_)); all_goals try (conv=>whnf)
    all_goals try (exact rGX)
    all_goals (exfalso; omega)
   .by_cases hk0:x.kids.length=0
    .refine⟨1,vEE x,?_,?_⟩
     .have h1:=zBT (d:=(2048 - d).toNat) hk0
      have h2:=zIR hk0;unfold vIV;rw[h1,h2];exact⟨fun h=>⟨zom,h,rfl⟩,fun _ h _=>h,zom,zom⟩
     .refine zAM vBC hT zOI zsm ?_
      (repeat' (first|refine stn ?_|(with_reducible refine brr ?_ ?_<;>intro h)|(with_reducible refine zAF ?_ ?_<;>intro h)|with_reducible refine zAL ?_ ?_)); all_goals try (conv=>whnf)
      .exfalso; omega
      .refine zAA (zK8 x.split ⟨0,0,⟨false,[],[]⟩⟩ hs.dec) rfl ?_
       refine sns ?_;exact rGX
      all_goals (exfalso; omega)
    .by_cases hin:vBV x=true
     .have hin':=hin
      simp only[vBV,rAX]at hin';obtain⟨i1,i2,i3,i4,i5⟩:=hin';have e2:=zCO (d:=(2048 - d).toNat) i1;have e3:=vID i1;have k0:x.kids[0]! ∈ x.kids:=zAX zom;have k1:x.kids[1]! ∈ x.kids:=zAX zom;have ed:(2048 - (d+1)).toNat=(2048 - d).toNat - 1:=by omega
      obtain⟨a,ok,⟨a1,a2,a3,a4⟩,ha⟩:=ih x.kids[0]! (d+1) (by have:=NodeL.sizeOf_kid k0; omega) (hs.kid k0) zom zom;rw[ed]at a1 a2;rw[hin,rDS]at e2;have hp:=zF9 x.kids[1]!;by_cases hbad:ok=false\/a > 65536
      .refine⟨0,false,hno (fun h=>?_),?_⟩
       .rw[e2]at h
        simp only[rAQ,rAX]at h;rcases hbad with hb | hb
        .have:=a2 zom h.2.1.2.1 zom; rw[hb]at this; cases this
        .cases ok with
         | false=>have:=a2 zom h.2.1.2.1 zom; cases this
         | true=>have:=(a1 rfl).2.2; omega
       .refine zAM vBC hT zOI zsm ?_
        (repeat' (first|refine stn ?_|(with_reducible refine brr ?_ ?_<;>intro h)|(with_reducible refine zAF ?_ ?_<;>intro h)|with_reducible refine zAL ?_ ?_)); all_goals try (conv=>whnf)
        all_goals try (exfalso; first | omega | simp_all; done)
        refine zAA ha rfl ?_
        (repeat' (first|refine stn ?_|(with_reducible refine brr ?_ ?_<;>intro h)|(with_reducible refine zAF ?_ ?_<;>intro h)|with_reducible refine zAL ?_ ?_)); all_goals try (conv=>whnf)
        all_goals try (exact rGX)
        all_goals (exfalso; rcases hbad with hb | hb<;>first | omega | simp_all)
      .have hok:ok=true:=by cases ok<;>simp_all
       subst hok;have ha6:a<=65536:=by omega
       obtain⟨a1,a5,a6⟩:=a1 rfl;obtain⟨b,ok,⟨b1,b2,b3,b4⟩,hb⟩:=ih x.kids[1]! (d+1) (by have:=NodeL.sizeOf_kid k1; omega) (hs.kid k1) zom zom;rw[ed]at b1 b2;refine⟨1+a+b,ok,⟨?_,?_,zom,zom⟩,?_⟩
       .intro h
        obtain⟨b1,b5,b6⟩:=b1 h;rw[e2,a5,b5];exact⟨zom,by simp; omega,zom⟩
       .intro h0 h h2
        rw[e2]at h;simp only[rAQ,rAX]at h;exact b2 zom h.2.2 zom
       .refine zAM vBC hT zOI zsm ?_
        (repeat' (first|refine stn ?_|(with_reducible refine brr ?_ ?_<;>intro h)|(with_reducible refine zAF ?_ ?_<;>intro h)|with_reducible refine zAL ?_ ?_)); all_goals try (conv=>whnf)
        all_goals try (exfalso; first | omega | simp_all; done)
        refine zAA ha rfl ?_
        (repeat' (first|refine stn ?_|(with_reducible refine brr ?_ ?_<;>intro h)|(with_reducible refine zAF ?_ ?_<;>intro h)|with_reducible refine zAL ?_ ?_)); all_goals try (conv=>whnf)
        all_goals try (exfalso; first | omega | simp_all; done)
        refine zAA hb rfl ?_;refine sns ?_;exact rGX
     .refine⟨0,false,hno (fun h=>hin ?_),?_⟩
      .rw[zA2 hk0]at h
       simp only[rAQ,rAX]at h;exact h.2.1.1.1
      .refine zAM vBC hT zOI zsm ?_
       (repeat' (first|refine stn ?_|(with_reducible refine brr ?_ ?_<;>intro h)|(with_reducible refine zAF ?_ ?_<;>intro h)|with_reducible refine zAL ?_ ?_)); all_goals try (conv=>whnf)
       all_goals try (exact rGX)
       all_goals try (exfalso; omega)
       exfalso;apply hin;simp only[vBV,rAX];refine⟨?_,?_,?_,?_,?_⟩<;>first | assumption | omega
theorem vM0:FO 21 Tryz.f21 [.tmp 2] 15:=mkO Tryz.func21 Tryz.ntmps21 Tryz.results21
theorem zFA(x:NodeL)(hs:x.Sm):Fn 21 [vA7 x] (.data (.bool x.valid)):=by
 obtain⟨k,b,⟨h1,h2,_,_⟩,hr⟩:=uOA _ x 0 (rAL _) hs zom zom;have e0:(2048 - (0:Int)).toNat=2048:=rfl;rw[e0]at h1 h2;refine zAM vBC hT vM0 zsm ?_;refine sns ?_;refine zAA hr rfl ?_
 (repeat' (first|refine stn ?_|(with_reducible refine brr ?_ ?_<;>intro h)|(with_reducible refine zAF ?_ ?_<;>intro h)|with_reducible refine zAL ?_ ?_)); all_goals try (conv=>whnf)
 all_goals refine zAB rfl ?_
 all_goals simp only[PV.bool.injEq]
 all_goals rw[rA1]
 all_goals simp only[NodeL.valid,rAQ,rAX]
 .have⟨_,h3,h4⟩:=h1 rAC
  constructor
  .intro h; exact⟨h3,zom⟩
  .intro h; omega
 .constructor
  .intro h; cases h
  .intro⟨h3,h4⟩
   have:=h2 zom h3 h4
   simp_all
theorem vNB:FO 74 Tryz.f74 [.tmp 2] 8:=mkO Tryz.func74 Tryz.ntmps74 Tryz.results74
theorem zIU{α:Type}(enc:α->PV)(hf:∀ h n x,frz h (n+1) (enc x)=some (enc x,[]))(hs:∀ x,(enc x).cells.length=5/\(enc x).isAgg=true)(xs:List α)(hl:xs.length<2097152):Fn 74 [.imm (xs.map enc)] (.fresh (xs.map enc) 5 true):=by
 refine zDU vBC hT vNB zsm ?_
 (repeat' (first|refine stn ?_|(with_reducible refine brr ?_ ?_<;>intro h)|(with_reducible refine zAF ?_ ?_<;>intro h)|with_reducible refine zAL ?_ ?_)); all_goals try (conv=>whnf)
 .subst h; exact zDJ
 all_goals refine zJJ hs rfl ?_
 all_goals ((refine sns ?_))
 all_goals refine zBH rfl rfl ?_ rfl (zDM (fun x=>hf _ _ x) _)
 all_goals simp
theorem vNA:FO 105 Tryz.f105 [.tmp 2] 8:=mkO Tryz.func105 Tryz.ntmps105 Tryz.results105
theorem vTB{α:Type}(enc:α->PV)(hf:∀ h n x,frz h (n+1) (enc x)=some (enc x,[]))(hs:∀ x,(enc x).cells.length=6/\(enc x).isAgg=true)(xs:List α)(hl:xs.length<2097152):Fn 105 [.imm (xs.map enc)] (.fresh (xs.map enc) 6 true):=by
 refine zDU vBC hT vNA zsm ?_
 (repeat' (first|refine stn ?_|(with_reducible refine brr ?_ ?_<;>intro h)|(with_reducible refine zAF ?_ ?_<;>intro h)|with_reducible refine zAL ?_ ?_)); all_goals try (conv=>whnf)
 .subst h; exact zDJ
 all_goals refine zJJ hs rfl ?_
 all_goals ((refine sns ?_))
 all_goals refine zBH rfl rfl ?_ rfl (zDM (fun x=>hf _ _ x) _)
 all_goals simp
theorem vJ8:FO 140 Tryz.f140 [.tmp 2] 8:=mkO Tryz.func140 Tryz.ntmps140 Tryz.results140
theorem vN3{α:Type}(enc:α->PV)(hf:∀ h n x,frz h (n+1) (enc x)=some (enc x,[]))(hs:∀ x,(enc x).cells.length=9/\(enc x).isAgg=true)(xs:List α)(hl:xs.length<2097152):Fn 140 [.imm (xs.map enc)] (.fresh (xs.map enc) 9 true):=by
 refine zDU vBC hT vJ8 zsm ?_
 (repeat' (first|refine stn ?_|(with_reducible refine brr ?_ ?_<;>intro h)|(with_reducible refine zAF ?_ ?_<;>intro h)|with_reducible refine zAL ?_ ?_)); all_goals try (conv=>whnf)
 .subst h; exact zDJ
 all_goals refine zJJ hs rfl ?_
 all_goals ((refine sns ?_))
 all_goals refine zBH rfl rfl ?_ rfl (zDM (fun x=>hf _ _ x) _)
 all_goals simp
theorem vWQ:FO 109 Tryz.f109 [.cell 2 28] 18:=mkO Tryz.func109 Tryz.ntmps109 Tryz.results109
theorem uEQ(d:DecL):Fn 109 [vA9 d] (.data (vA9 (opp d))):=by
 refine zAM vBC hT vWQ zsm ?_
 (repeat' (first|refine stn ?_|(with_reducible refine brr ?_ ?_<;>intro h)|(with_reducible refine zAF ?_ ?_<;>intro h)|with_reducible refine zAL ?_ ?_)); all_goals try (conv=>whnf)
 all_goals refine zAB rfl ?_
 all_goals simp_all [opp,uLK,vA9]
theorem vWD:FO 168 Tryz.f168 [.cell 2 28] 17:=mkO Tryz.func168 Tryz.ntmps168 Tryz.results168
theorem uNS(d:DecL):Fn 168 [vA9 d] (.data (vA9 (opp d))):=by
 obtain⟨k,i,r⟩:=d;by_cases h0:0<k/\k<5
 .obtain rfl | rfl | rfl | rfl:k=1\/k=2\/k=3\/k=4:=by omega
  all_goals refine zAM vBC hT vWD zsm ?_
  all_goals ((refine sns ?_))
  all_goals exact rGX
 .refine zAM vBC hT vWD zsm ?_
  (repeat' (first|refine stn ?_|(with_reducible refine brr ?_ ?_<;>intro h)|(with_reducible refine zAF ?_ ?_<;>intro h)|with_reducible refine zAL ?_ ?_)); all_goals try (conv=>whnf)
  all_goals try (exfalso; omega)
  all_goals refine zAB rfl ?_
  all_goals simp only[opp,uLK,vA9]
  all_goals rw[rAN zom,rAN zom,rAN zom,rAN zom]
theorem vWR:FO 75 Tryz.f75 [.tmp 6] 20:=mkO Tryz.func75 Tryz.ntmps75 Tryz.results75
theorem vQR(path:List DecL)(n:NodeL)(i:Nat)(hp:path.length<2097151):Fn 75 [.imm (path.map vA9),vA7 n,.int .i64 i] (.fresh ((path++[vCD n i]).map vA9) 5 true):=by
 refine zDU vBC hT vWR zsm ?_
 refine gon ?_ ?_<;>intro h
 .obtain rfl:i=1:=by omega
  refine zAA (uEQ n.split) rfl ?_;refine sns ?_;refine zBH rfl ?_ ?_ rfl (zDM (fun x=>zEA x) _)
  .simp[vCD]; rfl
  .simp
 .refine zBH rfl ?_ ?_ rfl (zDM (fun x=>zEA x) _)
  .simp[vCD,show i≠1 by omega]; rfl
  .simp
theorem ok_kid:FO 138 Tryz.f138 [.tmp 6] 19:=mkO Tryz.func138 Tryz.ntmps138 Tryz.results138
theorem uN7(path:List DecL)(n:NodeL)(i:Nat)(hp:path.length<2097151):Fn 138 [.imm (path.map vA9),vA7 n,.int .i64 i] (.fresh ((path++[vCD n i]).map vA9) 5 true):=by
 refine zDU vBC hT ok_kid zsm ?_
 refine gon ?_ ?_<;>intro h
 .obtain rfl:i=1:=by omega
  refine zAA (uNS n.split) rfl ?_;refine sns ?_;refine zA4 (zIU vA9 (fun _ _ x=>zEA x) (fun _=>⟨rfl,rfl⟩) path zom) rfl ?_;refine sns ?_;refine zBH rfl ?_ ?_ rfl (zDM (fun x=>zEA x) _)
  .simp[vCD]; rfl
  .simp
 .refine zA4 (zIU vA9 (fun _ _ x=>zEA x) (fun _=>⟨rfl,rfl⟩) path zom) rfl ?_
  refine sns ?_;refine zBH rfl ?_ ?_ rfl (zDM (fun x=>zEA x) _)
  .simp[vCD,show i≠1 by omega]; rfl
  .simp
def vBX(n:NodeL)(d:DecL):Option Nat:=(List.range n.kids.length).find? fun i=>vCD n i=d
theorem uIQ:FO 103 Tryz.f103 [.tmp 4] 23:=mkO Tryz.func103 Tryz.ntmps103 Tryz.results103
theorem uGM(n:NodeL)(d:DecL)(hs:n.Sm):Fn 103 [vA7 n,vA9 d] (.data (.int .i64 (match vBX n d with | some i=>(i:Int) | none=>-1))):=by
 have hl:=hs.len;refine zAM vBC hT uIQ zsm ?_;refine sns ?_
 refine zDE hT (fun i:Nat=>[(2,.ptr 0 0 0),(3,.ptr 1 0 0),(9,.int .i64 n.kids.length),(10,.int .i64 i)]) (fun _=>[(0,⟨[vA7 n],9,true⟩),(1,⟨[vA9 d],5,true⟩)]) [] 2 (fun i=>i<=n.kids.length/\∀ j,j<i->vCD n j≠d) (fun i=>n.kids.length - i) 0 zsm zdd zsm
  [0,1] ⟨apx,apx,zAC rfl zsm,rAI,rGW⟩ ⟨bbx,bbx,rGW⟩ rAA ?_
 intro i ⟨hi,hn⟩
 refine gon ?_ ?_<;>intro h
 .refine zA4 (uN7 [] n i zsm) rfl ?_
  refine sns ?_;refine zAA (uKZ (vCD n i) d (by unfold vCD; split<;>exact hs.dec)) rfl ?_
  refine gon ?_ ?_<;>intro h
  .refine zAB rfl ?_
   have:vBX n d=some i:=by
    unfold vBX;rw[rF7];refine⟨by simpa using h,List.range i,(List.range (n.kids.length - i - 1)).map (·+i+1),?_,fun j hj=>?_⟩
    .have e:n.kids.length=i+1+(n.kids.length - i - 1):=by omega
     rw[e,List.range_add,rE0,rBG]
     congr 2
     rw[show i+1+(n.kids.length - i - 1) - i - 1=n.kids.length - i - 1 by omega];simp only[List.singleton_append,rE2,List.map_inj_left];exact⟨rGW,fun a _=>by omega⟩
    .simpa using hn j (by simpa using hj)
   rw[this]
  .refine⟨i+1,[0,1],⟨⟨zom,fun j hj=>?_⟩,zom⟩,⟨apx,apx,rAI,zAC rfl zom,rGW⟩,⟨bbx,bbx,rGW⟩,rAA⟩
   rcases rB8.1 hj with hj | rfl
   .exact hn j hj
   .assumption
 .refine zAB rfl ?_
  have:vBX n d=none:=by
   unfold vBX;rw[rFB];intro j hj
   simpa using hn j (by simp at hj; omega)
  rw[this]
def vC5(v:List DecL×NodeL):PV:=.agg [.imm (v.1.map vA9),.imm (v.2.lemmas.map vBB),.int .i64 v.2.split.kind,.int .i64 v.2.split.index,.bool v.2.split.rat.neg,vBK v.2.split.rat.num,vBK v.2.split.rat.den,.imm (v.2.kids.map vBF),.bool v.2.empty,.imm (v.2.proof.map vBA)]
theorem zOQ(h:Hp)(n:Nat)(v:List DecL×NodeL):frz h (n+1) (vC5 v)=some (vC5 v,[]):=by cases n<;>rfl
def pre(path:List DecL)(l:List (List DecL×NodeL)):List (List DecL×NodeL):=l.map fun q=>(path++q.1,q.2)
theorem zJB(path:List DecL)(l:List (List DecL×NodeL)):(pre path l).length=l.length:=by simp[pre]
theorem zPI:∀ (n:Nat) (x:NodeL),SizeOf.sizeOf x<n->x.all.length<=x.wt/\∀ i,(x.upto i).length<=x.wt:=by
 intro n
 induction n with
 | zero=>intro x h; omega
 | succ n ih =>
   intro x hx
   have hu:∀ i,i<=x.kids.length->(x.upto i).length<=1+((x.kids.take i).map NodeL.wt).sum:=by
    intro i
    induction i with
    | zero=>intro _; simp[NodeL.upto_zero]
    | succ i ihi =>
      intro hi;have h1:=ihi zom;have h2:=(ih x.kids[i]! (by have:=NodeL.sizeOf_kid (zAX (show i<x.kids.length by omega)); omega)).1;rw[x.upto_succ zom,rAU,rAM,zD6 zom];omega
   have hw:=x.wt_eq
   have hall:∀ i,i<=x.kids.length->(x.upto i).length<=x.wt:=fun i hi=>by
    have h1:=hu i hi;have h2:=@sum_take_le _ NodeL.wt x.kids i;omega
   refine⟨by rw[x.all_eq]; exact hall _ (rAO _),fun i=>?_⟩;by_cases hi:i<=x.kids.length
   .exact hall i hi
   .have:x.upto i=x.upto x.kids.length:=by
     unfold NodeL.upto;rw[rBO rAE,rBO zsm]
    rw[this]; exact hall _ (rAO _)
theorem uDA:FO 47 Tryz.f47 [.tmp 4] 33:=mkO Tryz.func47 Tryz.ntmps47 Tryz.results47
theorem uK0:∀ (n:Nat) (path:List DecL) (x:NodeL),SizeOf.sizeOf x<n->x.Sm->path.length+x.wt<2097151->Fn 47 [.imm (path.map vA9),vA7 x] (.fresh ((pre path x.all).map vC5) 10 true):=by
 intro n
 induction n with
 | zero=>intro p x h; omega
 | succ n ih =>
   intro path x hx hs hw;refine zDU vBC hT uDA zsm ?_;refine sns ?_;have hl:=hs.len;have hal:=zPI _ x (rAL _);refine zAO hT (fun i:Nat=>[(0,.imm (path.map vA9)),(3,.ptr 0 0 0),(5,.own 1 0 (x.upto i).length),(6,.int .i64 i)]) (fun i=>[(0,⟨[vA7 x],9,true⟩),(1,⟨(pre path (x.upto i)).map vC5,10,true⟩)]) [] 2 (fun i=>i<=x.kids.length) (fun i=>x.kids.length - i) 0 zsm zdd zsm ?_ ?_
   .refine⟨[0,7],[4],[],[(7,[vC5 (path,x)])],⟨⟨⟨_,rfl⟩,rGW⟩,rGW,⟨⟨_,4,_,rfl,zAD (vKP (zAI rfl rfl ?_ (fun x=>zEA x)) rfl) rfl,rfl⟩,rGW⟩⟩,⟨zAE rfl rfl,apx,zA5 zdd rfl (by simp[NodeL.upto_zero]),zAC rfl rfl,rGW⟩,
     ⟨bbx,zAG zdd rfl (by simp[NodeL.upto_zero,pre]) (zAR fun _=>⟨rfl,by simp[vC5]⟩) rfl,rGW⟩,rAA⟩
    simp
   .intro i hi
    have hul:=hal.2 i;have hul1:=hal.2 (i+1);have hpl:=zJB path (x.upto i)
    refine gon ?_ ?_<;>intro h
    .have hi':i<x.kids.length:=by omega
     have hkm:x.kids[i]! ∈ x.kids:=zAX hi';have hwk:=vOC hkm;refine zA4 (vQR path x i zom) rfl ?_;refine sns ?_;refine zA4 (ih (path++[vCD x i]) x.kids[i]! (by have:=NodeL.sizeOf_kid hkm; omega) (hs.kid hkm) (by simp only[rAU,List.length_singleton]; omega)) (zAD (zAI rfl rfl zsm (fun x=>zEA x)) rfl) ?_;refine sns ?_;refine zBJ ⟨rfl,by simp[zJB],?_⟩ ?_
     .have:=(zPI _ x.kids[i]! (rAL _)).1
      simp only[rBX,rCK,rAM,zJB]; omega
     refine sns ?_;have e1:(List.map vC5 (pre (path++[vCD x i]) x.kids[i]!.all)).take (List.map vC5 (pre (path++[vCD x i]) x.kids[i]!.all)).length=List.map vC5 (pre (path++[vCD x i]) x.kids[i]!.all):=rBO (rAO _)
     have e2:pre path (x.upto (i+1))=pre path (x.upto i)++pre (path++[vCD x i]) x.kids[i]!.all:=by
      rw[x.upto_succ hi'];simp only[pre,rBB,rB7]
      congr 1
      refine rBH fun q _=>?_
      simp
     refine⟨i+1,⟨zom,zom⟩,[0,18],[],[],[],ttt,⟨rAJ,apx,zA5 zdd rfl ?_,zAC rfl zom,rGW⟩,⟨bbx,zAG zdd rfl ?_ (zAR fun _=>⟨rfl,by simp[vC5]⟩) rfl,rGW⟩,rAA⟩
     .rw[rFE,e1,rAM,zJB,x.upto_succ hi',rAU,rAM]
     .rw[rFE,e1,e2,rBB]
    .refine zBH rfl ?_ ?_ rfl (zDM (fun x=>zOQ _ _ x) _)
     .rw[NodeL.all_eq,show i=x.kids.length by omega]
     .rw[NodeL.all_eq,show i=x.kids.length by omega]; simp[zJB]
def vBZ(x:NodeL):List (List DecL×NodeL):=if x.valid then x.all else []
theorem pre_nil(l:List (List DecL×NodeL)):pre [] l=l:=by simp[pre]
theorem uMZ:FO 26 Tryz.f26 [.tmp 2] 8:=mkO Tryz.func26 Tryz.ntmps26 Tryz.results26
theorem uE4(x:NodeL)(hs:x.Sm)(hw:x.wt<2097151):Fn 26 [vA7 x] (.fresh ((vBZ x).map vC5) 10 true):=by
 refine zDU vBC hT uMZ zsm ?_;refine sns ?_;refine zAA (zFA x hs) rfl ?_
 refine gon ?_ ?_<;>intro h
 .refine zA4 (uK0 _ [] x (rAL _) hs (by simpa using hw)) rfl ?_
  refine sns ?_;refine zBH rfl ?_ ?_ rfl (zDM (fun x=>zOQ _ _ x) _)
  .simp[vBZ,h,pre_nil]
  .simp[vBZ,h,pre_nil]
 .have:vBZ x=[]:=by simp[vBZ,h]
  rw[this]; exact zDJ
theorem vIR(x:NodeL):(vBZ x).length<=x.wt:=by
 unfold vBZ
 split
 .exact(zPI _ x (rAL _)).1
 .simp
theorem vSC:FO 23 Tryz.f23 [.tmp 2] 6:=mkO Tryz.func23 Tryz.ntmps23 Tryz.results23
theorem vLA(x:NodeL)(hs:x.Sm)(hw:x.wt<2097151):Fn 23 [vA7 x] (.data (.int .i64 (vBZ x).length)):=by
 refine zAM vBC hT vSC zsm ?_;refine sns ?_;refine zA4 (uE4 x hs hw) rfl ?_;refine sns ?_;exact zAB rfl zsm
def vEA(l:List (List DecL×NodeL)):Int:=l.foldl (fun d q=>max d q.1.length) 0
theorem vM2:FO 24 Tryz.f24 [.tmp 2] 23:=mkO Tryz.func24 Tryz.ntmps24 Tryz.results24
theorem zQT(x:NodeL)(hs:x.Sm)(hw:x.wt<2097151):Fn 24 [vA7 x] (.data (.int .i64 (vEA (vBZ x)))):=by
 have hl:=vIR x;refine zAM vBC hT vM2 zsm ?_;refine sns ?_;refine zA4 (uE4 x hs hw) rfl ?_;refine sns ?_;refine zAO hT (fun i:Nat=>[(3,.imm ((vBZ x).map vC5)),(4,.int .i64 (vEA ((vBZ x).take i))),(5,.int .i64 i)]) (fun _=>[]) [] 0 (fun i=>i<=(vBZ x).length) (fun i=>(vBZ x).length - i) 0 zsm zdd zsm ?_ ?_
 .refine⟨[],[3],[(3,.imm ((vBZ x).map vC5))],[],⟨⟨⟨_,rfl⟩,rGW⟩,⟨⟨4,[3],zAI rfl rfl ?_ (fun x=>zOQ _ _ x),rfl⟩,rGW⟩,rGW⟩,⟨zAE rfl rfl,zAC rfl rfl,zAC rfl rfl,rGW⟩,rGW,zsm⟩
  simp
 .intro i hi
  refine gon ?_ ?_<;>intro h
  .have hi':i<(vBZ x).length:=by omega
   refine⟨i+1,⟨zom,zom⟩,[],[],[],[],ttt,⟨rAJ,zAC rfl ?_,zAC rfl zom,rGW⟩,rGW,zsm⟩;unfold vEA;rw[rA0 hi',rD3,rAS (vBZ x) i hi'];simp only[List.foldl_cons,List.foldl_nil,rAM]
   split<;>omega
  .refine zAB rfl ?_
   rw[rBO zom]
theorem uGV:∀ (n:Nat) (x:NodeL),SizeOf.sizeOf x<n->x.Sm->∀ q∈x.all,q.2.Sm/\(∀ d∈q.1,d.sm)/\q.1.length+q.2.wt<=x.wt:=by
 intro n
 induction n with
 | zero=>intro x h; omega
 | succ n ih =>
   intro x hx hs q hq
   have hu:∀ i,i<=x.kids.length->∀ q∈x.upto i,q.2.Sm/\(∀ d∈q.1,d.sm)/\q.1.length+q.2.wt<=x.wt:=by
    intro i
    induction i with
    | zero =>
      intro _ q hq;rw[NodeL.upto_zero,rBL]at hq;subst hq;exact⟨hs,fun d hd=>(by cases hd),zsm⟩
    | succ i ihi =>
      intro hi q hq;have hi':i<x.kids.length:=by omega
      rw[x.upto_succ hi',rAY]at hq;rcases hq with hq | hq
      .exact ihi zom q hq
      .obtain⟨p,hp,rfl⟩:=rA5.1 hq
       have hk:=zAX hi';have h1:=vOC hk;obtain⟨h2,h3,h4⟩:=ih x.kids[i]! (by have:=NodeL.sizeOf_kid hk; omega) (hs.kid hk) p hp;refine⟨h2,fun d hd=>?_,by simp only[List.length_cons]; omega⟩;rcases rA7.1 hd with rfl | hd
       .have:=hs.dec
        unfold vCD
        split<;>exact this
       .exact h3 d hd
   rw[x.all_eq]at hq;exact hu _ (rAO _) q hq
theorem uK7{x:NodeL}(hs:x.Sm)(hw:x.wt<2097151){q:List DecL×NodeL}(hq:q∈vBZ x):q.2.Sm/\vON q.1/\q.1.length+q.2.wt<=x.wt:=by
 unfold vBZ at hq
 split at hq
 .obtain⟨h1,h2,h3⟩:=uGV _ x (rAL _) hs q hq
  exact⟨h1,⟨zom,h2⟩,h3⟩
 .cases hq
instance:Inhabited (List DecL×NodeL):=⟨([],default)⟩
def vC8:NodeL:=.mk [] ⟨0,0,⟨false,[],[]⟩⟩ [] false []
def atL(x:NodeL)(path:List DecL):Option NodeL:=((vBZ x).find? fun q=>q.1=path).map (·.2)
theorem uCQ:FO 41 Tryz.f41 [.cell 4 32,.tmp 5] 29:=mkO Tryz.func41 Tryz.ntmps41 Tryz.results41
theorem uKR(x:NodeL)(path:List DecL)(hs:x.Sm)(hw:x.wt<2097151)(hp:vON path):Fn 41 [vA7 x,.imm (path.map vA9)] (.data (.tup [vA7 ((atL x path).getD vC8),.bool (atL x path).isSome])):=by
 have hl:=vIR x;refine zAM vBC hT uCQ zsm ?_;refine sns ?_;refine zA4 (uE4 x hs hw) rfl ?_;refine sns ?_;refine zAO hT (fun i:Nat=>[(1,.imm (path.map vA9)),(4,.ptr 0 0 0),(6,.imm ((vBZ x).map vC5)),(7,.int .i64 i)]) (fun _=>[(0,⟨[vA7 vC8],9,true⟩)]) [] 1 (fun i=>i<=(vBZ x).length/\∀ j,j<i->(vBZ x)[j]!.1≠path) (fun i=>(vBZ x).length - i) 0 zsm zdd zsm ?_ ?_
 .refine⟨[1],[4],[(6,.imm ((vBZ x).map vC5))],[(1,[vA7 vC8])],⟨⟨⟨_,rfl⟩,rGW⟩,⟨⟨4,[4],zAI rfl rfl ?_ (fun x=>zOQ _ _ x),rfl⟩,rGW⟩,⟨⟨_,4,_,rfl,rfl,rfl⟩,rGW⟩⟩,⟨zAE rfl rfl,apx,zAE rfl rfl,zAC rfl rfl,rGW⟩,⟨bbx,rGW⟩,rAA⟩
  simp
 .intro i ⟨hi,hn⟩
  refine gon ?_ ?_<;>intro h
  .have hi':i<(vBZ x).length:=by omega
   refine zAA (vS5 (vBZ x)[i]!.1 path (uK7 hs hw (zAX hi')).2.1) rfl ?_
   refine gon ?_ ?_<;>intro h
   .refine zAB rfl ?_
    have:atL x path=some (vBZ x)[i]!.2:=by
     unfold atL
     have:(vBZ x).find? (fun q=>q.1=path)=some (vBZ x)[i]! := by
      rw[rF7];refine⟨by simpa using h,(vBZ x).take i,(vBZ x).drop (i+1),?_,fun q hq=>?_⟩
      .rw[rAS (vBZ x) i hi',<- rBT hi',rCP]
      .obtain⟨j,hj,rfl⟩:=rBD hq
       rw[rBX]at hj;have:=hn j zom;rw[rAS (vBZ x) j zom]at this
       simpa using this
     rw[this]; rfl
    rw[this];rfl
   .refine⟨i+1,⟨⟨zom,fun j hj=>?_⟩,zom⟩,[0],[],[],[],ttt,⟨rAJ,apx,rAJ,zAC rfl zom,rGW⟩,⟨bbx,rGW⟩,rAA⟩
    rcases rB8.1 hj with hj | rfl
    .exact hn j hj
    .assumption
  .refine zAB rfl ?_
   have:atL x path=none:=by
    unfold atL
    have:(vBZ x).find? (fun q=>q.1=path)=none:=by
     rw[rFB];intro q hq;obtain⟨j,hj,rfl⟩:=rBD hq;have:=hn j zom;rw[rAS (vBZ x) j hj]at this
     simpa using this
    rw[this]; rfl
   rw[this];rfl
def atF:NodeL->List DecL->Option NodeL
 | n,[]=>some n
 | n,d::p=>match vBX n d with
   | some i=>atF n.kids[i]! p
   | none=>none
theorem zCT{n:NodeL}{d:DecL}{i:Nat}(h:vBX n d=some i):i<n.kids.length/\vCD n i=d:=by
 unfold vBX at h;have h1:=rGJ h;have h2:=List.find?_some h;simp at h1 h2;exact⟨h1,h2⟩
theorem zIJ{n:NodeL}{d:DecL}(hl:0<n.kids.length)(h:vCD n 0=d):vBX n d=some 0:=by
 unfold vBX;obtain⟨k,hk⟩:∃ k,n.kids.length=k+1:=⟨n.kids.length - 1,zom⟩;rw[hk,List.range_succ_eq_map,List.find?_cons];simp[h]
def atV(x:NodeL)(path:List DecL):Option NodeL:=if x.valid then atF x path else none
theorem uPL:FO 70 Tryz.f70 [.cell 4 32,.tmp 5] 32:=mkO Tryz.func70 Tryz.ntmps70 Tryz.results70
theorem uQ3(x:NodeL)(path:List DecL)(hs:x.Sm)(hp:path.length<2097152):Fn 70 [vA7 x,.imm (path.map vA9)] (.data (.tup [vA7 ((atV x path).getD vC8),.bool (atV x path).isSome])):=by
 refine zAM vBC hT uPL zsm ?_;refine sns ?_;refine zAA (zMH x hs) rfl ?_
 refine gon ?_ ?_<;>intro h
 .have hv:=h
  refine zAO hT (fun s:Nat×NodeL=>[(2,.ptr 0 0 0),(4,.ptr 1 0 0),(13,.imm (path.map vA9)),(14,.int .i64 path.length),(15,.int .i64 s.1)]) (fun s=>[(0,⟨[vA7 s.2],9,true⟩),(1,⟨[vA7 vC8],9,true⟩)]) [] 2 (fun s=>s.1<=path.length/\s.2.Sm/\atF x path=atF s.2 (path.drop s.1)) (fun s=>path.length - s.1) (0,x) ⟨zsm,hs,zsm⟩ zdd zsm ?_ ?_
  .refine⟨[0,1],[],[],[(1,[vA7 vC8])],⟨rGW,rGW,⟨⟨_,4,_,rfl,rfl,rfl⟩,rGW⟩⟩,⟨apx,apx,zAE rfl rfl,zAC rfl zsm,zAC rfl rfl,rGW⟩,⟨bbx,bbx,rGW⟩,rAA⟩
  .intro⟨i,m⟩ ⟨hi,hm,he⟩
   dsimp only at hi hm he
   refine gon ?_ ?_<;>intro h
   .have hi':i<path.length:=by omega
    have hd:path.drop i=path[i]! :: path.drop (i+1):=by rw[rAS path i hi',<- rBT hi']
    have hc:=uGM m path[i]! hm;rw[hd,atF]at he;cases hk:vBX m path[i]! with
    | none =>
      rw[hk]at hc he;refine zAA hc rfl ?_;refine sns ?_;refine zAB rfl ?_;have:atV x path=none:=by simp[atV,hv,he]
      rw[this]; rfl
    | some j =>
      rw[hk]at hc he;have hj:=(zCT hk).1;refine zAA hc rfl ?_;refine sns ?_;refine⟨(i+1,m.kids[j]!),⟨⟨by simp only; omega,hm.kid (zAX hj),he⟩,by simp only; omega⟩,[0,1],[],[],[],ttt,⟨apx,apx,rAJ,rAI,rAI,rGW⟩,⟨bbx,bbx,rGW⟩,rAA⟩
   .refine zAB rfl ?_
    have:atV x path=some m:=by
     rw[atV,hv,rAV rfl,he,rDW zom]; rfl
    rw[this]; rfl
 .have:atV x path=none:=by simp[atV,h]
  rw[this];exact rGX
def vB0(n:NodeL)(i:Nat)(k:NodeL):NodeL:=.mk n.lemmas n.split (n.kids.set i k) n.empty n.proof
def vCO(w:NodeL):NodeL->List DecL->Option NodeL
 | _,[]=>some w
 | n,d::p=>match vBX n d with
   | some i=>(vCO w n.kids[i]! p).map fun k=>vB0 n i k
   | none=>none
def vFK(w:NodeL):NodeL->List DecL->NodeL
 | _,[]=>w
 | n,d::p=>match vBX n d with
   | some i=>vB0 n i (vFK w n.kids[i]! p)
   | none=>vC8
theorem zQD:FO 106 Tryz.f106 [.cell 6 32,.tmp 7] 46:=mkO Tryz.func106 Tryz.ntmps106 Tryz.results106
theorem vZQ(w:NodeL):∀ (path:List DecL) (x:NodeL),x.Sm->path.length<2097152->Fn 106 [vA7 x,.imm (path.map vA9),vA7 w] (.data (.tup [vA7 (vFK w x path),.bool (vCO w x path).isSome])):=by
 intro path
 induction path with
 | nil =>
   intro x hs hp;refine zAM vBC hT zQD zsm ?_;refine sns ?_;exact rGX
 | cons d p ih =>
   intro x hs hp;refine zAM vBC hT zQD zsm ?_;refine sns ?_;have hc:=uGM x d hs;cases hk:vBX x d with
   | none =>
     rw[hk]at hc;refine zAA hc rfl ?_;refine sns ?_;refine zAB rfl ?_;have h1:vFK w x (d::p)=vC8:=by simp only[vFK,hk]
     have h2:vCO w x (d::p)=none:=by simp only[vCO,hk]
     rw[h1,h2]; rfl
   | some i =>
     rw[hk]at hc;have hi:=(zCT hk).1;have hl:=hs.len;simp only[List.length_cons]at hp;refine zAA hc rfl ?_;refine sns ?_;refine zB2 (l':=p) zsm ?_;refine sns ?_;refine zAA (ih x.kids[i]! (hs.kid (zAX hi)) zom) rfl ?_;refine sns ?_;refine zA4 (vN3 vBF (fun _ _ x=>zF4 x) zIH x.kids hl) rfl ?_;refine sns ?_;refine zKB i zsm hi ?_;refine sns ?_
     have e1:(x.kids.map vBF).set (0+((match some i with | some i=>(i:Int) | none=>-1):Int).toNat) (vA7 (vFK w x.kids[i]! p))=(x.kids.set i (vFK w x.kids[i]! p)).map vBF:=by
      rw[rF2,zBQ]; simp
     refine zAB (zKP (zAD (zBZ (zAD rfl (zAD rfl (zAD rfl (zAD rfl (zAD rfl (zAD rfl (zAD (zAI rfl e1 zsm (fun x=>zF4 x)) rfl)))))))) rfl)) ?_;have h1:vFK w x (d::p)=vB0 x i (vFK w x.kids[i]! p):=by simp only[vFK,hk]
     have h2:(vCO w x (d::p)).isSome=(vCO w x.kids[i]! p).isSome:=by simp only[vCO,hk]; cases vCO w x.kids[i]! p<;>rfl
     rw[h1,h2]; rfl
theorem uFX:FO 42 Tryz.f42 [.cell 6 32] 38:=mkO Tryz.func42 Tryz.ntmps42 Tryz.results42
theorem uP2 (w:NodeL):∀ (path:List DecL) (x:NodeL),x.Sm->path.length<2097152->(vCO w x path).isSome->(∀ d∈path,d.sm)->Fn 42 [vA7 x,.imm (path.map vA9),vA7 w] (.data (vA7 (vFK w x path))):=by
 intro path
 induction path with
 | nil =>
   intro x hs hp hr hd;refine zAM vBC hT uFX zsm ?_;refine sns ?_;exact rGX
 | cons d p ih =>
   intro x hs hp hr hd;cases hk:vBX x d with
   | none=>simp only[vCO,hk]at hr; cases hr
   | some i =>
     have hr':(vCO w x.kids[i]! p).isSome:=by
      simp only[vCO,hk]at hr;cases h:vCO w x.kids[i]! p with
      | none=>rw[h]at hr; cases hr
      | some _=>rfl
     obtain⟨hi,hkd⟩:=zCT hk;have hl:=hs.len;simp only[List.length_cons]at hp;refine zAM vBC hT uFX zsm ?_;refine sns ?_;refine zAA (zK8 x.split d hs.dec) rfl ?_
     refine gon ?_ ?_<;>intro h
     .have i0:i=0:=by
       have h0:vCD x 0=d:=by simp[vCD,h]
       rw[zIJ zom h0]at hk;exact(rDM hk).symm
      subst i0;refine zKB 0 rfl zom ?_;refine sns ?_;refine zB2 (l':=p) zsm ?_;refine sns ?_;refine zAA (ih x.kids[0]! (hs.kid (zAX hi)) zom hr' (fun d h=>hd d (by simp[h]))) rfl ?_;refine sns ?_;refine zKB 0 rfl zom ?_;refine sns ?_
      have e1:(x.kids.map vBF).set 0 (vA7 (vFK w x.kids[0]! p))=(x.kids.set 0 (vFK w x.kids[0]! p)).map vBF:=by
       rw[rF2,zBQ]
      refine zAB (zBZ (zAD rfl (zAD rfl (zAD rfl (zAD rfl (zAD rfl (zAD rfl (zAD (zAI rfl e1 zsm (fun x=>zF4 x)) rfl)))))))) ?_;have h1:vFK w x (d::p)=vB0 x 0 (vFK w x.kids[0]! p):=by simp only[vFK,hk]
      rw[h1]; rfl
     .have i1:i=1:=by
       unfold vCD at hkd
       split at hkd
       .assumption
       .exact absurd hkd h
      subst i1;refine zBJ ⟨zom,rAG⟩ ?_;refine sns ?_;refine zKB 1 rfl zom ?_;refine sns ?_;refine zB2 (l':=p) zsm ?_;refine sns ?_;refine zAA (ih x.kids[1]! (hs.kid (zAX hi)) zom hr' (fun d h=>hd d (by simp[h]))) rfl ?_;refine sns ?_;refine zKB 1 rfl zom ?_;refine sns ?_
      have e1:(x.kids.map vBF).set 1 (vA7 (vFK w x.kids[1]! p))=(x.kids.set 1 (vFK w x.kids[1]! p)).map vBF:=by
       rw[rF2,zBQ]
      refine zAB (zBZ (zAD rfl (zAD rfl (zAD rfl (zAD rfl (zAD rfl (zAD rfl (zAD (zAI rfl e1 zsm (fun x=>zF4 x)) rfl)))))))) ?_;have h1:vFK w x (d::p)=vB0 x 1 (vFK w x.kids[1]! p):=by simp only[vFK,hk]
      rw[h1]; rfl
theorem vMF{w:NodeL}:∀ {path:List DecL} {x k:NodeL},vCO w x path=some k->vFK w x path=k
 | [],x,k,h=>by simp only[vCO,rBU]at h; simp only[vFK]; exact h
 | d :: p,x,k,h=>by
   simp only[vCO]at h;simp only[vFK];cases hk:vBX x d with
   | none=>rw[hk]at h; cases h
   | some i =>
     rw[hk]at h;simp only[rBI]at h;obtain⟨k',h1,h2⟩:=h;dsimp only;rw[vMF h1]; exact h2
theorem vUZ{x k:NodeL}{i:Nat}(hx:x.Sm)(hk:k.Sm):(vB0 x i k).Sm:=by
 refine .mk _ hx.lems hx.dec (by simp only[vB0,NodeL.kids,rE1]; exact hx.len) (fun z hz=>?_) hx.prf;simp only[vB0,NodeL.kids]at hz;rcases rCU hz with h | h
 .exact hx.kid h
 .subst h; exact hk
theorem vME{w:NodeL}(hw:w.Sm):∀ {path:List DecL} {x:NodeL},x.Sm->(vCO w x path).isSome->(vFK w x path).Sm
 | [],x,_,_=>hw
 | d :: p,x,hx,h=>by
   simp only[vCO]at h;simp only[vFK];cases hk:vBX x d with
   | none=>rw[hk]at h; cases h
   | some i =>
     rw[hk]at h;refine vUZ hx (vME hw (hx.kid (zAX (zCT hk).1)) ?_);dsimp only at h;cases hr:vCO w x.kids[i]! p with
     | none=>rw[hr]at h; cases h
     | some _=>rfl
def vE9(w x:NodeL)(path:List DecL):NodeL×Int :=
 if x.valid && w.valid then(match vCO w x path with
  | some k=>if k.valid then(k,0) else(vC8,8)
  | none=>(vC8,10)) else(vC8,1)
theorem vMW:FO 72 Tryz.f72 [.cell 6 32,.tmp 7] 34:=mkO Tryz.func72 Tryz.ntmps72 Tryz.results72
theorem vS4(w x:NodeL)(path:List DecL)(hs:x.Sm)(hw:w.Sm)(hp:path.length<2097152):Fn 72 [vA7 x,.imm (path.map vA9),vA7 w] (.data (.tup [vA7 (vE9 w x path).1,.int .i64 (vE9 w x path).2])):=by
 refine zAM vBC hT vMW zsm ?_;refine sns ?_;refine zAA (zMH x hs) rfl ?_
 refine gon ?_ ?_<;>intro h
 .refine zAA (zMH w hw) rfl ?_
  refine gon ?_ ?_<;>intro h
  .have hx:=h
   have hxv:x.valid=true:=by assumption
   refine zAA (vZQ w path x hs hp) rfl ?_;cases hr:vCO w x path with
   | none =>
     refine sns ?_;have:vE9 w x path=(vC8,10):=by simp[vE9,hxv,hx,hr]
     rw[this]; exact rGX
   | some k =>
     have hk:=vMF hr;have hsm:k.Sm:=by rw[<- hk]; exact vME hw hs (by rw[hr]; rfl)
     rw[hk];refine sns ?_;refine zAA (zMH k hsm) rfl ?_
     refine gon ?_ ?_<;>intro h
     .have:vE9 w x path=(k,0):=by simp[vE9,hxv,hx,hr,h]
      rw[this]; exact rGX
     .have:vE9 w x path=(vC8,8):=by simp[vE9,hxv,hx,hr,h]
      rw[this]; exact rGX
  .have hxv:x.valid=true:=by assumption
   have:vE9 w x path=(vC8,1):=by simp[vE9,hxv,h]
   rw[this]; exact rGX
 .have:vE9 w x path=(vC8,1):=by simp[vE9,h]
  rw[this]; exact rGX
theorem vV7{d:DecL}(h1:1<=d.kind)(h2:d.kind<=4):opp d≠d:=by
 intro h;have:=rA3 DecL.kind h;simp only[opp,uLK]at this
 split at this
 .omega
 .split at this
  .omega
  .split at this
   .omega
   .split at this<;>omega
theorem zKT(l:List (List DecL×NodeL))(e d:DecL)(p:List DecL):((l.map fun q=>(e::q.1,q.2)).find? fun q=>q.1=d::p).map (·.2)=if e=d then(l.find? fun q=>q.1=p).map (·.2) else none:=by
 induction l with
 | nil=>simp
 | cons a l ih =>
   rw[rBJ,List.find?_cons,List.find?_cons];by_cases he:e=d
   .subst he
    rw[rAV rfl]at ih ⊢;by_cases ha:a.1=p
    .simp[ha]
    .simp only[rE2,rEG,ha,rC7]
     simpa using ih
   .rw[rAN he]at ih ⊢
    simp only[rE2,he,rEZ,rC7]
    simpa [he]using ih
theorem uK4:∀ (path:List DecL) (d:Nat) (x:NodeL),vBH d x=true->(x.all.find? fun q=>q.1=path).map (·.2)=atF x path:=by
 intro path
 induction path with
 | nil =>
   intro d x _;rw[x.all_eq,NodeL.upto,List.find?_cons];simp[atF]
 | cons e p ih =>
   intro d x hx;by_cases hk:x.kids.length=0
   .rw[x.all_eq,hk,x.upto_zero]
    have:vBX x e=none:=by unfold vBX; rw[hk]; rfl
    simp[atF,this]
   .have hin:=zA2 (d:=d) hk
    rw[hx]at hin;have hin:=hin.symm;simp only[rAQ,rAX]at hin
    have h2:x.kids.length=2/\1<=x.split.kind/\x.split.kind<=4:=by
     have:=hin.1.1;simp only[vBV,rAX]at this;exact⟨this.1,this.2.1,this.2.2.1⟩
    obtain⟨h2,h3,h4⟩:=h2;have hf:=zCO (d:=d) h2;rw[hx]at hf;have hf:=hf.symm;simp only[rAQ]at hf;have hne:=vV7 h3 h4;rw[x.all_eq,h2,x.upto_succ zom,x.upto_succ zom,x.upto_zero,List.find?_append,List.find?_append];have i0:=ih (d - 1) x.kids[0]! hf.2.1;have i1:=ih (d - 1) x.kids[1]! hf.2.2;have f0:=zKT x.kids[0]!.all (vCD x 0) e p;have f1:=zKT x.kids[1]!.all (vCD x 1) e p;have hs:([([],x)]:List (List DecL×NodeL)).find? (fun q=>q.1=e::p)=none:=by simp
    rw[hs,Option.none_or,Option.map_or,f0,f1];have k0:vCD x 0=x.split:=by simp[vCD]
    have k1:vCD x 1=opp x.split:=by simp[vCD]
    by_cases e0:vCD x 0=e
    .rw[rAV e0,i0]
     have e1:¬ vCD x 1=e:=by rw[<- e0,k0,k1]; exact hne
     rw[rAN e1,Option.or_none];simp only[atF,zIJ zom e0]
    .rw[rAN e0,Option.none_or]
     by_cases e1:vCD x 1=e
     .rw[rAV e1,i1]
      have:vBX x e=some 1:=by unfold vBX; rw[h2]; simp[rE0,e0,e1]
      simp only[atF,this]
     .rw[rAN e1]
      have:vBX x e=none:=by unfold vBX; rw[h2]; simp[rE0,e0,e1]
      simp only[atF,this]
theorem uQF(x:NodeL)(path:List DecL):atL x path=atV x path:=by
 unfold atL atV vBZ
 split
 .rename_i h
  simp only[NodeL.valid,rAQ]at h;exact uK4 path 2048 x h.1
 .rfl
theorem vN7(w:NodeL):∀ (path:List DecL) (x:NodeL),(atF x path).isSome=(vCO w x path).isSome
 | [],x=>rfl
 | d::p,x=>by
   simp only[atF,vCO];cases vBX x d with
   | none=>rfl
   | some i=>simp only[Option.isSome_map]; exact vN7 w p _
theorem vHM:FO 18 Tryz.f18 [.cell 6 32,.tmp 7] 38:=mkO Tryz.func18 Tryz.ntmps18 Tryz.results18
theorem vLB(w x:NodeL)(path:List DecL)(hs:x.Sm)(hw:w.Sm)(hwt:x.wt<2097151)(hp:vON path):Fn 18 [vA7 x,.imm (path.map vA9),vA7 w] (.data (.tup [vA7 (vE9 w x path).1,.int .i64 (vE9 w x path).2])):=by
 refine zAM vBC hT vHM zsm ?_;refine sns ?_;refine zAA (zFA x hs) rfl ?_
 refine gon ?_ ?_<;>intro h
 .refine zAA (zFA w hw) rfl ?_
  refine gon ?_ ?_<;>intro h
  .have hx:=h
   have hxv:x.valid=true:=by assumption
   refine zAA (uKR x path hs hwt hp) rfl ?_;have hat:(atL x path).isSome=(vCO w x path).isSome:=by rw[uQF,atV,hxv,rAV rfl]; exact vN7 w path x
   cases hr:vCO w x path with
   | none =>
     rw[hr]at hat;rw[hat];refine sns ?_;have:vE9 w x path=(vC8,10):=by simp[vE9,hxv,hx,hr]
     rw[this]; exact rGX
   | some k =>
     rw[hr]at hat;rw[hat];have hk:=vMF hr;have hsm:k.Sm:=by rw[<- hk]; exact vME hw hs (by rw[hr]; rfl)
     have hput:=uP2 w path x hs hp.1 (by rw[hr]; rfl) hp.2;rw[hk]at hput;refine sns ?_;refine zAA hput rfl ?_;refine sns ?_;refine zAA (zFA k hsm) rfl ?_
     refine gon ?_ ?_<;>intro h
     .have:vE9 w x path=(k,0):=by simp[vE9,hxv,hx,hr,h]
      rw[this]; exact rGX
     .have:vE9 w x path=(vC8,8):=by simp[vE9,hxv,hx,hr,h]
      rw[this]; exact rGX
  .have hxv:x.valid=true:=by assumption
   have:vE9 w x path=(vC8,1):=by simp[vE9,hxv,h]
   rw[this]; exact rGX
 .have:vE9 w x path=(vC8,1):=by simp[vE9,h]
  rw[this]; exact rGX
end Go.PI.Tryz
