/-
  The node with a path; a node replaced; the scope of a node.
-/
import Derived.Test.YtbelmkceegmdjaaGreatDoorJNA
set_option linter.unusedVariables false
set_option linter.unusedSimpArgs false
set_option linter.unnecessarySimpa false
set_option maxHeartbeats 0
namespace Go.PI.Tryz
open Go.Proofs Go.PI
theorem uCW:FO 141 Tryz.f141 [.tmp 4] 26:=mkO Tryz.func141 Tryz.ntmps141 Tryz.results141
theorem vZU(xs ys:List Int)(h1:xs.length<2097152):Fn 141 [vBK xs,vBK ys] (.data (.bool (decide (xs=ys)))):=by
 refine zAK vBC hT uCW zsm ?_
 refine gon ?_ ?_<;>intro h
 .refine zAB rfl ?_
  simp; intro e; subst e; exact h rfl
 .
  refine zA4 hT (fun i:Nat=>[(0,vBK xs),(1,vBK ys),(12,.int .i64 xs.length),(13,.int .i64 i)]) (fun i=>i<=xs.length/\∀ j,j<i->xs[j]! = ys[j]!) (fun i=>xs.length - i) 0 zsm ?_ ?_
  .exact⟨rAJ,rAJ,zAC rfl zsm,rAI,rGU⟩
  .intro i ⟨hi1,hi2⟩
   (repeat' (first|refine stn ?_|(with_reducible refine brr ?_ ?_<;>intro h)|(with_reducible refine zAT ?_ ?_<;>intro h)|with_reducible refine zBC ?_ ?_)); all_goals try (conv=>whnf)
   .refine zAB rfl ?_
    simp; intro e; subst e; exact h rfl
   .refine⟨i+1,⟨⟨zom,fun j hj=>?_⟩,zom⟩,rAJ,rAJ,rAI,zAC rfl zom,rGU⟩
    rcases rB7.1 hj with hj | rfl
    .exact hi2 j hj
    .assumption
   .refine zAB rfl ?_
    have:xs=ys:=(zCE zom).2 fun j hj=>hi2 j zom
    simp[this]
theorem vR0:FO 91 Tryz.f91 [.tmp 4] 26:=mkO Tryz.func91 Tryz.ntmps91 Tryz.results91
theorem vK2(xs ys:List Int)(h1:xs.length<2097152):Fn 91 [vBK xs,vBK ys] (.data (.bool (decide (xs=ys)))):=by
 refine zAK vBC hT vR0 zsm ?_
 refine gon ?_ ?_<;>intro h
 .refine zAB rfl ?_
  simp; intro e; subst e; exact h rfl
 .
  refine zA4 hT (fun i:Nat=>[(0,vBK xs),(1,vBK ys),(5,.int .i64 i)]) (fun i=>i<=xs.length/\∀ j,j<i->xs[j]! = ys[j]!) (fun i=>xs.length - i) 0 zsm ?_ ?_
  .exact⟨rAJ,rAJ,rAI,rGU⟩
  .intro i ⟨hi1,hi2⟩
   (repeat' (first|refine stn ?_|(with_reducible refine brr ?_ ?_<;>intro h)|(with_reducible refine zAT ?_ ?_<;>intro h)|with_reducible refine zBC ?_ ?_)); all_goals try (conv=>whnf)
   .refine zAB rfl ?_
    simp; intro e; subst e; exact h rfl
   .refine⟨i+1,⟨⟨zom,fun j hj=>?_⟩,zom⟩,rAJ,rAJ,zAC rfl zom,rGU⟩
    rcases rB7.1 hj with hj | rfl
    .exact hi2 j hj
    .assumption
   .refine zAB rfl ?_
    have:xs=ys:=(zCE zom).2 fun j hj=>hi2 j zom
    simp[this]
theorem uMC:FO 110 Tryz.f110 [.tmp 4] 24:=mkO Tryz.func110 Tryz.ntmps110 Tryz.results110
theorem uKD(x y:RatL)(h1:x.sm):Fn 110 [vA5 x,vA5 y] (.data (.bool (decide (x=y)))):=by
 refine zAK vBC hT uMC zsm ?_
 refine gon ?_ ?_<;>intro h
 .refine zAA (vZU _ _ h1.1) rfl ?_
  refine gon ?_ ?_<;>intro h
  .refine zAA (vZU _ _ h1.2) rfl ?_
   refine sns ?_;refine zAB rfl ?_;cases x; cases y; simp_all
  .refine zAB rfl ?_
   cases x; cases y; simp_all
 .refine zAB rfl ?_
  cases x; cases y; simp_all
theorem uHW:FO 51 Tryz.f51 [.tmp 4] 24:=mkO Tryz.func51 Tryz.ntmps51 Tryz.results51
theorem vY7(x y:RatL)(h1:x.sm):Fn 51 [vA5 x,vA5 y] (.data (.bool (decide (x=y)))):=by
 refine zAK vBC hT uHW zsm ?_
 refine gon ?_ ?_<;>intro h
 .refine zAA (vK2 _ _ h1.1) rfl ?_
  refine gon ?_ ?_<;>intro h
  .refine zAA (vK2 _ _ h1.2) rfl ?_
   refine sns ?_;refine zAB rfl ?_;cases x; cases y; simp_all
  .refine zAB rfl ?_
   cases x; cases y; simp_all
 .refine zAB rfl ?_
  cases x; cases y; simp_all
theorem uMK:FO 77 Tryz.f77 [.tmp 4] 24:=mkO Tryz.func77 Tryz.ntmps77 Tryz.results77
theorem uKK(x y:DecL)(h1:x.sm):Fn 77 [vA9 x,vA9 y] (.data (.bool (decide (x=y)))):=by
 refine zAK vBC hT uMK zsm ?_
 (repeat' (first|refine stn ?_|(with_reducible refine brr ?_ ?_<;>intro h)|(with_reducible refine zAT ?_ ?_<;>intro h)|with_reducible refine zBC ?_ ?_)); all_goals try (conv=>whnf)
 .refine zAA (uKD x.rat y.rat h1) rfl ?_
  refine sns ?_;refine zAB rfl ?_;cases x; cases y; simp_all
 .refine zAB rfl ?_
  cases x; cases y; simp_all
 .refine zAB rfl ?_
  cases x; cases y; simp_all
theorem vR1:FO 31 Tryz.f31 [.tmp 4] 24:=mkO Tryz.func31 Tryz.ntmps31 Tryz.results31
theorem zKV(x y:DecL)(h1:x.sm):Fn 31 [vA9 x,vA9 y] (.data (.bool (decide (x=y)))):=by
 refine zAK vBC hT vR1 zsm ?_
 (repeat' (first|refine stn ?_|(with_reducible refine brr ?_ ?_<;>intro h)|(with_reducible refine zAT ?_ ?_<;>intro h)|with_reducible refine zBC ?_ ?_)); all_goals try (conv=>whnf)
 .refine zAA (vY7 x.rat y.rat h1) rfl ?_
  refine sns ?_;refine zAB rfl ?_;cases x; cases y; simp_all
 .refine zAB rfl ?_
  cases x; cases y; simp_all
 .refine zAB rfl ?_
  cases x; cases y; simp_all
theorem uID:FO 112 Tryz.f112 [.tmp 4] 17:=mkO Tryz.func112 Tryz.ntmps112 Tryz.results112
theorem uNN(x y:MultL)(h1:x.sm):Fn 112 [vBA x,vBA y] (.data (.bool (decide (x=y)))):=by
 refine zAK vBC hT uID zsm ?_
 refine gon ?_ ?_<;>intro h
 .refine zAA (uKD x.coef y.coef h1) rfl ?_
  refine sns ?_;refine zAB rfl ?_;obtain⟨⟨_,_,_,_⟩,_⟩:=x; obtain⟨⟨_,_,_,_⟩,_⟩:=y; simp_all
 .refine zAB rfl ?_
  simp only[PV.bool.injEq];refine(rBA fun e=>?_).symm;subst e; simp at h
theorem vSJ:FO 111 Tryz.f111 [.tmp 6] 32:=mkO Tryz.func111 Tryz.ntmps111 Tryz.results111
theorem vZT(xs ys:List MultL)(h1:vCK xs):Fn 111 [.imm (xs.map vBA),.imm (ys.map vBA),.func (.func 112) [] []] (.data (.bool (decide (xs=ys)))):=by
 have hl:=h1.1;refine zAK vBC hT vSJ zsm ?_
 refine gon ?_ ?_<;>intro h
 .refine zAB rfl ?_
  simp; intro e; subst e; exact h rfl
 .refine zA4 hT (fun i:Nat=>[(1,.imm (ys.map vBA)),(2,.func (.func 112) [] []),(15,.imm (xs.map vBA)),(16,.int .i64 xs.length),(17,.int .i64 i)]) (fun i=>i<=xs.length/\∀ j,j<i->xs[j]! = ys[j]!) (fun i=>xs.length - i) 0 zsm ?_ ?_
  .exact⟨rAJ,zHX rfl,rAJ,zAC rfl zsm,rAI,rGU⟩
  .intro i ⟨hi1,hi2⟩
   refine gon ?_ ?_<;>intro h
   .have hi:i<xs.length:=by omega
    refine zAA (uNN xs[i]! ys[i]! (h1.2 _ (zAY hi))) rfl ?_
    refine gon ?_ ?_<;>intro h
    .refine⟨i+1,⟨⟨zom,fun j hj=>?_⟩,zom⟩,rAJ,zHX rfl,rAJ,rAI,zAC rfl zom,rGU⟩
     rcases rB7.1 hj with hj | rfl
     .exact hi2 j hj
     .assumption
    .refine zAB rfl ?_
     simp; intro e; subst e; exact h rfl
   .refine zAB rfl ?_
    have:xs=ys:=(zCE zom).2 fun j hj=>hi2 j zom
    simp[this]
theorem uCI:FO 78 Tryz.f78 [.tmp 4] 8:=mkO Tryz.func78 Tryz.ntmps78 Tryz.results78
theorem vZL(xs ys:List MultL)(h1:vCK xs):Fn 78 [.imm (xs.map vBA),.imm (ys.map vBA)] (.data (.bool (decide (xs=ys)))):=by
 refine zAK vBC hT uCI zsm ?_;refine sns ?_;refine zAA (vZT xs ys h1) rfl ?_;refine sns ?_;exact rGV
theorem vJS:FO 33 Tryz.f33 [.tmp 4] 42:=mkO Tryz.func33 Tryz.ntmps33 Tryz.results33
theorem zOS(xs ys:List MultL)(h1:vCK xs):Fn 33 [.imm (xs.map vBA),.imm (ys.map vBA)] (.data (.bool (decide (xs=ys)))):=by
 have hl:=h1.1;refine zAK vBC hT vJS zsm ?_
 refine gon ?_ ?_<;>intro h
 .refine zAB rfl ?_
  simp; intro e; subst e; exact h rfl
 .refine zA4 hT (fun i:Nat=>[(0,.imm (xs.map vBA)),(1,.imm (ys.map vBA)),(5,.int .i64 i)]) (fun i=>i<=xs.length/\∀ j,j<i->xs[j]! = ys[j]!) (fun i=>xs.length - i) 0 zsm ?_ ?_
  .exact⟨rAJ,rAJ,rAI,rGU⟩
  .intro i ⟨hi1,hi2⟩
   (repeat' (first|refine stn ?_|(with_reducible refine brr ?_ ?_<;>intro h)|(with_reducible refine zAT ?_ ?_<;>intro h)|with_reducible refine zBC ?_ ?_)); all_goals try (conv=>whnf)
   .have hi:i<xs.length:=by omega
    have hr:=h;refine zAA (vY7 _ ys[i]!.coef (h1.2 _ (zAY hi))) rfl ?_
    refine gon ?_ ?_<;>intro h
    .refine⟨i+1,⟨⟨zom,fun j hj=>?_⟩,zom⟩,rAJ,rAJ,zAC rfl zom,rGU⟩
     rcases rB7.1 hj with hj | rfl
     .exact hi2 j hj
     .exact uC8 hr rAC
    .refine zAB rfl ?_; simp only[PV.bool.injEq]; refine(rBA fun e=>?_).symm; subst e; first | exact h rfl | simp at h | simp_all
   .refine zAB rfl ?_; simp only[PV.bool.injEq]; refine(rBA fun e=>?_).symm; subst e; first | exact h rfl | simp at h | simp_all
   .refine zAB rfl ?_
    have:xs=ys:=(zCE zom).2 fun j hj=>hi2 j zom
    simp[this]
theorem uMF:FO 80 Tryz.f80 [.tmp 4] 31:=mkO Tryz.func80 Tryz.ntmps80 Tryz.results80
theorem uPR(x y:LemL)(h1:x.sm):Fn 80 [vBB x,vBB y] (.data (.bool (decide (x=y)))):=by
 refine zAK vBC hT uMF zsm ?_
 (repeat' (first|refine stn ?_|(with_reducible refine brr ?_ ?_<;>intro h)|(with_reducible refine zAT ?_ ?_<;>intro h)|with_reducible refine zBC ?_ ?_)); all_goals try (conv=>whnf)
 .refine zAA (uKD x.value y.value h1.1) rfl ?_
  refine gon ?_ ?_<;>intro h
  .refine zAA (vZL x.proof y.proof h1.2) rfl ?_
   refine sns ?_;refine zAB rfl ?_;simp only[PV.bool.injEq,rCW];exact⟨fun e=>vXW rAC rAC rAC e,fun e=>by rw[e]⟩
  .refine zAB rfl ?_; simp only[PV.bool.injEq]; refine(rBA fun e=>?_).symm; subst e; first | exact h rfl | simp at h | simp_all
 .refine zAB rfl ?_; simp only[PV.bool.injEq]; refine(rBA fun e=>?_).symm; subst e; first | exact h rfl | simp at h | simp_all
 .refine zAB rfl ?_; simp only[PV.bool.injEq]; refine(rBA fun e=>?_).symm; subst e; first | exact h rfl | simp at h | simp_all
theorem vW9:FO 79 Tryz.f79 [.tmp 6] 32:=mkO Tryz.func79 Tryz.ntmps79 Tryz.results79
theorem uEN(xs ys:List LemL)(h1:vI9 xs):Fn 79 [.imm (xs.map vBB),.imm (ys.map vBB),.func (.func 80) [] []] (.data (.bool (decide (xs=ys)))):=by
 have hl:=h1.1;refine zAK vBC hT vW9 zsm ?_
 refine gon ?_ ?_<;>intro h
 .refine zAB rfl ?_
  simp; intro e; subst e; exact h rfl
 .refine zA4 hT (fun i:Nat=>[(1,.imm (ys.map vBB)),(2,.func (.func 80) [] []),(15,.imm (xs.map vBB)),(16,.int .i64 xs.length),(17,.int .i64 i)]) (fun i=>i<=xs.length/\∀ j,j<i->xs[j]! = ys[j]!) (fun i=>xs.length - i) 0 zsm ?_ ?_
  .exact⟨rAJ,zHX rfl,rAJ,zAC rfl zsm,rAI,rGU⟩
  .intro i ⟨hi1,hi2⟩
   refine gon ?_ ?_<;>intro h
   .have hi:i<xs.length:=by omega
    refine zAA (uPR xs[i]! ys[i]! (h1.2 _ (zAY hi))) rfl ?_
    refine gon ?_ ?_<;>intro h
    .refine⟨i+1,⟨⟨zom,fun j hj=>?_⟩,zom⟩,rAJ,zHX rfl,rAJ,rAI,zAC rfl zom,rGU⟩
     rcases rB7.1 hj with hj | rfl
     .exact hi2 j hj
     .assumption
    .refine zAB rfl ?_
     simp; intro e; subst e; exact h rfl
   .refine zAB rfl ?_
    have:xs=ys:=(zCE zom).2 fun j hj=>hi2 j zom
    simp[this]
theorem vMU:FO 32 Tryz.f32 [.tmp 4] 69:=mkO Tryz.func32 Tryz.ntmps32 Tryz.results32
theorem vS3(xs ys:List LemL)(h1:vI9 xs):Fn 32 [.imm (xs.map vBB),.imm (ys.map vBB)] (.data (.bool (decide (xs=ys)))):=by
 have hl:=h1.1;refine zAK vBC hT vMU zsm ?_
 refine gon ?_ ?_<;>intro h
 .refine zAB rfl ?_
  simp; intro e; subst e; exact h rfl
 .refine zA4 hT (fun i:Nat=>[(0,.imm (xs.map vBB)),(1,.imm (ys.map vBB)),(5,.int .i64 i)]) (fun i=>i<=xs.length/\∀ j,j<i->xs[j]! = ys[j]!) (fun i=>xs.length - i) 0 zsm ?_ ?_
  .exact⟨rAJ,rAJ,rAI,rGU⟩
  .intro i ⟨hi1,hi2⟩
   (repeat' (first|refine stn ?_|(with_reducible refine brr ?_ ?_<;>intro h)|(with_reducible refine zAT ?_ ?_<;>intro h)|with_reducible refine zBC ?_ ?_)); all_goals try (conv=>whnf)
   .refine zAB rfl ?_; simp only[PV.bool.injEq]; refine(rBA fun e=>?_).symm; subst e; first | exact h rfl | simp at h | simp_all
   .refine zAB rfl ?_; simp only[PV.bool.injEq]; refine(rBA fun e=>?_).symm; subst e; first | exact h rfl | simp at h | simp_all
   .have hi:i<xs.length:=by omega
    refine zAA (vY7 _ ys[i]!.value (h1.2 _ (zAY hi)).1) rfl ?_
    refine gon ?_ ?_<;>intro h
    .refine zAA (zOS _ ys[i]!.proof (h1.2 _ (zAY hi)).2) rfl ?_
     refine gon ?_ ?_<;>intro h
     .refine⟨i+1,⟨⟨zom,fun j hj=>?_⟩,zom⟩,rAJ,rAJ,zAC rfl zom,rGU⟩
      rcases rB7.1 hj with hj | rfl
      .exact hi2 j hj
      .exact vXW rAC rAC rAC rAC
     .refine zAB rfl ?_; simp only[PV.bool.injEq]; refine(rBA fun e=>?_).symm; subst e; first | exact h rfl | simp at h | simp_all
    .refine zAB rfl ?_; simp only[PV.bool.injEq]; refine(rBA fun e=>?_).symm; subst e; first | exact h rfl | simp at h | simp_all
   .refine zAB rfl ?_
    have:xs=ys:=(zCE zom).2 fun j hj=>hi2 j zom
    simp[this]
theorem vMT:FO 76 Tryz.f76 [.tmp 4] 27:=mkO Tryz.func76 Tryz.ntmps76 Tryz.results76
theorem vS2(xs ys:List DecL)(h1:vOH xs):Fn 76 [.imm (xs.map vA9),.imm (ys.map vA9)] (.data (.bool (decide (xs=ys)))):=by
 have hl:=h1.1;refine zAK vBC hT vMT zsm ?_
 refine gon ?_ ?_<;>intro h
 .refine zAB rfl ?_
  simp; intro e; subst e; exact h rfl
 .refine zA4 hT (fun i:Nat=>[(0,.imm (xs.map vA9)),(1,.imm (ys.map vA9)),(5,.int .i64 i)]) (fun i=>i<=xs.length/\∀ j,j<i->xs[j]! = ys[j]!) (fun i=>xs.length - i) 0 zsm ?_ ?_
  .exact⟨rAJ,rAJ,rAI,rGU⟩
  .intro i ⟨hi1,hi2⟩
   refine gon ?_ ?_<;>intro h
   .have hi:i<xs.length:=by omega
    refine zAA (zKV _ ys[i]! (h1.2 _ (zAY hi))) rfl ?_
    refine gon ?_ ?_<;>intro h
    .refine⟨i+1,⟨⟨zom,fun j hj=>?_⟩,zom⟩,rAJ,rAJ,zAC rfl zom,rGU⟩
     rcases rB7.1 hj with hj | rfl
     .exact hi2 j hj
     .assumption
    .refine zAB rfl ?_; simp only[PV.bool.injEq]; refine(rBA fun e=>?_).symm; subst e; first | exact h rfl | simp at h | simp_all
   .refine zAB rfl ?_
    have:xs=ys:=(zCE zom).2 fun j hj=>hi2 j zom
    simp[this]
theorem uCV:FO 43 Tryz.f43 [.tmp 4] 38:=mkO Tryz.func43 Tryz.ntmps43 Tryz.results43
theorem vSI:FO 81 Tryz.f81 [.tmp 6] 32:=mkO Tryz.func81 Tryz.ntmps81 Tryz.results81
theorem vZS(xs ys:List NodeL)(hl:xs.length<2097152)(hc:∀ x∈xs,∀ y,Fn 43 [vA6 x,vA6 y] (.data (.bool (decide (x=y))))):Fn 81 [.imm (xs.map vBF),.imm (ys.map vBF),.func (.func 43) [] []] (.data (.bool (decide (xs=ys)))):=by
 refine zAK vBC hT vSI zsm ?_
 refine gon ?_ ?_<;>intro h
 .refine zAB rfl ?_
  simp; intro e; subst e; exact h rfl
 .refine zA4 hT (fun i:Nat=>[(1,.imm (ys.map vBF)),(2,.func (.func 43) [] []),(15,.imm (xs.map vBF)),(16,.int .i64 xs.length),(17,.int .i64 i)]) (fun i=>i<=xs.length/\∀ j,j<i->xs[j]! = ys[j]!) (fun i=>xs.length - i) 0 zsm ?_ ?_
  .exact⟨rAJ,zHX rfl,rAJ,zAC rfl zsm,rAI,rGU⟩
  .intro i ⟨hi1,hi2⟩
   refine gon ?_ ?_<;>intro h
   .have hi:i<xs.length:=by omega
    refine zAA (hc xs[i]! (zAY hi) ys[i]!) rfl ?_
    refine gon ?_ ?_<;>intro h
    .refine⟨i+1,⟨⟨zom,fun j hj=>?_⟩,zom⟩,rAJ,zHX rfl,rAJ,rAI,zAC rfl zom,rGU⟩
     rcases rB7.1 hj with hj | rfl
     .exact hi2 j hj
     .assumption
    .refine zAB rfl ?_
     simp; intro e; subst e; exact h rfl
   .refine zAB rfl ?_
    have:xs=ys:=(zCE zom).2 fun j hj=>hi2 j zom
    simp[this]
theorem vZR:∀ (n:Nat) (x y:NodeL),SizeOf.sizeOf x<n->x.Sm->Fn 43 [vA6 x,vA6 y] (.data (.bool (decide (x=y)))):=by
 intro n
 induction n with
 | zero=>intro x y h; omega
 | succ n ih =>
   intro x y hx hs;refine zAK vBC hT uCV zsm ?_
   refine gon ?_ ?_<;>intro h
   .have e1:=h
    refine zAA (uKK x.split y.split hs.dec) rfl ?_
    refine gon ?_ ?_<;>intro h
    .have e2:=h
     refine zAA (vZL x.proof y.proof hs.prf) rfl ?_
     refine gon ?_ ?_<;>intro h
     .have e3:=h
      refine zAA (uEN x.lemmas y.lemmas hs.lems) rfl ?_
      refine gon ?_ ?_<;>intro h
      .have e4:=h
       refine zAA (vZS x.kids y.kids hs.len (fun k hk z=>ih k z (by have:=NodeL.sizeOf_kid hk; omega) (hs.kid hk))) rfl ?_;refine sns ?_;refine zAB rfl ?_;simp only[PV.bool.injEq,rCW];exact⟨fun e=>vPI e4 e2 e e1 e3,fun e=>by rw[e]⟩
      .refine zAB rfl ?_; simp only[PV.bool.injEq]; refine(rBA fun e=>?_).symm; subst e; first | exact h rfl | simp at h | simp_all
     .refine zAB rfl ?_; simp only[PV.bool.injEq]; refine(rBA fun e=>?_).symm; subst e; first | exact h rfl | simp at h | simp_all
    .refine zAB rfl ?_; simp only[PV.bool.injEq]; refine(rBA fun e=>?_).symm; subst e; first | exact h rfl | simp at h | simp_all
   .refine zAB rfl ?_; simp only[PV.bool.injEq]; refine(rBA fun e=>?_).symm; subst e; first | exact h rfl | simp at h | simp_all
theorem vMX:FO 12 Tryz.f12 [.tmp 4] 63:=mkO Tryz.func12 Tryz.ntmps12 Tryz.results12
theorem zGU:∀ (n:Nat) (x y:NodeL),SizeOf.sizeOf x<n->x.Sm->Fn 12 [vA6 x,vA6 y] (.data (.bool (decide (x=y)))):=by
 intro n
 induction n with
 | zero=>intro x y h; omega
 | succ n ih =>
   intro x y hx hs;have hl:=hs.len;refine zAK vBC hT vMX zsm ?_
   refine gon ?_ ?_<;>intro h
   .refine zAB rfl ?_; simp only[PV.bool.injEq]; refine(rBA fun e=>?_).symm; subst e; first | exact h rfl | simp at h | simp_all
   .have e1:=h
    refine zAA (zKV x.split y.split hs.dec) rfl ?_
    refine gon ?_ ?_<;>intro h
    .have e2:=h
     refine zAA (vS3 x.lemmas y.lemmas hs.lems) rfl ?_
     refine gon ?_ ?_<;>intro h
     .have e3:=h
      refine zAA (zOS x.proof y.proof hs.prf) rfl ?_
      (repeat' (first|refine stn ?_|(with_reducible refine brr ?_ ?_<;>intro h)|(with_reducible refine zAT ?_ ?_<;>intro h)|with_reducible refine zBC ?_ ?_)); all_goals try (conv=>whnf)
      .refine zAB rfl ?_; simp only[PV.bool.injEq]; refine(rBA fun e=>?_).symm; subst e; first | exact h rfl | simp at h | simp_all
      .have e4:=h
       refine zC8 hT (fun i:Nat=>[(2,.ptr 0 0 0),(3,.ptr 1 0 0),(5,.int .i64 i)]) (fun _=>[(0,⟨[vA6 x],9,true⟩),(1,⟨[vA6 y],9,true⟩)]) [] 2 (fun i=>i<=x.kids.length/\∀ j,j<i->x.kids[j]! = y.kids[j]!) (fun i=>x.kids.length - i) 0 zsm zdd zsm
        [0,1] ⟨apx,apx,rAI,rGU⟩ ⟨bbx,bbx,rGU⟩ rAA ?_
       intro i ⟨hi1,hi2⟩
       refine gon ?_ ?_<;>intro h
       .have hi:i<x.kids.length:=by omega
        refine zAA (ih x.kids[i]! y.kids[i]! (by have:=NodeL.sizeOf_kid (zAY hi); omega) (hs.kid (zAY hi))) rfl ?_
        refine gon ?_ ?_<;>intro h
        .refine⟨i+1,[0,1],⟨⟨zom,fun j hj=>?_⟩,zom⟩,⟨apx,apx,zAC rfl zom,rGU⟩,⟨bbx,bbx,rGU⟩,rAA⟩
         rcases rB7.1 hj with hj | rfl
         .exact hi2 j hj
         .assumption
        .refine zAB rfl ?_; simp only[PV.bool.injEq]; refine(rBA fun e=>?_).symm; subst e; first | exact h rfl | simp at h | simp_all
       .refine zAB rfl ?_
        have:x.kids=y.kids:=(zCE zom).2 fun j hj=>hi2 j zom
        simp only[PV.bool.injEq];exact(rB1 (vPI e3 e2 this e1 rAC)).symm
      .refine zAB rfl ?_; simp only[PV.bool.injEq]; refine(rBA fun e=>?_).symm; subst e; first | exact h rfl | simp at h | simp_all
     .refine zAB rfl ?_; simp only[PV.bool.injEq]; refine(rBA fun e=>?_).symm; subst e; first | exact h rfl | simp at h | simp_all
    .refine zAB rfl ?_; simp only[PV.bool.injEq]; refine(rBA fun e=>?_).symm; subst e; first | exact h rfl | simp at h | simp_all
def lsz(most:Int)(n:NodeL):Int:=(n.kids.attach.map fun⟨k,_⟩=>lsz most k).foldl (fun k c=>if k<=most then k+c else k) (1+n.lemmas.length+n.proof.length+((n.lemmas.map fun x=>x.proof.length).sum:Nat))
termination_by SizeOf.sizeOf n
decreasing_by exact NodeL.sizeOf_kid ‹_›
theorem vPM(most:Int)(n:NodeL):lsz most n=(n.kids.map (lsz most)).foldl (fun k c=>if k<=most then k+c else k) (1+n.lemmas.length+n.proof.length+((n.lemmas.map fun x=>x.proof.length).sum:Nat)):=by
 rw[lsz]
 congr 1
 simp
theorem zI4(most:Int)(l:List NodeL)(h:∀ k∈l,1<=lsz most k/\lsz most k<=k.wt):∀ k0:Int,k0<=(l.map (lsz most)).foldl (fun k c=>if k<=most then k+c else k) k0/\(l.map (lsz most)).foldl (fun k c=>if k<=most then k+c else k) k0<=k0+(l.map NodeL.wt).sum:=by
 induction l with
 | nil=>intro k0; simp
 | cons a l ih =>
   intro k0;have h1:=h a zsm;have h2:=ih (fun k hk=>h k (by simp[hk])) (if k0<=most then k0+lsz most a else k0);simp only[rBN,List.foldl_cons,List.sum_cons]
   split at h2<;>rename_i hc
   .rw[rAV hc]; omega
   .rw[rAN hc]; omega
theorem zKA(most:Int):∀ (n:Nat) (x:NodeL),SizeOf.sizeOf x<n->1<=lsz most x/\lsz most x<=x.wt:=by
 intro n
 induction n with
 | zero=>intro x h; omega
 | succ n ih =>
   intro x hx;have h:=zI4 most x.kids (fun k hk=>ih k (by have:=NodeL.sizeOf_kid hk; omega)) (1+x.lemmas.length+x.proof.length+((x.lemmas.map fun x=>x.proof.length).sum:Nat));have hw:=x.wt_eq;have hl:=zKC x.lemmas;rw[vPM];omega
theorem zLV(most:Int)(l:List Int)(k:Int)(h:¬ k<=most):l.foldl (fun k c=>if k<=most then k+c else k) k=k:=by
 induction l with
 | nil=>rfl
 | cons a l ih=>rw[List.foldl_cons,rAN h]; exact ih
theorem vNC(n:NodeL):n.kids.length<n.wt:=by
 rw[n.wt_eq]
 have:∀ l:List NodeL,l.length<=(l.map NodeL.wt).sum:=by
  intro l
  induction l with
  | nil=>simp
  | cons a l ih =>
    simp only[List.length_cons,rBN,List.sum_cons];have:=a.wt_eq;omega
 have:=this n.kids;omega
theorem vYI(most:Int)(l:List NodeL)(h:∀ k∈l,1<=lsz most k):∀ k0:Int,(l.map (lsz most)).foldl (fun k c=>if k<=most then k+c else k) k0<=most->(l.map (lsz most)).foldl (fun k c=>if k<=most then k+c else k) k0=k0+(l.map (lsz most)).sum/\∀ k∈l,lsz most k<=most - k0:=by
 induction l with
 | nil=>intro k0 _; simp
 | cons a l ih =>
   intro k0 hk;simp only[rBN,List.foldl_cons,List.sum_cons]at hk ⊢;have ha:=h a zsm
   have h0:k0<=most:=by
    by_cases h0:k0<=most
    .exact h0
    .rw[rAN h0,zLV most _ _ h0]at hk; exact absurd hk h0
   rw[rAV h0]at hk ⊢;obtain⟨h1,h2⟩:=ih (fun k hk=>h k (by simp[hk])) (k0+lsz most a) hk
   have hb:k0+lsz most a<=most:=by
    by_cases hb:k0+lsz most a<=most
    .exact hb
    .rw[zLV most _ _ hb]at hk; exact absurd hk hb
   refine⟨by rw[h1]; omega,fun k hk=>?_⟩;rcases rA7.1 hk with rfl | hk
   .omega
   .have:=h2 k hk; omega
theorem zJZ:FO 52 Tryz.f52 [.tmp 6,.tmp 7] 84:=mkO Tryz.func52 Tryz.ntmps52 Tryz.results52
def vIK(d m:Int)(x:NodeL)(k:Int)(b:Bool):Prop:=(b=true↔vBG d.toNat x=true/\(x.cnt:Int)<=m)/\(b=true->k=x.cnt)/\0<=k/\k<=max m 0
theorem uJ1:∀ (n:Nat) (x:NodeL) (d m:Int),SizeOf.sizeOf x<n->x.Sm->0<=d->d<=2048->m<=65536->-65536<=m->∃ k b,vIK d m x k b/\Fn 52 [vA6 x,.int .i64 d,.int .i64 m] (.data (.tup [.int .i64 k,.bool b])):=by
 intro n
 induction n with
 | zero=>intro x d m h; omega
 | succ n ih =>
   intro x d m hx hs hd0 hd1 hm hm0;have hno:∀ k,0<=k->k<=max m 0->¬ (vBG d.toNat x=true/\(x.cnt:Int)<=m)->vIK d m x k false:=fun k h1 h2 h=>⟨by simpa using h,zsm,h1,h2⟩
   have hc:=zF3 x;by_cases hm1:m<1
   .refine⟨0,false,hno 0 zom zom zom,?_⟩
    refine zAK vBC hT zJZ zsm ?_
    (repeat' (first|refine stn ?_|(with_reducible refine brr ?_ ?_<;>intro h)|(with_reducible refine zAT ?_ ?_<;>intro h)|with_reducible refine zBC ?_ ?_)); all_goals try (conv=>whnf)
    .exact rGV
    all_goals omega
   .by_cases hk0:x.kids.length=0
    .refine⟨1,vED x,?_,?_⟩
     .have h1:=zBS (d:=d.toNat) hk0
      have h2:=zIH hk0;unfold vIK;rw[h1,h2];refine⟨⟨fun h=>⟨h,zom⟩,fun h=>h.1⟩,fun _=>rfl,zom,zom⟩
     .refine zAK vBC hT zJZ zsm ?_
      (repeat' (first|refine stn ?_|(with_reducible refine brr ?_ ?_<;>intro h)|(with_reducible refine zAT ?_ ?_<;>intro h)|with_reducible refine zBC ?_ ?_)); all_goals try (conv=>whnf)
      .omega
      .refine zAA (uKK x.split ⟨0,0,⟨false,[],[]⟩⟩ hs.dec) rfl ?_
       refine sns ?_;exact rGV
      all_goals omega
    .by_cases hin:vBV x=true/\d≠0
     .obtain⟨hin,hd⟩:=hin
      have hin':=hin;simp only[vBV,rAX]at hin';obtain⟨i1,i2,i3,i4,i5⟩:=hin';have e2:=zCM (d:=d.toNat) i1;have e3:=vH7 i1;have k0:x.kids[0]! ∈ x.kids:=zAY zom;have k1:x.kids[1]! ∈ x.kids:=zAY zom;have ed:(d - 1).toNat=d.toNat - 1:=by omega
      obtain⟨a,ok,⟨a1,a2,a3,a4⟩,ha⟩:=ih x.kids[0]! (d - 1) (m - 1) (by have:=NodeL.sizeOf_kid k0; omega) (hs.kid k0) zom zom zom zom;rw[ed]at a1;rw[hin,rB1 (show d.toNat≠0 by omega),rDQ,rDP]at e2;have hp:=zF3 x.kids[1]!;cases ok with
      | false =>
        refine⟨0,false,hno 0 zom zom (fun h=>?_),?_⟩
        .rw[e2,rAO]at h
         exact absurd (a1.2 ⟨h.1.1,zom⟩) zsm
        .refine zAK vBC hT zJZ zsm ?_
         (repeat' (first|refine stn ?_|(with_reducible refine brr ?_ ?_<;>intro h)|(with_reducible refine zAT ?_ ?_<;>intro h)|with_reducible refine zBC ?_ ?_)); all_goals try (conv=>whnf)
         all_goals try (exfalso; first | omega | simp_all; done)
         refine zAA ha rfl ?_;refine sns ?_;exact rGV
      | true =>
        obtain⟨b,ok,⟨b1,b2,b3,b4⟩,hb⟩:=ih x.kids[1]! (d - 1) (m - 1 - a) (by have:=NodeL.sizeOf_kid k1; omega) (hs.kid k1) zom zom zom zom;rw[ed]at b1;have a2:=a2 rfl;have a1:=a1.1 rfl;refine⟨1+a+b,ok,⟨?_,?_,zom,zom⟩,?_⟩
        .rw[e2,rAO,b1]
         constructor
         .intro h; exact⟨⟨a1.1,h.1⟩,zom⟩
         .intro h; exact⟨h.1.2,zom⟩
        .intro h; have:=b2 h; omega
        .refine zAK vBC hT zJZ zsm ?_
         (repeat' (first|refine stn ?_|(with_reducible refine brr ?_ ?_<;>intro h)|(with_reducible refine zAT ?_ ?_<;>intro h)|with_reducible refine zBC ?_ ?_)); all_goals try (conv=>whnf)
         all_goals try (exfalso; first | omega | simp_all; done)
         refine zAA ha rfl ?_;refine sns ?_;refine zAA hb rfl ?_;refine sns ?_;exact rGV
     .refine⟨0,false,hno 0 zom zom (fun h=>hin ?_),?_⟩
      .rw[zA1 hk0]at h
       simp only[rAO,rAX]at h;exact⟨h.1.1.1,zom⟩
      .refine zAK vBC hT zJZ zsm ?_
       (repeat' (first|refine stn ?_|(with_reducible refine brr ?_ ?_<;>intro h)|(with_reducible refine zAT ?_ ?_<;>intro h)|with_reducible refine zBC ?_ ?_)); all_goals try (conv=>whnf)
       all_goals try (exact rGV)
       all_goals try (exfalso; omega)
       exfalso;apply hin;simp only[vBV,rAX];refine⟨⟨?_,?_,?_,?_,?_⟩,?_⟩<;>first | assumption | omega
theorem uBT:FO 34 Tryz.f34 [.tmp 2] 11:=mkO Tryz.func34 Tryz.ntmps34 Tryz.results34
theorem zLY(x:NodeL)(hs:x.Sm):Fn 34 [vA6 x] (.data (.bool x.valid)):=by
 obtain⟨k,b,⟨h1,_,_,_⟩,hr⟩:=uJ1 _ x 2048 65536 (rAL _) hs zom zom zom zom;refine zAK vBC hT uBT zsm ?_;refine sns ?_;refine zAA hr rfl ?_;refine sns ?_;refine zAB rfl ?_;simp only[PV.bool.injEq];rw[rA0,h1];simp only[NodeL.valid,rAO,rAX];exact and_congr Iff.rfl zom
def NodeL.size(x:NodeL):Nat:=if x.valid then x.cnt else 0
theorem zN6:FO 44 Tryz.f44 [.tmp 4,.tmp 5] 77:=mkO Tryz.func44 Tryz.ntmps44 Tryz.results44
def vIM(d:Int)(x:NodeL)(k:Int)(b:Bool):Prop:=(b=true->d<=2048/\vBG (2048 - d).toNat x=true/\k=x.cnt)/\(d<=2048->vBG (2048 - d).toNat x=true->x.cnt<=65536->b=true)/\0<=k/\k<=(2050 - d) * 65537
theorem uNX:∀ (n:Nat) (x:NodeL) (d:Int),SizeOf.sizeOf x<n->x.Sm->0<=d->d<=2049->∃ k b,vIM d x k b/\Fn 44 [vA6 x,.int .i64 d] (.data (.tup [.bool b,.int .i64 k])):=by
 intro n
 induction n with
 | zero=>intro x d h; omega
 | succ n ih =>
   intro x d hx hs hd0 hd1;have hc:=zF3 x;have hno:¬ (d<=2048/\vBG (2048 - d).toNat x=true/\x.cnt<=65536)->vIM d x 0 false:=fun h=>⟨zsm,fun h0 h1 h2=>absurd ⟨h0,h1,h2⟩ h,zom,zom⟩
   by_cases hdd:2048<d
   .refine⟨0,false,hno zom,?_⟩
    refine zAK vBC hT zN6 zsm ?_
    (repeat' (first|refine stn ?_|(with_reducible refine brr ?_ ?_<;>intro h)|(with_reducible refine zAT ?_ ?_<;>intro h)|with_reducible refine zBC ?_ ?_)); all_goals try (conv=>whnf)
    all_goals try (exact rGV)
    all_goals (exfalso; omega)
   .by_cases hk0:x.kids.length=0
    .refine⟨1,vED x,?_,?_⟩
     .have h1:=zBS (d:=(2048 - d).toNat) hk0
      have h2:=zIH hk0;unfold vIM;rw[h1,h2];exact⟨fun h=>⟨zom,h,rfl⟩,fun _ h _=>h,zom,zom⟩
     .refine zAK vBC hT zN6 zsm ?_
      (repeat' (first|refine stn ?_|(with_reducible refine brr ?_ ?_<;>intro h)|(with_reducible refine zAT ?_ ?_<;>intro h)|with_reducible refine zBC ?_ ?_)); all_goals try (conv=>whnf)
      .exfalso; omega
      .refine zAA (zKV x.split ⟨0,0,⟨false,[],[]⟩⟩ hs.dec) rfl ?_
       refine sns ?_;exact rGV
      all_goals (exfalso; omega)
    .by_cases hin:vBV x=true
     .have hin':=hin
      simp only[vBV,rAX]at hin';obtain⟨i1,i2,i3,i4,i5⟩:=hin';have e2:=zCM (d:=(2048 - d).toNat) i1;have e3:=vH7 i1;have k0:x.kids[0]! ∈ x.kids:=zAY zom;have k1:x.kids[1]! ∈ x.kids:=zAY zom;have ed:(2048 - (d+1)).toNat=(2048 - d).toNat - 1:=by omega
      obtain⟨a,ok,⟨a1,a2,a3,a4⟩,ha⟩:=ih x.kids[0]! (d+1) (by have:=NodeL.sizeOf_kid k0; omega) (hs.kid k0) zom zom;rw[ed]at a1 a2;rw[hin,rDP]at e2;have hp:=zF3 x.kids[1]!;by_cases hbad:ok=false\/a > 65536
      .refine⟨0,false,hno (fun h=>?_),?_⟩
       .rw[e2]at h
        simp only[rAO,rAX]at h;rcases hbad with hb | hb
        .have:=a2 zom h.2.1.2.1 zom; rw[hb]at this; cases this
        .cases ok with
         | false=>have:=a2 zom h.2.1.2.1 zom; cases this
         | true=>have:=(a1 rfl).2.2; omega
       .refine zAK vBC hT zN6 zsm ?_
        (repeat' (first|refine stn ?_|(with_reducible refine brr ?_ ?_<;>intro h)|(with_reducible refine zAT ?_ ?_<;>intro h)|with_reducible refine zBC ?_ ?_)); all_goals try (conv=>whnf)
        all_goals try (exfalso; first | omega | simp_all; done)
        refine zAA ha rfl ?_
        (repeat' (first|refine stn ?_|(with_reducible refine brr ?_ ?_<;>intro h)|(with_reducible refine zAT ?_ ?_<;>intro h)|with_reducible refine zBC ?_ ?_)); all_goals try (conv=>whnf)
        all_goals try (exact rGV)
        all_goals (exfalso; rcases hbad with hb | hb<;>first | omega | simp_all)
      .have hok:ok=true:=by cases ok<;>simp_all
       subst hok;have ha6:a<=65536:=by omega
       obtain⟨a1,a5,a6⟩:=a1 rfl;obtain⟨b,ok,⟨b1,b2,b3,b4⟩,hb⟩:=ih x.kids[1]! (d+1) (by have:=NodeL.sizeOf_kid k1; omega) (hs.kid k1) zom zom;rw[ed]at b1 b2;refine⟨1+a+b,ok,⟨?_,?_,zom,zom⟩,?_⟩
       .intro h
        obtain⟨b1,b5,b6⟩:=b1 h;rw[e2,a5,b5];exact⟨zom,by simp; omega,zom⟩
       .intro h0 h h2
        rw[e2]at h;simp only[rAO,rAX]at h;exact b2 zom h.2.2 zom
       .refine zAK vBC hT zN6 zsm ?_
        (repeat' (first|refine stn ?_|(with_reducible refine brr ?_ ?_<;>intro h)|(with_reducible refine zAT ?_ ?_<;>intro h)|with_reducible refine zBC ?_ ?_)); all_goals try (conv=>whnf)
        all_goals try (exfalso; first | omega | simp_all; done)
        refine zAA ha rfl ?_
        (repeat' (first|refine stn ?_|(with_reducible refine brr ?_ ?_<;>intro h)|(with_reducible refine zAT ?_ ?_<;>intro h)|with_reducible refine zBC ?_ ?_)); all_goals try (conv=>whnf)
        all_goals try (exfalso; first | omega | simp_all; done)
        refine zAA hb rfl ?_;refine sns ?_;exact rGV
     .refine⟨0,false,hno (fun h=>hin ?_),?_⟩
      .rw[zA1 hk0]at h
       simp only[rAO,rAX]at h;exact h.2.1.1.1
      .refine zAK vBC hT zN6 zsm ?_
       (repeat' (first|refine stn ?_|(with_reducible refine brr ?_ ?_<;>intro h)|(with_reducible refine zAT ?_ ?_<;>intro h)|with_reducible refine zBC ?_ ?_)); all_goals try (conv=>whnf)
       all_goals try (exact rGV)
       all_goals try (exfalso; omega)
       exfalso;apply hin;simp only[vBV,rAX];refine⟨?_,?_,?_,?_,?_⟩<;>first | assumption | omega
theorem vMW:FO 21 Tryz.f21 [.tmp 2] 15:=mkO Tryz.func21 Tryz.ntmps21 Tryz.results21
theorem zEC(x:NodeL)(hs:x.Sm):Fn 21 [vA6 x] (.data (.bool x.valid)):=by
 obtain⟨k,b,⟨h1,h2,_,_⟩,hr⟩:=uNX _ x 0 (rAL _) hs zom zom;have e0:(2048 - (0:Int)).toNat=2048:=rfl;rw[e0]at h1 h2;refine zAK vBC hT vMW zsm ?_;refine sns ?_;refine zAA hr rfl ?_
 (repeat' (first|refine stn ?_|(with_reducible refine brr ?_ ?_<;>intro h)|(with_reducible refine zAT ?_ ?_<;>intro h)|with_reducible refine zBC ?_ ?_)); all_goals try (conv=>whnf)
 all_goals refine zAB rfl ?_
 all_goals simp only[PV.bool.injEq]
 all_goals rw[rA0]
 all_goals simp only[NodeL.valid,rAO,rAX]
 .have⟨_,h3,h4⟩:=h1 rAC
  constructor
  .intro h; exact⟨h3,zom⟩
  .intro h; omega
 .constructor
  .intro h; cases h
  .intro⟨h3,h4⟩
   have:=h2 zom h3 h4
   simp_all
theorem vM5:FO 74 Tryz.f74 [.tmp 2] 8:=mkO Tryz.func74 Tryz.ntmps74 Tryz.results74
theorem zIL{α:Type}(enc:α->PV)(hf:∀ h n x,frz h (n+1) (enc x)=some (enc x,[]))(hs:∀ x,(enc x).cells.length=5/\(enc x).isAgg=true)(xs:List α)(hl:xs.length<2097152):Fn 74 [.imm (xs.map enc)] (.fresh (xs.map enc) 5 true):=by
 refine zDS vBC hT vM5 zsm ?_
 (repeat' (first|refine stn ?_|(with_reducible refine brr ?_ ?_<;>intro h)|(with_reducible refine zAT ?_ ?_<;>intro h)|with_reducible refine zBC ?_ ?_)); all_goals try (conv=>whnf)
 .subst h; exact zDD
 all_goals refine zI8 hs rfl ?_
 all_goals ((refine sns ?_))
 all_goals refine zBG rfl rfl ?_ rfl (zDI (fun x=>hf _ _ x) _)
 all_goals simp
theorem vM4:FO 105 Tryz.f105 [.tmp 2] 8:=mkO Tryz.func105 Tryz.ntmps105 Tryz.results105
theorem vS7{α:Type}(enc:α->PV)(hf:∀ h n x,frz h (n+1) (enc x)=some (enc x,[]))(hs:∀ x,(enc x).cells.length=6/\(enc x).isAgg=true)(xs:List α)(hl:xs.length<2097152):Fn 105 [.imm (xs.map enc)] (.fresh (xs.map enc) 6 true):=by
 refine zDS vBC hT vM4 zsm ?_
 (repeat' (first|refine stn ?_|(with_reducible refine brr ?_ ?_<;>intro h)|(with_reducible refine zAT ?_ ?_<;>intro h)|with_reducible refine zBC ?_ ?_)); all_goals try (conv=>whnf)
 .subst h; exact zDD
 all_goals refine zI8 hs rfl ?_
 all_goals ((refine sns ?_))
 all_goals refine zBG rfl rfl ?_ rfl (zDI (fun x=>hf _ _ x) _)
 all_goals simp
theorem vJ1:FO 140 Tryz.f140 [.tmp 2] 8:=mkO Tryz.func140 Tryz.ntmps140 Tryz.results140
theorem vNX{α:Type}(enc:α->PV)(hf:∀ h n x,frz h (n+1) (enc x)=some (enc x,[]))(hs:∀ x,(enc x).cells.length=9/\(enc x).isAgg=true)(xs:List α)(hl:xs.length<2097152):Fn 140 [.imm (xs.map enc)] (.fresh (xs.map enc) 9 true):=by
 refine zDS vBC hT vJ1 zsm ?_
 (repeat' (first|refine stn ?_|(with_reducible refine brr ?_ ?_<;>intro h)|(with_reducible refine zAT ?_ ?_<;>intro h)|with_reducible refine zBC ?_ ?_)); all_goals try (conv=>whnf)
 .subst h; exact zDD
 all_goals refine zI8 hs rfl ?_
 all_goals ((refine sns ?_))
 all_goals refine zBG rfl rfl ?_ rfl (zDI (fun x=>hf _ _ x) _)
 all_goals simp
theorem vWH:FO 109 Tryz.f109 [.cell 2 28] 18:=mkO Tryz.func109 Tryz.ntmps109 Tryz.results109
theorem uEB(d:DecL):Fn 109 [vA9 d] (.data (vA9 (opp d))):=by
 refine zAK vBC hT vWH zsm ?_
 (repeat' (first|refine stn ?_|(with_reducible refine brr ?_ ?_<;>intro h)|(with_reducible refine zAT ?_ ?_<;>intro h)|with_reducible refine zBC ?_ ?_)); all_goals try (conv=>whnf)
 all_goals refine zAB rfl ?_
 all_goals simp_all [opp,uK5,vA9]
theorem vV4:FO 168 Tryz.f168 [.cell 2 28] 17:=mkO Tryz.func168 Tryz.ntmps168 Tryz.results168
theorem uNF(d:DecL):Fn 168 [vA9 d] (.data (vA9 (opp d))):=by
 obtain⟨k,i,r⟩:=d;by_cases h0:0<k/\k<5
 .obtain rfl | rfl | rfl | rfl:k=1\/k=2\/k=3\/k=4:=by omega
  all_goals refine zAK vBC hT vV4 zsm ?_
  all_goals ((refine sns ?_))
  all_goals exact rGV
 .refine zAK vBC hT vV4 zsm ?_
  (repeat' (first|refine stn ?_|(with_reducible refine brr ?_ ?_<;>intro h)|(with_reducible refine zAT ?_ ?_<;>intro h)|with_reducible refine zBC ?_ ?_)); all_goals try (conv=>whnf)
  all_goals try (exfalso; omega)
  all_goals refine zAB rfl ?_
  all_goals simp only[opp,uK5,vA9]
  all_goals rw[rAN zom,rAN zom,rAN zom,rAN zom]
theorem vWI:FO 75 Tryz.f75 [.tmp 6] 20:=mkO Tryz.func75 Tryz.ntmps75 Tryz.results75
theorem vIA(path:List DecL)(n:NodeL)(i:Nat)(hp:path.length<2097151):Fn 75 [.imm (path.map vA9),vA6 n,.int .i64 i] (.fresh ((path++[vCI n i]).map vA9) 5 true):=by
 refine zDS vBC hT vWI zsm ?_
 refine gon ?_ ?_<;>intro h
 .obtain rfl:i=1:=by omega
  refine zAA (uEB n.split) rfl ?_;refine sns ?_;refine zBG rfl ?_ ?_ rfl (zDI (fun x=>zD7 x) _)
  .simp[vCI]; rfl
  .simp
 .refine zBG rfl ?_ ?_ rfl (zDI (fun x=>zD7 x) _)
  .simp[vCI,show i≠1 by omega]; rfl
  .simp
theorem ok_kid:FO 138 Tryz.f138 [.tmp 6] 19:=mkO Tryz.func138 Tryz.ntmps138 Tryz.results138
theorem uNU(path:List DecL)(n:NodeL)(i:Nat)(hp:path.length<2097151):Fn 138 [.imm (path.map vA9),vA6 n,.int .i64 i] (.fresh ((path++[vCI n i]).map vA9) 5 true):=by
 refine zDS vBC hT ok_kid zsm ?_
 refine gon ?_ ?_<;>intro h
 .obtain rfl:i=1:=by omega
  refine zAA (uNF n.split) rfl ?_;refine sns ?_;refine zA5 (zIL vA9 (fun _ _ x=>zD7 x) (fun _=>⟨rfl,rfl⟩) path zom) rfl ?_;refine sns ?_;refine zBG rfl ?_ ?_ rfl (zDI (fun x=>zD7 x) _)
  .simp[vCI]; rfl
  .simp
 .refine zA5 (zIL vA9 (fun _ _ x=>zD7 x) (fun _=>⟨rfl,rfl⟩) path zom) rfl ?_
  refine sns ?_;refine zBG rfl ?_ ?_ rfl (zDI (fun x=>zD7 x) _)
  .simp[vCI,show i≠1 by omega]; rfl
  .simp
def vBX(n:NodeL)(d:DecL):Option Nat:=(List.range n.kids.length).find? fun i=>vCI n i=d
theorem uIA:FO 103 Tryz.f103 [.tmp 4] 23:=mkO Tryz.func103 Tryz.ntmps103 Tryz.results103
theorem uF6(n:NodeL)(d:DecL)(hs:n.Sm):Fn 103 [vA6 n,vA9 d] (.data (.int .i64 (match vBX n d with | some i=>(i:Int) | none=>-1))):=by
 have hl:=hs.len;refine zAK vBC hT uIA zsm ?_;refine sns ?_
 refine zC8 hT (fun i:Nat=>[(2,.ptr 0 0 0),(3,.ptr 1 0 0),(9,.int .i64 n.kids.length),(10,.int .i64 i)]) (fun _=>[(0,⟨[vA6 n],9,true⟩),(1,⟨[vA9 d],5,true⟩)]) [] 2 (fun i=>i<=n.kids.length/\∀ j,j<i->vCI n j≠d) (fun i=>n.kids.length - i) 0 zsm zdd zsm
  [0,1] ⟨apx,apx,zAC rfl zsm,rAI,rGU⟩ ⟨bbx,bbx,rGU⟩ rAA ?_
 intro i ⟨hi,hn⟩
 refine gon ?_ ?_<;>intro h
 .refine zA5 (uNU [] n i zsm) rfl ?_
  refine sns ?_;refine zAA (uKK (vCI n i) d (by unfold vCI; split<;>exact hs.dec)) rfl ?_
  refine gon ?_ ?_<;>intro h
  .refine zAB rfl ?_
   have:vBX n d=some i:=by
    unfold vBX;rw[rF4];refine⟨by simpa using h,List.range i,(List.range (n.kids.length - i - 1)).map (·+i+1),?_,fun j hj=>?_⟩
    .have e:n.kids.length=i+1+(n.kids.length - i - 1):=by omega
     rw[e,List.range_add,rEW,rBG]
     congr 2
     rw[show i+1+(n.kids.length - i - 1) - i - 1=n.kids.length - i - 1 by omega];simp only[List.singleton_append,rEY,List.map_inj_left];exact⟨rGU,fun a _=>by omega⟩
    .simpa using hn j (by simpa using hj)
   rw[this]
  .refine⟨i+1,[0,1],⟨⟨zom,fun j hj=>?_⟩,zom⟩,⟨apx,apx,rAI,zAC rfl zom,rGU⟩,⟨bbx,bbx,rGU⟩,rAA⟩
   rcases rB7.1 hj with hj | rfl
   .exact hn j hj
   .assumption
 .refine zAB rfl ?_
  have:vBX n d=none:=by
   unfold vBX;rw[rFR];intro j hj
   simpa using hn j (by simp at hj; omega)
  rw[this]
def vDW(v:List DecL×NodeL):PV:=.agg [.imm (v.1.map vA9),.imm (v.2.lemmas.map vBB),.int .i64 v.2.split.kind,.int .i64 v.2.split.index,.bool v.2.split.rat.neg,vBK v.2.split.rat.num,vBK v.2.split.rat.den,.imm (v.2.kids.map vBF),.bool v.2.empty,.imm (v.2.proof.map vBA)]
theorem vNG(h:Hp)(n:Nat)(v:List DecL×NodeL):frz h (n+1) (vDW v)=some (vDW v,[]):=by cases n<;>rfl
def pre(path:List DecL)(l:List (List DecL×NodeL)):List (List DecL×NodeL):=l.map fun q=>(path++q.1,q.2)
theorem zI0(path:List DecL)(l:List (List DecL×NodeL)):(pre path l).length=l.length:=by simp[pre]
theorem zO8:∀ (n:Nat) (x:NodeL),SizeOf.sizeOf x<n->x.all.length<=x.wt/\∀ i,(x.upto i).length<=x.wt:=by
 intro n
 induction n with
 | zero=>intro x h; omega
 | succ n ih =>
   intro x hx
   have hu:∀ i,i<=x.kids.length->(x.upto i).length<=1+((x.kids.take i).map NodeL.wt).sum:=by
    intro i
    induction i with
    | zero=>intro _; simp[NodeL.upto_zero]
    | succ i ihi =>
      intro hi;have h1:=ihi zom;have h2:=(ih x.kids[i]! (by have:=NodeL.sizeOf_kid (zAY (show i<x.kids.length by omega)); omega)).1;rw[x.upto_succ zom,rAU,rAM,zGW zom];omega
   have hw:=x.wt_eq
   have hall:∀ i,i<=x.kids.length->(x.upto i).length<=x.wt:=fun i hi=>by
    have h1:=hu i hi;have h2:=@sum_take_le _ NodeL.wt x.kids i;omega
   refine⟨by rw[x.all_eq]; exact hall _ (rAR _),fun i=>?_⟩;by_cases hi:i<=x.kids.length
   .exact hall i hi
   .have:x.upto i=x.upto x.kids.length:=by
     unfold NodeL.upto;rw[rBO rAE,rBO zsm]
    rw[this]; exact hall _ (rAR _)
theorem uCX:FO 47 Tryz.f47 [.tmp 4] 33:=mkO Tryz.func47 Tryz.ntmps47 Tryz.results47
theorem uKL:∀ (n:Nat) (path:List DecL) (x:NodeL),SizeOf.sizeOf x<n->x.Sm->path.length+x.wt<2097151->Fn 47 [.imm (path.map vA9),vA6 x] (.fresh ((pre path x.all).map vDW) 10 true):=by
 intro n
 induction n with
 | zero=>intro p x h; omega
 | succ n ih =>
   intro path x hx hs hw;refine zDS vBC hT uCX zsm ?_;refine sns ?_;have hl:=hs.len;have hal:=zO8 _ x (rAL _);refine zAM hT (fun i:Nat=>[(0,.imm (path.map vA9)),(3,.ptr 0 0 0),(5,.own 1 0 (x.upto i).length),(6,.int .i64 i)]) (fun i=>[(0,⟨[vA6 x],9,true⟩),(1,⟨(pre path (x.upto i)).map vDW,10,true⟩)]) [] 2 (fun i=>i<=x.kids.length) (fun i=>x.kids.length - i) 0 zsm zdd zsm ?_ ?_
   .refine⟨[0,7],[4],[],[(7,[vDW (path,x)])],⟨⟨⟨_,rfl⟩,rGU⟩,rGU,⟨⟨_,4,_,rfl,zAD (vKJ (zAH rfl rfl ?_ (fun x=>zD7 x)) rfl) rfl,rfl⟩,rGU⟩⟩,⟨zAE rfl rfl,apx,zA3 zdd rfl (by simp[NodeL.upto_zero]),zAC rfl rfl,rGU⟩,
     ⟨bbx,zAF zdd rfl (by simp[NodeL.upto_zero,pre]) (zAP fun _=>⟨rfl,by simp[vDW]⟩) rfl,rGU⟩,rAA⟩
    simp
   .intro i hi
    have hul:=hal.2 i;have hul1:=hal.2 (i+1);have hpl:=zI0 path (x.upto i)
    refine gon ?_ ?_<;>intro h
    .have hi':i<x.kids.length:=by omega
     have hkm:x.kids[i]! ∈ x.kids:=zAY hi';have hwk:=vN6 hkm;refine zA5 (vIA path x i zom) rfl ?_;refine sns ?_;refine zA5 (ih (path++[vCI x i]) x.kids[i]! (by have:=NodeL.sizeOf_kid hkm; omega) (hs.kid hkm) (by simp only[rAU,List.length_singleton]; omega)) (zAD (zAH rfl rfl zsm (fun x=>zD7 x)) rfl) ?_;refine sns ?_;refine zBH ⟨rfl,by simp[zI0],?_⟩ ?_
     .have:=(zO8 _ x.kids[i]! (rAL _)).1
      simp only[rBX,rCJ,rAM,zI0]; omega
     refine sns ?_;have e1:(List.map vDW (pre (path++[vCI x i]) x.kids[i]!.all)).take (List.map vDW (pre (path++[vCI x i]) x.kids[i]!.all)).length=List.map vDW (pre (path++[vCI x i]) x.kids[i]!.all):=rBO (rAR _)
     have e2:pre path (x.upto (i+1))=pre path (x.upto i)++pre (path++[vCI x i]) x.kids[i]!.all:=by
      rw[x.upto_succ hi'];simp only[pre,rBD,rCO]
      congr 1
      refine rBJ fun q _=>?_
      simp
     refine⟨i+1,⟨zom,zom⟩,[0,18],[],[],[],ttt,⟨rAJ,apx,zA3 zdd rfl ?_,zAC rfl zom,rGU⟩,⟨bbx,zAF zdd rfl ?_ (zAP fun _=>⟨rfl,by simp[vDW]⟩) rfl,rGU⟩,rAA⟩
     .rw[rE9,e1,rAM,zI0,x.upto_succ hi',rAU,rAM]
     .rw[rE9,e1,e2,rBD]
    .refine zBG rfl ?_ ?_ rfl (zDI (fun x=>vNG _ _ x) _)
     .rw[NodeL.all_eq,show i=x.kids.length by omega]
     .rw[NodeL.all_eq,show i=x.kids.length by omega]; simp[zI0]
def vDI(x:NodeL):List (List DecL×NodeL):=if x.valid then x.all else []
theorem pre_nil(l:List (List DecL×NodeL)):pre [] l=l:=by simp[pre]
theorem uML:FO 26 Tryz.f26 [.tmp 2] 8:=mkO Tryz.func26 Tryz.ntmps26 Tryz.results26
theorem uPW(x:NodeL)(hs:x.Sm)(hw:x.wt<2097151):Fn 26 [vA6 x] (.fresh ((vDI x).map vDW) 10 true):=by
 refine zDS vBC hT uML zsm ?_;refine sns ?_;refine zAA (zEC x hs) rfl ?_
 refine gon ?_ ?_<;>intro h
 .refine zA5 (uKL _ [] x (rAL _) hs (by simpa using hw)) rfl ?_
  refine sns ?_;refine zBG rfl ?_ ?_ rfl (zDI (fun x=>vNG _ _ x) _)
  .simp[vDI,h,pre_nil]
  .simp[vDI,h,pre_nil]
 .have:vDI x=[]:=by simp[vDI,h]
  rw[this]; exact zDD
theorem uES(x:NodeL):(vDI x).length<=x.wt:=by
 unfold vDI
 split
 .exact(zO8 _ x (rAL _)).1
 .simp
theorem uN4:∀ (n:Nat) (x:NodeL),SizeOf.sizeOf x<n->x.Sm->∀ q∈x.all,q.2.Sm/\(∀ d∈q.1,d.sm)/\q.1.length+q.2.wt<=x.wt:=by
 intro n
 induction n with
 | zero=>intro x h; omega
 | succ n ih =>
   intro x hx hs q hq
   have hu:∀ i,i<=x.kids.length->∀ q∈x.upto i,q.2.Sm/\(∀ d∈q.1,d.sm)/\q.1.length+q.2.wt<=x.wt:=by
    intro i
    induction i with
    | zero =>
      intro _ q hq;rw[NodeL.upto_zero,rBM]at hq;subst hq;exact⟨hs,fun d hd=>(by cases hd),zsm⟩
    | succ i ihi =>
      intro hi q hq;have hi':i<x.kids.length:=by omega
      rw[x.upto_succ hi',rAZ]at hq;rcases hq with hq | hq
      .exact ihi zom q hq
      .obtain⟨p,hp,rfl⟩:=rA5.1 hq
       have hk:=zAY hi';have h1:=vN6 hk;obtain⟨h2,h3,h4⟩:=ih x.kids[i]! (by have:=NodeL.sizeOf_kid hk; omega) (hs.kid hk) p hp;refine⟨h2,fun d hd=>?_,by simp only[List.length_cons]; omega⟩;rcases rA7.1 hd with rfl | hd
       .have:=hs.dec
        unfold vCI
        split<;>exact this
       .exact h3 d hd
   rw[x.all_eq]at hq;exact hu _ (rAR _) q hq
theorem uKR{x:NodeL}(hs:x.Sm)(hw:x.wt<2097151){q:List DecL×NodeL}(hq:q∈vDI x):q.2.Sm/\vOH q.1/\q.1.length+q.2.wt<=x.wt:=by
 unfold vDI at hq
 split at hq
 .obtain⟨h1,h2,h3⟩:=uN4 _ x (rAL _) hs q hq
  exact⟨h1,⟨zom,h2⟩,h3⟩
 .cases hq
instance:Inhabited (List DecL×NodeL):=⟨([],default)⟩
def zeroN:NodeL:=.mk [] ⟨0,0,⟨false,[],[]⟩⟩ [] false []
def atL(x:NodeL)(path:List DecL):Option NodeL:=((vDI x).find? fun q=>q.1=path).map (·.2)
theorem uCD:FO 41 Tryz.f41 [.cell 4 32,.tmp 5] 29:=mkO Tryz.func41 Tryz.ntmps41 Tryz.results41
theorem uKC(x:NodeL)(path:List DecL)(hs:x.Sm)(hw:x.wt<2097151)(hp:vOH path):Fn 41 [vA6 x,.imm (path.map vA9)] (.data (.tup [vA6 ((atL x path).getD zeroN),.bool (atL x path).isSome])):=by
 have hl:=uES x;refine zAK vBC hT uCD zsm ?_;refine sns ?_;refine zA5 (uPW x hs hw) rfl ?_;refine sns ?_;refine zAM hT (fun i:Nat=>[(1,.imm (path.map vA9)),(4,.ptr 0 0 0),(6,.imm ((vDI x).map vDW)),(7,.int .i64 i)]) (fun _=>[(0,⟨[vA6 zeroN],9,true⟩)]) [] 1 (fun i=>i<=(vDI x).length/\∀ j,j<i->(vDI x)[j]!.1≠path) (fun i=>(vDI x).length - i) 0 zsm zdd zsm ?_ ?_
 .refine⟨[1],[4],[(6,.imm ((vDI x).map vDW))],[(1,[vA6 zeroN])],⟨⟨⟨_,rfl⟩,rGU⟩,⟨⟨4,[4],zAH rfl rfl ?_ (fun x=>vNG _ _ x),rfl⟩,rGU⟩,⟨⟨_,4,_,rfl,rfl,rfl⟩,rGU⟩⟩,⟨zAE rfl rfl,apx,zAE rfl rfl,zAC rfl rfl,rGU⟩,⟨bbx,rGU⟩,rAA⟩
  simp
 .intro i ⟨hi,hn⟩
  refine gon ?_ ?_<;>intro h
  .have hi':i<(vDI x).length:=by omega
   refine zAA (vS2 (vDI x)[i]!.1 path (uKR hs hw (zAY hi')).2.1) rfl ?_
   refine gon ?_ ?_<;>intro h
   .refine zAB rfl ?_
    have:atL x path=some (vDI x)[i]!.2:=by
     unfold atL
     have:(vDI x).find? (fun q=>q.1=path)=some (vDI x)[i]! := by
      rw[rF4];refine⟨by simpa using h,(vDI x).take i,(vDI x).drop (i+1),?_,fun q hq=>?_⟩
      .rw[rAT (vDI x) i hi',<- rBS hi',rC8]
      .obtain⟨j,hj,rfl⟩:=rBB hq
       rw[rBX]at hj;have:=hn j zom;rw[rAT (vDI x) j zom]at this
       simpa using this
     rw[this]; rfl
    rw[this];rfl
   .refine⟨i+1,⟨⟨zom,fun j hj=>?_⟩,zom⟩,[0],[],[],[],ttt,⟨rAJ,apx,rAJ,zAC rfl zom,rGU⟩,⟨bbx,rGU⟩,rAA⟩
    rcases rB7.1 hj with hj | rfl
    .exact hn j hj
    .assumption
  .refine zAB rfl ?_
   have:atL x path=none:=by
    unfold atL
    have:(vDI x).find? (fun q=>q.1=path)=none:=by
     rw[rFR];intro q hq;obtain⟨j,hj,rfl⟩:=rBB hq;have:=hn j zom;rw[rAT (vDI x) j hj]at this
     simpa using this
    rw[this]; rfl
   rw[this];rfl
def atF:NodeL->List DecL->Option NodeL
 | n,[]=>some n
 | n,d::p=>match vBX n d with
   | some i=>atF n.kids[i]! p
   | none=>none
theorem zC0{n:NodeL}{d:DecL}{i:Nat}(h:vBX n d=some i):i<n.kids.length/\vCI n i=d:=by
 unfold vBX at h;have h1:=rGG h;have h2:=List.find?_some h;simp at h1 h2;exact⟨h1,h2⟩
theorem zLM{n:NodeL}{d:DecL}(hl:0<n.kids.length)(h:vCI n 0=d):vBX n d=some 0:=by
 unfold vBX;obtain⟨k,hk⟩:∃ k,n.kids.length=k+1:=⟨n.kids.length - 1,zom⟩;rw[hk,List.range_succ_eq_map,List.find?_cons];simp[h]
def atV(x:NodeL)(path:List DecL):Option NodeL:=if x.valid then atF x path else none
theorem uO9:FO 70 Tryz.f70 [.cell 4 32,.tmp 5] 32:=mkO Tryz.func70 Tryz.ntmps70 Tryz.results70
theorem uQS(x:NodeL)(path:List DecL)(hs:x.Sm)(hp:path.length<2097152):Fn 70 [vA6 x,.imm (path.map vA9)] (.data (.tup [vA6 ((atV x path).getD zeroN),.bool (atV x path).isSome])):=by
 refine zAK vBC hT uO9 zsm ?_;refine sns ?_;refine zAA (zLY x hs) rfl ?_
 refine gon ?_ ?_<;>intro h
 .have hv:=h
  refine zAM hT (fun s:Nat×NodeL=>[(2,.ptr 0 0 0),(4,.ptr 1 0 0),(13,.imm (path.map vA9)),(14,.int .i64 path.length),(15,.int .i64 s.1)]) (fun s=>[(0,⟨[vA6 s.2],9,true⟩),(1,⟨[vA6 zeroN],9,true⟩)]) [] 2 (fun s=>s.1<=path.length/\s.2.Sm/\atF x path=atF s.2 (path.drop s.1)) (fun s=>path.length - s.1) (0,x) ⟨zsm,hs,zsm⟩ zdd zsm ?_ ?_
  .refine⟨[0,1],[],[],[(1,[vA6 zeroN])],⟨rGU,rGU,⟨⟨_,4,_,rfl,rfl,rfl⟩,rGU⟩⟩,⟨apx,apx,zAE rfl rfl,zAC rfl zsm,zAC rfl rfl,rGU⟩,⟨bbx,bbx,rGU⟩,rAA⟩
  .intro⟨i,m⟩ ⟨hi,hm,he⟩
   dsimp only at hi hm he
   refine gon ?_ ?_<;>intro h
   .have hi':i<path.length:=by omega
    have hd:path.drop i=path[i]! :: path.drop (i+1):=by rw[rAT path i hi',<- rBS hi']
    have hc:=uF6 m path[i]! hm;rw[hd,atF]at he;cases hk:vBX m path[i]! with
    | none =>
      rw[hk]at hc he;refine zAA hc rfl ?_;refine sns ?_;refine zAB rfl ?_;have:atV x path=none:=by simp[atV,hv,he]
      rw[this]; rfl
    | some j =>
      rw[hk]at hc he;have hj:=(zC0 hk).1;refine zAA hc rfl ?_;refine sns ?_;refine⟨(i+1,m.kids[j]!),⟨⟨by simp only; omega,hm.kid (zAY hj),he⟩,by simp only; omega⟩,[0,1],[],[],[],ttt,⟨apx,apx,rAJ,rAI,rAI,rGU⟩,⟨bbx,bbx,rGU⟩,rAA⟩
   .refine zAB rfl ?_
    have:atV x path=some m:=by
     rw[atV,hv,rAV rfl,he,rDU zom]; rfl
    rw[this]; rfl
 .have:atV x path=none:=by simp[atV,h]
  rw[this];exact rGV
def vBY(n:NodeL)(i:Nat)(k:NodeL):NodeL:=.mk n.lemmas n.split (n.kids.set i k) n.empty n.proof
def vCG(w:NodeL):NodeL->List DecL->Option NodeL
 | _,[]=>some w
 | n,d::p=>match vBX n d with
   | some i=>(vCG w n.kids[i]! p).map fun k=>vBY n i k
   | none=>none
def vFI(w:NodeL):NodeL->List DecL->NodeL
 | _,[]=>w
 | n,d::p=>match vBX n d with
   | some i=>vBY n i (vFI w n.kids[i]! p)
   | none=>zeroN
theorem zPZ:FO 106 Tryz.f106 [.cell 6 32,.tmp 7] 46:=mkO Tryz.func106 Tryz.ntmps106 Tryz.results106
theorem vZE(w:NodeL):∀ (path:List DecL) (x:NodeL),x.Sm->path.length<2097152->Fn 106 [vA6 x,.imm (path.map vA9),vA6 w] (.data (.tup [vA6 (vFI w x path),.bool (vCG w x path).isSome])):=by
 intro path
 induction path with
 | nil =>
   intro x hs hp;refine zAK vBC hT zPZ zsm ?_;refine sns ?_;exact rGV
 | cons d p ih =>
   intro x hs hp;refine zAK vBC hT zPZ zsm ?_;refine sns ?_;have hc:=uF6 x d hs;cases hk:vBX x d with
   | none =>
     rw[hk]at hc;refine zAA hc rfl ?_;refine sns ?_;refine zAB rfl ?_;have h1:vFI w x (d::p)=zeroN:=by simp only[vFI,hk]
     have h2:vCG w x (d::p)=none:=by simp only[vCG,hk]
     rw[h1,h2]; rfl
   | some i =>
     rw[hk]at hc;have hi:=(zC0 hk).1;have hl:=hs.len;simp only[List.length_cons]at hp;refine zAA hc rfl ?_;refine sns ?_;refine zB1 (l':=p) zsm ?_;refine sns ?_;refine zAA (ih x.kids[i]! (hs.kid (zAY hi)) zom) rfl ?_;refine sns ?_;refine zA5 (vNX vBF (fun _ _ x=>zFX x) zH8 x.kids hl) rfl ?_;refine sns ?_;refine zJ1 i zsm hi ?_;refine sns ?_
     have e1:(x.kids.map vBF).set (0+((match some i with | some i=>(i:Int) | none=>-1):Int).toNat) (vA6 (vFI w x.kids[i]! p))=(x.kids.set i (vFI w x.kids[i]! p)).map vBF:=by
      rw[rFZ,zBM]; simp
     refine zAB (zKF (zAD (zBY (zAD rfl (zAD rfl (zAD rfl (zAD rfl (zAD rfl (zAD rfl (zAD (zAH rfl e1 zsm (fun x=>zFX x)) rfl)))))))) rfl)) ?_;have h1:vFI w x (d::p)=vBY x i (vFI w x.kids[i]! p):=by simp only[vFI,hk]
     have h2:(vCG w x (d::p)).isSome=(vCG w x.kids[i]! p).isSome:=by simp only[vCG,hk]; cases vCG w x.kids[i]! p<;>rfl
     rw[h1,h2]; rfl
theorem uFH:FO 42 Tryz.f42 [.cell 6 32] 38:=mkO Tryz.func42 Tryz.ntmps42 Tryz.results42
theorem uPQ (w:NodeL):∀ (path:List DecL) (x:NodeL),x.Sm->path.length<2097152->(vCG w x path).isSome->(∀ d∈path,d.sm)->Fn 42 [vA6 x,.imm (path.map vA9),vA6 w] (.data (vA6 (vFI w x path))):=by
 intro path
 induction path with
 | nil =>
   intro x hs hp hr hd;refine zAK vBC hT uFH zsm ?_;refine sns ?_;exact rGV
 | cons d p ih =>
   intro x hs hp hr hd;cases hk:vBX x d with
   | none=>simp only[vCG,hk]at hr; cases hr
   | some i =>
     have hr':(vCG w x.kids[i]! p).isSome:=by
      simp only[vCG,hk]at hr;cases h:vCG w x.kids[i]! p with
      | none=>rw[h]at hr; cases hr
      | some _=>rfl
     obtain⟨hi,hkd⟩:=zC0 hk;have hl:=hs.len;simp only[List.length_cons]at hp;refine zAK vBC hT uFH zsm ?_;refine sns ?_;refine zAA (zKV x.split d hs.dec) rfl ?_
     refine gon ?_ ?_<;>intro h
     .have i0:i=0:=by
       have h0:vCI x 0=d:=by simp[vCI,h]
       rw[zLM zom h0]at hk;exact(rDJ hk).symm
      subst i0;refine zJ1 0 rfl zom ?_;refine sns ?_;refine zB1 (l':=p) zsm ?_;refine sns ?_;refine zAA (ih x.kids[0]! (hs.kid (zAY hi)) zom hr' (fun d h=>hd d (by simp[h]))) rfl ?_;refine sns ?_;refine zJ1 0 rfl zom ?_;refine sns ?_
      have e1:(x.kids.map vBF).set 0 (vA6 (vFI w x.kids[0]! p))=(x.kids.set 0 (vFI w x.kids[0]! p)).map vBF:=by
       rw[rFZ,zBM]
      refine zAB (zBY (zAD rfl (zAD rfl (zAD rfl (zAD rfl (zAD rfl (zAD rfl (zAD (zAH rfl e1 zsm (fun x=>zFX x)) rfl)))))))) ?_;have h1:vFI w x (d::p)=vBY x 0 (vFI w x.kids[0]! p):=by simp only[vFI,hk]
      rw[h1]; rfl
     .have i1:i=1:=by
       unfold vCI at hkd
       split at hkd
       .assumption
       .exact absurd hkd h
      subst i1;refine zBH ⟨zom,rAG⟩ ?_;refine sns ?_;refine zJ1 1 rfl zom ?_;refine sns ?_;refine zB1 (l':=p) zsm ?_;refine sns ?_;refine zAA (ih x.kids[1]! (hs.kid (zAY hi)) zom hr' (fun d h=>hd d (by simp[h]))) rfl ?_;refine sns ?_;refine zJ1 1 rfl zom ?_;refine sns ?_
      have e1:(x.kids.map vBF).set 1 (vA6 (vFI w x.kids[1]! p))=(x.kids.set 1 (vFI w x.kids[1]! p)).map vBF:=by
       rw[rFZ,zBM]
      refine zAB (zBY (zAD rfl (zAD rfl (zAD rfl (zAD rfl (zAD rfl (zAD rfl (zAD (zAH rfl e1 zsm (fun x=>zFX x)) rfl)))))))) ?_;have h1:vFI w x (d::p)=vBY x 1 (vFI w x.kids[1]! p):=by simp only[vFI,hk]
      rw[h1]; rfl
theorem vMB{w:NodeL}:∀ {path:List DecL} {x k:NodeL},vCG w x path=some k->vFI w x path=k
 | [],x,k,h=>by simp only[vCG,rBT]at h; simp only[vFI]; exact h
 | d :: p,x,k,h=>by
   simp only[vCG]at h;simp only[vFI];cases hk:vBX x d with
   | none=>rw[hk]at h; cases h
   | some i =>
     rw[hk]at h;simp only[rBH]at h;obtain⟨k',h1,h2⟩:=h;dsimp only;rw[vMB h1]; exact h2
theorem vUR{x k:NodeL}{i:Nat}(hx:x.Sm)(hk:k.Sm):(vBY x i k).Sm:=by
 refine .mk _ hx.lems hx.dec (by simp only[vBY,NodeL.kids,rEX]; exact hx.len) (fun z hz=>?_) hx.prf;simp only[vBY,NodeL.kids]at hz;rcases rCU hz with h | h
 .exact hx.kid h
 .subst h; exact hk
theorem vMA{w:NodeL}(hw:w.Sm):∀ {path:List DecL} {x:NodeL},x.Sm->(vCG w x path).isSome->(vFI w x path).Sm
 | [],x,_,_=>hw
 | d :: p,x,hx,h=>by
   simp only[vCG]at h;simp only[vFI];cases hk:vBX x d with
   | none=>rw[hk]at h; cases h
   | some i =>
     rw[hk]at h;refine vUR hx (vMA hw (hx.kid (zAY (zC0 hk).1)) ?_);dsimp only at h;cases hr:vCG w x.kids[i]! p with
     | none=>rw[hr]at h; cases h
     | some _=>rfl
def vEG(w x:NodeL)(path:List DecL):NodeL×Int :=
 if x.valid && w.valid then(match vCG w x path with
  | some k=>if k.valid then(k,0) else(zeroN,8)
  | none=>(zeroN,10)) else(zeroN,1)
theorem vMS:FO 72 Tryz.f72 [.cell 6 32,.tmp 7] 34:=mkO Tryz.func72 Tryz.ntmps72 Tryz.results72
theorem vS1(w x:NodeL)(path:List DecL)(hs:x.Sm)(hw:w.Sm)(hp:path.length<2097152):Fn 72 [vA6 x,.imm (path.map vA9),vA6 w] (.data (.tup [vA6 (vEG w x path).1,.int .i64 (vEG w x path).2])):=by
 refine zAK vBC hT vMS zsm ?_;refine sns ?_;refine zAA (zLY x hs) rfl ?_
 refine gon ?_ ?_<;>intro h
 .refine zAA (zLY w hw) rfl ?_
  refine gon ?_ ?_<;>intro h
  .have hx:=h
   have hxv:x.valid=true:=by assumption
   refine zAA (vZE w path x hs hp) rfl ?_;cases hr:vCG w x path with
   | none =>
     refine sns ?_;have:vEG w x path=(zeroN,10):=by simp[vEG,hxv,hx,hr]
     rw[this]; exact rGV
   | some k =>
     have hk:=vMB hr;have hsm:k.Sm:=by rw[<- hk]; exact vMA hw hs (by rw[hr]; rfl)
     rw[hk];refine sns ?_;refine zAA (zLY k hsm) rfl ?_
     refine gon ?_ ?_<;>intro h
     .have:vEG w x path=(k,0):=by simp[vEG,hxv,hx,hr,h]
      rw[this]; exact rGV
     .have:vEG w x path=(zeroN,8):=by simp[vEG,hxv,hx,hr,h]
      rw[this]; exact rGV
  .have hxv:x.valid=true:=by assumption
   have:vEG w x path=(zeroN,1):=by simp[vEG,hxv,h]
   rw[this]; exact rGV
 .have:vEG w x path=(zeroN,1):=by simp[vEG,h]
  rw[this]; exact rGV
theorem uFF{d:DecL}(h1:1<=d.kind)(h2:d.kind<=4):opp d≠d:=by
 intro h;have:=rA3 DecL.kind h;simp only[opp,uK5]at this
 split at this
 .omega
 .split at this
  .omega
  .split at this
   .omega
   .split at this<;>omega
theorem zKI(l:List (List DecL×NodeL))(e d:DecL)(p:List DecL):((l.map fun q=>(e::q.1,q.2)).find? fun q=>q.1=d::p).map (·.2)=if e=d then(l.find? fun q=>q.1=p).map (·.2) else none:=by
 induction l with
 | nil=>simp
 | cons a l ih =>
   rw[rBN,List.find?_cons,List.find?_cons];by_cases he:e=d
   .subst he
    rw[rAV rfl]at ih ⊢;by_cases ha:a.1=p
    .simp[ha]
    .simp only[rEY,rEB,ha,rC6]
     simpa using ih
   .rw[rAN he]at ih ⊢
    simp only[rEY,he,rEU,rC6]
    simpa [he]using ih
theorem uKO:∀ (path:List DecL) (d:Nat) (x:NodeL),vBG d x=true->(x.all.find? fun q=>q.1=path).map (·.2)=atF x path:=by
 intro path
 induction path with
 | nil =>
   intro d x _;rw[x.all_eq,NodeL.upto,List.find?_cons];simp[atF]
 | cons e p ih =>
   intro d x hx;by_cases hk:x.kids.length=0
   .rw[x.all_eq,hk,x.upto_zero]
    have:vBX x e=none:=by unfold vBX; rw[hk]; rfl
    simp[atF,this]
   .have hin:=zA1 (d:=d) hk
    rw[hx]at hin;have hin:=hin.symm;simp only[rAO,rAX]at hin
    have h2:x.kids.length=2/\1<=x.split.kind/\x.split.kind<=4:=by
     have:=hin.1.1;simp only[vBV,rAX]at this;exact⟨this.1,this.2.1,this.2.2.1⟩
    obtain⟨h2,h3,h4⟩:=h2;have hf:=zCM (d:=d) h2;rw[hx]at hf;have hf:=hf.symm;simp only[rAO]at hf;have hne:=uFF h3 h4;rw[x.all_eq,h2,x.upto_succ zom,x.upto_succ zom,x.upto_zero,List.find?_append,List.find?_append];have i0:=ih (d - 1) x.kids[0]! hf.2.1;have i1:=ih (d - 1) x.kids[1]! hf.2.2;have f0:=zKI x.kids[0]!.all (vCI x 0) e p;have f1:=zKI x.kids[1]!.all (vCI x 1) e p;have hs:([([],x)]:List (List DecL×NodeL)).find? (fun q=>q.1=e::p)=none:=by simp
    rw[hs,Option.none_or,Option.map_or,f0,f1];have k0:vCI x 0=x.split:=by simp[vCI]
    have k1:vCI x 1=opp x.split:=by simp[vCI]
    by_cases e0:vCI x 0=e
    .rw[rAV e0,i0]
     have e1:¬ vCI x 1=e:=by rw[<- e0,k0,k1]; exact hne
     rw[rAN e1,Option.or_none];simp only[atF,zLM zom e0]
    .rw[rAN e0,Option.none_or]
     by_cases e1:vCI x 1=e
     .rw[rAV e1,i1]
      have:vBX x e=some 1:=by unfold vBX; rw[h2]; simp[rEW,e0,e1]
      simp only[atF,this]
     .rw[rAN e1]
      have:vBX x e=none:=by unfold vBX; rw[h2]; simp[rEW,e0,e1]
      simp only[atF,this]
theorem uP4(x:NodeL)(path:List DecL):atL x path=atV x path:=by
 unfold atL atV vDI
 split
 .rename_i h
  simp only[NodeL.valid,rAO]at h;exact uKO path 2048 x h.1
 .rfl
theorem vN1(w:NodeL):∀ (path:List DecL) (x:NodeL),(atF x path).isSome=(vCG w x path).isSome
 | [],x=>rfl
 | d::p,x=>by
   simp only[atF,vCG];cases vBX x d with
   | none=>rfl
   | some i=>simp only[Option.isSome_map]; exact vN1 w p _
theorem vHI:FO 18 Tryz.f18 [.cell 6 32,.tmp 7] 38:=mkO Tryz.func18 Tryz.ntmps18 Tryz.results18
theorem vK4(w x:NodeL)(path:List DecL)(hs:x.Sm)(hw:w.Sm)(hwt:x.wt<2097151)(hp:vOH path):Fn 18 [vA6 x,.imm (path.map vA9),vA6 w] (.data (.tup [vA6 (vEG w x path).1,.int .i64 (vEG w x path).2])):=by
 refine zAK vBC hT vHI zsm ?_;refine sns ?_;refine zAA (zEC x hs) rfl ?_
 refine gon ?_ ?_<;>intro h
 .refine zAA (zEC w hw) rfl ?_
  refine gon ?_ ?_<;>intro h
  .have hx:=h
   have hxv:x.valid=true:=by assumption
   refine zAA (uKC x path hs hwt hp) rfl ?_;have hat:(atL x path).isSome=(vCG w x path).isSome:=by rw[uP4,atV,hxv,rAV rfl]; exact vN1 w path x
   cases hr:vCG w x path with
   | none =>
     rw[hr]at hat;rw[hat];refine sns ?_;have:vEG w x path=(zeroN,10):=by simp[vEG,hxv,hx,hr]
     rw[this]; exact rGV
   | some k =>
     rw[hr]at hat;rw[hat];have hk:=vMB hr;have hsm:k.Sm:=by rw[<- hk]; exact vMA hw hs (by rw[hr]; rfl)
     have hput:=uPQ w path x hs hp.1 (by rw[hr]; rfl) hp.2;rw[hk]at hput;refine sns ?_;refine zAA hput rfl ?_;refine sns ?_;refine zAA (zEC k hsm) rfl ?_
     refine gon ?_ ?_<;>intro h
     .have:vEG w x path=(k,0):=by simp[vEG,hxv,hx,hr,h]
      rw[this]; exact rGV
     .have:vEG w x path=(zeroN,8):=by simp[vEG,hxv,hx,hr,h]
      rw[this]; exact rGV
  .have hxv:x.valid=true:=by assumption
   have:vEG w x path=(zeroN,1):=by simp[vEG,hxv,h]
   rw[this]; exact rGV
 .have:vEG w x path=(zeroN,1):=by simp[vEG,h]
  rw[this]; exact rGV
end Go.PI.Tryz
