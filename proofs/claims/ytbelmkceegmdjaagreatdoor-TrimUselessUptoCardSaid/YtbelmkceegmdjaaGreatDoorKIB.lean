/-
  Rationals: Of, Sign, Cmp, Add, Mul.
-/
import Derived.Test.YtbelmkceegmdjaaGreatDoorKNA
set_option linter.unusedVariables false
set_option linter.unusedSimpArgs false
set_option linter.unnecessarySimpa false
set_option maxHeartbeats 0
namespace Go.PI.Tryz
open Go.Proofs Go.PI
theorem uC7:FO 157 Tryz.f157 [.cell 4 101] 16:=mkO Tryz.func157 Tryz.ntmps157 Tryz.results157
theorem zOQ(b:Bool)(xs:List Int)(hx:okN xs)(hl:xs.length<2147483646):Fn 157 [.bool b,vBK xs] (.data (vB0 (cz (sg b (nv xs))))):=by
 rw[uKC];have ct:=zON xs hx zom;have hz:vBG (nv xs)=[]↔nv xs=0:=⟨zC0,fun h=>by rw[h]; rfl⟩;refine zAL vBC hT uC7 zsm ?_;refine sts ?_;refine zAA ct rfl ?_
 refine gob ?_ ?_<;>intro h
 .refine zAB rfl ?_
  subst h;have:(0<(vBG (nv xs)).length)↔nv xs≠0:=by rw[rDO,ne_eq,hz]
  simp[vB0,this]
 .subst h
  exact rGV
theorem uM0:FO 162 Tryz.f162 [.cell 2 101] 14:=mkO Tryz.func162 Tryz.ntmps162 Tryz.results162
theorem uQC(x:Int)(hx:-9223372036854775808<=x/\x<9223372036854775808):Fn 162 [.int .i64 x] (.data (vB0 (cz x))):=by
 refine zAL vBC hT uM0 zsm ?_
 refine gob ?_ ?_<;>intro h
 .refine zIV ?_
  refine sts ?_;refine zIV ?_;have e:(0 - x % 18446744073709551616) % 18446744073709551616=((x.natAbs:Nat):Int):=by omega
  refine sts ?_;rw[e];refine zAA (uE1 x.natAbs zom) rfl ?_;refine sts ?_;refine zAB rfl ?_;simp[vB0,cz,h]
 .refine zAA (uE1 x.natAbs zom) (by rw[Int.natAbs_of_nonneg zom]; rfl) ?_
  refine sts ?_;refine zAB rfl ?_;simp[vB0,cz,h]
theorem uC6:FO 131 Tryz.f131 [.tmp 2] 11:=mkO Tryz.func131 Tryz.ntmps131 Tryz.results131
theorem vNO(x:IntL)(hx:okN x.mag)(hl:x.mag.length<2147483646):Fn 131 [vB0 x] (.data (.int .i64 (iv x).sign)):=by
 have cb:=vZV x.mag hx zom;have hz:=zP6 (nv x.mag);unfold iv;rw[uFN];refine zAL vBC hT uC6 (by simp[vB0]) ?_;refine sts ?_;refine zAA cb rfl ?_
 (repeat' (first|refine stp ?_|with_reducible(refine brr ?_ ?_<;>intro h)));all_goals try(conv=>whnf)
 .refine zAB rfl ?_
  rw[rAU (hz.1 h)]
 .refine zAB rfl ?_
  rw[rAM zom,h,rAU rfl]
 .refine zAB rfl ?_
  rw[rAM zom,h]; rfl
theorem zHN(z:Int):z.sign=-1/\z<0\/z.sign=0/\z=0\/z.sign=1/\0<z:=by
 rcases rE8 z 0 with h | h | h
 .exact rAW ⟨rDZ h,h⟩
 .exact rA0 (rAW ⟨by rw[h]; rfl,h⟩)
 .exact rA0 (rA0 ⟨rEG h,h⟩)
theorem uEM{x y:IntL}(h1:iv x<0)(h2:iv y<0):vEK (iv x) (iv y)=vEK (nv y.mag) (nv x.mag):=by
 unfold iv sg at *
 unfold vEK
 split at h1<;>split at h2<;>try omega
 rename_i e1 e2
 rw[rAU e1,rAU e2]
 repeat' split
 all_goals omega
theorem uEL{x y:IntL}(h1:0<=iv x)(h2:0<=iv y):vEK (iv x) (iv y)=vEK (nv x.mag) (nv y.mag):=by
 unfold iv sg at *
 unfold vEK
 split at h1<;>split at h2<;>rename_i e1 e2<;>simp only[e1,e2,rCI,rCL,rCF,ite_true,ite_false]
 all_goals repeat' split
 all_goals omega
theorem uJD:FO 129 Tryz.f129 [.tmp 4] 32:=mkO Tryz.func129 Tryz.ntmps129 Tryz.results129
theorem uOE(x y:IntL)(hx:okN x.mag)(hy:okN y.mag)(hl:x.mag.length<2147483646)(hl2:y.mag.length<2147483646):Fn 129 [vB0 x,vB0 y] (.data (.int .i64 (vEK (iv x) (iv y)))):=by
 have cs1:=vNO x hx hl;have cs2:=vNO y hy hl2;have cc1:=zOP x.mag y.mag hx hy zom zom;have cc2:=zOP y.mag x.mag hy hx zom zom;have k1:=zHN (iv x);have k2:=zHN (iv y);refine zAL vBC hT uJD (by simp[vB0]) ?_;refine sts ?_;refine zAA cs1 rfl ?_;refine sts ?_;refine zAA cs2 rfl ?_
 (repeat' (first|refine stp ?_|with_reducible(refine brr ?_ ?_<;>intro h)));all_goals try(conv=>whnf)
 .refine zAB rfl ?_
  rw[show vEK (iv x) (iv y)=-1 by unfold vEK; rw[rAU zom]]
 .refine zAB rfl ?_
  rw[show vEK (iv x) (iv y)=1 by unfold vEK; rw[rAM zom,rAU zom]]
 .refine zAA cc2 rfl ?_
  refine sts ?_;refine zAB rfl ?_;rw[uEM zom zom]
 .refine zAA cc1 rfl ?_
  refine sts ?_;refine zAB rfl ?_;rw[uEL zom zom]
theorem zFY{xs:List Int}(h:okN xs){n:Nat}(hn:n<=nv xs):(vBG n).length<=xs.length:=zB5 (rE3 hn (zES h))
theorem zKC{xs ys:List Int}(h1:okN xs)(h2:okN ys):(vBG (nv xs+nv ys)).length<=max xs.length ys.length+1 :=
 vKB (rA4 (zES h1) (zFO (Nat.le_max_left ..))) (rA4 (zES h2) (zFO (Nat.le_max_right ..)))
theorem zC9{xs ys:List Int}(h1:okN xs)(h2:okN ys):(vBG (nv xs * nv ys)).length<=xs.length+ys.length:=zB5 (zEN (zES h1) (zES h2))
theorem uJE:FO 185 Tryz.f185 [.cell 4 101] 40:=mkO Tryz.func185 Tryz.ntmps185 Tryz.results185
theorem uOF (x y : IntL) (hx : okN x.mag) (hy : okN y.mag) (hl:x.mag.length<2147483644) (hl2:y.mag.length<2147483644):Fn 185 [vB0 x,vB0 y] (.data (vB0 (cz (iv x+iv y)))):=by
 have ca:=uN5 x.mag y.mag hx hy zom zom;have cc:=zOP x.mag y.mag hx hy zom zom;have cs1:=uGP x.mag y.mag hx hy zom zom;have cs2:=uGP y.mag x.mag hy hx zom zom;refine zAL vBC hT uJE (by simp[vB0]) ?_
 refine gob ?_ ?_<;>intro h
 .refine zAA ca rfl ?_
  refine sts ?_;have cm:=zOQ x.neg (vBG (nv x.mag+nv y.mag)) (zAP _) (by have:=zAV hx; have:=zKC hx hy; omega);rw[zAR]at cm;refine zAA cm rfl ?_;refine sts ?_;refine zAB rfl ?_;rw[show iv x+iv y=sg x.neg (nv x.mag+nv y.mag) by unfold iv; rw[<- h]; unfold sg; split<;>omega]; rfl
 .refine zAA cc rfl ?_
  have hlt:=zOA (nv x.mag) (nv y.mag)
  refine gob ?_ ?_<;>intro h
  .unfold vTK at cs2
   rw[rAM zom]at cs2;refine zAA cs2 rfl ?_;refine sts ?_;have cm:=zOQ y.neg (vBG (nv y.mag - nv x.mag)) (zAP _) (by have:=zFY hy (n:=nv y.mag - nv x.mag) zom; omega);rw[zAR]at cm;refine zAA cm rfl ?_;refine sts ?_;refine zAB rfl ?_
   rw [show iv x + iv y = sg y.neg (nv y.mag - nv x.mag) by have:x.neg=!y.neg:=by(cases hh:x.neg<;>cases hh':y.neg<;>simp_all)
                                                            unfold iv; rw[this,zO7]; unfold sg; split<;>omega]
   rfl
  .unfold vTK at cs1
   rw[rAM zom]at cs1;refine zAA cs1 rfl ?_;refine sts ?_;have cm:=zOQ x.neg (vBG (nv x.mag - nv y.mag)) (zAP _) (by have:=zFY hx (n:=nv x.mag - nv y.mag) zom; omega);rw[zAR]at cm;refine zAA cm rfl ?_;refine sts ?_;refine zAB rfl ?_
   rw [show iv x + iv y = sg x.neg (nv x.mag - nv y.mag) by have:y.neg=!x.neg:=by(cases hh:x.neg<;>cases hh':y.neg<;>simp_all)
                                                            unfold iv; rw[this,zO7]; unfold sg; split<;>omega]
   rfl
theorem uJC:FO 155 Tryz.f155 [.cell 4 101] 16:=mkO Tryz.func155 Tryz.ntmps155 Tryz.results155
theorem uGV(x y:IntL)(hx:okN x.mag)(hy:okN y.mag)(hl:x.mag.length<1073741818)(hl2:y.mag.length<1073741818):Fn 155 [vB0 x,vB0 y] (.data (vB0 (cz (iv x * iv y)))):=by
 have ca:=vQT x.mag y.mag hx hy zom zom;refine zAL vBC hT uJC (by simp[vB0]) ?_;refine sts ?_;refine zAA ca rfl ?_;refine sts ?_;have cm:=zOQ (x.neg != y.neg) (vBG (nv x.mag * nv y.mag)) (zAP _) (by have:=zC9 hx hy; omega);rw[zAR]at cm;refine zAA cm rfl ?_;refine sts ?_;refine zAB rfl ?_;rw[vUT]; rfl
theorem uIN:FO 182 Tryz.f182 [.tmp 0] 2:=mkO Tryz.func182 Tryz.ntmps182 Tryz.results182
theorem uGO:Fn 182 [] (.data (vBK [1])):=by
 refine zAL vBC hT uIN zsm ?_;refine sts ?_;exact rGV
theorem uCT:FO 179 Tryz.f179 [.tmp 2] 12:=mkO Tryz.func179 Tryz.ntmps179 Tryz.results179
theorem vNN(xs:List Int)(hl:xs.length<2147483646):Fn 179 [vBK xs] (.data (.bool (decide (xs=[1])))):=by
 refine zAL vBC hT uCT zsm ?_
 refine gob ?_ ?_<;>intro h
 .obtain⟨x,rfl⟩:=rFD.1 (show xs.length=1 by omega)
  refine zAB rfl ?_;simp[vQ1]
 .refine zAB rfl ?_
  have:xs≠[1]:=fun e=>h (by rw[e]; rfl)
  simp[this]
def und(d:List Int):List Int:=if nv d=0 then [1] else d
theorem zEZ(d:List Int):nv (und d)=dn d:=by unfold und dn; split<;>simp[nv]
theorem zFB{d:List Int}(h:okN d):okN (und d):=by unfold und; split; exact okN_cons.2 ⟨zdd,zD9⟩; exact h
theorem zE6(d:List Int):(und d).length<=d.length+1:=by unfold und; split<;>simp
theorem vW2:FO 153 Tryz.f153 [.tmp 2] 10:=mkO Tryz.func153 Tryz.ntmps153 Tryz.results153
theorem zG7(x:RatL)(hx:okR x)(hl:x.den.length<2147483646):Fn 153 [vA5 x] (.data (vBK (und x.den))):=by
 have cb:=vZV x.den hx.2 zom;have hz:=zP6 (nv x.den);refine zAL vBC hT vW2 (by simp[vA5]) ?_;refine sts ?_;refine zAA cb rfl ?_
 refine gob ?_ ?_<;>intro h
 .refine zAA uGO rfl ?_
  refine sts ?_;refine zAB rfl ?_;rw[und,rAU (hz.1 h)]
 .refine zAB rfl ?_
  rw[und,rAM (fun e=>h (hz.2 e))]
theorem vSG:FO 132 Tryz.f132 [.cell 2 101] 8:=mkO Tryz.func132 Tryz.ntmps132 Tryz.results132
theorem zOL(x:RatL)(hx:okR x)(hl:x.num.length<2147483646):Fn 132 [vA5 x] (.data (vB0 (cz (sg x.neg (nv x.num))))):=by
 have cm:=zOQ x.neg x.num hx.1 hl;refine zAL vBC hT vSG (by simp[vA5]) ?_;refine sts ?_;refine zAA cm rfl ?_;refine sts ?_;exact rGV
theorem uCV:FO 152 Tryz.f152 [.cell 6 26] 47:=mkO Tryz.func152 Tryz.ntmps152 Tryz.results152
theorem vIB(b:Bool)(xs ys:List Int)(hx:okN xs)(hy:okN ys)(h0:nv ys≠0)(hl:xs.length<2147483636)(hl2:ys.length<2147483636):Fn 152 [.bool b,vBK xs,vBK ys] (.data (vA5 (cr (mkRat (sg b (nv xs)) (nv ys))))):=by
 have cm1:=zON xs hx zom;have cm2:=zON ys hy zom;have h1:=zAV hx;have h2:=zAV hy;have hone:∀ n,vBG n=[1]↔n=1:=fun n=>⟨fun h=>by rw[<- zAR n,h]; rfl,fun h=>by rw[h]; rfl⟩
 have hnil:∀ n,vBG n=[]↔n=0:=fun n=>⟨zC0,fun h=>by rw[h]; rfl⟩
 rw[uKF _ _ h0];generalize nv xs=N at *
 generalize nv ys=D at *
 have cg:=uN4 (vBG N) (vBG D) (zAP _) (zAP _) zom zom;rw[zAR,zAR]at cg;have hg0:Nat.gcd N D≠0:=fun e=>h0 (rFQ e)
 have hg1:N=0->Nat.gcd N D=D:=fun e=>by rw[e,Nat.gcd_zero_left]
 have hg2:D=1->Nat.gcd N D=1:=fun e=>by rw[e,Nat.gcd_one_right]
 have hgl:(vBG (Nat.gcd N D)).length<=(vBG D).length:=zDT (Nat.gcd_le_right _ zom);generalize Nat.gcd N D=G at *
 have cd1:=zOO (vBG N) (vBG G) (zAP _) (zAP _) zom zom;have cd2:=zOO (vBG D) (vBG G) (zAP _) (zAP _) zom zom;rw[zAR,zAR,rAM hg0,rAM hg0]at cd1 cd2;have cu1:=vNN (vBG D) zom;have cu2:=vNN (vBG G) zom;have hl3:(vBG (D / G)).length<=(vBG D).length:=zDT (rDY ..);have cu3:=vNN (vBG (D / G)) zom;simp only[hone]at cu1 cu2 cu3;refine zAL vBC hT uCV zsm ?_;refine sts ?_;refine zAA cm1 rfl ?_
 refine gob ?_ ?_<;>intro h
 .have e:=(hnil N).1 (rAZ.1 zom)
  refine zAB rfl ?_;have e2:=hg1 e;subst e e2;simp[vA5,zDM,Nat.div_self (Nat.pos_of_ne_zero h0)]
 refine zAA cm2 rfl ?_;refine sts ?_;refine zAA cu1 rfl ?_
 refine gob ?_ ?_<;>intro h
 .have e2:=hg2 h
  subst h e2;have hN:N≠0:=fun e=>by rw[(hnil N).2 e]at *; simp at *
  refine zAB rfl ?_;simp[vA5,hN]
 have hN:N≠0:=fun e=>by rw[(hnil N).2 e]at *; simp at *
 rw[show(b && decide (N≠0))=b by simp[hN]];refine zAA cg rfl ?_;refine sts ?_;refine zAA cu2 rfl ?_
 refine gob ?_ ?_<;>intro h
 .subst h
  simp only[Nat.div_one];have hD1:D≠1:=by assumption
  rw[rAM hD1];refine zAA cu1 rfl ?_
  refine gob ?_ ?_<;>intro h
  .exact absurd h hD1
  .exact rGV
 .refine zAA cd1 rfl ?_
  refine sts ?_;refine zAA cd2 rfl ?_;refine sts ?_;refine zAA cu3 rfl ?_
  refine gob ?_ ?_<;>intro h
  .rw[rAU h]
   exact rGV
  .rw[rAM h]
   exact rGV
theorem vW4:FO 126 Tryz.f126 [.cell 2 26] 10:=mkO Tryz.func126 Tryz.ntmps126 Tryz.results126
theorem zM8(x:RatL)(hx:okR x)(hl:x.num.length<2147483626)(hl2:x.den.length<2147483626):Fn 126 [vA5 x] (.data (vA5 (cr (qv x)))):=by
 have cu:=zG7 x hx zom;have hl3:=zE6 x.den;have cq:=vIB x.neg x.num (und x.den) hx.1 (zFB hx.2) (by rw[zEZ]; exact zDA _) zom zom;rw[zEZ]at cq;refine zAL vBC hT vW4 (by simp[vA5]) ?_;refine sts ?_;refine zAA cu rfl ?_;refine sts ?_;refine zAA cq rfl ?_;refine sts ?_;exact rGV
theorem vU2{xs ys:List Int}(h1:okN xs)(h2:okN ys)(hl:xs.length=ys.length)(h:nv xs=nv ys):xs=ys:=by
 rw[<- zMZ h1,<- zMZ h2,hl,h]
theorem vY1(a b:Nat):vEK a b=0↔a=b:=by
 unfold vEK
 repeat' split
 all_goals omega
theorem vQ9{xs:List Int}(h:okN xs):vFM xs=true↔xs=vBG (nv xs):=by
 have e:vFM xs=true↔vNG xs:=by
  unfold vFM vNG;rw[rAY];by_cases h0:xs=[]
  .exact⟨fun _=>⟨h,rAW h0⟩,fun _=>rAW h0⟩
  have hl:xs.length≠0:=fun e=>h0 (rAZ.1 e)
  rw[rAT xs _ zom,rD2,rAQ zom];refine⟨fun h1=>⟨h,h1.imp id fun h2=>by simpa using h2⟩,fun h1=>h1.2.imp id fun h2=>by simpa using h2⟩
 rw[e];exact⟨fun h=>(zNX h).symm,fun h=>by rw[h]; exact zEK _⟩
theorem uL0{x:RatL}(h:okN x.num)(hd:x.den=[]):x=⟨x.neg && decide (nv x.num≠0),vBG (nv x.num),[]⟩↔(vFM x.num=true/\(x.neg=true->0<x.num.length)):=by
 obtain⟨b,n,d⟩:=x;dsimp only at *
 subst hd;rw[vQ9 h];simp only[RatL.mk.injEq,rE9];constructor
 .rintro⟨h1,h2⟩
  refine⟨h2,fun hb=>?_⟩;rw[hb]at h1;have:nv n≠0:=by simpa using h1
  exact rDO.2 fun e=>this (by rw[e]; rfl)
 .rintro⟨h1,h2⟩
  refine⟨?_,h1⟩;cases b
  .rfl
  .have:nv n≠0:=fun e=>by rw[h1,e]at h2; simp[zDM]at h2
   simp[this]
theorem vW1:FO 94 Tryz.f94 [.tmp 2] 63:=mkO Tryz.func94 Tryz.ntmps94 Tryz.results94
theorem zG6(x:RatL)(hx:okR x)(hl:x.num.length<2147483626)(hl2:x.den.length<2147483626):Fn 94 [vA5 x] (.data (.bool (decide (x=cr (qv x))))):=by
 have cv:=uE0 x.num zom;have cc:=zM8 x hx hl hl2;have hL:=zBM (vIX hx (k:=max (max x.num.length x.den.length) 1) zom zom zom);have ho:=zBE (qv x)
 have hx0:x.den=[]->cr (qv x)=⟨x.neg && decide (nv x.num≠0),vBG (nv x.num),[]⟩:=fun h=>by
  unfold qv; rw[h,show dn []=1 from rfl,uKF _ _ zdd]; simp
 generalize cr (qv x)=c at *
 have c1:=zOP x.num c.num hx.1 ho.1 zom zom;have c2:=zOP x.den c.den hx.2 ho.2 zom zom;refine zAL vBC hT vW1 (by simp[vA5]) ?_
 refine gob ?_ ?_<;>intro h
 .refine zAA cv rfl ?_
  have hd:x.den=[]:=rAZ.1 zom;have hx1:=hx0 hd;have key:x=c↔(vFM x.num=true/\(x.neg=true->0<x.num.length)):=by rw[hx1]; exact uL0 hx.1 hd
  clear hx1 hx0 hL
  (repeat' (first|refine stp ?_|with_reducible(refine brr ?_ ?_<;>intro h)));all_goals try(conv=>whnf)
  .refine zAB rfl (rA3 PV.bool ?_)
   simp_all
  .refine zAB rfl (rA3 PV.bool ?_)
   simp_all
  .refine zAB rfl (rA3 PV.bool ?_)
   simp_all
 .refine zAA cc rfl ?_
  have n1:x=c->x.neg=c.neg/\x.num=c.num/\x.den=c.den:=fun e=>by rw[<- e]; exact⟨rfl,rfl,rfl⟩
  have e1:=vY1 (nv x.num) (nv c.num);have e2:=vY1 (nv x.den) (nv c.den)
  (repeat' (first|refine stp ?_|with_reducible(refine brr ?_ ?_<;>intro h)));all_goals try(conv=>whnf)
  .refine zAA c1 rfl ?_
   refine gob ?_ ?_<;>intro h
   .refine zAA c2 rfl ?_
    refine sts ?_;refine zAB rfl (rA3 PV.bool ?_);rw[vQ1];refine rCW.2 ⟨fun h4=>?_,fun h4=>e2.2 (by rw[(n1 h4).2.2])⟩;have a1:=vU2 hx.1 ho.1 zom (e1.1 rAC);have a2:=vU2 hx.2 ho.2 zom (e2.1 h4);have a3:x.neg=c.neg:=by assumption
    cases x; cases c; simp_all
   .refine zAB rfl (rA3 PV.bool ?_)
    exact(rBD fun e=>h (e1.2 (by rw[(n1 e).2.1]))).symm
  .refine zAB rfl (rA3 PV.bool ?_)
   exact(rBD fun e=>h (by rw[(n1 e).2.2])).symm
  .refine zAB rfl (rA3 PV.bool ?_)
   exact(rBD fun e=>h (by rw[(n1 e).2.1])).symm
  .refine zAB rfl (rA3 PV.bool ?_)
   exact(rBD fun e=>h (n1 e).1).symm
theorem vW0:FO 161 Tryz.f161 [.cell 2 26] 9:=mkO Tryz.func161 Tryz.ntmps161 Tryz.results161
theorem uEY(z:Int)(hl:(vBG z.natAbs).length<2147483626):Fn 161 [vB0 (cz z)] (.data (vA5 (cr z))):=by
 have cq:=vIB (cz z).neg (cz z).mag [1] (zAP _) (by rw[okN_cons]; exact⟨zdd,zD9⟩) zdd (by show(vBG _).length<_; omega) zdd;rw[show sg (cz z).neg (nv (cz z).mag)=z from zN2 z,show nv [1]=1 from rfl,Rat.mkRat_one]at cq;refine zAL vBC hT vW0 (by simp[vB0]) ?_;refine sts ?_;refine zAA uGO rfl ?_;refine sts ?_;refine zAA cq rfl ?_;refine sts ?_;exact rGV
theorem uMW:FO 134 Tryz.f134 [.cell 2 26] 6:=mkO Tryz.func134 Tryz.ntmps134 Tryz.results134
theorem uK1(x:Int)(hx:-9223372036854775808<=x/\x<9223372036854775808):Fn 134 [.int .i64 x] (.data (vA5 (cr x))):=by
 have hle:x.natAbs<pw 2:=by rw[zA9,zA9,zDG]; omega
 have hl:=zB5 hle;refine zAL vBC hT uMW zsm ?_;refine sts ?_;refine zAA (uQC x hx) rfl ?_;refine sts ?_;refine zAA (uEY x zom) rfl ?_;refine sts ?_;exact rGV
theorem uCU:FO 98 Tryz.f98 [.tmp 2] 6:=mkO Tryz.func98 Tryz.ntmps98 Tryz.results98
theorem zF8(x:RatL)(hx:okR x)(hl:x.num.length<2147483636):Fn 98 [vA5 x] (.data (.int .i64 (vDL (qv x)))):=by
 have cs:=zOL x hx zom;have h2:=zAV hx.1;have ci:=vNO (cz (sg x.neg (nv x.num))) (zAP _) (by show(vBG _).length<_; rw[zGE]; omega);rw[zN2,<- vLX]at ci;refine zAL vBC hT uCU (by simp[vA5]) ?_;refine sts ?_;refine zAA cs rfl ?_;refine sts ?_;refine zAA ci rfl ?_;refine sts ?_;exact rGV
theorem vW3:FO 128 Tryz.f128 [.cell 4 101,.cell 5 101] 22:=mkO Tryz.func128 Tryz.ntmps128 Tryz.results128
theorem vQQ(x y:RatL)(hx:okR x)(hy:okR y)(hl1:x.num.length<1000000000)(hl2:x.den.length<1000000000)(hl3:y.num.length<1000000000)(hl4:y.den.length<1000000000):Fn 128 [vA5 x,vA5 y] (.data (.tup [vB0 (cz (sg x.neg (nv x.num) * dn y.den)),vB0 (cz (sg y.neg (nv y.num) * dn x.den))])):=by
 have cs1:=zOL x hx zom;have cs2:=zOL y hy zom;have cu1:=zG7 x hx zom;have cu2:=zG7 y hy zom;have h1:=zAV hx.1;have h2:=zAV hy.1;have u1:=zE6 x.den;have u2:=zE6 y.den;have cm1:=uGV (cz (sg x.neg (nv x.num))) ⟨false,und y.den⟩ (zAP _) (zFB hy.2) (by show(vBG _).length<_; rw[zGE]; omega) (by show(und _).length<_; omega);have cm2:=uGV (cz (sg y.neg (nv y.num))) ⟨false,und x.den⟩ (zAP _) (zFB hx.2) (by show(vBG _).length<_; rw[zGE]; omega) (by show(und _).length<_; omega);rw[zN2,show iv ⟨false,und y.den⟩=dn y.den by show sg false _=_; rw[zEZ]; rfl]at cm1;rw[zN2,show iv ⟨false,und x.den⟩=dn x.den by show sg false _=_; rw[zEZ]; rfl]at cm2;refine zAL vBC hT vW3 (by simp[vA5]) ?_;refine sts ?_;refine zAA cu1 rfl ?_;refine sts ?_;refine zAA cu2 rfl ?_;refine sts ?_;refine zAA cs1 rfl ?_;refine sts ?_;refine zAA cm1 rfl ?_;refine sts ?_;refine zAA cs2 rfl ?_;refine sts ?_;refine zAA cm2 rfl ?_;refine sts ?_;exact rGV
theorem uKI(X Y:Int):(X - Y).sign=vEK X Y:=by
 have:=zHN (X - Y);unfold vEK
 repeat' split
 all_goals omega
theorem vP8{z1 z2:Int}{d1 d2:Nat}(h1:d1≠0)(h2:d2≠0)(h:z1.sign<z2.sign):z1 * d2<z2 * d1:=by
 have e1:(z1 * d2).sign=z1.sign:=by rw[Int.sign_mul,rF8 h2,Int.mul_one]
 have e2:(z2 * d1).sign=z2.sign:=by rw[Int.sign_mul,rF8 h1,Int.mul_one]
 have:=zHN (z1 * d2);have:=zHN (z2 * d1);omega
theorem zLQ{z:Int}{d:List Int}{j:Nat}{xs:List Int}(h1:okN xs)(h:z.natAbs=nv xs)(hd:okN d)(hj:xs.length+d.length+1<=j):(vBG (z * (dn d:Nat)).natAbs).length<=j:=by
 refine zB5 ?_;rw[rEO,h,Int.natAbs_natCast];exact rA4 (zEN (zES h1) (uKB hd (rC3 _) zom)) (zFO zom)
theorem uIP:FO 95 Tryz.f95 [.tmp 4] 28:=mkO Tryz.func95 Tryz.ntmps95 Tryz.results95
theorem uN2(x y:RatL)(hx:okR x)(hy:okR y)(hl1:x.num.length<1000000000)(hl2:x.den.length<1000000000)(hl3:y.num.length<1000000000)(hl4:y.den.length<1000000000):Fn 95 [vA5 x,vA5 y] (.data (.int .i64 (vDL (qv x - qv y)))):=by
 have cs1:=zF8 x hx zom;have cs2:=zF8 y hy zom;have cc:=vQQ x y hx hy hl1 hl2 hl3 hl4;have k1:=zLQ (z:=sg x.neg (nv x.num)) hx.1 (zGE ..) hy.2 (rAR _);have k2:=zLQ (z:=sg y.neg (nv y.num)) hy.1 (zGE ..) hx.2 (rAR _);have ci:=uOE (cz (sg x.neg (nv x.num) * dn y.den)) (cz (sg y.neg (nv y.num) * dn x.den)) (zAP _) (zAP _) (by show(vBG _).length<_; omega) (by show(vBG _).length<_; omega);rw[uBK,uKI];rw[zN2,zN2]at ci;have m1:=vP8 (z1:=sg x.neg (nv x.num)) (z2:=sg y.neg (nv y.num)) (zDA x.den) (zDA y.den);have m2:=vP8 (z1:=sg y.neg (nv y.num)) (z2:=sg x.neg (nv x.num)) (zDA y.den) (zDA x.den);rw[vLX]at cs1 cs2;refine zAL vBC hT uIP (by simp[vA5]) ?_;refine sts ?_;refine zAA cs1 rfl ?_;refine sts ?_;refine zAA cs2 rfl ?_
 (repeat' (first|refine stp ?_|with_reducible(refine brr ?_ ?_<;>intro h)));all_goals try(conv=>whnf)
 .refine zAB rfl ?_
  have:=m1 h;unfold vEK; rw[rAU this]
 .refine zAB rfl ?_
  have:=m2 zom;unfold vEK; rw[rAM zom,rAU this]
 .refine zAA cc rfl ?_
  refine sts ?_;refine zAA ci rfl ?_;refine sts ?_;exact rGV
theorem uIQ:FO 158 Tryz.f158 [.cell 4 26] 27:=mkO Tryz.func158 Tryz.ntmps158 Tryz.results158
theorem vQR(x y:RatL)(hx:okR x)(hy:okR y)(hl1:x.num.length<1000000000)(hl2:x.den.length<1000000000)(hl3:y.num.length<1000000000)(hl4:y.den.length<1000000000):Fn 158 [vA5 x,vA5 y] (.data (vA5 (cr (qv x+qv y)))):=by
 have cc:=vQQ x y hx hy hl1 hl2 hl3 hl4;have cu1:=zG7 x hx zom;have cu2:=zG7 y hy zom;have u1:=zE6 x.den;have u2:=zE6 y.den;have k1:=zLQ (z:=sg x.neg (nv x.num)) hx.1 (zGE ..) hy.2 (rAR _);have k2:=zLQ (z:=sg y.neg (nv y.num)) hy.1 (zGE ..) hx.2 (rAR _);have ca:=uOF (cz (sg x.neg (nv x.num) * dn y.den)) (cz (sg y.neg (nv y.num) * dn x.den)) (zAP _) (zAP _) (by show(vBG _).length<_; omega) (by show(vBG _).length<_; omega);rw[zN2,zN2]at ca;have cm:=vQT (und x.den) (und y.den) (zFB hx.2) (zFB hy.2) zom zom;rw[zEZ,zEZ]at cm;rw[uFY]
 have kl:(vBG (sg x.neg (nv x.num) * (dn y.den:Nat)+sg y.neg (nv y.num) * (dn x.den:Nat)).natAbs).length<2000000010:=by
  obtain⟨K,hK⟩:∃ K:Nat,K=2000000003:=⟨_,rfl⟩
  have e1:(sg x.neg (nv x.num) * (dn y.den:Nat)).natAbs<pw K:=by
   have:=zES (zAP (sg x.neg (nv x.num) * (dn y.den:Nat)).natAbs);rw[zAR]at this; exact rA4 this (zFO zom)
  have e2:(sg y.neg (nv y.num) * (dn x.den:Nat)).natAbs<pw K:=by
   have:=zES (zAP (sg y.neg (nv y.num) * (dn x.den:Nat)).natAbs);rw[zAR]at this; exact rA4 this (zFO zom)
  have e3:=zA9 K;have:=zB5 (n:=(sg x.neg (nv x.num) * (dn y.den:Nat)+sg y.neg (nv y.num) * (dn x.den:Nat)).natAbs) (k:=K+1) zom;omega
 have hd:dn x.den * dn y.den≠0:=rDX (zDA _) (zDA _)
 have k4:(vBG (dn x.den * dn y.den)).length<=x.den.length+y.den.length+2:=by
  have:=zC9 (zFB hx.2) (zFB hy.2); rw[zEZ,zEZ]at this; omega
 generalize sg x.neg (nv x.num) * (dn y.den:Nat)+sg y.neg (nv y.num) * (dn x.den:Nat)=S at *
 generalize dn x.den * dn y.den=D at *
 have cq:=vIB (cz S).neg (cz S).mag (vBG D) (zAP _) (zAP _) (by rw[zAR]; exact hd) (by show(vBG _).length<_; omega) zom;rw[show sg (cz S).neg (nv (cz S).mag)=S from zN2 S,zAR]at cq;refine zAL vBC hT uIQ (by simp[vA5]) ?_;refine sts ?_;refine zAA cc rfl ?_;refine sts ?_;refine zAA ca rfl ?_;refine sts ?_;refine zAA cu1 rfl ?_;refine sts ?_;refine zAA cu2 rfl ?_;refine sts ?_;refine zAA cm rfl ?_;refine sts ?_;refine zAA cq rfl ?_;refine sts ?_;exact rGV
theorem uIO:FO 159 Tryz.f159 [.cell 4 26] 21:=mkO Tryz.func159 Tryz.ntmps159 Tryz.results159
theorem zOM(x y:RatL)(hx:okR x)(hy:okR y)(hl1:x.num.length<1000000000)(hl2:x.den.length<1000000000)(hl3:y.num.length<1000000000)(hl4:y.den.length<1000000000):Fn 159 [vA5 x,vA5 y] (.data (vA5 (cr (qv x * qv y)))):=by
 have cu1:=zG7 x hx zom;have cu2:=zG7 y hy zom;have u1:=zE6 x.den;have u2:=zE6 y.den;have cm:=vQT (und x.den) (und y.den) (zFB hx.2) (zFB hy.2) zom zom;have cn:=vQT x.num y.num hx.1 hy.1 zom zom;rw[zEZ,zEZ]at cm;have k3:=zC9 hx.1 hy.1
 have k4:(vBG (dn x.den * dn y.den)).length<=x.den.length+y.den.length+2:=by
  have:=zC9 (zFB hx.2) (zFB hy.2); rw[zEZ,zEZ]at this; omega
 have hd:dn x.den * dn y.den≠0:=rDX (zDA _) (zDA _);have cq:=vIB (x.neg != y.neg) (vBG (nv x.num * nv y.num)) (vBG (dn x.den * dn y.den)) (zAP _) (zAP _) (by rw[zAR]; exact hd) zom zom;rw[zAR,zAR,vUT,<- uFX]at cq;refine zAL vBC hT uIO (by simp[vA5]) ?_;refine sts ?_;refine zAA cn rfl ?_;refine sts ?_;refine zAA cu1 rfl ?_;refine sts ?_;refine zAA cu2 rfl ?_;refine sts ?_;refine zAA cm rfl ?_;refine sts ?_;refine zAA cq rfl ?_;refine sts ?_;exact rGV
end Go.PI.Tryz
