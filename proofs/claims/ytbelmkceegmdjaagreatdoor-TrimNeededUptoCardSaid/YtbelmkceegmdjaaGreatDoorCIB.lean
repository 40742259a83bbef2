/-
  Rationals: Of, Sign, Cmp, Add, Mul.
-/
import Derived.Test.YtbelmkceegmdjaaGreatDoorCNA
set_option linter.unusedVariables false
set_option linter.unusedSimpArgs false
set_option linter.unnecessarySimpa false
set_option maxHeartbeats 0
namespace Go.PI.Tryz
open Go.Proofs Go.PI
theorem uC6:FO 157 Tryz.f157 [.cell 4 101] 16:=mkO Tryz.func157 Tryz.ntmps157 Tryz.results157
theorem zPE(b:Bool)(xs:List Int)(hx:okN xs)(hl:xs.length<2147483646):Fn 157 [.bool b,vBK xs] (.data (vB1 (cz (sg b (nv xs))))):=by
 rw[uJ5];have ct:=zPB xs hx zom;have hz:vBG (nv xs)=[]↔nv xs=0:=⟨zC7,fun h=>by rw[h]; rfl⟩;refine zAM vBC hT uC6 zsm ?_;refine sts ?_;refine zAA ct rfl ?_
 refine gob ?_ ?_<;>intro h
 .refine zAB rfl ?_
  subst h;have:(0<(vBG (nv xs)).length)↔nv xs≠0:=by rw[rDR,ne_eq,hz]
  simp[vB1,this]
 .subst h
  exact rGX
theorem uMV:FO 162 Tryz.f162 [.cell 2 101] 14:=mkO Tryz.func162 Tryz.ntmps162 Tryz.results162
theorem uP5(x:Int)(hx:-9223372036854775808<=x/\x<9223372036854775808):Fn 162 [.int .i64 x] (.data (vB1 (cz x))):=by
 refine zAM vBC hT uMV zsm ?_
 refine gob ?_ ?_<;>intro h
 .refine zIZ ?_
  refine sts ?_;refine zIZ ?_;have e:(0 - x % 18446744073709551616) % 18446744073709551616=((x.natAbs:Nat):Int):=by omega
  refine sts ?_;rw[e];refine zAA (uEX x.natAbs zom) rfl ?_;refine sts ?_;refine zAB rfl ?_;simp[vB1,cz,h]
 .refine zAA (uEX x.natAbs zom) (by rw[Int.natAbs_of_nonneg zom]; rfl) ?_
  refine sts ?_;refine zAB rfl ?_;simp[vB1,cz,h]
theorem uC5:FO 131 Tryz.f131 [.tmp 2] 11:=mkO Tryz.func131 Tryz.ntmps131 Tryz.results131
theorem vN2(x:IntL)(hx:okN x.mag)(hl:x.mag.length<2147483646):Fn 131 [vB1 x] (.data (.int .i64 (iv x).sign)):=by
 have cb:=vZZ x.mag hx zom;have hz:=zQX (nv x.mag);unfold iv;rw[uFI];refine zAM vBC hT uC5 (by simp[vB1]) ?_;refine sts ?_;refine zAA cb rfl ?_
 (repeat' (first|refine stp ?_|with_reducible(refine brr ?_ ?_<;>intro h)));all_goals try(conv=>whnf)
 .refine zAB rfl ?_
  rw[rAV (hz.1 h)]
 .refine zAB rfl ?_
  rw[rAN zom,h,rAV rfl]
 .refine zAB rfl ?_
  rw[rAN zom,h]; rfl
theorem zHM(z:Int):z.sign=-1/\z<0\/z.sign=0/\z=0\/z.sign=1/\0<z:=by
 rcases rFF z 0 with h | h | h
 .exact rAW ⟨rD5 h,h⟩
 .exact rAZ (rAW ⟨by rw[h]; rfl,h⟩)
 .exact rAZ (rAZ ⟨rEO h,h⟩)
theorem uEI{x y:IntL}(h1:iv x<0)(h2:iv y<0):vEK (iv x) (iv y)=vEK (nv y.mag) (nv x.mag):=by
 unfold iv sg at *
 unfold vEK
 split at h1<;>split at h2<;>try omega
 rename_i e1 e2
 rw[rAV e1,rAV e2]
 repeat' split
 all_goals omega
theorem uEH{x y:IntL}(h1:0<=iv x)(h2:0<=iv y):vEK (iv x) (iv y)=vEK (nv x.mag) (nv y.mag):=by
 unfold iv sg at *
 unfold vEK
 split at h1<;>split at h2<;>rename_i e1 e2<;>simp only[e1,e2,rCI,rCN,rCG,ite_true,ite_false]
 all_goals repeat' split
 all_goals omega
theorem uI8:FO 129 Tryz.f129 [.tmp 4] 32:=mkO Tryz.func129 Tryz.ntmps129 Tryz.results129
theorem uN8(x y:IntL)(hx:okN x.mag)(hy:okN y.mag)(hl:x.mag.length<2147483646)(hl2:y.mag.length<2147483646):Fn 129 [vB1 x,vB1 y] (.data (.int .i64 (vEK (iv x) (iv y)))):=by
 have cs1:=vN2 x hx hl;have cs2:=vN2 y hy hl2;have cc1:=zPD x.mag y.mag hx hy zom zom;have cc2:=zPD y.mag x.mag hy hx zom zom;have k1:=zHM (iv x);have k2:=zHM (iv y);refine zAM vBC hT uI8 (by simp[vB1]) ?_;refine sts ?_;refine zAA cs1 rfl ?_;refine sts ?_;refine zAA cs2 rfl ?_
 (repeat' (first|refine stp ?_|with_reducible(refine brr ?_ ?_<;>intro h)));all_goals try(conv=>whnf)
 .refine zAB rfl ?_
  rw[show vEK (iv x) (iv y)=-1 by unfold vEK; rw[rAV zom]]
 .refine zAB rfl ?_
  rw[show vEK (iv x) (iv y)=1 by unfold vEK; rw[rAN zom,rAV zom]]
 .refine zAA cc2 rfl ?_
  refine sts ?_;refine zAB rfl ?_;rw[uEI zom zom]
 .refine zAA cc1 rfl ?_
  refine sts ?_;refine zAB rfl ?_;rw[uEH zom zom]
theorem zF2{xs:List Int}(h:okN xs){n:Nat}(hn:n<=nv xs):(vBG n).length<=xs.length:=zB6 (rFA hn (zEV h))
theorem zKM{xs ys:List Int}(h1:okN xs)(h2:okN ys):(vBG (nv xs+nv ys)).length<=max xs.length ys.length+1 :=
 vKI (rA4 (zEV h1) (zFT (Nat.le_max_left ..))) (rA4 (zEV h2) (zFT (Nat.le_max_right ..)))
theorem zDF{xs ys:List Int}(h1:okN xs)(h2:okN ys):(vBG (nv xs * nv ys)).length<=xs.length+ys.length:=zB6 (zEO (zEV h1) (zEV h2))
theorem uI9:FO 185 Tryz.f185 [.cell 4 101] 40:=mkO Tryz.func185 Tryz.ntmps185 Tryz.results185
theorem uN9 (x y : IntL) (hx : okN x.mag) (hy : okN y.mag) (hl:x.mag.length<2147483644) (hl2:y.mag.length<2147483644):Fn 185 [vB1 x,vB1 y] (.data (vB1 (cz (iv x+iv y)))):=by
 have ca:=uNZ x.mag y.mag hx hy zom zom;have cc:=zPD x.mag y.mag hx hy zom zom;have cs1:=uGL x.mag y.mag hx hy zom zom;have cs2:=uGL y.mag x.mag hy hx zom zom;refine zAM vBC hT uI9 (by simp[vB1]) ?_
 refine gob ?_ ?_<;>intro h
 .refine zAA ca rfl ?_
  refine sts ?_;have cm:=zPE x.neg (vBG (nv x.mag+nv y.mag)) (zAQ _) (by have:=zAW hx; have:=zKM hx hy; omega);rw[zAS]at cm;refine zAA cm rfl ?_;refine sts ?_;refine zAB rfl ?_;rw[show iv x+iv y=sg x.neg (nv x.mag+nv y.mag) by unfold iv; rw[<- h]; unfold sg; split<;>omega]; rfl
 .refine zAA cc rfl ?_
  have hlt:=zOX (nv x.mag) (nv y.mag)
  refine gob ?_ ?_<;>intro h
  .unfold vTK at cs2
   rw[rAN zom]at cs2;refine zAA cs2 rfl ?_;refine sts ?_;have cm:=zPE y.neg (vBG (nv y.mag - nv x.mag)) (zAQ _) (by have:=zF2 hy (n:=nv y.mag - nv x.mag) zom; omega);rw[zAS]at cm;refine zAA cm rfl ?_;refine sts ?_;refine zAB rfl ?_
   rw [show iv x + iv y = sg y.neg (nv y.mag - nv x.mag) by have:x.neg=!y.neg:=by(cases hh:x.neg<;>cases hh':y.neg<;>simp_all)
                                                            unfold iv; rw[this,zP1]; unfold sg; split<;>omega]
   rfl
  .unfold vTK at cs1
   rw[rAN zom]at cs1;refine zAA cs1 rfl ?_;refine sts ?_;have cm:=zPE x.neg (vBG (nv x.mag - nv y.mag)) (zAQ _) (by have:=zF2 hx (n:=nv x.mag - nv y.mag) zom; omega);rw[zAS]at cm;refine zAA cm rfl ?_;refine sts ?_;refine zAB rfl ?_
   rw [show iv x + iv y = sg x.neg (nv x.mag - nv y.mag) by have:y.neg=!x.neg:=by(cases hh:x.neg<;>cases hh':y.neg<;>simp_all)
                                                            unfold iv; rw[this,zP1]; unfold sg; split<;>omega]
   rfl
theorem uI7:FO 155 Tryz.f155 [.cell 4 101] 16:=mkO Tryz.func155 Tryz.ntmps155 Tryz.results155
theorem uGR(x y:IntL)(hx:okN x.mag)(hy:okN y.mag)(hl:x.mag.length<1073741818)(hl2:y.mag.length<1073741818):Fn 155 [vB1 x,vB1 y] (.data (vB1 (cz (iv x * iv y)))):=by
 have ca:=vQZ x.mag y.mag hx hy zom zom;refine zAM vBC hT uI7 (by simp[vB1]) ?_;refine sts ?_;refine zAA ca rfl ?_;refine sts ?_;have cm:=zPE (x.neg != y.neg) (vBG (nv x.mag * nv y.mag)) (zAQ _) (by have:=zDF hx hy; omega);rw[zAS]at cm;refine zAA cm rfl ?_;refine sts ?_;refine zAB rfl ?_;rw[vUW]; rfl
theorem uII:FO 182 Tryz.f182 [.tmp 0] 2:=mkO Tryz.func182 Tryz.ntmps182 Tryz.results182
theorem uGK:Fn 182 [] (.data (vBK [1])):=by
 refine zAM vBC hT uII zsm ?_;refine sts ?_;exact rGX
theorem uCS:FO 179 Tryz.f179 [.tmp 2] 12:=mkO Tryz.func179 Tryz.ntmps179 Tryz.results179
theorem vN1(xs:List Int)(hl:xs.length<2147483646):Fn 179 [vBK xs] (.data (.bool (decide (xs=[1])))):=by
 refine zAM vBC hT uCS zsm ?_
 refine gob ?_ ?_<;>intro h
 .obtain⟨x,rfl⟩:=rFJ.1 (show xs.length=1 by omega)
  refine zAB rfl ?_;simp[vQ7]
 .refine zAB rfl ?_
  have:xs≠[1]:=fun e=>h (by rw[e]; rfl)
  simp[this]
def und(d:List Int):List Int:=if nv d=0 then [1] else d
theorem zE1(d:List Int):nv (und d)=dn d:=by unfold und dn; split<;>simp[nv]
theorem zFI{d:List Int}(h:okN d):okN (und d):=by unfold und; split; exact okN_cons.2 ⟨zdd,zEC⟩; exact h
theorem zFD(d:List Int):(und d).length<=d.length+1:=by unfold und; split<;>simp
theorem vW2:FO 153 Tryz.f153 [.tmp 2] 10:=mkO Tryz.func153 Tryz.ntmps153 Tryz.results153
theorem zG7(x:RatL)(hx:okR x)(hl:x.den.length<2147483646):Fn 153 [vA5 x] (.data (vBK (und x.den))):=by
 have cb:=vZZ x.den hx.2 zom;have hz:=zQX (nv x.den);refine zAM vBC hT vW2 (by simp[vA5]) ?_;refine sts ?_;refine zAA cb rfl ?_
 refine gob ?_ ?_<;>intro h
 .refine zAA uGK rfl ?_
  refine sts ?_;refine zAB rfl ?_;rw[und,rAV (hz.1 h)]
 .refine zAB rfl ?_
  rw[und,rAN (fun e=>h (hz.2 e))]
theorem vSI:FO 132 Tryz.f132 [.cell 2 101] 8:=mkO Tryz.func132 Tryz.ntmps132 Tryz.results132
theorem zO9(x:RatL)(hx:okR x)(hl:x.num.length<2147483646):Fn 132 [vA5 x] (.data (vB1 (cz (sg x.neg (nv x.num))))):=by
 have cm:=zPE x.neg x.num hx.1 hl;refine zAM vBC hT vSI (by simp[vA5]) ?_;refine sts ?_;refine zAA cm rfl ?_;refine sts ?_;exact rGX
theorem uCU:FO 152 Tryz.f152 [.cell 6 26] 47:=mkO Tryz.func152 Tryz.ntmps152 Tryz.results152
theorem vII(b:Bool)(xs ys:List Int)(hx:okN xs)(hy:okN ys)(h0:nv ys≠0)(hl:xs.length<2147483636)(hl2:ys.length<2147483636):Fn 152 [.bool b,vBK xs,vBK ys] (.data (vA5 (cr (mkRat (sg b (nv xs)) (nv ys))))):=by
 have cm1:=zPB xs hx zom;have cm2:=zPB ys hy zom;have h1:=zAW hx;have h2:=zAW hy;have hone:∀ n,vBG n=[1]↔n=1:=fun n=>⟨fun h=>by rw[<- zAS n,h]; rfl,fun h=>by rw[h]; rfl⟩
 have hnil:∀ n,vBG n=[]↔n=0:=fun n=>⟨zC7,fun h=>by rw[h]; rfl⟩
 rw[uJ7 _ _ h0];generalize nv xs=N at *
 generalize nv ys=D at *
 have cg:=uNY (vBG N) (vBG D) (zAQ _) (zAQ _) zom zom;rw[zAS,zAS]at cg;have hg0:Nat.gcd N D≠0:=fun e=>h0 (rFX e)
 have hg1:N=0->Nat.gcd N D=D:=fun e=>by rw[e,Nat.gcd_zero_left]
 have hg2:D=1->Nat.gcd N D=1:=fun e=>by rw[e,Nat.gcd_one_right]
 have hgl:(vBG (Nat.gcd N D)).length<=(vBG D).length:=zDZ (Nat.gcd_le_right _ zom);generalize Nat.gcd N D=G at *
 have cd1:=zPC (vBG N) (vBG G) (zAQ _) (zAQ _) zom zom;have cd2:=zPC (vBG D) (vBG G) (zAQ _) (zAQ _) zom zom;rw[zAS,zAS,rAN hg0,rAN hg0]at cd1 cd2;have cu1:=vN1 (vBG D) zom;have cu2:=vN1 (vBG G) zom;have hl3:(vBG (D / G)).length<=(vBG D).length:=zDZ (rD2 ..);have cu3:=vN1 (vBG (D / G)) zom;simp only[hone]at cu1 cu2 cu3;refine zAM vBC hT uCU zsm ?_;refine sts ?_;refine zAA cm1 rfl ?_
 refine gob ?_ ?_<;>intro h
 .have e:=(hnil N).1 (rA2.1 zom)
  refine zAB rfl ?_;have e2:=hg1 e;subst e e2;simp[vA5,zDQ,Nat.div_self (Nat.pos_of_ne_zero h0)]
 refine zAA cm2 rfl ?_;refine sts ?_;refine zAA cu1 rfl ?_
 refine gob ?_ ?_<;>intro h
 .have e2:=hg2 h
  subst h e2;have hN:N≠0:=fun e=>by rw[(hnil N).2 e]at *; simp at *
  refine zAB rfl ?_;simp[vA5,hN]
 have hN:N≠0:=fun e=>by rw[(hnil N).2 e]at *; simp at *
 rw[show(b && decide (N≠0))=b by simp[hN]];refine zAA cg rfl ?_;refine sts ?_;refine zAA cu2 rfl ?_
 refine gob ?_ ?_<;>intro h
 .subst h
  simp only[Nat.div_one];have hD1:D≠1:=by assumption
  rw[rAN hD1];refine zAA cu1 rfl ?_
  refine gob ?_ ?_<;>intro h
  .exact absurd h hD1
  .exact rGX
 .refine zAA cd1 rfl ?_
  refine sts ?_;refine zAA cd2 rfl ?_;refine sts ?_;refine zAA cu3 rfl ?_
  refine gob ?_ ?_<;>intro h
  .rw[rAV h]
   exact rGX
  .rw[rAN h]
   exact rGX
theorem vW4:FO 126 Tryz.f126 [.cell 2 26] 10:=mkO Tryz.func126 Tryz.ntmps126 Tryz.results126
theorem zNT(x:RatL)(hx:okR x)(hl:x.num.length<2147483626)(hl2:x.den.length<2147483626):Fn 126 [vA5 x] (.data (vA5 (cr (qv x)))):=by
 have cu:=zG7 x hx zom;have hl3:=zFD x.den;have cq:=vII x.neg x.num (und x.den) hx.1 (zFI hx.2) (by rw[zE1]; exact zDG _) zom zom;rw[zE1]at cq;refine zAM vBC hT vW4 (by simp[vA5]) ?_;refine sts ?_;refine zAA cu rfl ?_;refine sts ?_;refine zAA cq rfl ?_;refine sts ?_;exact rGX
theorem vU4{xs ys:List Int}(h1:okN xs)(h2:okN ys)(hl:xs.length=ys.length)(h:nv xs=nv ys):xs=ys:=by
 rw[<- zNL h1,<- zNL h2,hl,h]
theorem vY7(a b:Nat):vEK a b=0↔a=b:=by
 unfold vEK
 repeat' split
 all_goals omega
theorem vRF{xs:List Int}(h:okN xs):vFR xs=true↔xs=vBG (nv xs):=by
 have e:vFR xs=true↔vNW xs:=by
  unfold vFR vNW;rw[rAX];by_cases h0:xs=[]
  .exact⟨fun _=>⟨h,rAW h0⟩,fun _=>rAW h0⟩
  have hl:xs.length≠0:=fun e=>h0 (rA2.1 e)
  rw[rAS xs _ zom,rD8,rAR zom];refine⟨fun h1=>⟨h,h1.imp id fun h2=>by simpa using h2⟩,fun h1=>h1.2.imp id fun h2=>by simpa using h2⟩
 rw[e];exact⟨fun h=>(zOL h).symm,fun h=>by rw[h]; exact zEM _⟩
theorem uLX{x:RatL}(h:okN x.num)(hd:x.den=[]):x=⟨x.neg && decide (nv x.num≠0),vBG (nv x.num),[]⟩↔(vFR x.num=true/\(x.neg=true->0<x.num.length)):=by
 obtain⟨b,n,d⟩:=x;dsimp only at *
 subst hd;rw[vRF h];simp only[RatL.mk.injEq,rFG];constructor
 .rintro⟨h1,h2⟩
  refine⟨h2,fun hb=>?_⟩;rw[hb]at h1;have:nv n≠0:=by simpa using h1
  exact rDR.2 fun e=>this (by rw[e]; rfl)
 .rintro⟨h1,h2⟩
  refine⟨?_,h1⟩;cases b
  .rfl
  .have:nv n≠0:=fun e=>by rw[h1,e]at h2; simp[zDQ]at h2
   simp[this]
theorem vW1:FO 94 Tryz.f94 [.tmp 2] 63:=mkO Tryz.func94 Tryz.ntmps94 Tryz.results94
theorem zG6(x:RatL)(hx:okR x)(hl:x.num.length<2147483626)(hl2:x.den.length<2147483626):Fn 94 [vA5 x] (.data (.bool (decide (x=cr (qv x))))):=by
 have cv:=uEW x.num zom;have cc:=zNT x hx hl hl2;have hL:=zBM (vI8 hx (k:=max (max x.num.length x.den.length) 1) zom zom zom);have ho:=zBE (qv x)
 have hx0:x.den=[]->cr (qv x)=⟨x.neg && decide (nv x.num≠0),vBG (nv x.num),[]⟩:=fun h=>by
  unfold qv; rw[h,show dn []=1 from rfl,uJ7 _ _ zdd]; simp
 generalize cr (qv x)=c at *
 have c1:=zPD x.num c.num hx.1 ho.1 zom zom;have c2:=zPD x.den c.den hx.2 ho.2 zom zom;refine zAM vBC hT vW1 (by simp[vA5]) ?_
 refine gob ?_ ?_<;>intro h
 .refine zAA cv rfl ?_
  have hd:x.den=[]:=rA2.1 zom;have hx1:=hx0 hd;have key:x=c↔(vFR x.num=true/\(x.neg=true->0<x.num.length)):=by rw[hx1]; exact uLX hx.1 hd
  clear hx1 hx0 hL
  (repeat' (first|refine stp ?_|with_reducible(refine brr ?_ ?_<;>intro h)));all_goals try(conv=>whnf)
  .refine zAB rfl (rA3 PV.bool ?_)
   simp_all
  .refine zAB rfl (rA3 PV.bool ?_)
   simp_all
  .refine zAB rfl (rA3 PV.bool ?_)
   simp_all
 .refine zAA cc rfl ?_
  have n1:x=c->x.neg=c.neg/\x.num=c.num/\x.den=c.den:=fun e=>by rw[<- e]; exact⟨rfl,rfl,rfl⟩
  have e1:=vY7 (nv x.num) (nv c.num);have e2:=vY7 (nv x.den) (nv c.den)
  (repeat' (first|refine stp ?_|with_reducible(refine brr ?_ ?_<;>intro h)));all_goals try(conv=>whnf)
  .refine zAA c1 rfl ?_
   refine gob ?_ ?_<;>intro h
   .refine zAA c2 rfl ?_
    refine sts ?_;refine zAB rfl (rA3 PV.bool ?_);rw[vQ7];refine rCW.2 ⟨fun h4=>?_,fun h4=>e2.2 (by rw[(n1 h4).2.2])⟩;have a1:=vU4 hx.1 ho.1 zom (e1.1 rAC);have a2:=vU4 hx.2 ho.2 zom (e2.1 h4);have a3:x.neg=c.neg:=by assumption
    cases x; cases c; simp_all
   .refine zAB rfl (rA3 PV.bool ?_)
    exact(rBC fun e=>h (e1.2 (by rw[(n1 e).2.1]))).symm
  .refine zAB rfl (rA3 PV.bool ?_)
   exact(rBC fun e=>h (by rw[(n1 e).2.2])).symm
  .refine zAB rfl (rA3 PV.bool ?_)
   exact(rBC fun e=>h (by rw[(n1 e).2.1])).symm
  .refine zAB rfl (rA3 PV.bool ?_)
   exact(rBC fun e=>h (n1 e).1).symm
theorem vW0:FO 161 Tryz.f161 [.cell 2 26] 9:=mkO Tryz.func161 Tryz.ntmps161 Tryz.results161
theorem uEU(z:Int)(hl:(vBG z.natAbs).length<2147483626):Fn 161 [vB1 (cz z)] (.data (vA5 (cr z))):=by
 have cq:=vII (cz z).neg (cz z).mag [1] (zAQ _) (by rw[okN_cons]; exact⟨zdd,zEC⟩) zdd (by show(vBG _).length<_; omega) zdd;rw[show sg (cz z).neg (nv (cz z).mag)=z from zON z,show nv [1]=1 from rfl,Rat.mkRat_one]at cq;refine zAM vBC hT vW0 (by simp[vB1]) ?_;refine sts ?_;refine zAA uGK rfl ?_;refine sts ?_;refine zAA cq rfl ?_;refine sts ?_;exact rGX
theorem uMR:FO 134 Tryz.f134 [.cell 2 26] 6:=mkO Tryz.func134 Tryz.ntmps134 Tryz.results134
theorem uKU(x:Int)(hx:-9223372036854775808<=x/\x<9223372036854775808):Fn 134 [.int .i64 x] (.data (vA5 (cr x))):=by
 have hle:x.natAbs<pw 2:=by rw[zBB,zBB,zDK]; omega
 have hl:=zB6 hle;refine zAM vBC hT uMR zsm ?_;refine sts ?_;refine zAA (uP5 x hx) rfl ?_;refine sts ?_;refine zAA (uEU x zom) rfl ?_;refine sts ?_;exact rGX
theorem uCT:FO 98 Tryz.f98 [.tmp 2] 6:=mkO Tryz.func98 Tryz.ntmps98 Tryz.results98
theorem zGC(x:RatL)(hx:okR x)(hl:x.num.length<2147483636):Fn 98 [vA5 x] (.data (.int .i64 (vDN (qv x)))):=by
 have cs:=zO9 x hx zom;have h2:=zAW hx.1;have ci:=vN2 (cz (sg x.neg (nv x.num))) (zAQ _) (by show(vBG _).length<_; rw[zGJ]; omega);rw[zON,<- vL5]at ci;refine zAM vBC hT uCT (by simp[vA5]) ?_;refine sts ?_;refine zAA cs rfl ?_;refine sts ?_;refine zAA ci rfl ?_;refine sts ?_;exact rGX
theorem vW3:FO 128 Tryz.f128 [.cell 4 101,.cell 5 101] 22:=mkO Tryz.func128 Tryz.ntmps128 Tryz.results128
theorem vQW(x y:RatL)(hx:okR x)(hy:okR y)(hl1:x.num.length<1000000000)(hl2:x.den.length<1000000000)(hl3:y.num.length<1000000000)(hl4:y.den.length<1000000000):Fn 128 [vA5 x,vA5 y] (.data (.tup [vB1 (cz (sg x.neg (nv x.num) * dn y.den)),vB1 (cz (sg y.neg (nv y.num) * dn x.den))])):=by
 have cs1:=zO9 x hx zom;have cs2:=zO9 y hy zom;have cu1:=zG7 x hx zom;have cu2:=zG7 y hy zom;have h1:=zAW hx.1;have h2:=zAW hy.1;have u1:=zFD x.den;have u2:=zFD y.den;have cm1:=uGR (cz (sg x.neg (nv x.num))) ⟨false,und y.den⟩ (zAQ _) (zFI hy.2) (by show(vBG _).length<_; rw[zGJ]; omega) (by show(und _).length<_; omega);have cm2:=uGR (cz (sg y.neg (nv y.num))) ⟨false,und x.den⟩ (zAQ _) (zFI hx.2) (by show(vBG _).length<_; rw[zGJ]; omega) (by show(und _).length<_; omega);rw[zON,show iv ⟨false,und y.den⟩=dn y.den by show sg false _=_; rw[zE1]; rfl]at cm1;rw[zON,show iv ⟨false,und x.den⟩=dn x.den by show sg false _=_; rw[zE1]; rfl]at cm2;refine zAM vBC hT vW3 (by simp[vA5]) ?_;refine sts ?_;refine zAA cu1 rfl ?_;refine sts ?_;refine zAA cu2 rfl ?_;refine sts ?_;refine zAA cs1 rfl ?_;refine sts ?_;refine zAA cm1 rfl ?_;refine sts ?_;refine zAA cs2 rfl ?_;refine sts ?_;refine zAA cm2 rfl ?_;refine sts ?_;exact rGX
theorem uKA(X Y:Int):(X - Y).sign=vEK X Y:=by
 have:=zHM (X - Y);unfold vEK
 repeat' split
 all_goals omega
theorem vQF{z1 z2:Int}{d1 d2:Nat}(h1:d1≠0)(h2:d2≠0)(h:z1.sign<z2.sign):z1 * d2<z2 * d1:=by
 have e1:(z1 * d2).sign=z1.sign:=by rw[Int.sign_mul,rGC h2,Int.mul_one]
 have e2:(z2 * d1).sign=z2.sign:=by rw[Int.sign_mul,rGC h1,Int.mul_one]
 have:=zHM (z1 * d2);have:=zHM (z2 * d1);omega
theorem zL9{z:Int}{d:List Int}{j:Nat}{xs:List Int}(h1:okN xs)(h:z.natAbs=nv xs)(hd:okN d)(hj:xs.length+d.length+1<=j):(vBG (z * (dn d:Nat)).natAbs).length<=j:=by
 refine zB6 ?_;rw[rEU,h,Int.natAbs_natCast];exact rA4 (zEO (zEV h1) (uJ3 hd (rC5 _) zom)) (zFT zom)
theorem uIK:FO 95 Tryz.f95 [.tmp 4] 28:=mkO Tryz.func95 Tryz.ntmps95 Tryz.results95
theorem uNW(x y:RatL)(hx:okR x)(hy:okR y)(hl1:x.num.length<1000000000)(hl2:x.den.length<1000000000)(hl3:y.num.length<1000000000)(hl4:y.den.length<1000000000):Fn 95 [vA5 x,vA5 y] (.data (.int .i64 (vDN (qv x - qv y)))):=by
 have cs1:=zGC x hx zom;have cs2:=zGC y hy zom;have cc:=vQW x y hx hy hl1 hl2 hl3 hl4;have k1:=zL9 (z:=sg x.neg (nv x.num)) hx.1 (zGJ ..) hy.2 (rAO _);have k2:=zL9 (z:=sg y.neg (nv y.num)) hy.1 (zGJ ..) hx.2 (rAO _);have ci:=uN8 (cz (sg x.neg (nv x.num) * dn y.den)) (cz (sg y.neg (nv y.num) * dn x.den)) (zAQ _) (zAQ _) (by show(vBG _).length<_; omega) (by show(vBG _).length<_; omega);rw[uBK,uKA];rw[zON,zON]at ci;have m1:=vQF (z1:=sg x.neg (nv x.num)) (z2:=sg y.neg (nv y.num)) (zDG x.den) (zDG y.den);have m2:=vQF (z1:=sg y.neg (nv y.num)) (z2:=sg x.neg (nv x.num)) (zDG y.den) (zDG x.den);rw[vL5]at cs1 cs2;refine zAM vBC hT uIK (by simp[vA5]) ?_;refine sts ?_;refine zAA cs1 rfl ?_;refine sts ?_;refine zAA cs2 rfl ?_
 (repeat' (first|refine stp ?_|with_reducible(refine brr ?_ ?_<;>intro h)));all_goals try(conv=>whnf)
 .refine zAB rfl ?_
  have:=m1 h;unfold vEK; rw[rAV this]
 .refine zAB rfl ?_
  have:=m2 zom;unfold vEK; rw[rAN zom,rAV this]
 .refine zAA cc rfl ?_
  refine sts ?_;refine zAA ci rfl ?_;refine sts ?_;exact rGX
theorem uIL:FO 158 Tryz.f158 [.cell 4 26] 27:=mkO Tryz.func158 Tryz.ntmps158 Tryz.results158
theorem vQX(x y:RatL)(hx:okR x)(hy:okR y)(hl1:x.num.length<1000000000)(hl2:x.den.length<1000000000)(hl3:y.num.length<1000000000)(hl4:y.den.length<1000000000):Fn 158 [vA5 x,vA5 y] (.data (vA5 (cr (qv x+qv y)))):=by
 have cc:=vQW x y hx hy hl1 hl2 hl3 hl4;have cu1:=zG7 x hx zom;have cu2:=zG7 y hy zom;have u1:=zFD x.den;have u2:=zFD y.den;have k1:=zL9 (z:=sg x.neg (nv x.num)) hx.1 (zGJ ..) hy.2 (rAO _);have k2:=zL9 (z:=sg y.neg (nv y.num)) hy.1 (zGJ ..) hx.2 (rAO _);have ca:=uN9 (cz (sg x.neg (nv x.num) * dn y.den)) (cz (sg y.neg (nv y.num) * dn x.den)) (zAQ _) (zAQ _) (by show(vBG _).length<_; omega) (by show(vBG _).length<_; omega);rw[zON,zON]at ca;have cm:=vQZ (und x.den) (und y.den) (zFI hx.2) (zFI hy.2) zom zom;rw[zE1,zE1]at cm;rw[uFT]
 have kl:(vBG (sg x.neg (nv x.num) * (dn y.den:Nat)+sg y.neg (nv y.num) * (dn x.den:Nat)).natAbs).length<2000000010:=by
  obtain⟨K,hK⟩:∃ K:Nat,K=2000000003:=⟨_,rfl⟩
  have e1:(sg x.neg (nv x.num) * (dn y.den:Nat)).natAbs<pw K:=by
   have:=zEV (zAQ (sg x.neg (nv x.num) * (dn y.den:Nat)).natAbs);rw[zAS]at this; exact rA4 this (zFT zom)
  have e2:(sg y.neg (nv y.num) * (dn x.den:Nat)).natAbs<pw K:=by
   have:=zEV (zAQ (sg y.neg (nv y.num) * (dn x.den:Nat)).natAbs);rw[zAS]at this; exact rA4 this (zFT zom)
  have e3:=zBB K;have:=zB6 (n:=(sg x.neg (nv x.num) * (dn y.den:Nat)+sg y.neg (nv y.num) * (dn x.den:Nat)).natAbs) (k:=K+1) zom;omega
 have hd:dn x.den * dn y.den≠0:=rD1 (zDG _) (zDG _)
 have k4:(vBG (dn x.den * dn y.den)).length<=x.den.length+y.den.length+2:=by
  have:=zDF (zFI hx.2) (zFI hy.2); rw[zE1,zE1]at this; omega
 generalize sg x.neg (nv x.num) * (dn y.den:Nat)+sg y.neg (nv y.num) * (dn x.den:Nat)=S at *
 generalize dn x.den * dn y.den=D at *
 have cq:=vII (cz S).neg (cz S).mag (vBG D) (zAQ _) (zAQ _) (by rw[zAS]; exact hd) (by show(vBG _).length<_; omega) zom;rw[show sg (cz S).neg (nv (cz S).mag)=S from zON S,zAS]at cq;refine zAM vBC hT uIL (by simp[vA5]) ?_;refine sts ?_;refine zAA cc rfl ?_;refine sts ?_;refine zAA ca rfl ?_;refine sts ?_;refine zAA cu1 rfl ?_;refine sts ?_;refine zAA cu2 rfl ?_;refine sts ?_;refine zAA cm rfl ?_;refine sts ?_;refine zAA cq rfl ?_;refine sts ?_;exact rGX
theorem uIJ:FO 159 Tryz.f159 [.cell 4 26] 21:=mkO Tryz.func159 Tryz.ntmps159 Tryz.results159
theorem zPA(x y:RatL)(hx:okR x)(hy:okR y)(hl1:x.num.length<1000000000)(hl2:x.den.length<1000000000)(hl3:y.num.length<1000000000)(hl4:y.den.length<1000000000):Fn 159 [vA5 x,vA5 y] (.data (vA5 (cr (qv x * qv y)))):=by
 have cu1:=zG7 x hx zom;have cu2:=zG7 y hy zom;have u1:=zFD x.den;have u2:=zFD y.den;have cm:=vQZ (und x.den) (und y.den) (zFI hx.2) (zFI hy.2) zom zom;have cn:=vQZ x.num y.num hx.1 hy.1 zom zom;rw[zE1,zE1]at cm;have k3:=zDF hx.1 hy.1
 have k4:(vBG (dn x.den * dn y.den)).length<=x.den.length+y.den.length+2:=by
  have:=zDF (zFI hx.2) (zFI hy.2); rw[zE1,zE1]at this; omega
 have hd:dn x.den * dn y.den≠0:=rD1 (zDG _) (zDG _);have cq:=vII (x.neg != y.neg) (vBG (nv x.num * nv y.num)) (vBG (dn x.den * dn y.den)) (zAQ _) (zAQ _) (by rw[zAS]; exact hd) zom zom;rw[zAS,zAS,vUW,<- uFS]at cq;refine zAM vBC hT uIJ (by simp[vA5]) ?_;refine sts ?_;refine zAA cn rfl ?_;refine sts ?_;refine zAA cu1 rfl ?_;refine sts ?_;refine zAA cu2 rfl ?_;refine sts ?_;refine zAA cm rfl ?_;refine sts ?_;refine zAA cq rfl ?_;refine sts ?_;exact rGX
end Go.PI.Tryz
