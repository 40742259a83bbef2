/-
  Rationals: Of, Sign, Cmp, Add, Mul.
-/
import Derived.Test.YtbelmkceegmdjaaGreatDoorJNA
set_option linter.unusedVariables false
set_option linter.unusedSimpArgs false
set_option linter.unnecessarySimpa false
set_option maxHeartbeats 0
namespace Go.PI.Tryz
open Go.Proofs Go.PI
theorem uCT:FO 157 Tryz.f157 [.cell 4 101] 16:=mkO Tryz.func157 Tryz.ntmps157 Tryz.results157
theorem zO4(b:Bool)(xs:List Int)(hx:okN xs)(hl:xs.length<2147483646):Fn 157 [.bool b,vBK xs] (.data (vBZ (cz (sg b (nv xs))))):=by
 rw[uJO];have ct:=zO1 xs hx zom;have hz:vBH (nv xs)=[]↔nv xs=0:=⟨zC1,fun h=>by rw[h]; rfl⟩;refine zAK vBC hT uCT zsm ?_;refine sts ?_;refine zAA ct rfl ?_
 refine gob ?_ ?_<;>intro h
 .refine zAB rfl ?_
  subst h;have:(0<(vBH (nv xs)).length)↔nv xs≠0:=by rw[rDO,ne_eq,hz]
  simp[vBZ,this]
 .subst h
  exact rGV
theorem uMH:FO 162 Tryz.f162 [.cell 2 101] 14:=mkO Tryz.func162 Tryz.ntmps162 Tryz.results162
theorem uPT(x:Int)(hx:-9223372036854775808<=x/\x<9223372036854775808):Fn 162 [.int .i64 x] (.data (vBZ (cz x))):=by
 refine zAK vBC hT uMH zsm ?_
 refine gob ?_ ?_<;>intro h
 .refine zIO ?_
  refine sts ?_;refine zIO ?_;have e:(0 - x % 18446744073709551616) % 18446744073709551616=((x.natAbs:Nat):Int):=by omega
  refine sts ?_;rw[e];refine zAA (uEI x.natAbs zom) rfl ?_;refine sts ?_;refine zAB rfl ?_;simp[vBZ,cz,h]
 .refine zAA (uEI x.natAbs zom) (by rw[Int.natAbs_of_nonneg zom]; rfl) ?_
  refine sts ?_;refine zAB rfl ?_;simp[vBZ,cz,h]
theorem uCS:FO 131 Tryz.f131 [.tmp 2] 11:=mkO Tryz.func131 Tryz.ntmps131 Tryz.results131
theorem vNW(x:IntL)(hx:okN x.mag)(hl:x.mag.length<2147483646):Fn 131 [vBZ x] (.data (.int .i64 (iv x).sign)):=by
 have cb:=vZN x.mag hx zom;have hz:=zQI (nv x.mag);unfold iv;rw[uE1];refine zAK vBC hT uCS (by simp[vBZ]) ?_;refine sts ?_;refine zAA cb rfl ?_
 (repeat' (first|refine stp ?_|with_reducible(refine brr ?_ ?_<;>intro h)));all_goals try(conv=>whnf)
 .refine zAB rfl ?_
  rw[rAV (hz.1 h)]
 .refine zAB rfl ?_
  rw[rAN zom,h,rAV rfl]
 .refine zAB rfl ?_
  rw[rAN zom,h]; rfl
theorem zHJ(z:Int):z.sign=-1/\z<0\/z.sign=0/\z=0\/z.sign=1/\0<z:=by
 rcases rFA z 0 with h | h | h
 .exact rAW ⟨rD0 h,h⟩
 .exact rAY (rAW ⟨by rw[h]; rfl,h⟩)
 .exact rAY (rAY ⟨rEI h,h⟩)
theorem uD3{x y:IntL}(h1:iv x<0)(h2:iv y<0):vEK (iv x) (iv y)=vEK (nv y.mag) (nv x.mag):=by
 unfold iv sg at *
 unfold vEK
 split at h1<;>split at h2<;>try omega
 rename_i e1 e2
 rw[rAV e1,rAV e2]
 repeat' split
 all_goals omega
theorem uD2{x y:IntL}(h1:0<=iv x)(h2:0<=iv y):vEK (iv x) (iv y)=vEK (nv x.mag) (nv y.mag):=by
 unfold iv sg at *
 unfold vEK
 split at h1<;>split at h2<;>rename_i e1 e2<;>simp only[e1,e2,rCH,rCM,rCF,ite_true,ite_false]
 all_goals repeat' split
 all_goals omega
theorem uIS:FO 129 Tryz.f129 [.tmp 4] 32:=mkO Tryz.func129 Tryz.ntmps129 Tryz.results129
theorem uNV(x y:IntL)(hx:okN x.mag)(hy:okN y.mag)(hl:x.mag.length<2147483646)(hl2:y.mag.length<2147483646):Fn 129 [vBZ x,vBZ y] (.data (.int .i64 (vEK (iv x) (iv y)))):=by
 have cs1:=vNW x hx hl;have cs2:=vNW y hy hl2;have cc1:=zO3 x.mag y.mag hx hy zom zom;have cc2:=zO3 y.mag x.mag hy hx zom zom;have k1:=zHJ (iv x);have k2:=zHJ (iv y);refine zAK vBC hT uIS (by simp[vBZ]) ?_;refine sts ?_;refine zAA cs1 rfl ?_;refine sts ?_;refine zAA cs2 rfl ?_
 (repeat' (first|refine stp ?_|with_reducible(refine brr ?_ ?_<;>intro h)));all_goals try(conv=>whnf)
 .refine zAB rfl ?_
  rw[show vEK (iv x) (iv y)=-1 by unfold vEK; rw[rAV zom]]
 .refine zAB rfl ?_
  rw[show vEK (iv x) (iv y)=1 by unfold vEK; rw[rAN zom,rAV zom]]
 .refine zAA cc2 rfl ?_
  refine sts ?_;refine zAB rfl ?_;rw[uD3 zom zom]
 .refine zAA cc1 rfl ?_
  refine sts ?_;refine zAB rfl ?_;rw[uD2 zom zom]
theorem zFV{xs:List Int}(h:okN xs){n:Nat}(hn:n<=nv xs):(vBH n).length<=xs.length:=zB6 (rE5 hn (zES h))
theorem zKB{xs ys:List Int}(h1:okN xs)(h2:okN ys):(vBH (nv xs+nv ys)).length<=max xs.length ys.length+1 :=
 vKB (rA4 (zES h1) (zFM (Nat.le_max_left ..))) (rA4 (zES h2) (zFM (Nat.le_max_right ..)))
theorem zC9{xs ys:List Int}(h1:okN xs)(h2:okN ys):(vBH (nv xs * nv ys)).length<=xs.length+ys.length:=zB6 (zEL (zES h1) (zES h2))
theorem uIT:FO 185 Tryz.f185 [.cell 4 101] 40:=mkO Tryz.func185 Tryz.ntmps185 Tryz.results185
theorem uNW (x y : IntL) (hx : okN x.mag) (hy : okN y.mag) (hl:x.mag.length<2147483644) (hl2:y.mag.length<2147483644):Fn 185 [vBZ x,vBZ y] (.data (vBZ (cz (iv x+iv y)))):=by
 have ca:=uNM x.mag y.mag hx hy zom zom;have cc:=zO3 x.mag y.mag hx hy zom zom;have cs1:=uF5 x.mag y.mag hx hy zom zom;have cs2:=uF5 y.mag x.mag hy hx zom zom;refine zAK vBC hT uIT (by simp[vBZ]) ?_
 refine gob ?_ ?_<;>intro h
 .refine zAA ca rfl ?_
  refine sts ?_;have cm:=zO4 x.neg (vBH (nv x.mag+nv y.mag)) (zAO _) (by have:=zAV hx; have:=zKB hx hy; omega);rw[zAQ]at cm;refine zAA cm rfl ?_;refine sts ?_;refine zAB rfl ?_;rw[show iv x+iv y=sg x.neg (nv x.mag+nv y.mag) by unfold iv; rw[<- h]; unfold sg; split<;>omega]; rfl
 .refine zAA cc rfl ?_
  have hlt:=zOL (nv x.mag) (nv y.mag)
  refine gob ?_ ?_<;>intro h
  .unfold vTG at cs2
   rw[rAN zom]at cs2;refine zAA cs2 rfl ?_;refine sts ?_;have cm:=zO4 y.neg (vBH (nv y.mag - nv x.mag)) (zAO _) (by have:=zFV hy (n:=nv y.mag - nv x.mag) zom; omega);rw[zAQ]at cm;refine zAA cm rfl ?_;refine sts ?_;refine zAB rfl ?_
   rw [show iv x + iv y = sg y.neg (nv y.mag - nv x.mag) by have:x.neg=!y.neg:=by(cases hh:x.neg<;>cases hh':y.neg<;>simp_all)
                                                            unfold iv; rw[this,zPN]; unfold sg; split<;>omega]
   rfl
  .unfold vTG at cs1
   rw[rAN zom]at cs1;refine zAA cs1 rfl ?_;refine sts ?_;have cm:=zO4 x.neg (vBH (nv x.mag - nv y.mag)) (zAO _) (by have:=zFV hx (n:=nv x.mag - nv y.mag) zom; omega);rw[zAQ]at cm;refine zAA cm rfl ?_;refine sts ?_;refine zAB rfl ?_
   rw [show iv x + iv y = sg x.neg (nv x.mag - nv y.mag) by have:y.neg=!x.neg:=by(cases hh:x.neg<;>cases hh':y.neg<;>simp_all)
                                                            unfold iv; rw[this,zPN]; unfold sg; split<;>omega]
   rfl
theorem uIR:FO 155 Tryz.f155 [.cell 4 101] 16:=mkO Tryz.func155 Tryz.ntmps155 Tryz.results155
theorem uGB(x y:IntL)(hx:okN x.mag)(hy:okN y.mag)(hl:x.mag.length<1073741818)(hl2:y.mag.length<1073741818):Fn 155 [vBZ x,vBZ y] (.data (vBZ (cz (iv x * iv y)))):=by
 have ca:=vQR x.mag y.mag hx hy zom zom;refine zAK vBC hT uIR (by simp[vBZ]) ?_;refine sts ?_;refine zAA ca rfl ?_;refine sts ?_;have cm:=zO4 (x.neg != y.neg) (vBH (nv x.mag * nv y.mag)) (zAO _) (by have:=zC9 hx hy; omega);rw[zAQ]at cm;refine zAA cm rfl ?_;refine sts ?_;refine zAB rfl ?_;rw[vUO]; rfl
theorem uH2:FO 182 Tryz.f182 [.tmp 0] 2:=mkO Tryz.func182 Tryz.ntmps182 Tryz.results182
theorem uF4:Fn 182 [] (.data (vBK [1])):=by
 refine zAK vBC hT uH2 zsm ?_;refine sts ?_;exact rGV
theorem uCF:FO 179 Tryz.f179 [.tmp 2] 12:=mkO Tryz.func179 Tryz.ntmps179 Tryz.results179
theorem vNV(xs:List Int)(hl:xs.length<2147483646):Fn 179 [vBK xs] (.data (.bool (decide (xs=[1])))):=by
 refine zAK vBC hT uCF zsm ?_
 refine gob ?_ ?_<;>intro h
 .obtain⟨x,rfl⟩:=rFF.1 (show xs.length=1 by omega)
  refine zAB rfl ?_;simp[vQ0]
 .refine zAB rfl ?_
  have:xs≠[1]:=fun e=>h (by rw[e]; rfl)
  simp[this]
def und(d:List Int):List Int:=if nv d=0 then [1] else d
theorem zEY(d:List Int):nv (und d)=dn d:=by unfold und dn; split<;>simp[nv]
theorem zFB{d:List Int}(h:okN d):okN (und d):=by unfold und; split; exact okN_cons.2 ⟨zdd,zD9⟩; exact h
theorem zE7(d:List Int):(und d).length<=d.length+1:=by unfold und; split<;>simp
theorem vWT:FO 153 Tryz.f153 [.tmp 2] 10:=mkO Tryz.func153 Tryz.ntmps153 Tryz.results153
theorem zG5(x:RatL)(hx:okR x)(hl:x.den.length<2147483646):Fn 153 [vA5 x] (.data (vBK (und x.den))):=by
 have cb:=vZN x.den hx.2 zom;have hz:=zQI (nv x.den);refine zAK vBC hT vWT (by simp[vA5]) ?_;refine sts ?_;refine zAA cb rfl ?_
 refine gob ?_ ?_<;>intro h
 .refine zAA uF4 rfl ?_
  refine sts ?_;refine zAB rfl ?_;rw[und,rAV (hz.1 h)]
 .refine zAB rfl ?_
  rw[und,rAN (fun e=>h (hz.2 e))]
theorem vSD:FO 132 Tryz.f132 [.cell 2 101] 8:=mkO Tryz.func132 Tryz.ntmps132 Tryz.results132
theorem zOZ(x:RatL)(hx:okR x)(hl:x.num.length<2147483646):Fn 132 [vA5 x] (.data (vBZ (cz (sg x.neg (nv x.num))))):=by
 have cm:=zO4 x.neg x.num hx.1 hl;refine zAK vBC hT vSD (by simp[vA5]) ?_;refine sts ?_;refine zAA cm rfl ?_;refine sts ?_;exact rGV
theorem uCH:FO 152 Tryz.f152 [.cell 6 26] 47:=mkO Tryz.func152 Tryz.ntmps152 Tryz.results152
theorem vIB(b:Bool)(xs ys:List Int)(hx:okN xs)(hy:okN ys)(h0:nv ys≠0)(hl:xs.length<2147483636)(hl2:ys.length<2147483636):Fn 152 [.bool b,vBK xs,vBK ys] (.data (vA5 (cr (mkRat (sg b (nv xs)) (nv ys))))):=by
 have cm1:=zO1 xs hx zom;have cm2:=zO1 ys hy zom;have h1:=zAV hx;have h2:=zAV hy;have hone:∀ n,vBH n=[1]↔n=1:=fun n=>⟨fun h=>by rw[<- zAQ n,h]; rfl,fun h=>by rw[h]; rfl⟩
 have hnil:∀ n,vBH n=[]↔n=0:=fun n=>⟨zC1,fun h=>by rw[h]; rfl⟩
 rw[uJR _ _ h0];generalize nv xs=N at *
 generalize nv ys=D at *
 have cg:=uNL (vBH N) (vBH D) (zAO _) (zAO _) zom zom;rw[zAQ,zAQ]at cg;have hg0:Nat.gcd N D≠0:=fun e=>h0 (rFU e)
 have hg1:N=0->Nat.gcd N D=D:=fun e=>by rw[e,Nat.gcd_zero_left]
 have hg2:D=1->Nat.gcd N D=1:=fun e=>by rw[e,Nat.gcd_one_right]
 have hgl:(vBH (Nat.gcd N D)).length<=(vBH D).length:=zDW (Nat.gcd_le_right _ zom);generalize Nat.gcd N D=G at *
 have cd1:=zO2 (vBH N) (vBH G) (zAO _) (zAO _) zom zom;have cd2:=zO2 (vBH D) (vBH G) (zAO _) (zAO _) zom zom;rw[zAQ,zAQ,rAN hg0,rAN hg0]at cd1 cd2;have cu1:=vNV (vBH D) zom;have cu2:=vNV (vBH G) zom;have hl3:(vBH (D / G)).length<=(vBH D).length:=zDW (rDY ..);have cu3:=vNV (vBH (D / G)) zom;simp only[hone]at cu1 cu2 cu3;refine zAK vBC hT uCH zsm ?_;refine sts ?_;refine zAA cm1 rfl ?_
 refine gob ?_ ?_<;>intro h
 .have e:=(hnil N).1 (rA1.1 zom)
  refine zAB rfl ?_;have e2:=hg1 e;subst e e2;simp[vA5,zDO,Nat.div_self (Nat.pos_of_ne_zero h0)]
 refine zAA cm2 rfl ?_;refine sts ?_;refine zAA cu1 rfl ?_
 refine gob ?_ ?_<;>intro h
 .have e2:=hg2 h
  subst h e2;have hN:N≠0:=fun e=>by rw[(hnil N).2 e]at *; simp at *
  refine zAB rfl ?_;simp[vA5,hN]
 have hN:N≠0:=fun e=>by rw[(hnil N).2 e]at *; simp at *
 rw[show(b && decide (N≠0))=b by simp[hN]];refine zAA cg rfl ?_;refine sts ?_;refine zAA cu2 rfl ?_
 refine gob ?_ ?_<;>intro h
 .subst h
  simp only[Nat.div_one];have hD1:D≠1:=by assumption
  rw[rAN hD1];refine zAA cu1 rfl ?_
  refine gob ?_ ?_<;>intro h
  .exact absurd h hD1
  .exact rGV
 .refine zAA cd1 rfl ?_
  refine sts ?_;refine zAA cd2 rfl ?_;refine sts ?_;refine zAA cu3 rfl ?_
  refine gob ?_ ?_<;>intro h
  .rw[rAV h]
   exact rGV
  .rw[rAN h]
   exact rGV
theorem vWV:FO 126 Tryz.f126 [.cell 2 26] 10:=mkO Tryz.func126 Tryz.ntmps126 Tryz.results126
theorem zNC(x:RatL)(hx:okR x)(hl:x.num.length<2147483626)(hl2:x.den.length<2147483626):Fn 126 [vA5 x] (.data (vA5 (cr (qv x)))):=by
 have cu:=zG5 x hx zom;have hl3:=zE7 x.den;have cq:=vIB x.neg x.num (und x.den) hx.1 (zFB hx.2) (by rw[zEY]; exact zDA _) zom zom;rw[zEY]at cq;refine zAK vBC hT vWV (by simp[vA5]) ?_;refine sts ?_;refine zAA cu rfl ?_;refine sts ?_;refine zAA cq rfl ?_;refine sts ?_;exact rGV
theorem vUW{xs ys:List Int}(h1:okN xs)(h2:okN ys)(hl:xs.length=ys.length)(h:nv xs=nv ys):xs=ys:=by
 rw[<- zM2 h1,<- zM2 h2,hl,h]
theorem vYU(a b:Nat):vEK a b=0↔a=b:=by
 unfold vEK
 repeat' split
 all_goals omega
theorem vQ8{xs:List Int}(h:okN xs):vFQ xs=true↔xs=vBH (nv xs):=by
 have e:vFQ xs=true↔vNP xs:=by
  unfold vFQ vNP;rw[rAX];by_cases h0:xs=[]
  .exact⟨fun _=>⟨h,rAW h0⟩,fun _=>rAW h0⟩
  have hl:xs.length≠0:=fun e=>h0 (rA1.1 e)
  rw[rAT xs _ zom,rD3,rAQ zom];refine⟨fun h1=>⟨h,h1.imp id fun h2=>by simpa using h2⟩,fun h1=>h1.2.imp id fun h2=>by simpa using h2⟩
 rw[e];exact⟨fun h=>(zN9 h).symm,fun h=>by rw[h]; exact zEJ _⟩
theorem uLI{x:RatL}(h:okN x.num)(hd:x.den=[]):x=⟨x.neg && decide (nv x.num≠0),vBH (nv x.num),[]⟩↔(vFQ x.num=true/\(x.neg=true->0<x.num.length)):=by
 obtain⟨b,n,d⟩:=x;dsimp only at *
 subst hd;rw[vQ8 h];simp only[RatL.mk.injEq,rFB];constructor
 .rintro⟨h1,h2⟩
  refine⟨h2,fun hb=>?_⟩;rw[hb]at h1;have:nv n≠0:=by simpa using h1
  exact rDO.2 fun e=>this (by rw[e]; rfl)
 .rintro⟨h1,h2⟩
  refine⟨?_,h1⟩;cases b
  .rfl
  .have:nv n≠0:=fun e=>by rw[h1,e]at h2; simp[zDO]at h2
   simp[this]
theorem vWS:FO 94 Tryz.f94 [.tmp 2] 63:=mkO Tryz.func94 Tryz.ntmps94 Tryz.results94
theorem zG4(x:RatL)(hx:okR x)(hl:x.num.length<2147483626)(hl2:x.den.length<2147483626):Fn 94 [vA5 x] (.data (.bool (decide (x=cr (qv x))))):=by
 have cv:=uEH x.num zom;have cc:=zNC x hx hl hl2;have hL:=zBL (vIY hx (k:=max (max x.num.length x.den.length) 1) zom zom zom);have ho:=zBE (qv x)
 have hx0:x.den=[]->cr (qv x)=⟨x.neg && decide (nv x.num≠0),vBH (nv x.num),[]⟩:=fun h=>by
  unfold qv; rw[h,show dn []=1 from rfl,uJR _ _ zdd]; simp
 generalize cr (qv x)=c at *
 have c1:=zO3 x.num c.num hx.1 ho.1 zom zom;have c2:=zO3 x.den c.den hx.2 ho.2 zom zom;refine zAK vBC hT vWS (by simp[vA5]) ?_
 refine gob ?_ ?_<;>intro h
 .refine zAA cv rfl ?_
  have hd:x.den=[]:=rA1.1 zom;have hx1:=hx0 hd;have key:x=c↔(vFQ x.num=true/\(x.neg=true->0<x.num.length)):=by rw[hx1]; exact uLI hx.1 hd
  clear hx1 hx0 hL
  (repeat' (first|refine stp ?_|with_reducible(refine brr ?_ ?_<;>intro h)));all_goals try(conv=>whnf)
  .refine zAB rfl (rA3 PV.bool ?_)
   simp_all
  .refine zAB rfl (rA3 PV.bool ?_)
   simp_all
  .refine zAB rfl (rA3 PV.bool ?_)
   simp_all
 .refine zAA cc rfl ?_
  have n1:x=c->x.neg=c.neg/\x.num=c.num/\x.den=c.den:=fun e=>by rw[<- e]; exact⟨rfl,rfl,rfl⟩
  have e1:=vYU (nv x.num) (nv c.num);have e2:=vYU (nv x.den) (nv c.den)
  (repeat' (first|refine stp ?_|with_reducible(refine brr ?_ ?_<;>intro h)));all_goals try(conv=>whnf)
  .refine zAA c1 rfl ?_
   refine gob ?_ ?_<;>intro h
   .refine zAA c2 rfl ?_
    refine sts ?_;refine zAB rfl (rA3 PV.bool ?_);rw[vQ0];refine rCW.2 ⟨fun h4=>?_,fun h4=>e2.2 (by rw[(n1 h4).2.2])⟩;have a1:=vUW hx.1 ho.1 zom (e1.1 rAC);have a2:=vUW hx.2 ho.2 zom (e2.1 h4);have a3:x.neg=c.neg:=by assumption
    cases x; cases c; simp_all
   .refine zAB rfl (rA3 PV.bool ?_)
    exact(rBA fun e=>h (e1.2 (by rw[(n1 e).2.1]))).symm
  .refine zAB rfl (rA3 PV.bool ?_)
   exact(rBA fun e=>h (by rw[(n1 e).2.2])).symm
  .refine zAB rfl (rA3 PV.bool ?_)
   exact(rBA fun e=>h (by rw[(n1 e).2.1])).symm
  .refine zAB rfl (rA3 PV.bool ?_)
   exact(rBA fun e=>h (n1 e).1).symm
theorem vWR:FO 161 Tryz.f161 [.cell 2 26] 9:=mkO Tryz.func161 Tryz.ntmps161 Tryz.results161
theorem uEF(z:Int)(hl:(vBH z.natAbs).length<2147483626):Fn 161 [vBZ (cz z)] (.data (vA5 (cr z))):=by
 have cq:=vIB (cz z).neg (cz z).mag [1] (zAO _) (by rw[okN_cons]; exact⟨zdd,zD9⟩) zdd (by show(vBH _).length<_; omega) zdd;rw[show sg (cz z).neg (nv (cz z).mag)=z from zOC z,show nv [1]=1 from rfl,Rat.mkRat_one]at cq;refine zAK vBC hT vWR (by simp[vBZ]) ?_;refine sts ?_;refine zAA uF4 rfl ?_;refine sts ?_;refine zAA cq rfl ?_;refine sts ?_;exact rGV
theorem uMD:FO 134 Tryz.f134 [.cell 2 26] 6:=mkO Tryz.func134 Tryz.ntmps134 Tryz.results134
theorem uKF(x:Int)(hx:-9223372036854775808<=x/\x<9223372036854775808):Fn 134 [.int .i64 x] (.data (vA5 (cr x))):=by
 have hle:x.natAbs<pw 2:=by rw[zBA,zBA,zDG]; omega
 have hl:=zB6 hle;refine zAK vBC hT uMD zsm ?_;refine sts ?_;refine zAA (uPT x hx) rfl ?_;refine sts ?_;refine zAA (uEF x zom) rfl ?_;refine sts ?_;exact rGV
theorem uCG:FO 98 Tryz.f98 [.tmp 2] 6:=mkO Tryz.func98 Tryz.ntmps98 Tryz.results98
theorem zF6(x:RatL)(hx:okR x)(hl:x.num.length<2147483636):Fn 98 [vA5 x] (.data (.int .i64 (vDK (qv x)))):=by
 have cs:=zOZ x hx zom;have h2:=zAV hx.1;have ci:=vNW (cz (sg x.neg (nv x.num))) (zAO _) (by show(vBH _).length<_; rw[zGC]; omega);rw[zOC,<- vL1]at ci;refine zAK vBC hT uCG (by simp[vA5]) ?_;refine sts ?_;refine zAA cs rfl ?_;refine sts ?_;refine zAA ci rfl ?_;refine sts ?_;exact rGV
theorem vWU:FO 128 Tryz.f128 [.cell 4 101,.cell 5 101] 22:=mkO Tryz.func128 Tryz.ntmps128 Tryz.results128
theorem vQO(x y:RatL)(hx:okR x)(hy:okR y)(hl1:x.num.length<1000000000)(hl2:x.den.length<1000000000)(hl3:y.num.length<1000000000)(hl4:y.den.length<1000000000):Fn 128 [vA5 x,vA5 y] (.data (.tup [vBZ (cz (sg x.neg (nv x.num) * dn y.den)),vBZ (cz (sg y.neg (nv y.num) * dn x.den))])):=by
 have cs1:=zOZ x hx zom;have cs2:=zOZ y hy zom;have cu1:=zG5 x hx zom;have cu2:=zG5 y hy zom;have h1:=zAV hx.1;have h2:=zAV hy.1;have u1:=zE7 x.den;have u2:=zE7 y.den;have cm1:=uGB (cz (sg x.neg (nv x.num))) ⟨false,und y.den⟩ (zAO _) (zFB hy.2) (by show(vBH _).length<_; rw[zGC]; omega) (by show(und _).length<_; omega);have cm2:=uGB (cz (sg y.neg (nv y.num))) ⟨false,und x.den⟩ (zAO _) (zFB hx.2) (by show(vBH _).length<_; rw[zGC]; omega) (by show(und _).length<_; omega);rw[zOC,show iv ⟨false,und y.den⟩=dn y.den by show sg false _=_; rw[zEY]; rfl]at cm1;rw[zOC,show iv ⟨false,und x.den⟩=dn x.den by show sg false _=_; rw[zEY]; rfl]at cm2;refine zAK vBC hT vWU (by simp[vA5]) ?_;refine sts ?_;refine zAA cu1 rfl ?_;refine sts ?_;refine zAA cu2 rfl ?_;refine sts ?_;refine zAA cs1 rfl ?_;refine sts ?_;refine zAA cm1 rfl ?_;refine sts ?_;refine zAA cs2 rfl ?_;refine sts ?_;refine zAA cm2 rfl ?_;refine sts ?_;exact rGV
theorem uJU(X Y:Int):(X - Y).sign=vEK X Y:=by
 have:=zHJ (X - Y);unfold vEK
 repeat' split
 all_goals omega
theorem vP8{z1 z2:Int}{d1 d2:Nat}(h1:d1≠0)(h2:d2≠0)(h:z1.sign<z2.sign):z1 * d2<z2 * d1:=by
 have e1:(z1 * d2).sign=z1.sign:=by rw[Int.sign_mul,rF9 h2,Int.mul_one]
 have e2:(z2 * d1).sign=z2.sign:=by rw[Int.sign_mul,rF9 h1,Int.mul_one]
 have:=zHJ (z1 * d2);have:=zHJ (z2 * d1);omega
theorem zLQ{z:Int}{d:List Int}{j:Nat}{xs:List Int}(h1:okN xs)(h:z.natAbs=nv xs)(hd:okN d)(hj:xs.length+d.length+1<=j):(vBH (z * (dn d:Nat)).natAbs).length<=j:=by
 refine zB6 ?_;rw[rEP,h,Int.natAbs_natCast];exact rA4 (zEL (zES h1) (uJM hd (rC4 _) zom)) (zFM zom)
theorem uH4:FO 95 Tryz.f95 [.tmp 4] 28:=mkO Tryz.func95 Tryz.ntmps95 Tryz.results95
theorem uNJ(x y:RatL)(hx:okR x)(hy:okR y)(hl1:x.num.length<1000000000)(hl2:x.den.length<1000000000)(hl3:y.num.length<1000000000)(hl4:y.den.length<1000000000):Fn 95 [vA5 x,vA5 y] (.data (.int .i64 (vDK (qv x - qv y)))):=by
 have cs1:=zF6 x hx zom;have cs2:=zF6 y hy zom;have cc:=vQO x y hx hy hl1 hl2 hl3 hl4;have k1:=zLQ (z:=sg x.neg (nv x.num)) hx.1 (zGC ..) hy.2 (rAR _);have k2:=zLQ (z:=sg y.neg (nv y.num)) hy.1 (zGC ..) hx.2 (rAR _);have ci:=uNV (cz (sg x.neg (nv x.num) * dn y.den)) (cz (sg y.neg (nv y.num) * dn x.den)) (zAO _) (zAO _) (by show(vBH _).length<_; omega) (by show(vBH _).length<_; omega);rw[uA7,uJU];rw[zOC,zOC]at ci;have m1:=vP8 (z1:=sg x.neg (nv x.num)) (z2:=sg y.neg (nv y.num)) (zDA x.den) (zDA y.den);have m2:=vP8 (z1:=sg y.neg (nv y.num)) (z2:=sg x.neg (nv x.num)) (zDA y.den) (zDA x.den);rw[vL1]at cs1 cs2;refine zAK vBC hT uH4 (by simp[vA5]) ?_;refine sts ?_;refine zAA cs1 rfl ?_;refine sts ?_;refine zAA cs2 rfl ?_
 (repeat' (first|refine stp ?_|with_reducible(refine brr ?_ ?_<;>intro h)));all_goals try(conv=>whnf)
 .refine zAB rfl ?_
  have:=m1 h;unfold vEK; rw[rAV this]
 .refine zAB rfl ?_
  have:=m2 zom;unfold vEK; rw[rAN zom,rAV this]
 .refine zAA cc rfl ?_
  refine sts ?_;refine zAA ci rfl ?_;refine sts ?_;exact rGV
theorem uH5:FO 158 Tryz.f158 [.cell 4 26] 27:=mkO Tryz.func158 Tryz.ntmps158 Tryz.results158
theorem vQP(x y:RatL)(hx:okR x)(hy:okR y)(hl1:x.num.length<1000000000)(hl2:x.den.length<1000000000)(hl3:y.num.length<1000000000)(hl4:y.den.length<1000000000):Fn 158 [vA5 x,vA5 y] (.data (vA5 (cr (qv x+qv y)))):=by
 have cc:=vQO x y hx hy hl1 hl2 hl3 hl4;have cu1:=zG5 x hx zom;have cu2:=zG5 y hy zom;have u1:=zE7 x.den;have u2:=zE7 y.den;have k1:=zLQ (z:=sg x.neg (nv x.num)) hx.1 (zGC ..) hy.2 (rAR _);have k2:=zLQ (z:=sg y.neg (nv y.num)) hy.1 (zGC ..) hx.2 (rAR _);have ca:=uNW (cz (sg x.neg (nv x.num) * dn y.den)) (cz (sg y.neg (nv y.num) * dn x.den)) (zAO _) (zAO _) (by show(vBH _).length<_; omega) (by show(vBH _).length<_; omega);rw[zOC,zOC]at ca;have cm:=vQR (und x.den) (und y.den) (zFB hx.2) (zFB hy.2) zom zom;rw[zEY,zEY]at cm;rw[uFC]
 have kl:(vBH (sg x.neg (nv x.num) * (dn y.den:Nat)+sg y.neg (nv y.num) * (dn x.den:Nat)).natAbs).length<2000000010:=by
  obtain⟨K,hK⟩:∃ K:Nat,K=2000000003:=⟨_,rfl⟩
  have e1:(sg x.neg (nv x.num) * (dn y.den:Nat)).natAbs<pw K:=by
   have:=zES (zAO (sg x.neg (nv x.num) * (dn y.den:Nat)).natAbs);rw[zAQ]at this; exact rA4 this (zFM zom)
  have e2:(sg y.neg (nv y.num) * (dn x.den:Nat)).natAbs<pw K:=by
   have:=zES (zAO (sg y.neg (nv y.num) * (dn x.den:Nat)).natAbs);rw[zAQ]at this; exact rA4 this (zFM zom)
  have e3:=zBA K;have:=zB6 (n:=(sg x.neg (nv x.num) * (dn y.den:Nat)+sg y.neg (nv y.num) * (dn x.den:Nat)).natAbs) (k:=K+1) zom;omega
 have hd:dn x.den * dn y.den≠0:=rDX (zDA _) (zDA _)
 have k4:(vBH (dn x.den * dn y.den)).length<=x.den.length+y.den.length+2:=by
  have:=zC9 (zFB hx.2) (zFB hy.2); rw[zEY,zEY]at this; omega
 generalize sg x.neg (nv x.num) * (dn y.den:Nat)+sg y.neg (nv y.num) * (dn x.den:Nat)=S at *
 generalize dn x.den * dn y.den=D at *
 have cq:=vIB (cz S).neg (cz S).mag (vBH D) (zAO _) (zAO _) (by rw[zAQ]; exact hd) (by show(vBH _).length<_; omega) zom;rw[show sg (cz S).neg (nv (cz S).mag)=S from zOC S,zAQ]at cq;refine zAK vBC hT uH5 (by simp[vA5]) ?_;refine sts ?_;refine zAA cc rfl ?_;refine sts ?_;refine zAA ca rfl ?_;refine sts ?_;refine zAA cu1 rfl ?_;refine sts ?_;refine zAA cu2 rfl ?_;refine sts ?_;refine zAA cm rfl ?_;refine sts ?_;refine zAA cq rfl ?_;refine sts ?_;exact rGV
theorem uH3:FO 159 Tryz.f159 [.cell 4 26] 21:=mkO Tryz.func159 Tryz.ntmps159 Tryz.results159
theorem zO0(x y:RatL)(hx:okR x)(hy:okR y)(hl1:x.num.length<1000000000)(hl2:x.den.length<1000000000)(hl3:y.num.length<1000000000)(hl4:y.den.length<1000000000):Fn 159 [vA5 x,vA5 y] (.data (vA5 (cr (qv x * qv y)))):=by
 have cu1:=zG5 x hx zom;have cu2:=zG5 y hy zom;have u1:=zE7 x.den;have u2:=zE7 y.den;have cm:=vQR (und x.den) (und y.den) (zFB hx.2) (zFB hy.2) zom zom;have cn:=vQR x.num y.num hx.1 hy.1 zom zom;rw[zEY,zEY]at cm;have k3:=zC9 hx.1 hy.1
 have k4:(vBH (dn x.den * dn y.den)).length<=x.den.length+y.den.length+2:=by
  have:=zC9 (zFB hx.2) (zFB hy.2); rw[zEY,zEY]at this; omega
 have hd:dn x.den * dn y.den≠0:=rDX (zDA _) (zDA _);have cq:=vIB (x.neg != y.neg) (vBH (nv x.num * nv y.num)) (vBH (dn x.den * dn y.den)) (zAO _) (zAO _) (by rw[zAQ]; exact hd) zom zom;rw[zAQ,zAQ,vUO,<- uFB]at cq;refine zAK vBC hT uH3 (by simp[vA5]) ?_;refine sts ?_;refine zAA cn rfl ?_;refine sts ?_;refine zAA cu1 rfl ?_;refine sts ?_;refine zAA cu2 rfl ?_;refine sts ?_;refine zAA cm rfl ?_;refine sts ?_;refine zAA cq rfl ?_;refine sts ?_;exact rGV
end Go.PI.Tryz
