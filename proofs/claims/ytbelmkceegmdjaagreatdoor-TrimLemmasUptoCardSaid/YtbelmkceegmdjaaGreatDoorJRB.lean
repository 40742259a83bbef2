/-
  The reference: affine forms: Valid.
-/
import Derived.Test.YtbelmkceegmdjaaGreatDoorJNR
import Derived.Test.YtbelmkceegmdjaaGreatDoorJIB
set_option linter.unusedVariables false
set_option linter.unusedSimpArgs false
set_option linter.unnecessarySimpa false
set_option maxHeartbeats 0
namespace Go.PI.Tryz
open Go.Proofs Go.PI
theorem vWF:FO 89 Tryz.f89 [.cell 4 101] 16:=mkO Tryz.func89 Tryz.ntmps89 Tryz.results89
theorem zIJ(b:Bool)(xs:List Int)(hx:okN xs)(hl:xs.length<2147483646):Fn 89 [.bool b,vBK xs] (.data (vBZ (cz (sg b (nv xs))))):=by
 rw[uJO];have ct:=zC2 xs hx zom;have hz:vBH (nv xs)=[]↔nv xs=0:=⟨zC1,fun h=>by rw[h]; rfl⟩;refine zAK vBC hT vWF zsm ?_;refine sts ?_;refine zAA ct rfl ?_
 refine gob ?_ ?_<;>intro h
 .refine zAB rfl ?_
  subst h;have:(0<(vBH (nv xs)).length)↔nv xs≠0:=by rw[rDO,ne_eq,hz]
  simp[vBZ,this]
 .subst h
  exact rGV
theorem uHZ:FO 50 Tryz.f50 [.cell 2 101] 14:=mkO Tryz.func50 Tryz.ntmps50 Tryz.results50
theorem uNG(x:Int)(hx:-9223372036854775808<=x/\x<9223372036854775808):Fn 50 [.int .i64 x] (.data (vBZ (cz x))):=by
 have hle:x.natAbs<pw 2:=by rw[zBA,zBA,zDG]; omega
 have hl:=zB6 hle;refine zAK vBC hT uHZ zsm ?_
 refine gob ?_ ?_<;>intro h
 .refine zIO ?_
  refine sts ?_;refine zIO ?_;have e:(0 - x % 18446744073709551616) % 18446744073709551616=((x.natAbs:Nat):Int):=by omega
  refine sts ?_;rw[e];refine zAA (vQJ x.natAbs zom) rfl ?_;refine sts ?_;have cm:=zIJ true (vBH x.natAbs) (zAO _) zom;rw[zAQ,show sg true x.natAbs=x by unfold sg; rw[rAV rfl]; omega]at cm;refine zAA cm rfl ?_;refine sts ?_;exact rGV
 .refine zAA (vQJ x.natAbs zom) (by rw[Int.natAbs_of_nonneg zom]; rfl) ?_
  refine sts ?_;have cm:=zIJ false (vBH x.natAbs) (zAO _) zom;rw[zAQ,show sg false x.natAbs=x by unfold sg; rw[rAN zdd]; omega]at cm;refine zAA cm rfl ?_;refine sts ?_;exact rGV
theorem vWE:FO 143 Tryz.f143 [.tmp 2] 16:=mkO Tryz.func143 Tryz.ntmps143 Tryz.results143
theorem uEA(x:IntL)(hx:okN x.mag)(hl:x.mag.length<2147483646):Fn 143 [vBZ x] (.data (.int .i64 (iv x).sign)):=by
 have cm:=zIJ x.neg x.mag hx zom;have hz:vBH (nv x.mag)=[]↔nv x.mag=0:=⟨zC1,fun h=>by rw[h]; rfl⟩;rw[uJO]at cm;unfold iv;rw[uE1];refine zAK vBC hT vWE (by simp[vBZ]) ?_;refine sts ?_;refine zAA cm rfl ?_
 (repeat' (first|refine stp ?_|with_reducible(refine brr ?_ ?_<;>intro h)));all_goals try(conv=>whnf)
 .refine zAB rfl ?_
  rw[rAV (hz.1 (rA1.1 zom))]
 .refine zAB rfl ?_
  rw[rAN h.2,h.1,rAV rfl]
 .have hn:nv x.mag≠0:=fun e=>by rw[hz.2 e]at *; simp at *
  have hb:x.neg=false:=by simpa [hn]using h
  refine zAB rfl ?_;rw[rAN hn,hb]; rfl
theorem uCC:FO 188 Tryz.f188 [.cell 4 101] 46:=mkO Tryz.func188 Tryz.ntmps188 Tryz.results188
theorem uKB (x y : IntL) (hx : okN x.mag) (hy : okN y.mag) (hl:x.mag.length<2147483644) (hl2:y.mag.length<2147483644):Fn 188 [vBZ x,vBZ y] (.data (vBZ (cz (iv x+iv y)))):=by
 have ca:=vZC x.mag y.mag hx hy zom zom;have cs1:=vNU x.mag y.mag hx hy zom zom;have cs2:=vNU y.mag x.mag hy hx zom zom;refine zAK vBC hT uCC (by simp[vBZ]) ?_
 refine gob ?_ ?_<;>intro h
 .refine zAA ca rfl ?_
  refine sts ?_;have cm:=zIJ x.neg (vBH (nv x.mag+nv y.mag)) (zAO _) (by have:=zAV hx; have:=zKB hx hy; omega);rw[zAQ]at cm;refine zAA cm rfl ?_;refine sts ?_;refine zAB rfl ?_;rw[show iv x+iv y=sg x.neg (nv x.mag+nv y.mag) by unfold iv; rw[<- h]; unfold sg; split<;>omega]; rfl
 .by_cases hlt:nv x.mag<nv y.mag
  .unfold vTG at cs1 cs2
   rw[rAV hlt]at cs1;rw[rAN zom]at cs2;refine zAA cs1 rfl ?_;refine sts ?_;refine zAA cs2 rfl ?_;refine sts ?_;have cm:=zIJ y.neg (vBH (nv y.mag - nv x.mag)) (zAO _) (by have:=zFV hy (n:=nv y.mag - nv x.mag) zom; omega);rw[zAQ]at cm;refine zAA cm rfl ?_;refine sts ?_;refine zAB rfl ?_
   rw [show iv x + iv y = sg y.neg (nv y.mag - nv x.mag) by have:x.neg=!y.neg:=by(cases hh:x.neg<;>cases hh':y.neg<;>simp_all)
                                                            unfold iv; rw[this,zPN]; unfold sg; split<;>omega]
   rfl
  .unfold vTG at cs1
   rw[rAN zom]at cs1;refine zAA cs1 rfl ?_;refine sts ?_;have cm:=zIJ x.neg (vBH (nv x.mag - nv y.mag)) (zAO _) (by have:=zFV hx (n:=nv x.mag - nv y.mag) zom; omega);rw[zAQ]at cm;refine zAA cm rfl ?_;refine sts ?_;refine zAB rfl ?_
   rw [show iv x + iv y = sg x.neg (nv x.mag - nv y.mag) by have:y.neg=!x.neg:=by(cases hh:x.neg<;>cases hh':y.neg<;>simp_all)
                                                            unfold iv; rw[this,zPN]; unfold sg; split<;>omega]
   rfl
theorem vKY{d:List Int}(h:okN d):(vBH (dn d)).length<=d.length+1:=zB6 (uJM h (rC4 _) zom)
theorem uBZ:FO 172 Tryz.f172 [.tmp 2] 11:=mkO Tryz.func172 Tryz.ntmps172 Tryz.results172
theorem zOT(d:List Int)(hd:okN d)(hl:d.length<2147483636):Fn 172 [vBK d] (.data (vBK (vBH (dn d)))):=by
 have cm:=zC2 d hd zom;have h2:=zAV hd;refine zAK vBC hT uBZ zsm ?_;refine sts ?_;refine zAA cm rfl ?_
 refine gob ?_ ?_<;>intro h
 .have:nv d=0:=zC1 (rA1.1 zom)
  refine zAB rfl ?_;rw[dn,rAV this]; rfl
 .have:nv d≠0:=fun e=>h (by rw[e]; rfl)
  refine zAB rfl ?_;rw[dn,rAN this]
theorem vV8:FO 171 Tryz.f171 [.cell 6 26] 49:=mkO Tryz.func171 Tryz.ntmps171 Tryz.results171
theorem vH9(b:Bool)(xs ys:List Int)(hx:okN xs)(hy:okN ys)(h0:nv ys≠0)(hl:xs.length<2147483626)(hl2:ys.length<2147483626):Fn 171 [.bool b,vBK xs,vBK ys] (.data (vA5 (cr (mkRat (sg b (nv xs)) (nv ys))))):=by
 have h1:=zAV hx;have h2:=zAV hy;have hone:∀ n,vBH n=[1]↔n=1:=fun n=>⟨fun h=>by rw[<- zAQ n,h]; rfl,fun h=>by rw[h]; rfl⟩
 have hnil:∀ n,vBH n=[]↔n=0:=fun n=>⟨zC1,fun h=>by rw[h]; rfl⟩
 rw[uJR _ _ h0];have cg:=uJ9 xs ys hx hy zom zom;have hg0:Nat.gcd (nv xs) (nv ys)≠0:=fun e=>h0 (rFU e)
 have hg3:Nat.gcd (nv xs) (nv ys) ∣ nv xs:=rF3 ..;have hgl:(vBH (Nat.gcd (nv xs) (nv ys))).length<=(vBH (nv ys)).length:=zDW (Nat.gcd_le_right _ zom);generalize Nat.gcd (nv xs) (nv ys)=G at *
 have cd1:=zL0 xs (vBH G) hx (zAO _) zom zom;have cd2:=zL0 ys (vBH G) hy (zAO _) zom zom;rw[zAQ,rAN hg0,rAN hg0]at cd1 cd2;have hl3:(vBH (nv ys / G)).length<=(vBH (nv ys)).length:=zDW (rDY ..)
 have hN0:nv xs / G=0↔nv xs=0:=by
  obtain⟨k,hk⟩:=hg3;rw[hk,rGO _ zom];constructor
  .intro e; rw[e]; rfl
  .intro e; rcases Nat.mul_eq_zero.1 e with e | e
   .exact absurd e hg0
   .exact e
 generalize nv xs / G=A at *
 generalize nv ys / G=B at *
 have hA:=hnil A;have hB:=hone B;have hl4:(vBH A).length=0↔A=0:=by rw[rA1,hA]
 have hbA:(b && decide (nv xs≠0))=(b && decide ((vBH A).length > 0)):=by congr 1; rw[rCW]; omega
 rw[hbA];have hbB:(if B=1 then [] else vBH B)=(if vBH B=[1] then [] else vBH B):=by simp only[hB]
 rw[hbB];generalize vBH A=LA at *
 generalize vBH B=LB at *
 have hLB:LB=[1]↔((LB.length:Int)=1/\LB[0]! = 1):=by
  constructor
  .intro e; subst e; simp
  .rintro⟨e1,e2⟩
   obtain⟨x,rfl⟩:=rFF.1 (show LB.length=1 by omega)
   simpa using e2
 refine zAK vBC hT vV8 zsm ?_;refine sts ?_;refine zAA cg rfl ?_;refine sts ?_;refine zAA cd1 rfl ?_;refine sts ?_;refine zAA cd2 rfl ?_
 (repeat' (first|refine stp ?_|with_reducible(refine brr ?_ ?_<;>intro h)));all_goals try(conv=>whnf)
 all_goals
  refine zAB rfl ?_;by_cases e:LB=[1]
  .rw[rAV e]
   first | exact absurd (hLB.1 e).1 rAC | exact absurd (hLB.1 e).2 rAC | (subst h; simp[vA5])
  .rw[rAN e]
   first | exact absurd (hLB.2 ⟨by assumption,rAC⟩) e | (subst h; simp[vA5])
theorem vR4:FO 144 Tryz.f144 [.cell 2 26] 11:=mkO Tryz.func144 Tryz.ntmps144 Tryz.results144
theorem zKW(x:RatL)(hx:okR x)(hl:x.num.length<2147483616)(hl2:x.den.length<2147483616):Fn 144 [vA5 x] (.data (vA5 (cr (qv x)))):=by
 have cu:=zOT x.den hx.2 zom;have hl3:=vKY hx.2;have cq:=vH9 x.neg x.num (vBH (dn x.den)) hx.1 (zAO _) (by rw[zAQ]; exact zDA _) zom zom;rw[zAQ]at cq;refine zAK vBC hT vR4 (by simp[vA5]) ?_;refine sts ?_;refine zAA cu rfl ?_;refine sts ?_;refine zAA cq rfl ?_;refine sts ?_;exact rGV
theorem vV7:FO 51 Tryz.f51 [.tmp 4] 24:=mkO Tryz.func51 Tryz.ntmps51 Tryz.results51
theorem vQG(x y:RatL)(hl1:x.num.length<2147483646)(hl2:x.den.length<2147483646)(hl3:y.num.length<2147483646)(hl4:y.den.length<2147483646):Fn 51 [vA5 x,vA5 y] (.data (.bool (decide (x=y)))):=by
 have c1:=vQI x.num y.num zom zom;have c2:=vQI x.den y.den zom zom;have n1:x=y↔x.neg=y.neg/\x.num=y.num/\x.den=y.den:=by cases x; cases y; simp
 refine zAK vBC hT vV7 (by simp[vA5]) ?_
 refine gob ?_ ?_<;>intro h
 .refine zAA c1 rfl ?_
  refine gob ?_ ?_<;>intro h
  .refine zAA c2 rfl ?_
   refine sts ?_;refine zAB rfl (rA3 PV.bool ?_);rw[rCW,n1]
   simp_all
  .refine zAB rfl (rA3 PV.bool ?_)
   exact(rBA fun e=>h (n1.1 e).2.1).symm
 .refine zAB rfl (rA3 PV.bool ?_)
  exact(rBA fun e=>h (n1.1 e).1).symm
theorem vR3:FO 117 Tryz.f117 [.tmp 2] 7:=mkO Tryz.func117 Tryz.ntmps117 Tryz.results117
theorem zGS(x:RatL)(hx:okR x)(hl:x.num.length<2147483616)(hl2:x.den.length<2147483616):Fn 117 [vA5 x] (.data (.bool (decide (x=cr (qv x))))):=by
 have cc:=zKW x hx hl hl2;have hL:=zBL (vIY hx (k:=max (max x.num.length x.den.length) 1) zom zom zom);have cs:=vQG x (cr (qv x)) zom zom zom zom;refine zAK vBC hT vR3 (by simp[vA5]) ?_;refine sts ?_;refine zAA cc rfl ?_;refine sts ?_;refine zAA cs rfl ?_;refine sts ?_;exact rGV
theorem uHX:FO 29 Tryz.f29 [.cell 2 26] 11:=mkO Tryz.func29 Tryz.ntmps29 Tryz.results29
theorem zMI(x:Int)(hx:-9223372036854775808<=x/\x<9223372036854775808):Fn 29 [.int .i64 x] (.data (vA5 (cr x))):=by
 refine zAK vBC hT uHX zsm ?_;refine sts ?_;refine zAA (uNG x hx) rfl ?_;refine sts ?_;refine zAB rfl ?_;simp[vA5,cr,cz];exact rCW.2 Iff.rfl
theorem vV6:FO 116 Tryz.f116 [.tmp 2] 9:=mkO Tryz.func116 Tryz.ntmps116 Tryz.results116
theorem zE0(x:RatL)(hx:okR x)(hl:x.num.length<2147483636):Fn 116 [vA5 x] (.data (.int .i64 (vDK (qv x)))):=by
 have cs:=uEA ⟨x.neg,x.num⟩ hx.1 (by show x.num.length<_; omega);rw[vL1];refine zAK vBC hT vV6 (by simp[vA5]) ?_;refine sts ?_;refine zAA cs rfl ?_;refine sts ?_;exact rGV
theorem uB0:FO 170 Tryz.f170 [.cell 2 26] 9:=mkO Tryz.func170 Tryz.ntmps170 Tryz.results170
theorem uJ5(x:RatL)(hx:okR x)(hl:x.num.length<2147483616)(hl2:x.den.length<2147483616):Fn 170 [vA5 x] (.data (vA5 (cr (- qv x)))):=by
 have cc:=zKW ⟨!x.neg,x.num,x.den⟩ hx hl hl2;rw[show qv ⟨!x.neg,x.num,x.den⟩=- qv x by unfold qv; rw[rGL,zPN]]at cc;refine zAK vBC hT uB0 (by simp[vA5]) ?_;refine sts ?_;refine zAA cc rfl ?_;refine sts ?_;exact rGV
theorem uB3:FO 169 Tryz.f169 [.cell 4 26] 41:=mkO Tryz.func169 Tryz.ntmps169 Tryz.results169
theorem zLZ(x y:RatL)(hx:okR x)(hy:okR y)(hl1:x.num.length<1000000000)(hl2:x.den.length<1000000000)(hl3:y.num.length<1000000000)(hl4:y.den.length<1000000000):Fn 169 [vA5 x,vA5 y] (.data (vA5 (cr (qv x+qv y)))):=by
 have cu1:=zOT x.den hx.2 zom;have cu2:=zOT y.den hy.2 zom;have u1:=vKY hx.2;have u2:=vKY hy.2;have k1:=zLQ (z:=nv x.num) hx.1 (Int.natAbs_natCast _) hy.2 (rAR _);have k2:=zLQ (z:=nv y.num) hy.1 (Int.natAbs_natCast _) hx.2 (rAR _);rw[<- Int.natCast_mul,Int.natAbs_natCast]at k1 k2;have m1:=zOU x.num (vBH (dn y.den)) hx.1 (zAO _) zom zom;have m2:=zOU y.num (vBH (dn x.den)) hy.1 (zAO _) zom zom;have cm:=zOU (vBH (dn x.den)) (vBH (dn y.den)) (zAO _) (zAO _) zom zom;rw[zAQ]at m1 m2;rw[zAQ,zAQ]at cm;have ca:=uKB ⟨x.neg,vBH (nv x.num * dn y.den)⟩ ⟨y.neg,vBH (nv y.num * dn x.den)⟩ (zAO _) (zAO _) (by show(vBH _).length<_; omega) (by show(vBH _).length<_; omega);unfold iv at ca;simp only[zAQ,uGX]at ca;rw[uFC]
 have kl:(vBH (sg x.neg (nv x.num) * (dn y.den:Nat)+sg y.neg (nv y.num) * (dn x.den:Nat)).natAbs).length<2000000010:=by
  obtain⟨K,hK⟩:∃ K:Nat,K=2000000003:=⟨_,rfl⟩;have e0:(sg x.neg (nv x.num) * (dn y.den:Nat)).natAbs=nv x.num * dn y.den:=by rw[rEP,zGC,Int.natAbs_natCast]
  have e0':(sg y.neg (nv y.num) * (dn x.den:Nat)).natAbs=nv y.num * dn x.den:=by rw[rEP,zGC,Int.natAbs_natCast]
  have e1:(sg x.neg (nv x.num) * (dn y.den:Nat)).natAbs<pw K:=by
   have:=zES (zAO (nv x.num * dn y.den));rw[zAQ]at this; rw[e0]; exact rA4 this (zFM zom)
  have e2:(sg y.neg (nv y.num) * (dn x.den:Nat)).natAbs<pw K:=by
   have:=zES (zAO (nv y.num * dn x.den));rw[zAQ]at this; rw[e0']; exact rA4 this (zFM zom)
  have e3:=zBA K;have:=zB6 (n:=(sg x.neg (nv x.num) * (dn y.den:Nat)+sg y.neg (nv y.num) * (dn x.den:Nat)).natAbs) (k:=K+1) zom;omega
 have hd:dn x.den * dn y.den≠0:=rDX (zDA _) (zDA _)
 have k4:(vBH (dn x.den * dn y.den)).length<=x.den.length+y.den.length+2:=by
  have:=zC9 (zFB hx.2) (zFB hy.2); rw[zEY,zEY]at this;have:=zE7 x.den; have:=zE7 y.den; omega
 generalize sg x.neg (nv x.num) * (dn y.den:Nat)+sg y.neg (nv y.num) * (dn x.den:Nat)=S at *
 generalize dn x.den * dn y.den=D at *
 have cq:=vH9 (cz S).neg (cz S).mag (vBH D) (zAO _) (zAO _) (by rw[zAQ]; exact hd) (by show(vBH _).length<_; omega) zom;rw[show sg (cz S).neg (nv (cz S).mag)=S from zOC S,zAQ]at cq;refine zAK vBC hT uB3 (by simp[vA5]) ?_;refine sts ?_;refine zAA cu2 rfl ?_;refine sts ?_;refine zAA m1 rfl ?_;refine sts ?_;refine zAA cu1 rfl ?_;refine sts ?_;refine zAA m2 rfl ?_;refine sts ?_;refine zAA ca rfl ?_;refine sts ?_;refine zAA cu1 rfl ?_;refine sts ?_;refine zAA cu2 rfl ?_;refine sts ?_;refine zAA cm rfl ?_;refine sts ?_;refine zAA cq rfl ?_;refine sts ?_;exact rGV
theorem uBY:FO 142 Tryz.f142 [.cell 4 26] 9:=mkO Tryz.func142 Tryz.ntmps142 Tryz.results142
theorem vY9(x y:RatL)(hx:okR x)(hy:okR y)(hl1:x.num.length<999999999)(hl2:x.den.length<999999999)(hl3:y.num.length<999999999)(hl4:y.den.length<999999999):Fn 142 [vA5 x,vA5 y] (.data (vA5 (cr (qv x - qv y)))):=by
 have cn:=uJ5 y hy zom zom;have hL:=zBL (vT4 (vIY hy (k:=max (max y.num.length y.den.length) 1) zom zom zom));have ca:=zLZ x (cr (- qv y)) hx (zBE _) zom zom zom zom;rw[zBU,<- rE3]at ca;refine zAK vBC hT uBY (by simp[vA5]) ?_;refine sts ?_;refine zAA cn rfl ?_;refine sts ?_;refine zAA ca rfl ?_;refine sts ?_;exact rGV
theorem uB1:FO 174 Tryz.f174 [.cell 4 26] 23:=mkO Tryz.func174 Tryz.ntmps174 Tryz.results174
theorem vZA(x y:RatL)(hx:okR x)(hy:okR y)(hl1:x.num.length<1000000000)(hl2:x.den.length<1000000000)(hl3:y.num.length<1000000000)(hl4:y.den.length<1000000000):Fn 174 [vA5 x,vA5 y] (.data (vA5 (cr (qv x * qv y)))):=by
 have cu1:=zOT x.den hx.2 zom;have cu2:=zOT y.den hy.2 zom;have u1:=vKY hx.2;have u2:=vKY hy.2;have cm:=zOU (vBH (dn x.den)) (vBH (dn y.den)) (zAO _) (zAO _) zom zom;have cn:=zOU x.num y.num hx.1 hy.1 zom zom;rw[zAQ,zAQ]at cm;have k3:=zC9 hx.1 hy.1
 have k4:(vBH (dn x.den * dn y.den)).length<=x.den.length+y.den.length+2:=by
  have:=zC9 (zFB hx.2) (zFB hy.2); rw[zEY,zEY]at this;have:=zE7 x.den; have:=zE7 y.den; omega
 have hd:dn x.den * dn y.den≠0:=rDX (zDA _) (zDA _);have cq:=vH9 (x.neg != y.neg) (vBH (nv x.num * nv y.num)) (vBH (dn x.den * dn y.den)) (zAO _) (zAO _) (by rw[zAQ]; exact hd) zom zom;rw[zAQ,zAQ,vUO,<- uFB]at cq;refine zAK vBC hT uB1 (by simp[vA5]) ?_;refine sts ?_;refine zAA cn rfl ?_;refine sts ?_;refine zAA cu1 rfl ?_;refine sts ?_;refine zAA cu2 rfl ?_;refine sts ?_;refine zAA cm rfl ?_;refine sts ?_;refine zAA cq rfl ?_;refine sts ?_;exact rGV
theorem uB2:FO 115 Tryz.f115 [.tmp 4] 9:=mkO Tryz.func115 Tryz.ntmps115 Tryz.results115
theorem uJ6(x y:RatL)(hx:okR x)(hy:okR y)(hl1:x.num.length<999999999)(hl2:x.den.length<999999999)(hl3:y.num.length<999999999)(hl4:y.den.length<999999999):Fn 115 [vA5 x,vA5 y] (.data (.int .i64 (vDK (qv x - qv y)))):=by
 have cs:=vY9 x y hx hy hl1 hl2 hl3 hl4;have hL:=zBL (zG7 (vIY hx (k:=999999999) zom zom zom) (vT4 (vIY hy (k:=999999999) zom zom zom)));rw[<- rE3]at hL;have cg:=zE0 (cr (qv x - qv y)) (zBE _) zom;rw[zBU]at cg;refine zAK vBC hT uB2 (by simp[vA5]) ?_;refine sts ?_;refine zAA cs rfl ?_;refine sts ?_;refine zAA cg rfl ?_;refine sts ?_;exact rGV
theorem vR6:FO 84 Tryz.f84 [.tmp 4] 59:=mkO Tryz.func84 Tryz.ntmps84 Tryz.results84
theorem zKX(f:AffL)(n:Int)(hf:okA 2147483596 f):Fn 84 [vBM f,.int .i64 n] (.data (.bool (vCZ f n))):=by
 obtain⟨hc,ht,hl⟩:=hf;refine zAK vBC hT vR6 (by simp[vBM]) ?_;refine sts ?_
 refine zAM hT (fun(i:Nat)=>[(1,.int .i64 n),(2,.ptr 0 0 0),(5,.int .i64 i)]) (fun _=>[(0,⟨[vBM f],4,true⟩)]) [] 1
  (fun i=>i<=f.terms.length/\∀ j,j<i->okT f.terms n j) (fun i=>f.terms.length - i) 0 ⟨rA8 _,fun j h=>zom⟩ zdd zsm ?_ ?_
 .exact⟨[0],[],[],[],ttt,⟨rAI,apx,rAI,rGU⟩,⟨bbx,rGU⟩,rAA⟩
 intro i ⟨i1,i2⟩;have hcv:=zGS f.const hc.1 (by have:=hc.2; omega) (by have:=hc.2; omega);by_cases hi:i<f.terms.length
 .have hq:=vXE (f:=f) ⟨hc,ht,hl⟩ hi
  have cs:=zE0 f.terms[i]!.coef hq.1 (by have:=hq.2; omega);have cv:=zGS f.terms[i]!.coef hq.1 (by have:=hq.2; omega) (by have:=hq.2; omega)
  (repeat' (first|refine stp ?_|with_reducible(refine brr ?_ ?_<;>intro h)));all_goals try(conv=>whnf)
  .exact zAB rfl (rA3 PV.bool (zBQ (i:=i) zom fun e=>by have:=e.1; omega))
  .exact zAB rfl (rA3 PV.bool (zBQ (i:=i) zom fun e=>by have:=e.2.1; omega))
  .refine zA6 (j:=i - 1) zom zom ?_
   refine gob ?_ ?_<;>intro h
   .exact zAB rfl (rA3 PV.bool (zBQ (i:=i) zom fun e=>by have:=e.2.2.1 zom; omega))
   refine zAA cs rfl ?_
   refine gob ?_ ?_<;>intro h
   .exact zAB rfl (rA3 PV.bool (zBQ (i:=i) zom fun e=>e.2.2.2.1 (sgnQ_zero.1 h)))
   .refine zAA cv rfl ?_
    refine gob ?_ ?_<;>intro h
    .refine⟨i+1,⟨⟨zom,fun j hj=>?_⟩,by show f.terms.length - (i+1)<f.terms.length - i; omega⟩,[0],[],[],[],ttt,⟨rAI,apx,zAC rfl zom,rGU⟩,⟨bbx,rGU⟩,rAA⟩
     rcases rB8 (rCB hj) with hj | rfl
     .exact i2 j hj
     .exact⟨zom,zom,fun h0=>by omega,fun e=>by have:=sgnQ_zero.2 e; omega,h⟩
    .exact zAB rfl (rA3 PV.bool (zBQ (i:=i) zom fun e=>h e.2.2.2.2))
  .refine zAA cs rfl ?_
   refine gob ?_ ?_<;>intro h
   .exact zAB rfl (rA3 PV.bool (zBQ (i:=i) zom fun e=>e.2.2.2.1 (sgnQ_zero.1 h)))
   .refine zAA cv rfl ?_
    refine gob ?_ ?_<;>intro h
    .refine⟨i+1,⟨⟨zom,fun j hj=>?_⟩,by show f.terms.length - (i+1)<f.terms.length - i; omega⟩,[0],[],[],[],ttt,⟨rAI,apx,zAC rfl zom,rGU⟩,⟨bbx,rGU⟩,rAA⟩
     rcases rB8 (rCB hj) with hj | rfl
     .exact i2 j hj
     .exact⟨zom,zom,fun h0=>by omega,fun e=>by have:=sgnQ_zero.2 e; omega,h⟩
    .exact zAB rfl (rA3 PV.bool (zBQ (i:=i) zom fun e=>h e.2.2.2.2))
  .omega
 ·(repeat' (first|refine stp ?_|with_reducible(refine brr ?_ ?_<;>intro h)));all_goals try(conv=>whnf)
  all_goals try (exfalso; omega)
  refine zAA hcv rfl ?_;refine sts ?_;exact zAB rfl (rA3 PV.bool (zPH fun j hj=>i2 j zom))
end Go.PI.Tryz
