/-
  The reference: affine forms: Valid.
-/
import Derived.Test.YtbelmkceegmdjaaGreatDoorKNR
import Derived.Test.YtbelmkceegmdjaaGreatDoorKIB
set_option linter.unusedVariables false
set_option linter.unusedSimpArgs false
set_option linter.unnecessarySimpa false
set_option maxHeartbeats 0
namespace Go.PI.Tryz
open Go.Proofs Go.PI
theorem vWO:FO 89 Tryz.f89 [.cell 4 101] 16:=mkO Tryz.func89 Tryz.ntmps89 Tryz.results89
theorem zIN(b:Bool)(xs:List Int)(hx:okN xs)(hl:xs.length<2147483646):Fn 89 [.bool b,vBK xs] (.data (vB0 (cz (sg b (nv xs))))):=by
 rw[uKC];have ct:=zC1 xs hx zom;have hz:vBG (nv xs)=[]↔nv xs=0:=⟨zC0,fun h=>by rw[h]; rfl⟩;refine zAL vBC hT vWO zsm ?_;refine sts ?_;refine zAA ct rfl ?_
 refine gob ?_ ?_<;>intro h
 .refine zAB rfl ?_
  subst h;have:(0<(vBG (nv xs)).length)↔nv xs≠0:=by rw[rDO,ne_eq,hz]
  simp[vB0,this]
 .subst h
  exact rGV
theorem uIK:FO 50 Tryz.f50 [.cell 2 101] 14:=mkO Tryz.func50 Tryz.ntmps50 Tryz.results50
theorem uNZ(x:Int)(hx:-9223372036854775808<=x/\x<9223372036854775808):Fn 50 [.int .i64 x] (.data (vB0 (cz x))):=by
 have hle:x.natAbs<pw 2:=by rw[zA9,zA9,zDG]; omega
 have hl:=zB5 hle;refine zAL vBC hT uIK zsm ?_
 refine gob ?_ ?_<;>intro h
 .refine zIV ?_
  refine sts ?_;refine zIV ?_;have e:(0 - x % 18446744073709551616) % 18446744073709551616=((x.natAbs:Nat):Int):=by omega
  refine sts ?_;rw[e];refine zAA (vQK x.natAbs zom) rfl ?_;refine sts ?_;have cm:=zIN true (vBG x.natAbs) (zAP _) zom;rw[zAR,show sg true x.natAbs=x by unfold sg; rw[rAU rfl]; omega]at cm;refine zAA cm rfl ?_;refine sts ?_;exact rGV
 .refine zAA (vQK x.natAbs zom) (by rw[Int.natAbs_of_nonneg zom]; rfl) ?_
  refine sts ?_;have cm:=zIN false (vBG x.natAbs) (zAP _) zom;rw[zAR,show sg false x.natAbs=x by unfold sg; rw[rAM zdd]; omega]at cm;refine zAA cm rfl ?_;refine sts ?_;exact rGV
theorem vWN:FO 143 Tryz.f143 [.tmp 2] 16:=mkO Tryz.func143 Tryz.ntmps143 Tryz.results143
theorem uET(x:IntL)(hx:okN x.mag)(hl:x.mag.length<2147483646):Fn 143 [vB0 x] (.data (.int .i64 (iv x).sign)):=by
 have cm:=zIN x.neg x.mag hx zom;have hz:vBG (nv x.mag)=[]↔nv x.mag=0:=⟨zC0,fun h=>by rw[h]; rfl⟩;rw[uKC]at cm;unfold iv;rw[uFN];refine zAL vBC hT vWN (by simp[vB0]) ?_;refine sts ?_;refine zAA cm rfl ?_
 (repeat' (first|refine stp ?_|with_reducible(refine brr ?_ ?_<;>intro h)));all_goals try(conv=>whnf)
 .refine zAB rfl ?_
  rw[rAU (hz.1 (rAZ.1 zom))]
 .refine zAB rfl ?_
  rw[rAM h.2,h.1,rAU rfl]
 .have hn:nv x.mag≠0:=fun e=>by rw[hz.2 e]at *; simp at *
  have hb:x.neg=false:=by simpa [hn]using h
  refine zAB rfl ?_;rw[rAM hn,hb]; rfl
theorem uCR:FO 188 Tryz.f188 [.cell 4 101] 46:=mkO Tryz.func188 Tryz.ntmps188 Tryz.results188
theorem uKY (x y : IntL) (hx : okN x.mag) (hy : okN y.mag) (hl:x.mag.length<2147483644) (hl2:y.mag.length<2147483644):Fn 188 [vB0 x,vB0 y] (.data (vB0 (cz (iv x+iv y)))):=by
 have ca:=vZK x.mag y.mag hx hy zom zom;have cs1:=vNK x.mag y.mag hx hy zom zom;have cs2:=vNK y.mag x.mag hy hx zom zom;refine zAL vBC hT uCR (by simp[vB0]) ?_
 refine gob ?_ ?_<;>intro h
 .refine zAA ca rfl ?_
  refine sts ?_;have cm:=zIN x.neg (vBG (nv x.mag+nv y.mag)) (zAP _) (by have:=zAV hx; have:=zKC hx hy; omega);rw[zAR]at cm;refine zAA cm rfl ?_;refine sts ?_;refine zAB rfl ?_;rw[show iv x+iv y=sg x.neg (nv x.mag+nv y.mag) by unfold iv; rw[<- h]; unfold sg; split<;>omega]; rfl
 .by_cases hlt:nv x.mag<nv y.mag
  .unfold vTK at cs1 cs2
   rw[rAU hlt]at cs1;rw[rAM zom]at cs2;refine zAA cs1 rfl ?_;refine sts ?_;refine zAA cs2 rfl ?_;refine sts ?_;have cm:=zIN y.neg (vBG (nv y.mag - nv x.mag)) (zAP _) (by have:=zFY hy (n:=nv y.mag - nv x.mag) zom; omega);rw[zAR]at cm;refine zAA cm rfl ?_;refine sts ?_;refine zAB rfl ?_
   rw [show iv x + iv y = sg y.neg (nv y.mag - nv x.mag) by have:x.neg=!y.neg:=by(cases hh:x.neg<;>cases hh':y.neg<;>simp_all)
                                                            unfold iv; rw[this,zO7]; unfold sg; split<;>omega]
   rfl
  .unfold vTK at cs1
   rw[rAM zom]at cs1;refine zAA cs1 rfl ?_;refine sts ?_;have cm:=zIN x.neg (vBG (nv x.mag - nv y.mag)) (zAP _) (by have:=zFY hx (n:=nv x.mag - nv y.mag) zom; omega);rw[zAR]at cm;refine zAA cm rfl ?_;refine sts ?_;refine zAB rfl ?_
   rw [show iv x + iv y = sg x.neg (nv x.mag - nv y.mag) by have:y.neg=!x.neg:=by(cases hh:x.neg<;>cases hh':y.neg<;>simp_all)
                                                            unfold iv; rw[this,zO7]; unfold sg; split<;>omega]
   rfl
theorem vKX{d:List Int}(h:okN d):(vBG (dn d)).length<=d.length+1:=zB5 (uKB h (rC3 _) zom)
theorem uCE:FO 172 Tryz.f172 [.tmp 2] 11:=mkO Tryz.func172 Tryz.ntmps172 Tryz.results172
theorem zOH(d:List Int)(hd:okN d)(hl:d.length<2147483636):Fn 172 [vBK d] (.data (vBK (vBG (dn d)))):=by
 have cm:=zC1 d hd zom;have h2:=zAV hd;refine zAL vBC hT uCE zsm ?_;refine sts ?_;refine zAA cm rfl ?_
 refine gob ?_ ?_<;>intro h
 .have:nv d=0:=zC0 (rAZ.1 zom)
  refine zAB rfl ?_;rw[dn,rAU this]; rfl
 .have:nv d≠0:=fun e=>h (by rw[e]; rfl)
  refine zAB rfl ?_;rw[dn,rAM this]
theorem vWH:FO 171 Tryz.f171 [.cell 6 26] 49:=mkO Tryz.func171 Tryz.ntmps171 Tryz.results171
theorem vIA(b:Bool)(xs ys:List Int)(hx:okN xs)(hy:okN ys)(h0:nv ys≠0)(hl:xs.length<2147483626)(hl2:ys.length<2147483626):Fn 171 [.bool b,vBK xs,vBK ys] (.data (vA5 (cr (mkRat (sg b (nv xs)) (nv ys))))):=by
 have h1:=zAV hx;have h2:=zAV hy;have hone:∀ n,vBG n=[1]↔n=1:=fun n=>⟨fun h=>by rw[<- zAR n,h]; rfl,fun h=>by rw[h]; rfl⟩
 have hnil:∀ n,vBG n=[]↔n=0:=fun n=>⟨zC0,fun h=>by rw[h]; rfl⟩
 rw[uKF _ _ h0];have cg:=uKW xs ys hx hy zom zom;have hg0:Nat.gcd (nv xs) (nv ys)≠0:=fun e=>h0 (rFQ e)
 have hg3:Nat.gcd (nv xs) (nv ys) ∣ nv xs:=rFY ..;have hgl:(vBG (Nat.gcd (nv xs) (nv ys))).length<=(vBG (nv ys)).length:=zDT (Nat.gcd_le_right _ zom);generalize Nat.gcd (nv xs) (nv ys)=G at *
 have cd1:=zLZ xs (vBG G) hx (zAP _) zom zom;have cd2:=zLZ ys (vBG G) hy (zAP _) zom zom;rw[zAR,rAM hg0,rAM hg0]at cd1 cd2;have hl3:(vBG (nv ys / G)).length<=(vBG (nv ys)).length:=zDT (rDY ..)
 have hN0:nv xs / G=0↔nv xs=0:=by
  obtain⟨k,hk⟩:=hg3;rw[hk,rGP _ zom];constructor
  .intro e; rw[e]; rfl
  .intro e; rcases Nat.mul_eq_zero.1 e with e | e
   .exact absurd e hg0
   .exact e
 generalize nv xs / G=A at *
 generalize nv ys / G=B at *
 have hA:=hnil A;have hB:=hone B;have hl4:(vBG A).length=0↔A=0:=by rw[rAZ,hA]
 have hbA:(b && decide (nv xs≠0))=(b && decide ((vBG A).length > 0)):=by congr 1; rw[rCW]; omega
 rw[hbA];have hbB:(if B=1 then [] else vBG B)=(if vBG B=[1] then [] else vBG B):=by simp only[hB]
 rw[hbB];generalize vBG A=LA at *
 generalize vBG B=LB at *
 have hLB:LB=[1]↔((LB.length:Int)=1/\LB[0]! = 1):=by
  constructor
  .intro e; subst e; simp
  .rintro⟨e1,e2⟩
   obtain⟨x,rfl⟩:=rFD.1 (show LB.length=1 by omega)
   simpa using e2
 refine zAL vBC hT vWH zsm ?_;refine sts ?_;refine zAA cg rfl ?_;refine sts ?_;refine zAA cd1 rfl ?_;refine sts ?_;refine zAA cd2 rfl ?_
 (repeat' (first|refine stp ?_|with_reducible(refine brr ?_ ?_<;>intro h)));all_goals try(conv=>whnf)
 all_goals
  refine zAB rfl ?_;by_cases e:LB=[1]
  .rw[rAU e]
   first | exact absurd (hLB.1 e).1 rAC | exact absurd (hLB.1 e).2 rAC | (subst h; simp[vA5])
  .rw[rAM e]
   first | exact absurd (hLB.2 ⟨by assumption,rAC⟩) e | (subst h; simp[vA5])
theorem vR7:FO 144 Tryz.f144 [.cell 2 26] 11:=mkO Tryz.func144 Tryz.ntmps144 Tryz.results144
theorem zKW(x:RatL)(hx:okR x)(hl:x.num.length<2147483616)(hl2:x.den.length<2147483616):Fn 144 [vA5 x] (.data (vA5 (cr (qv x)))):=by
 have cu:=zOH x.den hx.2 zom;have hl3:=vKX hx.2;have cq:=vIA x.neg x.num (vBG (dn x.den)) hx.1 (zAP _) (by rw[zAR]; exact zDA _) zom zom;rw[zAR]at cq;refine zAL vBC hT vR7 (by simp[vA5]) ?_;refine sts ?_;refine zAA cu rfl ?_;refine sts ?_;refine zAA cq rfl ?_;refine sts ?_;exact rGV
theorem vWG:FO 51 Tryz.f51 [.tmp 4] 24:=mkO Tryz.func51 Tryz.ntmps51 Tryz.results51
theorem vQH(x y:RatL)(hl1:x.num.length<2147483646)(hl2:x.den.length<2147483646)(hl3:y.num.length<2147483646)(hl4:y.den.length<2147483646):Fn 51 [vA5 x,vA5 y] (.data (.bool (decide (x=y)))):=by
 have c1:=vQJ x.num y.num zom zom;have c2:=vQJ x.den y.den zom zom;have n1:x=y↔x.neg=y.neg/\x.num=y.num/\x.den=y.den:=by cases x; cases y; simp
 refine zAL vBC hT vWG (by simp[vA5]) ?_
 refine gob ?_ ?_<;>intro h
 .refine zAA c1 rfl ?_
  refine gob ?_ ?_<;>intro h
  .refine zAA c2 rfl ?_
   refine sts ?_;refine zAB rfl (rA3 PV.bool ?_);rw[rCW,n1]
   simp_all
  .refine zAB rfl (rA3 PV.bool ?_)
   exact(rBD fun e=>h (n1.1 e).2.1).symm
 .refine zAB rfl (rA3 PV.bool ?_)
  exact(rBD fun e=>h (n1.1 e).1).symm
theorem vR6:FO 117 Tryz.f117 [.tmp 2] 7:=mkO Tryz.func117 Tryz.ntmps117 Tryz.results117
theorem zGT(x:RatL)(hx:okR x)(hl:x.num.length<2147483616)(hl2:x.den.length<2147483616):Fn 117 [vA5 x] (.data (.bool (decide (x=cr (qv x))))):=by
 have cc:=zKW x hx hl hl2;have hL:=zBM (vIX hx (k:=max (max x.num.length x.den.length) 1) zom zom zom);have cs:=vQH x (cr (qv x)) zom zom zom zom;refine zAL vBC hT vR6 (by simp[vA5]) ?_;refine sts ?_;refine zAA cc rfl ?_;refine sts ?_;refine zAA cs rfl ?_;refine sts ?_;exact rGV
theorem uII:FO 29 Tryz.f29 [.cell 2 26] 11:=mkO Tryz.func29 Tryz.ntmps29 Tryz.results29
theorem zMI(x:Int)(hx:-9223372036854775808<=x/\x<9223372036854775808):Fn 29 [.int .i64 x] (.data (vA5 (cr x))):=by
 refine zAL vBC hT uII zsm ?_;refine sts ?_;refine zAA (uNZ x hx) rfl ?_;refine sts ?_;refine zAB rfl ?_;simp[vA5,cr,cz];exact rCW.2 Iff.rfl
theorem vWF:FO 116 Tryz.f116 [.tmp 2] 9:=mkO Tryz.func116 Tryz.ntmps116 Tryz.results116
theorem zE1(x:RatL)(hx:okR x)(hl:x.num.length<2147483636):Fn 116 [vA5 x] (.data (.int .i64 (vDL (qv x)))):=by
 have cs:=uET ⟨x.neg,x.num⟩ hx.1 (by show x.num.length<_; omega);rw[vLX];refine zAL vBC hT vWF (by simp[vA5]) ?_;refine sts ?_;refine zAA cs rfl ?_;refine sts ?_;exact rGV
theorem uCF:FO 170 Tryz.f170 [.cell 2 26] 9:=mkO Tryz.func170 Tryz.ntmps170 Tryz.results170
theorem uKS(x:RatL)(hx:okR x)(hl:x.num.length<2147483616)(hl2:x.den.length<2147483616):Fn 170 [vA5 x] (.data (vA5 (cr (- qv x)))):=by
 have cc:=zKW ⟨!x.neg,x.num,x.den⟩ hx hl hl2;rw[show qv ⟨!x.neg,x.num,x.den⟩=- qv x by unfold qv; rw[rGM,zO7]]at cc;refine zAL vBC hT uCF (by simp[vA5]) ?_;refine sts ?_;refine zAA cc rfl ?_;refine sts ?_;exact rGV
theorem uCI:FO 169 Tryz.f169 [.cell 4 26] 41:=mkO Tryz.func169 Tryz.ntmps169 Tryz.results169
theorem zLY(x y:RatL)(hx:okR x)(hy:okR y)(hl1:x.num.length<1000000000)(hl2:x.den.length<1000000000)(hl3:y.num.length<1000000000)(hl4:y.den.length<1000000000):Fn 169 [vA5 x,vA5 y] (.data (vA5 (cr (qv x+qv y)))):=by
 have cu1:=zOH x.den hx.2 zom;have cu2:=zOH y.den hy.2 zom;have u1:=vKX hx.2;have u2:=vKX hy.2;have k1:=zLQ (z:=nv x.num) hx.1 (Int.natAbs_natCast _) hy.2 (rAR _);have k2:=zLQ (z:=nv y.num) hy.1 (Int.natAbs_natCast _) hx.2 (rAR _);rw[<- Int.natCast_mul,Int.natAbs_natCast]at k1 k2;have m1:=zOI x.num (vBG (dn y.den)) hx.1 (zAP _) zom zom;have m2:=zOI y.num (vBG (dn x.den)) hy.1 (zAP _) zom zom;have cm:=zOI (vBG (dn x.den)) (vBG (dn y.den)) (zAP _) (zAP _) zom zom;rw[zAR]at m1 m2;rw[zAR,zAR]at cm;have ca:=uKY ⟨x.neg,vBG (nv x.num * dn y.den)⟩ ⟨y.neg,vBG (nv y.num * dn x.den)⟩ (zAP _) (zAP _) (by show(vBG _).length<_; omega) (by show(vBG _).length<_; omega);unfold iv at ca;simp only[zAR,uHI]at ca;rw[uFY]
 have kl:(vBG (sg x.neg (nv x.num) * (dn y.den:Nat)+sg y.neg (nv y.num) * (dn x.den:Nat)).natAbs).length<2000000010:=by
  obtain⟨K,hK⟩:∃ K:Nat,K=2000000003:=⟨_,rfl⟩;have e0:(sg x.neg (nv x.num) * (dn y.den:Nat)).natAbs=nv x.num * dn y.den:=by rw[rEO,zGE,Int.natAbs_natCast]
  have e0':(sg y.neg (nv y.num) * (dn x.den:Nat)).natAbs=nv y.num * dn x.den:=by rw[rEO,zGE,Int.natAbs_natCast]
  have e1:(sg x.neg (nv x.num) * (dn y.den:Nat)).natAbs<pw K:=by
   have:=zES (zAP (nv x.num * dn y.den));rw[zAR]at this; rw[e0]; exact rA4 this (zFO zom)
  have e2:(sg y.neg (nv y.num) * (dn x.den:Nat)).natAbs<pw K:=by
   have:=zES (zAP (nv y.num * dn x.den));rw[zAR]at this; rw[e0']; exact rA4 this (zFO zom)
  have e3:=zA9 K;have:=zB5 (n:=(sg x.neg (nv x.num) * (dn y.den:Nat)+sg y.neg (nv y.num) * (dn x.den:Nat)).natAbs) (k:=K+1) zom;omega
 have hd:dn x.den * dn y.den≠0:=rDX (zDA _) (zDA _)
 have k4:(vBG (dn x.den * dn y.den)).length<=x.den.length+y.den.length+2:=by
  have:=zC9 (zFB hx.2) (zFB hy.2); rw[zEZ,zEZ]at this;have:=zE6 x.den; have:=zE6 y.den; omega
 generalize sg x.neg (nv x.num) * (dn y.den:Nat)+sg y.neg (nv y.num) * (dn x.den:Nat)=S at *
 generalize dn x.den * dn y.den=D at *
 have cq:=vIA (cz S).neg (cz S).mag (vBG D) (zAP _) (zAP _) (by rw[zAR]; exact hd) (by show(vBG _).length<_; omega) zom;rw[show sg (cz S).neg (nv (cz S).mag)=S from zN2 S,zAR]at cq;refine zAL vBC hT uCI (by simp[vA5]) ?_;refine sts ?_;refine zAA cu2 rfl ?_;refine sts ?_;refine zAA m1 rfl ?_;refine sts ?_;refine zAA cu1 rfl ?_;refine sts ?_;refine zAA m2 rfl ?_;refine sts ?_;refine zAA ca rfl ?_;refine sts ?_;refine zAA cu1 rfl ?_;refine sts ?_;refine zAA cu2 rfl ?_;refine sts ?_;refine zAA cm rfl ?_;refine sts ?_;refine zAA cq rfl ?_;refine sts ?_;exact rGV
theorem uCD:FO 142 Tryz.f142 [.cell 4 26] 9:=mkO Tryz.func142 Tryz.ntmps142 Tryz.results142
theorem vZH(x y:RatL)(hx:okR x)(hy:okR y)(hl1:x.num.length<999999999)(hl2:x.den.length<999999999)(hl3:y.num.length<999999999)(hl4:y.den.length<999999999):Fn 142 [vA5 x,vA5 y] (.data (vA5 (cr (qv x - qv y)))):=by
 have cn:=uKS y hy zom zom;have hL:=zBM (vT8 (vIX hy (k:=max (max y.num.length y.den.length) 1) zom zom zom));have ca:=zLY x (cr (- qv y)) hx (zBE _) zom zom zom zom;rw[zBW,<- rE1]at ca;refine zAL vBC hT uCD (by simp[vA5]) ?_;refine sts ?_;refine zAA cn rfl ?_;refine sts ?_;refine zAA ca rfl ?_;refine sts ?_;exact rGV
theorem uCG:FO 174 Tryz.f174 [.cell 4 26] 23:=mkO Tryz.func174 Tryz.ntmps174 Tryz.results174
theorem vZI(x y:RatL)(hx:okR x)(hy:okR y)(hl1:x.num.length<1000000000)(hl2:x.den.length<1000000000)(hl3:y.num.length<1000000000)(hl4:y.den.length<1000000000):Fn 174 [vA5 x,vA5 y] (.data (vA5 (cr (qv x * qv y)))):=by
 have cu1:=zOH x.den hx.2 zom;have cu2:=zOH y.den hy.2 zom;have u1:=vKX hx.2;have u2:=vKX hy.2;have cm:=zOI (vBG (dn x.den)) (vBG (dn y.den)) (zAP _) (zAP _) zom zom;have cn:=zOI x.num y.num hx.1 hy.1 zom zom;rw[zAR,zAR]at cm;have k3:=zC9 hx.1 hy.1
 have k4:(vBG (dn x.den * dn y.den)).length<=x.den.length+y.den.length+2:=by
  have:=zC9 (zFB hx.2) (zFB hy.2); rw[zEZ,zEZ]at this;have:=zE6 x.den; have:=zE6 y.den; omega
 have hd:dn x.den * dn y.den≠0:=rDX (zDA _) (zDA _);have cq:=vIA (x.neg != y.neg) (vBG (nv x.num * nv y.num)) (vBG (dn x.den * dn y.den)) (zAP _) (zAP _) (by rw[zAR]; exact hd) zom zom;rw[zAR,zAR,vUT,<- uFX]at cq;refine zAL vBC hT uCG (by simp[vA5]) ?_;refine sts ?_;refine zAA cn rfl ?_;refine sts ?_;refine zAA cu1 rfl ?_;refine sts ?_;refine zAA cu2 rfl ?_;refine sts ?_;refine zAA cm rfl ?_;refine sts ?_;refine zAA cq rfl ?_;refine sts ?_;exact rGV
theorem uCH:FO 115 Tryz.f115 [.tmp 4] 9:=mkO Tryz.func115 Tryz.ntmps115 Tryz.results115
theorem uKT(x y:RatL)(hx:okR x)(hy:okR y)(hl1:x.num.length<999999999)(hl2:x.den.length<999999999)(hl3:y.num.length<999999999)(hl4:y.den.length<999999999):Fn 115 [vA5 x,vA5 y] (.data (.int .i64 (vDL (qv x - qv y)))):=by
 have cs:=vZH x y hx hy hl1 hl2 hl3 hl4;have hL:=zBM (zG9 (vIX hx (k:=999999999) zom zom zom) (vT8 (vIX hy (k:=999999999) zom zom zom)));rw[<- rE1]at hL;have cg:=zE1 (cr (qv x - qv y)) (zBE _) zom;rw[zBW]at cg;refine zAL vBC hT uCH (by simp[vA5]) ?_;refine sts ?_;refine zAA cs rfl ?_;refine sts ?_;refine zAA cg rfl ?_;refine sts ?_;exact rGV
theorem vR9:FO 84 Tryz.f84 [.tmp 4] 59:=mkO Tryz.func84 Tryz.ntmps84 Tryz.results84
theorem zKX(f:AffL)(n:Int)(hf:okA 2147483596 f):Fn 84 [vBM f,.int .i64 n] (.data (.bool (vC4 f n))):=by
 obtain⟨hc,ht,hl⟩:=hf;refine zAL vBC hT vR9 (by simp[vBM]) ?_;refine sts ?_
 refine zAN hT (fun(i:Nat)=>[(1,.int .i64 n),(2,.ptr 0 0 0),(5,.int .i64 i)]) (fun _=>[(0,⟨[vBM f],4,true⟩)]) [] 1
  (fun i=>i<=f.terms.length/\∀ j,j<i->okT f.terms n j) (fun i=>f.terms.length - i) 0 ⟨rA7 _,fun j h=>zom⟩ zdd zsm ?_ ?_
 .exact⟨[0],[],[],[],ttt,⟨rAI,apx,rAI,rGU⟩,⟨bbx,rGU⟩,rAA⟩
 intro i ⟨i1,i2⟩;have hcv:=zGT f.const hc.1 (by have:=hc.2; omega) (by have:=hc.2; omega);by_cases hi:i<f.terms.length
 .have hq:=vXN (f:=f) ⟨hc,ht,hl⟩ hi
  have cs:=zE1 f.terms[i]!.coef hq.1 (by have:=hq.2; omega);have cv:=zGT f.terms[i]!.coef hq.1 (by have:=hq.2; omega) (by have:=hq.2; omega)
  (repeat' (first|refine stp ?_|with_reducible(refine brr ?_ ?_<;>intro h)));all_goals try(conv=>whnf)
  .exact zAB rfl (rA3 PV.bool (zBT (i:=i) zom fun e=>by have:=e.1; omega))
  .exact zAB rfl (rA3 PV.bool (zBT (i:=i) zom fun e=>by have:=e.2.1; omega))
  .refine zA5 (j:=i - 1) zom zom ?_
   refine gob ?_ ?_<;>intro h
   .exact zAB rfl (rA3 PV.bool (zBT (i:=i) zom fun e=>by have:=e.2.2.1 zom; omega))
   refine zAA cs rfl ?_
   refine gob ?_ ?_<;>intro h
   .exact zAB rfl (rA3 PV.bool (zBT (i:=i) zom fun e=>e.2.2.2.1 (sgnQ_zero.1 h)))
   .refine zAA cv rfl ?_
    refine gob ?_ ?_<;>intro h
    .refine⟨i+1,⟨⟨zom,fun j hj=>?_⟩,by show f.terms.length - (i+1)<f.terms.length - i; omega⟩,[0],[],[],[],ttt,⟨rAI,apx,zAC rfl zom,rGU⟩,⟨bbx,rGU⟩,rAA⟩
     rcases rB7 (rCA hj) with hj | rfl
     .exact i2 j hj
     .exact⟨zom,zom,fun h0=>by omega,fun e=>by have:=sgnQ_zero.2 e; omega,h⟩
    .exact zAB rfl (rA3 PV.bool (zBT (i:=i) zom fun e=>h e.2.2.2.2))
  .refine zAA cs rfl ?_
   refine gob ?_ ?_<;>intro h
   .exact zAB rfl (rA3 PV.bool (zBT (i:=i) zom fun e=>e.2.2.2.1 (sgnQ_zero.1 h)))
   .refine zAA cv rfl ?_
    refine gob ?_ ?_<;>intro h
    .refine⟨i+1,⟨⟨zom,fun j hj=>?_⟩,by show f.terms.length - (i+1)<f.terms.length - i; omega⟩,[0],[],[],[],ttt,⟨rAI,apx,zAC rfl zom,rGU⟩,⟨bbx,rGU⟩,rAA⟩
     rcases rB7 (rCA hj) with hj | rfl
     .exact i2 j hj
     .exact⟨zom,zom,fun h0=>by omega,fun e=>by have:=sgnQ_zero.2 e; omega,h⟩
    .exact zAB rfl (rA3 PV.bool (zBT (i:=i) zom fun e=>h e.2.2.2.2))
  .omega
 ·(repeat' (first|refine stp ?_|with_reducible(refine brr ?_ ?_<;>intro h)));all_goals try(conv=>whnf)
  all_goals try (exfalso; omega)
  refine zAA hcv rfl ?_;refine sts ?_;exact zAB rfl (rA3 PV.bool (zO1 fun j hj=>i2 j zom))
end Go.PI.Tryz
