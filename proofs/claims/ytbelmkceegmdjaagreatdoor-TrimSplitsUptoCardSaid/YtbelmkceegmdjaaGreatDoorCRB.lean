/-
  The reference: affine forms: Valid.
-/
import Derived.Test.YtbelmkceegmdjaaGreatDoorCPD
import Derived.Test.YtbelmkceegmdjaaGreatDoorCNR
import Derived.Test.YtbelmkceegmdjaaGreatDoorCIB
set_option linter.unusedVariables false
set_option linter.unusedSimpArgs false
set_option linter.unnecessarySimpa false
set_option maxHeartbeats 0
namespace Go.PI.Tryz
open Go.Proofs Go.PI
theorem vUO:FO 89 Tryz.f89 [.cell 4 101] 16:=mkO Tryz.func89 Tryz.ntmps89 Tryz.results89
theorem zIC(b:Bool)(xs:List Int)(hx:okN xs)(hl:xs.length<2147483646):Fn 89 [.bool b,vBJ xs] (.data (vBV (cz (sg b (nv xs))))):=by
 rw[uG8];have ct:=zCZ xs hx zom;have hz:vBF (nv xs)=[]↔nv xs=0:=⟨zCY,fun h=>by rw[h]; rfl⟩;refine zAL vBD hT vUO zsm ?_;refine sts ?_;refine zAA ct rfl ?_
 (refine gob ?_ ?_<;>intro h)
 ·refine zAB rfl ?_
  subst h;have:(0<(vBF (nv xs)).length)↔nv xs≠0:=by rw[List.length_pos_iff,ne_eq,hz]
  simp[vBV,this]
 ·subst h
  exact zAB rfl rfl
theorem uFJ:FO 50 Tryz.f50 [.cell 2 101] 14:=mkO Tryz.func50 Tryz.ntmps50 Tryz.results50
theorem uKQ(x:Int)(hx:-9223372036854775808≤x∧x<9223372036854775808):Fn 50 [.int .i64 x] (.data (vBV (cz x))):=by
 have hle:x.natAbs<pw 2:=by rw[zA6,zA6,zDB]; omega
 have hl:=zB1 hle;refine zAL vBD hT uFJ zsm ?_
 (refine gob ?_ ?_<;>intro h)
 ·refine zIH ?_
  refine sts ?_;refine zIH ?_;have e:(0 - x % 18446744073709551616) % 18446744073709551616=((x.natAbs:Nat):Int):=by omega
  refine sts ?_;rw[e];refine zAA (vOV x.natAbs zom) rfl ?_;refine sts ?_;have cm:=zIC true (vBF x.natAbs) (zAN _) zom;rw[zAQ,show sg true x.natAbs=x by unfold sg; rw[if_pos rfl]; omega]at cm;refine zAA cm rfl ?_;refine sts ?_;exact zAB rfl rfl
 ·refine zAA (vOV x.natAbs zom) (by rw[Int.natAbs_of_nonneg zom]; rfl) ?_
  refine sts ?_;have cm:=zIC false (vBF x.natAbs) (zAN _) zom;rw[zAQ,show sg false x.natAbs=x by unfold sg; rw[if_neg zdd]; omega]at cm;refine zAA cm rfl ?_;refine sts ?_;exact zAB rfl rfl
theorem vUN:FO 143 Tryz.f143 [.tmp 2] 16:=mkO Tryz.func143 Tryz.ntmps143 Tryz.results143
theorem uB0(x:IntL)(hx:okN x.mag)(hl:x.mag.length<2147483646):Fn 143 [vBV x] (.data (.int .i64 (iv x).sign)):=by
 have cm:=zIC x.neg x.mag hx zom;have hz:vBF (nv x.mag)=[]↔nv x.mag=0:=⟨zCY,fun h=>by rw[h]; rfl⟩;rw[uG8]at cm;unfold iv;rw[uCP];refine zAL vBD hT vUN (by simp[vBV]) ?_;refine sts ?_;refine zAA cm rfl ?_
 (repeat' (first|refine stp ?_|with_reducible(refine brr ?_ ?_<;>intro h)));all_goals try(conv=>whnf)
 ·refine zAB rfl ?_
  rw[if_pos (hz.1 (List.length_eq_zero_iff.1 zom))]
 ·refine zAB rfl ?_
  rw[if_neg h.2,h.1,if_pos rfl]
 ·have hn:nv x.mag≠0:=fun e=>by rw[hz.2 e]at *; simp at *
  have hb:x.neg=false:=by simpa [hn]using h
  refine zAB rfl ?_;rw[if_neg hn,hb]; rfl
theorem vZ7:FO 188 Tryz.f188 [.cell 4 101] 46:=mkO Tryz.func188 Tryz.ntmps188 Tryz.results188
theorem uHU (x y : IntL) (hx : okN x.mag) (hy : okN y.mag) (hl:x.mag.length<2147483644) (hl2:y.mag.length<2147483644):Fn 188 [vBV x,vBV y] (.data (vBV (cz (iv x+iv y)))):=by
 have ca:=vW6 x.mag y.mag hx hy zom zom;have cs1:=vMI x.mag y.mag hx hy zom zom;have cs2:=vMI y.mag x.mag hy hx zom zom;refine zAL vBD hT vZ7 (by simp[vBV]) ?_
 (refine gob ?_ ?_<;>intro h)
 ·refine zAA ca rfl ?_
  refine sts ?_;have cm:=zIC x.neg (vBF (nv x.mag+nv y.mag)) (zAN _) (by have:=zAU hx; have:=zJW hx hy; omega);rw[zAQ]at cm;refine zAA cm rfl ?_;refine sts ?_;refine zAB rfl ?_;rw[show iv x+iv y=sg x.neg (nv x.mag+nv y.mag) by unfold iv; rw[← h]; unfold sg; split<;>omega]; rfl
 ·by_cases hlt:nv x.mag<nv y.mag
  ·unfold vRS at cs1 cs2
   rw[if_pos hlt]at cs1;rw[if_neg zom]at cs2;refine zAA cs1 rfl ?_;refine sts ?_;refine zAA cs2 rfl ?_;refine sts ?_;have cm:=zIC y.neg (vBF (nv y.mag - nv x.mag)) (zAN _) (by have:=zFN hy (n:=nv y.mag - nv x.mag) zom; omega);rw[zAQ]at cm;refine zAA cm rfl ?_;refine sts ?_;refine zAB rfl ?_
   rw [show iv x + iv y = sg y.neg (nv y.mag - nv x.mag) by have:x.neg=!y.neg:=by(cases hh:x.neg<;>cases hh':y.neg<;>simp_all)
                                                            unfold iv; rw[this,zOH]; unfold sg; split<;>omega]
   rfl
  ·unfold vRS at cs1
   rw[if_neg zom]at cs1;refine zAA cs1 rfl ?_;refine sts ?_;have cm:=zIC x.neg (vBF (nv x.mag - nv y.mag)) (zAN _) (by have:=zFN hx (n:=nv x.mag - nv y.mag) zom; omega);rw[zAQ]at cm;refine zAA cm rfl ?_;refine sts ?_;refine zAB rfl ?_
   rw [show iv x + iv y = sg x.neg (nv x.mag - nv y.mag) by have:y.neg=!x.neg:=by(cases hh:x.neg<;>cases hh':y.neg<;>simp_all)
                                                            unfold iv; rw[this,zOH]; unfold sg; split<;>omega]
   rfl
theorem vJZ{d:List Int}(h:okN d):(vBF (dn d)).length≤d.length+1:=zB1 (uG7 h (Nat.le_succ _) zom)
theorem vZU:FO 172 Tryz.f172 [.tmp 2] 11:=mkO Tryz.func172 Tryz.ntmps172 Tryz.results172
theorem zNS(d:List Int)(hd:okN d)(hl:d.length<2147483636):Fn 172 [vBJ d] (.data (vBJ (vBF (dn d)))):=by
 have cm:=zCZ d hd zom;have h2:=zAU hd;refine zAL vBD hT vZU zsm ?_;refine sts ?_;refine zAA cm rfl ?_
 (refine gob ?_ ?_<;>intro h)
 ·have:nv d=0:=zCY (List.length_eq_zero_iff.1 zom)
  refine zAB rfl ?_;rw[dn,if_pos this]; rfl
 ·have:nv d≠0:=fun e=>h (by rw[e]; rfl)
  refine zAB rfl ?_;rw[dn,if_neg this]
theorem vUH:FO 171 Tryz.f171 [.cell 6 26] 49:=mkO Tryz.func171 Tryz.ntmps171 Tryz.results171
theorem vHM(b:Bool)(xs ys:List Int)(hx:okN xs)(hy:okN ys)(h0:nv ys≠0)(hl:xs.length<2147483626)(hl2:ys.length<2147483626):Fn 171 [.bool b,vBJ xs,vBJ ys] (.data (vA5 (cr (mkRat (sg b (nv xs)) (nv ys))))):=by
 have h1:=zAU hx;have h2:=zAU hy;have hone:∀ n,vBF n=[1]↔n=1:=fun n=>⟨fun h=>by rw[← zAQ n,h]; rfl,fun h=>by rw[h]; rfl⟩
 have hnil:∀ n,vBF n=[]↔n=0:=fun n=>⟨zCY,fun h=>by rw[h]; rfl⟩
 rw[uHA _ _ h0];have cg:=uHS xs ys hx hy zom zom;have hg0:Nat.gcd (nv xs) (nv ys)≠0:=fun e=>h0 (Nat.eq_zero_of_gcd_eq_zero_right e)
 have hg3:Nat.gcd (nv xs) (nv ys) ∣ nv xs:=Nat.gcd_dvd_left ..;have hgl:(vBF (Nat.gcd (nv xs) (nv ys))).length≤(vBF (nv ys)).length:=zDO (Nat.gcd_le_right _ zom);generalize Nat.gcd (nv xs) (nv ys)=G at *
 have cd1:=zLE xs (vBF G) hx (zAN _) zom zom;have cd2:=zLE ys (vBF G) hy (zAN _) zom zom;rw[zAQ,if_neg hg0,if_neg hg0]at cd1 cd2;have hl3:(vBF (nv ys / G)).length≤(vBF (nv ys)).length:=zDO (Nat.div_le_self ..)
 have hN0:nv xs / G=0↔nv xs=0:=by
  obtain⟨k,hk⟩:=hg3;rw[hk,Nat.mul_div_cancel_left _ zom];constructor
  ·intro e; rw[e]; rfl
  ·intro e; rcases Nat.mul_eq_zero.1 e with e | e
   ·exact absurd e hg0
   ·exact e
 generalize nv xs / G=A at *
 generalize nv ys / G=B at *
 have hA:=hnil A;have hB:=hone B;have hl4:(vBF A).length=0↔A=0:=by rw[List.length_eq_zero_iff,hA]
 have hbA:(b && decide (nv xs≠0))=(b && decide ((vBF A).length > 0)):=by congr 1; rw[decide_eq_decide]; omega
 rw[hbA];have hbB:(if B=1 then [] else vBF B)=(if vBF B=[1] then [] else vBF B):=by simp only[hB]
 rw[hbB];generalize vBF A=LA at *
 generalize vBF B=LB at *
 have hLB:LB=[1]↔((LB.length:Int)=1∧LB[0]! = 1):=by
  constructor
  ·intro e; subst e; simp
  ·rintro⟨e1,e2⟩
   obtain⟨x,rfl⟩:=List.length_eq_one_iff.1 (show LB.length=1 by omega)
   simpa using e2
 refine zAL vBD hT vUH zsm ?_;refine sts ?_;refine zAA cg rfl ?_;refine sts ?_;refine zAA cd1 rfl ?_;refine sts ?_;refine zAA cd2 rfl ?_
 (repeat' (first|refine stp ?_|with_reducible(refine brr ?_ ?_<;>intro h)));all_goals try(conv=>whnf)
 all_goals
  refine zAB rfl ?_;by_cases e:LB=[1]
  ·rw[if_pos e]
   first | exact absurd (hLB.1 e).1 (by assumption) | exact absurd (hLB.1 e).2 (by assumption) | (subst h; simp[vA5])
  ·rw[if_neg e]
   first | exact absurd (hLB.2 ⟨by assumption,by assumption⟩) e | (subst h; simp[vA5])
theorem vQF:FO 144 Tryz.f144 [.cell 2 26] 11:=mkO Tryz.func144 Tryz.ntmps144 Tryz.results144
theorem zKC(x:RatL)(hx:okR x)(hl:x.num.length<2147483616)(hl2:x.den.length<2147483616):Fn 144 [vA5 x] (.data (vA5 (cr (qv x)))):=by
 have cu:=zNS x.den hx.2 zom;have hl3:=vJZ hx.2;have cq:=vHM x.neg x.num (vBF (dn x.den)) hx.1 (zAN _) (by rw[zAQ]; exact zC7 _) zom zom;rw[zAQ]at cq;refine zAL vBD hT vQF (by simp[vA5]) ?_;refine sts ?_;refine zAA cu rfl ?_;refine sts ?_;refine zAA cq rfl ?_;refine sts ?_;exact zAB rfl rfl
theorem vUG:FO 51 Tryz.f51 [.tmp 4] 24:=mkO Tryz.func51 Tryz.ntmps51 Tryz.results51
theorem vOS(x y:RatL)(hl1:x.num.length<2147483646)(hl2:x.den.length<2147483646)(hl3:y.num.length<2147483646)(hl4:y.den.length<2147483646):Fn 51 [vA5 x,vA5 y] (.data (.bool (decide (x=y)))):=by
 have c1:=vOU x.num y.num zom zom;have c2:=vOU x.den y.den zom zom;have n1:x=y↔x.neg=y.neg∧x.num=y.num∧x.den=y.den:=by cases x; cases y; simp
 refine zAL vBD hT vUG (by simp[vA5]) ?_
 (refine gob ?_ ?_<;>intro h)
 ·refine zAA c1 rfl ?_
  (refine gob ?_ ?_<;>intro h)
  ·refine zAA c2 rfl ?_
   refine sts ?_;refine zAB rfl (congrArg PV.bool ?_);rw[decide_eq_decide,n1]
   simp_all
  ·refine zAB rfl (congrArg PV.bool ?_)
   exact(decide_eq_false fun e=>h (n1.1 e).2.1).symm
 ·refine zAB rfl (congrArg PV.bool ?_)
  exact(decide_eq_false fun e=>h (n1.1 e).1).symm
theorem vQE:FO 117 Tryz.f117 [.tmp 2] 7:=mkO Tryz.func117 Tryz.ntmps117 Tryz.results117
theorem zGI(x:RatL)(hx:okR x)(hl:x.num.length<2147483616)(hl2:x.den.length<2147483616):Fn 117 [vA5 x] (.data (.bool (decide (x=cr (qv x))))):=by
 have cc:=zKC x hx hl hl2;have hL:=zBK (vH8 hx (k:=max (max x.num.length x.den.length) 1) zom zom zom);have cs:=vOS x (cr (qv x)) zom zom zom zom;refine zAL vBD hT vQE (by simp[vA5]) ?_;refine sts ?_;refine zAA cc rfl ?_;refine sts ?_;refine zAA cs rfl ?_;refine sts ?_;exact zAB rfl rfl
theorem uFH:FO 29 Tryz.f29 [.cell 2 26] 11:=mkO Tryz.func29 Tryz.ntmps29 Tryz.results29
theorem zLU(x:Int)(hx:-9223372036854775808≤x∧x<9223372036854775808):Fn 29 [.int .i64 x] (.data (vA5 (cr x))):=by
 refine zAL vBD hT uFH zsm ?_;refine sts ?_;refine zAA (uKQ x hx) rfl ?_;refine sts ?_;refine zAB rfl ?_;simp[vA5,cr,cz];exact decide_eq_decide.2 Iff.rfl
theorem vUF:FO 116 Tryz.f116 [.tmp 2] 9:=mkO Tryz.func116 Tryz.ntmps116 Tryz.results116
theorem zEV(x:RatL)(hx:okR x)(hl:x.num.length<2147483636):Fn 116 [vA5 x] (.data (.int .i64 (vC9 (qv x)))):=by
 have cs:=uB0 ⟨x.neg,x.num⟩ hx.1 (by show x.num.length<_; omega);rw[vKX];refine zAL vBD hT vUF (by simp[vA5]) ?_;refine sts ?_;refine zAA cs rfl ?_;refine sts ?_;exact zAB rfl rfl
theorem vZV:FO 170 Tryz.f170 [.cell 2 26] 9:=mkO Tryz.func170 Tryz.ntmps170 Tryz.results170
theorem uHO(x:RatL)(hx:okR x)(hl:x.num.length<2147483616)(hl2:x.den.length<2147483616):Fn 170 [vA5 x] (.data (vA5 (cr (- qv x)))):=by
 have cc:=zKC ⟨!x.neg,x.num,x.den⟩ hx hl hl2;rw[show qv ⟨!x.neg,x.num,x.den⟩=- qv x by unfold qv; rw[Rat.neg_mkRat,zOH]]at cc;refine zAL vBD hT vZV (by simp[vA5]) ?_;refine sts ?_;refine zAA cc rfl ?_;refine sts ?_;exact zAB rfl rfl
theorem vZY:FO 169 Tryz.f169 [.cell 4 26] 41:=mkO Tryz.func169 Tryz.ntmps169 Tryz.results169
theorem zLD(x y:RatL)(hx:okR x)(hy:okR y)(hl1:x.num.length<1000000000)(hl2:x.den.length<1000000000)(hl3:y.num.length<1000000000)(hl4:y.den.length<1000000000):Fn 169 [vA5 x,vA5 y] (.data (vA5 (cr (qv x+qv y)))):=by
 have cu1:=zNS x.den hx.2 zom;have cu2:=zNS y.den hy.2 zom;have u1:=vJZ hx.2;have u2:=vJZ hy.2;have k1:=zK4 (z:=nv x.num) hx.1 (Int.natAbs_natCast _) hy.2 (Nat.le_refl _);have k2:=zK4 (z:=nv y.num) hy.1 (Int.natAbs_natCast _) hx.2 (Nat.le_refl _);rw[← Int.natCast_mul,Int.natAbs_natCast]at k1 k2;have m1:=zNT x.num (vBF (dn y.den)) hx.1 (zAN _) zom zom;have m2:=zNT y.num (vBF (dn x.den)) hy.1 (zAN _) zom zom;have cm:=zNT (vBF (dn x.den)) (vBF (dn y.den)) (zAN _) (zAN _) zom zom;rw[zAQ]at m1 m2;rw[zAQ,zAQ]at cm;have ca:=uHU ⟨x.neg,vBF (nv x.num * dn y.den)⟩ ⟨y.neg,vBF (nv y.num * dn x.den)⟩ (zAN _) (zAN _) (by show(vBF _).length<_; omega) (by show(vBF _).length<_; omega);unfold iv at ca;simp only[zAQ,uEK]at ca;rw[uC0]
 have kl:(vBF (sg x.neg (nv x.num) * (dn y.den:Nat)+sg y.neg (nv y.num) * (dn x.den:Nat)).natAbs).length<2000000010:=by
  obtain⟨K,hK⟩:∃ K:Nat,K=2000000003:=⟨_,rfl⟩;have e0:(sg x.neg (nv x.num) * (dn y.den:Nat)).natAbs=nv x.num * dn y.den:=by rw[Int.natAbs_mul,zF2,Int.natAbs_natCast]
  have e0':(sg y.neg (nv y.num) * (dn x.den:Nat)).natAbs=nv y.num * dn x.den:=by rw[Int.natAbs_mul,zF2,Int.natAbs_natCast]
  have e1:(sg x.neg (nv x.num) * (dn y.den:Nat)).natAbs<pw K:=by
   have:=zEN (zAN (nv x.num * dn y.den));rw[zAQ]at this; rw[e0]; exact Nat.lt_of_lt_of_le this (zFF zom)
  have e2:(sg y.neg (nv y.num) * (dn x.den:Nat)).natAbs<pw K:=by
   have:=zEN (zAN (nv y.num * dn x.den));rw[zAQ]at this; rw[e0']; exact Nat.lt_of_lt_of_le this (zFF zom)
  have e3:=zA6 K;have:=zB1 (n:=(sg x.neg (nv x.num) * (dn y.den:Nat)+sg y.neg (nv y.num) * (dn x.den:Nat)).natAbs) (k:=K+1) zom;omega
 have hd:dn x.den * dn y.den≠0:=Nat.mul_ne_zero (zC7 _) (zC7 _)
 have k4:(vBF (dn x.den * dn y.den)).length≤x.den.length+y.den.length+2:=by
  have:=zC6 (zE4 hx.2) (zE4 hy.2); rw[zET,zET]at this;have:=zE0 x.den; have:=zE0 y.den; omega
 generalize sg x.neg (nv x.num) * (dn y.den:Nat)+sg y.neg (nv y.num) * (dn x.den:Nat)=S at *
 generalize dn x.den * dn y.den=D at *
 have cq:=vHM (cz S).neg (cz S).mag (vBF D) (zAN _) (zAN _) (by rw[zAQ]; exact hd) (by show(vBF _).length<_; omega) zom;rw[show sg (cz S).neg (nv (cz S).mag)=S from zNC S,zAQ]at cq;refine zAL vBD hT vZY (by simp[vA5]) ?_;refine sts ?_;refine zAA cu2 rfl ?_;refine sts ?_;refine zAA m1 rfl ?_;refine sts ?_;refine zAA cu1 rfl ?_;refine sts ?_;refine zAA m2 rfl ?_;refine sts ?_;refine zAA ca rfl ?_;refine sts ?_;refine zAA cu1 rfl ?_;refine sts ?_;refine zAA cu2 rfl ?_;refine sts ?_;refine zAA cm rfl ?_;refine sts ?_;refine zAA cq rfl ?_;refine sts ?_;exact zAB rfl rfl
theorem vZT:FO 142 Tryz.f142 [.cell 4 26] 9:=mkO Tryz.func142 Tryz.ntmps142 Tryz.results142
theorem vW3(x y:RatL)(hx:okR x)(hy:okR y)(hl1:x.num.length<999999999)(hl2:x.den.length<999999999)(hl3:y.num.length<999999999)(hl4:y.den.length<999999999):Fn 142 [vA5 x,vA5 y] (.data (vA5 (cr (qv x - qv y)))):=by
 have cn:=uHO y hy zom zom;have hL:=zBK (vSE (vH8 hy (k:=max (max y.num.length y.den.length) 1) zom zom zom));have ca:=zLD x (cr (- qv y)) hx (zBE _) zom zom zom zom;rw[zBS,← Rat.sub_eq_add_neg]at ca;refine zAL vBD hT vZT (by simp[vA5]) ?_;refine sts ?_;refine zAA cn rfl ?_;refine sts ?_;refine zAA ca rfl ?_;refine sts ?_;exact zAB rfl rfl
theorem vZW:FO 174 Tryz.f174 [.cell 4 26] 23:=mkO Tryz.func174 Tryz.ntmps174 Tryz.results174
theorem vW4(x y:RatL)(hx:okR x)(hy:okR y)(hl1:x.num.length<1000000000)(hl2:x.den.length<1000000000)(hl3:y.num.length<1000000000)(hl4:y.den.length<1000000000):Fn 174 [vA5 x,vA5 y] (.data (vA5 (cr (qv x * qv y)))):=by
 have cu1:=zNS x.den hx.2 zom;have cu2:=zNS y.den hy.2 zom;have u1:=vJZ hx.2;have u2:=vJZ hy.2;have cm:=zNT (vBF (dn x.den)) (vBF (dn y.den)) (zAN _) (zAN _) zom zom;have cn:=zNT x.num y.num hx.1 hy.1 zom zom;rw[zAQ,zAQ]at cm;have k3:=zC6 hx.1 hy.1
 have k4:(vBF (dn x.den * dn y.den)).length≤x.den.length+y.den.length+2:=by
  have:=zC6 (zE4 hx.2) (zE4 hy.2); rw[zET,zET]at this;have:=zE0 x.den; have:=zE0 y.den; omega
 have hd:dn x.den * dn y.den≠0:=Nat.mul_ne_zero (zC7 _) (zC7 _);have cq:=vHM (x.neg != y.neg) (vBF (nv x.num * nv y.num)) (vBF (dn x.den * dn y.den)) (zAN _) (zAN _) (by rw[zAQ]; exact hd) zom zom;rw[zAQ,zAQ,vSZ,← uCZ]at cq;refine zAL vBD hT vZW (by simp[vA5]) ?_;refine sts ?_;refine zAA cn rfl ?_;refine sts ?_;refine zAA cu1 rfl ?_;refine sts ?_;refine zAA cu2 rfl ?_;refine sts ?_;refine zAA cm rfl ?_;refine sts ?_;refine zAA cq rfl ?_;refine sts ?_;exact zAB rfl rfl
theorem vZX:FO 115 Tryz.f115 [.tmp 4] 9:=mkO Tryz.func115 Tryz.ntmps115 Tryz.results115
theorem uHP(x y:RatL)(hx:okR x)(hy:okR y)(hl1:x.num.length<999999999)(hl2:x.den.length<999999999)(hl3:y.num.length<999999999)(hl4:y.den.length<999999999):Fn 115 [vA5 x,vA5 y] (.data (.int .i64 (vC9 (qv x - qv y)))):=by
 have cs:=vW3 x y hx hy hl1 hl2 hl3 hl4;have hL:=zBK (zGW (vH8 hx (k:=999999999) zom zom zom) (vSE (vH8 hy (k:=999999999) zom zom zom)));rw[← Rat.sub_eq_add_neg]at hL;have cg:=zEV (cr (qv x - qv y)) (zBE _) zom;rw[zBS]at cg;refine zAL vBD hT vZX (by simp[vA5]) ?_;refine sts ?_;refine zAA cs rfl ?_;refine sts ?_;refine zAA cg rfl ?_;refine sts ?_;exact zAB rfl rfl
theorem vQH:FO 84 Tryz.f84 [.tmp 4] 59:=mkO Tryz.func84 Tryz.ntmps84 Tryz.results84
theorem zKD(f:AffL)(n:Int)(hf:okA 2147483596 f):Fn 84 [vBL f,.int .i64 n] (.data (.bool (vCK f n))):=by
 obtain⟨hc,ht,hl⟩:=hf;refine zAL vBD hT vQH (by simp[vBL]) ?_;refine sts ?_
 refine zAP hT (fun(i:Nat)=>[(1,.int .i64 n),(2,.ptr 0 0 0),(5,.int .i64 i)]) (fun _=>[(0,⟨[vBL f],4,true⟩)]) [] 1
  (fun i=>i≤f.terms.length∧∀ j,j<i→okT f.terms n j) (fun i=>f.terms.length - i) 0 ⟨Nat.zero_le _,fun j h=>zom⟩ zdd zsm ?_ ?_
 ·exact⟨[0],[],[],[],ttt,⟨zAC rfl rfl,apx,zAC rfl rfl,trivial⟩,⟨bbx,trivial⟩,by simp[ren]⟩
 intro i ⟨i1,i2⟩;have hcv:=zGI f.const hc.1 (by have:=hc.2; omega) (by have:=hc.2; omega);by_cases hi:i<f.terms.length
 ·have hq:=vVK (f:=f) ⟨hc,ht,hl⟩ hi
  have cs:=zEV f.terms[i]!.coef hq.1 (by have:=hq.2; omega);have cv:=zGI f.terms[i]!.coef hq.1 (by have:=hq.2; omega) (by have:=hq.2; omega)
  (repeat' (first|refine stp ?_|with_reducible(refine brr ?_ ?_<;>intro h)));all_goals try(conv=>whnf)
  ·exact zAB rfl (congrArg PV.bool (zBP (i:=i) zom fun e=>by have:=e.1; omega))
  ·exact zAB rfl (congrArg PV.bool (zBP (i:=i) zom fun e=>by have:=e.2.1; omega))
  ·refine zA1 (j:=i - 1) zom zom ?_
   (refine gob ?_ ?_<;>intro h)
   ·exact zAB rfl (congrArg PV.bool (zBP (i:=i) zom fun e=>by have:=e.2.2.1 zom; omega))
   refine zAA cs rfl ?_
   (refine gob ?_ ?_<;>intro h)
   ·exact zAB rfl (congrArg PV.bool (zBP (i:=i) zom fun e=>e.2.2.2.1 (sgnQ_zero.1 h)))
   ·refine zAA cv rfl ?_
    (refine gob ?_ ?_<;>intro h)
    ·refine⟨i+1,⟨⟨zom,fun j hj=>?_⟩,by show f.terms.length - (i+1)<f.terms.length - i; omega⟩,[0],[],[],[],ttt,⟨zAC rfl rfl,apx,zAC rfl zom,trivial⟩,⟨bbx,trivial⟩,by simp[ren]⟩
     rcases Nat.lt_or_eq_of_le (Nat.le_of_lt_succ hj) with hj | rfl
     ·exact i2 j hj
     ·exact⟨zom,zom,fun h0=>by omega,fun e=>by have:=sgnQ_zero.2 e; omega,h⟩
    ·exact zAB rfl (congrArg PV.bool (zBP (i:=i) zom fun e=>h e.2.2.2.2))
  ·refine zAA cs rfl ?_
   (refine gob ?_ ?_<;>intro h)
   ·exact zAB rfl (congrArg PV.bool (zBP (i:=i) zom fun e=>e.2.2.2.1 (sgnQ_zero.1 h)))
   ·refine zAA cv rfl ?_
    (refine gob ?_ ?_<;>intro h)
    ·refine⟨i+1,⟨⟨zom,fun j hj=>?_⟩,by show f.terms.length - (i+1)<f.terms.length - i; omega⟩,[0],[],[],[],ttt,⟨zAC rfl rfl,apx,zAC rfl zom,trivial⟩,⟨bbx,trivial⟩,by simp[ren]⟩
     rcases Nat.lt_or_eq_of_le (Nat.le_of_lt_succ hj) with hj | rfl
     ·exact i2 j hj
     ·exact⟨zom,zom,fun h0=>by omega,fun e=>by have:=sgnQ_zero.2 e; omega,h⟩
    ·exact zAB rfl (congrArg PV.bool (zBP (i:=i) zom fun e=>h e.2.2.2.2))
  ·omega
 ·(repeat' (first|refine stp ?_|with_reducible(refine brr ?_ ?_<;>intro h)));all_goals try(conv=>whnf)
  all_goals try (exfalso; omega)
  refine zAA hcv rfl ?_;refine sts ?_;exact zAB rfl (congrArg PV.bool (zOC fun j hj=>i2 j zom))
end Go.PI.Tryz
