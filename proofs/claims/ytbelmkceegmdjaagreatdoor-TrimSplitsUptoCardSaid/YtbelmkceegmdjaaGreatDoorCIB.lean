/-
  Rationals: Of, Sign, Cmp, Add, Mul.
-/
import Derived.Test.YtbelmkceegmdjaaGreatDoorCPD
import Derived.Test.YtbelmkceegmdjaaGreatDoorCNA
set_option linter.unusedVariables false
set_option linter.unusedSimpArgs false
set_option linter.unnecessarySimpa false
set_option maxHeartbeats 0
namespace Go.PI.Tryz
open Go.Proofs Go.PI
theorem uAM:FO 157 Tryz.f157 [.cell 4 101] 16:=mkO Tryz.func157 Tryz.ntmps157 Tryz.results157
theorem zN1(b:Bool)(xs:List Int)(hx:okN xs)(hl:xs.length<2147483646):Fn 157 [.bool b,vBJ xs] (.data (vBV (cz (sg b (nv xs))))):=by
 rw[uG8];have ct:=zNY xs hx zom;have hz:vBF (nv xs)=[]↔nv xs=0:=⟨zCY,fun h=>by rw[h]; rfl⟩;refine zAL vBD hT uAM zsm ?_;refine sts ?_;refine zAA ct rfl ?_
 (refine gob ?_ ?_<;>intro h)
 ·refine zAB rfl ?_
  subst h;have:(0<(vBF (nv xs)).length)↔nv xs≠0:=by rw[List.length_pos_iff,ne_eq,hz]
  simp[vBV,this]
 ·subst h
  exact zAB rfl rfl
theorem uJU:FO 162 Tryz.f162 [.cell 2 101] 14:=mkO Tryz.func162 Tryz.ntmps162 Tryz.results162
theorem uM3(x:Int)(hx:-9223372036854775808≤x∧x<9223372036854775808):Fn 162 [.int .i64 x] (.data (vBV (cz x))):=by
 refine zAL vBD hT uJU zsm ?_
 (refine gob ?_ ?_<;>intro h)
 ·refine zIH ?_
  refine sts ?_;refine zIH ?_;have e:(0 - x % 18446744073709551616) % 18446744073709551616=((x.natAbs:Nat):Int):=by omega
  refine sts ?_;rw[e];refine zAA (uB7 x.natAbs zom) rfl ?_;refine sts ?_;refine zAB rfl ?_;simp[vBV,cz,h]
 ·refine zAA (uB7 x.natAbs zom) (by rw[Int.natAbs_of_nonneg zom]; rfl) ?_
  refine sts ?_;refine zAB rfl ?_;simp[vBV,cz,h]
theorem uAL:FO 131 Tryz.f131 [.tmp 2] 11:=mkO Tryz.func131 Tryz.ntmps131 Tryz.results131
theorem vML(x:IntL)(hx:okN x.mag)(hl:x.mag.length<2147483646):Fn 131 [vBV x] (.data (.int .i64 (iv x).sign)):=by
 have cb:=vXG x.mag hx zom;have hz:=zO8 (nv x.mag);unfold iv;rw[uCP];refine zAL vBD hT uAL (by simp[vBV]) ?_;refine sts ?_;refine zAA cb rfl ?_
 (repeat' (first|refine stp ?_|with_reducible(refine brr ?_ ?_<;>intro h)));all_goals try(conv=>whnf)
 ·refine zAB rfl ?_
  rw[if_pos (hz.1 h)]
 ·refine zAB rfl ?_
  rw[if_neg zom,h,if_pos rfl]
 ·refine zAB rfl ?_
  rw[if_neg zom,h]; rfl
theorem zG9(z:Int):z.sign=-1∧z<0∨z.sign=0∧z=0∨z.sign=1∧0<z:=by
 rcases Int.lt_trichotomy z 0 with h | h | h
 ·exact Or.inl ⟨Int.sign_eq_neg_one_of_neg h,h⟩
 ·exact Or.inr (Or.inl ⟨by rw[h]; rfl,h⟩)
 ·exact Or.inr (Or.inr ⟨Int.sign_eq_one_of_pos h,h⟩)
theorem uBV{x y:IntL}(h1:iv x<0)(h2:iv y<0):vD6 (iv x) (iv y)=vD6 (nv y.mag) (nv x.mag):=by
 unfold iv sg at *
 unfold vD6
 split at h1<;>split at h2<;>try omega
 rename_i e1 e2
 rw[if_pos e1,if_pos e2]
 repeat' split
 all_goals omega
theorem uBU{x y:IntL}(h1:0≤iv x)(h2:0≤iv y):vD6 (iv x) (iv y)=vD6 (nv x.mag) (nv y.mag):=by
 unfold iv sg at *
 unfold vD6
 split at h1<;>split at h2<;>rename_i e1 e2<;>simp only[e1,e2,if_true,if_false,Bool.false_eq_true,ite_true,ite_false]
 all_goals repeat' split
 all_goals omega
theorem uGB:FO 129 Tryz.f129 [.tmp 4] 32:=mkO Tryz.func129 Tryz.ntmps129 Tryz.results129
theorem uK4(x y:IntL)(hx:okN x.mag)(hy:okN y.mag)(hl:x.mag.length<2147483646)(hl2:y.mag.length<2147483646):Fn 129 [vBV x,vBV y] (.data (.int .i64 (vD6 (iv x) (iv y)))):=by
 have cs1:=vML x hx hl;have cs2:=vML y hy hl2;have cc1:=zN0 x.mag y.mag hx hy zom zom;have cc2:=zN0 y.mag x.mag hy hx zom zom;have k1:=zG9 (iv x);have k2:=zG9 (iv y);refine zAL vBD hT uGB (by simp[vBV]) ?_;refine sts ?_;refine zAA cs1 rfl ?_;refine sts ?_;refine zAA cs2 rfl ?_
 (repeat' (first|refine stp ?_|with_reducible(refine brr ?_ ?_<;>intro h)));all_goals try(conv=>whnf)
 ·refine zAB rfl ?_
  rw[show vD6 (iv x) (iv y)=-1 by unfold vD6; rw[if_pos zom]]
 ·refine zAB rfl ?_
  rw[show vD6 (iv x) (iv y)=1 by unfold vD6; rw[if_neg zom,if_pos zom]]
 ·refine zAA cc2 rfl ?_
  refine sts ?_;refine zAB rfl ?_;rw[uBV zom zom]
 ·refine zAA cc1 rfl ?_
  refine sts ?_;refine zAB rfl ?_;rw[uBU zom zom]
theorem zFN{xs:List Int}(h:okN xs){n:Nat}(hn:n≤nv xs):(vBF n).length≤xs.length:=zB1 (Nat.lt_of_le_of_lt hn (zEN h))
theorem zJW{xs ys:List Int}(h1:okN xs)(h2:okN ys):(vBF (nv xs+nv ys)).length≤max xs.length ys.length+1 :=
 vJE (Nat.lt_of_lt_of_le (zEN h1) (zFF (Nat.le_max_left ..))) (Nat.lt_of_lt_of_le (zEN h2) (zFF (Nat.le_max_right ..)))
theorem zC6{xs ys:List Int}(h1:okN xs)(h2:okN ys):(vBF (nv xs * nv ys)).length≤xs.length+ys.length:=zB1 (zEI (zEN h1) (zEN h2))
theorem uGC:FO 185 Tryz.f185 [.cell 4 101] 40:=mkO Tryz.func185 Tryz.ntmps185 Tryz.results185
theorem uK5 (x y : IntL) (hx : okN x.mag) (hy : okN y.mag) (hl:x.mag.length<2147483644) (hl2:y.mag.length<2147483644):Fn 185 [vBV x,vBV y] (.data (vBV (cz (iv x+iv y)))):=by
 have ca:=uKW x.mag y.mag hx hy zom zom;have cc:=zN0 x.mag y.mag hx hy zom zom;have cs1:=uDS x.mag y.mag hx hy zom zom;have cs2:=uDS y.mag x.mag hy hx zom zom;refine zAL vBD hT uGC (by simp[vBV]) ?_
 (refine gob ?_ ?_<;>intro h)
 ·refine zAA ca rfl ?_
  refine sts ?_;have cm:=zN1 x.neg (vBF (nv x.mag+nv y.mag)) (zAN _) (by have:=zAU hx; have:=zJW hx hy; omega);rw[zAQ]at cm;refine zAA cm rfl ?_;refine sts ?_;refine zAB rfl ?_;rw[show iv x+iv y=sg x.neg (nv x.mag+nv y.mag) by unfold iv; rw[← h]; unfold sg; split<;>omega]; rfl
 ·refine zAA cc rfl ?_
  have hlt:=zNM (nv x.mag) (nv y.mag)
  (refine gob ?_ ?_<;>intro h)
  ·unfold vRS at cs2
   rw[if_neg zom]at cs2;refine zAA cs2 rfl ?_;refine sts ?_;have cm:=zN1 y.neg (vBF (nv y.mag - nv x.mag)) (zAN _) (by have:=zFN hy (n:=nv y.mag - nv x.mag) zom; omega);rw[zAQ]at cm;refine zAA cm rfl ?_;refine sts ?_;refine zAB rfl ?_
   rw [show iv x + iv y = sg y.neg (nv y.mag - nv x.mag) by have:x.neg=!y.neg:=by(cases hh:x.neg<;>cases hh':y.neg<;>simp_all)
                                                            unfold iv; rw[this,zOH]; unfold sg; split<;>omega]
   rfl
  ·unfold vRS at cs1
   rw[if_neg zom]at cs1;refine zAA cs1 rfl ?_;refine sts ?_;have cm:=zN1 x.neg (vBF (nv x.mag - nv y.mag)) (zAN _) (by have:=zFN hx (n:=nv x.mag - nv y.mag) zom; omega);rw[zAQ]at cm;refine zAA cm rfl ?_;refine sts ?_;refine zAB rfl ?_
   rw [show iv x + iv y = sg x.neg (nv x.mag - nv y.mag) by have:y.neg=!x.neg:=by(cases hh:x.neg<;>cases hh':y.neg<;>simp_all)
                                                            unfold iv; rw[this,zOH]; unfold sg; split<;>omega]
   rfl
theorem uGA:FO 155 Tryz.f155 [.cell 4 101] 16:=mkO Tryz.func155 Tryz.ntmps155 Tryz.results155
theorem uDY(x y:IntL)(hx:okN x.mag)(hy:okN y.mag)(hl:x.mag.length<1073741818)(hl2:y.mag.length<1073741818):Fn 155 [vBV x,vBV y] (.data (vBV (cz (iv x * iv y)))):=by
 have ca:=vO4 x.mag y.mag hx hy zom zom;refine zAL vBD hT uGA (by simp[vBV]) ?_;refine sts ?_;refine zAA ca rfl ?_;refine sts ?_;have cm:=zN1 (x.neg != y.neg) (vBF (nv x.mag * nv y.mag)) (zAN _) (by have:=zC6 hx hy; omega);rw[zAQ]at cm;refine zAA cm rfl ?_;refine sts ?_;refine zAB rfl ?_;rw[vSZ]; rfl
theorem uFM:FO 182 Tryz.f182 [.tmp 0] 2:=mkO Tryz.func182 Tryz.ntmps182 Tryz.results182
theorem uDR:Fn 182 [] (.data (vBJ [1])):=by
 refine zAL vBD hT uFM zsm ?_;refine sts ?_;exact zAB rfl rfl
theorem vZ9:FO 179 Tryz.f179 [.tmp 2] 12:=mkO Tryz.func179 Tryz.ntmps179 Tryz.results179
theorem vMK(xs:List Int)(hl:xs.length<2147483646):Fn 179 [vBJ xs] (.data (.bool (decide (xs=[1])))):=by
 refine zAL vBD hT vZ9 zsm ?_
 (refine gob ?_ ?_<;>intro h)
 ·obtain⟨x,rfl⟩:=List.length_eq_one_iff.1 (show xs.length=1 by omega)
  refine zAB rfl ?_;simp[vPC]
 ·refine zAB rfl ?_
  have:xs≠[1]:=fun e=>h (by rw[e]; rfl)
  simp[this]
def und(d:List Int):List Int:=if nv d=0 then [1] else d
theorem zET(d:List Int):nv (und d)=dn d:=by unfold und dn; split<;>simp[nv]
theorem zE4{d:List Int}(h:okN d):okN (und d):=by unfold und; split; exact okN_cons.2 ⟨zdd,zD6⟩; exact h
theorem zE0(d:List Int):(und d).length≤d.length+1:=by unfold und; split<;>simp
theorem vU2:FO 153 Tryz.f153 [.tmp 2] 10:=mkO Tryz.func153 Tryz.ntmps153 Tryz.results153
theorem zGV(x:RatL)(hx:okR x)(hl:x.den.length<2147483646):Fn 153 [vA5 x] (.data (vBJ (und x.den))):=by
 have cb:=vXG x.den hx.2 zom;have hz:=zO8 (nv x.den);refine zAL vBD hT vU2 (by simp[vA5]) ?_;refine sts ?_;refine zAA cb rfl ?_
 (refine gob ?_ ?_<;>intro h)
 ·refine zAA uDR rfl ?_
  refine sts ?_;refine zAB rfl ?_;rw[und,if_pos (hz.1 h)]
 ·refine zAB rfl ?_
  rw[und,if_neg (fun e=>h (hz.2 e))]
theorem vQO:FO 132 Tryz.f132 [.cell 2 101] 8:=mkO Tryz.func132 Tryz.ntmps132 Tryz.results132
theorem zNW(x:RatL)(hx:okR x)(hl:x.num.length<2147483646):Fn 132 [vA5 x] (.data (vBV (cz (sg x.neg (nv x.num))))):=by
 have cm:=zN1 x.neg x.num hx.1 hl;refine zAL vBD hT vQO (by simp[vA5]) ?_;refine sts ?_;refine zAA cm rfl ?_;refine sts ?_;exact zAB rfl rfl
theorem uAB:FO 152 Tryz.f152 [.cell 6 26] 47:=mkO Tryz.func152 Tryz.ntmps152 Tryz.results152
theorem vHN(b:Bool)(xs ys:List Int)(hx:okN xs)(hy:okN ys)(h0:nv ys≠0)(hl:xs.length<2147483636)(hl2:ys.length<2147483636):Fn 152 [.bool b,vBJ xs,vBJ ys] (.data (vA5 (cr (mkRat (sg b (nv xs)) (nv ys))))):=by
 have cm1:=zNY xs hx zom;have cm2:=zNY ys hy zom;have h1:=zAU hx;have h2:=zAU hy;have hone:∀ n,vBF n=[1]↔n=1:=fun n=>⟨fun h=>by rw[← zAQ n,h]; rfl,fun h=>by rw[h]; rfl⟩
 have hnil:∀ n,vBF n=[]↔n=0:=fun n=>⟨zCY,fun h=>by rw[h]; rfl⟩
 rw[uHA _ _ h0];generalize nv xs=N at *
 generalize nv ys=D at *
 have cg:=uKV (vBF N) (vBF D) (zAN _) (zAN _) zom zom;rw[zAQ,zAQ]at cg;have hg0:Nat.gcd N D≠0:=fun e=>h0 (Nat.eq_zero_of_gcd_eq_zero_right e)
 have hg1:N=0→Nat.gcd N D=D:=fun e=>by rw[e,Nat.gcd_zero_left]
 have hg2:D=1→Nat.gcd N D=1:=fun e=>by rw[e,Nat.gcd_one_right]
 have hgl:(vBF (Nat.gcd N D)).length≤(vBF D).length:=zDO (Nat.gcd_le_right _ zom);generalize Nat.gcd N D=G at *
 have cd1:=zNZ (vBF N) (vBF G) (zAN _) (zAN _) zom zom;have cd2:=zNZ (vBF D) (vBF G) (zAN _) (zAN _) zom zom;rw[zAQ,zAQ,if_neg hg0,if_neg hg0]at cd1 cd2;have cu1:=vMK (vBF D) zom;have cu2:=vMK (vBF G) zom;have hl3:(vBF (D / G)).length≤(vBF D).length:=zDO (Nat.div_le_self ..);have cu3:=vMK (vBF (D / G)) zom;simp only[hone]at cu1 cu2 cu3;refine zAL vBD hT uAB zsm ?_;refine sts ?_;refine zAA cm1 rfl ?_
 (refine gob ?_ ?_<;>intro h)
 ·have e:=(hnil N).1 (List.length_eq_zero_iff.1 zom)
  refine zAB rfl ?_;have e2:=hg1 e;subst e e2;simp[vA5,zDG,Nat.div_self (Nat.pos_of_ne_zero h0)]
 refine zAA cm2 rfl ?_;refine sts ?_;refine zAA cu1 rfl ?_
 (refine gob ?_ ?_<;>intro h)
 ·have e2:=hg2 h
  subst h e2;have hN:N≠0:=fun e=>by rw[(hnil N).2 e]at *; simp at *
  refine zAB rfl ?_;simp[vA5,hN]
 have hN:N≠0:=fun e=>by rw[(hnil N).2 e]at *; simp at *
 rw[show(b && decide (N≠0))=b by simp[hN]];refine zAA cg rfl ?_;refine sts ?_;refine zAA cu2 rfl ?_
 (refine gob ?_ ?_<;>intro h)
 ·subst h
  simp only[Nat.div_one];have hD1:D≠1:=by assumption
  rw[if_neg hD1];refine zAA cu1 rfl ?_
  (refine gob ?_ ?_<;>intro h)
  ·exact absurd h hD1
  ·exact zAB rfl rfl
 ·refine zAA cd1 rfl ?_
  refine sts ?_;refine zAA cd2 rfl ?_;refine sts ?_;refine zAA cu3 rfl ?_
  (refine gob ?_ ?_<;>intro h)
  ·rw[if_pos h]
   exact zAB rfl rfl
  ·rw[if_neg h]
   exact zAB rfl rfl
theorem vU4:FO 126 Tryz.f126 [.cell 2 26] 10:=mkO Tryz.func126 Tryz.ntmps126 Tryz.results126
theorem zMJ(x:RatL)(hx:okR x)(hl:x.num.length<2147483626)(hl2:x.den.length<2147483626):Fn 126 [vA5 x] (.data (vA5 (cr (qv x)))):=by
 have cu:=zGV x hx zom;have hl3:=zE0 x.den;have cq:=vHN x.neg x.num (und x.den) hx.1 (zE4 hx.2) (by rw[zET]; exact zC7 _) zom zom;rw[zET]at cq;refine zAL vBD hT vU4 (by simp[vA5]) ?_;refine sts ?_;refine zAA cu rfl ?_;refine sts ?_;refine zAA cq rfl ?_;refine sts ?_;exact zAB rfl rfl
theorem vS7{xs ys:List Int}(h1:okN xs)(h2:okN ys)(hl:xs.length=ys.length)(h:nv xs=nv ys):xs=ys:=by
 rw[← zMD h1,← zMD h2,hl,h]
theorem vWO(a b:Nat):vD6 a b=0↔a=b:=by
 unfold vD6
 repeat' split
 all_goals omega
theorem vPK{xs:List Int}(h:okN xs):vFD xs=true↔xs=vBF (nv xs):=by
 have e:vFD xs=true↔vMF xs:=by
  unfold vFD vMF;rw[decide_eq_true_eq];by_cases h0:xs=[]
  ·exact⟨fun _=>⟨h,Or.inl h0⟩,fun _=>Or.inl h0⟩
  have hl:xs.length≠0:=fun e=>h0 (List.length_eq_zero_iff.1 e)
  rw[getElem!_pos xs _ zom,List.getLast?_eq_getElem?,List.getElem?_eq_getElem zom];refine⟨fun h1=>⟨h,h1.imp id fun h2=>by simpa using h2⟩,fun h1=>h1.2.imp id fun h2=>by simpa using h2⟩
 rw[e];exact⟨fun h=>(zM9 h).symm,fun h=>by rw[h]; exact zEF _⟩
theorem uIV{x:RatL}(h:okN x.num)(hd:x.den=[]):x=⟨x.neg && decide (nv x.num≠0),vBF (nv x.num),[]⟩↔(vFD x.num=true∧(x.neg=true→0<x.num.length)):=by
 obtain⟨b,n,d⟩:=x;dsimp only at *
 subst hd;rw[vPK h];simp only[RatL.mk.injEq,and_true];constructor
 ·rintro⟨h1,h2⟩
  refine⟨h2,fun hb=>?_⟩;rw[hb]at h1;have:nv n≠0:=by simpa using h1
  exact List.length_pos_iff.2 fun e=>this (by rw[e]; rfl)
 ·rintro⟨h1,h2⟩
  refine⟨?_,h1⟩;cases b
  ·rfl
  ·have:nv n≠0:=fun e=>by rw[h1,e]at h2; simp[zDG]at h2
   simp[this]
theorem vU1:FO 94 Tryz.f94 [.tmp 2] 63:=mkO Tryz.func94 Tryz.ntmps94 Tryz.results94
theorem zGU(x:RatL)(hx:okR x)(hl:x.num.length<2147483626)(hl2:x.den.length<2147483626):Fn 94 [vA5 x] (.data (.bool (decide (x=cr (qv x))))):=by
 have cv:=uB6 x.num zom;have cc:=zMJ x hx hl hl2;have hL:=zBK (vH8 hx (k:=max (max x.num.length x.den.length) 1) zom zom zom);have ho:=zBE (qv x)
 have hx0:x.den=[]→cr (qv x)=⟨x.neg && decide (nv x.num≠0),vBF (nv x.num),[]⟩:=fun h=>by
  unfold qv; rw[h,show dn []=1 from rfl,uHA _ _ zdd]; simp
 generalize cr (qv x)=c at *
 have c1:=zN0 x.num c.num hx.1 ho.1 zom zom;have c2:=zN0 x.den c.den hx.2 ho.2 zom zom;refine zAL vBD hT vU1 (by simp[vA5]) ?_
 (refine gob ?_ ?_<;>intro h)
 ·refine zAA cv rfl ?_
  have hd:x.den=[]:=List.length_eq_zero_iff.1 zom;have hx1:=hx0 hd;have key:x=c↔(vFD x.num=true∧(x.neg=true→0<x.num.length)):=by rw[hx1]; exact uIV hx.1 hd
  clear hx1 hx0 hL
  (repeat' (first|refine stp ?_|with_reducible(refine brr ?_ ?_<;>intro h)));all_goals try(conv=>whnf)
  ·refine zAB rfl (congrArg PV.bool ?_)
   simp_all
  ·refine zAB rfl (congrArg PV.bool ?_)
   simp_all
  ·refine zAB rfl (congrArg PV.bool ?_)
   simp_all
 ·refine zAA cc rfl ?_
  have n1:x=c→x.neg=c.neg∧x.num=c.num∧x.den=c.den:=fun e=>by rw[← e]; exact⟨rfl,rfl,rfl⟩
  have e1:=vWO (nv x.num) (nv c.num);have e2:=vWO (nv x.den) (nv c.den)
  (repeat' (first|refine stp ?_|with_reducible(refine brr ?_ ?_<;>intro h)));all_goals try(conv=>whnf)
  ·refine zAA c1 rfl ?_
   (refine gob ?_ ?_<;>intro h)
   ·refine zAA c2 rfl ?_
    refine sts ?_;refine zAB rfl (congrArg PV.bool ?_);rw[vPC];refine decide_eq_decide.2 ⟨fun h4=>?_,fun h4=>e2.2 (by rw[(n1 h4).2.2])⟩;have a1:=vS7 hx.1 ho.1 zom (e1.1 (by assumption));have a2:=vS7 hx.2 ho.2 zom (e2.1 h4);have a3:x.neg=c.neg:=by assumption
    cases x; cases c; simp_all
   ·refine zAB rfl (congrArg PV.bool ?_)
    exact(decide_eq_false fun e=>h (e1.2 (by rw[(n1 e).2.1]))).symm
  ·refine zAB rfl (congrArg PV.bool ?_)
   exact(decide_eq_false fun e=>h (by rw[(n1 e).2.2])).symm
  ·refine zAB rfl (congrArg PV.bool ?_)
   exact(decide_eq_false fun e=>h (by rw[(n1 e).2.1])).symm
  ·refine zAB rfl (congrArg PV.bool ?_)
   exact(decide_eq_false fun e=>h (n1 e).1).symm
theorem vU0:FO 161 Tryz.f161 [.cell 2 26] 9:=mkO Tryz.func161 Tryz.ntmps161 Tryz.results161
theorem uB5(z:Int)(hl:(vBF z.natAbs).length<2147483626):Fn 161 [vBV (cz z)] (.data (vA5 (cr z))):=by
 have cq:=vHN (cz z).neg (cz z).mag [1] (zAN _) (by rw[okN_cons]; exact⟨zdd,zD6⟩) zdd (by show(vBF _).length<_; omega) zdd;rw[show sg (cz z).neg (nv (cz z).mag)=z from zNC z,show nv [1]=1 from rfl,Rat.mkRat_one]at cq;refine zAL vBD hT vU0 (by simp[vBV]) ?_;refine sts ?_;refine zAA uDR rfl ?_;refine sts ?_;refine zAA cq rfl ?_;refine sts ?_;exact zAB rfl rfl
theorem uJR:FO 134 Tryz.f134 [.cell 2 26] 6:=mkO Tryz.func134 Tryz.ntmps134 Tryz.results134
theorem uHW(x:Int)(hx:-9223372036854775808≤x∧x<9223372036854775808):Fn 134 [.int .i64 x] (.data (vA5 (cr x))):=by
 have hle:x.natAbs<pw 2:=by rw[zA6,zA6,zDB]; omega
 have hl:=zB1 hle;refine zAL vBD hT uJR zsm ?_;refine sts ?_;refine zAA (uM3 x hx) rfl ?_;refine sts ?_;refine zAA (uB5 x zom) rfl ?_;refine sts ?_;exact zAB rfl rfl
theorem uAA:FO 98 Tryz.f98 [.tmp 2] 6:=mkO Tryz.func98 Tryz.ntmps98 Tryz.results98
theorem zFW(x:RatL)(hx:okR x)(hl:x.num.length<2147483636):Fn 98 [vA5 x] (.data (.int .i64 (vC9 (qv x)))):=by
 have cs:=zNW x hx zom;have h2:=zAU hx.1;have ci:=vML (cz (sg x.neg (nv x.num))) (zAN _) (by show(vBF _).length<_; rw[zF2]; omega);rw[zNC,← vKX]at ci;refine zAL vBD hT uAA (by simp[vA5]) ?_;refine sts ?_;refine zAA cs rfl ?_;refine sts ?_;refine zAA ci rfl ?_;refine sts ?_;exact zAB rfl rfl
theorem vU3:FO 128 Tryz.f128 [.cell 4 101,.cell 5 101] 22:=mkO Tryz.func128 Tryz.ntmps128 Tryz.results128
theorem vO1(x y:RatL)(hx:okR x)(hy:okR y)(hl1:x.num.length<1000000000)(hl2:x.den.length<1000000000)(hl3:y.num.length<1000000000)(hl4:y.den.length<1000000000):Fn 128 [vA5 x,vA5 y] (.data (.tup [vBV (cz (sg x.neg (nv x.num) * dn y.den)),vBV (cz (sg y.neg (nv y.num) * dn x.den))])):=by
 have cs1:=zNW x hx zom;have cs2:=zNW y hy zom;have cu1:=zGV x hx zom;have cu2:=zGV y hy zom;have h1:=zAU hx.1;have h2:=zAU hy.1;have u1:=zE0 x.den;have u2:=zE0 y.den;have cm1:=uDY (cz (sg x.neg (nv x.num))) ⟨false,und y.den⟩ (zAN _) (zE4 hy.2) (by show(vBF _).length<_; rw[zF2]; omega) (by show(und _).length<_; omega);have cm2:=uDY (cz (sg y.neg (nv y.num))) ⟨false,und x.den⟩ (zAN _) (zE4 hx.2) (by show(vBF _).length<_; rw[zF2]; omega) (by show(und _).length<_; omega);rw[zNC,show iv ⟨false,und y.den⟩=dn y.den by show sg false _=_; rw[zET]; rfl]at cm1;rw[zNC,show iv ⟨false,und x.den⟩=dn x.den by show sg false _=_; rw[zET]; rfl]at cm2;refine zAL vBD hT vU3 (by simp[vA5]) ?_;refine sts ?_;refine zAA cu1 rfl ?_;refine sts ?_;refine zAA cu2 rfl ?_;refine sts ?_;refine zAA cs1 rfl ?_;refine sts ?_;refine zAA cm1 rfl ?_;refine sts ?_;refine zAA cs2 rfl ?_;refine sts ?_;refine zAA cm2 rfl ?_;refine sts ?_;exact zAB rfl rfl
theorem uHD(X Y:Int):(X - Y).sign=vD6 X Y:=by
 have:=zG9 (X - Y);unfold vD6
 repeat' split
 all_goals omega
theorem vOL{z1 z2:Int}{d1 d2:Nat}(h1:d1≠0)(h2:d2≠0)(h:z1.sign<z2.sign):z1 * d2<z2 * d1:=by
 have e1:(z1 * d2).sign=z1.sign:=by rw[Int.sign_mul,Int.sign_natCast_of_ne_zero h2,Int.mul_one]
 have e2:(z2 * d1).sign=z2.sign:=by rw[Int.sign_mul,Int.sign_natCast_of_ne_zero h1,Int.mul_one]
 have:=zG9 (z1 * d2);have:=zG9 (z2 * d1);omega
theorem zK4{z:Int}{d:List Int}{j:Nat}{xs:List Int}(h1:okN xs)(h:z.natAbs=nv xs)(hd:okN d)(hj:xs.length+d.length+1≤j):(vBF (z * (dn d:Nat)).natAbs).length≤j:=by
 refine zB1 ?_;rw[Int.natAbs_mul,h,Int.natAbs_natCast];exact Nat.lt_of_lt_of_le (zEI (zEN h1) (uG7 hd (Nat.le_succ _) zom)) (zFF zom)
theorem uFO:FO 95 Tryz.f95 [.tmp 4] 28:=mkO Tryz.func95 Tryz.ntmps95 Tryz.results95
theorem uKT(x y:RatL)(hx:okR x)(hy:okR y)(hl1:x.num.length<1000000000)(hl2:x.den.length<1000000000)(hl3:y.num.length<1000000000)(hl4:y.den.length<1000000000):Fn 95 [vA5 x,vA5 y] (.data (.int .i64 (vC9 (qv x - qv y)))):=by
 have cs1:=zFW x hx zom;have cs2:=zFW y hy zom;have cc:=vO1 x y hx hy hl1 hl2 hl3 hl4;have k1:=zK4 (z:=sg x.neg (nv x.num)) hx.1 (zF2 ..) hy.2 (Nat.le_refl _);have k2:=zK4 (z:=sg y.neg (nv y.num)) hy.1 (zF2 ..) hx.2 (Nat.le_refl _);have ci:=uK4 (cz (sg x.neg (nv x.num) * dn y.den)) (cz (sg y.neg (nv y.num) * dn x.den)) (zAN _) (zAN _) (by show(vBF _).length<_; omega) (by show(vBF _).length<_; omega);rw[vYZ,uHD];rw[zNC,zNC]at ci;have m1:=vOL (z1:=sg x.neg (nv x.num)) (z2:=sg y.neg (nv y.num)) (zC7 x.den) (zC7 y.den);have m2:=vOL (z1:=sg y.neg (nv y.num)) (z2:=sg x.neg (nv x.num)) (zC7 y.den) (zC7 x.den);rw[vKX]at cs1 cs2;refine zAL vBD hT uFO (by simp[vA5]) ?_;refine sts ?_;refine zAA cs1 rfl ?_;refine sts ?_;refine zAA cs2 rfl ?_
 (repeat' (first|refine stp ?_|with_reducible(refine brr ?_ ?_<;>intro h)));all_goals try(conv=>whnf)
 ·refine zAB rfl ?_
  have:=m1 h;unfold vD6; rw[if_pos this]
 ·refine zAB rfl ?_
  have:=m2 zom;unfold vD6; rw[if_neg zom,if_pos this]
 ·refine zAA cc rfl ?_
  refine sts ?_;refine zAA ci rfl ?_;refine sts ?_;exact zAB rfl rfl
theorem uFP:FO 158 Tryz.f158 [.cell 4 26] 27:=mkO Tryz.func158 Tryz.ntmps158 Tryz.results158
theorem vO2(x y:RatL)(hx:okR x)(hy:okR y)(hl1:x.num.length<1000000000)(hl2:x.den.length<1000000000)(hl3:y.num.length<1000000000)(hl4:y.den.length<1000000000):Fn 158 [vA5 x,vA5 y] (.data (vA5 (cr (qv x+qv y)))):=by
 have cc:=vO1 x y hx hy hl1 hl2 hl3 hl4;have cu1:=zGV x hx zom;have cu2:=zGV y hy zom;have u1:=zE0 x.den;have u2:=zE0 y.den;have k1:=zK4 (z:=sg x.neg (nv x.num)) hx.1 (zF2 ..) hy.2 (Nat.le_refl _);have k2:=zK4 (z:=sg y.neg (nv y.num)) hy.1 (zF2 ..) hx.2 (Nat.le_refl _);have ca:=uK5 (cz (sg x.neg (nv x.num) * dn y.den)) (cz (sg y.neg (nv y.num) * dn x.den)) (zAN _) (zAN _) (by show(vBF _).length<_; omega) (by show(vBF _).length<_; omega);rw[zNC,zNC]at ca;have cm:=vO4 (und x.den) (und y.den) (zE4 hx.2) (zE4 hy.2) zom zom;rw[zET,zET]at cm;rw[uC0]
 have kl:(vBF (sg x.neg (nv x.num) * (dn y.den:Nat)+sg y.neg (nv y.num) * (dn x.den:Nat)).natAbs).length<2000000010:=by
  obtain⟨K,hK⟩:∃ K:Nat,K=2000000003:=⟨_,rfl⟩
  have e1:(sg x.neg (nv x.num) * (dn y.den:Nat)).natAbs<pw K:=by
   have:=zEN (zAN (sg x.neg (nv x.num) * (dn y.den:Nat)).natAbs);rw[zAQ]at this; exact Nat.lt_of_lt_of_le this (zFF zom)
  have e2:(sg y.neg (nv y.num) * (dn x.den:Nat)).natAbs<pw K:=by
   have:=zEN (zAN (sg y.neg (nv y.num) * (dn x.den:Nat)).natAbs);rw[zAQ]at this; exact Nat.lt_of_lt_of_le this (zFF zom)
  have e3:=zA6 K;have:=zB1 (n:=(sg x.neg (nv x.num) * (dn y.den:Nat)+sg y.neg (nv y.num) * (dn x.den:Nat)).natAbs) (k:=K+1) zom;omega
 have hd:dn x.den * dn y.den≠0:=Nat.mul_ne_zero (zC7 _) (zC7 _)
 have k4:(vBF (dn x.den * dn y.den)).length≤x.den.length+y.den.length+2:=by
  have:=zC6 (zE4 hx.2) (zE4 hy.2); rw[zET,zET]at this; omega
 generalize sg x.neg (nv x.num) * (dn y.den:Nat)+sg y.neg (nv y.num) * (dn x.den:Nat)=S at *
 generalize dn x.den * dn y.den=D at *
 have cq:=vHN (cz S).neg (cz S).mag (vBF D) (zAN _) (zAN _) (by rw[zAQ]; exact hd) (by show(vBF _).length<_; omega) zom;rw[show sg (cz S).neg (nv (cz S).mag)=S from zNC S,zAQ]at cq;refine zAL vBD hT uFP (by simp[vA5]) ?_;refine sts ?_;refine zAA cc rfl ?_;refine sts ?_;refine zAA ca rfl ?_;refine sts ?_;refine zAA cu1 rfl ?_;refine sts ?_;refine zAA cu2 rfl ?_;refine sts ?_;refine zAA cm rfl ?_;refine sts ?_;refine zAA cq rfl ?_;refine sts ?_;exact zAB rfl rfl
theorem uFN:FO 159 Tryz.f159 [.cell 4 26] 21:=mkO Tryz.func159 Tryz.ntmps159 Tryz.results159
theorem zNX(x y:RatL)(hx:okR x)(hy:okR y)(hl1:x.num.length<1000000000)(hl2:x.den.length<1000000000)(hl3:y.num.length<1000000000)(hl4:y.den.length<1000000000):Fn 159 [vA5 x,vA5 y] (.data (vA5 (cr (qv x * qv y)))):=by
 have cu1:=zGV x hx zom;have cu2:=zGV y hy zom;have u1:=zE0 x.den;have u2:=zE0 y.den;have cm:=vO4 (und x.den) (und y.den) (zE4 hx.2) (zE4 hy.2) zom zom;have cn:=vO4 x.num y.num hx.1 hy.1 zom zom;rw[zET,zET]at cm;have k3:=zC6 hx.1 hy.1
 have k4:(vBF (dn x.den * dn y.den)).length≤x.den.length+y.den.length+2:=by
  have:=zC6 (zE4 hx.2) (zE4 hy.2); rw[zET,zET]at this; omega
 have hd:dn x.den * dn y.den≠0:=Nat.mul_ne_zero (zC7 _) (zC7 _);have cq:=vHN (x.neg != y.neg) (vBF (nv x.num * nv y.num)) (vBF (dn x.den * dn y.den)) (zAN _) (zAN _) (by rw[zAQ]; exact hd) zom zom;rw[zAQ,zAQ,vSZ,← uCZ]at cq;refine zAL vBD hT uFN (by simp[vA5]) ?_;refine sts ?_;refine zAA cn rfl ?_;refine sts ?_;refine zAA cu1 rfl ?_;refine sts ?_;refine zAA cu2 rfl ?_;refine sts ?_;refine zAA cm rfl ?_;refine sts ?_;refine zAA cq rfl ?_;refine sts ?_;exact zAB rfl rfl
end Go.PI.Tryz
