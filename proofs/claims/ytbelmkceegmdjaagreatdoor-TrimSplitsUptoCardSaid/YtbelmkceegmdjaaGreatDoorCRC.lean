/-
  The reference: affine forms: Scale, Add, Sub, Make.
-/
import Derived.Test.YtbelmkceegmdjaaGreatDoorCRB
import Derived.Test.YtbelmkceegmdjaaGreatDoorCLB
import Derived.Test.YtbelmkceegmdjaaGreatDoorCPD
set_option linter.unusedVariables false
set_option linter.unusedSimpArgs false
set_option linter.unnecessarySimpa false
set_option maxHeartbeats 0
namespace Go.PI.Tryz
open Go.Proofs Go.PI
theorem vGS(O:List QT):vI5 (vIL O) (.own 0 0 O.length):=Or.inl ⟨fun x hx=>by simp[vCC]at hx; left; simp[hx,vIL],by simp[vCC,vIL]⟩
theorem zM4:FO 175 Tryz.f175 [.tmp 4] 14:=mkO Tryz.func175 Tryz.ntmps175 Tryz.results175
theorem zBH(O:List QT)(v:Int)(q:Rat)(k:Nat)(hq:sz k q)(hk:k≤2147483596)(hO:O.length<4194304):Fn 175 [.own 0 0 O.length,vHZ (v,q)] (.own (some (vIL O)) (.own 0 0 (O++nzq v q).length) (vIL (O++nzq v q))):=by
 have hl:=zBK hq;have cs:=zEV (cr q) (zBE q) zom;rw[zBS]at cs;refine vJP vBD hT zM4 zsm ?_;refine sts ?_;refine zAA cs rfl ?_
 (refine gob ?_ ?_<;>intro h)
 ·rw[show q=0 from sgnQ_zero.1 h,zMA,List.append_nil]
  exact zKW (r:=0) rfl rfl rfl rfl (fun e he=>(zA5 _ e he).1) (vGS _)
 ·rw[zOQ fun e=>h (sgnQ_zero.2 e)]
  refine zBL ⟨rfl,by simp[vIL],by simp; omega⟩ ?_;refine sts ?_;refine zKW (r:=10) ?_ rfl ?_ rfl (fun e he=>(zA5 _ e he).1) (vGS _)
  ·simp[rk,rk1]
  ·simp[vIL,vHZ,vB6,tQ]
theorem zB0(v:Int)(q:Rat)(k:Nat)(hq:sz k q)(hk:k≤2147483596):Fn 175 [.nilsl,vHZ (v,q)] (.own none (.own 0 0 (nzq v q).length) (vIL (nzq v q))):=by
 have hl:=zBK hq;have cs:=zEV (cr q) (zBE q) zom;rw[zBS]at cs;refine vJQ vBD hT zM4 zsm ?_;refine sts ?_;refine zAA cs rfl ?_
 (refine gob ?_ ?_<;>intro h)
 ·rw[show q=0 from sgnQ_zero.1 h,zMA]
  exact vNO rfl rfl (vGS [])
 ·rw[zOQ fun e=>h (sgnQ_zero.2 e)]
  refine zKW (r:=10) ?_ rfl ?_ rfl (fun e he=>(zA5 _ e he).1) (vGS _)
  ·simp[rk,rk1]
  ·simp[vHZ,vB6,tQ]
def grS:Bool→Nat→PV
 | true,n=>.own 0 0 n
 | false,_=>.nilsl
theorem vZZ:FO 191 Tryz.f191 [.cell 6 46] 61:=mkO Tryz.func191 Tryz.ntmps191 Tryz.results191
set_option maxHeartbeats 1000000 in
theorem uHQ(f:QF)(v:Int)(c:Rat)(kf kc:Nat)(hf:szF kf f)(hc:sz kc c)(hk:kf≤949999990∧kc≤949999990)(hl:f.ts.length≤2097150):Fn 191 [vBN f,.int .i64 v,vA5 (cr c)] (.data (vBN (uJK f v c))):=by
 obtain⟨M,hM⟩:∃ M,vCD v c f.ts false=M:=⟨_,rfl⟩;unfold uJK;rw[hM];have lc:=zBK hc;have cc:=zKC (cr c) (zBE _) zom zom;rw[zBS]at cc;refine zAL vBD hT vZZ (by simp[vBN]) ?_;refine sts ?_
 refine zAP hT (fun((i,O,s,d):Nat×List QT×Bool×Bool)=>[(1,.int .i64 v),(3,.ptr 1 0 0),(5,.ptr 2 0 0),(6,.ptr 3 0 0),(7,grS s O.length),(8,.bool d),(9,.int .i64 i)])
  (fun(i,O,s,d)=>(1,⟨[vBN f],4,true⟩)::(2,⟨[vA5 (cr c)],3,true⟩)::(3,⟨[vYA],4,true⟩)::grH s O) [] 4
  (fun(i,O,s,d)=>(s=false→O=[])∧O++vCD v c (f.ts.drop i) d=M∧i≤f.ts.length∧O.length≤2 * i)
  (fun(i,_)=>f.ts.length - i) (0,[],false,false) ⟨fun _=>rfl,hM,Nat.zero_le _,zsm⟩ zdd zsm ?_ ?_
 ·exact⟨[0,_,_,_],[],[],[],ttt,⟨zAC rfl rfl,(apy rfl),(apy rfl),(apy rfl),vHR rfl,zAI rfl rfl,zAC rfl rfl,trivial⟩,
   ⟨bbx,bbx,bbx,trivial⟩,by simp[ren,grH]⟩
 intro⟨i,O,s,d⟩ ⟨i1,i2,i3,i4⟩;cases s<;>cases d
 ·by_cases hi:i<f.ts.length
  ·have hdrop:f.ts.drop i=f.ts[i]! :: f.ts.drop (i+1):=by rw[List.drop_eq_getElem_cons hi,getElem!_pos f.ts i hi]
   have hp:=hf.2 f.ts[i]! (by rw[getElem!_pos f.ts i hi]; exact List.getElem_mem hi);have hpc:=zGW hp hc;have lp:=zBK hp;have ca:=zLD (cr f.ts[i]!.2) (cr c) (zBE _) (zBE _) zom zom zom zom;rw[zBS,zBS]at ca
   (repeat' (first|refine stp ?_|with_reducible(refine brr ?_ ?_<;>intro h)));all_goals try(conv=>whnf)
   ·have hv:f.ts[i]!.1=v:=h
    refine zAA ca rfl ?_;refine sts ?_;refine zB6 (zB0 f.ts[i]!.1 (f.ts[i]!.2+c) _ hpc zom) rfl ?_;refine sts ?_;have nl:=zBM f.ts[i]!.1 (f.ts[i]!.2+c);exact⟨(i+1,nzq f.ts[i]!.1 (f.ts[i]!.2+c),true,true),⟨⟨zsm,by rw[hdrop]at i2; simp only[vCD,hv,decide_true,Bool.or_true,Bool.true_or,Bool.true_eq_false,false_and,if_false,if_true,List.nil_append]at i2; rw[hv]; rw[i1 rfl,List.nil_append]at i2; exact i2,zom,by(try simp only[List.length_append]); omega⟩,by show f.ts.length - (i+1)<f.ts.length - i; omega⟩,[_,_,_,_],[],[],[],ttt,⟨zAC rfl rfl,(apy rfl),(apy rfl),(apy rfl),zA0 zdd rfl rfl,zAI rfl rfl,zAC rfl zom,trivial⟩,⟨bbx,bbx,bbx,zAF zdd rfl rfl (zA5 _) rfl,trivial⟩,by simp[ren,grH]⟩
   ·have hv:v<f.ts[i]!.1:=h
    have hne:¬ f.ts[i]!.1=v:=by omega
    refine zAA cc rfl ?_;refine sts ?_;refine zB6 (zB0 v c _ hc zom) rfl ?_;refine sts ?_;have nl1:=zBM v c;have nl2:=zBM f.ts[i]!.1 f.ts[i]!.2;refine zBQ (r:=33) (zBH (nzq v c) f.ts[i]!.1 f.ts[i]!.2 _ hp zom (by(try simp only[List.length_append]); omega)) rfl rfl rfl rfl (zFL (zA5 _)) ?_;refine sts ?_;exact⟨(i+1,nzq v c++nzq f.ts[i]!.1 f.ts[i]!.2,true,true),⟨⟨zsm,by rw[hdrop]at i2; simp only[vCD,hne,hv,decide_false,decide_true,Bool.or_false,Bool.or_true,and_self,if_false,if_true]at i2; rw[i1 rfl,List.nil_append]at i2; exact i2,zom,by(try simp only[List.length_append]); omega⟩,by show f.ts.length - (i+1)<f.ts.length - i; omega⟩,[_,_,_,_],[],[],[],ttt,⟨zAC rfl rfl,(apy rfl),(apy rfl),(apy rfl),zA0 zdd rfl rfl,zAI rfl rfl,zAC rfl zom,trivial⟩,⟨bbx,bbx,bbx,zAF zdd rfl rfl (zA5 _) rfl,trivial⟩,by simp[ren,grH]⟩
   ·have hne:¬ f.ts[i]!.1=v:=‹¬ (tQ f.ts[i]!).var=v›
    have hle:¬ v<f.ts[i]!.1:=h;refine zB6 (zB0 f.ts[i]!.1 f.ts[i]!.2 _ hp zom) rfl ?_;refine sts ?_;have nl:=zBM f.ts[i]!.1 f.ts[i]!.2;exact⟨(i+1,nzq f.ts[i]!.1 f.ts[i]!.2,true,false),⟨⟨zsm,by rw[hdrop]at i2; simp only[vCD,hne,hle,decide_false,Bool.or_false,Bool.or_self,and_false,if_false,List.nil_append]at i2; rw[i1 rfl,List.nil_append]at i2; exact i2,zom,by(try simp only[List.length_append]); omega⟩,by show f.ts.length - (i+1)<f.ts.length - i; omega⟩,[_,_,_,_],[],[],[],ttt,⟨zAC rfl rfl,(apy rfl),(apy rfl),(apy rfl),zA0 zdd rfl rfl,zAI rfl rfl,zAC rfl zom,trivial⟩,⟨bbx,bbx,bbx,zAF zdd rfl rfl (zA5 _) rfl,trivial⟩,by simp[ren,grH]⟩
   all_goals (exfalso; omega)
  ·(repeat' (first|refine stp ?_|with_reducible(refine brr ?_ ?_<;>intro h)));all_goals try(conv=>whnf)
   all_goals try (exfalso; omega)
   have hN:vCD v c (f.ts.drop i) false=nzq v c:=by rw[List.drop_of_length_le zom]; rfl
   rw[hN]at i2;refine zAA cc rfl ?_;refine sts ?_;refine zB6 (zB0 v c _ hc zom) rfl ?_;refine sts ?_;rw[i1 rfl,List.nil_append]at i2;subst i2;exact zAB (zCA (zAD (zAJ rfl rfl rfl (fun x=>zH5 x)) rfl)) rfl
 ·by_cases hi:i<f.ts.length
  ·have hdrop:f.ts.drop i=f.ts[i]! :: f.ts.drop (i+1):=by rw[List.drop_eq_getElem_cons hi,getElem!_pos f.ts i hi]
   have hp:=hf.2 f.ts[i]! (by rw[getElem!_pos f.ts i hi]; exact List.getElem_mem hi);have hpc:=zGW hp hc;have lp:=zBK hp;have ca:=zLD (cr f.ts[i]!.2) (cr c) (zBE _) (zBE _) zom zom zom zom;rw[zBS,zBS]at ca
   (repeat' (first|refine stp ?_|with_reducible(refine brr ?_ ?_<;>intro h)));all_goals try(conv=>whnf)
   ·have hv:f.ts[i]!.1=v:=h
    refine zAA ca rfl ?_;refine sts ?_;refine zB6 (zB0 f.ts[i]!.1 (f.ts[i]!.2+c) _ hpc zom) rfl ?_;refine sts ?_;have nl:=zBM f.ts[i]!.1 (f.ts[i]!.2+c);exact⟨(i+1,nzq f.ts[i]!.1 (f.ts[i]!.2+c),true,true),⟨⟨zsm,by rw[hdrop]at i2; simp only[vCD,hv,decide_true,Bool.or_true,Bool.true_or,Bool.true_eq_false,false_and,if_false,if_true,List.nil_append]at i2; rw[hv]; rw[i1 rfl,List.nil_append]at i2; exact i2,zom,by(try simp only[List.length_append]); omega⟩,by show f.ts.length - (i+1)<f.ts.length - i; omega⟩,[_,_,_,_],[],[],[],ttt,⟨zAC rfl rfl,(apy rfl),(apy rfl),(apy rfl),zA0 zdd rfl rfl,zAI rfl rfl,zAC rfl zom,trivial⟩,⟨bbx,bbx,bbx,zAF zdd rfl rfl (zA5 _) rfl,trivial⟩,by simp[ren,grH]⟩
   ·have hne:¬ f.ts[i]!.1=v:=‹¬ (tQ f.ts[i]!).var=v›
    refine zB6 (zB0 f.ts[i]!.1 f.ts[i]!.2 _ hp zom) rfl ?_;refine sts ?_;have nl:=zBM f.ts[i]!.1 f.ts[i]!.2;exact⟨(i+1,nzq f.ts[i]!.1 f.ts[i]!.2,true,true),⟨⟨zsm,by rw[hdrop]at i2; simp only[vCD,hne,decide_false,Bool.true_or,Bool.true_eq_false,false_and,if_false,List.nil_append]at i2; rw[i1 rfl,List.nil_append]at i2; exact i2,zom,by(try simp only[List.length_append]); omega⟩,by show f.ts.length - (i+1)<f.ts.length - i; omega⟩,[_,_,_,_],[],[],[],ttt,⟨zAC rfl rfl,(apy rfl),(apy rfl),(apy rfl),zA0 zdd rfl rfl,zAI rfl rfl,zAC rfl zom,trivial⟩,⟨bbx,bbx,bbx,zAF zdd rfl rfl (zA5 _) rfl,trivial⟩,by simp[ren,grH]⟩
   all_goals (exfalso; omega)
  ·(repeat' (first|refine stp ?_|with_reducible(refine brr ?_ ?_<;>intro h)));all_goals try(conv=>whnf)
   all_goals try (exfalso; omega)
   have hN:vCD v c (f.ts.drop i) true=[]:=by rw[List.drop_of_length_le zom]; rfl
   rw[hN]at i2;rw[List.append_nil]at i2;subst i2;rw[i1 rfl];exact zAB rfl rfl
 ·by_cases hi:i<f.ts.length
  ·have hdrop:f.ts.drop i=f.ts[i]! :: f.ts.drop (i+1):=by rw[List.drop_eq_getElem_cons hi,getElem!_pos f.ts i hi]
   have hp:=hf.2 f.ts[i]! (by rw[getElem!_pos f.ts i hi]; exact List.getElem_mem hi);have hpc:=zGW hp hc;have lp:=zBK hp;have ca:=zLD (cr f.ts[i]!.2) (cr c) (zBE _) (zBE _) zom zom zom zom;rw[zBS,zBS]at ca
   (repeat' (first|refine stp ?_|with_reducible(refine brr ?_ ?_<;>intro h)));all_goals try(conv=>whnf)
   ·have hv:f.ts[i]!.1=v:=h
    refine zAA ca rfl ?_;refine sts ?_;refine zBQ (r:=0) (zBH O f.ts[i]!.1 (f.ts[i]!.2+c) _ hpc zom (by(try simp only[List.length_append]); omega)) rfl rfl rfl rfl (zFL (zA5 _)) ?_;refine sts ?_;have nl:=zBM f.ts[i]!.1 (f.ts[i]!.2+c);exact⟨(i+1,O++nzq f.ts[i]!.1 (f.ts[i]!.2+c),true,true),⟨⟨zsm,by rw[hdrop]at i2; simp only[vCD,hv,decide_true,Bool.or_true,Bool.true_or,Bool.true_eq_false,false_and,if_false,if_true,List.nil_append]at i2; rw[hv]; rw[List.append_assoc]; exact i2,zom,by(try simp only[List.length_append]); omega⟩,by show f.ts.length - (i+1)<f.ts.length - i; omega⟩,[_,_,_,_],[],[],[],ttt,⟨zAC rfl rfl,(apy rfl),(apy rfl),(apy rfl),zA0 zdd rfl rfl,zAI rfl rfl,zAC rfl zom,trivial⟩,⟨bbx,bbx,bbx,zAF zdd rfl rfl (zA5 _) rfl,trivial⟩,by simp[ren,grH]⟩
   ·have hv:v<f.ts[i]!.1:=h
    have hne:¬ f.ts[i]!.1=v:=by omega
    refine zAA cc rfl ?_;refine sts ?_;refine zBQ (r:=0) (zBH O v c _ hc zom (by(try simp only[List.length_append]); omega)) rfl rfl rfl rfl (zFL (zA5 _)) ?_;refine sts ?_;have nl1:=zBM v c;have nl2:=zBM f.ts[i]!.1 f.ts[i]!.2;refine zBQ (r:=33) (zBH (O++nzq v c) f.ts[i]!.1 f.ts[i]!.2 _ hp zom (by(try simp only[List.length_append]); omega)) rfl rfl rfl rfl (zFL (zA5 _)) ?_;refine sts ?_;exact⟨(i+1,O++nzq v c++nzq f.ts[i]!.1 f.ts[i]!.2,true,true),⟨⟨zsm,by rw[hdrop]at i2; simp only[vCD,hne,hv,decide_false,decide_true,Bool.or_false,Bool.or_true,and_self,if_false,if_true]at i2; simp only[List.append_assoc]at i2 ⊢; exact i2,zom,by(try simp only[List.length_append]); omega⟩,by show f.ts.length - (i+1)<f.ts.length - i; omega⟩,[_,_,_,_],[],[],[],ttt,⟨zAC rfl rfl,(apy rfl),(apy rfl),(apy rfl),zA0 zdd rfl rfl,zAI rfl rfl,zAC rfl zom,trivial⟩,⟨bbx,bbx,bbx,zAF zdd rfl rfl (zA5 _) rfl,trivial⟩,by simp[ren,grH]⟩
   ·have hne:¬ f.ts[i]!.1=v:=‹¬ (tQ f.ts[i]!).var=v›
    have hle:¬ v<f.ts[i]!.1:=h;refine zBQ (r:=0) (zBH O f.ts[i]!.1 f.ts[i]!.2 _ hp zom (by(try simp only[List.length_append]); omega)) rfl rfl rfl rfl (zFL (zA5 _)) ?_;refine sts ?_;have nl:=zBM f.ts[i]!.1 f.ts[i]!.2;exact⟨(i+1,O++nzq f.ts[i]!.1 f.ts[i]!.2,true,false),⟨⟨zsm,by rw[hdrop]at i2; simp only[vCD,hne,hle,decide_false,Bool.or_false,Bool.or_self,and_false,if_false,List.nil_append]at i2; rw[List.append_assoc]; exact i2,zom,by(try simp only[List.length_append]); omega⟩,by show f.ts.length - (i+1)<f.ts.length - i; omega⟩,[_,_,_,_],[],[],[],ttt,⟨zAC rfl rfl,(apy rfl),(apy rfl),(apy rfl),zA0 zdd rfl rfl,zAI rfl rfl,zAC rfl zom,trivial⟩,⟨bbx,bbx,bbx,zAF zdd rfl rfl (zA5 _) rfl,trivial⟩,by simp[ren,grH]⟩
   all_goals (exfalso; omega)
  ·(repeat' (first|refine stp ?_|with_reducible(refine brr ?_ ?_<;>intro h)));all_goals try(conv=>whnf)
   all_goals try (exfalso; omega)
   have hN:vCD v c (f.ts.drop i) false=nzq v c:=by rw[List.drop_of_length_le zom]; rfl
   rw[hN]at i2;refine zAA cc rfl ?_;refine sts ?_;refine zBQ (r:=0) (zBH O v c _ hc zom (by(try simp only[List.length_append]); omega)) rfl rfl rfl rfl (zFL (zA5 _)) ?_;refine sts ?_;subst i2;exact zAB (zCA (zAD (zAJ rfl rfl rfl (fun x=>zH5 x)) rfl)) rfl
 ·by_cases hi:i<f.ts.length
  ·have hdrop:f.ts.drop i=f.ts[i]! :: f.ts.drop (i+1):=by rw[List.drop_eq_getElem_cons hi,getElem!_pos f.ts i hi]
   have hp:=hf.2 f.ts[i]! (by rw[getElem!_pos f.ts i hi]; exact List.getElem_mem hi);have hpc:=zGW hp hc;have lp:=zBK hp;have ca:=zLD (cr f.ts[i]!.2) (cr c) (zBE _) (zBE _) zom zom zom zom;rw[zBS,zBS]at ca
   (repeat' (first|refine stp ?_|with_reducible(refine brr ?_ ?_<;>intro h)));all_goals try(conv=>whnf)
   ·have hv:f.ts[i]!.1=v:=h
    refine zAA ca rfl ?_;refine sts ?_;refine zBQ (r:=0) (zBH O f.ts[i]!.1 (f.ts[i]!.2+c) _ hpc zom (by(try simp only[List.length_append]); omega)) rfl rfl rfl rfl (zFL (zA5 _)) ?_;refine sts ?_;have nl:=zBM f.ts[i]!.1 (f.ts[i]!.2+c);exact⟨(i+1,O++nzq f.ts[i]!.1 (f.ts[i]!.2+c),true,true),⟨⟨zsm,by rw[hdrop]at i2; simp only[vCD,hv,decide_true,Bool.or_true,Bool.true_or,Bool.true_eq_false,false_and,if_false,if_true,List.nil_append]at i2; rw[hv]; rw[List.append_assoc]; exact i2,zom,by(try simp only[List.length_append]); omega⟩,by show f.ts.length - (i+1)<f.ts.length - i; omega⟩,[_,_,_,_],[],[],[],ttt,⟨zAC rfl rfl,(apy rfl),(apy rfl),(apy rfl),zA0 zdd rfl rfl,zAI rfl rfl,zAC rfl zom,trivial⟩,⟨bbx,bbx,bbx,zAF zdd rfl rfl (zA5 _) rfl,trivial⟩,by simp[ren,grH]⟩
   ·have hne:¬ f.ts[i]!.1=v:=‹¬ (tQ f.ts[i]!).var=v›
    refine zBQ (r:=0) (zBH O f.ts[i]!.1 f.ts[i]!.2 _ hp zom (by(try simp only[List.length_append]); omega)) rfl rfl rfl rfl (zFL (zA5 _)) ?_;refine sts ?_;have nl:=zBM f.ts[i]!.1 f.ts[i]!.2;exact⟨(i+1,O++nzq f.ts[i]!.1 f.ts[i]!.2,true,true),⟨⟨zsm,by rw[hdrop]at i2; simp only[vCD,hne,decide_false,Bool.true_or,Bool.true_eq_false,false_and,if_false,List.nil_append]at i2; rw[List.append_assoc]; exact i2,zom,by(try simp only[List.length_append]); omega⟩,by show f.ts.length - (i+1)<f.ts.length - i; omega⟩,[_,_,_,_],[],[],[],ttt,⟨zAC rfl rfl,(apy rfl),(apy rfl),(apy rfl),zA0 zdd rfl rfl,zAI rfl rfl,zAC rfl zom,trivial⟩,⟨bbx,bbx,bbx,zAF zdd rfl rfl (zA5 _) rfl,trivial⟩,by simp[ren,grH]⟩
   all_goals (exfalso; omega)
  ·(repeat' (first|refine stp ?_|with_reducible(refine brr ?_ ?_<;>intro h)));all_goals try(conv=>whnf)
   all_goals try (exfalso; omega)
   have hN:vCD v c (f.ts.drop i) true=[]:=by rw[List.drop_of_length_le zom]; rfl
   rw[hN]at i2;rw[List.append_nil]at i2;subst i2;exact zAB (zCA (zAD (zAJ rfl rfl rfl (fun x=>zH5 x)) rfl)) rfl
theorem vS4{c:Rat}{ts:List QT}{i:Nat}(hi:i<ts.length):vFU c (ts.drop i)=nzq ts[i]!.1 (ts[i]!.2 * c)++vFU c (ts.drop (i+1)):=by
 unfold vFU; rw[List.drop_eq_getElem_cons hi,List.flatMap_cons,getElem!_pos ts i hi]
theorem vUE:FO 147 Tryz.f147 [.cell 4 46] 39:=mkO Tryz.func147 Tryz.ntmps147 Tryz.results147
theorem vOR(f:QF)(c:Rat)(kf kc:Nat)(hf:szF kf f)(hc:sz kc c)(hk:kf+kc≤949999990)(hl:f.ts.length≤2097150):Fn 147 [vBN f,vA5 (cr c)] (.data (vBN (vEE f c))):=by
 obtain⟨M,hM⟩:∃ M,vFU c f.ts=M:=⟨_,rfl⟩;have lf:=zBK hf.1;have lc:=zBK hc;have cm0:=vW4 (cr f.c) (cr c) (zBE _) (zBE _) zom zom zom zom;rw[zBS,zBS]at cm0;unfold vEE;obtain⟨C,hC⟩:∃ C,f.c * c=C:=⟨_,rfl⟩;rw[hC]at cm0;rw[hM,hC];refine zAL vBD hT vUE (by simp[vBN]) ?_;refine sts ?_;refine zAA cm0 rfl ?_;refine sts ?_
 refine zAP hT (fun((i,O,s):Nat×List QT×Bool)=>[(2,.ptr 1 0 0),(3,.ptr 2 0 0),(4,.ptr 3 0 0),(5,.ptr 4 0 0),(6,.int .i64 i)])
  (fun(i,O,s)=>(1,⟨[vBN f],4,true⟩)::(2,⟨[vA5 (cr c)],3,true⟩)::(3,⟨[vYA],4,true⟩)::(4,⟨[grF s O.length C],4,true⟩)::grH s O) [] 5
  (fun(i,O,s)=>(s=false→O=[])∧O++vFU c (f.ts.drop i)=M∧i≤f.ts.length∧O.length≤i)
  (fun(i,_)=>f.ts.length - i) (0,[],false) ⟨fun _=>rfl,hM,Nat.zero_le _,zsm⟩ zdd zsm ?_ ?_
 ·exact⟨[0,_,_,_,_],[],[],[],ttt,⟨(apy rfl),(apy rfl),(apy rfl),(apy rfl),zAC rfl rfl,trivial⟩,
   ⟨bbx,bbx,bbx,bbx,trivial⟩,by simp[ren,grH]⟩
 intro⟨i,O,s⟩ ⟨i1,i2,i3,i4⟩;by_cases hi:i<f.ts.length
 ·have hp:=hf.2 f.ts[i]! (by rw[getElem!_pos f.ts i hi]; exact List.getElem_mem hi)
  have hpc:=zFI hp hc;have lp:=zBK hp;have cm:=vW4 (cr f.ts[i]!.2) (cr c) (zBE _) (zBE _) zom zom zom zom;rw[zBS,zBS]at cm;have nl:=zBM f.ts[i]!.1 (f.ts[i]!.2 * c);rw[vS4 hi]at i2;cases s
  ·(refine gob ?_ ?_<;>intro h)
   ·refine zAA cm rfl ?_
    refine sts ?_;refine zB6 (zB0 f.ts[i]!.1 (f.ts[i]!.2 * c) _ hpc zom) rfl ?_;refine sts ?_
    exact⟨(i+1,nzq f.ts[i]!.1 (f.ts[i]!.2 * c),true),⟨⟨zsm,by rw[i1 rfl,List.nil_append]at i2; exact i2,zom,zom⟩,by show f.ts.length - (i+1)<f.ts.length - i; omega⟩,[_,_,_,_,_],[],[],[],ttt,
     ⟨(apy rfl),(apy rfl),(apy rfl),(apy rfl),zAC rfl zom,trivial⟩,
     ⟨bbx,bbx,bbx,zAH zdd rfl ⟨⟨zdd,rfl⟩,rfl,rfl,rfl,trivial⟩ rfl rfl,zAF zdd rfl rfl (zA5 _) rfl,trivial⟩,by simp[ren,grH]⟩
   all_goals (exfalso; omega)
  ·(refine gob ?_ ?_<;>intro h)
   ·refine zAA cm rfl ?_
    refine sts ?_;refine zBQ (r:=0) (zBH O f.ts[i]!.1 (f.ts[i]!.2 * c) _ hpc zom zom) rfl rfl rfl rfl (zFL (zA5 _)) ?_;refine sts ?_
    exact⟨(i+1,O++nzq f.ts[i]!.1 (f.ts[i]!.2 * c),true),⟨⟨zsm,by rw[List.append_assoc]; exact i2,zom,by rw[List.length_append]; omega⟩,by show f.ts.length - (i+1)<f.ts.length - i; omega⟩,[_,_,_,_,_],[],[],[],ttt,
     ⟨(apy rfl),(apy rfl),(apy rfl),(apy rfl),zAC rfl zom,trivial⟩,
     ⟨bbx,bbx,bbx,zAH zdd rfl ⟨⟨zdd,rfl⟩,rfl,rfl,rfl,trivial⟩ rfl rfl,zAF zdd rfl rfl (zA5 _) rfl,trivial⟩,by simp[ren,grH]⟩
   all_goals (exfalso; omega)
 ·rw[List.drop_of_length_le zom,show vFU c []=[] from rfl,List.append_nil]at i2
  subst i2;cases s
  ·rw[i1 rfl]
   (refine gob ?_ ?_<;>intro h)
   all_goals try (exfalso; omega)
   exact zAB rfl rfl
  ·(refine gob ?_ ?_<;>intro h)
   all_goals try (exfalso; omega)
   exact zAB (zCA (zAD (zAJ rfl rfl rfl (fun x=>zH5 x)) rfl)) rfl
theorem vIR{v:Int}{c:Rat}:∀ {l:List QT} {d:Bool},(vCD v c l d).length≤l.length+(if d then 0 else 1)
 | [],d=>by
   simp only[vCD]
   split
   ·simp
   ·have:=zBM v c; omega
 | t::l,d=>by
   have nl1:=zBM v c;have nl2:=zBM t.1 (if t.1=v then t.2+c else t.2);have ih:=vIR (v:=v) (c:=c) (l:=l) (d:=((d || decide (t.1=v)) || decide (v<t.1)));simp only[vCD,List.length_append,List.length_cons];by_cases hA:(d || decide (t.1=v))=false∧v<t.1
   ·rw[if_pos hA]
    have hd:d=false:=by have:=hA.1; cases d<;>simp_all
    have hx:((d || decide (t.1=v)) || decide (v<t.1))=true:=by simp[hA.2]
    rw[hx]at ih ⊢;subst hd;simp at ih ⊢;omega
   ·rw[if_neg hA]
    have:(if ((d || decide (t.1=v)) || decide (v<t.1))=true then 0 else 1)≤(if d=true then 0 else 1):=by cases d<;>simp<;>split<;>omega
    simp only[List.length_nil];omega
theorem uEO{c:Rat}{k kc:Nat}(hc:sz kc c){l:List QT}(h:∀ p∈l,sz k p.2):∀ r∈vFU c l,sz (k+kc) r.2:=fun r hr=>by
 unfold vFU at hr;obtain⟨t,ht,hr⟩:=List.mem_flatMap.1 hr;rw[zK3 hr]; exact zFI (h t ht) hc
theorem vM7{c:Rat}:∀ {l:List QT},(vFU c l).length≤l.length
 | []=>Nat.le_refl _
 | t::l=>by
   have:=zBM t.1 (t.2 * c);have:=vM7 (c:=c) (l:=l);unfold vFU at *
   rw[List.flatMap_cons,List.length_append,List.length_cons]; omega
theorem vS6{f:QF}{c:Rat}{k kc:Nat}(hf:szF k f)(hc:sz kc c):szF (k+kc) (vEE f c):=⟨zFI hf.1 hc,uEO hc hf.2⟩
end Go.PI.Tryz
