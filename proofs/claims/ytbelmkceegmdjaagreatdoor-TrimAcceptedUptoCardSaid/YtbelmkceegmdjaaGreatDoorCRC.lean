/-
  The reference: affine forms: Scale, Add, Sub, Make.
-/
import Derived.Test.YtbelmkceegmdjaaGreatDoorCRB
import Derived.Test.YtbelmkceegmdjaaGreatDoorCLB
set_option linter.unusedVariables false
set_option linter.unusedSimpArgs false
set_option maxHeartbeats 0
namespace Go.PI.Tryz
open Go.Proofs Go.PI
theorem vHH(O:List QT):vJ9 (vJN O) (.own 0 0 O.length):=rAW ⟨fun x hx=>by simp[vCS]at hx; left; simp[hx,vJN],by simp[vCS,vJN]⟩
theorem zOG:FO 175 Tryz.f175 [.tmp 4] 14:=mkO Tryz.func175 Tryz.ntmps175 Tryz.results175
theorem zBK(O:List QT)(v:Int)(q:Rat)(k:Nat)(hq:sz k q)(hk:k<=2147483596)(hO:O.length<4194304):Fn 175 [.own 0 0 O.length,vIY (v,q)] (.own (some (vJN O)) (.own 0 0 (O++nzq v q).length) (vJN (O++nzq v q))):=by
 have hl:=zBM hq;have cs:=zE4 (cr q) (zBE q) zom;rw[zBV]at cs;refine vKU vBC hT zOG zsm ?_;refine sts ?_;refine zAA cs rfl ?_
 refine gob ?_ ?_<;>intro h
 .rw[show q=0 from sgnQ_zero.1 h,zNJ,rBS]
  exact zL0 (r:=0) rfl rfl rfl rfl (fun e he=>(zBA _ e he).1) (vHH _)
 .rw[zQE fun e=>h (sgnQ_zero.2 e)]
  refine zBJ ⟨rfl,by simp[vJN],rAE⟩ ?_;refine sts ?_;refine zL0 (r:=10) ?_ rfl ?_ rfl (fun e he=>(zBA _ e he).1) (vHH _)
  .simp[rk,rk1]
  .simp[vJN,vIY,vCJ,tQ]
theorem zB5(v:Int)(q:Rat)(k:Nat)(hq:sz k q)(hk:k<=2147483596):Fn 175 [.nilsl,vIY (v,q)] (.own none (.own 0 0 (nzq v q).length) (vJN (nzq v q))):=by
 have hl:=zBM hq;have cs:=zE4 (cr q) (zBE q) zom;rw[zBV]at cs;refine vKV vBC hT zOG zsm ?_;refine sts ?_;refine zAA cs rfl ?_
 refine gob ?_ ?_<;>intro h
 .rw[show q=0 from sgnQ_zero.1 h,zNJ]
  exact vPF rfl rfl (vHH [])
 .rw[zQE fun e=>h (sgnQ_zero.2 e)]
  refine zL0 (r:=10) ?_ rfl ?_ rfl (fun e he=>(zBA _ e he).1) (vHH _)
  .simp[rk,rk1]
  .simp[vIY,vCJ,tQ]
def grS:Bool->Nat->PV
 | true,n=>.own 0 0 n
 | false,_=>.nilsl
theorem uCH:FO 191 Tryz.f191 [.cell 6 46] 61:=mkO Tryz.func191 Tryz.ntmps191 Tryz.results191
set_option maxHeartbeats 1000000 in
theorem uKM(f:QF)(v:Int)(c:Rat)(kf kc:Nat)(hf:szF kf f)(hc:sz kc c)(hk:kf<=949999990/\kc<=949999990)(hl:f.ts.length<=2097150):Fn 191 [vBP f,.int .i64 v,vA5 (cr c)] (.data (vBP (uMM f v c))):=by
 obtain⟨M,hM⟩:∃ M,vCT v c f.ts false=M:=⟨_,rfl⟩;unfold uMM;rw[hM];have lc:=zBM hc;have cc:=zK9 (cr c) (zBE _) zom zom;rw[zBV]at cc;refine zAM vBC hT uCH (by simp[vBP]) ?_;refine sts ?_
 refine zAO hT (fun((i,O,s,d):Nat×List QT×Bool×Bool)=>[(1,.int .i64 v),(3,.ptr 1 0 0),(5,.ptr 2 0 0),(6,.ptr 3 0 0),(7,grS s O.length),(8,.bool d),(9,.int .i64 i)])
  (fun(i,O,s,d)=>(1,⟨[vBP f],4,true⟩)::(2,⟨[vA5 (cr c)],3,true⟩)::(3,⟨[uAT],4,true⟩)::grH s O) [] 4
  (fun(i,O,s,d)=>(s=false->O=[])/\O++vCT v c (f.ts.drop i) d=M/\i<=f.ts.length/\O.length<=2 * i)
  (fun(i,_)=>f.ts.length - i) (0,[],false,false) ⟨fun _=>rfl,hM,rA9 _,zsm⟩ zdd zsm ?_ ?_
 .exact⟨[0,_,_,_],[],[],[],ttt,⟨zAC rfl rfl,(apy rfl),(apy rfl),(apy rfl),vIP rfl,zAK rfl rfl,zAC rfl rfl,rGW⟩,
   ⟨bbx,bbx,bbx,rGW⟩,by simp[ren,grH]⟩
 intro⟨i,O,s,d⟩ ⟨i1,i2,i3,i4⟩;cases s<;>cases d
 .by_cases hi:i<f.ts.length
  .have hdrop:f.ts.drop i=f.ts[i]! :: f.ts.drop (i+1):=by rw[rBT hi,rAS f.ts i hi]
   have hp:=hf.2 f.ts[i]! (by rw[rAS f.ts i hi]; exact rB3 hi);have hpc:=zG9 hp hc;have lp:=zBM hp;have ca:=zMI (cr f.ts[i]!.2) (cr c) (zBE _) (zBE _) zom zom zom zom;rw[zBV,zBV]at ca
   (repeat' (first|refine stp ?_|with_reducible(refine brr ?_ ?_<;>intro h)));all_goals try(conv=>whnf)
   .have hv:f.ts[i]!.1=v:=h
    refine zAA ca rfl ?_;refine sts ?_;refine zCB (zB5 f.ts[i]!.1 (f.ts[i]!.2+c) _ hpc zom) rfl ?_;refine sts ?_;have nl:=zBN f.ts[i]!.1 (f.ts[i]!.2+c);exact⟨(i+1,nzq f.ts[i]!.1 (f.ts[i]!.2+c),true,true),⟨⟨zsm,by rw[hdrop]at i2; simp only[vCT,hv,rDI,rDH,rDO,rC9,rEZ,rCN,rCI,List.nil_append]at i2; rw[hv]; rw[i1 rfl,List.nil_append]at i2; exact i2,zom,by(try simp only[rAU]); omega⟩,by show f.ts.length - (i+1)<f.ts.length - i; omega⟩,[_,_,_,_],[],[],[],ttt,⟨zAC rfl rfl,(apy rfl),(apy rfl),(apy rfl),zA5 zdd rfl rfl,zAK rfl rfl,zAC rfl zom,rGW⟩,⟨bbx,bbx,bbx,zAG zdd rfl rfl (zBA _) rfl,rGW⟩,by simp[ren,grH]⟩
   .have hv:v<f.ts[i]!.1:=h
    have hne:¬ f.ts[i]!.1=v:=by omega
    refine zAA cc rfl ?_;refine sts ?_;refine zCB (zB5 v c _ hc zom) rfl ?_;refine sts ?_;have nl1:=zBN v c;have nl2:=zBN f.ts[i]!.1 f.ts[i]!.2;refine zBS (r:=33) (zBK (nzq v c) f.ts[i]!.1 f.ts[i]!.2 _ hp zom (by(try simp only[rAU]); omega)) rfl rfl rfl rfl (zF0 (zBA _)) ?_;refine sts ?_;exact⟨(i+1,nzq v c++nzq f.ts[i]!.1 f.ts[i]!.2,true,true),⟨⟨zsm,by rw[hdrop]at i2; simp only[vCT,hne,hv,rC7,rDI,rCO,rDH,and_self,rCN,rCI]at i2; rw[i1 rfl,List.nil_append]at i2; exact i2,zom,by(try simp only[rAU]); omega⟩,by show f.ts.length - (i+1)<f.ts.length - i; omega⟩,[_,_,_,_],[],[],[],ttt,⟨zAC rfl rfl,(apy rfl),(apy rfl),(apy rfl),zA5 zdd rfl rfl,zAK rfl rfl,zAC rfl zom,rGW⟩,⟨bbx,bbx,bbx,zAG zdd rfl rfl (zBA _) rfl,rGW⟩,by simp[ren,grH]⟩
   .have hne:¬ f.ts[i]!.1=v:=‹¬ (tQ f.ts[i]!).var=v›
    have hle:¬ v<f.ts[i]!.1:=h;refine zCB (zB5 f.ts[i]!.1 f.ts[i]!.2 _ hp zom) rfl ?_;refine sts ?_;have nl:=zBN f.ts[i]!.1 f.ts[i]!.2;exact⟨(i+1,nzq f.ts[i]!.1 f.ts[i]!.2,true,false),⟨⟨zsm,by rw[hdrop]at i2; simp only[vCT,hne,hle,rC7,rCO,Bool.or_self,and_false,rCN,List.nil_append]at i2; rw[i1 rfl,List.nil_append]at i2; exact i2,zom,by(try simp only[rAU]); omega⟩,by show f.ts.length - (i+1)<f.ts.length - i; omega⟩,[_,_,_,_],[],[],[],ttt,⟨zAC rfl rfl,(apy rfl),(apy rfl),(apy rfl),zA5 zdd rfl rfl,zAK rfl rfl,zAC rfl zom,rGW⟩,⟨bbx,bbx,bbx,zAG zdd rfl rfl (zBA _) rfl,rGW⟩,by simp[ren,grH]⟩
   all_goals (exfalso; omega)
  ·(repeat' (first|refine stp ?_|with_reducible(refine brr ?_ ?_<;>intro h)));all_goals try(conv=>whnf)
   all_goals try (exfalso; omega)
   have hN:vCT v c (f.ts.drop i) false=nzq v c:=by rw[rC3 zom]; rfl
   rw[hN]at i2;refine zAA cc rfl ?_;refine sts ?_;refine zCB (zB5 v c _ hc zom) rfl ?_;refine sts ?_;rw[i1 rfl,List.nil_append]at i2;subst i2;exact zAB (zBZ (zAD (zAI rfl rfl rfl (fun x=>zIO x)) rfl)) rfl
 .by_cases hi:i<f.ts.length
  .have hdrop:f.ts.drop i=f.ts[i]! :: f.ts.drop (i+1):=by rw[rBT hi,rAS f.ts i hi]
   have hp:=hf.2 f.ts[i]! (by rw[rAS f.ts i hi]; exact rB3 hi);have hpc:=zG9 hp hc;have lp:=zBM hp;have ca:=zMI (cr f.ts[i]!.2) (cr c) (zBE _) (zBE _) zom zom zom zom;rw[zBV,zBV]at ca
   (repeat' (first|refine stp ?_|with_reducible(refine brr ?_ ?_<;>intro h)));all_goals try(conv=>whnf)
   .have hv:f.ts[i]!.1=v:=h
    refine zAA ca rfl ?_;refine sts ?_;refine zCB (zB5 f.ts[i]!.1 (f.ts[i]!.2+c) _ hpc zom) rfl ?_;refine sts ?_;have nl:=zBN f.ts[i]!.1 (f.ts[i]!.2+c);exact⟨(i+1,nzq f.ts[i]!.1 (f.ts[i]!.2+c),true,true),⟨⟨zsm,by rw[hdrop]at i2; simp only[vCT,hv,rDI,rDH,rDO,rC9,rEZ,rCN,rCI,List.nil_append]at i2; rw[hv]; rw[i1 rfl,List.nil_append]at i2; exact i2,zom,by(try simp only[rAU]); omega⟩,by show f.ts.length - (i+1)<f.ts.length - i; omega⟩,[_,_,_,_],[],[],[],ttt,⟨zAC rfl rfl,(apy rfl),(apy rfl),(apy rfl),zA5 zdd rfl rfl,zAK rfl rfl,zAC rfl zom,rGW⟩,⟨bbx,bbx,bbx,zAG zdd rfl rfl (zBA _) rfl,rGW⟩,by simp[ren,grH]⟩
   .have hne:¬ f.ts[i]!.1=v:=‹¬ (tQ f.ts[i]!).var=v›
    refine zCB (zB5 f.ts[i]!.1 f.ts[i]!.2 _ hp zom) rfl ?_;refine sts ?_;have nl:=zBN f.ts[i]!.1 f.ts[i]!.2;exact⟨(i+1,nzq f.ts[i]!.1 f.ts[i]!.2,true,true),⟨⟨zsm,by rw[hdrop]at i2; simp only[vCT,hne,rC7,rDO,rC9,rEZ,rCN,List.nil_append]at i2; rw[i1 rfl,List.nil_append]at i2; exact i2,zom,by(try simp only[rAU]); omega⟩,by show f.ts.length - (i+1)<f.ts.length - i; omega⟩,[_,_,_,_],[],[],[],ttt,⟨zAC rfl rfl,(apy rfl),(apy rfl),(apy rfl),zA5 zdd rfl rfl,zAK rfl rfl,zAC rfl zom,rGW⟩,⟨bbx,bbx,bbx,zAG zdd rfl rfl (zBA _) rfl,rGW⟩,by simp[ren,grH]⟩
   all_goals (exfalso; omega)
  ·(repeat' (first|refine stp ?_|with_reducible(refine brr ?_ ?_<;>intro h)));all_goals try(conv=>whnf)
   all_goals try (exfalso; omega)
   have hN:vCT v c (f.ts.drop i) true=[]:=by rw[rC3 zom]; rfl
   rw[hN]at i2;rw[rBS]at i2;subst i2;rw[i1 rfl];exact rGX
 .by_cases hi:i<f.ts.length
  .have hdrop:f.ts.drop i=f.ts[i]! :: f.ts.drop (i+1):=by rw[rBT hi,rAS f.ts i hi]
   have hp:=hf.2 f.ts[i]! (by rw[rAS f.ts i hi]; exact rB3 hi);have hpc:=zG9 hp hc;have lp:=zBM hp;have ca:=zMI (cr f.ts[i]!.2) (cr c) (zBE _) (zBE _) zom zom zom zom;rw[zBV,zBV]at ca
   (repeat' (first|refine stp ?_|with_reducible(refine brr ?_ ?_<;>intro h)));all_goals try(conv=>whnf)
   .have hv:f.ts[i]!.1=v:=h
    refine zAA ca rfl ?_;refine sts ?_;refine zBS (r:=0) (zBK O f.ts[i]!.1 (f.ts[i]!.2+c) _ hpc zom (by(try simp only[rAU]); omega)) rfl rfl rfl rfl (zF0 (zBA _)) ?_;refine sts ?_;have nl:=zBN f.ts[i]!.1 (f.ts[i]!.2+c);exact⟨(i+1,O++nzq f.ts[i]!.1 (f.ts[i]!.2+c),true,true),⟨⟨zsm,by rw[hdrop]at i2; simp only[vCT,hv,rDI,rDH,rDO,rC9,rEZ,rCN,rCI,List.nil_append]at i2; rw[hv]; rw[rBG]; exact i2,zom,by(try simp only[rAU]); omega⟩,by show f.ts.length - (i+1)<f.ts.length - i; omega⟩,[_,_,_,_],[],[],[],ttt,⟨zAC rfl rfl,(apy rfl),(apy rfl),(apy rfl),zA5 zdd rfl rfl,zAK rfl rfl,zAC rfl zom,rGW⟩,⟨bbx,bbx,bbx,zAG zdd rfl rfl (zBA _) rfl,rGW⟩,by simp[ren,grH]⟩
   .have hv:v<f.ts[i]!.1:=h
    have hne:¬ f.ts[i]!.1=v:=by omega
    refine zAA cc rfl ?_;refine sts ?_;refine zBS (r:=0) (zBK O v c _ hc zom (by(try simp only[rAU]); omega)) rfl rfl rfl rfl (zF0 (zBA _)) ?_;refine sts ?_;have nl1:=zBN v c;have nl2:=zBN f.ts[i]!.1 f.ts[i]!.2;refine zBS (r:=33) (zBK (O++nzq v c) f.ts[i]!.1 f.ts[i]!.2 _ hp zom (by(try simp only[rAU]); omega)) rfl rfl rfl rfl (zF0 (zBA _)) ?_;refine sts ?_;exact⟨(i+1,O++nzq v c++nzq f.ts[i]!.1 f.ts[i]!.2,true,true),⟨⟨zsm,by rw[hdrop]at i2; simp only[vCT,hne,hv,rC7,rDI,rCO,rDH,and_self,rCN,rCI]at i2; simp only[rBG]at i2 ⊢; exact i2,zom,by(try simp only[rAU]); omega⟩,by show f.ts.length - (i+1)<f.ts.length - i; omega⟩,[_,_,_,_],[],[],[],ttt,⟨zAC rfl rfl,(apy rfl),(apy rfl),(apy rfl),zA5 zdd rfl rfl,zAK rfl rfl,zAC rfl zom,rGW⟩,⟨bbx,bbx,bbx,zAG zdd rfl rfl (zBA _) rfl,rGW⟩,by simp[ren,grH]⟩
   .have hne:¬ f.ts[i]!.1=v:=‹¬ (tQ f.ts[i]!).var=v›
    have hle:¬ v<f.ts[i]!.1:=h;refine zBS (r:=0) (zBK O f.ts[i]!.1 f.ts[i]!.2 _ hp zom (by(try simp only[rAU]); omega)) rfl rfl rfl rfl (zF0 (zBA _)) ?_;refine sts ?_;have nl:=zBN f.ts[i]!.1 f.ts[i]!.2;exact⟨(i+1,O++nzq f.ts[i]!.1 f.ts[i]!.2,true,false),⟨⟨zsm,by rw[hdrop]at i2; simp only[vCT,hne,hle,rC7,rCO,Bool.or_self,and_false,rCN,List.nil_append]at i2; rw[rBG]; exact i2,zom,by(try simp only[rAU]); omega⟩,by show f.ts.length - (i+1)<f.ts.length - i; omega⟩,[_,_,_,_],[],[],[],ttt,⟨zAC rfl rfl,(apy rfl),(apy rfl),(apy rfl),zA5 zdd rfl rfl,zAK rfl rfl,zAC rfl zom,rGW⟩,⟨bbx,bbx,bbx,zAG zdd rfl rfl (zBA _) rfl,rGW⟩,by simp[ren,grH]⟩
   all_goals (exfalso; omega)
  ·(repeat' (first|refine stp ?_|with_reducible(refine brr ?_ ?_<;>intro h)));all_goals try(conv=>whnf)
   all_goals try (exfalso; omega)
   have hN:vCT v c (f.ts.drop i) false=nzq v c:=by rw[rC3 zom]; rfl
   rw[hN]at i2;refine zAA cc rfl ?_;refine sts ?_;refine zBS (r:=0) (zBK O v c _ hc zom (by(try simp only[rAU]); omega)) rfl rfl rfl rfl (zF0 (zBA _)) ?_;refine sts ?_;subst i2;exact zAB (zBZ (zAD (zAI rfl rfl rfl (fun x=>zIO x)) rfl)) rfl
 .by_cases hi:i<f.ts.length
  .have hdrop:f.ts.drop i=f.ts[i]! :: f.ts.drop (i+1):=by rw[rBT hi,rAS f.ts i hi]
   have hp:=hf.2 f.ts[i]! (by rw[rAS f.ts i hi]; exact rB3 hi);have hpc:=zG9 hp hc;have lp:=zBM hp;have ca:=zMI (cr f.ts[i]!.2) (cr c) (zBE _) (zBE _) zom zom zom zom;rw[zBV,zBV]at ca
   (repeat' (first|refine stp ?_|with_reducible(refine brr ?_ ?_<;>intro h)));all_goals try(conv=>whnf)
   .have hv:f.ts[i]!.1=v:=h
    refine zAA ca rfl ?_;refine sts ?_;refine zBS (r:=0) (zBK O f.ts[i]!.1 (f.ts[i]!.2+c) _ hpc zom (by(try simp only[rAU]); omega)) rfl rfl rfl rfl (zF0 (zBA _)) ?_;refine sts ?_;have nl:=zBN f.ts[i]!.1 (f.ts[i]!.2+c);exact⟨(i+1,O++nzq f.ts[i]!.1 (f.ts[i]!.2+c),true,true),⟨⟨zsm,by rw[hdrop]at i2; simp only[vCT,hv,rDI,rDH,rDO,rC9,rEZ,rCN,rCI,List.nil_append]at i2; rw[hv]; rw[rBG]; exact i2,zom,by(try simp only[rAU]); omega⟩,by show f.ts.length - (i+1)<f.ts.length - i; omega⟩,[_,_,_,_],[],[],[],ttt,⟨zAC rfl rfl,(apy rfl),(apy rfl),(apy rfl),zA5 zdd rfl rfl,zAK rfl rfl,zAC rfl zom,rGW⟩,⟨bbx,bbx,bbx,zAG zdd rfl rfl (zBA _) rfl,rGW⟩,by simp[ren,grH]⟩
   .have hne:¬ f.ts[i]!.1=v:=‹¬ (tQ f.ts[i]!).var=v›
    refine zBS (r:=0) (zBK O f.ts[i]!.1 f.ts[i]!.2 _ hp zom (by(try simp only[rAU]); omega)) rfl rfl rfl rfl (zF0 (zBA _)) ?_;refine sts ?_;have nl:=zBN f.ts[i]!.1 f.ts[i]!.2;exact⟨(i+1,O++nzq f.ts[i]!.1 f.ts[i]!.2,true,true),⟨⟨zsm,by rw[hdrop]at i2; simp only[vCT,hne,rC7,rDO,rC9,rEZ,rCN,List.nil_append]at i2; rw[rBG]; exact i2,zom,by(try simp only[rAU]); omega⟩,by show f.ts.length - (i+1)<f.ts.length - i; omega⟩,[_,_,_,_],[],[],[],ttt,⟨zAC rfl rfl,(apy rfl),(apy rfl),(apy rfl),zA5 zdd rfl rfl,zAK rfl rfl,zAC rfl zom,rGW⟩,⟨bbx,bbx,bbx,zAG zdd rfl rfl (zBA _) rfl,rGW⟩,by simp[ren,grH]⟩
   all_goals (exfalso; omega)
  ·(repeat' (first|refine stp ?_|with_reducible(refine brr ?_ ?_<;>intro h)));all_goals try(conv=>whnf)
   all_goals try (exfalso; omega)
   have hN:vCT v c (f.ts.drop i) true=[]:=by rw[rC3 zom]; rfl
   rw[hN]at i2;rw[rBS]at i2;subst i2;exact zAB (zBZ (zAD (zAI rfl rfl rfl (fun x=>zIO x)) rfl)) rfl
theorem vU1{c:Rat}{ts:List QT}{i:Nat}(hi:i<ts.length):vGA c (ts.drop i)=nzq ts[i]!.1 (ts[i]!.2 * c)++vGA c (ts.drop (i+1)):=by
 unfold vGA; rw[rBT hi,List.flatMap_cons,rAS ts i hi]
theorem vWE:FO 147 Tryz.f147 [.cell 4 46] 39:=mkO Tryz.func147 Tryz.ntmps147 Tryz.results147
theorem vQM(f:QF)(c:Rat)(kf kc:Nat)(hf:szF kf f)(hc:sz kc c)(hk:kf+kc<=949999990)(hl:f.ts.length<=2097150):Fn 147 [vBP f,vA5 (cr c)] (.data (vBP (vES f c))):=by
 obtain⟨M,hM⟩:∃ M,vGA c f.ts=M:=⟨_,rfl⟩;have lf:=zBM hf.1;have lc:=zBM hc;have cm0:=vZM (cr f.c) (cr c) (zBE _) (zBE _) zom zom zom zom;rw[zBV,zBV]at cm0;unfold vES;obtain⟨C,hC⟩:∃ C,f.c * c=C:=⟨_,rfl⟩;rw[hC]at cm0;rw[hM,hC];refine zAM vBC hT vWE (by simp[vBP]) ?_;refine sts ?_;refine zAA cm0 rfl ?_;refine sts ?_
 refine zAO hT (fun((i,O,s):Nat×List QT×Bool)=>[(2,.ptr 1 0 0),(3,.ptr 2 0 0),(4,.ptr 3 0 0),(5,.ptr 4 0 0),(6,.int .i64 i)])
  (fun(i,O,s)=>(1,⟨[vBP f],4,true⟩)::(2,⟨[vA5 (cr c)],3,true⟩)::(3,⟨[uAT],4,true⟩)::(4,⟨[grF s O.length C],4,true⟩)::grH s O) [] 5
  (fun(i,O,s)=>(s=false->O=[])/\O++vGA c (f.ts.drop i)=M/\i<=f.ts.length/\O.length<=i)
  (fun(i,_)=>f.ts.length - i) (0,[],false) ⟨fun _=>rfl,hM,rA9 _,zsm⟩ zdd zsm ?_ ?_
 .exact⟨[0,_,_,_,_],[],[],[],ttt,⟨(apy rfl),(apy rfl),(apy rfl),(apy rfl),zAC rfl rfl,rGW⟩,
   ⟨bbx,bbx,bbx,bbx,rGW⟩,by simp[ren,grH]⟩
 intro⟨i,O,s⟩ ⟨i1,i2,i3,i4⟩;by_cases hi:i<f.ts.length
 .have hp:=hf.2 f.ts[i]! (by rw[rAS f.ts i hi]; exact rB3 hi)
  have hpc:=zFW hp hc;have lp:=zBM hp;have cm:=vZM (cr f.ts[i]!.2) (cr c) (zBE _) (zBE _) zom zom zom zom;rw[zBV,zBV]at cm;have nl:=zBN f.ts[i]!.1 (f.ts[i]!.2 * c);rw[vU1 hi]at i2;cases s
  .refine gob ?_ ?_<;>intro h
   .refine zAA cm rfl ?_
    refine sts ?_;refine zCB (zB5 f.ts[i]!.1 (f.ts[i]!.2 * c) _ hpc zom) rfl ?_;refine sts ?_
    exact⟨(i+1,nzq f.ts[i]!.1 (f.ts[i]!.2 * c),true),⟨⟨zsm,by rw[i1 rfl,List.nil_append]at i2; exact i2,zom,zom⟩,by show f.ts.length - (i+1)<f.ts.length - i; omega⟩,[_,_,_,_,_],[],[],[],ttt,
     ⟨(apy rfl),(apy rfl),(apy rfl),(apy rfl),zAC rfl zom,rGW⟩,
     ⟨bbx,bbx,bbx,zAJ zdd rfl ⟨⟨zdd,rfl⟩,rfl,rfl,rfl,rGW⟩ rfl rfl,zAG zdd rfl rfl (zBA _) rfl,rGW⟩,by simp[ren,grH]⟩
   all_goals (exfalso; omega)
  .refine gob ?_ ?_<;>intro h
   .refine zAA cm rfl ?_
    refine sts ?_;refine zBS (r:=0) (zBK O f.ts[i]!.1 (f.ts[i]!.2 * c) _ hpc zom zom) rfl rfl rfl rfl (zF0 (zBA _)) ?_;refine sts ?_
    exact⟨(i+1,O++nzq f.ts[i]!.1 (f.ts[i]!.2 * c),true),⟨⟨zsm,by rw[rBG]; exact i2,zom,by rw[rAU]; omega⟩,by show f.ts.length - (i+1)<f.ts.length - i; omega⟩,[_,_,_,_,_],[],[],[],ttt,
     ⟨(apy rfl),(apy rfl),(apy rfl),(apy rfl),zAC rfl zom,rGW⟩,
     ⟨bbx,bbx,bbx,zAJ zdd rfl ⟨⟨zdd,rfl⟩,rfl,rfl,rfl,rGW⟩ rfl rfl,zAG zdd rfl rfl (zBA _) rfl,rGW⟩,by simp[ren,grH]⟩
   all_goals (exfalso; omega)
 .rw[rC3 zom,show vGA c []=[] from rfl,rBS]at i2
  subst i2;cases s
  .rw[i1 rfl]
   refine gob ?_ ?_<;>intro h
   all_goals try (exfalso; omega)
   exact rGX
  .refine gob ?_ ?_<;>intro h
   all_goals try (exfalso; omega)
   exact zAB (zBZ (zAD (zAI rfl rfl rfl (fun x=>zIO x)) rfl)) rfl
theorem vJU{v:Int}{c:Rat}:∀ {l:List QT} {d:Bool},(vCT v c l d).length<=l.length+(if d then 0 else 1)
 | [],d=>by
   simp only[vCT]
   split
   .simp
   .have:=zBN v c; omega
 | t::l,d=>by
   have nl1:=zBN v c;have nl2:=zBN t.1 (if t.1=v then t.2+c else t.2);have ih:=vJU (v:=v) (c:=c) (l:=l) (d:=((d || decide (t.1=v)) || decide (v<t.1)));simp only[vCT,rAU,List.length_cons];by_cases hA:(d || decide (t.1=v))=false/\v<t.1
   .rw[rAV hA]
    have hd:d=false:=by have:=hA.1; cases d<;>simp_all
    have hx:((d || decide (t.1=v)) || decide (v<t.1))=true:=by simp[hA.2]
    rw[hx]at ih ⊢;subst hd;simp at ih ⊢;omega
   .rw[rAN hA]
    have:(if ((d || decide (t.1=v)) || decide (v<t.1))=true then 0 else 1)<=(if d=true then 0 else 1):=by cases d<;>simp<;>split<;>omega
    simp only[List.length_nil];omega
theorem uHH{c:Rat}{k kc:Nat}(hc:sz kc c){l:List QT}(h:∀ p∈l,sz k p.2):∀ r∈vGA c l,sz (k+kc) r.2:=fun r hr=>by
 unfold vGA at hr;obtain⟨t,ht,hr⟩:=rEA.1 hr;rw[zL8 hr]; exact zFW (h t ht) hc
theorem vOU{c:Rat}:∀ {l:List QT},(vGA c l).length<=l.length
 | []=>rAO _
 | t::l=>by
   have:=zBN t.1 (t.2 * c);have:=vOU (c:=c) (l:=l);unfold vGA at *
   rw[List.flatMap_cons,rAU,List.length_cons]; omega
theorem vU3{f:QF}{c:Rat}{k kc:Nat}(hf:szF k f)(hc:sz kc c):szF (k+kc) (vES f c):=⟨zFW hf.1 hc,uHH hc hf.2⟩
end Go.PI.Tryz
