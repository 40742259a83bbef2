/-
  The reference: affine forms: Scale, Add, Sub, Make.
-/
import Derived.Test.YtbelmkceegmdjaaGreatDoorJRB
import Derived.Test.YtbelmkceegmdjaaGreatDoorJLB
set_option linter.unusedVariables false
set_option linter.unusedSimpArgs false
set_option maxHeartbeats 0
namespace Go.PI.Tryz
open Go.Proofs Go.PI
theorem vHC(O:List QT):vJ2 (vJD O) (.own 0 0 O.length):=rAW ⟨fun x hx=>by simp[vCN]at hx; left; simp[hx,vJD],by simp[vCN,vJD]⟩
theorem zN3:FO 175 Tryz.f175 [.tmp 4] 14:=mkO Tryz.func175 Tryz.ntmps175 Tryz.results175
theorem zBJ(O:List QT)(v:Int)(q:Rat)(k:Nat)(hq:sz k q)(hk:k<=2147483596)(hO:O.length<4194304):Fn 175 [.own 0 0 O.length,vIO (v,q)] (.own (some (vJD O)) (.own 0 0 (O++nzq v q).length) (vJD (O++nzq v q))):=by
 have hl:=zBL hq;have cs:=zE0 (cr q) (zBE q) zom;rw[zBU]at cs;refine vKO vBC hT zN3 zsm ?_;refine sts ?_;refine zAA cs rfl ?_
 refine gob ?_ ?_<;>intro h
 .rw[show q=0 from sgnQ_zero.1 h,zM0,rBR]
  exact zLH (r:=0) rfl rfl rfl rfl (fun e he=>(zA9 _ e he).1) (vHC _)
 .rw[zP0 fun e=>h (sgnQ_zero.2 e)]
  refine zBH ⟨rfl,by simp[vJD],rAE⟩ ?_;refine sts ?_;refine zLH (r:=10) ?_ rfl ?_ rfl (fun e he=>(zA9 _ e he).1) (vHC _)
  .simp[rk,rk1]
  .simp[vJD,vIO,vCB,tQ]
theorem zB5(v:Int)(q:Rat)(k:Nat)(hq:sz k q)(hk:k<=2147483596):Fn 175 [.nilsl,vIO (v,q)] (.own none (.own 0 0 (nzq v q).length) (vJD (nzq v q))):=by
 have hl:=zBL hq;have cs:=zE0 (cr q) (zBE q) zom;rw[zBU]at cs;refine vKP vBC hT zN3 zsm ?_;refine sts ?_;refine zAA cs rfl ?_
 refine gob ?_ ?_<;>intro h
 .rw[show q=0 from sgnQ_zero.1 h,zM0]
  exact vO7 rfl rfl (vHC [])
 .rw[zP0 fun e=>h (sgnQ_zero.2 e)]
  refine zLH (r:=10) ?_ rfl ?_ rfl (fun e he=>(zA9 _ e he).1) (vHC _)
  .simp[rk,rk1]
  .simp[vIO,vCB,tQ]
def grS:Bool->Nat->PV
 | true,n=>.own 0 0 n
 | false,_=>.nilsl
theorem uB4:FO 191 Tryz.f191 [.cell 6 46] 61:=mkO Tryz.func191 Tryz.ntmps191 Tryz.results191
set_option maxHeartbeats 1000000 in
theorem uJ7(f:QF)(v:Int)(c:Rat)(kf kc:Nat)(hf:szF kf f)(hc:sz kc c)(hk:kf<=949999990/\kc<=949999990)(hl:f.ts.length<=2097150):Fn 191 [vBP f,.int .i64 v,vA5 (cr c)] (.data (vBP (uL8 f v c))):=by
 obtain⟨M,hM⟩:∃ M,vCO v c f.ts false=M:=⟨_,rfl⟩;unfold uL8;rw[hM];have lc:=zBL hc;have cc:=zKW (cr c) (zBE _) zom zom;rw[zBU]at cc;refine zAK vBC hT uB4 (by simp[vBP]) ?_;refine sts ?_
 refine zAM hT (fun((i,O,s,d):Nat×List QT×Bool×Bool)=>[(1,.int .i64 v),(3,.ptr 1 0 0),(5,.ptr 2 0 0),(6,.ptr 3 0 0),(7,grS s O.length),(8,.bool d),(9,.int .i64 i)])
  (fun(i,O,s,d)=>(1,⟨[vBP f],4,true⟩)::(2,⟨[vA5 (cr c)],3,true⟩)::(3,⟨[uAG],4,true⟩)::grH s O) [] 4
  (fun(i,O,s,d)=>(s=false->O=[])/\O++vCO v c (f.ts.drop i) d=M/\i<=f.ts.length/\O.length<=2 * i)
  (fun(i,_)=>f.ts.length - i) (0,[],false,false) ⟨fun _=>rfl,hM,rA8 _,zsm⟩ zdd zsm ?_ ?_
 .exact⟨[0,_,_,_],[],[],[],ttt,⟨zAC rfl rfl,(apy rfl),(apy rfl),(apy rfl),vIH rfl,zAJ rfl rfl,zAC rfl rfl,rGU⟩,
   ⟨bbx,bbx,bbx,rGU⟩,by simp[ren,grH]⟩
 intro⟨i,O,s,d⟩ ⟨i1,i2,i3,i4⟩;cases s<;>cases d
 .by_cases hi:i<f.ts.length
  .have hdrop:f.ts.drop i=f.ts[i]! :: f.ts.drop (i+1):=by rw[rBS hi,rAT f.ts i hi]
   have hp:=hf.2 f.ts[i]! (by rw[rAT f.ts i hi]; exact rB4 hi);have hpc:=zG7 hp hc;have lp:=zBL hp;have ca:=zLZ (cr f.ts[i]!.2) (cr c) (zBE _) (zBE _) zom zom zom zom;rw[zBU,zBU]at ca
   (repeat' (first|refine stp ?_|with_reducible(refine brr ?_ ?_<;>intro h)));all_goals try(conv=>whnf)
   .have hv:f.ts[i]!.1=v:=h
    refine zAA ca rfl ?_;refine sts ?_;refine zCC (zB5 f.ts[i]!.1 (f.ts[i]!.2+c) _ hpc zom) rfl ?_;refine sts ?_;have nl:=zBN f.ts[i]!.1 (f.ts[i]!.2+c);exact⟨(i+1,nzq f.ts[i]!.1 (f.ts[i]!.2+c),true,true),⟨⟨zsm,by rw[hdrop]at i2; simp only[vCO,hv,rDF,rDE,rDL,rC9,rEU,rCM,rCH,List.nil_append]at i2; rw[hv]; rw[i1 rfl,List.nil_append]at i2; exact i2,zom,by(try simp only[rAU]); omega⟩,by show f.ts.length - (i+1)<f.ts.length - i; omega⟩,[_,_,_,_],[],[],[],ttt,⟨zAC rfl rfl,(apy rfl),(apy rfl),(apy rfl),zA3 zdd rfl rfl,zAJ rfl rfl,zAC rfl zom,rGU⟩,⟨bbx,bbx,bbx,zAF zdd rfl rfl (zA9 _) rfl,rGU⟩,by simp[ren,grH]⟩
   .have hv:v<f.ts[i]!.1:=h
    have hne:¬ f.ts[i]!.1=v:=by omega
    refine zAA cc rfl ?_;refine sts ?_;refine zCC (zB5 v c _ hc zom) rfl ?_;refine sts ?_;have nl1:=zBN v c;have nl2:=zBN f.ts[i]!.1 f.ts[i]!.2;refine zBR (r:=33) (zBJ (nzq v c) f.ts[i]!.1 f.ts[i]!.2 _ hp zom (by(try simp only[rAU]); omega)) rfl rfl rfl rfl (zFT (zA9 _)) ?_;refine sts ?_;exact⟨(i+1,nzq v c++nzq f.ts[i]!.1 f.ts[i]!.2,true,true),⟨⟨zsm,by rw[hdrop]at i2; simp only[vCO,hne,hv,rC6,rDF,rCN,rDE,and_self,rCM,rCH]at i2; rw[i1 rfl,List.nil_append]at i2; exact i2,zom,by(try simp only[rAU]); omega⟩,by show f.ts.length - (i+1)<f.ts.length - i; omega⟩,[_,_,_,_],[],[],[],ttt,⟨zAC rfl rfl,(apy rfl),(apy rfl),(apy rfl),zA3 zdd rfl rfl,zAJ rfl rfl,zAC rfl zom,rGU⟩,⟨bbx,bbx,bbx,zAF zdd rfl rfl (zA9 _) rfl,rGU⟩,by simp[ren,grH]⟩
   .have hne:¬ f.ts[i]!.1=v:=‹¬ (tQ f.ts[i]!).var=v›
    have hle:¬ v<f.ts[i]!.1:=h;refine zCC (zB5 f.ts[i]!.1 f.ts[i]!.2 _ hp zom) rfl ?_;refine sts ?_;have nl:=zBN f.ts[i]!.1 f.ts[i]!.2;exact⟨(i+1,nzq f.ts[i]!.1 f.ts[i]!.2,true,false),⟨⟨zsm,by rw[hdrop]at i2; simp only[vCO,hne,hle,rC6,rCN,Bool.or_self,and_false,rCM,List.nil_append]at i2; rw[i1 rfl,List.nil_append]at i2; exact i2,zom,by(try simp only[rAU]); omega⟩,by show f.ts.length - (i+1)<f.ts.length - i; omega⟩,[_,_,_,_],[],[],[],ttt,⟨zAC rfl rfl,(apy rfl),(apy rfl),(apy rfl),zA3 zdd rfl rfl,zAJ rfl rfl,zAC rfl zom,rGU⟩,⟨bbx,bbx,bbx,zAF zdd rfl rfl (zA9 _) rfl,rGU⟩,by simp[ren,grH]⟩
   all_goals (exfalso; omega)
  ·(repeat' (first|refine stp ?_|with_reducible(refine brr ?_ ?_<;>intro h)));all_goals try(conv=>whnf)
   all_goals try (exfalso; omega)
   have hN:vCO v c (f.ts.drop i) false=nzq v c:=by rw[rC2 zom]; rfl
   rw[hN]at i2;refine zAA cc rfl ?_;refine sts ?_;refine zCC (zB5 v c _ hc zom) rfl ?_;refine sts ?_;rw[i1 rfl,List.nil_append]at i2;subst i2;exact zAB (zBY (zAD (zAH rfl rfl rfl (fun x=>zIC x)) rfl)) rfl
 .by_cases hi:i<f.ts.length
  .have hdrop:f.ts.drop i=f.ts[i]! :: f.ts.drop (i+1):=by rw[rBS hi,rAT f.ts i hi]
   have hp:=hf.2 f.ts[i]! (by rw[rAT f.ts i hi]; exact rB4 hi);have hpc:=zG7 hp hc;have lp:=zBL hp;have ca:=zLZ (cr f.ts[i]!.2) (cr c) (zBE _) (zBE _) zom zom zom zom;rw[zBU,zBU]at ca
   (repeat' (first|refine stp ?_|with_reducible(refine brr ?_ ?_<;>intro h)));all_goals try(conv=>whnf)
   .have hv:f.ts[i]!.1=v:=h
    refine zAA ca rfl ?_;refine sts ?_;refine zCC (zB5 f.ts[i]!.1 (f.ts[i]!.2+c) _ hpc zom) rfl ?_;refine sts ?_;have nl:=zBN f.ts[i]!.1 (f.ts[i]!.2+c);exact⟨(i+1,nzq f.ts[i]!.1 (f.ts[i]!.2+c),true,true),⟨⟨zsm,by rw[hdrop]at i2; simp only[vCO,hv,rDF,rDE,rDL,rC9,rEU,rCM,rCH,List.nil_append]at i2; rw[hv]; rw[i1 rfl,List.nil_append]at i2; exact i2,zom,by(try simp only[rAU]); omega⟩,by show f.ts.length - (i+1)<f.ts.length - i; omega⟩,[_,_,_,_],[],[],[],ttt,⟨zAC rfl rfl,(apy rfl),(apy rfl),(apy rfl),zA3 zdd rfl rfl,zAJ rfl rfl,zAC rfl zom,rGU⟩,⟨bbx,bbx,bbx,zAF zdd rfl rfl (zA9 _) rfl,rGU⟩,by simp[ren,grH]⟩
   .have hne:¬ f.ts[i]!.1=v:=‹¬ (tQ f.ts[i]!).var=v›
    refine zCC (zB5 f.ts[i]!.1 f.ts[i]!.2 _ hp zom) rfl ?_;refine sts ?_;have nl:=zBN f.ts[i]!.1 f.ts[i]!.2;exact⟨(i+1,nzq f.ts[i]!.1 f.ts[i]!.2,true,true),⟨⟨zsm,by rw[hdrop]at i2; simp only[vCO,hne,rC6,rDL,rC9,rEU,rCM,List.nil_append]at i2; rw[i1 rfl,List.nil_append]at i2; exact i2,zom,by(try simp only[rAU]); omega⟩,by show f.ts.length - (i+1)<f.ts.length - i; omega⟩,[_,_,_,_],[],[],[],ttt,⟨zAC rfl rfl,(apy rfl),(apy rfl),(apy rfl),zA3 zdd rfl rfl,zAJ rfl rfl,zAC rfl zom,rGU⟩,⟨bbx,bbx,bbx,zAF zdd rfl rfl (zA9 _) rfl,rGU⟩,by simp[ren,grH]⟩
   all_goals (exfalso; omega)
  ·(repeat' (first|refine stp ?_|with_reducible(refine brr ?_ ?_<;>intro h)));all_goals try(conv=>whnf)
   all_goals try (exfalso; omega)
   have hN:vCO v c (f.ts.drop i) true=[]:=by rw[rC2 zom]; rfl
   rw[hN]at i2;rw[rBR]at i2;subst i2;rw[i1 rfl];exact rGV
 .by_cases hi:i<f.ts.length
  .have hdrop:f.ts.drop i=f.ts[i]! :: f.ts.drop (i+1):=by rw[rBS hi,rAT f.ts i hi]
   have hp:=hf.2 f.ts[i]! (by rw[rAT f.ts i hi]; exact rB4 hi);have hpc:=zG7 hp hc;have lp:=zBL hp;have ca:=zLZ (cr f.ts[i]!.2) (cr c) (zBE _) (zBE _) zom zom zom zom;rw[zBU,zBU]at ca
   (repeat' (first|refine stp ?_|with_reducible(refine brr ?_ ?_<;>intro h)));all_goals try(conv=>whnf)
   .have hv:f.ts[i]!.1=v:=h
    refine zAA ca rfl ?_;refine sts ?_;refine zBR (r:=0) (zBJ O f.ts[i]!.1 (f.ts[i]!.2+c) _ hpc zom (by(try simp only[rAU]); omega)) rfl rfl rfl rfl (zFT (zA9 _)) ?_;refine sts ?_;have nl:=zBN f.ts[i]!.1 (f.ts[i]!.2+c);exact⟨(i+1,O++nzq f.ts[i]!.1 (f.ts[i]!.2+c),true,true),⟨⟨zsm,by rw[hdrop]at i2; simp only[vCO,hv,rDF,rDE,rDL,rC9,rEU,rCM,rCH,List.nil_append]at i2; rw[hv]; rw[rBG]; exact i2,zom,by(try simp only[rAU]); omega⟩,by show f.ts.length - (i+1)<f.ts.length - i; omega⟩,[_,_,_,_],[],[],[],ttt,⟨zAC rfl rfl,(apy rfl),(apy rfl),(apy rfl),zA3 zdd rfl rfl,zAJ rfl rfl,zAC rfl zom,rGU⟩,⟨bbx,bbx,bbx,zAF zdd rfl rfl (zA9 _) rfl,rGU⟩,by simp[ren,grH]⟩
   .have hv:v<f.ts[i]!.1:=h
    have hne:¬ f.ts[i]!.1=v:=by omega
    refine zAA cc rfl ?_;refine sts ?_;refine zBR (r:=0) (zBJ O v c _ hc zom (by(try simp only[rAU]); omega)) rfl rfl rfl rfl (zFT (zA9 _)) ?_;refine sts ?_;have nl1:=zBN v c;have nl2:=zBN f.ts[i]!.1 f.ts[i]!.2;refine zBR (r:=33) (zBJ (O++nzq v c) f.ts[i]!.1 f.ts[i]!.2 _ hp zom (by(try simp only[rAU]); omega)) rfl rfl rfl rfl (zFT (zA9 _)) ?_;refine sts ?_;exact⟨(i+1,O++nzq v c++nzq f.ts[i]!.1 f.ts[i]!.2,true,true),⟨⟨zsm,by rw[hdrop]at i2; simp only[vCO,hne,hv,rC6,rDF,rCN,rDE,and_self,rCM,rCH]at i2; simp only[rBG]at i2 ⊢; exact i2,zom,by(try simp only[rAU]); omega⟩,by show f.ts.length - (i+1)<f.ts.length - i; omega⟩,[_,_,_,_],[],[],[],ttt,⟨zAC rfl rfl,(apy rfl),(apy rfl),(apy rfl),zA3 zdd rfl rfl,zAJ rfl rfl,zAC rfl zom,rGU⟩,⟨bbx,bbx,bbx,zAF zdd rfl rfl (zA9 _) rfl,rGU⟩,by simp[ren,grH]⟩
   .have hne:¬ f.ts[i]!.1=v:=‹¬ (tQ f.ts[i]!).var=v›
    have hle:¬ v<f.ts[i]!.1:=h;refine zBR (r:=0) (zBJ O f.ts[i]!.1 f.ts[i]!.2 _ hp zom (by(try simp only[rAU]); omega)) rfl rfl rfl rfl (zFT (zA9 _)) ?_;refine sts ?_;have nl:=zBN f.ts[i]!.1 f.ts[i]!.2;exact⟨(i+1,O++nzq f.ts[i]!.1 f.ts[i]!.2,true,false),⟨⟨zsm,by rw[hdrop]at i2; simp only[vCO,hne,hle,rC6,rCN,Bool.or_self,and_false,rCM,List.nil_append]at i2; rw[rBG]; exact i2,zom,by(try simp only[rAU]); omega⟩,by show f.ts.length - (i+1)<f.ts.length - i; omega⟩,[_,_,_,_],[],[],[],ttt,⟨zAC rfl rfl,(apy rfl),(apy rfl),(apy rfl),zA3 zdd rfl rfl,zAJ rfl rfl,zAC rfl zom,rGU⟩,⟨bbx,bbx,bbx,zAF zdd rfl rfl (zA9 _) rfl,rGU⟩,by simp[ren,grH]⟩
   all_goals (exfalso; omega)
  ·(repeat' (first|refine stp ?_|with_reducible(refine brr ?_ ?_<;>intro h)));all_goals try(conv=>whnf)
   all_goals try (exfalso; omega)
   have hN:vCO v c (f.ts.drop i) false=nzq v c:=by rw[rC2 zom]; rfl
   rw[hN]at i2;refine zAA cc rfl ?_;refine sts ?_;refine zBR (r:=0) (zBJ O v c _ hc zom (by(try simp only[rAU]); omega)) rfl rfl rfl rfl (zFT (zA9 _)) ?_;refine sts ?_;subst i2;exact zAB (zBY (zAD (zAH rfl rfl rfl (fun x=>zIC x)) rfl)) rfl
 .by_cases hi:i<f.ts.length
  .have hdrop:f.ts.drop i=f.ts[i]! :: f.ts.drop (i+1):=by rw[rBS hi,rAT f.ts i hi]
   have hp:=hf.2 f.ts[i]! (by rw[rAT f.ts i hi]; exact rB4 hi);have hpc:=zG7 hp hc;have lp:=zBL hp;have ca:=zLZ (cr f.ts[i]!.2) (cr c) (zBE _) (zBE _) zom zom zom zom;rw[zBU,zBU]at ca
   (repeat' (first|refine stp ?_|with_reducible(refine brr ?_ ?_<;>intro h)));all_goals try(conv=>whnf)
   .have hv:f.ts[i]!.1=v:=h
    refine zAA ca rfl ?_;refine sts ?_;refine zBR (r:=0) (zBJ O f.ts[i]!.1 (f.ts[i]!.2+c) _ hpc zom (by(try simp only[rAU]); omega)) rfl rfl rfl rfl (zFT (zA9 _)) ?_;refine sts ?_;have nl:=zBN f.ts[i]!.1 (f.ts[i]!.2+c);exact⟨(i+1,O++nzq f.ts[i]!.1 (f.ts[i]!.2+c),true,true),⟨⟨zsm,by rw[hdrop]at i2; simp only[vCO,hv,rDF,rDE,rDL,rC9,rEU,rCM,rCH,List.nil_append]at i2; rw[hv]; rw[rBG]; exact i2,zom,by(try simp only[rAU]); omega⟩,by show f.ts.length - (i+1)<f.ts.length - i; omega⟩,[_,_,_,_],[],[],[],ttt,⟨zAC rfl rfl,(apy rfl),(apy rfl),(apy rfl),zA3 zdd rfl rfl,zAJ rfl rfl,zAC rfl zom,rGU⟩,⟨bbx,bbx,bbx,zAF zdd rfl rfl (zA9 _) rfl,rGU⟩,by simp[ren,grH]⟩
   .have hne:¬ f.ts[i]!.1=v:=‹¬ (tQ f.ts[i]!).var=v›
    refine zBR (r:=0) (zBJ O f.ts[i]!.1 f.ts[i]!.2 _ hp zom (by(try simp only[rAU]); omega)) rfl rfl rfl rfl (zFT (zA9 _)) ?_;refine sts ?_;have nl:=zBN f.ts[i]!.1 f.ts[i]!.2;exact⟨(i+1,O++nzq f.ts[i]!.1 f.ts[i]!.2,true,true),⟨⟨zsm,by rw[hdrop]at i2; simp only[vCO,hne,rC6,rDL,rC9,rEU,rCM,List.nil_append]at i2; rw[rBG]; exact i2,zom,by(try simp only[rAU]); omega⟩,by show f.ts.length - (i+1)<f.ts.length - i; omega⟩,[_,_,_,_],[],[],[],ttt,⟨zAC rfl rfl,(apy rfl),(apy rfl),(apy rfl),zA3 zdd rfl rfl,zAJ rfl rfl,zAC rfl zom,rGU⟩,⟨bbx,bbx,bbx,zAF zdd rfl rfl (zA9 _) rfl,rGU⟩,by simp[ren,grH]⟩
   all_goals (exfalso; omega)
  ·(repeat' (first|refine stp ?_|with_reducible(refine brr ?_ ?_<;>intro h)));all_goals try(conv=>whnf)
   all_goals try (exfalso; omega)
   have hN:vCO v c (f.ts.drop i) true=[]:=by rw[rC2 zom]; rfl
   rw[hN]at i2;rw[rBR]at i2;subst i2;exact zAB (zBY (zAD (zAH rfl rfl rfl (fun x=>zIC x)) rfl)) rfl
theorem vUT{c:Rat}{ts:List QT}{i:Nat}(hi:i<ts.length):vF9 c (ts.drop i)=nzq ts[i]!.1 (ts[i]!.2 * c)++vF9 c (ts.drop (i+1)):=by
 unfold vF9; rw[rBS hi,List.flatMap_cons,rAT ts i hi]
theorem vV5:FO 147 Tryz.f147 [.cell 4 46] 39:=mkO Tryz.func147 Tryz.ntmps147 Tryz.results147
theorem vQF(f:QF)(c:Rat)(kf kc:Nat)(hf:szF kf f)(hc:sz kc c)(hk:kf+kc<=949999990)(hl:f.ts.length<=2097150):Fn 147 [vBP f,vA5 (cr c)] (.data (vBP (vES f c))):=by
 obtain⟨M,hM⟩:∃ M,vF9 c f.ts=M:=⟨_,rfl⟩;have lf:=zBL hf.1;have lc:=zBL hc;have cm0:=vZA (cr f.c) (cr c) (zBE _) (zBE _) zom zom zom zom;rw[zBU,zBU]at cm0;unfold vES;obtain⟨C,hC⟩:∃ C,f.c * c=C:=⟨_,rfl⟩;rw[hC]at cm0;rw[hM,hC];refine zAK vBC hT vV5 (by simp[vBP]) ?_;refine sts ?_;refine zAA cm0 rfl ?_;refine sts ?_
 refine zAM hT (fun((i,O,s):Nat×List QT×Bool)=>[(2,.ptr 1 0 0),(3,.ptr 2 0 0),(4,.ptr 3 0 0),(5,.ptr 4 0 0),(6,.int .i64 i)])
  (fun(i,O,s)=>(1,⟨[vBP f],4,true⟩)::(2,⟨[vA5 (cr c)],3,true⟩)::(3,⟨[uAG],4,true⟩)::(4,⟨[grF s O.length C],4,true⟩)::grH s O) [] 5
  (fun(i,O,s)=>(s=false->O=[])/\O++vF9 c (f.ts.drop i)=M/\i<=f.ts.length/\O.length<=i)
  (fun(i,_)=>f.ts.length - i) (0,[],false) ⟨fun _=>rfl,hM,rA8 _,zsm⟩ zdd zsm ?_ ?_
 .exact⟨[0,_,_,_,_],[],[],[],ttt,⟨(apy rfl),(apy rfl),(apy rfl),(apy rfl),zAC rfl rfl,rGU⟩,
   ⟨bbx,bbx,bbx,bbx,rGU⟩,by simp[ren,grH]⟩
 intro⟨i,O,s⟩ ⟨i1,i2,i3,i4⟩;by_cases hi:i<f.ts.length
 .have hp:=hf.2 f.ts[i]! (by rw[rAT f.ts i hi]; exact rB4 hi)
  have hpc:=zFP hp hc;have lp:=zBL hp;have cm:=vZA (cr f.ts[i]!.2) (cr c) (zBE _) (zBE _) zom zom zom zom;rw[zBU,zBU]at cm;have nl:=zBN f.ts[i]!.1 (f.ts[i]!.2 * c);rw[vUT hi]at i2;cases s
  ·refine gob ?_ ?_<;>intro h
   .refine zAA cm rfl ?_
    refine sts ?_;refine zCC (zB5 f.ts[i]!.1 (f.ts[i]!.2 * c) _ hpc zom) rfl ?_;refine sts ?_
    exact⟨(i+1,nzq f.ts[i]!.1 (f.ts[i]!.2 * c),true),⟨⟨zsm,by rw[i1 rfl,List.nil_append]at i2; exact i2,zom,zom⟩,by show f.ts.length - (i+1)<f.ts.length - i; omega⟩,[_,_,_,_,_],[],[],[],ttt,
     ⟨(apy rfl),(apy rfl),(apy rfl),(apy rfl),zAC rfl zom,rGU⟩,
     ⟨bbx,bbx,bbx,zAI zdd rfl ⟨⟨zdd,rfl⟩,rfl,rfl,rfl,rGU⟩ rfl rfl,zAF zdd rfl rfl (zA9 _) rfl,rGU⟩,by simp[ren,grH]⟩
   all_goals (exfalso; omega)
  ·refine gob ?_ ?_<;>intro h
   .refine zAA cm rfl ?_
    refine sts ?_;refine zBR (r:=0) (zBJ O f.ts[i]!.1 (f.ts[i]!.2 * c) _ hpc zom zom) rfl rfl rfl rfl (zFT (zA9 _)) ?_;refine sts ?_
    exact⟨(i+1,O++nzq f.ts[i]!.1 (f.ts[i]!.2 * c),true),⟨⟨zsm,by rw[rBG]; exact i2,zom,by rw[rAU]; omega⟩,by show f.ts.length - (i+1)<f.ts.length - i; omega⟩,[_,_,_,_,_],[],[],[],ttt,
     ⟨(apy rfl),(apy rfl),(apy rfl),(apy rfl),zAC rfl zom,rGU⟩,
     ⟨bbx,bbx,bbx,zAI zdd rfl ⟨⟨zdd,rfl⟩,rfl,rfl,rfl,rGU⟩ rfl rfl,zAF zdd rfl rfl (zA9 _) rfl,rGU⟩,by simp[ren,grH]⟩
   all_goals (exfalso; omega)
 .rw[rC2 zom,show vF9 c []=[] from rfl,rBR]at i2
  subst i2;cases s
  .rw[i1 rfl]
   refine gob ?_ ?_<;>intro h
   all_goals try (exfalso; omega)
   exact rGV
  ·refine gob ?_ ?_<;>intro h
   all_goals try (exfalso; omega)
   exact zAB (zBY (zAD (zAH rfl rfl rfl (fun x=>zIC x)) rfl)) rfl
theorem vJL{v:Int}{c:Rat}:∀ {l:List QT} {d:Bool},(vCO v c l d).length<=l.length+(if d then 0 else 1)
 | [],d=>by
   simp only[vCO]
   split
   .simp
   .have:=zBN v c; omega
 | t::l,d=>by
   have nl1:=zBN v c;have nl2:=zBN t.1 (if t.1=v then t.2+c else t.2);have ih:=vJL (v:=v) (c:=c) (l:=l) (d:=((d || decide (t.1=v)) || decide (v<t.1)));simp only[vCO,rAU,List.length_cons];by_cases hA:(d || decide (t.1=v))=false/\v<t.1
   .rw[rAV hA]
    have hd:d=false:=by have:=hA.1; cases d<;>simp_all
    have hx:((d || decide (t.1=v)) || decide (v<t.1))=true:=by simp[hA.2]
    rw[hx]at ih ⊢;subst hd;simp at ih ⊢;omega
   .rw[rAN hA]
    have:(if ((d || decide (t.1=v)) || decide (v<t.1))=true then 0 else 1)<=(if d=true then 0 else 1):=by cases d<;>simp<;>split<;>omega
    simp only[List.length_nil];omega
theorem uG1{c:Rat}{k kc:Nat}(hc:sz kc c){l:List QT}(h:∀ p∈l,sz k p.2):∀ r∈vF9 c l,sz (k+kc) r.2:=fun r hr=>by
 unfold vF9 at hr;obtain⟨t,ht,hr⟩:=rFD.1 hr;rw[zLP hr]; exact zFP (h t ht) hc
theorem vOM{c:Rat}:∀ {l:List QT},(vF9 c l).length<=l.length
 | []=>rAR _
 | t::l=>by
   have:=zBN t.1 (t.2 * c);have:=vOM (c:=c) (l:=l);unfold vF9 at *
   rw[List.flatMap_cons,rAU,List.length_cons]; omega
theorem vUV{f:QF}{c:Rat}{k kc:Nat}(hf:szF k f)(hc:sz kc c):szF (k+kc) (vES f c):=⟨zFP hf.1 hc,uG1 hc hf.2⟩
end Go.PI.Tryz
