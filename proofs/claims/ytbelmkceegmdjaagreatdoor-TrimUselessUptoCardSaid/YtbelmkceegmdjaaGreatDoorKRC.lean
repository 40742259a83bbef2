/-
  The reference: affine forms: Scale, Add, Sub, Make.
-/
import Derived.Test.YtbelmkceegmdjaaGreatDoorKRB
import Derived.Test.YtbelmkceegmdjaaGreatDoorKLB
set_option linter.unusedVariables false
set_option linter.unusedSimpArgs false
set_option maxHeartbeats 0
namespace Go.PI.Tryz
open Go.Proofs Go.PI
theorem vHB(O:List QT):vJ2 (vJF O) (.own 0 0 O.length):=rAW ⟨fun x hx=>by simp[vCQ]at hx; left; simp[hx,vJF],by simp[vCQ,vJF]⟩
theorem zNS:FO 175 Tryz.f175 [.tmp 4] 14:=mkO Tryz.func175 Tryz.ntmps175 Tryz.results175
theorem zBJ(O:List QT)(v:Int)(q:Rat)(k:Nat)(hq:sz k q)(hk:k<=2147483596)(hO:O.length<4194304):Fn 175 [.own 0 0 O.length,vIN (v,q)] (.own (some (vJF O)) (.own 0 0 (O++nzq v q).length) (vJF (O++nzq v q))):=by
 have hl:=zBM hq;have cs:=zE1 (cr q) (zBE q) zom;rw[zBW]at cs;refine vKN vBC hT zNS zsm ?_;refine sts ?_;refine zAA cs rfl ?_
 refine gob ?_ ?_<;>intro h
 .rw[show q=0 from sgnQ_zero.1 h,zMX,rBQ]
  exact zLI (r:=0) rfl rfl rfl rfl (fun e he=>(zA8 _ e he).1) (vHB _)
 .rw[zPK fun e=>h (sgnQ_zero.2 e)]
  refine zBN ⟨rfl,by simp[vJF],rAE⟩ ?_;refine sts ?_;refine zLI (r:=10) ?_ rfl ?_ rfl (fun e he=>(zA8 _ e he).1) (vHB _)
  .simp[rk,rk1]
  .simp[vJF,vIN,vCB,tQ]
theorem zB4(v:Int)(q:Rat)(k:Nat)(hq:sz k q)(hk:k<=2147483596):Fn 175 [.nilsl,vIN (v,q)] (.own none (.own 0 0 (nzq v q).length) (vJF (nzq v q))):=by
 have hl:=zBM hq;have cs:=zE1 (cr q) (zBE q) zom;rw[zBW]at cs;refine vKO vBC hT zNS zsm ?_;refine sts ?_;refine zAA cs rfl ?_
 refine gob ?_ ?_<;>intro h
 .rw[show q=0 from sgnQ_zero.1 h,zMX]
  exact vOZ rfl rfl (vHB [])
 .rw[zPK fun e=>h (sgnQ_zero.2 e)]
  refine zLI (r:=10) ?_ rfl ?_ rfl (fun e he=>(zA8 _ e he).1) (vHB _)
  .simp[rk,rk1]
  .simp[vIN,vCB,tQ]
def grS:Bool->Nat->PV
 | true,n=>.own 0 0 n
 | false,_=>.nilsl
theorem uCJ:FO 191 Tryz.f191 [.cell 6 46] 61:=mkO Tryz.func191 Tryz.ntmps191 Tryz.results191
set_option maxHeartbeats 1000000 in
theorem uKU(f:QF)(v:Int)(c:Rat)(kf kc:Nat)(hf:szF kf f)(hc:sz kc c)(hk:kf<=949999990/\kc<=949999990)(hl:f.ts.length<=2097150):Fn 191 [vBP f,.int .i64 v,vA5 (cr c)] (.data (vBP (uMQ f v c))):=by
 obtain⟨M,hM⟩:∃ M,vCR v c f.ts false=M:=⟨_,rfl⟩;unfold uMQ;rw[hM];have lc:=zBM hc;have cc:=zKW (cr c) (zBE _) zom zom;rw[zBW]at cc;refine zAL vBC hT uCJ (by simp[vBP]) ?_;refine sts ?_
 refine zAN hT (fun((i,O,s,d):Nat×List QT×Bool×Bool)=>[(1,.int .i64 v),(3,.ptr 1 0 0),(5,.ptr 2 0 0),(6,.ptr 3 0 0),(7,grS s O.length),(8,.bool d),(9,.int .i64 i)])
  (fun(i,O,s,d)=>(1,⟨[vBP f],4,true⟩)::(2,⟨[vA5 (cr c)],3,true⟩)::(3,⟨[uAR],4,true⟩)::grH s O) [] 4
  (fun(i,O,s,d)=>(s=false->O=[])/\O++vCR v c (f.ts.drop i) d=M/\i<=f.ts.length/\O.length<=2 * i)
  (fun(i,_)=>f.ts.length - i) (0,[],false,false) ⟨fun _=>rfl,hM,rA7 _,zsm⟩ zdd zsm ?_ ?_
 .exact⟨[0,_,_,_],[],[],[],ttt,⟨zAC rfl rfl,(apy rfl),(apy rfl),(apy rfl),vIG rfl,zAJ rfl rfl,zAC rfl rfl,rGU⟩,
   ⟨bbx,bbx,bbx,rGU⟩,by simp[ren,grH]⟩
 intro⟨i,O,s,d⟩ ⟨i1,i2,i3,i4⟩;cases s<;>cases d
 .by_cases hi:i<f.ts.length
  .have hdrop:f.ts.drop i=f.ts[i]! :: f.ts.drop (i+1):=by rw[rBT hi,rAT f.ts i hi]
   have hp:=hf.2 f.ts[i]! (by rw[rAT f.ts i hi]; exact rB3 hi);have hpc:=zG9 hp hc;have lp:=zBM hp;have ca:=zLY (cr f.ts[i]!.2) (cr c) (zBE _) (zBE _) zom zom zom zom;rw[zBW,zBW]at ca
   (repeat' (first|refine stp ?_|with_reducible(refine brr ?_ ?_<;>intro h)));all_goals try(conv=>whnf)
   .have hv:f.ts[i]!.1=v:=h
    refine zAA ca rfl ?_;refine sts ?_;refine zCB (zB4 f.ts[i]!.1 (f.ts[i]!.2+c) _ hpc zom) rfl ?_;refine sts ?_;have nl:=zBO f.ts[i]!.1 (f.ts[i]!.2+c);exact⟨(i+1,nzq f.ts[i]!.1 (f.ts[i]!.2+c),true,true),⟨⟨zsm,by rw[hdrop]at i2; simp only[vCR,hv,rDG,rDE,rDL,rC7,rE7,rCL,rCI,List.nil_append]at i2; rw[hv]; rw[i1 rfl,List.nil_append]at i2; exact i2,zom,by(try simp only[rAV]); omega⟩,by show f.ts.length - (i+1)<f.ts.length - i; omega⟩,[_,_,_,_],[],[],[],ttt,⟨zAC rfl rfl,(apy rfl),(apy rfl),(apy rfl),zA3 zdd rfl rfl,zAJ rfl rfl,zAC rfl zom,rGU⟩,⟨bbx,bbx,bbx,zAF zdd rfl rfl (zA8 _) rfl,rGU⟩,by simp[ren,grH]⟩
   .have hv:v<f.ts[i]!.1:=h
    have hne:¬ f.ts[i]!.1=v:=by omega
    refine zAA cc rfl ?_;refine sts ?_;refine zCB (zB4 v c _ hc zom) rfl ?_;refine sts ?_;have nl1:=zBO v c;have nl2:=zBO f.ts[i]!.1 f.ts[i]!.2;refine zBU (r:=33) (zBJ (nzq v c) f.ts[i]!.1 f.ts[i]!.2 _ hp zom (by(try simp only[rAV]); omega)) rfl rfl rfl rfl (zFW (zA8 _)) ?_;refine sts ?_;exact⟨(i+1,nzq v c++nzq f.ts[i]!.1 f.ts[i]!.2,true,true),⟨⟨zsm,by rw[hdrop]at i2; simp only[vCR,hne,hv,rDC,rDG,rCM,rDE,and_self,rCL,rCI]at i2; rw[i1 rfl,List.nil_append]at i2; exact i2,zom,by(try simp only[rAV]); omega⟩,by show f.ts.length - (i+1)<f.ts.length - i; omega⟩,[_,_,_,_],[],[],[],ttt,⟨zAC rfl rfl,(apy rfl),(apy rfl),(apy rfl),zA3 zdd rfl rfl,zAJ rfl rfl,zAC rfl zom,rGU⟩,⟨bbx,bbx,bbx,zAF zdd rfl rfl (zA8 _) rfl,rGU⟩,by simp[ren,grH]⟩
   .have hne:¬ f.ts[i]!.1=v:=‹¬ (tQ f.ts[i]!).var=v›
    have hle:¬ v<f.ts[i]!.1:=h;refine zCB (zB4 f.ts[i]!.1 f.ts[i]!.2 _ hp zom) rfl ?_;refine sts ?_;have nl:=zBO f.ts[i]!.1 f.ts[i]!.2;exact⟨(i+1,nzq f.ts[i]!.1 f.ts[i]!.2,true,false),⟨⟨zsm,by rw[hdrop]at i2; simp only[vCR,hne,hle,rDC,rCM,Bool.or_self,and_false,rCL,List.nil_append]at i2; rw[i1 rfl,List.nil_append]at i2; exact i2,zom,by(try simp only[rAV]); omega⟩,by show f.ts.length - (i+1)<f.ts.length - i; omega⟩,[_,_,_,_],[],[],[],ttt,⟨zAC rfl rfl,(apy rfl),(apy rfl),(apy rfl),zA3 zdd rfl rfl,zAJ rfl rfl,zAC rfl zom,rGU⟩,⟨bbx,bbx,bbx,zAF zdd rfl rfl (zA8 _) rfl,rGU⟩,by simp[ren,grH]⟩
   all_goals (exfalso; omega)
  ·(repeat' (first|refine stp ?_|with_reducible(refine brr ?_ ?_<;>intro h)));all_goals try(conv=>whnf)
   all_goals try (exfalso; omega)
   have hN:vCR v c (f.ts.drop i) false=nzq v c:=by rw[rC1 zom]; rfl
   rw[hN]at i2;refine zAA cc rfl ?_;refine sts ?_;refine zCB (zB4 v c _ hc zom) rfl ?_;refine sts ?_;rw[i1 rfl,List.nil_append]at i2;subst i2;exact zAB (zBZ (zAD (zAI rfl rfl rfl (fun x=>zII x)) rfl)) rfl
 .by_cases hi:i<f.ts.length
  .have hdrop:f.ts.drop i=f.ts[i]! :: f.ts.drop (i+1):=by rw[rBT hi,rAT f.ts i hi]
   have hp:=hf.2 f.ts[i]! (by rw[rAT f.ts i hi]; exact rB3 hi);have hpc:=zG9 hp hc;have lp:=zBM hp;have ca:=zLY (cr f.ts[i]!.2) (cr c) (zBE _) (zBE _) zom zom zom zom;rw[zBW,zBW]at ca
   (repeat' (first|refine stp ?_|with_reducible(refine brr ?_ ?_<;>intro h)));all_goals try(conv=>whnf)
   .have hv:f.ts[i]!.1=v:=h
    refine zAA ca rfl ?_;refine sts ?_;refine zCB (zB4 f.ts[i]!.1 (f.ts[i]!.2+c) _ hpc zom) rfl ?_;refine sts ?_;have nl:=zBO f.ts[i]!.1 (f.ts[i]!.2+c);exact⟨(i+1,nzq f.ts[i]!.1 (f.ts[i]!.2+c),true,true),⟨⟨zsm,by rw[hdrop]at i2; simp only[vCR,hv,rDG,rDE,rDL,rC7,rE7,rCL,rCI,List.nil_append]at i2; rw[hv]; rw[i1 rfl,List.nil_append]at i2; exact i2,zom,by(try simp only[rAV]); omega⟩,by show f.ts.length - (i+1)<f.ts.length - i; omega⟩,[_,_,_,_],[],[],[],ttt,⟨zAC rfl rfl,(apy rfl),(apy rfl),(apy rfl),zA3 zdd rfl rfl,zAJ rfl rfl,zAC rfl zom,rGU⟩,⟨bbx,bbx,bbx,zAF zdd rfl rfl (zA8 _) rfl,rGU⟩,by simp[ren,grH]⟩
   .have hne:¬ f.ts[i]!.1=v:=‹¬ (tQ f.ts[i]!).var=v›
    refine zCB (zB4 f.ts[i]!.1 f.ts[i]!.2 _ hp zom) rfl ?_;refine sts ?_;have nl:=zBO f.ts[i]!.1 f.ts[i]!.2;exact⟨(i+1,nzq f.ts[i]!.1 f.ts[i]!.2,true,true),⟨⟨zsm,by rw[hdrop]at i2; simp only[vCR,hne,rDC,rDL,rC7,rE7,rCL,List.nil_append]at i2; rw[i1 rfl,List.nil_append]at i2; exact i2,zom,by(try simp only[rAV]); omega⟩,by show f.ts.length - (i+1)<f.ts.length - i; omega⟩,[_,_,_,_],[],[],[],ttt,⟨zAC rfl rfl,(apy rfl),(apy rfl),(apy rfl),zA3 zdd rfl rfl,zAJ rfl rfl,zAC rfl zom,rGU⟩,⟨bbx,bbx,bbx,zAF zdd rfl rfl (zA8 _) rfl,rGU⟩,by simp[ren,grH]⟩
   all_goals (exfalso; omega)
  ·(repeat' (first|refine stp ?_|with_reducible(refine brr ?_ ?_<;>intro h)));all_goals try(conv=>whnf)
   all_goals try (exfalso; omega)
   have hN:vCR v c (f.ts.drop i) true=[]:=by rw[rC1 zom]; rfl
   rw[hN]at i2;rw[rBQ]at i2;subst i2;rw[i1 rfl];exact rGV
 .by_cases hi:i<f.ts.length
  .have hdrop:f.ts.drop i=f.ts[i]! :: f.ts.drop (i+1):=by rw[rBT hi,rAT f.ts i hi]
   have hp:=hf.2 f.ts[i]! (by rw[rAT f.ts i hi]; exact rB3 hi);have hpc:=zG9 hp hc;have lp:=zBM hp;have ca:=zLY (cr f.ts[i]!.2) (cr c) (zBE _) (zBE _) zom zom zom zom;rw[zBW,zBW]at ca
   (repeat' (first|refine stp ?_|with_reducible(refine brr ?_ ?_<;>intro h)));all_goals try(conv=>whnf)
   .have hv:f.ts[i]!.1=v:=h
    refine zAA ca rfl ?_;refine sts ?_;refine zBU (r:=0) (zBJ O f.ts[i]!.1 (f.ts[i]!.2+c) _ hpc zom (by(try simp only[rAV]); omega)) rfl rfl rfl rfl (zFW (zA8 _)) ?_;refine sts ?_;have nl:=zBO f.ts[i]!.1 (f.ts[i]!.2+c);exact⟨(i+1,O++nzq f.ts[i]!.1 (f.ts[i]!.2+c),true,true),⟨⟨zsm,by rw[hdrop]at i2; simp only[vCR,hv,rDG,rDE,rDL,rC7,rE7,rCL,rCI,List.nil_append]at i2; rw[hv]; rw[rBB]; exact i2,zom,by(try simp only[rAV]); omega⟩,by show f.ts.length - (i+1)<f.ts.length - i; omega⟩,[_,_,_,_],[],[],[],ttt,⟨zAC rfl rfl,(apy rfl),(apy rfl),(apy rfl),zA3 zdd rfl rfl,zAJ rfl rfl,zAC rfl zom,rGU⟩,⟨bbx,bbx,bbx,zAF zdd rfl rfl (zA8 _) rfl,rGU⟩,by simp[ren,grH]⟩
   .have hv:v<f.ts[i]!.1:=h
    have hne:¬ f.ts[i]!.1=v:=by omega
    refine zAA cc rfl ?_;refine sts ?_;refine zBU (r:=0) (zBJ O v c _ hc zom (by(try simp only[rAV]); omega)) rfl rfl rfl rfl (zFW (zA8 _)) ?_;refine sts ?_;have nl1:=zBO v c;have nl2:=zBO f.ts[i]!.1 f.ts[i]!.2;refine zBU (r:=33) (zBJ (O++nzq v c) f.ts[i]!.1 f.ts[i]!.2 _ hp zom (by(try simp only[rAV]); omega)) rfl rfl rfl rfl (zFW (zA8 _)) ?_;refine sts ?_;exact⟨(i+1,O++nzq v c++nzq f.ts[i]!.1 f.ts[i]!.2,true,true),⟨⟨zsm,by rw[hdrop]at i2; simp only[vCR,hne,hv,rDC,rDG,rCM,rDE,and_self,rCL,rCI]at i2; simp only[rBB]at i2 ⊢; exact i2,zom,by(try simp only[rAV]); omega⟩,by show f.ts.length - (i+1)<f.ts.length - i; omega⟩,[_,_,_,_],[],[],[],ttt,⟨zAC rfl rfl,(apy rfl),(apy rfl),(apy rfl),zA3 zdd rfl rfl,zAJ rfl rfl,zAC rfl zom,rGU⟩,⟨bbx,bbx,bbx,zAF zdd rfl rfl (zA8 _) rfl,rGU⟩,by simp[ren,grH]⟩
   .have hne:¬ f.ts[i]!.1=v:=‹¬ (tQ f.ts[i]!).var=v›
    have hle:¬ v<f.ts[i]!.1:=h;refine zBU (r:=0) (zBJ O f.ts[i]!.1 f.ts[i]!.2 _ hp zom (by(try simp only[rAV]); omega)) rfl rfl rfl rfl (zFW (zA8 _)) ?_;refine sts ?_;have nl:=zBO f.ts[i]!.1 f.ts[i]!.2;exact⟨(i+1,O++nzq f.ts[i]!.1 f.ts[i]!.2,true,false),⟨⟨zsm,by rw[hdrop]at i2; simp only[vCR,hne,hle,rDC,rCM,Bool.or_self,and_false,rCL,List.nil_append]at i2; rw[rBB]; exact i2,zom,by(try simp only[rAV]); omega⟩,by show f.ts.length - (i+1)<f.ts.length - i; omega⟩,[_,_,_,_],[],[],[],ttt,⟨zAC rfl rfl,(apy rfl),(apy rfl),(apy rfl),zA3 zdd rfl rfl,zAJ rfl rfl,zAC rfl zom,rGU⟩,⟨bbx,bbx,bbx,zAF zdd rfl rfl (zA8 _) rfl,rGU⟩,by simp[ren,grH]⟩
   all_goals (exfalso; omega)
  ·(repeat' (first|refine stp ?_|with_reducible(refine brr ?_ ?_<;>intro h)));all_goals try(conv=>whnf)
   all_goals try (exfalso; omega)
   have hN:vCR v c (f.ts.drop i) false=nzq v c:=by rw[rC1 zom]; rfl
   rw[hN]at i2;refine zAA cc rfl ?_;refine sts ?_;refine zBU (r:=0) (zBJ O v c _ hc zom (by(try simp only[rAV]); omega)) rfl rfl rfl rfl (zFW (zA8 _)) ?_;refine sts ?_;subst i2;exact zAB (zBZ (zAD (zAI rfl rfl rfl (fun x=>zII x)) rfl)) rfl
 .by_cases hi:i<f.ts.length
  .have hdrop:f.ts.drop i=f.ts[i]! :: f.ts.drop (i+1):=by rw[rBT hi,rAT f.ts i hi]
   have hp:=hf.2 f.ts[i]! (by rw[rAT f.ts i hi]; exact rB3 hi);have hpc:=zG9 hp hc;have lp:=zBM hp;have ca:=zLY (cr f.ts[i]!.2) (cr c) (zBE _) (zBE _) zom zom zom zom;rw[zBW,zBW]at ca
   (repeat' (first|refine stp ?_|with_reducible(refine brr ?_ ?_<;>intro h)));all_goals try(conv=>whnf)
   .have hv:f.ts[i]!.1=v:=h
    refine zAA ca rfl ?_;refine sts ?_;refine zBU (r:=0) (zBJ O f.ts[i]!.1 (f.ts[i]!.2+c) _ hpc zom (by(try simp only[rAV]); omega)) rfl rfl rfl rfl (zFW (zA8 _)) ?_;refine sts ?_;have nl:=zBO f.ts[i]!.1 (f.ts[i]!.2+c);exact⟨(i+1,O++nzq f.ts[i]!.1 (f.ts[i]!.2+c),true,true),⟨⟨zsm,by rw[hdrop]at i2; simp only[vCR,hv,rDG,rDE,rDL,rC7,rE7,rCL,rCI,List.nil_append]at i2; rw[hv]; rw[rBB]; exact i2,zom,by(try simp only[rAV]); omega⟩,by show f.ts.length - (i+1)<f.ts.length - i; omega⟩,[_,_,_,_],[],[],[],ttt,⟨zAC rfl rfl,(apy rfl),(apy rfl),(apy rfl),zA3 zdd rfl rfl,zAJ rfl rfl,zAC rfl zom,rGU⟩,⟨bbx,bbx,bbx,zAF zdd rfl rfl (zA8 _) rfl,rGU⟩,by simp[ren,grH]⟩
   .have hne:¬ f.ts[i]!.1=v:=‹¬ (tQ f.ts[i]!).var=v›
    refine zBU (r:=0) (zBJ O f.ts[i]!.1 f.ts[i]!.2 _ hp zom (by(try simp only[rAV]); omega)) rfl rfl rfl rfl (zFW (zA8 _)) ?_;refine sts ?_;have nl:=zBO f.ts[i]!.1 f.ts[i]!.2;exact⟨(i+1,O++nzq f.ts[i]!.1 f.ts[i]!.2,true,true),⟨⟨zsm,by rw[hdrop]at i2; simp only[vCR,hne,rDC,rDL,rC7,rE7,rCL,List.nil_append]at i2; rw[rBB]; exact i2,zom,by(try simp only[rAV]); omega⟩,by show f.ts.length - (i+1)<f.ts.length - i; omega⟩,[_,_,_,_],[],[],[],ttt,⟨zAC rfl rfl,(apy rfl),(apy rfl),(apy rfl),zA3 zdd rfl rfl,zAJ rfl rfl,zAC rfl zom,rGU⟩,⟨bbx,bbx,bbx,zAF zdd rfl rfl (zA8 _) rfl,rGU⟩,by simp[ren,grH]⟩
   all_goals (exfalso; omega)
  ·(repeat' (first|refine stp ?_|with_reducible(refine brr ?_ ?_<;>intro h)));all_goals try(conv=>whnf)
   all_goals try (exfalso; omega)
   have hN:vCR v c (f.ts.drop i) true=[]:=by rw[rC1 zom]; rfl
   rw[hN]at i2;rw[rBQ]at i2;subst i2;exact zAB (zBZ (zAD (zAI rfl rfl rfl (fun x=>zII x)) rfl)) rfl
theorem vUZ{c:Rat}{ts:List QT}{i:Nat}(hi:i<ts.length):vF6 c (ts.drop i)=nzq ts[i]!.1 (ts[i]!.2 * c)++vF6 c (ts.drop (i+1)):=by
 unfold vF6; rw[rBT hi,List.flatMap_cons,rAT ts i hi]
theorem vWE:FO 147 Tryz.f147 [.cell 4 46] 39:=mkO Tryz.func147 Tryz.ntmps147 Tryz.results147
theorem vQG(f:QF)(c:Rat)(kf kc:Nat)(hf:szF kf f)(hc:sz kc c)(hk:kf+kc<=949999990)(hl:f.ts.length<=2097150):Fn 147 [vBP f,vA5 (cr c)] (.data (vBP (vER f c))):=by
 obtain⟨M,hM⟩:∃ M,vF6 c f.ts=M:=⟨_,rfl⟩;have lf:=zBM hf.1;have lc:=zBM hc;have cm0:=vZI (cr f.c) (cr c) (zBE _) (zBE _) zom zom zom zom;rw[zBW,zBW]at cm0;unfold vER;obtain⟨C,hC⟩:∃ C,f.c * c=C:=⟨_,rfl⟩;rw[hC]at cm0;rw[hM,hC];refine zAL vBC hT vWE (by simp[vBP]) ?_;refine sts ?_;refine zAA cm0 rfl ?_;refine sts ?_
 refine zAN hT (fun((i,O,s):Nat×List QT×Bool)=>[(2,.ptr 1 0 0),(3,.ptr 2 0 0),(4,.ptr 3 0 0),(5,.ptr 4 0 0),(6,.int .i64 i)])
  (fun(i,O,s)=>(1,⟨[vBP f],4,true⟩)::(2,⟨[vA5 (cr c)],3,true⟩)::(3,⟨[uAR],4,true⟩)::(4,⟨[grF s O.length C],4,true⟩)::grH s O) [] 5
  (fun(i,O,s)=>(s=false->O=[])/\O++vF6 c (f.ts.drop i)=M/\i<=f.ts.length/\O.length<=i)
  (fun(i,_)=>f.ts.length - i) (0,[],false) ⟨fun _=>rfl,hM,rA7 _,zsm⟩ zdd zsm ?_ ?_
 .exact⟨[0,_,_,_,_],[],[],[],ttt,⟨(apy rfl),(apy rfl),(apy rfl),(apy rfl),zAC rfl rfl,rGU⟩,
   ⟨bbx,bbx,bbx,bbx,rGU⟩,by simp[ren,grH]⟩
 intro⟨i,O,s⟩ ⟨i1,i2,i3,i4⟩;by_cases hi:i<f.ts.length
 .have hp:=hf.2 f.ts[i]! (by rw[rAT f.ts i hi]; exact rB3 hi)
  have hpc:=zFR hp hc;have lp:=zBM hp;have cm:=vZI (cr f.ts[i]!.2) (cr c) (zBE _) (zBE _) zom zom zom zom;rw[zBW,zBW]at cm;have nl:=zBO f.ts[i]!.1 (f.ts[i]!.2 * c);rw[vUZ hi]at i2;cases s
  ·refine gob ?_ ?_<;>intro h
   .refine zAA cm rfl ?_
    refine sts ?_;refine zCB (zB4 f.ts[i]!.1 (f.ts[i]!.2 * c) _ hpc zom) rfl ?_;refine sts ?_
    exact⟨(i+1,nzq f.ts[i]!.1 (f.ts[i]!.2 * c),true),⟨⟨zsm,by rw[i1 rfl,List.nil_append]at i2; exact i2,zom,zom⟩,by show f.ts.length - (i+1)<f.ts.length - i; omega⟩,[_,_,_,_,_],[],[],[],ttt,
     ⟨(apy rfl),(apy rfl),(apy rfl),(apy rfl),zAC rfl zom,rGU⟩,
     ⟨bbx,bbx,bbx,zAH zdd rfl ⟨⟨zdd,rfl⟩,rfl,rfl,rfl,rGU⟩ rfl rfl,zAF zdd rfl rfl (zA8 _) rfl,rGU⟩,by simp[ren,grH]⟩
   all_goals (exfalso; omega)
  ·refine gob ?_ ?_<;>intro h
   .refine zAA cm rfl ?_
    refine sts ?_;refine zBU (r:=0) (zBJ O f.ts[i]!.1 (f.ts[i]!.2 * c) _ hpc zom zom) rfl rfl rfl rfl (zFW (zA8 _)) ?_;refine sts ?_
    exact⟨(i+1,O++nzq f.ts[i]!.1 (f.ts[i]!.2 * c),true),⟨⟨zsm,by rw[rBB]; exact i2,zom,by rw[rAV]; omega⟩,by show f.ts.length - (i+1)<f.ts.length - i; omega⟩,[_,_,_,_,_],[],[],[],ttt,
     ⟨(apy rfl),(apy rfl),(apy rfl),(apy rfl),zAC rfl zom,rGU⟩,
     ⟨bbx,bbx,bbx,zAH zdd rfl ⟨⟨zdd,rfl⟩,rfl,rfl,rfl,rGU⟩ rfl rfl,zAF zdd rfl rfl (zA8 _) rfl,rGU⟩,by simp[ren,grH]⟩
   all_goals (exfalso; omega)
 .rw[rC1 zom,show vF6 c []=[] from rfl,rBQ]at i2
  subst i2;cases s
  .rw[i1 rfl]
   refine gob ?_ ?_<;>intro h
   all_goals try (exfalso; omega)
   exact rGV
  ·refine gob ?_ ?_<;>intro h
   all_goals try (exfalso; omega)
   exact zAB (zBZ (zAD (zAI rfl rfl rfl (fun x=>zII x)) rfl)) rfl
theorem vJN{v:Int}{c:Rat}:∀ {l:List QT} {d:Bool},(vCR v c l d).length<=l.length+(if d then 0 else 1)
 | [],d=>by
   simp only[vCR]
   split
   .simp
   .have:=zBO v c; omega
 | t::l,d=>by
   have nl1:=zBO v c;have nl2:=zBO t.1 (if t.1=v then t.2+c else t.2);have ih:=vJN (v:=v) (c:=c) (l:=l) (d:=((d || decide (t.1=v)) || decide (v<t.1)));simp only[vCR,rAV,List.length_cons];by_cases hA:(d || decide (t.1=v))=false/\v<t.1
   .rw[rAU hA]
    have hd:d=false:=by have:=hA.1; cases d<;>simp_all
    have hx:((d || decide (t.1=v)) || decide (v<t.1))=true:=by simp[hA.2]
    rw[hx]at ih ⊢;subst hd;simp at ih ⊢;omega
   .rw[rAM hA]
    have:(if ((d || decide (t.1=v)) || decide (v<t.1))=true then 0 else 1)<=(if d=true then 0 else 1):=by cases d<;>simp<;>split<;>omega
    simp only[List.length_nil];omega
theorem uHM{c:Rat}{k kc:Nat}(hc:sz kc c){l:List QT}(h:∀ p∈l,sz k p.2):∀ r∈vF6 c l,sz (k+kc) r.2:=fun r hr=>by
 unfold vF6 at hr;obtain⟨t,ht,hr⟩:=rER.1 hr;rw[zLP hr]; exact zFR (h t ht) hc
theorem vOA{c:Rat}:∀ {l:List QT},(vF6 c l).length<=l.length
 | []=>rAR _
 | t::l=>by
   have:=zBO t.1 (t.2 * c);have:=vOA (c:=c) (l:=l);unfold vF6 at *
   rw[List.flatMap_cons,rAV,List.length_cons]; omega
theorem vU1{f:QF}{c:Rat}{k kc:Nat}(hf:szF k f)(hc:sz kc c):szF (k+kc) (vER f c):=⟨zFR hf.1 hc,uHM hc hf.2⟩
end Go.PI.Tryz
