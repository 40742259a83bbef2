/-
  The reference: affine forms: Scale, Add, Sub, Make.
-/
import Derived.Test.YtcbepncdbgaohaaGreatDoorCC0
set_option linter.all false
set_option maxHeartbeats 0
namespace Go.PI.Tryz
open Go.Proofs Go.PI Go.Proofs.Tryz
variable {l:List AffL}
def CB{j n:Nat}{p:Nat->Prop}(h:∀ j,j<n->p j)(hn:p n)(hj:j<n+1):p j:=by
 rcases Ae (Ah hj) with hj|rfl
 .exact h j hj
 .exact hn
def nT{α:Type}[Inhabited α]{l:List α}{i:Nat}(h:i<l.length):l[i]! ∈ l:=by rw[zS l i h];exact wA h
instance:LawfulBEq AffL:=inferInstance
def Y9(l:List AffL)(n:Int):Prop:=∀ i,i<l.length->uQ l[i]! n
def vKG(l:List AffL)(m:Int)(hl:Kh 2147483596 l):Fn 207 [.imm (l.map x8),.int .i64 m] (.data (.bool (dB (Y9 l m)))):=by
 have l1:=hl.1;refine fnV (mkO func207 ntmps207 results207) ?_;refine rU hT (fun n:Nat=>[(0,.imm (l.map x8)),(1,.int .i64 m),(5,.int .i64 n)]) (fun n=>n<=l.length/\∀ j,j<n->uQ l[j]! m) (fun n=>l.length-n) 0 ⟨zom,fun j hj=>by omega⟩ ?_ ?_
 .exact⟨zM,zD,zD,zA⟩
 intro n ⟨hn,he⟩;by_cases hi:n<l.length
 .have cc:=X4 l[n]! m (hl.2 _ (nT hi))
  refine gob ?_ ?_<;>intro h
  .refine zT cc rfl ?_
   refine gob ?_ ?_<;>intro h
   .exact⟨n+1,⟨⟨zom,fun j hj=>CB (p:=fun j=>uQ l[j]! m) he (validB_true.1 xU) hj⟩,zom⟩,zM,zD,zG rfl zom,zA⟩
   .exact zL rfl (zV PV.bool (aO fun e=>by have:=validB_true.2 (e n hi);simp_all))
  all_goals (exfalso;omega)
 ·refine gob ?_ ?_<;>intro h
  all_goals try omega
  exact zL rfl (zV PV.bool (fP fun j hj=>he j zom))
def ixP(p:AffL->Bool)(l:List AffL):Int:=if l.any p then(l.findIdx p:Nat) else -1
def uTS{p:AffL->Bool}  {i:Nat}(hi:i<l.length)(h:p l[i]! = true)(hb:∀ j,j<i->p l[j]! = false):(i:Int)=ixP p l:=by
 have h1:l.any p=true:=EF.2 ⟨_,nT hi,h⟩;have h2:l.findIdx p=i:=(List.findIdx_eq hi).2 ⟨by rw[zS l i hi]at h;exact h,fun j hj=>by have:=hb j hj;rw[zS l j zom]at this;exact this⟩;unfold ixP;rw[zE h1,h2]
def uTT{p:AffL->Bool}  (hb:∀ j,j<l.length->p l[j]! = false):-1=ixP p l:=by
 have h1:¬ l.any p=true:=fun e=>by
  obtain⟨x,hx,e⟩:=EF.1 e;obtain⟨j,hj,rfl⟩:=uE hx;have:=hb j hj;rw[zS l j hj,e]at this;cases this
 unfold ixP;rw[zB h1]
def uW8{p:AffL->Bool}  : decide (ixP p l>=0)=l.any p:=by
 unfold ixP;split
 .rename_i h;rw[h];simp
 .rename_i h;simp at h;simp;exact h
def uTU{p:AffL->Bool}  : -1<=ixP p l/\ixP p l<=l.length:=by
 unfold ixP;split
 .have:=UC (p:=p) (xs:=l);omega
 .omega
def uHW(l:List AffL)(p:AffL->Bool)(g:FuncId)(c:PV)(hl:l.length<=1048576)(hp:∀ f∈l,Fn g [x8 f,.cptr c 0] (.data (.bool (p f)))):Fn 174 [.imm (l.map x8),.func (.func g) [] [.cptr c 0]] (.data (.int .i64 (ixP p l))):=by
 refine fnV (mkO func174 ntmps174 results174) ?_;refine rU hT (fun n:Nat=>[(0,.imm (l.map x8)),(1,.func (.func g) [] [.cptr c 0]),(7,.int .i64 l.length),(8,.int .i64 n)]) (fun n=>n<=l.length/\∀ j,j<n->p l[j]! = false) (fun n=>l.length-n) 0 ⟨zom,fun j hj=>by omega⟩ ?_ ?_
 .exact⟨zM,WM rfl,zG rfl zsm,zD,zA⟩
 intro n ⟨hn,he⟩;by_cases hi:n<l.length
 .have cc:=hp l[n]! (nT hi)
  refine gob ?_ ?_<;>intro h
  .refine zT cc rfl ?_
   refine gob ?_ ?_<;>intro h
   .exact zL rfl (zV (PV.int .i64) (uTS hi h he))
   .exact⟨n+1,⟨⟨zom,fun j hj=>CB (p:=fun j=>p l[j]! = false) he (by simpa using h) hj⟩,zom⟩,zM,WM rfl,zD,zG rfl zom,zA⟩
  all_goals (exfalso;omega)
 ·refine gob ?_ ?_<;>intro h
  all_goals try omega
  exact zL rfl (zV (PV.int .i64) (uTT fun j hj=>he j zom))
def RG(l:List AffL)(p:AffL->Bool)(g:FuncId)(c:PV)(hl:l.length<=1048576)(hp:∀ f∈l,Fn g [x8 f,.cptr c 0] (.data (.bool (p f)))):Fn 99 [.imm (l.map x8),.func (.func g) [] [.cptr c 0]] (.data (.bool (l.any p))):=by
 have cc:=uHW l p g c hl hp;have hg:=uTU (p:=p) (l:=l);refine fnV (mkO func99 ntmps99 results99) ?_;refine cvd cc ?_;exact zL rfl (zV PV.bool uW8)
def uHT(f:QF)(x:List RatL)(k kx:Nat)(hf:szF k f)(hkx:1<=kx)(hx:∀ q∈x,okQ kx q)(hv:∀ p∈f.ts,0<=p.1/\p.1<x.length)(hk:k+f.ts.length*(k+kx+1)+k+kx<=949999990)(hl:f.ts.length<=1048576)(hxl:x.length<=1048576):Fn 101 [zP f,.imm (x.map zR)] (.data (.tup [zR (cr (evQ f (x.map qv))),.int .i64 0])):=by
 refine yJ zU hT Xn (by simp[zP]) (sts ?_)
 refine xG hT (fun((i,y):Nat×Rat)=>[(1,.imm (x.map zR)),(4,.ptr 0 0 0),(6,.ptr 1 0 0),(12,.imm (f.ts.map uY)),(13,.int .i64 f.ts.length),(14,.int .i64 i)])
  (fun(_,y)=>[(0,⟨[.agg [.bool false,.nilsl,.nilsl]],3,true⟩),(1,⟨[zR (cr y)],3,true⟩)]) [] 2
  (fun(i,y)=>i<=f.ts.length/\y=ev1 (x.map qv) (f.ts.take i) f.c/\sz (k+i*(k+kx+1)) y) (fun(i,_)=>f.ts.length-i) (0,f.c) ⟨z8 _,rfl,by simpa using hf.1⟩ zdd zsm ?_ ?_
 .exact⟨[_,_],[],[],[],ttt,⟨xI rfl rfl,(apy rfl),(apy rfl),xI rfl rfl,zG rfl zsm,zG rfl rfl,zA⟩,
   ⟨bbx,bbx,zA⟩,zO⟩
 intro⟨i,y⟩ ⟨i1,i2,i3⟩;by_cases hi:i<f.ts.length
 .have hmem:f.ts[i]! ∈ f.ts:=by rw[zS f.ts i hi];exact wA hi
  have hvi:=hv _ hmem;have hp:=hf.2 _ hmem;have hj:f.ts[i]!.1.toNat<x.length:=zom
  have hxm:x[f.ts[i]!.1.toNat]! ∈ x:=by rw[zS x _ hj];exact wA hj
  have hxo:=hx _ hxm;have hxi:=kT hxo.1 hxo.2.1 hxo.2.2 hkx;have hxg:(x.map qv)[f.ts[i]!.1.toNat]! = qv x[f.ts[i]!.1.toNat]! := vMV hj;have hm:=q9 hp hxi;have hmul:(i+1)*(k+kx+1)<=f.ts.length*(k+kx+1):=vK _ zom;rw[w6]at hmul;have l1:=yO hp;have l2:=hxo.2;have l3:=yO hm;have l4:=yO i3;have cm:=gD (cr f.ts[i]!.2) x[f.ts[i]!.1.toNat]! (yH _) hxo.1 zom zom zom zom;rw[yC]at cm;have ca:=Bq (cr y) (cr (f.ts[i]!.2*qv x[f.ts[i]!.1.toNat]!)) (yH _) (yH _) zom zom zom zom;rw[yC,yC]at ca;have hsz:=xV (show k+i*(k+kx+1)+(k+kx)+1<=k+(i+1)*(k+kx+1) by rw[w6];omega) (pU i3 hm);have hy:ev1 (x.map qv) (f.ts.take (i+1)) f.c=y+f.ts[i]!.2*qv x[f.ts[i]!.1.toNat]! := by rw[WB (x.map qv) f.ts f.c i hi,i2,hxg]
  (refine gob ?_ ?_<;>intro h;refine gob ?_ ?_<;>intro h;rotate_left;refine gob ?_ ?_<;>intro h;rotate_right)
  .exact absurd h (show ¬ f.ts[i]!.1<0 by omega)
  .exact absurd h (show ¬ f.ts[i]!.1>=(x.length:Int) by omega)
  .refine wP (j:=f.ts[i]!.1.toNat) (show f.ts[i]!.1=_ by omega) hj ?_
   refine sts ?_;refine cvd cm ?_;refine cvd ca ?_
   exact⟨(i+1,y+f.ts[i]!.2*qv x[f.ts[i]!.1.toNat]!),⟨⟨zom,hy.symm,hsz⟩,zbo⟩,[0,1],[],[],[],ttt,⟨zM,apx,apx,zM,zD,zG rfl zom,zA⟩,
    ⟨bbx,bbx,zA⟩,zO⟩
  .exact absurd (show(i:Int)<f.ts.length by omega) h
 .have hmul:i*(k+kx+1)<=f.ts.length*(k+kx+1):=vK _ zom
  have e:y=evQ f (x.map qv):=by rw[i2,uT zom];rfl
  have l4:=yO i3;have cc:=bD (cr y) (yH _) zom zom;rw[yC]at cc
  (refine gob ?_ ?_<;>intro h;refine gob ?_ ?_<;>intro h;rotate_left;refine gob ?_ ?_<;>intro h;rotate_right)
  all_goals try omega
  refine cvd cc ?_;subst e;exact yD
def uU6(x y:RatL)(k:Nat)(hx:okQ k x)(hy:okQ k y)(hk:k<=949999990):Fn 175 [zR x,zR y] (.data (zR (cr (fQ (qv x) (qv y))))):=by
 have hx2:=hx.2;have hy2:=hy.2;have cc:=DX x y hx.1 hy.1 zom zom zom zom;have c1:=bD x hx.1 zom zom;have c2:=bD y hy.1 zom zom;have hs:=sgn_ge (a:=qv x) (b:=qv y);refine yJ zU hT (mkO func175 ntmps175 results175) (by simp[zR]) (sts ?_);refine zT cc rfl ?_
 refine gob ?_ ?_<;>intro h
 .refine cvd c1 ?_
  rw[show fQ (qv x) (qv y)=qv x from zE (hs.1 zom)];exact yD
 .refine cvd c2 ?_
  rw[show fQ (qv x) (qv y)=qv y from zB (fun e=>by have:=hs.2 e;omega)];exact yD
def uHK(p:ProgL)(hp:okP 2147483596 p):Fn 45 [HY p] (.data (.bool (Et p))):=by
 obtain⟨ho,hr,hl⟩:=hp;have cv:=DY p.obj p.vars ho;have bad:¬ Hg p->false=Et p:=fun h=>(validPB_false.2 h).symm
 refine yJ zU hT (mkO func45 ntmps45 results45) (by simp[HY]) ?_
 (refine gob ?_ ?_<;>intro h;rotate_left;refine gob ?_ ?_<;>intro h;rotate_left;refine gob ?_ ?_<;>intro h;rotate_right;rotate_right)
 .exact zL rfl (zV PV.bool (bad fun e=>by have:=e.1.1;omega))
 .exact zL rfl (zV PV.bool (bad fun e=>by have:=e.1.2;omega))
 .exact zL rfl (zV PV.bool (bad fun e=>by have:=e.2.1;omega))
 .refine zT cv rfl ?_
  refine gob ?_ ?_<;>intro h
  rotate_left
  .exact zL rfl (zV PV.bool (bad fun e=>by have:=validB_true.2 e.2.2.1;simp_all))
  have h0:(0<=p.vars/\p.vars<=1280)/\p.rows.length<=4096:=⟨⟨zom,zom⟩,zom⟩;have h1:uQ p.obj p.vars:=validB_true.1 xU
  refine xG hT (fun(i:Nat)=>[(1,.ptr 0 0 0),(28,.imm (p.rows.map x8)),(29,.int .i64 p.rows.length),(30,.int .i64 i)]) (fun _=>[(0,⟨[HY p],6,true⟩)]) [] 1
   (fun i=>i<=p.rows.length/\∀ j,j<i->uQ p.rows[j]! p.vars) (fun i=>p.rows.length-i) 0 ⟨z8 _,fun j h=>zom⟩ zdd zsm ?_ ?_
  .exact⟨[0],[],[],[],ttt,⟨apx,zM,zG rfl zsm,zD,zA⟩,⟨bbx,zA⟩,zO⟩
  intro i ⟨i1,i2⟩;by_cases hi:i<p.rows.length
  .have cr':=DY p.rows[i]! p.vars (uNY ⟨ho,hr,hl⟩ hi)
   refine gob ?_ ?_<;>intro h
   .refine zT cr' rfl ?_
    refine gob ?_ ?_<;>intro h
    .refine⟨i+1,⟨⟨zom,fun j hj=>?_⟩,zbo⟩,[0],[],[],[],ttt,⟨apx,zM,zD,zG rfl zom,zA⟩,⟨bbx,zA⟩,zO⟩
     rcases Ae (Ah hj) with hj|rfl
     .exact i2 j hj
     .exact validB_true.1 xU
    .exact zL rfl (zV PV.bool (bad fun e=>by have:=validB_true.2 (e.2.2.2 i hi);simp_all))
   all_goals (exfalso;omega)
  ·refine gob ?_ ?_<;>intro h
   all_goals try omega
   exact zL rfl (zV PV.bool (validPB_true.2 ⟨h0.1,h0.2,h1,fun j hj=>i2 j zom⟩).symm)
def Lf(O:List QT):A8 (nQ O) (.own 0 0 O.length):=zF ⟨fun x hx=>by simp[dN]at hx;left;simp[hx,nQ],by simp[dN,nQ]⟩
def ZA:FO 111 f111 [.tmp 4] 14:=mkO func111 ntmps111 results111
def AP(O:List QT)(v:Int)(q:Rat)(k:Nat)(hq:sz k q)(hk:k<=2147483596)(hO:O.length<4194304):Fn 111 [.own 0 0 O.length,uY (v,q)] (.own (some (nQ O)) (.own 0 0 (O++nzq v q).length) (nQ (O++nzq v q))):=by
 have hl:=yO hq;have cs:=IW (cr q) (yH q) zom;rw[yC]at cs;refine Vb zU hT ZA zsm (sts ?_);refine zT cs rfl ?_
 refine gob ?_ ?_<;>intro h
 .rw[show q=0 from sgnQ_zero.1 h,Kb,mV]
  exact BU (r:=0) rfl rfl rfl rfl (fun e he=>(wQ _ e he).1) (Lf _)
 .rw[Em fun e=>h (sgnQ_zero.2 e)]
  refine jU ⟨rfl,by simp[nQ],yE⟩ (sts ?_);refine BU (r:=10) ?_ rfl ?_ rfl (fun e he=>(wQ _ e he).1) (Lf _)
  .simp[rk,rk1]
  .simp[nQ,uY,mI,tQ]
def Di(v:Int)(q:Rat)(k:Nat)(hq:sz k q)(hk:k<=2147483596):Fn 111 [.nilsl,uY (v,q)] (.own none (.own 0 0 (nzq v q).length) (nQ (nzq v q))):=by
 have hl:=yO hq;have cs:=IW (cr q) (yH q) zom;rw[yC]at cs;refine KG zU hT ZA zsm (sts ?_);refine zT cs rfl ?_
 refine gob ?_ ?_<;>intro h
 .rw[show q=0 from sgnQ_zero.1 h,Kb]
  exact Va rfl rfl (Lf [])
 .rw[Em fun e=>h (sgnQ_zero.2 e)]
  refine BU (r:=10) ?_ rfl ?_ rfl (fun e he=>(wQ _ e he).1) (Lf _)
  .simp[rk,rk1]
  .simp[uY,mI,tQ]
def grS:Bool->Nat->PV
 |true,n=>.own 0 0 n
 |false,_=>.nilsl
set_option maxHeartbeats 1000000 in
def ZB(f:QF)(v:Int)(c:Rat)(kf kc:Nat)(hf:szF kf f)(hc:sz kc c)(hk:kf<=949999990/\kc<=949999990)(hl:f.ts.length<=2097150):Fn 109 [zP f,.int .i64 v,zR (cr c)] (.data (zP (WA f v c))):=by
 obtain⟨M,hM⟩:∃ M,wZ v c f.ts false=M:=⟨_,rfl⟩;unfold WA;rw[hM];have lc:=yO hc;have cc:=QO (cr c) (yH _) zom zom;rw[yC]at cc;refine yJ zU hT (mkO func109 ntmps109 results109) (by simp[zP]) (sts ?_)
 refine xG hT (fun((i,O,s,d):Nat×List QT×Bool×Bool)=>[(1,.int .i64 v),(3,.ptr 1 0 0),(5,.ptr 2 0 0),(6,.ptr 3 0 0),(7,grS s O.length),(8,.bool d),(9,.int .i64 i)])
  (fun(i,O,s,d)=>(1,⟨[zP f],4,true⟩)::(2,⟨[zR (cr c)],3,true⟩)::(3,⟨[IP],4,true⟩)::grH s O) [] 4
  (fun(i,O,s,d)=>(s=false->O=[])/\O++wZ v c (f.ts.drop i) d=M/\i<=f.ts.length/\O.length<=2*i)
  (fun(i,_)=>f.ts.length-i) (0,[],false,false) ⟨fun _=>rfl,hM,z8 _,zsm⟩ zdd zsm ?_ ?_
 .exact⟨[0,_,_,_],[],[],[],ttt,⟨zG rfl rfl,(apy rfl),(apy rfl),(apy rfl),jW rfl,wU rfl rfl,zG rfl rfl,zA⟩,
   ⟨bbx,bbx,bbx,zA⟩,by simp[ren,grH]⟩
 intro⟨i,O,s,d⟩ ⟨i1,i2,i3,i4⟩;cases s<;>cases d
 .by_cases hi:i<f.ts.length
  .have hdrop:f.ts.drop i=f.ts[i]! :: f.ts.drop (i+1):=by rw[kI hi,zS f.ts i hi]
   have hp:=hf.2 f.ts[i]! (by rw[zS f.ts i hi];exact wA hi);have hpc:=pU hp hc;have lp:=yO hp;have ca:=aY (cr f.ts[i]!.2) (cr c) (yH _) (yH _) zom zom zom zom;rw[yC,yC]at ca
   (refine gob ?_ ?_<;>intro h;refine gob ?_ ?_<;>intro h;rotate_left;refine gob ?_ ?_<;>intro h;rotate_right)
   .have hv:f.ts[i]!.1=v:=h
    refine cvd ca ?_;refine lI (Di f.ts[i]!.1 (f.ts[i]!.2+c) _ hpc zom) rfl (sts ?_);have nl:=tK f.ts[i]!.1 (f.ts[i]!.2+c);exact⟨(i+1,nzq f.ts[i]!.1 (f.ts[i]!.2+c),true,true),⟨⟨zsm,by rw[hdrop]at i2;simp only[wZ,hv,fA,gZ,gY,Ag,Ar,tE,uA,List.nil_append]at i2;rw[hv];rw[i1 rfl,List.nil_append]at i2;exact i2,zom,by(try simp only[xR]);omega⟩,zbo⟩,[_,_,_,_],[],[],[],ttt,⟨zG rfl rfl,(apy rfl),(apy rfl),(apy rfl),zI zdd rfl rfl,wU rfl rfl,zG rfl zom,zA⟩,⟨bbx,bbx,bbx,zH zdd rfl rfl (wQ _) rfl,zA⟩,by simp[ren,grH]⟩
   .have hv:v<f.ts[i]!.1:=h
    have hne:¬ f.ts[i]!.1=v:=zom
    refine cvd cc ?_;refine lI (Di v c _ hc zom) rfl (sts ?_);have nl1:=tK v c;have nl2:=tK f.ts[i]!.1 f.ts[i]!.2;refine qY (r:=33) (AP (nzq v c) f.ts[i]!.1 f.ts[i]!.2 _ hp zom (by(try simp only[xR]);omega)) rfl rfl rfl rfl (rT (wQ _)) ?_;refine sts ?_;exact⟨(i+1,nzq v c++nzq f.ts[i]!.1 f.ts[i]!.2,true,true),⟨⟨zsm,by rw[hdrop]at i2;simp only[wZ,hne,hv,iL,fA,nW,gZ,and_self,tE,uA]at i2;rw[i1 rfl,List.nil_append]at i2;exact i2,zom,by(try simp only[xR]);omega⟩,zbo⟩,[_,_,_,_],[],[],[],ttt,⟨zG rfl rfl,(apy rfl),(apy rfl),(apy rfl),zI zdd rfl rfl,wU rfl rfl,zG rfl zom,zA⟩,⟨bbx,bbx,bbx,zH zdd rfl rfl (wQ _) rfl,zA⟩,by simp[ren,grH]⟩
   .have hne:¬ f.ts[i]!.1=v:=‹¬ (tQ f.ts[i]!).var=v›
    have hle:¬ v<f.ts[i]!.1:=h;refine lI (Di f.ts[i]!.1 f.ts[i]!.2 _ hp zom) rfl (sts ?_);have nl:=tK f.ts[i]!.1 f.ts[i]!.2;exact⟨(i+1,nzq f.ts[i]!.1 f.ts[i]!.2,true,false),⟨⟨zsm,by rw[hdrop]at i2;simp only[wZ,hne,hle,iL,nW,Bool.or_self,and_false,tE,List.nil_append]at i2;rw[i1 rfl,List.nil_append]at i2;exact i2,zom,by(try simp only[xR]);omega⟩,zbo⟩,[_,_,_,_],[],[],[],ttt,⟨zG rfl rfl,(apy rfl),(apy rfl),(apy rfl),zI zdd rfl rfl,wU rfl rfl,zG rfl zom,zA⟩,⟨bbx,bbx,bbx,zH zdd rfl rfl (wQ _) rfl,zA⟩,by simp[ren,grH]⟩
   all_goals (exfalso;omega)
  ·(refine gob ?_ ?_<;>intro h;refine gob ?_ ?_<;>intro h;rotate_left;refine gob ?_ ?_<;>intro h;rotate_right)
   all_goals try omega
   have hN:wZ v c (f.ts.drop i) false=nzq v c:=by rw[bT zom];rfl
   rw[hN]at i2;refine cvd cc ?_;refine lI (Di v c _ hc zom) rfl (sts ?_);rw[i1 rfl,List.nil_append]at i2;subst i2;exact zL (lJ (yL (xP rfl rfl rfl (fun x=>DZ x)) rfl)) rfl
 .by_cases hi:i<f.ts.length
  .have hdrop:f.ts.drop i=f.ts[i]! :: f.ts.drop (i+1):=by rw[kI hi,zS f.ts i hi]
   have hp:=hf.2 f.ts[i]! (by rw[zS f.ts i hi];exact wA hi);have hpc:=pU hp hc;have lp:=yO hp;have ca:=aY (cr f.ts[i]!.2) (cr c) (yH _) (yH _) zom zom zom zom;rw[yC,yC]at ca
   (refine gob ?_ ?_<;>intro h;refine gob ?_ ?_<;>intro h)
   .have hv:f.ts[i]!.1=v:=h
    refine cvd ca ?_;refine lI (Di f.ts[i]!.1 (f.ts[i]!.2+c) _ hpc zom) rfl (sts ?_);have nl:=tK f.ts[i]!.1 (f.ts[i]!.2+c);exact⟨(i+1,nzq f.ts[i]!.1 (f.ts[i]!.2+c),true,true),⟨⟨zsm,by rw[hdrop]at i2;simp only[wZ,hv,fA,gZ,gY,Ag,Ar,tE,uA,List.nil_append]at i2;rw[hv];rw[i1 rfl,List.nil_append]at i2;exact i2,zom,by(try simp only[xR]);omega⟩,zbo⟩,[_,_,_,_],[],[],[],ttt,⟨zG rfl rfl,(apy rfl),(apy rfl),(apy rfl),zI zdd rfl rfl,wU rfl rfl,zG rfl zom,zA⟩,⟨bbx,bbx,bbx,zH zdd rfl rfl (wQ _) rfl,zA⟩,by simp[ren,grH]⟩
   .have hne:¬ f.ts[i]!.1=v:=‹¬ (tQ f.ts[i]!).var=v›
    refine lI (Di f.ts[i]!.1 f.ts[i]!.2 _ hp zom) rfl (sts ?_);have nl:=tK f.ts[i]!.1 f.ts[i]!.2;exact⟨(i+1,nzq f.ts[i]!.1 f.ts[i]!.2,true,true),⟨⟨zsm,by rw[hdrop]at i2;simp only[wZ,hne,iL,gY,Ag,Ar,tE,List.nil_append]at i2;rw[i1 rfl,List.nil_append]at i2;exact i2,zom,by(try simp only[xR]);omega⟩,zbo⟩,[_,_,_,_],[],[],[],ttt,⟨zG rfl rfl,(apy rfl),(apy rfl),(apy rfl),zI zdd rfl rfl,wU rfl rfl,zG rfl zom,zA⟩,⟨bbx,bbx,bbx,zH zdd rfl rfl (wQ _) rfl,zA⟩,by simp[ren,grH]⟩
   all_goals (exfalso;omega)
  ·(refine gob ?_ ?_<;>intro h;refine gob ?_ ?_<;>intro h)
   all_goals try omega
   have hN:wZ v c (f.ts.drop i) true=[]:=by rw[bT zom];rfl
   rw[hN]at i2;rw[mV]at i2;subst i2;rw[i1 rfl];exact yD
 .by_cases hi:i<f.ts.length
  .have hdrop:f.ts.drop i=f.ts[i]! :: f.ts.drop (i+1):=by rw[kI hi,zS f.ts i hi]
   have hp:=hf.2 f.ts[i]! (by rw[zS f.ts i hi];exact wA hi);have hpc:=pU hp hc;have lp:=yO hp;have ca:=aY (cr f.ts[i]!.2) (cr c) (yH _) (yH _) zom zom zom zom;rw[yC,yC]at ca
   (refine gob ?_ ?_<;>intro h;refine gob ?_ ?_<;>intro h;rotate_left;refine gob ?_ ?_<;>intro h;rotate_right)
   .have hv:f.ts[i]!.1=v:=h
    refine cvd ca ?_;refine qY (r:=0) (AP O f.ts[i]!.1 (f.ts[i]!.2+c) _ hpc zom (by(try simp only[xR]);omega)) rfl rfl rfl rfl (rT (wQ _)) ?_;refine sts ?_;have nl:=tK f.ts[i]!.1 (f.ts[i]!.2+c);exact⟨(i+1,O++nzq f.ts[i]!.1 (f.ts[i]!.2+c),true,true),⟨⟨zsm,by rw[hdrop]at i2;simp only[wZ,hv,fA,gZ,gY,Ag,Ar,tE,uA,List.nil_append]at i2;rw[hv];rw[tV];exact i2,zom,by(try simp only[xR]);omega⟩,zbo⟩,[_,_,_,_],[],[],[],ttt,⟨zG rfl rfl,(apy rfl),(apy rfl),(apy rfl),zI zdd rfl rfl,wU rfl rfl,zG rfl zom,zA⟩,⟨bbx,bbx,bbx,zH zdd rfl rfl (wQ _) rfl,zA⟩,by simp[ren,grH]⟩
   .have hv:v<f.ts[i]!.1:=h
    have hne:¬ f.ts[i]!.1=v:=zom
    refine cvd cc ?_;refine qY (r:=0) (AP O v c _ hc zom (by(try simp only[xR]);omega)) rfl rfl rfl rfl (rT (wQ _)) ?_;refine sts ?_;have nl1:=tK v c;have nl2:=tK f.ts[i]!.1 f.ts[i]!.2;refine qY (r:=33) (AP (O++nzq v c) f.ts[i]!.1 f.ts[i]!.2 _ hp zom (by(try simp only[xR]);omega)) rfl rfl rfl rfl (rT (wQ _)) ?_;refine sts ?_;exact⟨(i+1,O++nzq v c++nzq f.ts[i]!.1 f.ts[i]!.2,true,true),⟨⟨zsm,by rw[hdrop]at i2;simp only[wZ,hne,hv,iL,fA,nW,gZ,and_self,tE,uA]at i2;simp only[tV]at i2 ⊢;exact i2,zom,by(try simp only[xR]);omega⟩,zbo⟩,[_,_,_,_],[],[],[],ttt,⟨zG rfl rfl,(apy rfl),(apy rfl),(apy rfl),zI zdd rfl rfl,wU rfl rfl,zG rfl zom,zA⟩,⟨bbx,bbx,bbx,zH zdd rfl rfl (wQ _) rfl,zA⟩,by simp[ren,grH]⟩
   .have hne:¬ f.ts[i]!.1=v:=‹¬ (tQ f.ts[i]!).var=v›
    have hle:¬ v<f.ts[i]!.1:=h;refine qY (r:=0) (AP O f.ts[i]!.1 f.ts[i]!.2 _ hp zom (by(try simp only[xR]);omega)) rfl rfl rfl rfl (rT (wQ _)) ?_;refine sts ?_;have nl:=tK f.ts[i]!.1 f.ts[i]!.2;exact⟨(i+1,O++nzq f.ts[i]!.1 f.ts[i]!.2,true,false),⟨⟨zsm,by rw[hdrop]at i2;simp only[wZ,hne,hle,iL,nW,Bool.or_self,and_false,tE,List.nil_append]at i2;rw[tV];exact i2,zom,by(try simp only[xR]);omega⟩,zbo⟩,[_,_,_,_],[],[],[],ttt,⟨zG rfl rfl,(apy rfl),(apy rfl),(apy rfl),zI zdd rfl rfl,wU rfl rfl,zG rfl zom,zA⟩,⟨bbx,bbx,bbx,zH zdd rfl rfl (wQ _) rfl,zA⟩,by simp[ren,grH]⟩
   all_goals (exfalso;omega)
  ·(refine gob ?_ ?_<;>intro h;refine gob ?_ ?_<;>intro h;rotate_left;refine gob ?_ ?_<;>intro h;rotate_right)
   all_goals try omega
   have hN:wZ v c (f.ts.drop i) false=nzq v c:=by rw[bT zom];rfl
   rw[hN]at i2;refine cvd cc ?_;refine qY (r:=0) (AP O v c _ hc zom (by(try simp only[xR]);omega)) rfl rfl rfl rfl (rT (wQ _)) ?_;refine sts ?_;subst i2;exact zL (lJ (yL (xP rfl rfl rfl (fun x=>DZ x)) rfl)) rfl
 .by_cases hi:i<f.ts.length
  .have hdrop:f.ts.drop i=f.ts[i]! :: f.ts.drop (i+1):=by rw[kI hi,zS f.ts i hi]
   have hp:=hf.2 f.ts[i]! (by rw[zS f.ts i hi];exact wA hi);have hpc:=pU hp hc;have lp:=yO hp;have ca:=aY (cr f.ts[i]!.2) (cr c) (yH _) (yH _) zom zom zom zom;rw[yC,yC]at ca
   (refine gob ?_ ?_<;>intro h;refine gob ?_ ?_<;>intro h)
   .have hv:f.ts[i]!.1=v:=h
    refine cvd ca ?_;refine qY (r:=0) (AP O f.ts[i]!.1 (f.ts[i]!.2+c) _ hpc zom (by(try simp only[xR]);omega)) rfl rfl rfl rfl (rT (wQ _)) ?_;refine sts ?_;have nl:=tK f.ts[i]!.1 (f.ts[i]!.2+c);exact⟨(i+1,O++nzq f.ts[i]!.1 (f.ts[i]!.2+c),true,true),⟨⟨zsm,by rw[hdrop]at i2;simp only[wZ,hv,fA,gZ,gY,Ag,Ar,tE,uA,List.nil_append]at i2;rw[hv];rw[tV];exact i2,zom,by(try simp only[xR]);omega⟩,zbo⟩,[_,_,_,_],[],[],[],ttt,⟨zG rfl rfl,(apy rfl),(apy rfl),(apy rfl),zI zdd rfl rfl,wU rfl rfl,zG rfl zom,zA⟩,⟨bbx,bbx,bbx,zH zdd rfl rfl (wQ _) rfl,zA⟩,by simp[ren,grH]⟩
   .have hne:¬ f.ts[i]!.1=v:=‹¬ (tQ f.ts[i]!).var=v›
    refine qY (r:=0) (AP O f.ts[i]!.1 f.ts[i]!.2 _ hp zom (by(try simp only[xR]);omega)) rfl rfl rfl rfl (rT (wQ _)) ?_;refine sts ?_;have nl:=tK f.ts[i]!.1 f.ts[i]!.2;exact⟨(i+1,O++nzq f.ts[i]!.1 f.ts[i]!.2,true,true),⟨⟨zsm,by rw[hdrop]at i2;simp only[wZ,hne,iL,gY,Ag,Ar,tE,List.nil_append]at i2;rw[tV];exact i2,zom,by(try simp only[xR]);omega⟩,zbo⟩,[_,_,_,_],[],[],[],ttt,⟨zG rfl rfl,(apy rfl),(apy rfl),(apy rfl),zI zdd rfl rfl,wU rfl rfl,zG rfl zom,zA⟩,⟨bbx,bbx,bbx,zH zdd rfl rfl (wQ _) rfl,zA⟩,by simp[ren,grH]⟩
   all_goals (exfalso;omega)
  ·(refine gob ?_ ?_<;>intro h;refine gob ?_ ?_<;>intro h)
   all_goals try omega
   have hN:wZ v c (f.ts.drop i) true=[]:=by rw[bT zom];rfl
   rw[hN]at i2;rw[mV]at i2;subst i2;exact zL (lJ (yL (xP rfl rfl rfl (fun x=>DZ x)) rfl)) rfl
variable {c:Rat}{kc:Nat}
def vUW  {ts:List QT}{i:Nat}(hi:i<ts.length):rA c (ts.drop i)=nzq ts[i]!.1 (ts[i]!.2*c)++rA c (ts.drop (i+1)):=by
 unfold rA;rw[kI hi,EE,zS ts i hi]
def FN(f:QF)(c:Rat)(kf kc:Nat)(hf:szF kf f)(hc:sz kc c)(hk:kf+kc<=949999990)(hl:f.ts.length<=2097150):Fn 43 [zP f,zR (cr c)] (.data (zP (rB f c))):=by
 obtain⟨M,hM⟩:∃ M,rA c f.ts=M:=⟨_,rfl⟩;have lf:=yO hf.1;have lc:=yO hc;have cm0:=QQ (cr f.c) (cr c) (yH _) (yH _) zom zom zom zom;rw[yC,yC]at cm0;unfold rB;obtain⟨C,hC⟩:∃ C,f.c*c=C:=⟨_,rfl⟩;rw[hC]at cm0;rw[hM,hC];refine yJ zU hT (mkO func43 ntmps43 results43) (by simp[zP]) (sts ?_);refine cvd cm0 ?_
 refine xG hT (fun((i,O,s):Nat×List QT×Bool)=>[(2,.ptr 1 0 0),(3,.ptr 2 0 0),(4,.ptr 3 0 0),(5,.ptr 4 0 0),(6,.int .i64 i)])
  (fun(i,O,s)=>(1,⟨[zP f],4,true⟩)::(2,⟨[zR (cr c)],3,true⟩)::(3,⟨[IP],4,true⟩)::(4,⟨[grF s O.length C],4,true⟩)::grH s O) [] 5
  (fun(i,O,s)=>(s=false->O=[])/\O++rA c (f.ts.drop i)=M/\i<=f.ts.length/\O.length<=i)
  (fun(i,_)=>f.ts.length-i) (0,[],false) ⟨fun _=>rfl,hM,z8 _,zsm⟩ zdd zsm ?_ ?_
 .exact⟨[0,_,_,_,_],[],[],[],ttt,⟨(apy rfl),(apy rfl),(apy rfl),(apy rfl),zG rfl rfl,zA⟩,
   ⟨bbx,bbx,bbx,bbx,zA⟩,by simp[ren,grH]⟩
 intro⟨i,O,s⟩ ⟨i1,i2,i3,i4⟩;by_cases hi:i<f.ts.length
 .have hp:=hf.2 f.ts[i]! (by rw[zS f.ts i hi];exact wA hi)
  have hpc:=q9 hp hc;have lp:=yO hp;have cm:=QQ (cr f.ts[i]!.2) (cr c) (yH _) (yH _) zom zom zom zom;rw[yC,yC]at cm;have nl:=tK f.ts[i]!.1 (f.ts[i]!.2*c);rw[vUW hi]at i2;cases s
  ·refine gob ?_ ?_<;>intro h
   .refine cvd cm ?_
    refine lI (Di f.ts[i]!.1 (f.ts[i]!.2*c) _ hpc zom) rfl (sts ?_)
    exact⟨(i+1,nzq f.ts[i]!.1 (f.ts[i]!.2*c),true),⟨⟨zsm,by rw[i1 rfl,List.nil_append]at i2;exact i2,zom,zom⟩,zbo⟩,[_,_,_,_,_],[],[],[],ttt,
     ⟨(apy rfl),(apy rfl),(apy rfl),(apy rfl),zG rfl zom,zA⟩,
     ⟨bbx,bbx,bbx,xE zdd rfl ⟨⟨zdd,rfl⟩,rfl,rfl,rfl,zA⟩ rfl rfl,zH zdd rfl rfl (wQ _) rfl,zA⟩,by simp[ren,grH]⟩
   all_goals (exfalso;omega)
  ·refine gob ?_ ?_<;>intro h
   .refine cvd cm ?_
    refine qY (r:=0) (AP O f.ts[i]!.1 (f.ts[i]!.2*c) _ hpc zom zom) rfl rfl rfl rfl (rT (wQ _)) (sts ?_)
    exact⟨(i+1,O++nzq f.ts[i]!.1 (f.ts[i]!.2*c),true),⟨⟨zsm,by rw[tV];exact i2,zom,by rw[xR];omega⟩,zbo⟩,[_,_,_,_,_],[],[],[],ttt,
     ⟨(apy rfl),(apy rfl),(apy rfl),(apy rfl),zG rfl zom,zA⟩,
     ⟨bbx,bbx,bbx,xE zdd rfl ⟨⟨zdd,rfl⟩,rfl,rfl,rfl,zA⟩ rfl rfl,zH zdd rfl rfl (wQ _) rfl,zA⟩,by simp[ren,grH]⟩
   all_goals (exfalso;omega)
 .rw[bT zom,show rA c []=[] from rfl,mV]at i2
  subst i2;cases s
  .rw[i1 rfl]
   refine gob ?_ ?_<;>intro h
   all_goals try omega
   exact yD
  ·refine gob ?_ ?_<;>intro h
   all_goals try omega
   exact zL (lJ (yL (xP rfl rfl rfl (fun x=>DZ x)) rfl)) rfl
def ZC{v:Int}{c:Rat}{k kc K:Nat}(hc:sz kc c)(hK:k+kc+1<=K):∀ {l:List QT} {d:Bool},(∀ p∈l,sz k p.2)->∀ r∈wZ v c l d,sz K r.2
 | [],d,_,r,h=>by
   simp only[wZ]at h
   split at h
   .cases h
   .rw[lT h];exact xV zom hc
 | t :: l,d,hl,r,h=>by
   simp only[wZ]at h;rcases y8.1 h with h|h
   .rcases y8.1 h with h|h
    .split at h
     .rw[lT h];exact xV zom hc
     .cases h
    .rw[lT h]
     show sz K (if t.1=v then t.2+c else t.2)
     split
     .exact xV hK (pU (hl t zsm) hc)
     .exact xV zom (hl t zsm)
   .exact ZC hc hK (fun p hp=>hl p (by simp[hp])) r h
def RH{v:Int}{c:Rat}:∀ {l:List QT} {d:Bool},(wZ v c l d).length<=l.length+(if d then 0 else 1)
 | [],d=>by
   simp only[wZ]
   split
   .simp
   .have:=tK v c;omega
 | t::l,d=>by
   have nl1:=tK v c;have nl2:=tK t.1 (if t.1=v then t.2+c else t.2);have ih:=RH (v:=v) (c:=c) (l:=l) (d:=((d||decide (t.1=v))||decide (v<t.1)));simp only[wZ,xR,List.length_cons];by_cases hA:(d||decide (t.1=v))=false/\v<t.1
   .rw[zE hA]
    have hd:d=false:=by have:=hA.1;cases d<;>simp_all
    have hx:((d||decide (t.1=v))||decide (v<t.1))=true:=by simp[hA.2]
    rw[hx]at ih ⊢;subst hd;simp at ih ⊢;omega
   .rw[zB hA]
    have:(if ((d||decide (t.1=v))||decide (v<t.1))=true then 0 else 1)<=(if d=true then 0 else 1):=by cases d<;>simp<;>split<;>omega
    simp only[List.length_nil];omega
def RI(f g:QF)(kf kg:Nat)(hf:szF kf f)(hg:szF kg g)(hk:kf+kg+(g.ts.length+1)*(kg+1)<=949999980)(hl:f.ts.length+g.ts.length<=2097140):Fn 42 [zP f,zP g] (.data (zP (Be f g))):=by
 have lf:=yO hf.1;have lg:=yO hg.1;have hs0:=pU hf.1 hg.1;have ca:=aY (cr f.c) (cr g.c) (yH _) (yH _) zom zom zom zom;rw[yC,yC]at ca;unfold Be;obtain⟨C,hC⟩:∃ C,f.c+g.c=C:=⟨_,rfl⟩;rw[hC]at ca hs0;rw[hC];refine yJ zU hT (mkO func42 ntmps42 results42) (by simp[zP]) (sts ?_);refine cvd ca ?_
 refine xG hT (fun((i,l):Nat×List QT)=>[(3,.ptr 0 0 0),(4,.ptr 1 0 0),(5,.ptr 2 0 0),(6,.int .i64 i)])
  (fun(i,l)=>[(0,⟨[zP g],4,true⟩),(1,⟨[IP],4,true⟩),(2,⟨[zP ⟨l,C⟩],4,true⟩)]) [] 3
  (fun(i,l)=>l=addL f.ts (g.ts.take i)/\i<=g.ts.length/\l.length<=f.ts.length+i/\∀ p∈l,sz (kf+i*(kg+1)) p.2)
  (fun(i,_)=>g.ts.length-i) (0,f.ts) ⟨rfl,z8 _,zX _,fun p hp=>by simpa using hf.2 p hp⟩ zdd zsm ?_ ?_
 .exact⟨[_,_,_],[],[],[],ttt,⟨(apy rfl),(apy rfl),(apy rfl),zG rfl rfl,zA⟩,
   ⟨bbx,bbx,bbx,zA⟩,zO⟩
 intro⟨i,l⟩ ⟨i1,i2,i3,i4⟩;by_cases hi:i<g.ts.length
 .have hp:=hg.2 g.ts[i]! (by rw[zS g.ts i hi];exact wA hi)
  have hmul:(i+1)*(kg+1)<=g.ts.length*(kg+1):=vK _ zom;rw[w6]at hmul hk;have hK:kf+i*(kg+1)+kg+1<=kf+(i+1)*(kg+1):=by rw[w6];omega
  have cp:=ZB ⟨l,C⟩ g.ts[i]!.1 g.ts[i]!.2 (kf+kg+1+i*(kg+1)) kg ⟨xV zom hs0,fun p hp=>xV zom (i4 p hp)⟩ hp zom (by show l.length<=_;omega);have hln:=RH (v:=g.ts[i]!.1) (c:=g.ts[i]!.2) (l:=l) (d:=false);have hsn:=ZC (v:=g.ts[i]!.1) hp hK (l:=l) (d:=false) i4
  have hn:wZ g.ts[i]!.1 g.ts[i]!.2 l false=addL f.ts (g.ts.take (i+1)):=by
   rw[i1];unfold addL;rw[tO hi,dF,zS g.ts i hi];rfl
  simp only[JX,tE]at hln
  refine gob ?_ ?_<;>intro h
  .refine cvd cp ?_
   exact⟨(i+1,wZ g.ts[i]!.1 g.ts[i]!.2 l false),⟨⟨hn,zom,zom,hsn⟩,zbo⟩,[0,1,2],[],[],[],ttt,
    ⟨apx,apx,apx,zG rfl zom,zA⟩,
    ⟨bbx,bbx,bbx,zA⟩,zO⟩
  all_goals (exfalso;omega)
 .rw[uT zom]at i1
  subst i1
  refine gob ?_ ?_<;>intro h
  all_goals try omega
  exact zL (lJ (yL (xP rfl zsm zsm (fun x=>DZ x)) rfl)) rfl
def uLX  {k:Nat}(hc:sz kc c){l:List QT}(h:∀ p∈l,sz k p.2):∀ r∈rA c l,sz (k+kc) r.2:=fun r hr=>by
 unfold rA at hr;obtain⟨t,ht,hr⟩:=Ce.1 hr;rw[lT hr];exact q9 (h t ht) hc
def Lg{c:Rat}:∀ {l:List QT},(rA c l).length<=l.length
 |[]=>zX _
 | t::l=>by
   have:=tK t.1 (t.2*c);have:=Lg (c:=c) (l:=l);unfold rA at *
   rw[EE,xR,List.length_cons];omega
def RJ{f:QF}  {k:Nat}(hf:szF k f)(hc:sz kc c):szF (k+kc) (rB f c):=⟨q9 hf.1 hc,uLX hc hf.2⟩
end Go.PI.Tryz
