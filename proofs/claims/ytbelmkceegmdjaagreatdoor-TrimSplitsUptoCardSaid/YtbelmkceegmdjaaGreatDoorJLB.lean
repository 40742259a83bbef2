/-
  Affine forms: Add, Sub, Scale, Eval.
-/
import Derived.Test.YtbelmkceegmdjaaGreatDoorJIB
set_option linter.unusedVariables false
set_option linter.unusedSimpArgs false
set_option maxHeartbeats 0
namespace Go.PI.Tryz
open Go.Proofs Go.PI
theorem vW0:FO 63 Tryz.f63 [.tmp 4] 56:=mkO Tryz.func63 Tryz.ntmps63 Tryz.results63
theorem zND(f:AffL)(n:Int)(hf:okA 2147483596 f):Fn 63 [vBM f,.int .i64 n] (.data (.bool (vCZ f n))):=by
 obtain⟨hc,ht,hl⟩:=hf;refine zAK vBC hT vW0 (by simp[vBM]) ?_;refine sts ?_
 refine zAM hT (fun(i:Nat)=>[(1,.int .i64 n),(2,.ptr 0 0 0),(8,.imm (f.terms.map vCB)),(9,.int .i64 f.terms.length),(10,.int .i64 i)]) (fun _=>[(0,⟨[vBM f],4,true⟩)]) [] 1
  (fun i=>i<=f.terms.length/\∀ j,j<i->okT f.terms n j) (fun i=>f.terms.length - i) 0 ⟨rA8 _,fun j h=>zom⟩ zdd zsm ?_ ?_
 .exact⟨[0],[],[],[],ttt,⟨rAI,apx,rAJ,zAC rfl zsm,rAI,rGU⟩,⟨bbx,rGU⟩,rAA⟩
 intro i ⟨i1,i2⟩;have hcv:=zG4 f.const hc.1 (by have:=hc.2; omega) (by have:=hc.2; omega);by_cases hi:i<f.terms.length
 .have hq:=vXE (f:=f) ⟨hc,ht,hl⟩ hi
  have cs:=zF6 f.terms[i]!.coef hq.1 (by have:=hq.2; omega);have cv:=zG4 f.terms[i]!.coef hq.1 (by have:=hq.2; omega) (by have:=hq.2; omega)
  (repeat' (first|refine stp ?_|with_reducible(refine brr ?_ ?_<;>intro h)));all_goals try(conv=>whnf)
  .exact zAB rfl (rA3 PV.bool (zBQ (i:=i) zom fun e=>by have:=e.1; omega))
  .exact zAB rfl (rA3 PV.bool (zBQ (i:=i) zom fun e=>by have:=e.2.1; omega))
  .refine zA6 (j:=i - 1) zom zom ?_
   refine gob ?_ ?_<;>intro h
   .exact zAB rfl (rA3 PV.bool (zBQ (i:=i) zom fun e=>by have:=e.2.2.1 zom; omega))
   refine zAA cs rfl ?_
   refine gob ?_ ?_<;>intro h
   .exact zAB rfl (rA3 PV.bool (zBQ (i:=i) zom fun e=>e.2.2.2.1 (sgnQ_zero.1 h)))
   .refine zAA cv rfl ?_
    refine gob ?_ ?_<;>intro h
    .refine⟨i+1,⟨⟨zom,fun j hj=>?_⟩,by show f.terms.length - (i+1)<f.terms.length - i; omega⟩,[0],[],[],[],ttt,⟨rAI,apx,rAJ,rAI,zAC rfl zom,rGU⟩,⟨bbx,rGU⟩,rAA⟩
     rcases rB8 (rCB hj) with hj | rfl
     .exact i2 j hj
     .exact⟨zom,zom,fun h0=>by omega,fun e=>by have:=sgnQ_zero.2 e; omega,h⟩
    .exact zAB rfl (rA3 PV.bool (zBQ (i:=i) zom fun e=>h e.2.2.2.2))
  .refine zAA cs rfl ?_
   refine gob ?_ ?_<;>intro h
   .exact zAB rfl (rA3 PV.bool (zBQ (i:=i) zom fun e=>e.2.2.2.1 (sgnQ_zero.1 h)))
   .refine zAA cv rfl ?_
    refine gob ?_ ?_<;>intro h
    .refine⟨i+1,⟨⟨zom,fun j hj=>?_⟩,by show f.terms.length - (i+1)<f.terms.length - i; omega⟩,[0],[],[],[],ttt,⟨rAI,apx,rAJ,rAI,zAC rfl zom,rGU⟩,⟨bbx,rGU⟩,rAA⟩
     rcases rB8 (rCB hj) with hj | rfl
     .exact i2 j hj
     .exact⟨zom,zom,fun h0=>by omega,fun e=>by have:=sgnQ_zero.2 e; omega,h⟩
    .exact zAB rfl (rA3 PV.bool (zBQ (i:=i) zom fun e=>h e.2.2.2.2))
  .omega
 ·(repeat' (first|refine stp ?_|with_reducible(refine brr ?_ ?_<;>intro h)));all_goals try(conv=>whnf)
  all_goals try (exfalso; omega)
  refine zAA hcv rfl ?_;refine sts ?_;exact zAB rfl (rA3 PV.bool (zPH fun j hj=>i2 j zom))
def uBL(n:Nat)(c:Rat):PV:=.agg [.own 0 0 n,.bool (cr c).neg,vBK (cr c).num,vBK (cr c).den]
def uQB(c:Rat):PV:=.agg [.nilsl,.bool (cr c).neg,vBK (cr c).num,vBK (cr c).den]
def vJD(O:List QT):Blk:=⟨O.map vIO,4,true⟩
theorem vHB(O:List QT)(c:Rat):vJ2 (vJD O) (uBL O.length c):=by
 refine rAW ⟨fun x hx=>?_,?_⟩
 .simp only[uBL,vCN,rA7,rCX,rE2]at hx
  rcases hx with rfl | rfl | rfl | rfl
  .left; simp[vJD]
  all_goals right; rfl
 .simp[uBL,vCN,vJD]
theorem zA9(O:List QT):∀ e∈O.map vIO,nr 3 e=true/\e≠.any:=zAP fun x=>⟨rfl,by simp[vIO,vCB]⟩
theorem vW2:FO 160 Tryz.f160 [.cell 6 46] 20:=mkO Tryz.func160 Tryz.ntmps160 Tryz.results160
theorem zFK(O:List QT)(c:Rat)(v:Int)(q:Rat)(k:Nat)(hq:sz k q)(hk:k<=2147483596)(hO:O.length<2147483648):Fn 160 [uBL O.length c,.int .i64 v,vA5 (cr q)] (.own (some (vJD O)) (uBL (O++nzq v q).length c) (vJD (O++nzq v q))):=by
 have hl:=zBL hq;have cs:=zF6 (cr q) (zBE q) zom;have cc:=zNC (cr q) (zBE q) zom zom;rw[zBU]at cs cc;refine vKO vBC hT vW2 zsm ?_;refine sts ?_;refine zAA cs rfl ?_
 refine gob ?_ ?_<;>intro h
 .rw[zP0 fun e=>h (sgnQ_zero.2 e)]
  refine zAA cc rfl ?_;refine sts ?_;refine zBH ⟨rfl,by simp[vJD],rAE⟩ ?_;refine sts ?_;refine zLH (r:=14) ?_ rfl ?_ rfl (fun e he=>(zA9 _ e he).1) (vHB _ c)
  .simp[uBL,rk,rk1]
  .simp[vJD,vIO,vCB,tQ]
 .rw[show q=0 from sgnQ_zero.1 h,zM0,rBR]
  exact zLH (r:=0) rfl rfl rfl rfl (fun e he=>(zA9 _ e he).1) (vHB _ c)
theorem zFL(c:Rat)(v:Int)(q:Rat)(k:Nat)(hq:sz k q)(hk:k<=2147483596):Fn 160 [uQB c,.int .i64 v,vA5 (cr q)] (.own none (uBL (nzq v q).length c) (vJD (nzq v q))):=by
 have hl:=zBL hq;have cs:=zF6 (cr q) (zBE q) zom;have cc:=zNC (cr q) (zBE q) zom zom;rw[zBU]at cs cc;refine vKP vBC hT vW2 zsm ?_;refine sts ?_;refine zAA cs rfl ?_
 refine gob ?_ ?_<;>intro h
 .rw[zP0 fun e=>h (sgnQ_zero.2 e)]
  refine zAA cc rfl ?_;refine sts ?_;refine zLH (r:=14) ?_ rfl ?_ rfl (fun e he=>(zA9 _ e he).1) (vHB _ c)
  .simp[uBL,rk,rk1]
  .simp[vIO,vCB,tQ]
 .rw[show q=0 from sgnQ_zero.1 h,zM0]
  exact vO7 rfl rfl (vHB [] c)
def grF:Bool->Nat->Rat->PV
 | true,n,c=>uBL n c
 | false,_,c=>uQB c
def grH:Bool->List QT->List (Nat×Blk)
 | true,O=>[(0,vJD O)]
 | false,_=>[]
def uAG:PV:=.agg [.nilsl,.bool false,.nilsl,.nilsl]
theorem zBN(v:Int)(x:Rat):(nzq v x).length<=1:=by unfold nzq; split<;>simp
theorem zIC{h:Hp}{n:Nat}(x:QT):frz h (n+1) (vIO x)=some (vIO x,[]):=by cases n<;>rfl
theorem zDT(p:QT)(a:List QT):(((p::a).length:Nat):Int) > 0:=by rw[List.length_cons]; omega
theorem vW3:FO 133 Tryz.f133 [.cell 6 46] 113:=mkO Tryz.func133 Tryz.ntmps133 Tryz.results133
set_option maxHeartbeats 1000000 in
theorem vQT(f g:QF)(c:Rat)(kf kg kc:Nat)(hf:∀ p∈f.ts,sz kf p.2)(hg:∀ p∈g.ts,sz kg p.2)(hfc:sz kf f.c)(hgc:sz kg g.c)(hc:sz kc c)(hk:kf+kg+kc<=950000000)(hl1:f.ts.length<=1048576)(hl2:g.ts.length<=1048576) :
 Fn 133 [vBP f,vBP g,vA5 (cr c)] (.data (vBP (vB2 f g c))):=by
 have q1:=zBL hfc;have q2:=zBL hgc;have q3:=zBL hc;have m0:=zFP hgc hc;have q4:=zBL m0;have cm:=zO0 (cr g.c) (cr c) (zBE _) (zBE _) zom zom zom zom;rw[zBU,zBU]at cm;have ca:=vQP (cr f.c) (cr (g.c * c)) (zBE _) (zBE _) zom zom zom zom;rw[zBU,zBU]at ca;refine zAK vBC hT vW3 (by simp[vBP]) ?_;refine sts ?_;refine zAA cm rfl ?_;refine sts ?_;refine zAA ca rfl ?_;refine sts ?_;obtain⟨C,hC⟩:∃ C,f.c+g.c * c=C:=⟨_,rfl⟩;obtain⟨M,hM⟩:∃ M,mrg c f.ts g.ts=M:=⟨_,rfl⟩;unfold vB2;rw[hM];simp only[hC];clear ca cm
 refine zAM hT (fun((a,b,O,s):List QT×List QT×List QT×Bool)=>[(5,.ptr 1 0 0),(6,.ptr 2 0 0),(7,.ptr 3 0 0),(8,.imm (a.map vIO)),(9,.imm (b.map vIO))])
  (fun(a,b,O,s)=>(1,⟨[vA5 (cr c)],3,true⟩)::(2,⟨[uAG],4,true⟩)::(3,⟨[grF s O.length C],4,true⟩)::grH s O) [] 4
  (fun(a,b,O,s)=>(s=false->O=[])/\O++mrg c a b=M/\(∀ p∈a,sz kf p.2)/\(∀ p∈b,sz kg p.2)/\a.length+b.length+O.length<=2147483648)
  (fun(a,b,_,_)=>a.length+b.length) (f.ts,g.ts,[],false) ⟨fun _=>rfl,hM,hf,hg,rAE⟩ zdd zsm ?_ ?_
 .exact⟨[0,2,3,12],[],[],[],ttt,⟨apx,apx,apx,rAJ,rAJ,rGU⟩,
   ⟨bbx,bbx,bbx,rGU⟩,by simp[ren,grH]⟩
 intro⟨a,b,O,s⟩ ⟨i1,i2,i3,i4,i5⟩;rcases a with _ | ⟨p,a⟩<;>rcases b with _ | ⟨q,b⟩<;>cases s
 .refine sts ?_
  rw[mrg,rBR]at i2;have hO:=i1 rfl;subst hO;subst i2;exact rGV
 .refine sts ?_
  rw[mrg,rBR]at i2;subst i2;exact zAB (zBY (zAD (zAH rfl rfl rfl (fun x=>zIC x)) rfl)) rfl
 ·refine gob ?_ ?_<;>intro h
  .have hq:=i4 q zsm
   have hqc:=zFP hq hc;have l1:=zBL hq;have cm:=zO0 (cr q.2) (cr c) (zBE _) (zBE _) zom zom zom zom;rw[zBU,zBU]at cm;refine zAA cm rfl ?_;refine sts ?_;refine zCC (zFL C q.1 (q.2 * c) _ hqc zom) rfl ?_;refine sts ?_;refine zB1 (l':=b) zsm ?_;refine sts ?_;have nl:=zBN q.1 (q.2 * c)
   exact⟨([],b,nzq q.1 (q.2 * c),true),⟨⟨zsm,by rw[mrg]at i2; rw[i1 rfl,List.nil_append]at i2; exact i2,fun r hr=>i3 r rAF,fun r hr=>i4 r rAF,by simp at i5 ⊢; omega⟩,by simp; try omega⟩,[_,_,_,_],[],[],[],ttt,⟨(apy rfl),(apy rfl),(apy rfl),zAE rfl rfl,zAE rfl rfl,rGU⟩,
    ⟨bbx,bbx,zAI zdd rfl ⟨⟨zdd,rfl⟩,rfl,rfl,rfl,rGU⟩ rfl rfl,zAF zdd rfl rfl (zA9 _) rfl,rGU⟩,by simp[ren,grH]⟩
  .exact absurd h zsm
 ·refine gob ?_ ?_<;>intro h
  .have hq:=i4 q zsm
   have hqc:=zFP hq hc;have l1:=zBL hq;have cm:=zO0 (cr q.2) (cr c) (zBE _) (zBE _) zom zom zom zom;rw[zBU,zBU]at cm;refine zAA cm rfl ?_;refine sts ?_;refine zBR (r:=0) (zFK O C q.1 (q.2 * c) _ hqc zom zom) rfl rfl rfl rfl (zFT (zA9 O)) ?_;refine sts ?_;refine zB1 (l':=b) zsm ?_;refine sts ?_;have nl:=zBN q.1 (q.2 * c)
   exact⟨([],b,O++nzq q.1 (q.2 * c),true),⟨⟨zsm,by rw[mrg]at i2; rw[rBG]; exact i2,fun r hr=>i3 r rAF,fun r hr=>i4 r rAF,by simp at i5 ⊢; omega⟩,by simp; try omega⟩,[_,_,_,_],[],[],[],ttt,⟨(apy rfl),(apy rfl),(apy rfl),zAE rfl rfl,zAE rfl rfl,rGU⟩,
    ⟨bbx,bbx,zAI zdd rfl ⟨⟨zdd,rfl⟩,rfl,rfl,rfl,rGU⟩ rfl rfl,zAF zdd rfl rfl (zA9 _) rfl,rGU⟩,by simp[ren,grH]⟩
  .exact absurd h zsm
 ·refine gob ?_ ?_<;>intro h
  .have hp:=i3 p zsm
   refine zCC (zFL C p.1 p.2 _ hp zom) rfl ?_;refine sts ?_;refine zB1 (l':=a) zsm ?_;refine sts ?_;have nl:=zBN p.1 p.2
   exact⟨(a,[],nzq p.1 p.2,true),⟨⟨zsm,by rw[mrg]at i2; rw[i1 rfl,List.nil_append]at i2; exact i2,fun r hr=>i3 r rAF,fun r hr=>i4 r rAF,by simp at i5 ⊢; omega⟩,by simp; try omega⟩,[_,_,_,_],[],[],[],ttt,⟨(apy rfl),(apy rfl),(apy rfl),zAE rfl rfl,zAE rfl rfl,rGU⟩,
    ⟨bbx,bbx,zAI zdd rfl ⟨⟨zdd,rfl⟩,rfl,rfl,rfl,rGU⟩ rfl rfl,zAF zdd rfl rfl (zA9 _) rfl,rGU⟩,by simp[ren,grH]⟩
  all_goals first | contradiction | exact absurd (zDT _ _) h | exact absurd (zDT p a) rAC | exact absurd (zDT q b) rAC
 ·refine gob ?_ ?_<;>intro h
  .have hp:=i3 p zsm
   refine zBR (r:=0) (zFK O C p.1 p.2 _ hp zom zom) rfl rfl rfl rfl (zFT (zA9 O)) ?_;refine sts ?_;refine zB1 (l':=a) zsm ?_;refine sts ?_;have nl:=zBN p.1 p.2
   exact⟨(a,[],O++nzq p.1 p.2,true),⟨⟨zsm,by rw[mrg]at i2; rw[rBG]; exact i2,fun r hr=>i3 r rAF,fun r hr=>i4 r rAF,by simp at i5 ⊢; omega⟩,by simp; try omega⟩,[_,_,_,_],[],[],[],ttt,⟨(apy rfl),(apy rfl),(apy rfl),zAE rfl rfl,zAE rfl rfl,rGU⟩,
    ⟨bbx,bbx,zAI zdd rfl ⟨⟨zdd,rfl⟩,rfl,rfl,rfl,rGU⟩ rfl rfl,zAF zdd rfl rfl (zA9 _) rfl,rGU⟩,by simp[ren,grH]⟩
  all_goals first | contradiction | exact absurd (zDT _ _) h | exact absurd (zDT p a) rAC | exact absurd (zDT q b) rAC
 ·(repeat' (first|refine stp ?_|with_reducible(refine brr ?_ ?_<;>intro h)));all_goals try(conv=>whnf)
  .have hp:=i3 p zsm
   refine zCC (zFL C p.1 p.2 _ hp zom) rfl ?_;refine sts ?_;refine zB1 (l':=a) zsm ?_;refine sts ?_;have nl:=zBN p.1 p.2
   exact⟨(a,q::b,nzq p.1 p.2,true),⟨⟨zsm,by rw[mrg,rAV (show p.1<q.1 from h)]at i2; rw[i1 rfl,List.nil_append]at i2; exact i2,fun r hr=>i3 r rAF,fun r hr=>i4 r rAF,by simp at i5 ⊢; omega⟩,by simp; try omega⟩,[_,_,_,_],[],[],[],ttt,⟨(apy rfl),(apy rfl),(apy rfl),zAE rfl rfl,zAE rfl rfl,rGU⟩,
    ⟨bbx,bbx,zAI zdd rfl ⟨⟨zdd,rfl⟩,rfl,rfl,rfl,rGU⟩ rfl rfl,zAF zdd rfl rfl (zA9 _) rfl,rGU⟩,by simp[ren,grH]⟩
  .have hq:=i4 q zsm
   have hqc:=zFP hq hc;have l1:=zBL hq;have cm:=zO0 (cr q.2) (cr c) (zBE _) (zBE _) zom zom zom zom;rw[zBU,zBU]at cm;refine zAA cm rfl ?_;refine sts ?_;refine zCC (zFL C q.1 (q.2 * c) _ hqc zom) rfl ?_;refine sts ?_;refine zB1 (l':=b) zsm ?_;refine sts ?_;have nl:=zBN q.1 (q.2 * c)
   exact⟨(p::a,b,nzq q.1 (q.2 * c),true),⟨⟨zsm,by rw[mrg,rAN (show ¬ p.1<q.1 from ‹¬ (tQ p).var<(tQ q).var›),rAV (show q.1<p.1 from h)]at i2; rw[i1 rfl,List.nil_append]at i2; exact i2,fun r hr=>i3 r rAF,fun r hr=>i4 r rAF,by simp at i5 ⊢; omega⟩,by simp; try omega⟩,[_,_,_,_],[],[],[],ttt,⟨(apy rfl),(apy rfl),(apy rfl),zAE rfl rfl,zAE rfl rfl,rGU⟩,
    ⟨bbx,bbx,zAI zdd rfl ⟨⟨zdd,rfl⟩,rfl,rfl,rfl,rGU⟩ rfl rfl,zAF zdd rfl rfl (zA9 _) rfl,rGU⟩,by simp[ren,grH]⟩
  .have hq:=i4 q zsm
   have hqc:=zFP hq hc;have l1:=zBL hq;have cm:=zO0 (cr q.2) (cr c) (zBE _) (zBE _) zom zom zom zom;rw[zBU,zBU]at cm;have hp:=i3 p zsm;have hpq:=zG7 hp hqc;have l2:=zBL hp;have l3:=zBL hqc;have ca:=vQP (cr p.2) (cr (q.2 * c)) (zBE _) (zBE _) zom zom zom zom;rw[zBU,zBU]at ca;refine zAA cm rfl ?_;refine sts ?_;refine zAA ca rfl ?_;refine sts ?_;refine zCC (zFL C p.1 (p.2+q.2 * c) _ hpq zom) rfl ?_;refine sts ?_;refine zB1 (l':=a) zsm ?_;refine sts ?_;refine zB1 (l':=b) zsm ?_;refine sts ?_;have nl:=zBN p.1 (p.2+q.2 * c)
   exact⟨(a,b,nzq p.1 (p.2+q.2 * c),true),⟨⟨zsm,by rw[mrg,rAN (show ¬ p.1<q.1 from ‹¬ (tQ p).var<(tQ q).var›),rAN (show ¬ q.1<p.1 from h)]at i2; rw[i1 rfl,List.nil_append]at i2; exact i2,fun r hr=>i3 r rAF,fun r hr=>i4 r rAF,by simp at i5 ⊢; omega⟩,by simp; try omega⟩,[_,_,_,_],[],[],[],ttt,⟨(apy rfl),(apy rfl),(apy rfl),zAE rfl rfl,zAE rfl rfl,rGU⟩,
    ⟨bbx,bbx,zAI zdd rfl ⟨⟨zdd,rfl⟩,rfl,rfl,rfl,rGU⟩ rfl rfl,zAF zdd rfl rfl (zA9 _) rfl,rGU⟩,by simp[ren,grH]⟩
  all_goals first | contradiction | exact absurd (zDT _ _) h | exact absurd (zDT p a) rAC | exact absurd (zDT q b) rAC
 ·(repeat' (first|refine stp ?_|with_reducible(refine brr ?_ ?_<;>intro h)));all_goals try(conv=>whnf)
  .have hp:=i3 p zsm
   refine zBR (r:=0) (zFK O C p.1 p.2 _ hp zom zom) rfl rfl rfl rfl (zFT (zA9 O)) ?_;refine sts ?_;refine zB1 (l':=a) zsm ?_;refine sts ?_;have nl:=zBN p.1 p.2
   exact⟨(a,q::b,O++nzq p.1 p.2,true),⟨⟨zsm,by rw[mrg,rAV (show p.1<q.1 from h)]at i2; rw[rBG]; exact i2,fun r hr=>i3 r rAF,fun r hr=>i4 r rAF,by simp at i5 ⊢; omega⟩,by simp; try omega⟩,[_,_,_,_],[],[],[],ttt,⟨(apy rfl),(apy rfl),(apy rfl),zAE rfl rfl,zAE rfl rfl,rGU⟩,
    ⟨bbx,bbx,zAI zdd rfl ⟨⟨zdd,rfl⟩,rfl,rfl,rfl,rGU⟩ rfl rfl,zAF zdd rfl rfl (zA9 _) rfl,rGU⟩,by simp[ren,grH]⟩
  .have hq:=i4 q zsm
   have hqc:=zFP hq hc;have l1:=zBL hq;have cm:=zO0 (cr q.2) (cr c) (zBE _) (zBE _) zom zom zom zom;rw[zBU,zBU]at cm;refine zAA cm rfl ?_;refine sts ?_;refine zBR (r:=0) (zFK O C q.1 (q.2 * c) _ hqc zom zom) rfl rfl rfl rfl (zFT (zA9 O)) ?_;refine sts ?_;refine zB1 (l':=b) zsm ?_;refine sts ?_;have nl:=zBN q.1 (q.2 * c)
   exact⟨(p::a,b,O++nzq q.1 (q.2 * c),true),⟨⟨zsm,by rw[mrg,rAN (show ¬ p.1<q.1 from ‹¬ (tQ p).var<(tQ q).var›),rAV (show q.1<p.1 from h)]at i2; rw[rBG]; exact i2,fun r hr=>i3 r rAF,fun r hr=>i4 r rAF,by simp at i5 ⊢; omega⟩,by simp; try omega⟩,[_,_,_,_],[],[],[],ttt,⟨(apy rfl),(apy rfl),(apy rfl),zAE rfl rfl,zAE rfl rfl,rGU⟩,
    ⟨bbx,bbx,zAI zdd rfl ⟨⟨zdd,rfl⟩,rfl,rfl,rfl,rGU⟩ rfl rfl,zAF zdd rfl rfl (zA9 _) rfl,rGU⟩,by simp[ren,grH]⟩
  .have hq:=i4 q zsm
   have hqc:=zFP hq hc;have l1:=zBL hq;have cm:=zO0 (cr q.2) (cr c) (zBE _) (zBE _) zom zom zom zom;rw[zBU,zBU]at cm;have hp:=i3 p zsm;have hpq:=zG7 hp hqc;have l2:=zBL hp;have l3:=zBL hqc;have ca:=vQP (cr p.2) (cr (q.2 * c)) (zBE _) (zBE _) zom zom zom zom;rw[zBU,zBU]at ca;refine zAA cm rfl ?_;refine sts ?_;refine zAA ca rfl ?_;refine sts ?_;refine zBR (r:=0) (zFK O C p.1 (p.2+q.2 * c) _ hpq zom zom) rfl rfl rfl rfl (zFT (zA9 O)) ?_;refine sts ?_;refine zB1 (l':=a) zsm ?_;refine sts ?_;refine zB1 (l':=b) zsm ?_;refine sts ?_;have nl:=zBN p.1 (p.2+q.2 * c)
   exact⟨(a,b,O++nzq p.1 (p.2+q.2 * c),true),⟨⟨zsm,by rw[mrg,rAN (show ¬ p.1<q.1 from ‹¬ (tQ p).var<(tQ q).var›),rAN (show ¬ q.1<p.1 from h)]at i2; rw[rBG]; exact i2,fun r hr=>i3 r rAF,fun r hr=>i4 r rAF,by simp at i5 ⊢; omega⟩,by simp; try omega⟩,[_,_,_,_],[],[],[],ttt,⟨(apy rfl),(apy rfl),(apy rfl),zAE rfl rfl,zAE rfl rfl,rGU⟩,
    ⟨bbx,bbx,zAI zdd rfl ⟨⟨zdd,rfl⟩,rfl,rfl,rfl,rGU⟩ rfl rfl,zAF zdd rfl rfl (zA9 _) rfl,rGU⟩,by simp[ren,grH]⟩
  all_goals first | contradiction | exact absurd (zDT _ _) h | exact absurd (zDT p a) rAC | exact absurd (zDT q b) rAC
theorem uIG:FO 99 Tryz.f99 [.cell 4 46] 9:=mkO Tryz.func99 Tryz.ntmps99 Tryz.results99
theorem zHA(f g:QF)(kf kg:Nat)(hf:szF kf f)(hg:szF kg g)(hk:kf+kg<=949999990)(hl1:f.ts.length<=1048576)(hl2:g.ts.length<=1048576):Fn 99 [vBP f,vBP g] (.data (vBP (vB2 f g (-1)))):=by
 have cm:=vQT f g ((-1:Int):Rat) kf kg 1 hf.2 hg.2 hf.1 hg.1 (zE8 zdd) zom hl1 hl2;have co:=uKF (-1) zdd;rw[show((-1:Int):Rat)=-1 by rfl]at cm co;refine zAK vBC hT uIG (by simp[vBP]) ?_;refine sts ?_;refine zAA co rfl ?_;refine sts ?_;refine zAA cm rfl ?_;refine sts ?_;exact rGV
theorem vW1:FO 135 Tryz.f135 [.cell 4 46] 9:=mkO Tryz.func135 Tryz.ntmps135 Tryz.results135
theorem zKZ(f:QF)(c:Rat)(kf kc:Nat)(hf:szF kf f)(hc:sz kc c)(hk:kf+kc<=949999990)(hl1:f.ts.length<=1048576):Fn 135 [vBP f,vA5 (cr c)] (.data (vBP (vB2 zeroQ f c))):=by
 have cm:=vQT zeroQ f c 1 kf kc (zEF 1 zdd).2 hf.2 (zEF 1 zdd).1 hf.1 hc zom (by simp[zeroQ]) hl1;rw[zA8]at cm;refine zAK vBC hT vW1 (by simp[vBP]) ?_;refine sts ?_;refine zAA cm rfl ?_;refine sts ?_;exact rGV
end Go.PI.Tryz
