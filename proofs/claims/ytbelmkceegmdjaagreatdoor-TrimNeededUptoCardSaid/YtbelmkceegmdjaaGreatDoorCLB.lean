/-
  Affine forms: Add, Sub, Scale, Eval.
-/
import Derived.Test.YtbelmkceegmdjaaGreatDoorCIB
set_option linter.unusedVariables false
set_option linter.unusedSimpArgs false
set_option maxHeartbeats 0
namespace Go.PI.Tryz
open Go.Proofs Go.PI
theorem vW9:FO 63 Tryz.f63 [.tmp 4] 56:=mkO Tryz.func63 Tryz.ntmps63 Tryz.results63
theorem zNU(f:AffL)(n:Int)(hf:okA 2147483596 f):Fn 63 [vBO f,.int .i64 n] (.data (.bool (vC3 f n))):=by
 obtain⟨hc,ht,hl⟩:=hf;refine zAM vBC hT vW9 (by simp[vBO]) ?_;refine sts ?_
 refine zAO hT (fun(i:Nat)=>[(1,.int .i64 n),(2,.ptr 0 0 0),(8,.imm (f.terms.map vCJ)),(9,.int .i64 f.terms.length),(10,.int .i64 i)]) (fun _=>[(0,⟨[vBO f],4,true⟩)]) [] 1
  (fun i=>i<=f.terms.length/\∀ j,j<i->okT f.terms n j) (fun i=>f.terms.length - i) 0 ⟨rA9 _,fun j h=>zom⟩ zdd zsm ?_ ?_
 .exact⟨[0],[],[],[],ttt,⟨rAI,apx,rAJ,zAC rfl zsm,rAI,rGW⟩,⟨bbx,rGW⟩,rAA⟩
 intro i ⟨i1,i2⟩;have hcv:=zG6 f.const hc.1 (by have:=hc.2; omega) (by have:=hc.2; omega);by_cases hi:i<f.terms.length
 .have hq:=vXN (f:=f) ⟨hc,ht,hl⟩ hi
  have cs:=zGC f.terms[i]!.coef hq.1 (by have:=hq.2; omega);have cv:=zG6 f.terms[i]!.coef hq.1 (by have:=hq.2; omega) (by have:=hq.2; omega)
  (repeat' (first|refine stp ?_|with_reducible(refine brr ?_ ?_<;>intro h)));all_goals try(conv=>whnf)
  .exact zAB rfl (rA3 PV.bool (zBR (i:=i) zom fun e=>by have:=e.1; omega))
  .exact zAB rfl (rA3 PV.bool (zBR (i:=i) zom fun e=>by have:=e.2.1; omega))
  .refine zA7 (j:=i - 1) zom zom ?_
   refine gob ?_ ?_<;>intro h
   .exact zAB rfl (rA3 PV.bool (zBR (i:=i) zom fun e=>by have:=e.2.2.1 zom; omega))
   refine zAA cs rfl ?_
   refine gob ?_ ?_<;>intro h
   .exact zAB rfl (rA3 PV.bool (zBR (i:=i) zom fun e=>e.2.2.2.1 (sgnQ_zero.1 h)))
   .refine zAA cv rfl ?_
    refine gob ?_ ?_<;>intro h
    .refine⟨i+1,⟨⟨zom,fun j hj=>?_⟩,by show f.terms.length - (i+1)<f.terms.length - i; omega⟩,[0],[],[],[],ttt,⟨rAI,apx,rAJ,rAI,zAC rfl zom,rGW⟩,⟨bbx,rGW⟩,rAA⟩
     rcases rCB (rCF hj) with hj | rfl
     .exact i2 j hj
     .exact⟨zom,zom,fun h0=>by omega,fun e=>by have:=sgnQ_zero.2 e; omega,h⟩
    .exact zAB rfl (rA3 PV.bool (zBR (i:=i) zom fun e=>h e.2.2.2.2))
  .refine zAA cs rfl ?_
   refine gob ?_ ?_<;>intro h
   .exact zAB rfl (rA3 PV.bool (zBR (i:=i) zom fun e=>e.2.2.2.1 (sgnQ_zero.1 h)))
   .refine zAA cv rfl ?_
    refine gob ?_ ?_<;>intro h
    .refine⟨i+1,⟨⟨zom,fun j hj=>?_⟩,by show f.terms.length - (i+1)<f.terms.length - i; omega⟩,[0],[],[],[],ttt,⟨rAI,apx,rAJ,rAI,zAC rfl zom,rGW⟩,⟨bbx,rGW⟩,rAA⟩
     rcases rCB (rCF hj) with hj | rfl
     .exact i2 j hj
     .exact⟨zom,zom,fun h0=>by omega,fun e=>by have:=sgnQ_zero.2 e; omega,h⟩
    .exact zAB rfl (rA3 PV.bool (zBR (i:=i) zom fun e=>h e.2.2.2.2))
  .omega
 ·(repeat' (first|refine stp ?_|with_reducible(refine brr ?_ ?_<;>intro h)));all_goals try(conv=>whnf)
  all_goals try (exfalso; omega)
  refine zAA hcv rfl ?_;refine sts ?_;exact zAB rfl (rA3 PV.bool (zPS fun j hj=>i2 j zom))
def uBY(n:Nat)(c:Rat):PV:=.agg [.own 0 0 n,.bool (cr c).neg,vBK (cr c).num,vBK (cr c).den]
def uQM(c:Rat):PV:=.agg [.nilsl,.bool (cr c).neg,vBK (cr c).num,vBK (cr c).den]
def vJN(O:List QT):Blk:=⟨O.map vIY,4,true⟩
theorem vHG(O:List QT)(c:Rat):vJ9 (vJN O) (uBY O.length c):=by
 refine rAW ⟨fun x hx=>?_,?_⟩
 .simp only[uBY,vCS,rA7,rCX,rE7]at hx
  rcases hx with rfl | rfl | rfl | rfl
  .left; simp[vJN]
  all_goals right; rfl
 .simp[uBY,vCS,vJN]
theorem zBA(O:List QT):∀ e∈O.map vIY,nr 3 e=true/\e≠.any:=zAR fun x=>⟨rfl,by simp[vIY,vCJ]⟩
theorem vXB:FO 160 Tryz.f160 [.cell 6 46] 20:=mkO Tryz.func160 Tryz.ntmps160 Tryz.results160
theorem zFR(O:List QT)(c:Rat)(v:Int)(q:Rat)(k:Nat)(hq:sz k q)(hk:k<=2147483596)(hO:O.length<2147483648):Fn 160 [uBY O.length c,.int .i64 v,vA5 (cr q)] (.own (some (vJN O)) (uBY (O++nzq v q).length c) (vJN (O++nzq v q))):=by
 have hl:=zBM hq;have cs:=zGC (cr q) (zBE q) zom;have cc:=zNT (cr q) (zBE q) zom zom;rw[zBV]at cs cc;refine vKU vBC hT vXB zsm ?_;refine sts ?_;refine zAA cs rfl ?_
 refine gob ?_ ?_<;>intro h
 .rw[zQE fun e=>h (sgnQ_zero.2 e)]
  refine zAA cc rfl ?_;refine sts ?_;refine zBJ ⟨rfl,by simp[vJN],rAE⟩ ?_;refine sts ?_;refine zL0 (r:=14) ?_ rfl ?_ rfl (fun e he=>(zBA _ e he).1) (vHG _ c)
  .simp[uBY,rk,rk1]
  .simp[vJN,vIY,vCJ,tQ]
 .rw[show q=0 from sgnQ_zero.1 h,zNJ,rBS]
  exact zL0 (r:=0) rfl rfl rfl rfl (fun e he=>(zBA _ e he).1) (vHG _ c)
theorem zFS(c:Rat)(v:Int)(q:Rat)(k:Nat)(hq:sz k q)(hk:k<=2147483596):Fn 160 [uQM c,.int .i64 v,vA5 (cr q)] (.own none (uBY (nzq v q).length c) (vJN (nzq v q))):=by
 have hl:=zBM hq;have cs:=zGC (cr q) (zBE q) zom;have cc:=zNT (cr q) (zBE q) zom zom;rw[zBV]at cs cc;refine vKV vBC hT vXB zsm ?_;refine sts ?_;refine zAA cs rfl ?_
 refine gob ?_ ?_<;>intro h
 .rw[zQE fun e=>h (sgnQ_zero.2 e)]
  refine zAA cc rfl ?_;refine sts ?_;refine zL0 (r:=14) ?_ rfl ?_ rfl (fun e he=>(zBA _ e he).1) (vHG _ c)
  .simp[uBY,rk,rk1]
  .simp[vIY,vCJ,tQ]
 .rw[show q=0 from sgnQ_zero.1 h,zNJ]
  exact vPF rfl rfl (vHG [] c)
def grF:Bool->Nat->Rat->PV
 | true,n,c=>uBY n c
 | false,_,c=>uQM c
def grH:Bool->List QT->List (Nat×Blk)
 | true,O=>[(0,vJN O)]
 | false,_=>[]
def uAT:PV:=.agg [.nilsl,.bool false,.nilsl,.nilsl]
theorem zBN(v:Int)(x:Rat):(nzq v x).length<=1:=by unfold nzq; split<;>simp
theorem zIO{h:Hp}{n:Nat}(x:QT):frz h (n+1) (vIY x)=some (vIY x,[]):=by cases n<;>rfl
theorem zDV(p:QT)(a:List QT):(((p::a).length:Nat):Int) > 0:=by rw[List.length_cons]; omega
theorem vXC:FO 133 Tryz.f133 [.cell 6 46] 113:=mkO Tryz.func133 Tryz.ntmps133 Tryz.results133
set_option maxHeartbeats 1000000 in
theorem vQ1(f g:QF)(c:Rat)(kf kg kc:Nat)(hf:∀ p∈f.ts,sz kf p.2)(hg:∀ p∈g.ts,sz kg p.2)(hfc:sz kf f.c)(hgc:sz kg g.c)(hc:sz kc c)(hk:kf+kg+kc<=950000000)(hl1:f.ts.length<=1048576)(hl2:g.ts.length<=1048576) :
 Fn 133 [vBP f,vBP g,vA5 (cr c)] (.data (vBP (vB4 f g c))):=by
 have q1:=zBM hfc;have q2:=zBM hgc;have q3:=zBM hc;have m0:=zFW hgc hc;have q4:=zBM m0;have cm:=zPA (cr g.c) (cr c) (zBE _) (zBE _) zom zom zom zom;rw[zBV,zBV]at cm;have ca:=vQX (cr f.c) (cr (g.c * c)) (zBE _) (zBE _) zom zom zom zom;rw[zBV,zBV]at ca;refine zAM vBC hT vXC (by simp[vBP]) ?_;refine sts ?_;refine zAA cm rfl ?_;refine sts ?_;refine zAA ca rfl ?_;refine sts ?_;obtain⟨C,hC⟩:∃ C,f.c+g.c * c=C:=⟨_,rfl⟩;obtain⟨M,hM⟩:∃ M,mrg c f.ts g.ts=M:=⟨_,rfl⟩;unfold vB4;rw[hM];simp only[hC];clear ca cm
 refine zAO hT (fun((a,b,O,s):List QT×List QT×List QT×Bool)=>[(5,.ptr 1 0 0),(6,.ptr 2 0 0),(7,.ptr 3 0 0),(8,.imm (a.map vIY)),(9,.imm (b.map vIY))])
  (fun(a,b,O,s)=>(1,⟨[vA5 (cr c)],3,true⟩)::(2,⟨[uAT],4,true⟩)::(3,⟨[grF s O.length C],4,true⟩)::grH s O) [] 4
  (fun(a,b,O,s)=>(s=false->O=[])/\O++mrg c a b=M/\(∀ p∈a,sz kf p.2)/\(∀ p∈b,sz kg p.2)/\a.length+b.length+O.length<=2147483648)
  (fun(a,b,_,_)=>a.length+b.length) (f.ts,g.ts,[],false) ⟨fun _=>rfl,hM,hf,hg,rAE⟩ zdd zsm ?_ ?_
 .exact⟨[0,2,3,12],[],[],[],ttt,⟨apx,apx,apx,rAJ,rAJ,rGW⟩,
   ⟨bbx,bbx,bbx,rGW⟩,by simp[ren,grH]⟩
 intro⟨a,b,O,s⟩ ⟨i1,i2,i3,i4,i5⟩;rcases a with _ | ⟨p,a⟩<;>rcases b with _ | ⟨q,b⟩<;>cases s
 .refine sts ?_
  rw[mrg,rBS]at i2;have hO:=i1 rfl;subst hO;subst i2;exact rGX
 .refine sts ?_
  rw[mrg,rBS]at i2;subst i2;exact zAB (zBZ (zAD (zAI rfl rfl rfl (fun x=>zIO x)) rfl)) rfl
 .refine gob ?_ ?_<;>intro h
  .have hq:=i4 q zsm
   have hqc:=zFW hq hc;have l1:=zBM hq;have cm:=zPA (cr q.2) (cr c) (zBE _) (zBE _) zom zom zom zom;rw[zBV,zBV]at cm;refine zAA cm rfl ?_;refine sts ?_;refine zCB (zFS C q.1 (q.2 * c) _ hqc zom) rfl ?_;refine sts ?_;refine zB2 (l':=b) zsm ?_;refine sts ?_;have nl:=zBN q.1 (q.2 * c)
   exact⟨([],b,nzq q.1 (q.2 * c),true),⟨⟨zsm,by rw[mrg]at i2; rw[i1 rfl,List.nil_append]at i2; exact i2,fun r hr=>i3 r rAF,fun r hr=>i4 r rAF,by simp at i5 ⊢; omega⟩,by simp; try omega⟩,[_,_,_,_],[],[],[],ttt,⟨(apy rfl),(apy rfl),(apy rfl),zAE rfl rfl,zAE rfl rfl,rGW⟩,
    ⟨bbx,bbx,zAJ zdd rfl ⟨⟨zdd,rfl⟩,rfl,rfl,rfl,rGW⟩ rfl rfl,zAG zdd rfl rfl (zBA _) rfl,rGW⟩,by simp[ren,grH]⟩
  .exact absurd h zsm
 .refine gob ?_ ?_<;>intro h
  .have hq:=i4 q zsm
   have hqc:=zFW hq hc;have l1:=zBM hq;have cm:=zPA (cr q.2) (cr c) (zBE _) (zBE _) zom zom zom zom;rw[zBV,zBV]at cm;refine zAA cm rfl ?_;refine sts ?_;refine zBS (r:=0) (zFR O C q.1 (q.2 * c) _ hqc zom zom) rfl rfl rfl rfl (zF0 (zBA O)) ?_;refine sts ?_;refine zB2 (l':=b) zsm ?_;refine sts ?_;have nl:=zBN q.1 (q.2 * c)
   exact⟨([],b,O++nzq q.1 (q.2 * c),true),⟨⟨zsm,by rw[mrg]at i2; rw[rBG]; exact i2,fun r hr=>i3 r rAF,fun r hr=>i4 r rAF,by simp at i5 ⊢; omega⟩,by simp; try omega⟩,[_,_,_,_],[],[],[],ttt,⟨(apy rfl),(apy rfl),(apy rfl),zAE rfl rfl,zAE rfl rfl,rGW⟩,
    ⟨bbx,bbx,zAJ zdd rfl ⟨⟨zdd,rfl⟩,rfl,rfl,rfl,rGW⟩ rfl rfl,zAG zdd rfl rfl (zBA _) rfl,rGW⟩,by simp[ren,grH]⟩
  .exact absurd h zsm
 .refine gob ?_ ?_<;>intro h
  .have hp:=i3 p zsm
   refine zCB (zFS C p.1 p.2 _ hp zom) rfl ?_;refine sts ?_;refine zB2 (l':=a) zsm ?_;refine sts ?_;have nl:=zBN p.1 p.2
   exact⟨(a,[],nzq p.1 p.2,true),⟨⟨zsm,by rw[mrg]at i2; rw[i1 rfl,List.nil_append]at i2; exact i2,fun r hr=>i3 r rAF,fun r hr=>i4 r rAF,by simp at i5 ⊢; omega⟩,by simp; try omega⟩,[_,_,_,_],[],[],[],ttt,⟨(apy rfl),(apy rfl),(apy rfl),zAE rfl rfl,zAE rfl rfl,rGW⟩,
    ⟨bbx,bbx,zAJ zdd rfl ⟨⟨zdd,rfl⟩,rfl,rfl,rfl,rGW⟩ rfl rfl,zAG zdd rfl rfl (zBA _) rfl,rGW⟩,by simp[ren,grH]⟩
  all_goals first | contradiction | exact absurd (zDV _ _) h | exact absurd (zDV p a) rAC | exact absurd (zDV q b) rAC
 .refine gob ?_ ?_<;>intro h
  .have hp:=i3 p zsm
   refine zBS (r:=0) (zFR O C p.1 p.2 _ hp zom zom) rfl rfl rfl rfl (zF0 (zBA O)) ?_;refine sts ?_;refine zB2 (l':=a) zsm ?_;refine sts ?_;have nl:=zBN p.1 p.2
   exact⟨(a,[],O++nzq p.1 p.2,true),⟨⟨zsm,by rw[mrg]at i2; rw[rBG]; exact i2,fun r hr=>i3 r rAF,fun r hr=>i4 r rAF,by simp at i5 ⊢; omega⟩,by simp; try omega⟩,[_,_,_,_],[],[],[],ttt,⟨(apy rfl),(apy rfl),(apy rfl),zAE rfl rfl,zAE rfl rfl,rGW⟩,
    ⟨bbx,bbx,zAJ zdd rfl ⟨⟨zdd,rfl⟩,rfl,rfl,rfl,rGW⟩ rfl rfl,zAG zdd rfl rfl (zBA _) rfl,rGW⟩,by simp[ren,grH]⟩
  all_goals first | contradiction | exact absurd (zDV _ _) h | exact absurd (zDV p a) rAC | exact absurd (zDV q b) rAC
 ·(repeat' (first|refine stp ?_|with_reducible(refine brr ?_ ?_<;>intro h)));all_goals try(conv=>whnf)
  .have hp:=i3 p zsm
   refine zCB (zFS C p.1 p.2 _ hp zom) rfl ?_;refine sts ?_;refine zB2 (l':=a) zsm ?_;refine sts ?_;have nl:=zBN p.1 p.2
   exact⟨(a,q::b,nzq p.1 p.2,true),⟨⟨zsm,by rw[mrg,rAV (show p.1<q.1 from h)]at i2; rw[i1 rfl,List.nil_append]at i2; exact i2,fun r hr=>i3 r rAF,fun r hr=>i4 r rAF,by simp at i5 ⊢; omega⟩,by simp; try omega⟩,[_,_,_,_],[],[],[],ttt,⟨(apy rfl),(apy rfl),(apy rfl),zAE rfl rfl,zAE rfl rfl,rGW⟩,
    ⟨bbx,bbx,zAJ zdd rfl ⟨⟨zdd,rfl⟩,rfl,rfl,rfl,rGW⟩ rfl rfl,zAG zdd rfl rfl (zBA _) rfl,rGW⟩,by simp[ren,grH]⟩
  .have hq:=i4 q zsm
   have hqc:=zFW hq hc;have l1:=zBM hq;have cm:=zPA (cr q.2) (cr c) (zBE _) (zBE _) zom zom zom zom;rw[zBV,zBV]at cm;refine zAA cm rfl ?_;refine sts ?_;refine zCB (zFS C q.1 (q.2 * c) _ hqc zom) rfl ?_;refine sts ?_;refine zB2 (l':=b) zsm ?_;refine sts ?_;have nl:=zBN q.1 (q.2 * c)
   exact⟨(p::a,b,nzq q.1 (q.2 * c),true),⟨⟨zsm,by rw[mrg,rAN (show ¬ p.1<q.1 from ‹¬ (tQ p).var<(tQ q).var›),rAV (show q.1<p.1 from h)]at i2; rw[i1 rfl,List.nil_append]at i2; exact i2,fun r hr=>i3 r rAF,fun r hr=>i4 r rAF,by simp at i5 ⊢; omega⟩,by simp; try omega⟩,[_,_,_,_],[],[],[],ttt,⟨(apy rfl),(apy rfl),(apy rfl),zAE rfl rfl,zAE rfl rfl,rGW⟩,
    ⟨bbx,bbx,zAJ zdd rfl ⟨⟨zdd,rfl⟩,rfl,rfl,rfl,rGW⟩ rfl rfl,zAG zdd rfl rfl (zBA _) rfl,rGW⟩,by simp[ren,grH]⟩
  .have hq:=i4 q zsm
   have hqc:=zFW hq hc;have l1:=zBM hq;have cm:=zPA (cr q.2) (cr c) (zBE _) (zBE _) zom zom zom zom;rw[zBV,zBV]at cm;have hp:=i3 p zsm;have hpq:=zG9 hp hqc;have l2:=zBM hp;have l3:=zBM hqc;have ca:=vQX (cr p.2) (cr (q.2 * c)) (zBE _) (zBE _) zom zom zom zom;rw[zBV,zBV]at ca;refine zAA cm rfl ?_;refine sts ?_;refine zAA ca rfl ?_;refine sts ?_;refine zCB (zFS C p.1 (p.2+q.2 * c) _ hpq zom) rfl ?_;refine sts ?_;refine zB2 (l':=a) zsm ?_;refine sts ?_;refine zB2 (l':=b) zsm ?_;refine sts ?_;have nl:=zBN p.1 (p.2+q.2 * c)
   exact⟨(a,b,nzq p.1 (p.2+q.2 * c),true),⟨⟨zsm,by rw[mrg,rAN (show ¬ p.1<q.1 from ‹¬ (tQ p).var<(tQ q).var›),rAN (show ¬ q.1<p.1 from h)]at i2; rw[i1 rfl,List.nil_append]at i2; exact i2,fun r hr=>i3 r rAF,fun r hr=>i4 r rAF,by simp at i5 ⊢; omega⟩,by simp; try omega⟩,[_,_,_,_],[],[],[],ttt,⟨(apy rfl),(apy rfl),(apy rfl),zAE rfl rfl,zAE rfl rfl,rGW⟩,
    ⟨bbx,bbx,zAJ zdd rfl ⟨⟨zdd,rfl⟩,rfl,rfl,rfl,rGW⟩ rfl rfl,zAG zdd rfl rfl (zBA _) rfl,rGW⟩,by simp[ren,grH]⟩
  all_goals first | contradiction | exact absurd (zDV _ _) h | exact absurd (zDV p a) rAC | exact absurd (zDV q b) rAC
 ·(repeat' (first|refine stp ?_|with_reducible(refine brr ?_ ?_<;>intro h)));all_goals try(conv=>whnf)
  .have hp:=i3 p zsm
   refine zBS (r:=0) (zFR O C p.1 p.2 _ hp zom zom) rfl rfl rfl rfl (zF0 (zBA O)) ?_;refine sts ?_;refine zB2 (l':=a) zsm ?_;refine sts ?_;have nl:=zBN p.1 p.2
   exact⟨(a,q::b,O++nzq p.1 p.2,true),⟨⟨zsm,by rw[mrg,rAV (show p.1<q.1 from h)]at i2; rw[rBG]; exact i2,fun r hr=>i3 r rAF,fun r hr=>i4 r rAF,by simp at i5 ⊢; omega⟩,by simp; try omega⟩,[_,_,_,_],[],[],[],ttt,⟨(apy rfl),(apy rfl),(apy rfl),zAE rfl rfl,zAE rfl rfl,rGW⟩,
    ⟨bbx,bbx,zAJ zdd rfl ⟨⟨zdd,rfl⟩,rfl,rfl,rfl,rGW⟩ rfl rfl,zAG zdd rfl rfl (zBA _) rfl,rGW⟩,by simp[ren,grH]⟩
  .have hq:=i4 q zsm
   have hqc:=zFW hq hc;have l1:=zBM hq;have cm:=zPA (cr q.2) (cr c) (zBE _) (zBE _) zom zom zom zom;rw[zBV,zBV]at cm;refine zAA cm rfl ?_;refine sts ?_;refine zBS (r:=0) (zFR O C q.1 (q.2 * c) _ hqc zom zom) rfl rfl rfl rfl (zF0 (zBA O)) ?_;refine sts ?_;refine zB2 (l':=b) zsm ?_;refine sts ?_;have nl:=zBN q.1 (q.2 * c)
   exact⟨(p::a,b,O++nzq q.1 (q.2 * c),true),⟨⟨zsm,by rw[mrg,rAN (show ¬ p.1<q.1 from ‹¬ (tQ p).var<(tQ q).var›),rAV (show q.1<p.1 from h)]at i2; rw[rBG]; exact i2,fun r hr=>i3 r rAF,fun r hr=>i4 r rAF,by simp at i5 ⊢; omega⟩,by simp; try omega⟩,[_,_,_,_],[],[],[],ttt,⟨(apy rfl),(apy rfl),(apy rfl),zAE rfl rfl,zAE rfl rfl,rGW⟩,
    ⟨bbx,bbx,zAJ zdd rfl ⟨⟨zdd,rfl⟩,rfl,rfl,rfl,rGW⟩ rfl rfl,zAG zdd rfl rfl (zBA _) rfl,rGW⟩,by simp[ren,grH]⟩
  .have hq:=i4 q zsm
   have hqc:=zFW hq hc;have l1:=zBM hq;have cm:=zPA (cr q.2) (cr c) (zBE _) (zBE _) zom zom zom zom;rw[zBV,zBV]at cm;have hp:=i3 p zsm;have hpq:=zG9 hp hqc;have l2:=zBM hp;have l3:=zBM hqc;have ca:=vQX (cr p.2) (cr (q.2 * c)) (zBE _) (zBE _) zom zom zom zom;rw[zBV,zBV]at ca;refine zAA cm rfl ?_;refine sts ?_;refine zAA ca rfl ?_;refine sts ?_;refine zBS (r:=0) (zFR O C p.1 (p.2+q.2 * c) _ hpq zom zom) rfl rfl rfl rfl (zF0 (zBA O)) ?_;refine sts ?_;refine zB2 (l':=a) zsm ?_;refine sts ?_;refine zB2 (l':=b) zsm ?_;refine sts ?_;have nl:=zBN p.1 (p.2+q.2 * c)
   exact⟨(a,b,O++nzq p.1 (p.2+q.2 * c),true),⟨⟨zsm,by rw[mrg,rAN (show ¬ p.1<q.1 from ‹¬ (tQ p).var<(tQ q).var›),rAN (show ¬ q.1<p.1 from h)]at i2; rw[rBG]; exact i2,fun r hr=>i3 r rAF,fun r hr=>i4 r rAF,by simp at i5 ⊢; omega⟩,by simp; try omega⟩,[_,_,_,_],[],[],[],ttt,⟨(apy rfl),(apy rfl),(apy rfl),zAE rfl rfl,zAE rfl rfl,rGW⟩,
    ⟨bbx,bbx,zAJ zdd rfl ⟨⟨zdd,rfl⟩,rfl,rfl,rfl,rGW⟩ rfl rfl,zAG zdd rfl rfl (zBA _) rfl,rGW⟩,by simp[ren,grH]⟩
  all_goals first | contradiction | exact absurd (zDV _ _) h | exact absurd (zDV p a) rAC | exact absurd (zDV q b) rAC
theorem uIW:FO 99 Tryz.f99 [.cell 4 46] 9:=mkO Tryz.func99 Tryz.ntmps99 Tryz.results99
theorem zHB(f g:QF)(kf kg:Nat)(hf:szF kf f)(hg:szF kg g)(hk:kf+kg<=949999990)(hl1:f.ts.length<=1048576)(hl2:g.ts.length<=1048576):Fn 99 [vBP f,vBP g] (.data (vBP (vB4 f g (-1)))):=by
 have cm:=vQ1 f g ((-1:Int):Rat) kf kg 1 hf.2 hg.2 hf.1 hg.1 (zFE zdd) zom hl1 hl2;have co:=uKU (-1) zdd;rw[show((-1:Int):Rat)=-1 by rfl]at cm co;refine zAM vBC hT uIW (by simp[vBP]) ?_;refine sts ?_;refine zAA co rfl ?_;refine sts ?_;refine zAA cm rfl ?_;refine sts ?_;exact rGX
theorem vXA:FO 135 Tryz.f135 [.cell 4 46] 9:=mkO Tryz.func135 Tryz.ntmps135 Tryz.results135
theorem zLC(f:QF)(c:Rat)(kf kc:Nat)(hf:szF kf f)(hc:sz kc c)(hk:kf+kc<=949999990)(hl1:f.ts.length<=1048576):Fn 135 [vBP f,vA5 (cr c)] (.data (vBP (vB4 zeroQ f c))):=by
 have cm:=vQ1 zeroQ f c 1 kf kc (zEH 1 zdd).2 hf.2 (zEH 1 zdd).1 hf.1 hc zom (by simp[zeroQ]) hl1;rw[zA9]at cm;refine zAM vBC hT vXA (by simp[vBP]) ?_;refine sts ?_;refine zAA cm rfl ?_;refine sts ?_;exact rGX
end Go.PI.Tryz
