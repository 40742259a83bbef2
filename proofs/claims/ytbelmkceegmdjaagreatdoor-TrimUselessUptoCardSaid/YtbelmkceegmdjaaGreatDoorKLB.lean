/-
  Affine forms: Add, Sub, Scale, Eval.
-/
import Derived.Test.YtbelmkceegmdjaaGreatDoorKIB
set_option linter.unusedVariables false
set_option linter.unusedSimpArgs false
set_option maxHeartbeats 0
namespace Go.PI.Tryz
open Go.Proofs Go.PI
theorem vW9:FO 63 Tryz.f63 [.tmp 4] 56:=mkO Tryz.func63 Tryz.ntmps63 Tryz.results63
theorem zM9(f:AffL)(n:Int)(hf:okA 2147483596 f):Fn 63 [vBM f,.int .i64 n] (.data (.bool (vC4 f n))):=by
 obtain⟨hc,ht,hl⟩:=hf;refine zAL vBC hT vW9 (by simp[vBM]) ?_;refine sts ?_
 refine zAN hT (fun(i:Nat)=>[(1,.int .i64 n),(2,.ptr 0 0 0),(8,.imm (f.terms.map vCB)),(9,.int .i64 f.terms.length),(10,.int .i64 i)]) (fun _=>[(0,⟨[vBM f],4,true⟩)]) [] 1
  (fun i=>i<=f.terms.length/\∀ j,j<i->okT f.terms n j) (fun i=>f.terms.length - i) 0 ⟨rA7 _,fun j h=>zom⟩ zdd zsm ?_ ?_
 .exact⟨[0],[],[],[],ttt,⟨rAI,apx,rAJ,zAC rfl zsm,rAI,rGU⟩,⟨bbx,rGU⟩,rAA⟩
 intro i ⟨i1,i2⟩;have hcv:=zG6 f.const hc.1 (by have:=hc.2; omega) (by have:=hc.2; omega);by_cases hi:i<f.terms.length
 .have hq:=vXN (f:=f) ⟨hc,ht,hl⟩ hi
  have cs:=zF8 f.terms[i]!.coef hq.1 (by have:=hq.2; omega);have cv:=zG6 f.terms[i]!.coef hq.1 (by have:=hq.2; omega) (by have:=hq.2; omega)
  (repeat' (first|refine stp ?_|with_reducible(refine brr ?_ ?_<;>intro h)));all_goals try(conv=>whnf)
  .exact zAB rfl (rA3 PV.bool (zBT (i:=i) zom fun e=>by have:=e.1; omega))
  .exact zAB rfl (rA3 PV.bool (zBT (i:=i) zom fun e=>by have:=e.2.1; omega))
  .refine zA5 (j:=i - 1) zom zom ?_
   refine gob ?_ ?_<;>intro h
   .exact zAB rfl (rA3 PV.bool (zBT (i:=i) zom fun e=>by have:=e.2.2.1 zom; omega))
   refine zAA cs rfl ?_
   refine gob ?_ ?_<;>intro h
   .exact zAB rfl (rA3 PV.bool (zBT (i:=i) zom fun e=>e.2.2.2.1 (sgnQ_zero.1 h)))
   .refine zAA cv rfl ?_
    refine gob ?_ ?_<;>intro h
    .refine⟨i+1,⟨⟨zom,fun j hj=>?_⟩,by show f.terms.length - (i+1)<f.terms.length - i; omega⟩,[0],[],[],[],ttt,⟨rAI,apx,rAJ,rAI,zAC rfl zom,rGU⟩,⟨bbx,rGU⟩,rAA⟩
     rcases rB7 (rCA hj) with hj | rfl
     .exact i2 j hj
     .exact⟨zom,zom,fun h0=>by omega,fun e=>by have:=sgnQ_zero.2 e; omega,h⟩
    .exact zAB rfl (rA3 PV.bool (zBT (i:=i) zom fun e=>h e.2.2.2.2))
  .refine zAA cs rfl ?_
   refine gob ?_ ?_<;>intro h
   .exact zAB rfl (rA3 PV.bool (zBT (i:=i) zom fun e=>e.2.2.2.1 (sgnQ_zero.1 h)))
   .refine zAA cv rfl ?_
    refine gob ?_ ?_<;>intro h
    .refine⟨i+1,⟨⟨zom,fun j hj=>?_⟩,by show f.terms.length - (i+1)<f.terms.length - i; omega⟩,[0],[],[],[],ttt,⟨rAI,apx,rAJ,rAI,zAC rfl zom,rGU⟩,⟨bbx,rGU⟩,rAA⟩
     rcases rB7 (rCA hj) with hj | rfl
     .exact i2 j hj
     .exact⟨zom,zom,fun h0=>by omega,fun e=>by have:=sgnQ_zero.2 e; omega,h⟩
    .exact zAB rfl (rA3 PV.bool (zBT (i:=i) zom fun e=>h e.2.2.2.2))
  .omega
 ·(repeat' (first|refine stp ?_|with_reducible(refine brr ?_ ?_<;>intro h)));all_goals try(conv=>whnf)
  all_goals try (exfalso; omega)
  refine zAA hcv rfl ?_;refine sts ?_;exact zAB rfl (rA3 PV.bool (zO1 fun j hj=>i2 j zom))
def uB0(n:Nat)(c:Rat):PV:=.agg [.own 0 0 n,.bool (cr c).neg,vBK (cr c).num,vBK (cr c).den]
def uQR(c:Rat):PV:=.agg [.nilsl,.bool (cr c).neg,vBK (cr c).num,vBK (cr c).den]
def vJF(O:List QT):Blk:=⟨O.map vIN,4,true⟩
theorem vHA(O:List QT)(c:Rat):vJ2 (vJF O) (uB0 O.length c):=by
 refine rAW ⟨fun x hx=>?_,?_⟩
 .simp only[uB0,vCQ,rBA,rCX,rE0]at hx
  rcases hx with rfl | rfl | rfl | rfl
  .left; simp[vJF]
  all_goals right; rfl
 .simp[uB0,vCQ,vJF]
theorem zA8(O:List QT):∀ e∈O.map vIN,nr 3 e=true/\e≠.any:=zAQ fun x=>⟨rfl,by simp[vIN,vCB]⟩
theorem vXB:FO 160 Tryz.f160 [.cell 6 46] 20:=mkO Tryz.func160 Tryz.ntmps160 Tryz.results160
theorem zFL(O:List QT)(c:Rat)(v:Int)(q:Rat)(k:Nat)(hq:sz k q)(hk:k<=2147483596)(hO:O.length<2147483648):Fn 160 [uB0 O.length c,.int .i64 v,vA5 (cr q)] (.own (some (vJF O)) (uB0 (O++nzq v q).length c) (vJF (O++nzq v q))):=by
 have hl:=zBM hq;have cs:=zF8 (cr q) (zBE q) zom;have cc:=zM8 (cr q) (zBE q) zom zom;rw[zBW]at cs cc;refine vKN vBC hT vXB zsm ?_;refine sts ?_;refine zAA cs rfl ?_
 refine gob ?_ ?_<;>intro h
 .rw[zPK fun e=>h (sgnQ_zero.2 e)]
  refine zAA cc rfl ?_;refine sts ?_;refine zBN ⟨rfl,by simp[vJF],rAE⟩ ?_;refine sts ?_;refine zLI (r:=14) ?_ rfl ?_ rfl (fun e he=>(zA8 _ e he).1) (vHA _ c)
  .simp[uB0,rk,rk1]
  .simp[vJF,vIN,vCB,tQ]
 .rw[show q=0 from sgnQ_zero.1 h,zMX,rBQ]
  exact zLI (r:=0) rfl rfl rfl rfl (fun e he=>(zA8 _ e he).1) (vHA _ c)
theorem zFM(c:Rat)(v:Int)(q:Rat)(k:Nat)(hq:sz k q)(hk:k<=2147483596):Fn 160 [uQR c,.int .i64 v,vA5 (cr q)] (.own none (uB0 (nzq v q).length c) (vJF (nzq v q))):=by
 have hl:=zBM hq;have cs:=zF8 (cr q) (zBE q) zom;have cc:=zM8 (cr q) (zBE q) zom zom;rw[zBW]at cs cc;refine vKO vBC hT vXB zsm ?_;refine sts ?_;refine zAA cs rfl ?_
 refine gob ?_ ?_<;>intro h
 .rw[zPK fun e=>h (sgnQ_zero.2 e)]
  refine zAA cc rfl ?_;refine sts ?_;refine zLI (r:=14) ?_ rfl ?_ rfl (fun e he=>(zA8 _ e he).1) (vHA _ c)
  .simp[uB0,rk,rk1]
  .simp[vIN,vCB,tQ]
 .rw[show q=0 from sgnQ_zero.1 h,zMX]
  exact vOZ rfl rfl (vHA [] c)
def grF:Bool->Nat->Rat->PV
 | true,n,c=>uB0 n c
 | false,_,c=>uQR c
def grH:Bool->List QT->List (Nat×Blk)
 | true,O=>[(0,vJF O)]
 | false,_=>[]
def uAR:PV:=.agg [.nilsl,.bool false,.nilsl,.nilsl]
theorem zBO(v:Int)(x:Rat):(nzq v x).length<=1:=by unfold nzq; split<;>simp
theorem zII{h:Hp}{n:Nat}(x:QT):frz h (n+1) (vIN x)=some (vIN x,[]):=by cases n<;>rfl
theorem zDQ(p:QT)(a:List QT):(((p::a).length:Nat):Int) > 0:=by rw[List.length_cons]; omega
theorem vXC:FO 133 Tryz.f133 [.cell 6 46] 113:=mkO Tryz.func133 Tryz.ntmps133 Tryz.results133
set_option maxHeartbeats 1000000 in
theorem vQV(f g:QF)(c:Rat)(kf kg kc:Nat)(hf:∀ p∈f.ts,sz kf p.2)(hg:∀ p∈g.ts,sz kg p.2)(hfc:sz kf f.c)(hgc:sz kg g.c)(hc:sz kc c)(hk:kf+kg+kc<=950000000)(hl1:f.ts.length<=1048576)(hl2:g.ts.length<=1048576) :
 Fn 133 [vBP f,vBP g,vA5 (cr c)] (.data (vBP (vB3 f g c))):=by
 have q1:=zBM hfc;have q2:=zBM hgc;have q3:=zBM hc;have m0:=zFR hgc hc;have q4:=zBM m0;have cm:=zOM (cr g.c) (cr c) (zBE _) (zBE _) zom zom zom zom;rw[zBW,zBW]at cm;have ca:=vQR (cr f.c) (cr (g.c * c)) (zBE _) (zBE _) zom zom zom zom;rw[zBW,zBW]at ca;refine zAL vBC hT vXC (by simp[vBP]) ?_;refine sts ?_;refine zAA cm rfl ?_;refine sts ?_;refine zAA ca rfl ?_;refine sts ?_;obtain⟨C,hC⟩:∃ C,f.c+g.c * c=C:=⟨_,rfl⟩;obtain⟨M,hM⟩:∃ M,mrg c f.ts g.ts=M:=⟨_,rfl⟩;unfold vB3;rw[hM];simp only[hC];clear ca cm
 refine zAN hT (fun((a,b,O,s):List QT×List QT×List QT×Bool)=>[(5,.ptr 1 0 0),(6,.ptr 2 0 0),(7,.ptr 3 0 0),(8,.imm (a.map vIN)),(9,.imm (b.map vIN))])
  (fun(a,b,O,s)=>(1,⟨[vA5 (cr c)],3,true⟩)::(2,⟨[uAR],4,true⟩)::(3,⟨[grF s O.length C],4,true⟩)::grH s O) [] 4
  (fun(a,b,O,s)=>(s=false->O=[])/\O++mrg c a b=M/\(∀ p∈a,sz kf p.2)/\(∀ p∈b,sz kg p.2)/\a.length+b.length+O.length<=2147483648)
  (fun(a,b,_,_)=>a.length+b.length) (f.ts,g.ts,[],false) ⟨fun _=>rfl,hM,hf,hg,rAE⟩ zdd zsm ?_ ?_
 .exact⟨[0,2,3,12],[],[],[],ttt,⟨apx,apx,apx,rAJ,rAJ,rGU⟩,
   ⟨bbx,bbx,bbx,rGU⟩,by simp[ren,grH]⟩
 intro⟨a,b,O,s⟩ ⟨i1,i2,i3,i4,i5⟩;rcases a with _ | ⟨p,a⟩<;>rcases b with _ | ⟨q,b⟩<;>cases s
 .refine sts ?_
  rw[mrg,rBQ]at i2;have hO:=i1 rfl;subst hO;subst i2;exact rGV
 .refine sts ?_
  rw[mrg,rBQ]at i2;subst i2;exact zAB (zBZ (zAD (zAI rfl rfl rfl (fun x=>zII x)) rfl)) rfl
 ·refine gob ?_ ?_<;>intro h
  .have hq:=i4 q zsm
   have hqc:=zFR hq hc;have l1:=zBM hq;have cm:=zOM (cr q.2) (cr c) (zBE _) (zBE _) zom zom zom zom;rw[zBW,zBW]at cm;refine zAA cm rfl ?_;refine sts ?_;refine zCB (zFM C q.1 (q.2 * c) _ hqc zom) rfl ?_;refine sts ?_;refine zCE (l':=b) zsm ?_;refine sts ?_;have nl:=zBO q.1 (q.2 * c)
   exact⟨([],b,nzq q.1 (q.2 * c),true),⟨⟨zsm,by rw[mrg]at i2; rw[i1 rfl,List.nil_append]at i2; exact i2,fun r hr=>i3 r rAF,fun r hr=>i4 r rAF,by simp at i5 ⊢; omega⟩,by simp; try omega⟩,[_,_,_,_],[],[],[],ttt,⟨(apy rfl),(apy rfl),(apy rfl),zAE rfl rfl,zAE rfl rfl,rGU⟩,
    ⟨bbx,bbx,zAH zdd rfl ⟨⟨zdd,rfl⟩,rfl,rfl,rfl,rGU⟩ rfl rfl,zAF zdd rfl rfl (zA8 _) rfl,rGU⟩,by simp[ren,grH]⟩
  .exact absurd h zsm
 ·refine gob ?_ ?_<;>intro h
  .have hq:=i4 q zsm
   have hqc:=zFR hq hc;have l1:=zBM hq;have cm:=zOM (cr q.2) (cr c) (zBE _) (zBE _) zom zom zom zom;rw[zBW,zBW]at cm;refine zAA cm rfl ?_;refine sts ?_;refine zBU (r:=0) (zFL O C q.1 (q.2 * c) _ hqc zom zom) rfl rfl rfl rfl (zFW (zA8 O)) ?_;refine sts ?_;refine zCE (l':=b) zsm ?_;refine sts ?_;have nl:=zBO q.1 (q.2 * c)
   exact⟨([],b,O++nzq q.1 (q.2 * c),true),⟨⟨zsm,by rw[mrg]at i2; rw[rBB]; exact i2,fun r hr=>i3 r rAF,fun r hr=>i4 r rAF,by simp at i5 ⊢; omega⟩,by simp; try omega⟩,[_,_,_,_],[],[],[],ttt,⟨(apy rfl),(apy rfl),(apy rfl),zAE rfl rfl,zAE rfl rfl,rGU⟩,
    ⟨bbx,bbx,zAH zdd rfl ⟨⟨zdd,rfl⟩,rfl,rfl,rfl,rGU⟩ rfl rfl,zAF zdd rfl rfl (zA8 _) rfl,rGU⟩,by simp[ren,grH]⟩
  .exact absurd h zsm
 ·refine gob ?_ ?_<;>intro h
  .have hp:=i3 p zsm
   refine zCB (zFM C p.1 p.2 _ hp zom) rfl ?_;refine sts ?_;refine zCE (l':=a) zsm ?_;refine sts ?_;have nl:=zBO p.1 p.2
   exact⟨(a,[],nzq p.1 p.2,true),⟨⟨zsm,by rw[mrg]at i2; rw[i1 rfl,List.nil_append]at i2; exact i2,fun r hr=>i3 r rAF,fun r hr=>i4 r rAF,by simp at i5 ⊢; omega⟩,by simp; try omega⟩,[_,_,_,_],[],[],[],ttt,⟨(apy rfl),(apy rfl),(apy rfl),zAE rfl rfl,zAE rfl rfl,rGU⟩,
    ⟨bbx,bbx,zAH zdd rfl ⟨⟨zdd,rfl⟩,rfl,rfl,rfl,rGU⟩ rfl rfl,zAF zdd rfl rfl (zA8 _) rfl,rGU⟩,by simp[ren,grH]⟩
  all_goals first | contradiction | exact absurd (zDQ _ _) h | exact absurd (zDQ p a) rAC | exact absurd (zDQ q b) rAC
 ·refine gob ?_ ?_<;>intro h
  .have hp:=i3 p zsm
   refine zBU (r:=0) (zFL O C p.1 p.2 _ hp zom zom) rfl rfl rfl rfl (zFW (zA8 O)) ?_;refine sts ?_;refine zCE (l':=a) zsm ?_;refine sts ?_;have nl:=zBO p.1 p.2
   exact⟨(a,[],O++nzq p.1 p.2,true),⟨⟨zsm,by rw[mrg]at i2; rw[rBB]; exact i2,fun r hr=>i3 r rAF,fun r hr=>i4 r rAF,by simp at i5 ⊢; omega⟩,by simp; try omega⟩,[_,_,_,_],[],[],[],ttt,⟨(apy rfl),(apy rfl),(apy rfl),zAE rfl rfl,zAE rfl rfl,rGU⟩,
    ⟨bbx,bbx,zAH zdd rfl ⟨⟨zdd,rfl⟩,rfl,rfl,rfl,rGU⟩ rfl rfl,zAF zdd rfl rfl (zA8 _) rfl,rGU⟩,by simp[ren,grH]⟩
  all_goals first | contradiction | exact absurd (zDQ _ _) h | exact absurd (zDQ p a) rAC | exact absurd (zDQ q b) rAC
 ·(repeat' (first|refine stp ?_|with_reducible(refine brr ?_ ?_<;>intro h)));all_goals try(conv=>whnf)
  .have hp:=i3 p zsm
   refine zCB (zFM C p.1 p.2 _ hp zom) rfl ?_;refine sts ?_;refine zCE (l':=a) zsm ?_;refine sts ?_;have nl:=zBO p.1 p.2
   exact⟨(a,q::b,nzq p.1 p.2,true),⟨⟨zsm,by rw[mrg,rAU (show p.1<q.1 from h)]at i2; rw[i1 rfl,List.nil_append]at i2; exact i2,fun r hr=>i3 r rAF,fun r hr=>i4 r rAF,by simp at i5 ⊢; omega⟩,by simp; try omega⟩,[_,_,_,_],[],[],[],ttt,⟨(apy rfl),(apy rfl),(apy rfl),zAE rfl rfl,zAE rfl rfl,rGU⟩,
    ⟨bbx,bbx,zAH zdd rfl ⟨⟨zdd,rfl⟩,rfl,rfl,rfl,rGU⟩ rfl rfl,zAF zdd rfl rfl (zA8 _) rfl,rGU⟩,by simp[ren,grH]⟩
  .have hq:=i4 q zsm
   have hqc:=zFR hq hc;have l1:=zBM hq;have cm:=zOM (cr q.2) (cr c) (zBE _) (zBE _) zom zom zom zom;rw[zBW,zBW]at cm;refine zAA cm rfl ?_;refine sts ?_;refine zCB (zFM C q.1 (q.2 * c) _ hqc zom) rfl ?_;refine sts ?_;refine zCE (l':=b) zsm ?_;refine sts ?_;have nl:=zBO q.1 (q.2 * c)
   exact⟨(p::a,b,nzq q.1 (q.2 * c),true),⟨⟨zsm,by rw[mrg,rAM (show ¬ p.1<q.1 from ‹¬ (tQ p).var<(tQ q).var›),rAU (show q.1<p.1 from h)]at i2; rw[i1 rfl,List.nil_append]at i2; exact i2,fun r hr=>i3 r rAF,fun r hr=>i4 r rAF,by simp at i5 ⊢; omega⟩,by simp; try omega⟩,[_,_,_,_],[],[],[],ttt,⟨(apy rfl),(apy rfl),(apy rfl),zAE rfl rfl,zAE rfl rfl,rGU⟩,
    ⟨bbx,bbx,zAH zdd rfl ⟨⟨zdd,rfl⟩,rfl,rfl,rfl,rGU⟩ rfl rfl,zAF zdd rfl rfl (zA8 _) rfl,rGU⟩,by simp[ren,grH]⟩
  .have hq:=i4 q zsm
   have hqc:=zFR hq hc;have l1:=zBM hq;have cm:=zOM (cr q.2) (cr c) (zBE _) (zBE _) zom zom zom zom;rw[zBW,zBW]at cm;have hp:=i3 p zsm;have hpq:=zG9 hp hqc;have l2:=zBM hp;have l3:=zBM hqc;have ca:=vQR (cr p.2) (cr (q.2 * c)) (zBE _) (zBE _) zom zom zom zom;rw[zBW,zBW]at ca;refine zAA cm rfl ?_;refine sts ?_;refine zAA ca rfl ?_;refine sts ?_;refine zCB (zFM C p.1 (p.2+q.2 * c) _ hpq zom) rfl ?_;refine sts ?_;refine zCE (l':=a) zsm ?_;refine sts ?_;refine zCE (l':=b) zsm ?_;refine sts ?_;have nl:=zBO p.1 (p.2+q.2 * c)
   exact⟨(a,b,nzq p.1 (p.2+q.2 * c),true),⟨⟨zsm,by rw[mrg,rAM (show ¬ p.1<q.1 from ‹¬ (tQ p).var<(tQ q).var›),rAM (show ¬ q.1<p.1 from h)]at i2; rw[i1 rfl,List.nil_append]at i2; exact i2,fun r hr=>i3 r rAF,fun r hr=>i4 r rAF,by simp at i5 ⊢; omega⟩,by simp; try omega⟩,[_,_,_,_],[],[],[],ttt,⟨(apy rfl),(apy rfl),(apy rfl),zAE rfl rfl,zAE rfl rfl,rGU⟩,
    ⟨bbx,bbx,zAH zdd rfl ⟨⟨zdd,rfl⟩,rfl,rfl,rfl,rGU⟩ rfl rfl,zAF zdd rfl rfl (zA8 _) rfl,rGU⟩,by simp[ren,grH]⟩
  all_goals first | contradiction | exact absurd (zDQ _ _) h | exact absurd (zDQ p a) rAC | exact absurd (zDQ q b) rAC
 ·(repeat' (first|refine stp ?_|with_reducible(refine brr ?_ ?_<;>intro h)));all_goals try(conv=>whnf)
  .have hp:=i3 p zsm
   refine zBU (r:=0) (zFL O C p.1 p.2 _ hp zom zom) rfl rfl rfl rfl (zFW (zA8 O)) ?_;refine sts ?_;refine zCE (l':=a) zsm ?_;refine sts ?_;have nl:=zBO p.1 p.2
   exact⟨(a,q::b,O++nzq p.1 p.2,true),⟨⟨zsm,by rw[mrg,rAU (show p.1<q.1 from h)]at i2; rw[rBB]; exact i2,fun r hr=>i3 r rAF,fun r hr=>i4 r rAF,by simp at i5 ⊢; omega⟩,by simp; try omega⟩,[_,_,_,_],[],[],[],ttt,⟨(apy rfl),(apy rfl),(apy rfl),zAE rfl rfl,zAE rfl rfl,rGU⟩,
    ⟨bbx,bbx,zAH zdd rfl ⟨⟨zdd,rfl⟩,rfl,rfl,rfl,rGU⟩ rfl rfl,zAF zdd rfl rfl (zA8 _) rfl,rGU⟩,by simp[ren,grH]⟩
  .have hq:=i4 q zsm
   have hqc:=zFR hq hc;have l1:=zBM hq;have cm:=zOM (cr q.2) (cr c) (zBE _) (zBE _) zom zom zom zom;rw[zBW,zBW]at cm;refine zAA cm rfl ?_;refine sts ?_;refine zBU (r:=0) (zFL O C q.1 (q.2 * c) _ hqc zom zom) rfl rfl rfl rfl (zFW (zA8 O)) ?_;refine sts ?_;refine zCE (l':=b) zsm ?_;refine sts ?_;have nl:=zBO q.1 (q.2 * c)
   exact⟨(p::a,b,O++nzq q.1 (q.2 * c),true),⟨⟨zsm,by rw[mrg,rAM (show ¬ p.1<q.1 from ‹¬ (tQ p).var<(tQ q).var›),rAU (show q.1<p.1 from h)]at i2; rw[rBB]; exact i2,fun r hr=>i3 r rAF,fun r hr=>i4 r rAF,by simp at i5 ⊢; omega⟩,by simp; try omega⟩,[_,_,_,_],[],[],[],ttt,⟨(apy rfl),(apy rfl),(apy rfl),zAE rfl rfl,zAE rfl rfl,rGU⟩,
    ⟨bbx,bbx,zAH zdd rfl ⟨⟨zdd,rfl⟩,rfl,rfl,rfl,rGU⟩ rfl rfl,zAF zdd rfl rfl (zA8 _) rfl,rGU⟩,by simp[ren,grH]⟩
  .have hq:=i4 q zsm
   have hqc:=zFR hq hc;have l1:=zBM hq;have cm:=zOM (cr q.2) (cr c) (zBE _) (zBE _) zom zom zom zom;rw[zBW,zBW]at cm;have hp:=i3 p zsm;have hpq:=zG9 hp hqc;have l2:=zBM hp;have l3:=zBM hqc;have ca:=vQR (cr p.2) (cr (q.2 * c)) (zBE _) (zBE _) zom zom zom zom;rw[zBW,zBW]at ca;refine zAA cm rfl ?_;refine sts ?_;refine zAA ca rfl ?_;refine sts ?_;refine zBU (r:=0) (zFL O C p.1 (p.2+q.2 * c) _ hpq zom zom) rfl rfl rfl rfl (zFW (zA8 O)) ?_;refine sts ?_;refine zCE (l':=a) zsm ?_;refine sts ?_;refine zCE (l':=b) zsm ?_;refine sts ?_;have nl:=zBO p.1 (p.2+q.2 * c)
   exact⟨(a,b,O++nzq p.1 (p.2+q.2 * c),true),⟨⟨zsm,by rw[mrg,rAM (show ¬ p.1<q.1 from ‹¬ (tQ p).var<(tQ q).var›),rAM (show ¬ q.1<p.1 from h)]at i2; rw[rBB]; exact i2,fun r hr=>i3 r rAF,fun r hr=>i4 r rAF,by simp at i5 ⊢; omega⟩,by simp; try omega⟩,[_,_,_,_],[],[],[],ttt,⟨(apy rfl),(apy rfl),(apy rfl),zAE rfl rfl,zAE rfl rfl,rGU⟩,
    ⟨bbx,bbx,zAH zdd rfl ⟨⟨zdd,rfl⟩,rfl,rfl,rfl,rGU⟩ rfl rfl,zAF zdd rfl rfl (zA8 _) rfl,rGU⟩,by simp[ren,grH]⟩
  all_goals first | contradiction | exact absurd (zDQ _ _) h | exact absurd (zDQ p a) rAC | exact absurd (zDQ q b) rAC
theorem uI1:FO 99 Tryz.f99 [.cell 4 46] 9:=mkO Tryz.func99 Tryz.ntmps99 Tryz.results99
theorem zHC(f g:QF)(kf kg:Nat)(hf:szF kf f)(hg:szF kg g)(hk:kf+kg<=949999990)(hl1:f.ts.length<=1048576)(hl2:g.ts.length<=1048576):Fn 99 [vBP f,vBP g] (.data (vBP (vB3 f g (-1)))):=by
 have cm:=vQV f g ((-1:Int):Rat) kf kg 1 hf.2 hg.2 hf.1 hg.1 (zE7 zdd) zom hl1 hl2;have co:=uK1 (-1) zdd;rw[show((-1:Int):Rat)=-1 by rfl]at cm co;refine zAL vBC hT uI1 (by simp[vBP]) ?_;refine sts ?_;refine zAA co rfl ?_;refine sts ?_;refine zAA cm rfl ?_;refine sts ?_;exact rGV
theorem vXA:FO 135 Tryz.f135 [.cell 4 46] 9:=mkO Tryz.func135 Tryz.ntmps135 Tryz.results135
theorem zKZ(f:QF)(c:Rat)(kf kc:Nat)(hf:szF kf f)(hc:sz kc c)(hk:kf+kc<=949999990)(hl1:f.ts.length<=1048576):Fn 135 [vBP f,vA5 (cr c)] (.data (vBP (vB3 zeroQ f c))):=by
 have cm:=vQV zeroQ f c 1 kf kc (zEF 1 zdd).2 hf.2 (zEF 1 zdd).1 hf.1 hc zom (by simp[zeroQ]) hl1;rw[zA7]at cm;refine zAL vBC hT vXA (by simp[vBP]) ?_;refine sts ?_;refine zAA cm rfl ?_;refine sts ?_;exact rGV
end Go.PI.Tryz
