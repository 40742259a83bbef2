/-
  The reference's rows: Form.
-/
import Derived.Test.YtbelmkceegmdjaaGreatDoorKKB
set_option linter.unusedVariables false
set_option linter.unusedSimpArgs false
set_option maxHeartbeats 0
namespace Go.PI.Tryz
open Go.Proofs Go.PI
theorem vJV:FO 82 Tryz.f82 [.tmp 2] 57:=mkO Tryz.func82 Tryz.ntmps82 Tryz.results82
theorem uDD{j k:Nat}(h:j<=k){g:GraL}(hg:vHI j g):vHI k g:=⟨⟨hg.1.1,fun f hf=>zCN h (hg.1.2 f hf)⟩,⟨hg.2.1,fun f hf=>zCN h (hg.2.2 f hf)⟩⟩
theorem zOJ(g:GraL)(hg:vHI 950000000 g):Fn 82 [vEF g] (.data (.bool (dB (VaG g)))):=by
 obtain⟨hu,ho⟩:=hg;have no:¬ VaG g->false=dB (VaG g):=zGR;have l1:=hu.1;have l2:=ho.1;have cc:=zMJ g.outs (g.ins+g.units.length) ⟨ho.1,fun f hf=>zCN zdd (ho.2 f hf)⟩;refine zAL vBC hT vJV (by simp[vEF]) ?_
 (repeat' (first|refine stp ?_|with_reducible(refine brr ?_ ?_<;>intro h)));all_goals try(conv=>whnf)
 .exact zAB rfl (rA3 PV.bool (no fun e=>by have:=e.1.1; omega))
 .exact zAB rfl (rA3 PV.bool (no fun e=>by have:=e.1.2; omega))
 .exact zAB rfl (rA3 PV.bool (no fun e=>by have:=e.2.1; omega))
 .exact zAB rfl (rA3 PV.bool (no fun e=>by have:=e.2.2.1.1; omega))
 .exact zAB rfl (rA3 PV.bool (no fun e=>by have:=e.2.2.1.2; omega))
 .have h0:(1<=g.ins/\g.ins<=256)/\g.units.length<=1024/\(1<=g.outs.length/\g.outs.length<=256):=⟨⟨zom,zom⟩,zom,zom,zom⟩
  obtain⟨h1,h2,h3⟩:=h0
  refine zAN hT (fun(i:Nat)=>[(1,.ptr 0 0 0),(3,.int .i64 i)]) (fun _=>[(0,⟨[vEF g],3,true⟩)]) [] 1
   (fun i=>i<=g.units.length/\∀ j,j<i->vB8 g.units[j]! (g.ins+j)) (fun i=>g.units.length - i) 0 ⟨rA7 _,fun j h=>zom⟩ zdd zsm ?_ ?_
  .exact⟨[0],[],[],[],ttt,⟨apx,rAI,rGU⟩,⟨bbx,rGU⟩,rAA⟩
  intro i ⟨i1,i2⟩;by_cases hi:i<g.units.length
  .have c1:=zKX g.units[i]! (g.ins+i) (zCN zdd (hu.2 _ (get_mem hi)))
   refine gob ?_ ?_<;>intro h
   .refine zAA c1 rfl ?_
    refine gob ?_ ?_<;>intro h
    .exact⟨i+1,⟨⟨zom,fun j hj=>zA6 (p:=fun(j:Nat)=>vB8 g.units[j]! (g.ins+j)) i2 (validB_true.1 rAC) hj⟩,by show g.units.length - (i+1)<g.units.length - i; omega⟩,[0],[],[],[],ttt,⟨apx,rAI,rGU⟩,⟨bbx,rGU⟩,rAA⟩
    .exact zAB rfl (rA3 PV.bool (no fun e=>by have:=validB_true.2 (e.2.2.2.1 i hi); simp_all))
   all_goals (exfalso; omega)
  ·refine gob ?_ ?_<;>intro h
   all_goals try (exfalso; omega)
   rw[rAN];refine zAA cc rfl ?_;refine sts ?_;refine zAB rfl (rA3 PV.bool ?_);rw[rA1,dB_true,dB_true];exact⟨fun e=>⟨h1,h2,h3,fun j hj=>i2 j zom,e⟩,fun e=>e.2.2.2.2⟩
theorem vR2:FO 83 Tryz.f83 [.tmp 4] 66:=mkO Tryz.func83 Tryz.ntmps83 Tryz.results83
theorem vZE(r:RegL)(n:Int)(hr:vSO 950000000 r):Fn 83 [vGB r,.int .i64 n] (.data (.bool (dB (VaR r n)))):=by
 obtain⟨hlo,hhi,hrw,hrl⟩:=hr;have no:¬ VaR r n->false=dB (VaR r n):=zGR;have l1:=hlo.1;have l2:=hhi.1;have v1:=zP0 r.lo (zF3 zdd hlo);have v2:=zP0 r.hi (zF3 zdd hhi);have v3:=zMJ r.rows n ⟨hrl,fun f hf=>zCN zdd (hrw f hf)⟩;refine zAL vBC hT vR2 (by simp[vGB]) ?_
 (repeat' (first|refine stp ?_|with_reducible(refine brr ?_ ?_<;>intro h)));all_goals try(conv=>whnf)
 .exact zAB rfl (rA3 PV.bool (no fun e=>by have:=e.1.1; omega))
 .exact zAB rfl (rA3 PV.bool (no fun e=>by have:=e.1.2; omega))
 .exact zAB rfl (rA3 PV.bool (no fun e=>by have:=e.2.1; omega))
 .exact zAB rfl (rA3 PV.bool (no fun e=>by have:=e.2.2.1; omega))
 .exact zAB rfl (rA3 PV.bool (no fun e=>by have:=e.2.2.2.1; omega))
 .have h0:(1<=n/\n<=256)/\(r.lo.length:Int)=n/\(r.hi.length:Int)=n/\r.rows.length<=256:=⟨⟨zom,zom⟩,zom,zom,zom⟩
  obtain⟨h1,h2,h3,h4⟩:=h0;have hh:r.hi.length=r.lo.length:=by omega
  refine zAA v1 rfl ?_
  refine gob ?_ ?_<;>intro h
  rotate_left
  .exact zAB rfl (rA3 PV.bool (no fun e=>dB_false.1 h fun j hj=>(e.2.2.2.2.1 j hj).1))
  refine zAA v2 rfl ?_
  refine gob ?_ ?_<;>intro h
  rotate_left
  .exact zAB rfl (rA3 PV.bool (no fun e=>dB_false.1 h fun j hj=>(e.2.2.2.2.1 j zom).2.1))
  refine zAA v3 rfl ?_
  refine gob ?_ ?_<;>intro h
  rotate_left
  .exact zAB rfl (rA3 PV.bool (no fun e=>dB_false.1 h fun j hj=>e.2.2.2.2.2 j hj))
  have w1:uKK r.lo:=dB_true.1 rAC;have w2:uKK r.hi:=dB_true.1 rAC;have w3:vTX r.rows n:=dB_true.1 rAC
  refine zAN hT (fun(i:Nat)=>[(1,.int .i64 n),(2,.ptr 0 0 0),(5,.int .i64 i)]) (fun _=>[(0,⟨[vGB r],3,true⟩)]) [] 1
   (fun i=>i<=r.lo.length/\∀ j,j<i->qv r.lo[j]! <= qv r.hi[j]!) (fun i=>r.lo.length - i) 0 ⟨rA7 _,fun j h=>zom⟩ zdd zsm ?_ ?_
  .exact⟨[0],[],[],[],ttt,⟨rAI,apx,rAI,rGU⟩,⟨bbx,rGU⟩,rAA⟩
  intro i ⟨i1,i2⟩;by_cases hi:i<r.lo.length
  .have hi2:i<r.hi.length:=by omega
   have q1:=zD2 hlo hi;have q2:=zD2 hhi hi2;have c3:=uKT r.lo[i]! r.hi[i]! q1.1 q2.1 (by have:=q1.2; omega) (by have:=q1.2; omega) (by have:=q2.2; omega) (by have:=q2.2; omega)
   refine gob ?_ ?_<;>intro h
   .refine zAA c3 rfl ?_
    refine gob ?_ ?_<;>intro h
    .exact zAB rfl (rA3 PV.bool (no fun e=>by have:=sgn_le.2 (e.2.2.2.2.1 i hi).2.2; omega))
    .exact⟨i+1,⟨⟨zom,fun j hj=>zA6 (p:=fun j=>qv r.lo[j]! <= qv r.hi[j]!) i2 (sgn_le.1 zom) hj⟩,by show r.lo.length - (i+1)<r.lo.length - i; omega⟩,[0],[],[],[],ttt,⟨rAI,apx,rAI,rGU⟩,⟨bbx,rGU⟩,rAA⟩
   all_goals (exfalso; omega)
  ·refine gob ?_ ?_<;>intro h
   all_goals try (exfalso; omega)
   exact zAB rfl (rA3 PV.bool (vYT ⟨h1,h2,h3,h4,fun j hj=>⟨w1 j hj,w2 j zom,i2 j zom⟩,w3⟩))
def RegL.all(r:RegL):=(r.lo,r.hi,r.rows)
theorem reg_ext{a b:RegL}:a=b↔a.lo=b.lo/\a.hi=b.hi/\a.rows=b.rows:=by cases a; cases b; simp
instance:DecidableEq RegL:=fun a b=>decidable_of_iff (a.lo=b.lo/\a.hi=b.hi/\a.rows=b.rows) reg_ext.symm
theorem vY8:∀ {l:List QT} {p:QT},Srt l->p∈l->cf l p.1=p.2
 | q::l,p,h,hp=>by
   have h':=srt_cons.1 h;simp only[cf];rcases rBA.1 hp with rfl | hp
   .rw[rAU rfl,zMH (fun r hr=>by have:=h'.1 r hr; omega)]; grind
   .have:=h'.1 p hp
    rw[rAM zom,vY8 h'.2.2 hp]; grind
theorem uKJ{k:Nat}:∀ {l:List QT} (v:Int),Srt l->(∀ p∈l,sz k p.2)->1<=k->sz k (cf l v)
 | [],v,_,_,hk=>zI1 hk (zEF 1 zdd).1
 | q::l,v,h,hl,hk=>by
   have h':=srt_cons.1 h;by_cases e:v=q.1
   .rw[e,vY8 h (List.mem_cons_self ..)]; exact hl q (List.mem_cons_self ..)
   .have ih:=uKJ v h'.2.2 (fun p hp=>hl p (rBC _ hp)) hk
    have e2:cf (q::l) v=cf l v:=by simp only[cf]; rw[rAM (fun x=>e x.symm)]; grind
    rw[e2]; exact ih
theorem uA9{l:List QT}(h:Srt l)(i:Nat):Srt (l.take i):=⟨h.1.sublist (List.take_sublist _ _),fun p hp=>h.2 p (rCK hp)⟩
theorem uFC{l g:List QT}{kf kg:Nat}(hl:Srt l)(hg:Srt g)(h1:∀ p∈l,sz kf p.2)(h2:∀ p∈g,sz kg p.2)(hkf:1<=kf)(hkg:1<=kg):∀ p∈addL l g,sz (kf+kg+1) p.2:=fun p hp=>by
 obtain⟨h3,h4⟩:=zK5 (g:=g) hl;rw[<- vY8 h3 hp,h4];exact zG9 (uKJ _ hl h1 hkf) (uKJ _ hg h2 hkg)
theorem uCS:FO 173 Tryz.f173 [.cell 4 46] 43:=mkO Tryz.func173 Tryz.ntmps173 Tryz.results173
theorem vZN(f g:QF)(kf kg:Nat)(hf:szF kf f)(hg:szF kg g)(hsf:Srt f.ts)(hsg:Srt g.ts)(hkf:1<=kf)(hkg:1<=kg)(hk:kf+kg+10<=949999980)(hl:f.ts.length+g.ts.length<=2097140):Fn 173 [vBP f,vBP g] (.data (vBP (uLC f g))):=by
 have lf:=zBM hf.1;have lg:=zBM hg.1;have hs0:=zG9 hf.1 hg.1;have ca:=zLY (cr f.c) (cr g.c) (zBE _) (zBE _) zom zom zom zom;rw[zBW,zBW]at ca;unfold uLC;obtain⟨C,hC⟩:∃ C,f.c+g.c=C:=⟨_,rfl⟩;rw[hC]at ca hs0;rw[hC];refine zAL vBC hT uCS (by simp[vBP]) ?_;refine sts ?_;refine zAA ca rfl ?_;refine sts ?_
 refine zAN hT (fun((i,l):Nat×List QT)=>[(3,.ptr 0 0 0),(4,.ptr 1 0 0),(5,.ptr 2 0 0),(6,.int .i64 i)])
  (fun(i,l)=>[(0,⟨[vBP g],4,true⟩),(1,⟨[uAR],4,true⟩),(2,⟨[vBP ⟨l,C⟩],4,true⟩)]) [] 3
  (fun(i,l)=>l=addL f.ts (g.ts.take i)/\i<=g.ts.length/\l.length<=f.ts.length+i)
  (fun(i,_)=>g.ts.length - i) (0,f.ts) ⟨rfl,rA7 _,rAR _⟩ zdd zsm ?_ ?_
 .exact⟨[_,_,_],[],[],[],ttt,⟨(apy rfl),(apy rfl),(apy rfl),zAC rfl rfl,rGU⟩,
   ⟨bbx,bbx,bbx,rGU⟩,rAA⟩
 intro⟨i,l⟩ ⟨i1,i2,i3⟩;by_cases hi:i<g.ts.length
 .have hp:=hg.2 g.ts[i]! (by rw[rAT g.ts i hi]; exact rB3 hi)
  have i4:∀ p∈l,sz (kf+kg+1) p.2:=by rw[i1]; exact uFC hsf (uA9 hsg i) hf.2 (fun p hp=>hg.2 p (rCK hp)) hkf hkg
  have cp:=uKU ⟨l,C⟩ g.ts[i]!.1 g.ts[i]!.2 (kf+kg+1) kg ⟨zI1 zom hs0,i4⟩ hp zom (by show l.length<=_; omega);have hln:=vJN (v:=g.ts[i]!.1) (c:=g.ts[i]!.2) (l:=l) (d:=false)
  have hn:vCR g.ts[i]!.1 g.ts[i]!.2 l false=addL f.ts (g.ts.take (i+1)):=by
   rw[i1]; unfold addL; rw[rA2 hi,rEK,rAT g.ts i hi]; rfl
  simp only[rCF,rCL]at hln
  refine gob ?_ ?_<;>intro h
  .refine zAA cp rfl ?_
   refine sts ?_
   exact⟨(i+1,vCR g.ts[i]!.1 g.ts[i]!.2 l false),⟨⟨hn,zom,zom⟩,by show g.ts.length - (i+1)<g.ts.length - i; omega⟩,[0,1,2],[],[],[],ttt,
    ⟨apx,apx,apx,zAC rfl zom,rGU⟩,
    ⟨bbx,bbx,bbx,rGU⟩,rAA⟩
  all_goals (exfalso; omega)
 .rw[rBR zom]at i1
  subst i1
  refine gob ?_ ?_<;>intro h
  all_goals try (exfalso; omega)
  exact zAB (zBZ (zAD (zAI rfl zsm zsm (fun x=>zII x)) rfl)) rfl
theorem uCC:FO 145 Tryz.f145 [.cell 4 46] 10:=mkO Tryz.func145 Tryz.ntmps145 Tryz.results145
theorem uKR(f g:QF)(kf kg:Nat)(hf:szF kf f)(hg:szF kg g)(hsf:Srt f.ts)(hsg:Srt g.ts)(hkf:1<=kf)(hk:kf+kg+11<=949999980)(hl:f.ts.length+g.ts.length<=2097140):Fn 145 [vBP f,vBP g] (.data (vBP (uLC f (vER g (-1))))):=by
 have co:=zMI (-1) zdd;rw[show((-1:Int):Rat)=-1 by rfl]at co;have h1:sz 1 (-1:Rat):=zE7 (z:=-1) zdd;have cs:=vQG g (-1) kg 1 hg h1 zom zom;have hln:=vOA (c:=(-1:Rat)) (l:=g.ts);have ca:=vZN f (vER g (-1)) kf (kg+1) hf (vU1 hg h1) hsf (zJR _ hsg).1 hkf zom zom (by show _+(vF6 _ _).length<=_; omega);refine zAL vBC hT uCC (by simp[vBP]) ?_;refine sts ?_;refine zAA co rfl ?_;refine sts ?_;refine zAA cs rfl ?_;refine sts ?_;refine zAA ca rfl ?_;refine sts ?_;exact rGV
theorem vU0{f:QF}{c:Rat}(hf:Srt f.ts):vER f c=vDE f c:=by
 obtain⟨h3,h4,_⟩:=zJR c hf;refine zNP h3 (zBD zCY hf) (fun v=>?_) ?_
 .show cf (vF6 c f.ts) v=cf (vB3 zeroQ f c).ts v
  rw[h4,zB6 zCY hf,zJC]; grind
 .simp only[vER,vDE,zH2,zeroQ]; grind
theorem uAH{f g:QF}(hf:Srt f.ts)(hg:Srt g.ts):uLC f g=vB3 f g 1:=by
 obtain⟨h5,h6⟩:=zK5 (g:=g.ts) hf;refine zNP h5 (zBD hf hg) (fun v=>?_) ?_
 .show cf (addL f.ts g.ts) v=_
  rw[h6,zB6 hf hg]; grind
 .simp only[uLC,zH2]; grind
theorem zF7(f g:QF)(kf kg:Nat)(hf:szF kf f)(hg:szF kg g)(hf2:Srt f.ts)(hg2:Srt g.ts)(hk:kf+kg+11<=949999980)(hl:f.ts.length+g.ts.length<=2097140)(hkf:1<=kf:=by omega):Fn 145 [vBP f,vBP g] (.data (vBP (vCE f g))):=by
 have h:=uKR f g kf kg hf hg hf2 hg2 hkf hk hl;rw[uAG hf2 hg2]at h; exact h
theorem zFK(f:QF)(c:Rat)(kf kc:Nat)(hf:szF kf f)(hc:sz kc c)(hf2:Srt f.ts)(hk:kf+kc<=949999990)(hl:f.ts.length<=2097150):Fn 147 [vBP f,vA5 (cr c)] (.data (vBP (vDE f c))):=by
 have h:=vQG f c kf kc hf hc hk hl;rw[vU0 hf2]at h; exact h
theorem uK0(f g:QF)(kf kg:Nat)(hf:szF kf f)(hg:szF kg g)(hf2:Srt f.ts)(hg2:Srt g.ts)(hk:kf+kg+10<=949999980)(hl:f.ts.length+g.ts.length<=2097140)(hkf:1<=kf:=by omega)(hkg:1<=kg:=by omega):Fn 173 [vBP f,vBP g] (.data (vBP (vB3 f g 1))):=by
 have h:=vZN f g kf kg hf hg hf2 hg2 hkf hkg hk hl;rw[uAH hf2 hg2]at h; exact h
theorem vSF:FO 85 Tryz.f85 [.tmp 2] 12:=mkO Tryz.func85 Tryz.ntmps85 Tryz.results85
theorem vZS(g:GraL)(hg:vHI 950000000 g):Fn 85 [vEF g] (.data (.int .i64 (vD0 g))):=by
 have cv:=zOJ g hg;have l1:=hg.1.1;refine zAL vBC hT vSF (by simp[vEF]) ?_;refine sts ?_;refine zAA cv rfl ?_
 refine gob ?_ ?_<;>intro h
 .have hv:VaG g:=dB_true.1 rAC
  have h1:=hv.1;refine sts ?_;exact zAB rfl (by unfold vD0; rw[rAU hv]; simp)
 .have hv:¬ VaG g:=dB_false.1 rAC
  exact zAB rfl (by unfold vD0; rw[rAM hv])
theorem vMR:FO 45 Tryz.f45 [.tmp 2] 22:=mkO Tryz.func45 Tryz.ntmps45 Tryz.results45
theorem zIO(q:QryL)(P:Nat)(hq:szQ q P)(hP:P<=950000000):Fn 45 [vBJ q] (.data (.bool (dB (VaQ q)))):=by
 have hg:=uDD hP hq.g;have cv:=zOJ q.g hg;have cn:=vZS q.g hg;have cr':=vZE q.r q.g.ins ⟨zF3 hP hq.r.1,zF3 hP hq.r.2.1,fun f hf=>zCN hP (hq.r.2.2.1 f hf),hq.r.2.2.2⟩;have cl:=zKX q.goal (vD0 q.g) (zCN zom hq.goal);refine zAL vBC hT vMR (by simp[vBJ]) ?_;refine sts ?_;refine zAA cv rfl ?_
 refine gob ?_ ?_<;>intro h
 rotate_left
 .have hv:¬ VaG q.g:=dB_false.1 rAC
  exact zAB rfl (rA3 PV.bool (zGR fun e=>hv e.1))
 have hv:VaG q.g:=dB_true.1 rAC;refine zAA cr' rfl ?_
 refine gob ?_ ?_<;>intro h
 rotate_left
 .have hw:¬ VaR q.r q.g.ins:=dB_false.1 rAC
  exact zAB rfl (rA3 PV.bool (zGR fun e=>hw e.2.1))
 have hw:VaR q.r q.g.ins:=dB_true.1 rAC;refine zAA cn rfl ?_;refine sts ?_;refine zAA cl rfl ?_;refine sts ?_;refine zAB rfl (rA3 PV.bool ?_);have e:vD0 q.g=q.g.ins+q.g.units.length:=by unfold vD0; rw[rAU hv]
 rw[e,rA1,validB_true,dB_true];exact⟨fun h=>⟨hv,hw,h⟩,fun h=>h.2.2⟩
theorem vSD:FO 148 Tryz.f148 [.tmp 4] 47:=mkO Tryz.func148 Tryz.ntmps148 Tryz.results148
theorem zOK(q:QryL)(d:DecL)(hu:q.g.units.length<=1048576)(hd:okQ 950000000 d.rat):Fn 148 [vBJ q,vA9 d] (.data (.bool (dB (vFH q d)))):=by
 have cv:=zGT d.rat hd.1 (by have:=hd.2; omega) (by have:=hd.2; omega);have cs:=vQH d.rat ⟨false,[],[]⟩ (by have:=hd.2; omega) (by have:=hd.2; omega) zsm zsm;have l2:=hd.2.1;have l3:=hd.2.2;have bad:¬ vFH q d->false=dB (vFH q d):=zGR
 have hz:d.rat=⟨false,[],[]⟩↔uOO d.rat:=by
  unfold uOO;obtain⟨_,_,⟨a,b,c⟩⟩:=d
  simp
 refine zAL vBC hT vSD (by simp[vBJ,vA9]) ?_
 (repeat' (first|refine stp ?_|with_reducible(refine brr ?_ ?_<;>intro h)));all_goals try(conv=>whnf)
 all_goals try (refine zAB rfl (rA3 PV.bool (bad fun e=>?_)); rcases e with⟨e1,e2,e3,e4,e5,e6⟩ | ⟨e1,e2,e3,e4⟩<;>omega)
 .refine zAA cs rfl ?_
  refine sts ?_;refine zAB rfl (rA3 PV.bool ?_);rw[rA1,dB_true,rAY,hz];exact⟨fun e=>rAW ⟨zom,zom,zom,e⟩,fun e=>by rcases e with⟨_,_,_,e4⟩ | ⟨e1,_⟩; exact e4; (exfalso; omega)⟩
 .refine zAA cs rfl ?_
  refine sts ?_;refine zAB rfl (rA3 PV.bool ?_);rw[rA1,dB_true,rAY,hz];exact⟨fun e=>rAW ⟨zom,zom,zom,e⟩,fun e=>by rcases e with⟨_,_,_,e4⟩ | ⟨e1,_⟩; exact e4; (exfalso; omega)⟩
 .refine zAA cv rfl ?_
  refine sts ?_;refine zAB rfl (rA3 PV.bool ?_);rw[rA1,dB_true,rAY];exact⟨fun e=>rA0 ⟨zom,zom,zom,e⟩,fun e=>by rcases e with⟨e1,_⟩ | ⟨_,_,_,e4⟩; (exfalso; omega); exact e4⟩
 .refine zAA cv rfl ?_
  refine sts ?_;refine zAB rfl (rA3 PV.bool ?_);rw[rA1,dB_true,rAY];exact⟨fun e=>rA0 ⟨zom,zom,zom,e⟩,fun e=>by rcases e with⟨e1,_⟩ | ⟨_,_,_,e4⟩; (exfalso; omega); exact e4⟩
theorem vSE:FO 119 Tryz.f119 [.tmp 4] 12:=mkO Tryz.func119 Tryz.ntmps119 Tryz.results119
theorem vZR(q:QryL)(d:DecL)(P:Nat)(hq:szQ q P)(hP:P<=950000000)(hd:okQ 950000000 d.rat):Fn 119 [vBJ q,vA9 d] (.data (.bool (dB (VaQ q/\vFH q d)))):=by
 have c1:=zIO q P hq hP;have c2:=zOK q d hq.g.1.1 hd;refine zAL vBC hT vSE (by simp[vBJ,vA9]) ?_;refine sts ?_;refine zAA c1 rfl ?_
 refine gob ?_ ?_<;>intro h
 rotate_left
 .have hv:¬ VaQ q:=dB_false.1 rAC
  exact zAB rfl (rA3 PV.bool (zGR fun e=>hv e.1))
 have hv:VaQ q:=dB_true.1 rAC;refine zAA c2 rfl ?_;refine sts ?_;refine zAB rfl (rA3 PV.bool ?_);rw[rA1,dB_true,dB_true];exact⟨fun h=>⟨hv,h⟩,fun h=>h.2⟩
theorem vWY:FO 212 Tryz.f212 [.tmp 6] 43:=mkO Tryz.func212 Tryz.ntmps212 Tryz.results212
theorem vQP(S:ScpL)(k j:Int)(hu:S.q.g.units.length<=1048576)(hp:S.path.length<=1048576)(hok:∀ d∈S.path,okQ 950000000 d.rat)(hfit:∀ d∈S.path,vFH S.q d):Fn 212 [vBD S,.int .i64 k,.int .i64 j] (.data (.bool (vEJ S k j))):=by
 refine zAL vBC hT vWY (by simp[vBD]) ?_;refine sts ?_
 refine zAN hT (fun(i:Nat)=>[(1,.int .i64 k),(2,.int .i64 j),(3,.ptr 0 0 0),(7,.int .i64 i)]) (fun _=>[(0,⟨[vBD S],12,true⟩)]) [] 1
  (fun i=>i<=S.path.length/\∀ m,m<i->¬ (S.path[m]!.kind=k/\S.path[m]!.index=j)) (fun i=>S.path.length - i) 0 ⟨rA7 _,fun m h=>by omega⟩ zdd zsm ?_ ?_
 .exact⟨[0],[],[],[],ttt,⟨rAI,rAI,apx,rAI,rGU⟩,⟨bbx,rGU⟩,rAA⟩
 intro i ⟨i1,i2⟩;by_cases hi:i<S.path.length
 .have hm:S.path[i]! ∈ S.path:=get_mem hi
  have cf:=zOK S.q S.path[i]! hu (hok _ hm);have hft:=hfit _ hm
  (repeat' (first|refine stp ?_|with_reducible(refine brr ?_ ?_<;>intro h)));all_goals try(conv=>whnf)
  all_goals try (exfalso; omega)
  .refine zAA cf rfl ?_
   refine gob ?_ ?_<;>intro h
   .refine zAB rfl (rA3 PV.bool ?_)
    refine(rCY.2 ⟨_,hm,?_⟩).symm;simp only[rAO,rAY];exact⟨by assumption,rAC⟩
   .exact absurd hft (dB_false.1 rAC)
  all_goals exact⟨i+1,⟨⟨zom,fun m hm=>zA6 (p:=fun m=>¬ (S.path[m]!.kind=k/\S.path[m]!.index=j)) i2 zom hm⟩,by show S.path.length - (i+1)<S.path.length - i; omega⟩,[0],[],[],[],ttt,⟨rAI,rAI,apx,rAI,rGU⟩,⟨bbx,rGU⟩,rAA⟩
 ·(repeat' (first|refine stp ?_|with_reducible(refine brr ?_ ?_<;>intro h)));all_goals try(conv=>whnf)
  all_goals try (exfalso; omega)
  refine zAB rfl (rA3 PV.bool ?_);refine(rC8.2 fun d hd=>?_).symm;obtain⟨m,hm,rfl⟩:=rA8 hd;have:=i2 m zom;rw[rAT S.path m hm]at this;simp only[rAO,rAY];exact this
def vEO(S:ScpL)(n j:Int)(up:Bool):RatL:=if vCT S n j up=true then vD5 S n else⟨false,[],[]⟩
theorem vWX:FO 211 Tryz.f211 [.cell 8 26,.tmp 9] 50:=mkO Tryz.func211 Tryz.ntmps211 Tryz.results211
theorem vQO(S:ScpL)(n j:Int)(up:Bool)(V:Nat)(hl:S.lems.length<=1048576)(hV:V<=900000000)(hok:∀ m∈S.lems,okQ V m.value)(hcan:∀ m∈S.lems,vE0 m.value):Fn 211 [vBD S,.int .i64 n,.int .i64 j,.bool up] (.data (.tup [vA5 (vEO S n j up),.bool (vCT S n j up)])):=by
 have none:¬ (1<=n/\n<=S.lems.length/\S.lems[n.toNat - 1]!.unit=j/\S.lems[n.toNat - 1]!.upper=up)->PV.tup [.agg [.bool false,.imm [],.imm []],.bool false]=.tup [vA5 (vEO S n j up),.bool (vCT S n j up)]:=fun h=>by
  have e2:vCT S n j up=false:=by
   unfold vCT;rw[rC9];intro e;simp only[rAO,rAY]at e;exact h ⟨e.1.1,e.1.2,e.2.1,e.2.2⟩
  unfold vEO;rw[e2]; rfl
 refine zAL vBC hT vWX (by simp[vBD]) ?_
 (repeat' (first|refine stp ?_|with_reducible(refine brr ?_ ?_<;>intro h)));all_goals try(conv=>whnf)
 all_goals try (exfalso; omega)
 .exact zAB rfl (none fun e=>by omega)
 .exact zAB rfl (none fun e=>by omega)
 have hlt:n.toNat - 1<S.lems.length:=by omega
 have hm:=get_mem hlt;have hq:=hok _ hm;have hc:=hcan _ hm;generalize hM:S.lems[n.toNat - 1]! = M at *
 have cc:=zKW M.value hq.1 (by have:=hq.2; omega) (by have:=hq.2; omega);rw[<- hc]at cc;refine zA5 (j:=n.toNat - 1) (show n - 1=_ by omega) hlt ?_;rw[hM]
 refine gob ?_ ?_<;>intro h
 .exact zAB rfl (none fun e=>absurd e.2.2.1 rAC)
 refine zA5 (j:=n.toNat - 1) (show n - 1=_ by omega) hlt ?_;rw[hM]
 refine gob ?_ ?_<;>intro h
 .exact zAB rfl (none fun e=>absurd e.2.2.2 rAC)
 refine zA5 (j:=n.toNat - 1) (show n - 1=_ by omega) hlt ?_;rw[hM];refine sts ?_;refine zAA cc rfl ?_;refine sts ?_
 have hb:vCT S n j up=true:=by
  unfold vCT;rw[hM];simp only[rAO,rAY];exact⟨⟨zom,zom⟩,by assumption,rAC⟩
 have hv:vD5 S n=M.value:=by unfold vD5; rw[rAU ⟨zom,zom⟩,hM]
 refine zAB rfl ?_;unfold vEO;rw[hb,rAU rfl,hv];rfl
def vEE(r:RowL)(v p:QF)(L U:RatL)(lw up on off pl:Bool):QF×Bool :=
 if r.kind=5 then(v,pl)
 else if r.kind=6 then(vCE v p,pl)
 else if r.kind=7 then(p,on)
 else if r.kind=8 then(vCE p v,on)
 else if r.kind=9 then(vDE p (-1),off)
 else if r.kind=10 then(vDE v (-1),off)
 else if r.kind=11 then(vCE p (vBN (qv L)),lw && decide (r.hi=0))
 else if r.kind=12 then(vCE (vBN (qv U)) p,up && decide (r.lo=0))
 else if r.kind=13 then(uG6 v p (qv L) (qv U),lw && (up && (decide (vDL (qv L)<0) && decide (0<vDL (qv U)))))
 else(zeroQ,false)
theorem vX5{S:ScpL}{P V:Nat}(hz:szS S P V)(n j:Int)(up:Bool):okQ (V+1) (vEO S n j up):=by
 unfold vEO
 split
 .exact vNS hz n
 .exact⟨⟨by simp[okN],by simp[okN]⟩,rA7 _,rA7 _⟩
theorem vPP{S:ScpL}{P V:Nat}(hz:szS S P V)(n j:Int)(up:Bool):vE0 (vEO S n j up):=by
 unfold vEO
 split
 .exact vQX hz n
 .rfl
theorem vR8:FO 146 Tryz.f146 [.cell 2 46] 5:=mkO Tryz.func146 Tryz.ntmps146 Tryz.results146
theorem zGU(c:RatL)(hc:vE0 c):Fn 146 [vA5 c] (.data (vBP (vBN (qv c)))):=by
 have e:vBP (vBN (qv c))=.agg [.imm [],.bool c.neg,vBK c.num,vBK c.den]:=by
  unfold vBP vBN; rw[<- hc]; rfl
 rw[e];refine zAL vBC hT vR8 (by simp[vA5]) ?_;refine sts ?_;exact rGV
theorem vYS(v:Int):vBP (vCN v)=.agg [.imm [vIN (v,1)],.bool false,.imm [],.imm []]:=by unfold vBP vCN; rw[zN9]; rfl
theorem vWZ:FO 28 Tryz.f28 [.cell 2 46] 8:=mkO Tryz.func28 Tryz.ntmps28 Tryz.results28
theorem zKY(v:Int):Fn 28 [.int .i64 v] (.data (vBP (vCN v))):=by
 have c1:=zMI 1 zdd;rw[show((1:Int):Rat)=1 by rfl]at c1;rw[vYS];refine zAL vBC hT vWZ zsm ?_;refine sts ?_;refine zAA c1 rfl ?_;refine sts ?_;exact rGV
theorem vSC:FO 193 Tryz.f193 [.cell 4 46,.tmp 5] 215:=mkO Tryz.func193 Tryz.ntmps193 Tryz.results193
theorem vZP(S:ScpL)(r:RowL)(P V:Nat)(hS:vB6 S)(hz:szS S P V)(hB2:P+2 * V<=20000000)(hn:vDD S<=16)(hk:5<=r.kind)(hi:0<=r.index/\r.index<S.q.g.units.length)(v p:QF)(L U:RatL)(lw up D1 D2 on off pl:Bool)(hL:vEO S r.lo r.index false=L)(hU:vEO S r.hi r.index true=U)(hlw:vCT S r.lo r.index false=lw)(hup:vCT S r.hi r.index true=up)(hvv:vCN (S.q.g.ins+r.index)=v)(hp:S.q.g.units[r.index.toNat]!.Q=p)(hD1:vEJ S 1 r.index=D1)(hD2:vEJ S 2 r.index=D2)(hon:onP r L lw D1=on)(hoff:vFF r U up D2=off)(hpl:vDV r=pl):Fn 193 [vBD S,vBI r] (.data (.tup [vBP (if (vEE r v p L U lw up on off pl).2=true then(vEE r v p L U lw up on off pl).1 else zeroQ),.bool (vEE r v p L U lw up on off pl).2])):=by
 have hj:r.index.toNat<S.q.g.units.length:=by omega
 have hnu:=hS.1.1.2.1;have hni:=hS.1.1.1;have hvu:=hS.1.1.2.2.2.1 _ hj;have hpu:=vND hvu;have hB:=hz.B;have hP:=hz.P1;have hpok:∀ d∈S.path,okQ 950000000 d.rat:=fun d hd=>zCZ zom (hz.path.2 d hd)
 have cv:=zKY (S.q.g.ins+r.index);have cl:=vQO S r.lo r.index false V hz.lems.1 zom hz.lems.2 hz.can;have cu:=vQO S r.hi r.index true V hz.lems.1 zom hz.lems.2 hz.can;have cd1:=vQP S 1 r.index zom hz.path.1 hpok hS.2;have cd2:=vQP S 2 r.index zom hz.path.1 hpok hS.2;have cmin:=zMI (-1) zom;have hLk:=vX5 hz r.lo r.index false;have hUk:=vX5 hz r.hi r.index true;have hUc:=vPP hz r.hi r.index true;have hLc:=vPP hz r.lo r.index false;rw[hL]at cl hLk hLc;rw[hU]at cu hUk hUc;rw[hlw]at cl;rw[hup]at cu;have sl:=zE1 L hLk.1 (by have:=hLk.2; omega);have su:=zE1 U hUk.1 (by have:=hUk.2; omega);have cnl:=zGU L hLc;have cnu:=zGU U hUc;have hUc:cr (qv U)=U:=hUc.symm;have szL:=zGH hLk zom;have szU:=zGH hUk zom;have hpa:=hz.units _ (get_mem hj);have szp:szF P p:=by rw[<- hp]; exact zHH hpa hP
 have szv:szF 1 v:=by rw[<- hvv]; exact zDR _
 have srv:Srt v.ts:=by rw[<- hvv]; exact zIZ _
 have srp:Srt p.ts:=by rw[<- hp]; exact(zMB hvu).1
 have lv:v.ts.length<=1:=by rw[<- hvv]; simp[vCN]
 have lp:p.ts.length<=16:=by
  rw[<- hp];have h1:okF (vDD S) S.q.g.units[r.index.toNat]!.Q:=vJ4 (by unfold vDD; omega) (zMB hvu);obtain⟨m,hm⟩:∃ m:Nat,vDD S=m:=⟨(vDD S).toNat,by unfold vDD at *; omega⟩;rw[hm]at h1;have:=vLS m h1.1.1 h1.2;omega
 have mul17:∀ k m:Nat,k<=16->(k+1) * m<=17 * m:=fun k m h=>rBK _ zom
 rw[hvv]at cv;rw[hp]at hpu;rw[hD1]at cd1;rw[hD2]at cd2;have c6:=zF7 v p 1 P szv szp srv srp (by have:=mul17 _ (P+2) lp; omega) zom;have c8:=zF7 p v P 1 szp szv srp srv (by have:=mul17 _ (1+2) (show v.ts.length<=16 by omega); omega) zom;have one:sz 1 (-1:Rat):=zE7 (z:=-1) zdd;have c9:=zFK p (-1) P 1 szp one srp zom zom;have c10:=zFK v (-1) 1 1 szv one srv zom zom;have n0:∀ q:Rat,(vBN q).ts.length=0:=fun q=>rfl
 have c11:=zF7 p (vBN (qv L)) P (V+1) szp (zDX szL) srp (zFC _) zom (by rw[n0]; omega);have c12:=zF7 (vBN (qv U)) p (V+1) P (zDX szU) szp (zFC _) srp (by have:=mul17 _ (P+2) lp; omega) (by rw[n0]; omega);refine zAL vBC hT vSC (by simp[vBD,vBI]) ?_
 (repeat' (first|refine stp ?_|with_reducible(refine brr ?_ ?_<;>intro h)));all_goals try(conv=>whnf)
 all_goals try (exfalso; omega)
 refine zAA cv rfl ?_;refine sts ?_;refine zA5 (j:=r.index.toNat) (show r.index=_ by omega) hj ?_;refine sts ?_;refine zAA cl rfl ?_;refine sts ?_;refine zAA cu rfl ?_;refine sts ?_;refine zAA cmin rfl ?_;refine sus ?_;refine vBV [] [(2,.ptr 0 0 0),(3,.ptr 1 0 0),(4,.ptr 2 0 0),(7,.ptr 3 0 0),(8,.ptr 4 0 0),(9,.ptr 5 0 0),(10,.bool lw),(11,.ptr 6 0 0),(12,.bool up),(13,.ptr 7 0 0)] [(0,⟨[vBD S],12,true⟩),(1,⟨[vBI r],4,true⟩),(2,⟨[.agg [.nilsl,.bool false,.nilsl,.nilsl]],4,true⟩),(3,⟨[vBP v],4,true⟩),(4,⟨[vBP p],4,true⟩),(5,⟨[vA5 L],3,true⟩),(6,⟨[vA5 U],3,true⟩),(7,⟨[vA5 (cr (-1))],3,true⟩)] [] 8 zdd zsm trivial ⟨[0,1,2,_,_,_,_,_],[],[],[],ttt,⟨(apy rfl),(apy rfl),(apy rfl),(apy rfl),(apy rfl),(apy rfl),zAJ rfl rfl,(apy rfl),zAJ rfl rfl,(apy rfl),rGU⟩,⟨bbx,bbx,bbx,bbx,zEW zdd rfl hpu rfl rfl rfl,bbx,bbx,bbx,rGU⟩,rAA⟩ ?_;refine vVR ⟨sv [(2,.ptr 0 0 0),(3,.ptr 1 0 0),(4,.ptr 2 0 0),(7,.ptr 3 0 0),(8,.ptr 4 0 0),(9,.ptr 5 0 0),(10,.bool lw),(11,.ptr 6 0 0),(12,.bool up),(13,.ptr 7 0 0),(14,.bool on)],hv [(0,⟨[vBD S],12,true⟩),(1,⟨[vBI r],4,true⟩),(2,⟨[.agg [.nilsl,.bool false,.nilsl,.nilsl]],4,true⟩),(3,⟨[vBP v],4,true⟩),(4,⟨[vBP p],4,true⟩),(5,⟨[vA5 L],3,true⟩),(6,⟨[vA5 U],3,true⟩),(7,⟨[vA5 (cr (-1))],3,true⟩)],zv [],8⟩ ?_ fun H9=>?_
 rotate_left
 ·(repeat' (first|refine stu ?_|with_reducible(refine brr ?_ ?_<;>intro h)));all_goals try(conv=>whnf)
  .refine zAA cd1 rfl ?_
   (repeat' (first|refine stu ?_|with_reducible(refine brr ?_ ?_<;>intro h)));all_goals try(conv=>whnf)
   .refine vBV [] [(2,.ptr 0 0 0),(3,.ptr 1 0 0),(4,.ptr 2 0 0),(7,.ptr 3 0 0),(8,.ptr 4 0 0),(9,.ptr 5 0 0),(10,.bool lw),(11,.ptr 6 0 0),(12,.bool up),(13,.ptr 7 0 0),(14,.bool on)] [(0,⟨[vBD S],12,true⟩),(1,⟨[vBI r],4,true⟩),(2,⟨[.agg [.nilsl,.bool false,.nilsl,.nilsl]],4,true⟩),(3,⟨[vBP v],4,true⟩),(4,⟨[vBP p],4,true⟩),(5,⟨[vA5 L],3,true⟩),(6,⟨[vA5 U],3,true⟩),(7,⟨[vA5 (cr (-1))],3,true⟩)] [] 8 zdd zsm trivial ⟨[0,1,2,3,4,5,6,7],[],[],[],ttt,⟨apx,apx,apx,apx,apx,apx,rAK,apx,rAK,apx,zAJ rfl (by rw[<- hon]; unfold onP; rw[rA1]; clear sl su cd1 cd2 hL hU hlw hup hvv hp hD1 hD2 cv cl cu cmin cnl cnu c6 c8 c9 c10 c11 c12 hpu; simp_all),rGU⟩,⟨bbx,bbx,bbx,bbx,bbx,bbx,bbx,bbx,rGU⟩,rAA⟩ ?_; exact H9
   .refine zAA sl rfl ?_
    refine sus ?_;refine vBV [] [(2,.ptr 0 0 0),(3,.ptr 1 0 0),(4,.ptr 2 0 0),(7,.ptr 3 0 0),(8,.ptr 4 0 0),(9,.ptr 5 0 0),(10,.bool lw),(11,.ptr 6 0 0),(12,.bool up),(13,.ptr 7 0 0),(14,.bool on)] [(0,⟨[vBD S],12,true⟩),(1,⟨[vBI r],4,true⟩),(2,⟨[.agg [.nilsl,.bool false,.nilsl,.nilsl]],4,true⟩),(3,⟨[vBP v],4,true⟩),(4,⟨[vBP p],4,true⟩),(5,⟨[vA5 L],3,true⟩),(6,⟨[vA5 U],3,true⟩),(7,⟨[vA5 (cr (-1))],3,true⟩)] [] 8 zdd zsm trivial ⟨[0,1,2,3,4,5,6,7],[],[],[],ttt,⟨apx,apx,apx,apx,apx,apx,rAK,apx,rAK,apx,zAJ rfl (by rw[<- hon]; unfold onP; rw[rA1]; clear sl su cd1 cd2 hL hU hlw hup hvv hp hD1 hD2 cv cl cu cmin cnl cnu c6 c8 c9 c10 c11 c12 hpu; simp_all),rGU⟩,⟨bbx,bbx,bbx,bbx,bbx,bbx,bbx,bbx,rGU⟩,rAA⟩ ?_; exact H9
   .refine vBV [] [(2,.ptr 0 0 0),(3,.ptr 1 0 0),(4,.ptr 2 0 0),(7,.ptr 3 0 0),(8,.ptr 4 0 0),(9,.ptr 5 0 0),(10,.bool lw),(11,.ptr 6 0 0),(12,.bool up),(13,.ptr 7 0 0),(14,.bool on)] [(0,⟨[vBD S],12,true⟩),(1,⟨[vBI r],4,true⟩),(2,⟨[.agg [.nilsl,.bool false,.nilsl,.nilsl]],4,true⟩),(3,⟨[vBP v],4,true⟩),(4,⟨[vBP p],4,true⟩),(5,⟨[vA5 L],3,true⟩),(6,⟨[vA5 U],3,true⟩),(7,⟨[vA5 (cr (-1))],3,true⟩)] [] 8 zdd zsm trivial ⟨[0,1,2,3,4,5,6,7],[],[],[],ttt,⟨apx,apx,apx,apx,apx,apx,rAK,apx,rAK,apx,zAJ rfl (by rw[<- hon]; unfold onP; rw[rA1]; clear sl su cd1 cd2 hL hU hlw hup hvv hp hD1 hD2 cv cl cu cmin cnl cnu c6 c8 c9 c10 c11 c12 hpu; simp_all),rGU⟩,⟨bbx,bbx,bbx,bbx,bbx,bbx,bbx,bbx,rGU⟩,rAA⟩ ?_; exact H9
  .refine zAA sl rfl ?_
   refine sus ?_;refine vBV [] [(2,.ptr 0 0 0),(3,.ptr 1 0 0),(4,.ptr 2 0 0),(7,.ptr 3 0 0),(8,.ptr 4 0 0),(9,.ptr 5 0 0),(10,.bool lw),(11,.ptr 6 0 0),(12,.bool up),(13,.ptr 7 0 0),(14,.bool on)] [(0,⟨[vBD S],12,true⟩),(1,⟨[vBI r],4,true⟩),(2,⟨[.agg [.nilsl,.bool false,.nilsl,.nilsl]],4,true⟩),(3,⟨[vBP v],4,true⟩),(4,⟨[vBP p],4,true⟩),(5,⟨[vA5 L],3,true⟩),(6,⟨[vA5 U],3,true⟩),(7,⟨[vA5 (cr (-1))],3,true⟩)] [] 8 zdd zsm trivial ⟨[0,1,2,3,4,5,6,7],[],[],[],ttt,⟨apx,apx,apx,apx,apx,apx,rAK,apx,rAK,apx,zAJ rfl (by rw[<- hon]; unfold onP; rw[rA1]; clear sl su cd1 cd2 hL hU hlw hup hvv hp hD1 hD2 cv cl cu cmin cnl cnu c6 c8 c9 c10 c11 c12 hpu; simp_all),rGU⟩,⟨bbx,bbx,bbx,bbx,bbx,bbx,bbx,bbx,rGU⟩,rAA⟩ ?_; exact H9
  .refine vBV [] [(2,.ptr 0 0 0),(3,.ptr 1 0 0),(4,.ptr 2 0 0),(7,.ptr 3 0 0),(8,.ptr 4 0 0),(9,.ptr 5 0 0),(10,.bool lw),(11,.ptr 6 0 0),(12,.bool up),(13,.ptr 7 0 0),(14,.bool on)] [(0,⟨[vBD S],12,true⟩),(1,⟨[vBI r],4,true⟩),(2,⟨[.agg [.nilsl,.bool false,.nilsl,.nilsl]],4,true⟩),(3,⟨[vBP v],4,true⟩),(4,⟨[vBP p],4,true⟩),(5,⟨[vA5 L],3,true⟩),(6,⟨[vA5 U],3,true⟩),(7,⟨[vA5 (cr (-1))],3,true⟩)] [] 8 zdd zsm trivial ⟨[0,1,2,3,4,5,6,7],[],[],[],ttt,⟨apx,apx,apx,apx,apx,apx,rAK,apx,rAK,apx,zAJ rfl (by rw[<- hon]; unfold onP; rw[rA1]; clear sl su cd1 cd2 hL hU hlw hup hvv hp hD1 hD2 cv cl cu cmin cnl cnu c6 c8 c9 c10 c11 c12 hpu; simp_all),rGU⟩,⟨bbx,bbx,bbx,bbx,bbx,bbx,bbx,bbx,rGU⟩,rAA⟩ ?_; exact H9
  .refine vBV [] [(2,.ptr 0 0 0),(3,.ptr 1 0 0),(4,.ptr 2 0 0),(7,.ptr 3 0 0),(8,.ptr 4 0 0),(9,.ptr 5 0 0),(10,.bool lw),(11,.ptr 6 0 0),(12,.bool up),(13,.ptr 7 0 0),(14,.bool on)] [(0,⟨[vBD S],12,true⟩),(1,⟨[vBI r],4,true⟩),(2,⟨[.agg [.nilsl,.bool false,.nilsl,.nilsl]],4,true⟩),(3,⟨[vBP v],4,true⟩),(4,⟨[vBP p],4,true⟩),(5,⟨[vA5 L],3,true⟩),(6,⟨[vA5 U],3,true⟩),(7,⟨[vA5 (cr (-1))],3,true⟩)] [] 8 zdd zsm trivial ⟨[0,1,2,3,4,5,6,7],[],[],[],ttt,⟨apx,apx,apx,apx,apx,apx,rAK,apx,rAK,apx,zAJ rfl (by rw[<- hon]; unfold onP; rw[rA1]; clear sl su cd1 cd2 hL hU hlw hup hvv hp hD1 hD2 cv cl cu cmin cnl cnu c6 c8 c9 c10 c11 c12 hpu; simp_all),rGU⟩,⟨bbx,bbx,bbx,bbx,bbx,bbx,bbx,bbx,rGU⟩,rAA⟩ ?_; exact H9
 refine vVR ⟨sv [(2,.ptr 0 0 0),(3,.ptr 1 0 0),(4,.ptr 2 0 0),(7,.ptr 3 0 0),(8,.ptr 4 0 0),(9,.ptr 5 0 0),(10,.bool lw),(11,.ptr 6 0 0),(12,.bool up),(13,.ptr 7 0 0),(14,.bool on),(15,.bool off)],hv [(0,⟨[vBD S],12,true⟩),(1,⟨[vBI r],4,true⟩),(2,⟨[.agg [.nilsl,.bool false,.nilsl,.nilsl]],4,true⟩),(3,⟨[vBP v],4,true⟩),(4,⟨[vBP p],4,true⟩),(5,⟨[vA5 L],3,true⟩),(6,⟨[vA5 U],3,true⟩),(7,⟨[vA5 (cr (-1))],3,true⟩)],zv [],8⟩ ?_ fun H10=>?_
 rotate_left
 ·(repeat' (first|refine stu ?_|with_reducible(refine brr ?_ ?_<;>intro h)));all_goals try(conv=>whnf)
  .refine zAA cd2 rfl ?_
   (repeat' (first|refine stu ?_|with_reducible(refine brr ?_ ?_<;>intro h)));all_goals try(conv=>whnf)
   .refine vBV [] [(2,.ptr 0 0 0),(3,.ptr 1 0 0),(4,.ptr 2 0 0),(7,.ptr 3 0 0),(8,.ptr 4 0 0),(9,.ptr 5 0 0),(10,.bool lw),(11,.ptr 6 0 0),(12,.bool up),(13,.ptr 7 0 0),(14,.bool on),(15,.bool off)] [(0,⟨[vBD S],12,true⟩),(1,⟨[vBI r],4,true⟩),(2,⟨[.agg [.nilsl,.bool false,.nilsl,.nilsl]],4,true⟩),(3,⟨[vBP v],4,true⟩),(4,⟨[vBP p],4,true⟩),(5,⟨[vA5 L],3,true⟩),(6,⟨[vA5 U],3,true⟩),(7,⟨[vA5 (cr (-1))],3,true⟩)] [] 8 zdd zsm trivial ⟨[0,1,2,3,4,5,6,7],[],[],[],ttt,⟨apx,apx,apx,apx,apx,apx,rAK,apx,rAK,apx,rAK,zAJ rfl (by rw[<- hoff]; unfold vFF; rw[rA1]; clear sl su cd1 cd2 hL hU hlw hup hvv hp hD1 hD2 cv cl cu cmin cnl cnu c6 c8 c9 c10 c11 c12 hpu; simp_all),rGU⟩,⟨bbx,bbx,bbx,bbx,bbx,bbx,bbx,bbx,rGU⟩,rAA⟩ ?_; exact H10
   .refine zAA su rfl ?_
    refine sus ?_;refine vBV [] [(2,.ptr 0 0 0),(3,.ptr 1 0 0),(4,.ptr 2 0 0),(7,.ptr 3 0 0),(8,.ptr 4 0 0),(9,.ptr 5 0 0),(10,.bool lw),(11,.ptr 6 0 0),(12,.bool up),(13,.ptr 7 0 0),(14,.bool on),(15,.bool off)] [(0,⟨[vBD S],12,true⟩),(1,⟨[vBI r],4,true⟩),(2,⟨[.agg [.nilsl,.bool false,.nilsl,.nilsl]],4,true⟩),(3,⟨[vBP v],4,true⟩),(4,⟨[vBP p],4,true⟩),(5,⟨[vA5 L],3,true⟩),(6,⟨[vA5 U],3,true⟩),(7,⟨[vA5 (cr (-1))],3,true⟩)] [] 8 zdd zsm trivial ⟨[0,1,2,3,4,5,6,7],[],[],[],ttt,⟨apx,apx,apx,apx,apx,apx,rAK,apx,rAK,apx,rAK,zAJ rfl (by rw[<- hoff]; unfold vFF; rw[rA1]; clear sl su cd1 cd2 hL hU hlw hup hvv hp hD1 hD2 cv cl cu cmin cnl cnu c6 c8 c9 c10 c11 c12 hpu; simp_all),rGU⟩,⟨bbx,bbx,bbx,bbx,bbx,bbx,bbx,bbx,rGU⟩,rAA⟩ ?_; exact H10
   .refine vBV [] [(2,.ptr 0 0 0),(3,.ptr 1 0 0),(4,.ptr 2 0 0),(7,.ptr 3 0 0),(8,.ptr 4 0 0),(9,.ptr 5 0 0),(10,.bool lw),(11,.ptr 6 0 0),(12,.bool up),(13,.ptr 7 0 0),(14,.bool on),(15,.bool off)] [(0,⟨[vBD S],12,true⟩),(1,⟨[vBI r],4,true⟩),(2,⟨[.agg [.nilsl,.bool false,.nilsl,.nilsl]],4,true⟩),(3,⟨[vBP v],4,true⟩),(4,⟨[vBP p],4,true⟩),(5,⟨[vA5 L],3,true⟩),(6,⟨[vA5 U],3,true⟩),(7,⟨[vA5 (cr (-1))],3,true⟩)] [] 8 zdd zsm trivial ⟨[0,1,2,3,4,5,6,7],[],[],[],ttt,⟨apx,apx,apx,apx,apx,apx,rAK,apx,rAK,apx,rAK,zAJ rfl (by rw[<- hoff]; unfold vFF; rw[rA1]; clear sl su cd1 cd2 hL hU hlw hup hvv hp hD1 hD2 cv cl cu cmin cnl cnu c6 c8 c9 c10 c11 c12 hpu; simp_all),rGU⟩,⟨bbx,bbx,bbx,bbx,bbx,bbx,bbx,bbx,rGU⟩,rAA⟩ ?_; exact H10
  .refine zAA su rfl ?_
   refine sus ?_;refine vBV [] [(2,.ptr 0 0 0),(3,.ptr 1 0 0),(4,.ptr 2 0 0),(7,.ptr 3 0 0),(8,.ptr 4 0 0),(9,.ptr 5 0 0),(10,.bool lw),(11,.ptr 6 0 0),(12,.bool up),(13,.ptr 7 0 0),(14,.bool on),(15,.bool off)] [(0,⟨[vBD S],12,true⟩),(1,⟨[vBI r],4,true⟩),(2,⟨[.agg [.nilsl,.bool false,.nilsl,.nilsl]],4,true⟩),(3,⟨[vBP v],4,true⟩),(4,⟨[vBP p],4,true⟩),(5,⟨[vA5 L],3,true⟩),(6,⟨[vA5 U],3,true⟩),(7,⟨[vA5 (cr (-1))],3,true⟩)] [] 8 zdd zsm trivial ⟨[0,1,2,3,4,5,6,7],[],[],[],ttt,⟨apx,apx,apx,apx,apx,apx,rAK,apx,rAK,apx,rAK,zAJ rfl (by rw[<- hoff]; unfold vFF; rw[rA1]; clear sl su cd1 cd2 hL hU hlw hup hvv hp hD1 hD2 cv cl cu cmin cnl cnu c6 c8 c9 c10 c11 c12 hpu; simp_all),rGU⟩,⟨bbx,bbx,bbx,bbx,bbx,bbx,bbx,bbx,rGU⟩,rAA⟩ ?_; exact H10
  .refine vBV [] [(2,.ptr 0 0 0),(3,.ptr 1 0 0),(4,.ptr 2 0 0),(7,.ptr 3 0 0),(8,.ptr 4 0 0),(9,.ptr 5 0 0),(10,.bool lw),(11,.ptr 6 0 0),(12,.bool up),(13,.ptr 7 0 0),(14,.bool on),(15,.bool off)] [(0,⟨[vBD S],12,true⟩),(1,⟨[vBI r],4,true⟩),(2,⟨[.agg [.nilsl,.bool false,.nilsl,.nilsl]],4,true⟩),(3,⟨[vBP v],4,true⟩),(4,⟨[vBP p],4,true⟩),(5,⟨[vA5 L],3,true⟩),(6,⟨[vA5 U],3,true⟩),(7,⟨[vA5 (cr (-1))],3,true⟩)] [] 8 zdd zsm trivial ⟨[0,1,2,3,4,5,6,7],[],[],[],ttt,⟨apx,apx,apx,apx,apx,apx,rAK,apx,rAK,apx,rAK,zAJ rfl (by rw[<- hoff]; unfold vFF; rw[rA1]; clear sl su cd1 cd2 hL hU hlw hup hvv hp hD1 hD2 cv cl cu cmin cnl cnu c6 c8 c9 c10 c11 c12 hpu; simp_all),rGU⟩,⟨bbx,bbx,bbx,bbx,bbx,bbx,bbx,bbx,rGU⟩,rAA⟩ ?_; exact H10
  .refine vBV [] [(2,.ptr 0 0 0),(3,.ptr 1 0 0),(4,.ptr 2 0 0),(7,.ptr 3 0 0),(8,.ptr 4 0 0),(9,.ptr 5 0 0),(10,.bool lw),(11,.ptr 6 0 0),(12,.bool up),(13,.ptr 7 0 0),(14,.bool on),(15,.bool off)] [(0,⟨[vBD S],12,true⟩),(1,⟨[vBI r],4,true⟩),(2,⟨[.agg [.nilsl,.bool false,.nilsl,.nilsl]],4,true⟩),(3,⟨[vBP v],4,true⟩),(4,⟨[vBP p],4,true⟩),(5,⟨[vA5 L],3,true⟩),(6,⟨[vA5 U],3,true⟩),(7,⟨[vA5 (cr (-1))],3,true⟩)] [] 8 zdd zsm trivial ⟨[0,1,2,3,4,5,6,7],[],[],[],ttt,⟨apx,apx,apx,apx,apx,apx,rAK,apx,rAK,apx,rAK,zAJ rfl (by rw[<- hoff]; unfold vFF; rw[rA1]; clear sl su cd1 cd2 hL hU hlw hup hvv hp hD1 hD2 cv cl cu cmin cnl cnu c6 c8 c9 c10 c11 c12 hpu; simp_all),rGU⟩,⟨bbx,bbx,bbx,bbx,bbx,bbx,bbx,bbx,rGU⟩,rAA⟩ ?_; exact H10
 clear cd1 cd2 hon hoff;have hpl2:pl=true↔r.lo=0/\r.hi=0:=by rw[<- hpl]; unfold vDV; simp
 clear hpl;have end0:∀ {X:QF×Bool},X.2=false->PV.tup [.agg [.imm [],.bool false,.imm [],.imm []],.bool false]=.tup [vBP (if X.2=true then X.1 else zeroQ),.bool X.2]:=fun h=>by rw[h,rAM zdd,<- zA7]
 have end1:∀ {X:QF×Bool},X.2=true->PV.tup [vBP X.1,.bool true]=.tup [vBP (if X.2=true then X.1 else zeroQ),.bool X.2]:=fun h=>by rw[h,rAU rfl]
 (repeat' (first|refine stp ?_|with_reducible(refine brr ?_ ?_<;>intro h)));all_goals try(conv=>whnf)
 .have e:vEE r v p L U lw up on off pl=(v,pl):=by unfold vEE; (repeat rw[rAM zom]); rw[rAU zom]
  (have hb:=(hpl2.2 ⟨by assumption,rAC⟩); exact zAB rfl (by rw[e]; dsimp only; rw[hb,rAU rfl]; rfl))
 .have e:vEE r v p L U lw up on off pl=(v,pl):=by unfold vEE; (repeat rw[rAM zom]); rw[rAU zom]
  (have hb:=(show pl=false by rw[rC9]; intro q; have:=hpl2.1 q; omega); exact zAB rfl (by rw[e]; dsimp only; rw[hb,rAM zdd,<- zA7]))
 .have e:vEE r v p L U lw up on off pl=(v,pl):=by unfold vEE; (repeat rw[rAM zom]); rw[rAU zom]
  (have hb:=(show pl=false by rw[rC9]; intro q; have:=hpl2.1 q; omega); exact zAB rfl (by rw[e]; dsimp only; rw[hb,rAM zdd,<- zA7]))
 .have e:vEE r v p L U lw up on off pl=(vCE v p,pl):=by unfold vEE; (repeat rw[rAM zom]); rw[rAU zom]
  refine zAA c6 rfl ?_
  (repeat' (first|refine stp ?_|with_reducible(refine brr ?_ ?_<;>intro h)));all_goals try(conv=>whnf)
  ·(have hb:=(hpl2.2 ⟨by assumption,rAC⟩); exact zAB rfl (by rw[e]; dsimp only; rw[hb,rAU rfl]; rfl))
  ·(have hb:=(show pl=false by rw[rC9]; intro q; have:=hpl2.1 q; omega); exact zAB rfl (by rw[e]; dsimp only; rw[hb,rAM zdd,<- zA7]))
  ·(have hb:=(show pl=false by rw[rC9]; intro q; have:=hpl2.1 q; omega); exact zAB rfl (by rw[e]; dsimp only; rw[hb,rAM zdd,<- zA7]))
 .have e:vEE r v p L U lw up on off pl=(p,on):=by unfold vEE; (repeat rw[rAM zom]); rw[rAU zom]
  (have hb:=(show on=true by assumption); exact zAB rfl (by rw[e]; dsimp only; rw[hb,rAU rfl]; rfl))
 .have e:vEE r v p L U lw up on off pl=(p,on):=by unfold vEE; (repeat rw[rAM zom]); rw[rAU zom]
  (have hb:=(show on=false by assumption); exact zAB rfl (by rw[e]; dsimp only; rw[hb,rAM zdd,<- zA7]))
 .have e:vEE r v p L U lw up on off pl=(vCE p v,on):=by unfold vEE; (repeat rw[rAM zom]); rw[rAU zom]
  refine zAA c8 rfl ?_
  refine gob ?_ ?_<;>intro h
  ·(have hb:=(show on=true by assumption); exact zAB rfl (by rw[e]; dsimp only; rw[hb,rAU rfl]; rfl))
  ·(have hb:=(show on=false by assumption); exact zAB rfl (by rw[e]; dsimp only; rw[hb,rAM zdd,<- zA7]))
 .have e:vEE r v p L U lw up on off pl=(vDE p (-1),off):=by unfold vEE; (repeat rw[rAM zom]); rw[rAU zom]
  refine zAA c9 rfl ?_
  refine gob ?_ ?_<;>intro h
  ·(have hb:=(show off=true by assumption); exact zAB rfl (by rw[e]; dsimp only; rw[hb,rAU rfl]; rfl))
  ·(have hb:=(show off=false by assumption); exact zAB rfl (by rw[e]; dsimp only; rw[hb,rAM zdd,<- zA7]))
 .have e:vEE r v p L U lw up on off pl=(vDE v (-1),off):=by unfold vEE; (repeat rw[rAM zom]); rw[rAU zom]
  refine zAA c10 rfl ?_
  refine gob ?_ ?_<;>intro h
  ·(have hb:=(show off=true by assumption); exact zAB rfl (by rw[e]; dsimp only; rw[hb,rAU rfl]; rfl))
  ·(have hb:=(show off=false by assumption); exact zAB rfl (by rw[e]; dsimp only; rw[hb,rAM zdd,<- zA7]))
 .have e:vEE r v p L U lw up on off pl=(vCE p (vBN (qv L)),(lw && decide (r.hi=0))):=by unfold vEE; (repeat rw[rAM zom]); rw[rAU zom]
  refine zAA cnl rfl ?_;refine sts ?_;refine zAA c11 rfl ?_
  (repeat' (first|refine stp ?_|with_reducible(refine brr ?_ ?_<;>intro h)));all_goals try(conv=>whnf)
  ·(have hb:=(show(lw && decide (r.hi=0))=true by simp[*]); exact zAB rfl (by rw[e]; dsimp only; rw[hb,rAU rfl]; rfl))
  ·(have hb:=(show(lw && decide (r.hi=0))=false by simp[*]); exact zAB rfl (by rw[e]; dsimp only; rw[hb,rAM zdd,<- zA7]))
  ·(have hb:=(show(lw && decide (r.hi=0))=false by simp[*]); exact zAB rfl (by rw[e]; dsimp only; rw[hb,rAM zdd,<- zA7]))
 .have e:vEE r v p L U lw up on off pl=(vCE (vBN (qv U)) p,(up && decide (r.lo=0))):=by unfold vEE; (repeat rw[rAM zom]); rw[rAU zom]
  refine zAA cnu rfl ?_;refine sts ?_;refine zAA c12 rfl ?_
  (repeat' (first|refine stp ?_|with_reducible(refine brr ?_ ?_<;>intro h)));all_goals try(conv=>whnf)
  ·(have hb:=(show(up && decide (r.lo=0))=true by simp[*]); exact zAB rfl (by rw[e]; dsimp only; rw[hb,rAU rfl]; rfl))
  ·(have hb:=(show(up && decide (r.lo=0))=false by simp[*]); exact zAB rfl (by rw[e]; dsimp only; rw[hb,rAM zdd,<- zA7]))
  ·(have hb:=(show(up && decide (r.lo=0))=false by simp[*]); exact zAB rfl (by rw[e]; dsimp only; rw[hb,rAM zdd,<- zA7]))
 .have e:vEE r v p L U lw up on off pl=(uG6 v p (qv L) (qv U),(lw && (up && (decide (vDL (qv L)<0) && decide (0<vDL (qv U)))))):=by unfold vEE; (repeat rw[rAM zom]); rw[rAU zom]
  have z1:szF (P+V+3) (vCE p (vBN (qv L))):=zEX szp (zDX szL) zom;have s1:Srt (vCE p (vBN (qv L))).ts:=zBD srp (zFC _);have l1:=zH7 (f:=p) (c:=qv L);have q1:=zFK (vCE p (vBN (qv L))) (qv U) _ _ z1 szU s1 zom zom;rw[hUc]at q1;have q2:=vZH U L hUk.1 hLk.1 (by have:=hUk.2; omega) (by have:=hUk.2; omega) (by have:=hLk.2; omega) (by have:=hLk.2; omega);have z2:sz (2 * V+4) (qv U - qv L):=zI1 zom (vT7 szU szL);have q3:=zFK v (qv U - qv L) _ _ szv z2 srv zom zom;have z3:szF (P+2 * V+8) (vDE (vCE p (vBN (qv L))) (qv U)):=zGF z1 szU zom;have z4:szF (2 * V+8) (vDE v (qv U - qv L)):=zGF szv z2 zom;have l2:=zI2 (f:=v) (c:=qv U - qv L);have l3:=zI2 (f:=vCE p (vBN (qv L))) (c:=qv U);have q4:=zF7 (vDE (vCE p (vBN (qv L))) (qv U)) (vDE v (qv U - qv L)) _ _ z3 z4 (zBD zCY s1) (zBD zCY srv) (by have:=mul17 _ (2 * V+8+2) (show(vDE v (qv U - qv L)).ts.length<=16 by omega); omega) zom;refine zAA cnl rfl ?_;refine sts ?_;refine zAA c11 rfl ?_;refine sts ?_;refine zAA q1 rfl ?_;refine sts ?_;refine zAA q2 rfl ?_;refine sts ?_;refine zAA q3 rfl ?_;refine sts ?_;refine zAA q4 rfl ?_
  (repeat' (first|refine stp ?_|with_reducible(refine brr ?_ ?_<;>intro h)));all_goals try(conv=>whnf)
  .refine zAA sl rfl ?_
   refine gob ?_ ?_<;>intro h
   .refine zAA su rfl ?_
    refine gob ?_ ?_<;>intro h
    ·(have hb:=(show(lw && (up && (decide (vDL (qv L)<0) && decide (0<vDL (qv U)))))=true by simp[*]); exact zAB rfl (by rw[e]; dsimp only; rw[hb,rAU rfl]; rfl))
    ·(have hb:=(show(lw && (up && (decide (vDL (qv L)<0) && decide (0<vDL (qv U)))))=false by simp[*]); exact zAB rfl (by rw[e]; dsimp only; rw[hb,rAM zdd,<- zA7]))
   ·(have hb:=(show(lw && (up && (decide (vDL (qv L)<0) && decide (0<vDL (qv U)))))=false by simp[*]); exact zAB rfl (by rw[e]; dsimp only; rw[hb,rAM zdd,<- zA7]))
  ·(have hb:=(show(lw && (up && (decide (vDL (qv L)<0) && decide (0<vDL (qv U)))))=false by simp[*]); exact zAB rfl (by rw[e]; dsimp only; rw[hb,rAM zdd,<- zA7]))
  ·(have hb:=(show(lw && (up && (decide (vDL (qv L)<0) && decide (0<vDL (qv U)))))=false by simp[*]); exact zAB rfl (by rw[e]; dsimp only; rw[hb,rAM zdd,<- zA7]))
 .have e:vEE r v p L U lw up on off pl=(zeroQ,false):=by unfold vEE; repeat rw[rAM zom]
  (have hb:=(rfl (a:=false)); exact zAB rfl (by rw[e]; dsimp only; rw[hb,rAM zdd,<- zA7]))
theorem uJ0{S:ScpL}{n j:Int}{up:Bool}:geO (vC2 S n j up)=(vCT S n j up && decide (0<=vDL (qv (vEO S n j up)))):=by
 rw[uGI];unfold vEO;cases vCT S n j up<;>simp
theorem uJX{S:ScpL}{n j:Int}{up:Bool}:leO (vC2 S n j up)=(vCT S n j up && decide (vDL (qv (vEO S n j up))<=0)):=by
 rw[uGD];unfold vEO;cases vCT S n j up<;>simp
theorem uGW{S:ScpL}{n j:Int}{up:Bool}:vC2 S n j up=(if vCT S n j up=true then some (qv (vEO S n j up)) else none):=by
 unfold vEO;cases h:vCT S n j up with
 | true=>rw[rAU rfl,rAU rfl,zK2 h]
 | false=>rw[rAM zdd,zIQ h]
abbrev vKJ(S:ScpL)(r:RowL):QF×Bool:=vEE r (vCN (S.q.g.ins+r.index)) S.q.g.units[r.index.toNat]!.Q (vEO S r.lo r.index false) (vEO S r.hi r.index true) (vCT S r.lo r.index false) (vCT S r.hi r.index true) (onP r (vEO S r.lo r.index false) (vCT S r.lo r.index false) (vEJ S 1 r.index)) (vFF r (vEO S r.hi r.index true) (vCT S r.hi r.index true) (vEJ S 2 r.index)) (vDV r)
theorem vYM{S:ScpL}{r:RowL}(hk:5<=r.kind)(hi:0<=r.index/\r.index<S.q.g.units.length):vDB S r=(if (vKJ S r).2=true then some (vKJ S r).1 else none):=by
 have hon:onB S r=onP r (vEO S r.lo r.index false) (vCT S r.lo r.index false) (vEJ S 1 r.index):=by unfold onB onP; rw[uJ0]
 have hoff:vPB S r=vFF r (vEO S r.hi r.index true) (vCT S r.hi r.index true) (vEJ S 2 r.index):=by unfold vPB vFF; rw[uJX]
 have hpl:(r.lo=0/\r.hi=0)↔vDV r=true:=by unfold vDV; simp
 unfold vDB unO vKJ;rw[rAM zom,rAM zom,hon,hoff,uGW,uGW];generalize onP r (vEO S r.lo r.index false) (vCT S r.lo r.index false) (vEJ S 1 r.index)=on;generalize vFF r (vEO S r.hi r.index true) (vCT S r.hi r.index true) (vEJ S 2 r.index)=off;generalize vCT S r.lo r.index false=lw;generalize vCT S r.hi r.index true=up;generalize vEO S r.lo r.index false=L;generalize vEO S r.hi r.index true=U;generalize vCN (S.q.g.ins+r.index)=v;generalize S.q.g.units[r.index.toNat]!.Q=p;unfold vEE;by_cases k5:r.kind=5
 .rw[rAU k5,rAU k5]; simp only[hpl]
 rw[rAM k5,rAM k5];by_cases k6:r.kind=6
 .rw[rAU k6,rAU k6]; simp only[hpl]
 rw[rAM k6,rAM k6];by_cases k7:r.kind=7
 .rw[rAU k7,rAU k7]
 rw[rAM k7,rAM k7];by_cases k8:r.kind=8
 .rw[rAU k8,rAU k8]
 rw[rAM k8,rAM k8];by_cases k9:r.kind=9
 .rw[rAU k9,rAU k9]
 rw[rAM k9,rAM k9];by_cases k10:r.kind=10
 .rw[rAU k10,rAU k10]
 rw[rAM k10,rAM k10];by_cases k11:r.kind=11
 .rw[rAU k11,rAU k11]
  cases lw<;>simp
 rw[rAM k11,rAM k11];by_cases k12:r.kind=12
 .rw[rAU k12,rAU k12]
  cases up<;>simp
 rw[rAM k12,rAM k12];by_cases k13:r.kind=13
 .rw [rAU k13,rAU k13]
  cases lw
  .simp
  .cases up
   .simp
   .simp only[rCI,rDP]
    by_cases hc:vDL (qv L)<0/\0<vDL (qv U)
    .rw[rAU (show qv L<0/\0<qv U from⟨sgnQ_neg.1 hc.1,sgnQ_pos.1 hc.2⟩)]; simp[hc.1,hc.2]
    .rw[rAM (show ¬ (qv L<0/\0<qv U) from fun e=>hc ⟨sgnQ_neg.2 e.1,sgnQ_pos.2 e.2⟩),rAM (by simp only[rAO,rAY]; exact hc)]
 .rw[rAM k13,rAM k13]; rfl
theorem uAQ:vE0 ⟨false,[],[]⟩:=by
 have h:qv (⟨false,[],[]⟩:RatL)=0:=rfl;unfold vE0;rw[h,zN9]
theorem uJ6{q:QryL}{d:DecL}(h:vFH q d):vE0 d.rat:=by
 rcases h with⟨_,_,_,h1,h2,h3⟩ | ⟨_,_,_,h⟩
 .obtain⟨_,_,⟨a,b,c⟩⟩:=d
  simp only at h1 h2 h3;obtain rfl:=rAZ.1 h2;obtain rfl:=rAZ.1 h3;subst h1;exact uAQ
 .exact h
theorem vMS:FO 193 Tryz.f193 [.cell 4 46,.tmp 5] 215:=mkO Tryz.func193 Tryz.ntmps193 Tryz.results193
theorem vS7(S:ScpL)(r:RowL)(hl:S.q.g.units.length<=1048576)(hi:¬ (0<=r.index/\r.index<S.q.g.units.length)):Fn 193 [vBD S,vBI r] (.data (.tup [.agg [.imm [],.bool false,.imm [],.imm []],.bool false])):=by
 refine zAL vBC hT vMS (by simp[vBD,vBI]) ?_
 (repeat' (first|refine stp ?_|with_reducible(refine brr ?_ ?_<;>intro h)));all_goals try(conv=>whnf)
 all_goals try (exfalso; omega)
 all_goals exact rGV
theorem zLJ:FO 177 Tryz.f177 [.cell 4 46,.tmp 5] 138:=mkO Tryz.func177 Tryz.ntmps177 Tryz.results177
theorem vZQ(S:ScpL)(r:RowL)(P V:Nat)(hS:vB6 S)(hz:szS S P V)(hq:szQ S.q P)(hB2:P+2 * V<=20000000)(hn:vDD S<=16):Fn 177 [vBD S,vBI r] (.data (.tup [vBP ((vDB S r).getD zeroQ),.bool (vDB S r).isSome])):=by
 have cva:=zIO S.q P hq zom;have hVa:dB (VaQ S.q)=true:=dB_true.2 hS.1;rw[hVa]at cva;have none:vDB S r=none->PV.tup [.agg [.imm [],.bool false,.imm [],.imm []],.bool false]=.tup [vBP ((vDB S r).getD zeroQ),.bool (vDB S r).isSome]:=fun e=>by rw[e,<- zA7]; rfl
 have some:∀ f,vDB S r=some f->PV.tup [vBP f,.bool true]=.tup [vBP ((vDB S r).getD zeroQ),.bool (vDB S r).isSome]:=fun f e=>by rw[e]; rfl
 have l1:=hz.lo.1;have l2:=hz.hi.1;have l3:=hz.rows.1;have l4:=hz.path.1;have hP:=hz.P1;by_cases hk:5<=r.kind
 .by_cases hi:0<=r.index/\r.index<S.q.g.units.length
  .have cu:=vZP S r P V hS hz hB2 hn hk hi _ _ _ _ _ _ _ _ _ _ _ rfl rfl rfl rfl rfl rfl rfl rfl rfl rfl rfl
   have e:=vYM (S:=S) (r:=r) hk hi
   have e2:PV.tup [vBP (if (vKJ S r).2=true then(vKJ S r).1 else zeroQ),.bool (vKJ S r).2]=.tup [vBP ((vDB S r).getD zeroQ),.bool (vDB S r).isSome]:=by
    rw[e];cases (vKJ S r).2<;>rfl
   rw[show vEE r (vCN (S.q.g.ins+r.index)) S.q.g.units[r.index.toNat]!.Q (vEO S r.lo r.index false) (vEO S r.hi r.index true) (vCT S r.lo r.index false) (vCT S r.hi r.index true) (onP r (vEO S r.lo r.index false) (vCT S r.lo r.index false) (vEJ S 1 r.index)) (vFF r (vEO S r.hi r.index true) (vCT S r.hi r.index true) (vEJ S 2 r.index)) (vDV r)=vKJ S r from rfl,e2]at cu;refine zAL vBC hT zLJ (by simp[vBD,vBI]) ?_;refine sts ?_;refine zAA cva rfl ?_
   (repeat' (first|refine stp ?_|with_reducible(refine brr ?_ ?_<;>intro h)));all_goals try(conv=>whnf)
   all_goals try (exfalso; omega)
   refine zAA cu rfl ?_;refine sts ?_;exact rGV
  .have cu:=vS7 S r (by have:=hS.1.1.2.1; omega) hi
   have e:vDB S r=Option.none:=by unfold vDB unO; rw[rAM zom,rAU zom]
   rw[none e]at cu;refine zAL vBC hT zLJ (by simp[vBD,vBI]) ?_;refine sts ?_;refine zAA cva rfl ?_
   (repeat' (first|refine stp ?_|with_reducible(refine brr ?_ ?_<;>intro h)));all_goals try(conv=>whnf)
   all_goals try (exfalso; omega)
   refine zAA cu rfl ?_;refine sts ?_;exact rGV
 .have hrow:vDB S r=inO S r:=by unfold vDB; rw[rAU zom]
  rw[hrow]at none some;rw[hrow];refine zAL vBC hT zLJ (by simp[vBD,vBI]) ?_;refine sts ?_;refine zAA cva rfl ?_
  (repeat' (first|refine stp ?_|with_reducible(refine brr ?_ ?_<;>intro h)));all_goals try(conv=>whnf)
  all_goals try (exfalso; omega)
  all_goals first
   | exact zAB rfl (none (uGG zom))
   | exact zAB rfl (none (vHW zom zom zom zom))
   | skip
  .have hj:r.index.toNat<S.q.r.lo.length:=by omega
   have hc:=(hS.1.2.1.2.2.2.2.1 r.index.toNat hj).1;have cv:=zKY r.index;have cn:=zGU _ hc;have cs:=zF7 (vCN r.index) (vBN (qv S.q.r.lo[r.index.toNat]!)) 1 P (zDR _) (zDX (zGH (zD2 hz.lo hj) hP)) (zIZ _) (zFC _) (by simp[vBN]; omega) (by simp[vCN,vBN]);refine zAA cv rfl ?_;refine sts ?_;refine zA5 (j:=r.index.toNat) (show r.index=_ by omega) hj ?_;refine sts ?_;refine zAA cn rfl ?_;refine sts ?_;refine zAA cs rfl ?_;refine sts ?_;exact zAB rfl (some _ (uQW zom ⟨by assumption,rAC⟩))
  .have hj:r.index.toNat<S.q.r.hi.length:=by omega
   have hc:=(hS.1.2.1.2.2.2.2.1 r.index.toNat (by have:=hS.1.2.1; have h1:=this.2.1; have h2:=this.2.2.1; omega)).2.1;have cv:=zKY r.index;have cn:=zGU _ hc;have cs:=zF7 (vBN (qv S.q.r.hi[r.index.toNat]!)) (vCN r.index) P 1 (zDX (zGH (zD2 hz.hi hj) hP)) (zDR _) (zFC _) (zIZ _) (by simp[vCN]; omega) (by simp[vCN,vBN]);refine zA5 (j:=r.index.toNat) (show r.index=_ by omega) hj ?_;refine sts ?_;refine zAA cn rfl ?_;refine sts ?_;refine zAA cv rfl ?_;refine sts ?_;refine zAA cs rfl ?_;refine sts ?_;exact zAB rfl (some _ (uQV zom ⟨by assumption,rAC⟩))
  .have hj:r.index.toNat<S.q.r.rows.length:=by omega
   have hv:=hS.1.2.1.2.2.2.2.2 r.index.toNat hj;refine zA5 (j:=r.index.toNat) (show r.index=_ by omega) hj ?_;refine sts ?_;have e:=some _ (uQU (S:=S) (r:=r) zom ⟨by assumption,rAC⟩);rw[zN8 hv]at e;exact zAB rfl e
  .have hj:r.index.toNat<S.path.length:=by omega
   have hm:=get_mem hj;have hf:=hS.2 _ hm;have hd:=hz.path.2 _ hm;have cf:=zOK S.q S.path[r.index.toNat]! hq.g.1.1 (zCZ zom hd);rw[dB_true.2 hf]at cf;have hc:=uJ6 hf;generalize hD:S.path[r.index.toNat]! = D at *
   have cv:=zKY D.index;have cn:=zGU _ hc;have szn:=zGH hd hP;have cs:=zF7 (vCN D.index) (vBN (qv D.rat)) 1 P (zDR _) (zDX szn) (zIZ _) (zFC _) (by simp[vBN]; omega) (by simp[vCN,vBN]);have z1:szF (P+4) (vCE (vCN D.index) (vBN (qv D.rat))):=zEX (zDR _) (zDX szn) zom;have s1:Srt (vCE (vCN D.index) (vBN (qv D.rat))).ts:=zBD (zIZ _) (zFC _);have l1:=zH7 (f:=vCN D.index) (c:=qv D.rat);have cmin:=zMI (-1) zom;have csc:=zFK (vCE (vCN D.index) (vBN (qv D.rat))) (-1) _ 1 z1 (zE7 (z:=-1) zdd) s1 zom (by have:(vCN D.index).ts.length=1:=rfl; omega);rw[uHL (zIZ _) (zFC _)]at csc;refine zA5 (j:=r.index.toNat) (show r.index=_ by omega) hj ?_;rw[hD];refine sts ?_;refine zAA cf rfl ?_;refine sts ?_;refine zA5 (j:=r.index.toNat) (show r.index=_ by omega) hj ?_;rw[hD];refine sts ?_;refine zAA cv rfl ?_;refine sts ?_;refine zAA cn rfl ?_;refine sts ?_;refine zAA cs rfl ?_
   (repeat' (first|refine stp ?_|with_reducible(refine brr ?_ ?_<;>intro h)));all_goals try(conv=>whnf)
   .exact zAB rfl (some _ (by rw[uQT zom ⟨by assumption,zom⟩ (by rw[hD]; assumption),hD]))
   .refine zAA cmin rfl ?_
    refine sts ?_;refine zAA csc rfl ?_;refine sts ?_;exact zAB rfl (some _ (by rw[uNH zom ⟨by assumption,zom⟩ (by rw[hD]; assumption),hD]))
   .exact zAB rfl (none (vHW zom zom zom (fun e=>by have:=e.2.2; rw[hD]at this; omega)))
end Go.PI.Tryz
