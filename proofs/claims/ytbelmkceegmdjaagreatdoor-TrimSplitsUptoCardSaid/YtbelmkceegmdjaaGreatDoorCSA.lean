/-
  The reference's rows: Form.
-/
import Derived.Test.YtbelmkceegmdjaaGreatDoorCPD
import Derived.Test.YtbelmkceegmdjaaGreatDoorCHA
import Derived.Test.YtbelmkceegmdjaaGreatDoorCGA
import Derived.Test.YtbelmkceegmdjaaGreatDoorCRC
import Derived.Test.YtbelmkceegmdjaaGreatDoorCPE
import Derived.Test.YtbelmkceegmdjaaGreatDoorCKB
set_option linter.unusedVariables false
set_option linter.unusedSimpArgs false
set_option linter.unnecessarySimpa false
set_option maxHeartbeats 0
namespace Go.PI.Tryz
open Go.Proofs Go.PI
theorem vIY:FO 82 Tryz.f82 [.tmp 2] 57:=mkO Tryz.func82 Tryz.ntmps82 Tryz.results82
theorem uAQ{j k:Nat}(h:j≤k){g:GraL}(hg:vGY j g):vGY k g:=⟨⟨hg.1.1,fun f hf=>zCI h (hg.1.2 f hf)⟩,⟨hg.2.1,fun f hf=>zCI h (hg.2.2 f hf)⟩⟩
theorem zNU(g:GraL)(hg:vGY 950000000 g):Fn 82 [vD2 g] (.data (.bool (dB (VaG g)))):=by
 obtain⟨hu,ho⟩:=hg;have no:¬ VaG g→false=dB (VaG g):=zGG;have l1:=hu.1;have l2:=ho.1;have cc:=zLV g.outs (g.ins+g.units.length) ⟨ho.1,fun f hf=>zCI zdd (ho.2 f hf)⟩;refine zAL vBD hT vIY (by simp[vD2]) ?_
 (repeat' (first|refine stp ?_|with_reducible(refine brr ?_ ?_<;>intro h)));all_goals try(conv=>whnf)
 ·exact zAB rfl (congrArg PV.bool (no fun e=>by have:=e.1.1; omega))
 ·exact zAB rfl (congrArg PV.bool (no fun e=>by have:=e.1.2; omega))
 ·exact zAB rfl (congrArg PV.bool (no fun e=>by have:=e.2.1; omega))
 ·exact zAB rfl (congrArg PV.bool (no fun e=>by have:=e.2.2.1.1; omega))
 ·exact zAB rfl (congrArg PV.bool (no fun e=>by have:=e.2.2.1.2; omega))
 ·have h0:(1≤g.ins∧g.ins≤256)∧g.units.length≤1024∧(1≤g.outs.length∧g.outs.length≤256):=⟨⟨zom,zom⟩,zom,zom,zom⟩
  obtain⟨h1,h2,h3⟩:=h0
  refine zAP hT (fun(i:Nat)=>[(1,.ptr 0 0 0),(3,.int .i64 i)]) (fun _=>[(0,⟨[vD2 g],3,true⟩)]) [] 1
   (fun i=>i≤g.units.length∧∀ j,j<i→vB3 g.units[j]! (g.ins+j)) (fun i=>g.units.length - i) 0 ⟨Nat.zero_le _,fun j h=>zom⟩ zdd zsm ?_ ?_
  ·exact⟨[0],[],[],[],ttt,⟨apx,zAC rfl rfl,trivial⟩,⟨bbx,trivial⟩,by simp[ren]⟩
  intro i ⟨i1,i2⟩;by_cases hi:i<g.units.length
  ·have c1:=zKD g.units[i]! (g.ins+i) (zCI zdd (hu.2 _ (get_mem hi)))
   (refine gob ?_ ?_<;>intro h)
   ·refine zAA c1 rfl ?_
    (refine gob ?_ ?_<;>intro h)
    ·exact⟨i+1,⟨⟨zom,fun j hj=>zA2 (p:=fun(j:Nat)=>vB3 g.units[j]! (g.ins+j)) i2 (validB_true.1 (by assumption)) hj⟩,by show g.units.length - (i+1)<g.units.length - i; omega⟩,[0],[],[],[],ttt,⟨apx,zAC rfl rfl,trivial⟩,⟨bbx,trivial⟩,by simp[ren]⟩
    ·exact zAB rfl (congrArg PV.bool (no fun e=>by have:=validB_true.2 (e.2.2.2.1 i hi); simp_all))
   all_goals (exfalso; omega)
  ·(refine gob ?_ ?_<;>intro h)
   all_goals try (exfalso; omega)
   rw[List.length_map];refine zAA cc rfl ?_;refine sts ?_;refine zAB rfl (congrArg PV.bool ?_);rw[Bool.eq_iff_iff,dB_true,dB_true];exact⟨fun e=>⟨h1,h2,h3,fun j hj=>i2 j zom,e⟩,fun e=>e.2.2.2.2⟩
theorem vQA:FO 83 Tryz.f83 [.tmp 4] 66:=mkO Tryz.func83 Tryz.ntmps83 Tryz.results83
theorem vW0(r:RegL)(n:Int)(hr:vQV 950000000 r):Fn 83 [vFY r,.int .i64 n] (.data (.bool (dB (VaR r n)))):=by
 obtain⟨hlo,hhi,hrw,hrl⟩:=hr;have no:¬ VaR r n→false=dB (VaR r n):=zGG;have l1:=hlo.1;have l2:=hhi.1;have v1:=zO5 r.lo (zFR zdd hlo);have v2:=zO5 r.hi (zFR zdd hhi);have v3:=zLV r.rows n ⟨hrl,fun f hf=>zCI zdd (hrw f hf)⟩;refine zAL vBD hT vQA (by simp[vFY]) ?_
 (repeat' (first|refine stp ?_|with_reducible(refine brr ?_ ?_<;>intro h)));all_goals try(conv=>whnf)
 ·exact zAB rfl (congrArg PV.bool (no fun e=>by have:=e.1.1; omega))
 ·exact zAB rfl (congrArg PV.bool (no fun e=>by have:=e.1.2; omega))
 ·exact zAB rfl (congrArg PV.bool (no fun e=>by have:=e.2.1; omega))
 ·exact zAB rfl (congrArg PV.bool (no fun e=>by have:=e.2.2.1; omega))
 ·exact zAB rfl (congrArg PV.bool (no fun e=>by have:=e.2.2.2.1; omega))
 ·have h0:(1≤n∧n≤256)∧(r.lo.length:Int)=n∧(r.hi.length:Int)=n∧r.rows.length≤256:=⟨⟨zom,zom⟩,zom,zom,zom⟩
  obtain⟨h1,h2,h3,h4⟩:=h0;have hh:r.hi.length=r.lo.length:=by omega
  refine zAA v1 rfl ?_
  (refine gob ?_ ?_<;>intro h)
  rotate_left
  ·exact zAB rfl (congrArg PV.bool (no fun e=>dB_false.1 h fun j hj=>(e.2.2.2.2.1 j hj).1))
  refine zAA v2 rfl ?_
  (refine gob ?_ ?_<;>intro h)
  rotate_left
  ·exact zAB rfl (congrArg PV.bool (no fun e=>dB_false.1 h fun j hj=>(e.2.2.2.2.1 j zom).2.1))
  refine zAA v3 rfl ?_
  (refine gob ?_ ?_<;>intro h)
  rotate_left
  ·exact zAB rfl (congrArg PV.bool (no fun e=>dB_false.1 h fun j hj=>e.2.2.2.2.2 j hj))
  have w1:uHG r.lo:=dB_true.1 (by assumption);have w2:uHG r.hi:=dB_true.1 (by assumption);have w3:vR4 r.rows n:=dB_true.1 (by assumption)
  refine zAP hT (fun(i:Nat)=>[(1,.int .i64 n),(2,.ptr 0 0 0),(5,.int .i64 i)]) (fun _=>[(0,⟨[vFY r],3,true⟩)]) [] 1
   (fun i=>i≤r.lo.length∧∀ j,j<i→qv r.lo[j]! ≤ qv r.hi[j]!) (fun i=>r.lo.length - i) 0 ⟨Nat.zero_le _,fun j h=>zom⟩ zdd zsm ?_ ?_
  ·exact⟨[0],[],[],[],ttt,⟨zAC rfl rfl,apx,zAC rfl rfl,trivial⟩,⟨bbx,trivial⟩,by simp[ren]⟩
  intro i ⟨i1,i2⟩;by_cases hi:i<r.lo.length
  ·have hi2:i<r.hi.length:=by omega
   have q1:=zDY hlo hi;have q2:=zDY hhi hi2;have c3:=uHP r.lo[i]! r.hi[i]! q1.1 q2.1 (by have:=q1.2; omega) (by have:=q1.2; omega) (by have:=q2.2; omega) (by have:=q2.2; omega)
   (refine gob ?_ ?_<;>intro h)
   ·refine zAA c3 rfl ?_
    (refine gob ?_ ?_<;>intro h)
    ·exact zAB rfl (congrArg PV.bool (no fun e=>by have:=sgn_le.2 (e.2.2.2.2.1 i hi).2.2; omega))
    ·exact⟨i+1,⟨⟨zom,fun j hj=>zA2 (p:=fun j=>qv r.lo[j]! ≤ qv r.hi[j]!) i2 (sgn_le.1 zom) hj⟩,by show r.lo.length - (i+1)<r.lo.length - i; omega⟩,[0],[],[],[],ttt,⟨zAC rfl rfl,apx,zAC rfl rfl,trivial⟩,⟨bbx,trivial⟩,by simp[ren]⟩
   all_goals (exfalso; omega)
  ·(refine gob ?_ ?_<;>intro h)
   all_goals try (exfalso; omega)
   exact zAB rfl (congrArg PV.bool (vWJ ⟨h1,h2,h3,h4,fun j hj=>⟨w1 j hj,w2 j zom,i2 j zom⟩,w3⟩))
def RegL.all(r:RegL):=(r.lo,r.hi,r.rows)
theorem reg_ext{a b:RegL}:a=b↔a.lo=b.lo∧a.hi=b.hi∧a.rows=b.rows:=by cases a; cases b; simp
instance:DecidableEq RegL:=fun a b=>decidable_of_iff (a.lo=b.lo∧a.hi=b.hi∧a.rows=b.rows) reg_ext.symm
theorem vWU:∀ {l:List QT} {p:QT},Srt l→p∈l→cf l p.1=p.2
 | q::l,p,h,hp=>by
   have h':=srt_cons.1 h;simp only[cf];rcases List.mem_cons.1 hp with rfl | hp
   ·rw[if_pos rfl,zLT (fun r hr=>by have:=h'.1 r hr; omega)]; grind
   ·have:=h'.1 p hp
    rw[if_neg zom,vWU h'.2.2 hp]; grind
theorem uHF{k:Nat}:∀ {l:List QT} (v:Int),Srt l→(∀ p∈l,sz k p.2)→1≤k→sz k (cf l v)
 | [],v,_,_,hk=>zIO hk (zEA 1 zdd).1
 | q::l,v,h,hl,hk=>by
   have h':=srt_cons.1 h;by_cases e:v=q.1
   ·rw[e,vWU h (List.mem_cons_self ..)]; exact hl q (List.mem_cons_self ..)
   ·have ih:=uHF v h'.2.2 (fun p hp=>hl p (List.mem_cons_of_mem _ hp)) hk
    have e2:cf (q::l) v=cf l v:=by simp only[cf]; rw[if_neg (fun x=>e x.symm)]; grind
    rw[e2]; exact ih
theorem vYR{l:List QT}(h:Srt l)(i:Nat):Srt (l.take i):=⟨h.1.sublist (List.take_sublist _ _),fun p hp=>h.2 p (List.mem_of_mem_take hp)⟩
theorem uCG{l g:List QT}{kf kg:Nat}(hl:Srt l)(hg:Srt g)(h1:∀ p∈l,sz kf p.2)(h2:∀ p∈g,sz kg p.2)(hkf:1≤kf)(hkg:1≤kg):∀ p∈addL l g,sz (kf+kg+1) p.2:=fun p hp=>by
 obtain⟨h3,h4⟩:=zKK (g:=g) hl;rw[← vWU h3 hp,h4];exact zGW (uHF _ hl h1 hkf) (uHF _ hg h2 hkg)
theorem vZ8:FO 173 Tryz.f173 [.cell 4 46] 43:=mkO Tryz.func173 Tryz.ntmps173 Tryz.results173
theorem vW9(f g:QF)(kf kg:Nat)(hf:szF kf f)(hg:szF kg g)(hsf:Srt f.ts)(hsg:Srt g.ts)(hkf:1≤kf)(hkg:1≤kg)(hk:kf+kg+10≤949999980)(hl:f.ts.length+g.ts.length≤2097140):Fn 173 [vBN f,vBN g] (.data (vBN (uH6 f g))):=by
 have lf:=zBK hf.1;have lg:=zBK hg.1;have hs0:=zGW hf.1 hg.1;have ca:=zLD (cr f.c) (cr g.c) (zBE _) (zBE _) zom zom zom zom;rw[zBS,zBS]at ca;unfold uH6;obtain⟨C,hC⟩:∃ C,f.c+g.c=C:=⟨_,rfl⟩;rw[hC]at ca hs0;rw[hC];refine zAL vBD hT vZ8 (by simp[vBN]) ?_;refine sts ?_;refine zAA ca rfl ?_;refine sts ?_
 refine zAP hT (fun((i,l):Nat×List QT)=>[(3,.ptr 0 0 0),(4,.ptr 1 0 0),(5,.ptr 2 0 0),(6,.int .i64 i)])
  (fun(i,l)=>[(0,⟨[vBN g],4,true⟩),(1,⟨[vYA],4,true⟩),(2,⟨[vBN ⟨l,C⟩],4,true⟩)]) [] 3
  (fun(i,l)=>l=addL f.ts (g.ts.take i)∧i≤g.ts.length∧l.length≤f.ts.length+i)
  (fun(i,_)=>g.ts.length - i) (0,f.ts) ⟨rfl,Nat.zero_le _,Nat.le_refl _⟩ zdd zsm ?_ ?_
 ·exact⟨[_,_,_],[],[],[],ttt,⟨(apy rfl),(apy rfl),(apy rfl),zAC rfl rfl,trivial⟩,
   ⟨bbx,bbx,bbx,trivial⟩,by simp[ren]⟩
 intro⟨i,l⟩ ⟨i1,i2,i3⟩;by_cases hi:i<g.ts.length
 ·have hp:=hg.2 g.ts[i]! (by rw[getElem!_pos g.ts i hi]; exact List.getElem_mem hi)
  have i4:∀ p∈l,sz (kf+kg+1) p.2:=by rw[i1]; exact uCG hsf (vYR hsg i) hf.2 (fun p hp=>hg.2 p (List.mem_of_mem_take hp)) hkf hkg
  have cp:=uHQ ⟨l,C⟩ g.ts[i]!.1 g.ts[i]!.2 (kf+kg+1) kg ⟨zIO zom hs0,i4⟩ hp zom (by show l.length≤_; omega);have hln:=vIR (v:=g.ts[i]!.1) (c:=g.ts[i]!.2) (l:=l) (d:=false)
  have hn:vCD g.ts[i]!.1 g.ts[i]!.2 l false=addL f.ts (g.ts.take (i+1)):=by
   rw[i1]; unfold addL; rw[List.take_succ_eq_append_getElem hi,List.foldl_append,getElem!_pos g.ts i hi]; rfl
  simp only[Bool.false_eq_true,if_false]at hln
  (refine gob ?_ ?_<;>intro h)
  ·refine zAA cp rfl ?_
   refine sts ?_
   exact⟨(i+1,vCD g.ts[i]!.1 g.ts[i]!.2 l false),⟨⟨hn,zom,zom⟩,by show g.ts.length - (i+1)<g.ts.length - i; omega⟩,[0,1,2],[],[],[],ttt,
    ⟨apx,apx,apx,zAC rfl zom,trivial⟩,
    ⟨bbx,bbx,bbx,trivial⟩,by simp[ren]⟩
  all_goals (exfalso; omega)
 ·rw[List.take_of_length_le zom]at i1
  subst i1
  (refine gob ?_ ?_<;>intro h)
  all_goals try (exfalso; omega)
  exact zAB (zCA (zAD (zAJ rfl zsm zsm (fun x=>zH5 x)) rfl)) rfl
theorem vZS:FO 145 Tryz.f145 [.cell 4 46] 10:=mkO Tryz.func145 Tryz.ntmps145 Tryz.results145
theorem uHN(f g:QF)(kf kg:Nat)(hf:szF kf f)(hg:szF kg g)(hsf:Srt f.ts)(hsg:Srt g.ts)(hkf:1≤kf)(hk:kf+kg+11≤949999980)(hl:f.ts.length+g.ts.length≤2097140):Fn 145 [vBN f,vBN g] (.data (vBN (uH6 f (vEE g (-1))))):=by
 have co:=zLU (-1) zdd;rw[show((-1:Int):Rat)=-1 by rfl]at co;have h1:sz 1 (-1:Rat):=zE1 (z:=-1) zdd;have cs:=vOR g (-1) kg 1 hg h1 zom zom;have hln:=vM7 (c:=(-1:Rat)) (l:=g.ts);have ca:=vW9 f (vEE g (-1)) kf (kg+1) hf (vS6 hg h1) hsf (zJD _ hsg).1 hkf zom zom (by show _+(vFU _ _).length≤_; omega);refine zAL vBD hT vZS (by simp[vBN]) ?_;refine sts ?_;refine zAA co rfl ?_;refine sts ?_;refine zAA cs rfl ?_;refine sts ?_;refine zAA ca rfl ?_;refine sts ?_;exact zAB rfl rfl
theorem vS5{f:QF}{c:Rat}(hf:Srt f.ts):vEE f c=vC0 f c:=by
 obtain⟨h3,h4,_⟩:=zJD c hf;refine zM1 h3 (zBC zCW hf) (fun v=>?_) ?_
 ·show cf (vFU c f.ts) v=cf (vB2 zeroQ f c).ts v
  rw[h4,zB2 zCW hf,zIX]; grind
 ·simp only[vEE,vC0,zHO,zeroQ]; grind
theorem vX0{f g:QF}(hf:Srt f.ts)(hg:Srt g.ts):uH6 f g=vB2 f g 1:=by
 obtain⟨h5,h6⟩:=zKK (g:=g.ts) hf;refine zM1 h5 (zBC hf hg) (fun v=>?_) ?_
 ·show cf (addL f.ts g.ts) v=_
  rw[h6,zB2 hf hg]; grind
 ·simp only[uH6,zHO]; grind
theorem zFV(f g:QF)(kf kg:Nat)(hf:szF kf f)(hg:szF kg g)(hf2:Srt f.ts)(hg2:Srt g.ts)(hk:kf+kg+11≤949999980)(hl:f.ts.length+g.ts.length≤2097140)(hkf:1≤kf:=by omega):Fn 145 [vBN f,vBN g] (.data (vBN (vB8 f g))):=by
 have h:=uHN f g kf kg hf hg hf2 hg2 hkf hk hl;rw[vXZ hf2 hg2]at h; exact h
theorem zFC(f:QF)(c:Rat)(kf kc:Nat)(hf:szF kf f)(hc:sz kc c)(hf2:Srt f.ts)(hk:kf+kc≤949999990)(hl:f.ts.length≤2097150):Fn 147 [vBN f,vA5 (cr c)] (.data (vBN (vC0 f c))):=by
 have h:=vOR f c kf kc hf hc hk hl;rw[vS5 hf2]at h; exact h
theorem uHV(f g:QF)(kf kg:Nat)(hf:szF kf f)(hg:szF kg g)(hf2:Srt f.ts)(hg2:Srt g.ts)(hk:kf+kg+10≤949999980)(hl:f.ts.length+g.ts.length≤2097140)(hkf:1≤kf:=by omega)(hkg:1≤kg:=by omega):Fn 173 [vBN f,vBN g] (.data (vBN (vB2 f g 1))):=by
 have h:=vW9 f g kf kg hf hg hf2 hg2 hkf hkg hk hl;rw[vX0 hf2 hg2]at h; exact h
theorem vQN:FO 85 Tryz.f85 [.tmp 2] 12:=mkO Tryz.func85 Tryz.ntmps85 Tryz.results85
theorem vXE(g:GraL)(hg:vGY 950000000 g):Fn 85 [vD2 g] (.data (.int .i64 (vDN g))):=by
 have cv:=zNU g hg;have l1:=hg.1.1;refine zAL vBD hT vQN (by simp[vD2]) ?_;refine sts ?_;refine zAA cv rfl ?_
 (refine gob ?_ ?_<;>intro h)
 ·have hv:VaG g:=dB_true.1 (by assumption)
  have h1:=hv.1;refine sts ?_;exact zAB rfl (by unfold vDN; rw[if_pos hv]; simp)
 ·have hv:¬ VaG g:=dB_false.1 (by assumption)
  exact zAB rfl (by unfold vDN; rw[if_neg hv])
theorem vLQ:FO 45 Tryz.f45 [.tmp 2] 22:=mkO Tryz.func45 Tryz.ntmps45 Tryz.results45
theorem zID(q:QryL)(P:Nat)(hq:szQ q P)(hP:P≤950000000):Fn 45 [vBK q] (.data (.bool (dB (VaQ q)))):=by
 have hg:=uAQ hP hq.g;have cv:=zNU q.g hg;have cn:=vXE q.g hg;have cr':=vW0 q.r q.g.ins ⟨zFR hP hq.r.1,zFR hP hq.r.2.1,fun f hf=>zCI hP (hq.r.2.2.1 f hf),hq.r.2.2.2⟩;have cl:=zKD q.goal (vDN q.g) (zCI zom hq.goal);refine zAL vBD hT vLQ (by simp[vBK]) ?_;refine sts ?_;refine zAA cv rfl ?_
 (refine gob ?_ ?_<;>intro h)
 rotate_left
 ·have hv:¬ VaG q.g:=dB_false.1 (by assumption)
  exact zAB rfl (congrArg PV.bool (zGG fun e=>hv e.1))
 have hv:VaG q.g:=dB_true.1 (by assumption);refine zAA cr' rfl ?_
 (refine gob ?_ ?_<;>intro h)
 rotate_left
 ·have hw:¬ VaR q.r q.g.ins:=dB_false.1 (by assumption)
  exact zAB rfl (congrArg PV.bool (zGG fun e=>hw e.2.1))
 have hw:VaR q.r q.g.ins:=dB_true.1 (by assumption);refine zAA cn rfl ?_;refine sts ?_;refine zAA cl rfl ?_;refine sts ?_;refine zAB rfl (congrArg PV.bool ?_);have e:vDN q.g=q.g.ins+q.g.units.length:=by unfold vDN; rw[if_pos hv]
 rw[e,Bool.eq_iff_iff,validB_true,dB_true];exact⟨fun h=>⟨hv,hw,h⟩,fun h=>h.2.2⟩
theorem vQL:FO 148 Tryz.f148 [.tmp 4] 47:=mkO Tryz.func148 Tryz.ntmps148 Tryz.results148
theorem zNV(q:QryL)(d:DecL)(hu:q.g.units.length≤1048576)(hd:okQ 950000000 d.rat):Fn 148 [vBK q,vA9 d] (.data (.bool (dB (vE8 q d)))):=by
 have cv:=zGI d.rat hd.1 (by have:=hd.2; omega) (by have:=hd.2; omega);have cs:=vOS d.rat ⟨false,[],[]⟩ (by have:=hd.2; omega) (by have:=hd.2; omega) zsm zsm;have l2:=hd.2.1;have l3:=hd.2.2;have bad:¬ vE8 q d→false=dB (vE8 q d):=zGG
 have hz:d.rat=⟨false,[],[]⟩↔uLE d.rat:=by
  unfold uLE;obtain⟨_,_,⟨a,b,c⟩⟩:=d
  simp
 refine zAL vBD hT vQL (by simp[vBK,vA9]) ?_
 (repeat' (first|refine stp ?_|with_reducible(refine brr ?_ ?_<;>intro h)));all_goals try(conv=>whnf)
 all_goals try (refine zAB rfl (congrArg PV.bool (bad fun e=>?_)); rcases e with⟨e1,e2,e3,e4,e5,e6⟩ | ⟨e1,e2,e3,e4⟩<;>omega)
 ·refine zAA cs rfl ?_
  refine sts ?_;refine zAB rfl (congrArg PV.bool ?_);rw[Bool.eq_iff_iff,dB_true,decide_eq_true_eq,hz];exact⟨fun e=>Or.inl ⟨zom,zom,zom,e⟩,fun e=>by rcases e with⟨_,_,_,e4⟩ | ⟨e1,_⟩; exact e4; (exfalso; omega)⟩
 ·refine zAA cs rfl ?_
  refine sts ?_;refine zAB rfl (congrArg PV.bool ?_);rw[Bool.eq_iff_iff,dB_true,decide_eq_true_eq,hz];exact⟨fun e=>Or.inl ⟨zom,zom,zom,e⟩,fun e=>by rcases e with⟨_,_,_,e4⟩ | ⟨e1,_⟩; exact e4; (exfalso; omega)⟩
 ·refine zAA cv rfl ?_
  refine sts ?_;refine zAB rfl (congrArg PV.bool ?_);rw[Bool.eq_iff_iff,dB_true,decide_eq_true_eq];exact⟨fun e=>Or.inr ⟨zom,zom,zom,e⟩,fun e=>by rcases e with⟨e1,_⟩ | ⟨_,_,_,e4⟩; (exfalso; omega); exact e4⟩
 ·refine zAA cv rfl ?_
  refine sts ?_;refine zAB rfl (congrArg PV.bool ?_);rw[Bool.eq_iff_iff,dB_true,decide_eq_true_eq];exact⟨fun e=>Or.inr ⟨zom,zom,zom,e⟩,fun e=>by rcases e with⟨e1,_⟩ | ⟨_,_,_,e4⟩; (exfalso; omega); exact e4⟩
theorem vQM:FO 119 Tryz.f119 [.tmp 4] 12:=mkO Tryz.func119 Tryz.ntmps119 Tryz.results119
theorem vXD(q:QryL)(d:DecL)(P:Nat)(hq:szQ q P)(hP:P≤950000000)(hd:okQ 950000000 d.rat):Fn 119 [vBK q,vA9 d] (.data (.bool (dB (VaQ q∧vE8 q d)))):=by
 have c1:=zID q P hq hP;have c2:=zNV q d hq.g.1.1 hd;refine zAL vBD hT vQM (by simp[vBK,vA9]) ?_;refine sts ?_;refine zAA c1 rfl ?_
 (refine gob ?_ ?_<;>intro h)
 rotate_left
 ·have hv:¬ VaQ q:=dB_false.1 (by assumption)
  exact zAB rfl (congrArg PV.bool (zGG fun e=>hv e.1))
 have hv:VaQ q:=dB_true.1 (by assumption);refine zAA c2 rfl ?_;refine sts ?_;refine zAB rfl (congrArg PV.bool ?_);rw[Bool.eq_iff_iff,dB_true,dB_true];exact⟨fun h=>⟨hv,h⟩,fun h=>h.2⟩
theorem vUY:FO 212 Tryz.f212 [.tmp 6] 43:=mkO Tryz.func212 Tryz.ntmps212 Tryz.results212
theorem vO0(S:ScpL)(k j:Int)(hu:S.q.g.units.length≤1048576)(hp:S.path.length≤1048576)(hok:∀ d∈S.path,okQ 950000000 d.rat)(hfit:∀ d∈S.path,vE8 S.q d):Fn 212 [vBB S,.int .i64 k,.int .i64 j] (.data (.bool (vE1 S k j))):=by
 refine zAL vBD hT vUY (by simp[vBB]) ?_;refine sts ?_
 refine zAP hT (fun(i:Nat)=>[(1,.int .i64 k),(2,.int .i64 j),(3,.ptr 0 0 0),(7,.int .i64 i)]) (fun _=>[(0,⟨[vBB S],12,true⟩)]) [] 1
  (fun i=>i≤S.path.length∧∀ m,m<i→¬ (S.path[m]!.kind=k∧S.path[m]!.index=j)) (fun i=>S.path.length - i) 0 ⟨Nat.zero_le _,fun m h=>by omega⟩ zdd zsm ?_ ?_
 ·exact⟨[0],[],[],[],ttt,⟨zAC rfl rfl,zAC rfl rfl,apx,zAC rfl rfl,trivial⟩,⟨bbx,trivial⟩,by simp[ren]⟩
 intro i ⟨i1,i2⟩;by_cases hi:i<S.path.length
 ·have hm:S.path[i]! ∈ S.path:=get_mem hi
  have cf:=zNV S.q S.path[i]! hu (hok _ hm);have hft:=hfit _ hm
  (repeat' (first|refine stp ?_|with_reducible(refine brr ?_ ?_<;>intro h)));all_goals try(conv=>whnf)
  all_goals try (exfalso; omega)
  ·refine zAA cf rfl ?_
   (refine gob ?_ ?_<;>intro h)
   ·refine zAB rfl (congrArg PV.bool ?_)
    refine(List.any_eq_true.2 ⟨_,hm,?_⟩).symm;simp only[Bool.and_eq_true,decide_eq_true_eq];exact⟨by assumption,by assumption⟩
   ·exact absurd hft (dB_false.1 (by assumption))
  all_goals exact⟨i+1,⟨⟨zom,fun m hm=>zA2 (p:=fun m=>¬ (S.path[m]!.kind=k∧S.path[m]!.index=j)) i2 zom hm⟩,by show S.path.length - (i+1)<S.path.length - i; omega⟩,[0],[],[],[],ttt,⟨zAC rfl rfl,zAC rfl rfl,apx,zAC rfl rfl,trivial⟩,⟨bbx,trivial⟩,by simp[ren]⟩
 ·(repeat' (first|refine stp ?_|with_reducible(refine brr ?_ ?_<;>intro h)));all_goals try(conv=>whnf)
  all_goals try (exfalso; omega)
  refine zAB rfl (congrArg PV.bool ?_);refine(List.any_eq_false.2 fun d hd=>?_).symm;obtain⟨m,hm,rfl⟩:=List.getElem_of_mem hd;have:=i2 m zom;rw[getElem!_pos S.path m hm]at this;simp only[Bool.and_eq_true,decide_eq_true_eq];exact this
def vD9(S:ScpL)(n j:Int)(up:Bool):RatL:=if vCE S n j up=true then vDU S n else⟨false,[],[]⟩
theorem vUX:FO 211 Tryz.f211 [.cell 8 26,.tmp 9] 50:=mkO Tryz.func211 Tryz.ntmps211 Tryz.results211
theorem vOZ(S:ScpL)(n j:Int)(up:Bool)(V:Nat)(hl:S.lems.length≤1048576)(hV:V≤900000000)(hok:∀ m∈S.lems,okQ V m.value)(hcan:∀ m∈S.lems,vEO m.value):Fn 211 [vBB S,.int .i64 n,.int .i64 j,.bool up] (.data (.tup [vA5 (vD9 S n j up),.bool (vCE S n j up)])):=by
 have none:¬ (1≤n∧n≤S.lems.length∧S.lems[n.toNat - 1]!.unit=j∧S.lems[n.toNat - 1]!.upper=up)→PV.tup [.agg [.bool false,.imm [],.imm []],.bool false]=.tup [vA5 (vD9 S n j up),.bool (vCE S n j up)]:=fun h=>by
  have e2:vCE S n j up=false:=by
   unfold vCE;rw[Bool.eq_false_iff];intro e;simp only[Bool.and_eq_true,decide_eq_true_eq]at e;exact h ⟨e.1.1,e.1.2,e.2.1,e.2.2⟩
  unfold vD9;rw[e2]; rfl
 refine zAL vBD hT vUX (by simp[vBB]) ?_
 (repeat' (first|refine stp ?_|with_reducible(refine brr ?_ ?_<;>intro h)));all_goals try(conv=>whnf)
 all_goals try (exfalso; omega)
 ·exact zAB rfl (none fun e=>by omega)
 ·exact zAB rfl (none fun e=>by omega)
 have hlt:n.toNat - 1<S.lems.length:=by omega
 have hm:=get_mem hlt;have hq:=hok _ hm;have hc:=hcan _ hm;generalize hM:S.lems[n.toNat - 1]! = M at *
 have cc:=zKC M.value hq.1 (by have:=hq.2; omega) (by have:=hq.2; omega);rw[← hc]at cc;refine zA1 (j:=n.toNat - 1) (show n - 1=_ by omega) hlt ?_;rw[hM]
 (refine gob ?_ ?_<;>intro h)
 ·exact zAB rfl (none fun e=>absurd e.2.2.1 (by assumption))
 refine zA1 (j:=n.toNat - 1) (show n - 1=_ by omega) hlt ?_;rw[hM]
 (refine gob ?_ ?_<;>intro h)
 ·exact zAB rfl (none fun e=>absurd e.2.2.2 (by assumption))
 refine zA1 (j:=n.toNat - 1) (show n - 1=_ by omega) hlt ?_;rw[hM];refine sts ?_;refine zAA cc rfl ?_;refine sts ?_
 have hb:vCE S n j up=true:=by
  unfold vCE;rw[hM];simp only[Bool.and_eq_true,decide_eq_true_eq];exact⟨⟨zom,zom⟩,by assumption,by assumption⟩
 have hv:vDU S n=M.value:=by unfold vDU; rw[if_pos ⟨zom,zom⟩,hM]
 refine zAB rfl ?_;unfold vD9;rw[hb,if_pos rfl,hv];rfl
def vD1(r:RowL)(v p:QF)(L U:RatL)(lw up on off pl:Bool):QF×Bool :=
 if r.kind=5 then(v,pl)
 else if r.kind=6 then(vB8 v p,pl)
 else if r.kind=7 then(p,on)
 else if r.kind=8 then(vB8 p v,on)
 else if r.kind=9 then(vC0 p (-1),off)
 else if r.kind=10 then(vC0 v (-1),off)
 else if r.kind=11 then(vB8 p (vBM (qv L)),lw && decide (r.hi=0))
 else if r.kind=12 then(vB8 (vBM (qv U)) p,up && decide (r.lo=0))
 else if r.kind=13 then(uD7 v p (qv L) (qv U),lw && (up && (decide (vC9 (qv L)<0) && decide (0<vC9 (qv U)))))
 else(zeroQ,false)
theorem vVY{S:ScpL}{P V:Nat}(hz:szS S P V)(n j:Int)(up:Bool):okQ (V+1) (vD9 S n j up):=by
 unfold vD9
 split
 ·exact vMP hz n
 ·exact⟨⟨by simp[okN],by simp[okN]⟩,Nat.zero_le _,Nat.zero_le _⟩
theorem vN4{S:ScpL}{P V:Nat}(hz:szS S P V)(n j:Int)(up:Bool):vEO (vD9 S n j up):=by
 unfold vD9
 split
 ·exact vO8 hz n
 ·rfl
theorem vQG:FO 146 Tryz.f146 [.cell 2 46] 5:=mkO Tryz.func146 Tryz.ntmps146 Tryz.results146
theorem zGJ(c:RatL)(hc:vEO c):Fn 146 [vA5 c] (.data (vBN (vBM (qv c)))):=by
 have e:vBN (vBM (qv c))=.agg [.imm [],.bool c.neg,vBJ c.num,vBJ c.den]:=by
  unfold vBN vBM; rw[← hc]; rfl
 rw[e];refine zAL vBD hT vQG (by simp[vA5]) ?_;refine sts ?_;exact zAB rfl rfl
theorem vWH(v:Int):vBN (vCB v)=.agg [.imm [vHZ (v,1)],.bool false,.imm [],.imm []]:=by unfold vBN vCB; rw[zNL]; rfl
theorem vUZ:FO 28 Tryz.f28 [.cell 2 46] 8:=mkO Tryz.func28 Tryz.ntmps28 Tryz.results28
theorem zKE(v:Int):Fn 28 [.int .i64 v] (.data (vBN (vCB v))):=by
 have c1:=zLU 1 zdd;rw[show((1:Int):Rat)=1 by rfl]at c1;rw[vWH];refine zAL vBD hT vUZ zsm ?_;refine sts ?_;refine zAA c1 rfl ?_;refine sts ?_;exact zAB rfl rfl
theorem vQK:FO 193 Tryz.f193 [.cell 4 46,.tmp 5] 215:=mkO Tryz.func193 Tryz.ntmps193 Tryz.results193
theorem vXB(S:ScpL)(r:RowL)(P V:Nat)(hS:vB0 S)(hz:szS S P V)(hB2:P+2 * V≤20000000)(hn:vCZ S≤16)(hk:5≤r.kind)(hi:0≤r.index∧r.index<S.q.g.units.length)(v p:QF)(L U:RatL)(lw up D1 D2 on off pl:Bool)(hL:vD9 S r.lo r.index false=L)(hU:vD9 S r.hi r.index true=U)(hlw:vCE S r.lo r.index false=lw)(hup:vCE S r.hi r.index true=up)(hvv:vCB (S.q.g.ins+r.index)=v)(hp:S.q.g.units[r.index.toNat]!.Q=p)(hD1:vE1 S 1 r.index=D1)(hD2:vE1 S 2 r.index=D2)(hon:onP r L lw D1=on)(hoff:vE6 r U up D2=off)(hpl:vDI r=pl):Fn 193 [vBB S,vBG r] (.data (.tup [vBN (if (vD1 r v p L U lw up on off pl).2=true then(vD1 r v p L U lw up on off pl).1 else zeroQ),.bool (vD1 r v p L U lw up on off pl).2])):=by
 have hj:r.index.toNat<S.q.g.units.length:=by omega
 have hnu:=hS.1.1.2.1;have hni:=hS.1.1.1;have hvu:=hS.1.1.2.2.2.1 _ hj;have hpu:=vMB hvu;have hB:=hz.B;have hP:=hz.P1;have hpok:∀ d∈S.path,okQ 950000000 d.rat:=fun d hd=>zCX zom (hz.path.2 d hd)
 have cv:=zKE (S.q.g.ins+r.index);have cl:=vOZ S r.lo r.index false V hz.lems.1 zom hz.lems.2 hz.can;have cu:=vOZ S r.hi r.index true V hz.lems.1 zom hz.lems.2 hz.can;have cd1:=vO0 S 1 r.index zom hz.path.1 hpok hS.2;have cd2:=vO0 S 2 r.index zom hz.path.1 hpok hS.2;have cmin:=zLU (-1) zom;have hLk:=vVY hz r.lo r.index false;have hUk:=vVY hz r.hi r.index true;have hUc:=vN4 hz r.hi r.index true;have hLc:=vN4 hz r.lo r.index false;rw[hL]at cl hLk hLc;rw[hU]at cu hUk hUc;rw[hlw]at cl;rw[hup]at cu;have sl:=zEV L hLk.1 (by have:=hLk.2; omega);have su:=zEV U hUk.1 (by have:=hUk.2; omega);have cnl:=zGJ L hLc;have cnu:=zGJ U hUc;have hUc:cr (qv U)=U:=hUc.symm;have szL:=zF6 hLk zom;have szU:=zF6 hUk zom;have hpa:=hz.units _ (get_mem hj);have szp:szF P p:=by rw[← hp]; exact zG4 hpa hP
 have szv:szF 1 v:=by rw[← hvv]; exact zDM _
 have srv:Srt v.ts:=by rw[← hvv]; exact zIL _
 have srp:Srt p.ts:=by rw[← hp]; exact(zLN hvu).1
 have lv:v.ts.length≤1:=by rw[← hvv]; simp[vCB]
 have lp:p.ts.length≤16:=by
  rw[← hp];have h1:okF (vCZ S) S.q.g.units[r.index.toNat]!.Q:=vI7 (by unfold vCZ; omega) (zLN hvu);obtain⟨m,hm⟩:∃ m:Nat,vCZ S=m:=⟨(vCZ S).toNat,by unfold vCZ at *; omega⟩;rw[hm]at h1;have:=vKS m h1.1.1 h1.2;omega
 have mul17:∀ k m:Nat,k≤16→(k+1) * m≤17 * m:=fun k m h=>Nat.mul_le_mul_right _ zom
 rw[hvv]at cv;rw[hp]at hpu;rw[hD1]at cd1;rw[hD2]at cd2;have c6:=zFV v p 1 P szv szp srv srp (by have:=mul17 _ (P+2) lp; omega) zom;have c8:=zFV p v P 1 szp szv srp srv (by have:=mul17 _ (1+2) (show v.ts.length≤16 by omega); omega) zom;have one:sz 1 (-1:Rat):=zE1 (z:=-1) zdd;have c9:=zFC p (-1) P 1 szp one srp zom zom;have c10:=zFC v (-1) 1 1 szv one srv zom zom;have n0:∀ q:Rat,(vBM q).ts.length=0:=fun q=>rfl
 have c11:=zFV p (vBM (qv L)) P (V+1) szp (zDS szL) srp (zE5 _) zom (by rw[n0]; omega);have c12:=zFV (vBM (qv U)) p (V+1) P (zDS szU) szp (zE5 _) srp (by have:=mul17 _ (P+2) lp; omega) (by rw[n0]; omega);refine zAL vBD hT vQK (by simp[vBB,vBG]) ?_
 (repeat' (first|refine stp ?_|with_reducible(refine brr ?_ ?_<;>intro h)));all_goals try(conv=>whnf)
 all_goals try (exfalso; omega)
 refine zAA cv rfl ?_;refine sts ?_;refine zA1 (j:=r.index.toNat) (show r.index=_ by omega) hj ?_;refine sts ?_;refine zAA cl rfl ?_;refine sts ?_;refine zAA cu rfl ?_;refine sts ?_;refine zAA cmin rfl ?_;refine sus ?_;refine vBT [] [(2,.ptr 0 0 0),(3,.ptr 1 0 0),(4,.ptr 2 0 0),(7,.ptr 3 0 0),(8,.ptr 4 0 0),(9,.ptr 5 0 0),(10,.bool lw),(11,.ptr 6 0 0),(12,.bool up),(13,.ptr 7 0 0)] [(0,⟨[vBB S],12,true⟩),(1,⟨[vBG r],4,true⟩),(2,⟨[.agg [.nilsl,.bool false,.nilsl,.nilsl]],4,true⟩),(3,⟨[vBN v],4,true⟩),(4,⟨[vBN p],4,true⟩),(5,⟨[vA5 L],3,true⟩),(6,⟨[vA5 U],3,true⟩),(7,⟨[vA5 (cr (-1))],3,true⟩)] [] 8 zdd zsm trivial ⟨[0,1,2,_,_,_,_,_],[],[],[],ttt,⟨(apy rfl),(apy rfl),(apy rfl),(apy rfl),(apy rfl),(apy rfl),zAI rfl rfl,(apy rfl),zAI rfl rfl,(apy rfl),trivial⟩,⟨bbx,bbx,bbx,bbx,zEQ zdd rfl hpu rfl rfl rfl,bbx,bbx,bbx,trivial⟩,by simp[ren]⟩ ?_;refine vTU ⟨sv [(2,.ptr 0 0 0),(3,.ptr 1 0 0),(4,.ptr 2 0 0),(7,.ptr 3 0 0),(8,.ptr 4 0 0),(9,.ptr 5 0 0),(10,.bool lw),(11,.ptr 6 0 0),(12,.bool up),(13,.ptr 7 0 0),(14,.bool on)],hv [(0,⟨[vBB S],12,true⟩),(1,⟨[vBG r],4,true⟩),(2,⟨[.agg [.nilsl,.bool false,.nilsl,.nilsl]],4,true⟩),(3,⟨[vBN v],4,true⟩),(4,⟨[vBN p],4,true⟩),(5,⟨[vA5 L],3,true⟩),(6,⟨[vA5 U],3,true⟩),(7,⟨[vA5 (cr (-1))],3,true⟩)],zv [],8⟩ ?_ fun H9=>?_
 rotate_left
 ·(repeat' (first|refine stu ?_|with_reducible(refine brr ?_ ?_<;>intro h)));all_goals try(conv=>whnf)
  ·refine zAA cd1 rfl ?_
   (repeat' (first|refine stu ?_|with_reducible(refine brr ?_ ?_<;>intro h)));all_goals try(conv=>whnf)
   ·refine vBT [] [(2,.ptr 0 0 0),(3,.ptr 1 0 0),(4,.ptr 2 0 0),(7,.ptr 3 0 0),(8,.ptr 4 0 0),(9,.ptr 5 0 0),(10,.bool lw),(11,.ptr 6 0 0),(12,.bool up),(13,.ptr 7 0 0),(14,.bool on)] [(0,⟨[vBB S],12,true⟩),(1,⟨[vBG r],4,true⟩),(2,⟨[.agg [.nilsl,.bool false,.nilsl,.nilsl]],4,true⟩),(3,⟨[vBN v],4,true⟩),(4,⟨[vBN p],4,true⟩),(5,⟨[vA5 L],3,true⟩),(6,⟨[vA5 U],3,true⟩),(7,⟨[vA5 (cr (-1))],3,true⟩)] [] 8 zdd zsm trivial ⟨[0,1,2,3,4,5,6,7],[],[],[],ttt,⟨apx,apx,apx,apx,apx,apx,zAI rfl rfl,apx,zAI rfl rfl,apx,zAI rfl (by rw[← hon]; unfold onP; rw[Bool.eq_iff_iff]; clear sl su cd1 cd2 hL hU hlw hup hvv hp hD1 hD2 cv cl cu cmin cnl cnu c6 c8 c9 c10 c11 c12 hpu; simp_all),trivial⟩,⟨bbx,bbx,bbx,bbx,bbx,bbx,bbx,bbx,trivial⟩,by simp[ren]⟩ ?_; exact H9
   ·refine zAA sl rfl ?_
    refine sus ?_;refine vBT [] [(2,.ptr 0 0 0),(3,.ptr 1 0 0),(4,.ptr 2 0 0),(7,.ptr 3 0 0),(8,.ptr 4 0 0),(9,.ptr 5 0 0),(10,.bool lw),(11,.ptr 6 0 0),(12,.bool up),(13,.ptr 7 0 0),(14,.bool on)] [(0,⟨[vBB S],12,true⟩),(1,⟨[vBG r],4,true⟩),(2,⟨[.agg [.nilsl,.bool false,.nilsl,.nilsl]],4,true⟩),(3,⟨[vBN v],4,true⟩),(4,⟨[vBN p],4,true⟩),(5,⟨[vA5 L],3,true⟩),(6,⟨[vA5 U],3,true⟩),(7,⟨[vA5 (cr (-1))],3,true⟩)] [] 8 zdd zsm trivial ⟨[0,1,2,3,4,5,6,7],[],[],[],ttt,⟨apx,apx,apx,apx,apx,apx,zAI rfl rfl,apx,zAI rfl rfl,apx,zAI rfl (by rw[← hon]; unfold onP; rw[Bool.eq_iff_iff]; clear sl su cd1 cd2 hL hU hlw hup hvv hp hD1 hD2 cv cl cu cmin cnl cnu c6 c8 c9 c10 c11 c12 hpu; simp_all),trivial⟩,⟨bbx,bbx,bbx,bbx,bbx,bbx,bbx,bbx,trivial⟩,by simp[ren]⟩ ?_; exact H9
   ·refine vBT [] [(2,.ptr 0 0 0),(3,.ptr 1 0 0),(4,.ptr 2 0 0),(7,.ptr 3 0 0),(8,.ptr 4 0 0),(9,.ptr 5 0 0),(10,.bool lw),(11,.ptr 6 0 0),(12,.bool up),(13,.ptr 7 0 0),(14,.bool on)] [(0,⟨[vBB S],12,true⟩),(1,⟨[vBG r],4,true⟩),(2,⟨[.agg [.nilsl,.bool false,.nilsl,.nilsl]],4,true⟩),(3,⟨[vBN v],4,true⟩),(4,⟨[vBN p],4,true⟩),(5,⟨[vA5 L],3,true⟩),(6,⟨[vA5 U],3,true⟩),(7,⟨[vA5 (cr (-1))],3,true⟩)] [] 8 zdd zsm trivial ⟨[0,1,2,3,4,5,6,7],[],[],[],ttt,⟨apx,apx,apx,apx,apx,apx,zAI rfl rfl,apx,zAI rfl rfl,apx,zAI rfl (by rw[← hon]; unfold onP; rw[Bool.eq_iff_iff]; clear sl su cd1 cd2 hL hU hlw hup hvv hp hD1 hD2 cv cl cu cmin cnl cnu c6 c8 c9 c10 c11 c12 hpu; simp_all),trivial⟩,⟨bbx,bbx,bbx,bbx,bbx,bbx,bbx,bbx,trivial⟩,by simp[ren]⟩ ?_; exact H9
  ·refine zAA sl rfl ?_
   refine sus ?_;refine vBT [] [(2,.ptr 0 0 0),(3,.ptr 1 0 0),(4,.ptr 2 0 0),(7,.ptr 3 0 0),(8,.ptr 4 0 0),(9,.ptr 5 0 0),(10,.bool lw),(11,.ptr 6 0 0),(12,.bool up),(13,.ptr 7 0 0),(14,.bool on)] [(0,⟨[vBB S],12,true⟩),(1,⟨[vBG r],4,true⟩),(2,⟨[.agg [.nilsl,.bool false,.nilsl,.nilsl]],4,true⟩),(3,⟨[vBN v],4,true⟩),(4,⟨[vBN p],4,true⟩),(5,⟨[vA5 L],3,true⟩),(6,⟨[vA5 U],3,true⟩),(7,⟨[vA5 (cr (-1))],3,true⟩)] [] 8 zdd zsm trivial ⟨[0,1,2,3,4,5,6,7],[],[],[],ttt,⟨apx,apx,apx,apx,apx,apx,zAI rfl rfl,apx,zAI rfl rfl,apx,zAI rfl (by rw[← hon]; unfold onP; rw[Bool.eq_iff_iff]; clear sl su cd1 cd2 hL hU hlw hup hvv hp hD1 hD2 cv cl cu cmin cnl cnu c6 c8 c9 c10 c11 c12 hpu; simp_all),trivial⟩,⟨bbx,bbx,bbx,bbx,bbx,bbx,bbx,bbx,trivial⟩,by simp[ren]⟩ ?_; exact H9
  ·refine vBT [] [(2,.ptr 0 0 0),(3,.ptr 1 0 0),(4,.ptr 2 0 0),(7,.ptr 3 0 0),(8,.ptr 4 0 0),(9,.ptr 5 0 0),(10,.bool lw),(11,.ptr 6 0 0),(12,.bool up),(13,.ptr 7 0 0),(14,.bool on)] [(0,⟨[vBB S],12,true⟩),(1,⟨[vBG r],4,true⟩),(2,⟨[.agg [.nilsl,.bool false,.nilsl,.nilsl]],4,true⟩),(3,⟨[vBN v],4,true⟩),(4,⟨[vBN p],4,true⟩),(5,⟨[vA5 L],3,true⟩),(6,⟨[vA5 U],3,true⟩),(7,⟨[vA5 (cr (-1))],3,true⟩)] [] 8 zdd zsm trivial ⟨[0,1,2,3,4,5,6,7],[],[],[],ttt,⟨apx,apx,apx,apx,apx,apx,zAI rfl rfl,apx,zAI rfl rfl,apx,zAI rfl (by rw[← hon]; unfold onP; rw[Bool.eq_iff_iff]; clear sl su cd1 cd2 hL hU hlw hup hvv hp hD1 hD2 cv cl cu cmin cnl cnu c6 c8 c9 c10 c11 c12 hpu; simp_all),trivial⟩,⟨bbx,bbx,bbx,bbx,bbx,bbx,bbx,bbx,trivial⟩,by simp[ren]⟩ ?_; exact H9
  ·refine vBT [] [(2,.ptr 0 0 0),(3,.ptr 1 0 0),(4,.ptr 2 0 0),(7,.ptr 3 0 0),(8,.ptr 4 0 0),(9,.ptr 5 0 0),(10,.bool lw),(11,.ptr 6 0 0),(12,.bool up),(13,.ptr 7 0 0),(14,.bool on)] [(0,⟨[vBB S],12,true⟩),(1,⟨[vBG r],4,true⟩),(2,⟨[.agg [.nilsl,.bool false,.nilsl,.nilsl]],4,true⟩),(3,⟨[vBN v],4,true⟩),(4,⟨[vBN p],4,true⟩),(5,⟨[vA5 L],3,true⟩),(6,⟨[vA5 U],3,true⟩),(7,⟨[vA5 (cr (-1))],3,true⟩)] [] 8 zdd zsm trivial ⟨[0,1,2,3,4,5,6,7],[],[],[],ttt,⟨apx,apx,apx,apx,apx,apx,zAI rfl rfl,apx,zAI rfl rfl,apx,zAI rfl (by rw[← hon]; unfold onP; rw[Bool.eq_iff_iff]; clear sl su cd1 cd2 hL hU hlw hup hvv hp hD1 hD2 cv cl cu cmin cnl cnu c6 c8 c9 c10 c11 c12 hpu; simp_all),trivial⟩,⟨bbx,bbx,bbx,bbx,bbx,bbx,bbx,bbx,trivial⟩,by simp[ren]⟩ ?_; exact H9
 refine vTU ⟨sv [(2,.ptr 0 0 0),(3,.ptr 1 0 0),(4,.ptr 2 0 0),(7,.ptr 3 0 0),(8,.ptr 4 0 0),(9,.ptr 5 0 0),(10,.bool lw),(11,.ptr 6 0 0),(12,.bool up),(13,.ptr 7 0 0),(14,.bool on),(15,.bool off)],hv [(0,⟨[vBB S],12,true⟩),(1,⟨[vBG r],4,true⟩),(2,⟨[.agg [.nilsl,.bool false,.nilsl,.nilsl]],4,true⟩),(3,⟨[vBN v],4,true⟩),(4,⟨[vBN p],4,true⟩),(5,⟨[vA5 L],3,true⟩),(6,⟨[vA5 U],3,true⟩),(7,⟨[vA5 (cr (-1))],3,true⟩)],zv [],8⟩ ?_ fun H10=>?_
 rotate_left
 ·(repeat' (first|refine stu ?_|with_reducible(refine brr ?_ ?_<;>intro h)));all_goals try(conv=>whnf)
  ·refine zAA cd2 rfl ?_
   (repeat' (first|refine stu ?_|with_reducible(refine brr ?_ ?_<;>intro h)));all_goals try(conv=>whnf)
   ·refine vBT [] [(2,.ptr 0 0 0),(3,.ptr 1 0 0),(4,.ptr 2 0 0),(7,.ptr 3 0 0),(8,.ptr 4 0 0),(9,.ptr 5 0 0),(10,.bool lw),(11,.ptr 6 0 0),(12,.bool up),(13,.ptr 7 0 0),(14,.bool on),(15,.bool off)] [(0,⟨[vBB S],12,true⟩),(1,⟨[vBG r],4,true⟩),(2,⟨[.agg [.nilsl,.bool false,.nilsl,.nilsl]],4,true⟩),(3,⟨[vBN v],4,true⟩),(4,⟨[vBN p],4,true⟩),(5,⟨[vA5 L],3,true⟩),(6,⟨[vA5 U],3,true⟩),(7,⟨[vA5 (cr (-1))],3,true⟩)] [] 8 zdd zsm trivial ⟨[0,1,2,3,4,5,6,7],[],[],[],ttt,⟨apx,apx,apx,apx,apx,apx,zAI rfl rfl,apx,zAI rfl rfl,apx,zAI rfl rfl,zAI rfl (by rw[← hoff]; unfold vE6; rw[Bool.eq_iff_iff]; clear sl su cd1 cd2 hL hU hlw hup hvv hp hD1 hD2 cv cl cu cmin cnl cnu c6 c8 c9 c10 c11 c12 hpu; simp_all),trivial⟩,⟨bbx,bbx,bbx,bbx,bbx,bbx,bbx,bbx,trivial⟩,by simp[ren]⟩ ?_; exact H10
   ·refine zAA su rfl ?_
    refine sus ?_;refine vBT [] [(2,.ptr 0 0 0),(3,.ptr 1 0 0),(4,.ptr 2 0 0),(7,.ptr 3 0 0),(8,.ptr 4 0 0),(9,.ptr 5 0 0),(10,.bool lw),(11,.ptr 6 0 0),(12,.bool up),(13,.ptr 7 0 0),(14,.bool on),(15,.bool off)] [(0,⟨[vBB S],12,true⟩),(1,⟨[vBG r],4,true⟩),(2,⟨[.agg [.nilsl,.bool false,.nilsl,.nilsl]],4,true⟩),(3,⟨[vBN v],4,true⟩),(4,⟨[vBN p],4,true⟩),(5,⟨[vA5 L],3,true⟩),(6,⟨[vA5 U],3,true⟩),(7,⟨[vA5 (cr (-1))],3,true⟩)] [] 8 zdd zsm trivial ⟨[0,1,2,3,4,5,6,7],[],[],[],ttt,⟨apx,apx,apx,apx,apx,apx,zAI rfl rfl,apx,zAI rfl rfl,apx,zAI rfl rfl,zAI rfl (by rw[← hoff]; unfold vE6; rw[Bool.eq_iff_iff]; clear sl su cd1 cd2 hL hU hlw hup hvv hp hD1 hD2 cv cl cu cmin cnl cnu c6 c8 c9 c10 c11 c12 hpu; simp_all),trivial⟩,⟨bbx,bbx,bbx,bbx,bbx,bbx,bbx,bbx,trivial⟩,by simp[ren]⟩ ?_; exact H10
   ·refine vBT [] [(2,.ptr 0 0 0),(3,.ptr 1 0 0),(4,.ptr 2 0 0),(7,.ptr 3 0 0),(8,.ptr 4 0 0),(9,.ptr 5 0 0),(10,.bool lw),(11,.ptr 6 0 0),(12,.bool up),(13,.ptr 7 0 0),(14,.bool on),(15,.bool off)] [(0,⟨[vBB S],12,true⟩),(1,⟨[vBG r],4,true⟩),(2,⟨[.agg [.nilsl,.bool false,.nilsl,.nilsl]],4,true⟩),(3,⟨[vBN v],4,true⟩),(4,⟨[vBN p],4,true⟩),(5,⟨[vA5 L],3,true⟩),(6,⟨[vA5 U],3,true⟩),(7,⟨[vA5 (cr (-1))],3,true⟩)] [] 8 zdd zsm trivial ⟨[0,1,2,3,4,5,6,7],[],[],[],ttt,⟨apx,apx,apx,apx,apx,apx,zAI rfl rfl,apx,zAI rfl rfl,apx,zAI rfl rfl,zAI rfl (by rw[← hoff]; unfold vE6; rw[Bool.eq_iff_iff]; clear sl su cd1 cd2 hL hU hlw hup hvv hp hD1 hD2 cv cl cu cmin cnl cnu c6 c8 c9 c10 c11 c12 hpu; simp_all),trivial⟩,⟨bbx,bbx,bbx,bbx,bbx,bbx,bbx,bbx,trivial⟩,by simp[ren]⟩ ?_; exact H10
  ·refine zAA su rfl ?_
   refine sus ?_;refine vBT [] [(2,.ptr 0 0 0),(3,.ptr 1 0 0),(4,.ptr 2 0 0),(7,.ptr 3 0 0),(8,.ptr 4 0 0),(9,.ptr 5 0 0),(10,.bool lw),(11,.ptr 6 0 0),(12,.bool up),(13,.ptr 7 0 0),(14,.bool on),(15,.bool off)] [(0,⟨[vBB S],12,true⟩),(1,⟨[vBG r],4,true⟩),(2,⟨[.agg [.nilsl,.bool false,.nilsl,.nilsl]],4,true⟩),(3,⟨[vBN v],4,true⟩),(4,⟨[vBN p],4,true⟩),(5,⟨[vA5 L],3,true⟩),(6,⟨[vA5 U],3,true⟩),(7,⟨[vA5 (cr (-1))],3,true⟩)] [] 8 zdd zsm trivial ⟨[0,1,2,3,4,5,6,7],[],[],[],ttt,⟨apx,apx,apx,apx,apx,apx,zAI rfl rfl,apx,zAI rfl rfl,apx,zAI rfl rfl,zAI rfl (by rw[← hoff]; unfold vE6; rw[Bool.eq_iff_iff]; clear sl su cd1 cd2 hL hU hlw hup hvv hp hD1 hD2 cv cl cu cmin cnl cnu c6 c8 c9 c10 c11 c12 hpu; simp_all),trivial⟩,⟨bbx,bbx,bbx,bbx,bbx,bbx,bbx,bbx,trivial⟩,by simp[ren]⟩ ?_; exact H10
  ·refine vBT [] [(2,.ptr 0 0 0),(3,.ptr 1 0 0),(4,.ptr 2 0 0),(7,.ptr 3 0 0),(8,.ptr 4 0 0),(9,.ptr 5 0 0),(10,.bool lw),(11,.ptr 6 0 0),(12,.bool up),(13,.ptr 7 0 0),(14,.bool on),(15,.bool off)] [(0,⟨[vBB S],12,true⟩),(1,⟨[vBG r],4,true⟩),(2,⟨[.agg [.nilsl,.bool false,.nilsl,.nilsl]],4,true⟩),(3,⟨[vBN v],4,true⟩),(4,⟨[vBN p],4,true⟩),(5,⟨[vA5 L],3,true⟩),(6,⟨[vA5 U],3,true⟩),(7,⟨[vA5 (cr (-1))],3,true⟩)] [] 8 zdd zsm trivial ⟨[0,1,2,3,4,5,6,7],[],[],[],ttt,⟨apx,apx,apx,apx,apx,apx,zAI rfl rfl,apx,zAI rfl rfl,apx,zAI rfl rfl,zAI rfl (by rw[← hoff]; unfold vE6; rw[Bool.eq_iff_iff]; clear sl su cd1 cd2 hL hU hlw hup hvv hp hD1 hD2 cv cl cu cmin cnl cnu c6 c8 c9 c10 c11 c12 hpu; simp_all),trivial⟩,⟨bbx,bbx,bbx,bbx,bbx,bbx,bbx,bbx,trivial⟩,by simp[ren]⟩ ?_; exact H10
  ·refine vBT [] [(2,.ptr 0 0 0),(3,.ptr 1 0 0),(4,.ptr 2 0 0),(7,.ptr 3 0 0),(8,.ptr 4 0 0),(9,.ptr 5 0 0),(10,.bool lw),(11,.ptr 6 0 0),(12,.bool up),(13,.ptr 7 0 0),(14,.bool on),(15,.bool off)] [(0,⟨[vBB S],12,true⟩),(1,⟨[vBG r],4,true⟩),(2,⟨[.agg [.nilsl,.bool false,.nilsl,.nilsl]],4,true⟩),(3,⟨[vBN v],4,true⟩),(4,⟨[vBN p],4,true⟩),(5,⟨[vA5 L],3,true⟩),(6,⟨[vA5 U],3,true⟩),(7,⟨[vA5 (cr (-1))],3,true⟩)] [] 8 zdd zsm trivial ⟨[0,1,2,3,4,5,6,7],[],[],[],ttt,⟨apx,apx,apx,apx,apx,apx,zAI rfl rfl,apx,zAI rfl rfl,apx,zAI rfl rfl,zAI rfl (by rw[← hoff]; unfold vE6; rw[Bool.eq_iff_iff]; clear sl su cd1 cd2 hL hU hlw hup hvv hp hD1 hD2 cv cl cu cmin cnl cnu c6 c8 c9 c10 c11 c12 hpu; simp_all),trivial⟩,⟨bbx,bbx,bbx,bbx,bbx,bbx,bbx,bbx,trivial⟩,by simp[ren]⟩ ?_; exact H10
 clear cd1 cd2 hon hoff;have hpl2:pl=true↔r.lo=0∧r.hi=0:=by rw[← hpl]; unfold vDI; simp
 clear hpl;have end0:∀ {X:QF×Bool},X.2=false→PV.tup [.agg [.imm [],.bool false,.imm [],.imm []],.bool false]=.tup [vBN (if X.2=true then X.1 else zeroQ),.bool X.2]:=fun h=>by rw[h,if_neg zdd,← zA4]
 have end1:∀ {X:QF×Bool},X.2=true→PV.tup [vBN X.1,.bool true]=.tup [vBN (if X.2=true then X.1 else zeroQ),.bool X.2]:=fun h=>by rw[h,if_pos rfl]
 (repeat' (first|refine stp ?_|with_reducible(refine brr ?_ ?_<;>intro h)));all_goals try(conv=>whnf)
 ·have e:vD1 r v p L U lw up on off pl=(v,pl):=by unfold vD1; (repeat rw[if_neg zom]); rw[if_pos zom]
  (have hb:=(hpl2.2 ⟨by assumption,by assumption⟩); exact zAB rfl (by rw[e]; dsimp only; rw[hb,if_pos rfl]; rfl))
 ·have e:vD1 r v p L U lw up on off pl=(v,pl):=by unfold vD1; (repeat rw[if_neg zom]); rw[if_pos zom]
  (have hb:=(show pl=false by rw[Bool.eq_false_iff]; intro q; have:=hpl2.1 q; omega); exact zAB rfl (by rw[e]; dsimp only; rw[hb,if_neg zdd,← zA4]))
 ·have e:vD1 r v p L U lw up on off pl=(v,pl):=by unfold vD1; (repeat rw[if_neg zom]); rw[if_pos zom]
  (have hb:=(show pl=false by rw[Bool.eq_false_iff]; intro q; have:=hpl2.1 q; omega); exact zAB rfl (by rw[e]; dsimp only; rw[hb,if_neg zdd,← zA4]))
 ·have e:vD1 r v p L U lw up on off pl=(vB8 v p,pl):=by unfold vD1; (repeat rw[if_neg zom]); rw[if_pos zom]
  refine zAA c6 rfl ?_
  (repeat' (first|refine stp ?_|with_reducible(refine brr ?_ ?_<;>intro h)));all_goals try(conv=>whnf)
  ·(have hb:=(hpl2.2 ⟨by assumption,by assumption⟩); exact zAB rfl (by rw[e]; dsimp only; rw[hb,if_pos rfl]; rfl))
  ·(have hb:=(show pl=false by rw[Bool.eq_false_iff]; intro q; have:=hpl2.1 q; omega); exact zAB rfl (by rw[e]; dsimp only; rw[hb,if_neg zdd,← zA4]))
  ·(have hb:=(show pl=false by rw[Bool.eq_false_iff]; intro q; have:=hpl2.1 q; omega); exact zAB rfl (by rw[e]; dsimp only; rw[hb,if_neg zdd,← zA4]))
 ·have e:vD1 r v p L U lw up on off pl=(p,on):=by unfold vD1; (repeat rw[if_neg zom]); rw[if_pos zom]
  (have hb:=(show on=true by assumption); exact zAB rfl (by rw[e]; dsimp only; rw[hb,if_pos rfl]; rfl))
 ·have e:vD1 r v p L U lw up on off pl=(p,on):=by unfold vD1; (repeat rw[if_neg zom]); rw[if_pos zom]
  (have hb:=(show on=false by assumption); exact zAB rfl (by rw[e]; dsimp only; rw[hb,if_neg zdd,← zA4]))
 ·have e:vD1 r v p L U lw up on off pl=(vB8 p v,on):=by unfold vD1; (repeat rw[if_neg zom]); rw[if_pos zom]
  refine zAA c8 rfl ?_
  (refine gob ?_ ?_<;>intro h)
  ·(have hb:=(show on=true by assumption); exact zAB rfl (by rw[e]; dsimp only; rw[hb,if_pos rfl]; rfl))
  ·(have hb:=(show on=false by assumption); exact zAB rfl (by rw[e]; dsimp only; rw[hb,if_neg zdd,← zA4]))
 ·have e:vD1 r v p L U lw up on off pl=(vC0 p (-1),off):=by unfold vD1; (repeat rw[if_neg zom]); rw[if_pos zom]
  refine zAA c9 rfl ?_
  (refine gob ?_ ?_<;>intro h)
  ·(have hb:=(show off=true by assumption); exact zAB rfl (by rw[e]; dsimp only; rw[hb,if_pos rfl]; rfl))
  ·(have hb:=(show off=false by assumption); exact zAB rfl (by rw[e]; dsimp only; rw[hb,if_neg zdd,← zA4]))
 ·have e:vD1 r v p L U lw up on off pl=(vC0 v (-1),off):=by unfold vD1; (repeat rw[if_neg zom]); rw[if_pos zom]
  refine zAA c10 rfl ?_
  (refine gob ?_ ?_<;>intro h)
  ·(have hb:=(show off=true by assumption); exact zAB rfl (by rw[e]; dsimp only; rw[hb,if_pos rfl]; rfl))
  ·(have hb:=(show off=false by assumption); exact zAB rfl (by rw[e]; dsimp only; rw[hb,if_neg zdd,← zA4]))
 ·have e:vD1 r v p L U lw up on off pl=(vB8 p (vBM (qv L)),(lw && decide (r.hi=0))):=by unfold vD1; (repeat rw[if_neg zom]); rw[if_pos zom]
  refine zAA cnl rfl ?_;refine sts ?_;refine zAA c11 rfl ?_
  (repeat' (first|refine stp ?_|with_reducible(refine brr ?_ ?_<;>intro h)));all_goals try(conv=>whnf)
  ·(have hb:=(show(lw && decide (r.hi=0))=true by simp[*]); exact zAB rfl (by rw[e]; dsimp only; rw[hb,if_pos rfl]; rfl))
  ·(have hb:=(show(lw && decide (r.hi=0))=false by simp[*]); exact zAB rfl (by rw[e]; dsimp only; rw[hb,if_neg zdd,← zA4]))
  ·(have hb:=(show(lw && decide (r.hi=0))=false by simp[*]); exact zAB rfl (by rw[e]; dsimp only; rw[hb,if_neg zdd,← zA4]))
 ·have e:vD1 r v p L U lw up on off pl=(vB8 (vBM (qv U)) p,(up && decide (r.lo=0))):=by unfold vD1; (repeat rw[if_neg zom]); rw[if_pos zom]
  refine zAA cnu rfl ?_;refine sts ?_;refine zAA c12 rfl ?_
  (repeat' (first|refine stp ?_|with_reducible(refine brr ?_ ?_<;>intro h)));all_goals try(conv=>whnf)
  ·(have hb:=(show(up && decide (r.lo=0))=true by simp[*]); exact zAB rfl (by rw[e]; dsimp only; rw[hb,if_pos rfl]; rfl))
  ·(have hb:=(show(up && decide (r.lo=0))=false by simp[*]); exact zAB rfl (by rw[e]; dsimp only; rw[hb,if_neg zdd,← zA4]))
  ·(have hb:=(show(up && decide (r.lo=0))=false by simp[*]); exact zAB rfl (by rw[e]; dsimp only; rw[hb,if_neg zdd,← zA4]))
 ·have e:vD1 r v p L U lw up on off pl=(uD7 v p (qv L) (qv U),(lw && (up && (decide (vC9 (qv L)<0) && decide (0<vC9 (qv U)))))):=by unfold vD1; (repeat rw[if_neg zom]); rw[if_pos zom]
  have z1:szF (P+V+3) (vB8 p (vBM (qv L))):=zER szp (zDS szL) zom;have s1:Srt (vB8 p (vBM (qv L))).ts:=zBC srp (zE5 _);have l1:=zHS (f:=p) (c:=qv L);have q1:=zFC (vB8 p (vBM (qv L))) (qv U) _ _ z1 szU s1 zom zom;rw[hUc]at q1;have q2:=vW3 U L hUk.1 hLk.1 (by have:=hUk.2; omega) (by have:=hUk.2; omega) (by have:=hLk.2; omega) (by have:=hLk.2; omega);have z2:sz (2 * V+4) (qv U - qv L):=zIO zom (vSD szU szL);have q3:=zFC v (qv U - qv L) _ _ szv z2 srv zom zom;have z3:szF (P+2 * V+8) (vC0 (vB8 p (vBM (qv L))) (qv U)):=zF3 z1 szU zom;have z4:szF (2 * V+8) (vC0 v (qv U - qv L)):=zF3 szv z2 zom;have l2:=zIP (f:=v) (c:=qv U - qv L);have l3:=zIP (f:=vB8 p (vBM (qv L))) (c:=qv U);have q4:=zFV (vC0 (vB8 p (vBM (qv L))) (qv U)) (vC0 v (qv U - qv L)) _ _ z3 z4 (zBC zCW s1) (zBC zCW srv) (by have:=mul17 _ (2 * V+8+2) (show(vC0 v (qv U - qv L)).ts.length≤16 by omega); omega) zom;refine zAA cnl rfl ?_;refine sts ?_;refine zAA c11 rfl ?_;refine sts ?_;refine zAA q1 rfl ?_;refine sts ?_;refine zAA q2 rfl ?_;refine sts ?_;refine zAA q3 rfl ?_;refine sts ?_;refine zAA q4 rfl ?_
  (repeat' (first|refine stp ?_|with_reducible(refine brr ?_ ?_<;>intro h)));all_goals try(conv=>whnf)
  ·refine zAA sl rfl ?_
   (refine gob ?_ ?_<;>intro h)
   ·refine zAA su rfl ?_
    (refine gob ?_ ?_<;>intro h)
    ·(have hb:=(show(lw && (up && (decide (vC9 (qv L)<0) && decide (0<vC9 (qv U)))))=true by simp[*]); exact zAB rfl (by rw[e]; dsimp only; rw[hb,if_pos rfl]; rfl))
    ·(have hb:=(show(lw && (up && (decide (vC9 (qv L)<0) && decide (0<vC9 (qv U)))))=false by simp[*]); exact zAB rfl (by rw[e]; dsimp only; rw[hb,if_neg zdd,← zA4]))
   ·(have hb:=(show(lw && (up && (decide (vC9 (qv L)<0) && decide (0<vC9 (qv U)))))=false by simp[*]); exact zAB rfl (by rw[e]; dsimp only; rw[hb,if_neg zdd,← zA4]))
  ·(have hb:=(show(lw && (up && (decide (vC9 (qv L)<0) && decide (0<vC9 (qv U)))))=false by simp[*]); exact zAB rfl (by rw[e]; dsimp only; rw[hb,if_neg zdd,← zA4]))
  ·(have hb:=(show(lw && (up && (decide (vC9 (qv L)<0) && decide (0<vC9 (qv U)))))=false by simp[*]); exact zAB rfl (by rw[e]; dsimp only; rw[hb,if_neg zdd,← zA4]))
 ·have e:vD1 r v p L U lw up on off pl=(zeroQ,false):=by unfold vD1; repeat rw[if_neg zom]
  (have hb:=(rfl (a:=false)); exact zAB rfl (by rw[e]; dsimp only; rw[hb,if_neg zdd,← zA4]))
theorem uGW{S:ScpL}{n j:Int}{up:Bool}:geO (vEW S n j up)=(vCE S n j up && decide (0≤vC9 (qv (vD9 S n j up)))):=by
 rw[uDL];unfold vD9;cases vCE S n j up<;>simp
theorem uGU{S:ScpL}{n j:Int}{up:Bool}:leO (vEW S n j up)=(vCE S n j up && decide (vC9 (qv (vD9 S n j up))≤0)):=by
 rw[uDG];unfold vD9;cases vCE S n j up<;>simp
theorem uDZ{S:ScpL}{n j:Int}{up:Bool}:vEW S n j up=(if vCE S n j up=true then some (qv (vD9 S n j up)) else none):=by
 unfold vD9;cases h:vCE S n j up with
 | true=>rw[if_pos rfl,if_pos rfl,zKI h]
 | false=>rw[if_neg zdd,zIF h]
abbrev vJL(S:ScpL)(r:RowL):QF×Bool:=vD1 r (vCB (S.q.g.ins+r.index)) S.q.g.units[r.index.toNat]!.Q (vD9 S r.lo r.index false) (vD9 S r.hi r.index true) (vCE S r.lo r.index false) (vCE S r.hi r.index true) (onP r (vD9 S r.lo r.index false) (vCE S r.lo r.index false) (vE1 S 1 r.index)) (vE6 r (vD9 S r.hi r.index true) (vCE S r.hi r.index true) (vE1 S 2 r.index)) (vDI r)
theorem vWD{S:ScpL}{r:RowL}(hk:5≤r.kind)(hi:0≤r.index∧r.index<S.q.g.units.length):vDR S r=(if (vJL S r).2=true then some (vJL S r).1 else none):=by
 have hon:onB S r=onP r (vD9 S r.lo r.index false) (vCE S r.lo r.index false) (vE1 S 1 r.index):=by unfold onB onP; rw[uGW]
 have hoff:uIJ S r=vE6 r (vD9 S r.hi r.index true) (vCE S r.hi r.index true) (vE1 S 2 r.index):=by unfold uIJ vE6; rw[uGU]
 have hpl:(r.lo=0∧r.hi=0)↔vDI r=true:=by unfold vDI; simp
 unfold vDR unO vJL;rw[if_neg zom,if_neg zom,hon,hoff,uDZ,uDZ];generalize onP r (vD9 S r.lo r.index false) (vCE S r.lo r.index false) (vE1 S 1 r.index)=on;generalize vE6 r (vD9 S r.hi r.index true) (vCE S r.hi r.index true) (vE1 S 2 r.index)=off;generalize vCE S r.lo r.index false=lw;generalize vCE S r.hi r.index true=up;generalize vD9 S r.lo r.index false=L;generalize vD9 S r.hi r.index true=U;generalize vCB (S.q.g.ins+r.index)=v;generalize S.q.g.units[r.index.toNat]!.Q=p;unfold vD1;by_cases k5:r.kind=5
 ·rw[if_pos k5,if_pos k5]; simp only[hpl]
 rw[if_neg k5,if_neg k5];by_cases k6:r.kind=6
 ·rw[if_pos k6,if_pos k6]; simp only[hpl]
 rw[if_neg k6,if_neg k6];by_cases k7:r.kind=7
 ·rw[if_pos k7,if_pos k7]
 rw[if_neg k7,if_neg k7];by_cases k8:r.kind=8
 ·rw[if_pos k8,if_pos k8]
 rw[if_neg k8,if_neg k8];by_cases k9:r.kind=9
 ·rw[if_pos k9,if_pos k9]
 rw[if_neg k9,if_neg k9];by_cases k10:r.kind=10
 ·rw[if_pos k10,if_pos k10]
 rw[if_neg k10,if_neg k10];by_cases k11:r.kind=11
 ·rw[if_pos k11,if_pos k11]
  cases lw<;>simp
 rw[if_neg k11,if_neg k11];by_cases k12:r.kind=12
 ·rw[if_pos k12,if_pos k12]
  cases up<;>simp
 rw[if_neg k12,if_neg k12];by_cases k13:r.kind=13
 ·rw [if_pos k13,if_pos k13]
  cases lw
  ·simp
  ·cases up
   ·simp
   ·simp only[if_true,Bool.true_and]
    by_cases hc:vC9 (qv L)<0∧0<vC9 (qv U)
    ·rw[if_pos (show qv L<0∧0<qv U from⟨sgnQ_neg.1 hc.1,sgnQ_pos.1 hc.2⟩)]; simp[hc.1,hc.2]
    ·rw[if_neg (show ¬ (qv L<0∧0<qv U) from fun e=>hc ⟨sgnQ_neg.2 e.1,sgnQ_pos.2 e.2⟩),if_neg (by simp only[Bool.and_eq_true,decide_eq_true_eq]; exact hc)]
 ·rw[if_neg k13,if_neg k13]; rfl
theorem vX9:vEO ⟨false,[],[]⟩:=by
 have h:qv (⟨false,[],[]⟩:RatL)=0:=rfl;unfold vEO;rw[h,zNL]
theorem uG2{q:QryL}{d:DecL}(h:vE8 q d):vEO d.rat:=by
 rcases h with⟨_,_,_,h1,h2,h3⟩ | ⟨_,_,_,h⟩
 ·obtain⟨_,_,⟨a,b,c⟩⟩:=d
  simp only at h1 h2 h3;obtain rfl:=List.length_eq_zero_iff.1 h2;obtain rfl:=List.length_eq_zero_iff.1 h3;subst h1;exact vX9
 ·exact h
theorem vLR:FO 193 Tryz.f193 [.cell 4 46,.tmp 5] 215:=mkO Tryz.func193 Tryz.ntmps193 Tryz.results193
theorem vRF(S:ScpL)(r:RowL)(hl:S.q.g.units.length≤1048576)(hi:¬ (0≤r.index∧r.index<S.q.g.units.length)):Fn 193 [vBB S,vBG r] (.data (.tup [.agg [.imm [],.bool false,.imm [],.imm []],.bool false])):=by
 refine zAL vBD hT vLR (by simp[vBB,vBG]) ?_
 (repeat' (first|refine stp ?_|with_reducible(refine brr ?_ ?_<;>intro h)));all_goals try(conv=>whnf)
 all_goals try (exfalso; omega)
 all_goals exact zAB rfl rfl
theorem zKX:FO 177 Tryz.f177 [.cell 4 46,.tmp 5] 138:=mkO Tryz.func177 Tryz.ntmps177 Tryz.results177
theorem vXC(S:ScpL)(r:RowL)(P V:Nat)(hS:vB0 S)(hz:szS S P V)(hq:szQ S.q P)(hB2:P+2 * V≤20000000)(hn:vCZ S≤16):Fn 177 [vBB S,vBG r] (.data (.tup [vBN ((vDR S r).getD zeroQ),.bool (vDR S r).isSome])):=by
 have cva:=zID S.q P hq zom;have hVa:dB (VaQ S.q)=true:=dB_true.2 hS.1;rw[hVa]at cva;have none:vDR S r=none→PV.tup [.agg [.imm [],.bool false,.imm [],.imm []],.bool false]=.tup [vBN ((vDR S r).getD zeroQ),.bool (vDR S r).isSome]:=fun e=>by rw[e,← zA4]; rfl
 have some:∀ f,vDR S r=some f→PV.tup [vBN f,.bool true]=.tup [vBN ((vDR S r).getD zeroQ),.bool (vDR S r).isSome]:=fun f e=>by rw[e]; rfl
 have l1:=hz.lo.1;have l2:=hz.hi.1;have l3:=hz.rows.1;have l4:=hz.path.1;have hP:=hz.P1;by_cases hk:5≤r.kind
 ·by_cases hi:0≤r.index∧r.index<S.q.g.units.length
  ·have cu:=vXB S r P V hS hz hB2 hn hk hi _ _ _ _ _ _ _ _ _ _ _ rfl rfl rfl rfl rfl rfl rfl rfl rfl rfl rfl
   have e:=vWD (S:=S) (r:=r) hk hi
   have e2:PV.tup [vBN (if (vJL S r).2=true then(vJL S r).1 else zeroQ),.bool (vJL S r).2]=.tup [vBN ((vDR S r).getD zeroQ),.bool (vDR S r).isSome]:=by
    rw[e];cases (vJL S r).2<;>rfl
   rw[show vD1 r (vCB (S.q.g.ins+r.index)) S.q.g.units[r.index.toNat]!.Q (vD9 S r.lo r.index false) (vD9 S r.hi r.index true) (vCE S r.lo r.index false) (vCE S r.hi r.index true) (onP r (vD9 S r.lo r.index false) (vCE S r.lo r.index false) (vE1 S 1 r.index)) (vE6 r (vD9 S r.hi r.index true) (vCE S r.hi r.index true) (vE1 S 2 r.index)) (vDI r)=vJL S r from rfl,e2]at cu;refine zAL vBD hT zKX (by simp[vBB,vBG]) ?_;refine sts ?_;refine zAA cva rfl ?_
   (repeat' (first|refine stp ?_|with_reducible(refine brr ?_ ?_<;>intro h)));all_goals try(conv=>whnf)
   all_goals try (exfalso; omega)
   refine zAA cu rfl ?_;refine sts ?_;exact zAB rfl rfl
  ·have cu:=vRF S r (by have:=hS.1.1.2.1; omega) hi
   have e:vDR S r=Option.none:=by unfold vDR unO; rw[if_neg zom,if_pos zom]
   rw[none e]at cu;refine zAL vBD hT zKX (by simp[vBB,vBG]) ?_;refine sts ?_;refine zAA cva rfl ?_
   (repeat' (first|refine stp ?_|with_reducible(refine brr ?_ ?_<;>intro h)));all_goals try(conv=>whnf)
   all_goals try (exfalso; omega)
   refine zAA cu rfl ?_;refine sts ?_;exact zAB rfl rfl
 ·have hrow:vDR S r=inO S r:=by unfold vDR; rw[if_pos zom]
  rw[hrow]at none some;rw[hrow];refine zAL vBD hT zKX (by simp[vBB,vBG]) ?_;refine sts ?_;refine zAA cva rfl ?_
  (repeat' (first|refine stp ?_|with_reducible(refine brr ?_ ?_<;>intro h)));all_goals try(conv=>whnf)
  all_goals try (exfalso; omega)
  all_goals first
   | exact zAB rfl (none (uDI zom))
   | exact zAB rfl (none (vG9 zom zom zom zom))
   | skip
  ·have hj:r.index.toNat<S.q.r.lo.length:=by omega
   have hc:=(hS.1.2.1.2.2.2.2.1 r.index.toNat hj).1;have cv:=zKE r.index;have cn:=zGJ _ hc;have cs:=zFV (vCB r.index) (vBM (qv S.q.r.lo[r.index.toNat]!)) 1 P (zDM _) (zDS (zF6 (zDY hz.lo hj) hP)) (zIL _) (zE5 _) (by simp[vBM]; omega) (by simp[vCB,vBM]);refine zAA cv rfl ?_;refine sts ?_;refine zA1 (j:=r.index.toNat) (show r.index=_ by omega) hj ?_;refine sts ?_;refine zAA cn rfl ?_;refine sts ?_;refine zAA cs rfl ?_;refine sts ?_;exact zAB rfl (some _ (uNO zom ⟨by assumption,by assumption⟩))
  ·have hj:r.index.toNat<S.q.r.hi.length:=by omega
   have hc:=(hS.1.2.1.2.2.2.2.1 r.index.toNat (by have:=hS.1.2.1; have h1:=this.2.1; have h2:=this.2.2.1; omega)).2.1;have cv:=zKE r.index;have cn:=zGJ _ hc;have cs:=zFV (vBM (qv S.q.r.hi[r.index.toNat]!)) (vCB r.index) P 1 (zDS (zF6 (zDY hz.hi hj) hP)) (zDM _) (zE5 _) (zIL _) (by simp[vCB]; omega) (by simp[vCB,vBM]);refine zA1 (j:=r.index.toNat) (show r.index=_ by omega) hj ?_;refine sts ?_;refine zAA cn rfl ?_;refine sts ?_;refine zAA cv rfl ?_;refine sts ?_;refine zAA cs rfl ?_;refine sts ?_;exact zAB rfl (some _ (uNN zom ⟨by assumption,by assumption⟩))
  ·have hj:r.index.toNat<S.q.r.rows.length:=by omega
   have hv:=hS.1.2.1.2.2.2.2.2 r.index.toNat hj;refine zA1 (j:=r.index.toNat) (show r.index=_ by omega) hj ?_;refine sts ?_;have e:=some _ (uNM (S:=S) (r:=r) zom ⟨by assumption,by assumption⟩);rw[zNK hv]at e;exact zAB rfl e
  ·have hj:r.index.toNat<S.path.length:=by omega
   have hm:=get_mem hj;have hf:=hS.2 _ hm;have hd:=hz.path.2 _ hm;have cf:=zNV S.q S.path[r.index.toNat]! hq.g.1.1 (zCX zom hd);rw[dB_true.2 hf]at cf;have hc:=uG2 hf;generalize hD:S.path[r.index.toNat]! = D at *
   have cv:=zKE D.index;have cn:=zGJ _ hc;have szn:=zF6 hd hP;have cs:=zFV (vCB D.index) (vBM (qv D.rat)) 1 P (zDM _) (zDS szn) (zIL _) (zE5 _) (by simp[vBM]; omega) (by simp[vCB,vBM]);have z1:szF (P+4) (vB8 (vCB D.index) (vBM (qv D.rat))):=zER (zDM _) (zDS szn) zom;have s1:Srt (vB8 (vCB D.index) (vBM (qv D.rat))).ts:=zBC (zIL _) (zE5 _);have l1:=zHS (f:=vCB D.index) (c:=qv D.rat);have cmin:=zLU (-1) zom;have csc:=zFC (vB8 (vCB D.index) (vBM (qv D.rat))) (-1) _ 1 z1 (zE1 (z:=-1) zdd) s1 zom (by have:(vCB D.index).ts.length=1:=rfl; omega);rw[uEN (zIL _) (zE5 _)]at csc;refine zA1 (j:=r.index.toNat) (show r.index=_ by omega) hj ?_;rw[hD];refine sts ?_;refine zAA cf rfl ?_;refine sts ?_;refine zA1 (j:=r.index.toNat) (show r.index=_ by omega) hj ?_;rw[hD];refine sts ?_;refine zAA cv rfl ?_;refine sts ?_;refine zAA cn rfl ?_;refine sts ?_;refine zAA cs rfl ?_
   (repeat' (first|refine stp ?_|with_reducible(refine brr ?_ ?_<;>intro h)));all_goals try(conv=>whnf)
   ·exact zAB rfl (some _ (by rw[uNL zom ⟨by assumption,zom⟩ (by rw[hD]; assumption),hD]))
   ·refine zAA cmin rfl ?_
    refine sts ?_;refine zAA csc rfl ?_;refine sts ?_;exact zAB rfl (some _ (by rw[uKA zom ⟨by assumption,zom⟩ (by rw[hD]; assumption),hD]))
   ·exact zAB rfl (none (vG9 zom zom zom (fun e=>by have:=e.2.2; rw[hD]at this; omega)))
end Go.PI.Tryz
