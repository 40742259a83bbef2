/-
  Trees that were read: their walk stays in bounds.
-/
import Derived.Test.YtbelmkceegmdjaaGreatDoorKSA
set_option linter.unusedVariables false
set_option linter.unusedSimpArgs false
set_option maxHeartbeats 0
namespace Go.PI.Tryz
open Go.Proofs Go.PI
theorem vSB:FO 192 Tryz.f192 [.tmp 4] 43:=mkO Tryz.func192 Tryz.ntmps192 Tryz.results192
theorem vZO(a b:RowL):Fn 192 [vBI a,vBI b] (.data (.bool (dB (vET a b)))):=by
 refine zAL vBC hT vSB (by simp[vBI]) ?_
 (repeat' (first|refine stp ?_|with_reducible(refine brr ?_ ?_<;>intro h)));all_goals try(conv=>whnf)
 all_goals (refine zAB rfl (rA3 PV.bool ?_); rw[rA1,dB_true,rAY]; unfold vET; omega)
def vS3(l:List MultL)(k:Nat):Prop:=vE0 l[k]!.coef/\0<qv l[k]!.coef/\(0<k->vET l[k - 1]!.row l[k]!.row)
def uLS(l:List MultL):Prop:=∀ k,k<l.length->vS3 l k
theorem vWW:FO 176 Tryz.f176 [.tmp 2] 45:=mkO Tryz.func176 Tryz.ntmps176 Tryz.results176
theorem uEX(l:List MultL)(hl:szM l):Fn 176 [.imm (l.map vBB)] (.data (.bool (dB (uLS l)))):=by
 have l1:=hl.1;refine zAL vBC hT vWW zsm ?_;refine sts ?_
 refine zAN hT (fun(i:Nat)=>[(0,.imm (l.map vBB)),(3,.int .i64 i)]) (fun _=>[]) [] 0
  (fun i=>i<=l.length/\∀ k,k<i->vS3 l k) (fun i=>l.length - i) 0 ⟨rA7 _,fun k h=>by omega⟩ zdd zsm ?_ ?_
 .exact⟨[],[],[],[],ttt,⟨rAJ,rAI,rGU⟩,rGU,rAA⟩
 intro i ⟨i1,i2⟩;by_cases hi:i<l.length
 .have hm:=hl.2 _ (get_mem hi)
  have hm2:=hm.2;have hno:¬ vS3 l i->false=dB (uLS l):=fun h=>zGR fun e=>h (e i hi)
  have cva:=zGT l[i]!.coef hm.1 zom zom;have csg:=zE1 l[i]!.coef hm.1 zom;have cle:=vZO l[i - 1]!.row l[i]!.row;have nxt:vS3 l i->∀ k,k<i+1->vS3 l k:=fun h k hk=>zA6 (p:=vS3 l) i2 h hk
  refine gob ?_ ?_<;>intro h
  all_goals try (exfalso; omega)
  refine zAA cva rfl ?_
  refine gob ?_ ?_<;>intro h
  rotate_left
  .exact zAB rfl (rA3 PV.bool (hno fun e=>by have:=e.1; contradiction))
  have hcan:vE0 l[i]!.coef:=by assumption
  refine zAA csg rfl ?_
  (repeat' (first|refine stp ?_|with_reducible(refine brr ?_ ?_<;>intro h)));all_goals try(conv=>whnf)
  .exact zAB rfl (rA3 PV.bool (hno fun e=>by have:=sgnQ_pos.2 e.2.1; omega))
  .have hpos:0<qv l[i]!.coef:=sgnQ_pos.1 zom
   refine zA5 (j:=i - 1) zom zom ?_;refine sts ?_;refine zAA cle rfl ?_
   refine gob ?_ ?_<;>intro h
   .have hless:vET l[i - 1]!.row l[i]!.row:=dB_true.1 rAC
    exact⟨i+1,⟨⟨zom,nxt ⟨hcan,hpos,fun _=>hless⟩⟩,by show l.length - (i+1)<l.length - i; omega⟩,[],[],[],[],ttt,⟨rAJ,rAI,rGU⟩,rGU,rAA⟩
   .exact zAB rfl (rA3 PV.bool (hno fun e=>dB_false.1 rAC (e.2.2 zom)))
  .have hpos:0<qv l[i]!.coef:=sgnQ_pos.1 zom
   exact⟨i+1,⟨⟨zom,nxt ⟨hcan,hpos,fun _=>by omega⟩⟩,by show l.length - (i+1)<l.length - i; omega⟩,[],[],[],[],ttt,⟨rAJ,rAI,rGU⟩,rGU,rAA⟩
 ·refine gob ?_ ?_<;>intro h
  all_goals try (exfalso; omega)
  exact zAB rfl (rA3 PV.bool (dB_true.2 fun k hk=>i2 k zom).symm)
def avP(S:ScpL)(l:List MultL)(i:Nat):Prop:=∀ k,k<i->(vDB S l[k]!.row).isSome=true
open Classical in
noncomputable def vE1(S:ScpL)(l:List MultL):QF×Int:=if uLS l then(if avP S l l.length then(vF8 S l l.length,0) else(zeroQ,12)) else(zeroQ,1)
theorem okM_iff{S:ScpL}{l:List MultL}:okM S l l.length↔uLS l/\avP S l l.length :=
 ⟨fun h=>⟨fun k hk=>⟨(h k hk).1,(h k hk).2.1,(h k hk).2.2.1⟩,fun k hk=>(h k hk).2.2.2⟩,fun h k hk=>⟨(h.1 k hk).1,(h.1 k hk).2.1,(h.1 k hk).2.2,h.2 k hk⟩⟩
theorem vT9{S:ScpL}{P V:Nat}(hS:vB6 S)(hz:szS S P V){l:List MultL}(hl:szM l):∀ {i:Nat},i<=l.length->avP S l i->szF (1+i * (P+2 * V+18)+vEM (l.take i)) (vF8 S l i)
 | 0,_,_=>by
   show szF _ zeroQ
   exact zHI zom (zEF 1 zdd)
 | i+1,hi,hk=>by
   have ih:=vT9 hS hz hl (i:=i) zom fun k h=>hk k zom
   obtain⟨g,hg⟩:=rBZ.1 (hk i zom);have hr:=vJE hS hz hg;have e:rw' S l[i]! = g:=by unfold rw'; rw[hg]; rfl
   have hc:sz (vEU l[i]!.coef+1) (qv l[i]!.coef):=zGH (zCZ (rC3 _) (zLL (hl.2 _ (get_mem zom)))) zom;obtain⟨R,hR⟩:∃ R,P+2 * V+18=R:=⟨_,rfl⟩;rw[hR]at ih ⊢;have hr2:szF (R - 4) g:=zHI zom hr;rw[zHJ zom,e];refine zJ8 ih hr2 hc ?_;rw[zHL zom,rD8];generalize i * R=X;omega
theorem zGG{S:ScpL}(hS:vB6 S)(hn:vDD S<=16){f:QF}(h:okF (vDD S) f):f.ts.length<=16:=by
 have hi:=hS.1.1.1.1;obtain⟨n,hn2⟩:∃ n:Nat,vDD S=n:=⟨(vDD S).toNat,by unfold vDD at *; omega⟩;rw[hn2]at h;have:=vLS n h.1.1 h.2;omega
theorem uLB{f g:QF}{c:Rat}(hf:Srt f.ts)(hg:Srt g.ts):vB3 f (vDE g c) 1=vB3 f g c:=by
 have h0:=zBD (c:=c) zCY hg;refine zNP (zBD hf h0) (zBD hf hg) (fun v=>?_) ?_
 .unfold vDE
  rw[zB6 hf h0,zB6 zCY hg,zB6 hf hg,zJC]; grind
 .simp only[vDE,zH2,zeroQ]; grind
theorem vWT:FO 149 Tryz.f149 [.cell 4 46,.tmp 5] 43:=mkO Tryz.func149 Tryz.ntmps149 Tryz.results149
theorem vQM(S:ScpL)(l:List MultL)(P V:Nat)(hS:vB6 S)(hz:szS S P V)(hq:szQ S.q P)(hB2:P+2 * V<=20000000)(hn:vDD S<=16)(hl:szM l)(hsz:1+l.length * (P+2 * V+18)+vEM l+18 * (P+2 * V+40+vEM l)<=940000000):Fn 149 [vBD S,.imm (l.map vBB)] (.data (.tup [vBP (vE1 S l).1,.int .i64 (vE1 S l).2])):=by
 have l1:=hl.1;have cca:=uEX l hl;refine zAL vBC hT vWT (by simp[vBD]) ?_;refine sts ?_;refine zAA cca rfl ?_
 refine gob ?_ ?_<;>intro h
 rotate_left
 .have hc:¬ uLS l:=dB_false.1 rAC
  have e:vE1 S l=(zeroQ,1):=rAM hc;exact zAB rfl (by rw[e,<- zA7])
 have hc:uLS l:=dB_true.1 rAC
 refine zAN hT (fun(i:Nat)=>[(1,.imm (l.map vBB)),(2,.ptr 0 0 0),(4,.ptr 1 0 0),(6,.ptr 2 0 0),(7,.int .i64 i)])
  (fun i=>[(0,⟨[vBD S],12,true⟩),(1,⟨[.agg [.nilsl,.bool false,.nilsl,.nilsl]],4,true⟩),(2,⟨[vBP (vF8 S l i)],4,true⟩)]) [] 3
  (fun i=>i<=l.length/\avP S l i) (fun i=>l.length - i) 0 ⟨rA7 _,fun k h=>by omega⟩ zdd zsm ?_ ?_
 .exact⟨[0,1,6],[],[],[(6,[.agg [.imm [],.bool false,.imm [],.imm []]])],⟨rGU,rGU,⟨⟨_,4,_,rfl,rfl,rfl⟩,rGU⟩⟩,⟨zAE rfl rfl,apx,apx,apx,zAC rfl rfl,rGU⟩,⟨bbx,bbx,zEW zdd rfl encF_zero'.symm rfl rfl rfl,rGU⟩,rAA⟩
 rintro i ⟨i1,i2⟩
 by_cases hi:i<l.length
 .have hm:=hl.2 _ (get_mem hi)
  have hm2:=hm.2;have cf:=vZQ S l[i]!.row P V hS hz hq hB2 hn
  refine gob ?_ ?_<;>intro h
  all_goals try (exfalso; omega)
  refine zAA cf rfl ?_
  refine gob ?_ ?_<;>intro h
  .obtain⟨g,hg⟩:=rBZ.1 (show(vDB S l[i]!.row).isSome=true by assumption)
   have e1:rw' S l[i]! = g:=by unfold rw'; rw[hg]; rfl
   have e2:(vDB S l[i]!.row).getD zeroQ=g:=e1;rw[e2];have hcan:=(hc i hi).1;have hgo:okF (vDD S) g:=vOF hS hg;have hg2:=vJE hS hz hg;have hgl:=zGG hS hn hgo;have z0:=vT9 hS hz hl (i:=i) zom i2;have hfo:=zHK hS (l:=l) (i:=i) zom;have hfl:=zGG hS hn hfo;have hsi:=zHL (l:=l) hi;have hsj:=vLR l (i+1);have hmul:(i+1) * (P+2 * V+18)<=l.length * (P+2 * V+18):=rBK _ hi;rw[rD8]at hmul;have zc:sz (vEU l[i]!.coef+1) (qv l[i]!.coef):=zGH (zCZ (rC3 _) (zLL hm)) zom;have q1:=zFK g (qv l[i]!.coef) _ _ hg2 zc hgo.1 zom zom;rw[<- hcan]at q1;have z2:szF (P+2 * V+17+vEU l[i]!.coef) (vDE g (qv l[i]!.coef)):=zGF hg2 zc zom;have hsl:=zI2 (f:=g) (c:=qv l[i]!.coef);have hm17:((vDE g (qv l[i]!.coef)).ts.length+1) * (P+2 * V+17+vEU l[i]!.coef+1)<=17 * (P+2 * V+17+vEU l[i]!.coef+1):=rBK _ zom;have q2:=uK0 (vF8 S l i) (vDE g (qv l[i]!.coef)) _ _ z0 z2 hfo.1 (zBD zCY hgo.1) zom zom;have e3:vB3 (vF8 S l i) (vDE g (qv l[i]!.coef)) 1=vF8 S l (i+1):=by rw[zHJ hi,e1]; exact uLB hfo.1 hgo.1
   rw[e3]at q2;refine zAA q1 rfl ?_;refine sts ?_;refine zAA q2 rfl ?_;refine sts ?_;exact⟨i+1,⟨⟨zom,fun k hk=>zA6 (p:=fun k=>(vDB S l[k]!.row).isSome=true) i2 rAC hk⟩,by show l.length - (i+1)<l.length - i; omega⟩,[0,1,2],[],[],[],ttt,⟨rAJ,apx,apx,apx,rAI,rGU⟩,⟨bbx,bbx,bbx,rGU⟩,rAA⟩
  .have e:vE1 S l=(zeroQ,12):=by
    unfold vE1;rw[rAU hc,rAM (fun q=>by have:=q i hi; rw[show(vDB S l[i]!.row).isSome=false by assumption]at this; cases this)]
   exact zAB rfl (by rw[e,<- zA7])
 .obtain rfl:i=l.length:=by omega
  have e:vE1 S l=(vF8 S l l.length,0):=by unfold vE1; rw[rAU hc,rAU i2]
  refine gob ?_ ?_<;>intro h
  all_goals try (exfalso; omega)
  exact zAB rfl (by rw[e]; rfl)
theorem uBN{S:ScpL}(hS:vB6 S){l:List MultL}:(vEB S zeroQ l l.length).ts=[]↔(vF8 S l l.length).ts=[]:=by
 have hs:=(zHK hS (l:=l) (i:=l.length) (rAR _)).1;rw[vGU hS (zFQ _) l.length (rAR _)];have hm:Srt (vCE zeroQ (vF8 S l l.length)).ts:=zBD zCY hs;constructor
 .intro h
  refine zNG hs zGX fun v=>?_
  have:=zB6 (c:=-1) zCY hs v;rw[show vB3 zeroQ (vF8 S l l.length) (-1)=vCE zeroQ (vF8 S l l.length) from rfl,h,zJC]at this;simp only[cf]at this ⊢; grind
 .intro h
  refine zNG hm zGX fun v=>?_
  unfold vCE;rw[zB6 zCY hs,zJC,h];simp only[cf]; grind
theorem uPI{S:ScpL}(hS:vB6 S){f:QF}(hf:okF (vDD S) f){l:List MultL}:(vEB S f l l.length).c=f.c - (vF8 S l l.length).c:=by
 rw[vGU hS hf l.length (rAR _)];simp only[vCE,zH2]; grind
theorem vUB{S:ScpL}(hS:vB6 S)(l:List MultL):okF (vDD S) (vE1 S l).1:=by
 unfold vE1
 split
 .split
  .exact zHK hS (rAR _)
  .exact zFQ _
 .exact zFQ _
theorem vUA{S:ScpL}{P V:Nat}(hS:vB6 S)(hz:szS S P V){l:List MultL}(hl:szM l):szF (1+l.length * (P+2 * V+18)+vEM l) (vE1 S l).1:=by
 unfold vE1
 split
 .split
  .rename_i h
   have z:=vT9 hS hz hl (rAR _) h;rw[rBW]at z; exact z
  .exact zHI zom (zEF 1 zdd)
 .exact zHI zom (zEF 1 zdd)
theorem uFK{S:ScpL}{l:List MultL}:(vE1 S l).2=0↔okM S l l.length:=by
 rw[okM_iff];unfold vE1
 split
 .rename_i h
  split
  .rename_i h2; exact⟨fun _=>⟨h,h2⟩,fun _=>rfl⟩
  .rename_i h2; exact⟨(fun e=>by simp at e),fun e=>absurd e.2 h2⟩
 .rename_i h; exact⟨(fun e=>by simp at e),fun e=>absurd e.1 h⟩
theorem uFJ{S:ScpL}{l:List MultL}(h:okM S l l.length):(vE1 S l).1=vF8 S l l.length:=by
 obtain⟨h1,h2⟩:=okM_iff.1 h;unfold vE1;rw[rAU h1,rAU h2]
theorem vWV:FO 121 Tryz.f121 [.tmp 6] 36:=mkO Tryz.func121 Tryz.ntmps121 Tryz.results121
theorem vQN(S:ScpL)(f:QF)(l:List MultL)(P V kf:Nat)(hS:vB6 S)(hz:szS S P V)(hq:szQ S.q P)(hB2:P+2 * V<=20000000)(hn:vDD S<=16)(hf:szF kf f)(hof:okF (vDD S) f)(hkf:1<=kf)(hl:szM l)(hsz:kf+l.length * (P+2 * V+18)+vEM l+18 * (P+2 * V+40+vEM l)<=940000000):Fn 121 [vBD S,vBP f,.imm (l.map vBB)] (.data (.bool (dB (vGA S f l)))):=by
 have cs:=vQM S l P V hS hz hq hB2 hn hl zom;have lf:=zGG hS hn hof;have hso:=vUB hS l;have lsum:=zGG hS hn hso;have zs:=vUA hS hz hl;have cv:=zKX f.L 4611686018427387904 (zCN zom (uDE hf zom));have hval:vC4 f.L 4611686018427387904=true:=validB_true.2 (uAJ (by have:=hn; omega) (uA5 hof));rw[hval,<- vH3]at cv;have cb:=zF7 f (vE1 S l).1 kf _ hf zs hof.1 hso.1 zom zom;have zb:szF (kf+(1+l.length * (P+2 * V+18)+vEM l)+2) (vCE f (vE1 S l).1):=zEX hf zs zom;have lc:=zBM zb.1;have csg:=zE1 (cr (vCE f (vE1 S l).1).c) (zBE _) zom;rw[zBW]at csg;have h0:=uFK (S:=S) (l:=l);have hno:¬ okM S l l.length->false=dB (vGA S f l):=fun h=>zGR fun e=>h e.1
 have hfin:okM S l l.length->vCE f (vE1 S l).1=vEB S f l l.length:=fun h=>by rw[uFJ h,<- vGU hS hof l.length (rAR _)]
 generalize hQ:vCE f (vE1 S l).1=Q at *
 generalize (vE1 S l).1=G at *
 generalize (vE1 S l).2=E at *
 refine zAL vBC hT vWV (by simp[vBD,vBP]) ?_;refine sts ?_;refine zAA cs rfl ?_
 refine gob ?_ ?_<;>intro h
 .exact zAB rfl (rA3 PV.bool (hno fun e=>by have:=h0.2 e; contradiction))
 have hok:okM S l l.length:=h0.1 rAC;have hQ2:=hfin hok
 have hres:((Q.ts.length:Int)=0/\0<=vDL Q.c)↔vGA S f l:=by
  rw[hQ2,sgnQ_nn'];exact⟨fun e=>⟨hok,rAZ.1 zom,e.2⟩,fun e=>⟨by rw[e.2.1]; rfl,e.2.2⟩⟩
 refine zAA cv rfl ?_;refine sts ?_;refine zAA cb rfl ?_
 refine gob ?_ ?_<;>intro h
 .refine zAA csg rfl ?_
  refine sts ?_;refine zAB rfl (rA3 PV.bool ?_);rw[rA1,dB_true,<- hres];simp only[rAY];exact⟨fun e=>⟨zom,e⟩,fun e=>e.2⟩
 .exact zAB rfl (rA3 PV.bool (zGR fun e=>by have:=(hres.2 e).1; omega))
theorem vWU:FO 120 Tryz.f120 [.tmp 4] 27:=mkO Tryz.func120 Tryz.ntmps120 Tryz.results120
theorem uEV(S:ScpL)(l:List MultL)(P V:Nat)(hS:vB6 S)(hz:szS S P V)(hq:szQ S.q P)(hB2:P+2 * V<=20000000)(hn:vDD S<=16)(hl:szM l)(hsz:1+l.length * (P+2 * V+18)+vEM l+18 * (P+2 * V+40+vEM l)<=940000000):Fn 120 [vBD S,.imm (l.map vBB)] (.data (.bool (dB (vRO S l)))):=by
 have cs:=vQM S l P V hS hz hq hB2 hn hl hsz;have hso:=vUB hS l;have lsum:=zGG hS hn hso;have zs:=vUA hS hz hl;have lc:=zBM zs.1;have csg:=zE1 (cr (vE1 S l).1.c) (zBE _) zom;rw[zBW]at csg;have h0:=uFK (S:=S) (l:=l);have hno:¬ okM S l l.length->false=dB (vRO S l):=fun h=>zGR fun e=>h e.1
 have hfin:okM S l l.length->(((vE1 S l).1.ts.length:Int)=0/\(vE1 S l).1.c<0↔vRO S l):=fun h=>by
  rw[uFJ h];unfold vRO;rw[uBN hS,uPI hS (zFQ _)];refine⟨fun e=>⟨h,rAZ.1 zom,?_⟩,fun e=>⟨by rw[e.2.1]; rfl,?_⟩⟩
  .have:=e.2; simp only[zeroQ]; grind
  .have:=e.2.2; simp only[zeroQ]at this; grind
 generalize (vE1 S l).1=G at *
 generalize (vE1 S l).2=E at *
 refine zAL vBC hT vWU (by simp[vBD]) ?_;refine sts ?_;refine zAA cs rfl ?_
 (repeat' (first|refine stp ?_|with_reducible(refine brr ?_ ?_<;>intro h)));all_goals try(conv=>whnf)
 .refine zAA csg rfl ?_
  refine sts ?_;have hres:=hfin (h0.1 rAC);refine zAB rfl (rA3 PV.bool ?_);rw[rA1,dB_true,<- hres];simp only[rAY,sgnQ_neg];exact⟨fun e=>⟨zom,e⟩,fun e=>e.2⟩
 .have hres:=hfin (h0.1 rAC)
  exact zAB rfl (rA3 PV.bool (zGR fun e=>by have:=(hres.2 e).1; omega))
 .exact zAB rfl (rA3 PV.bool (hno fun e=>by have:=h0.2 e; contradiction))
theorem vJW:FO 118 Tryz.f118 [.tmp 4] 53:=mkO Tryz.func118 Tryz.ntmps118 Tryz.results118
theorem uEW(S:ScpL)(m:LemL)(P V:Nat)(hS:vB6 S)(hz:szS S P V)(hq:szQ S.q P)(hB2:P+2 * V<=20000000)(hn:vDD S<=16)(hm:okQ V m.value)(hl:szM m.proof)(hsz:P+V+10+m.proof.length * (P+2 * V+18)+vEM m.proof+18 * (P+2 * V+40+vEM m.proof)<=940000000):Fn 118 [vBD S,vBA m] (.data (.bool (dB (vIM S m)))):=by
 have hnu:=hS.1.1.2.1;have hB:=hz.B;have hP:=hz.P1;have no:¬ vIM S m->false=dB (vIM S m):=zGR;have cva:=zIO S.q P hq zom;rw[dB_true.2 hS.1]at cva;have cvv:=zGT m.value hm.1 (by have:=hm.2; omega) (by have:=hm.2; omega);by_cases hu:0<=m.unit/\m.unit<S.q.g.units.length
 .have hj:m.unit.toNat<S.q.g.units.length:=by omega
  have hvu:=hS.1.1.2.2.2.1 _ hj;have hpa:=hz.units _ (get_mem hj);have szp:szF P S.q.g.units[m.unit.toNat]!.Q:=zHH hpa hP;have zn:szF (V+1) (vBN (qv m.value)):=zDX (zGH (zCZ (rC3 _) hm) zom);have hof:okF (vDD S) S.q.g.units[m.unit.toNat]!.Q:=vJ4 (by unfold vDD; omega) (zMB hvu);have lp:=zGG hS hn hof;have cs:=zF7 S.q.g.units[m.unit.toNat]!.Q (vBN (qv m.value)) P (V+1) szp zn hof.1 (zFC _) zom (by show _+0<=_; omega);rw[zN8 hvu]at cs;have z1:szF (P+V+3) (vCE S.q.g.units[m.unit.toNat]!.Q (vBN (qv m.value))):=zEX szp zn zom;have s1:Srt (vCE S.q.g.units[m.unit.toNat]!.Q (vBN (qv m.value))).ts:=zBD hof.1 (zFC _);have l1:=zH7 (f:=S.q.g.units[m.unit.toNat]!.Q) (c:=qv m.value);have cmin:=zMI (-1) zdd;have csc:=zFK (vCE S.q.g.units[m.unit.toNat]!.Q (vBN (qv m.value))) (-1) _ 1 z1 (zE7 (z:=-1) zdd) s1 zom zom
  have hlf:szF (P+V+10) (vFT S m):=by
   unfold vFT; split
   .exact zGF z1 (zE7 (z:=-1) zdd) zom
   .exact zHI zom z1
  have hlo:okF (vDD S) (vFT S m):=by
   unfold vFT; split
   .exact zO8 (zFS hof (zHS _ _))
   .exact zFS hof (zHS _ _)
  have cp:=vQN S (vFT S m) m.proof P V _ hS hz hq hB2 hn hlf hlo zom hl hsz
  have fin:vE0 m.value->dB (vGA S (vFT S m) m.proof)=dB (vIM S m):=fun hc=>by
   rw[rA1,dB_true,dB_true]; exact⟨fun e=>⟨hu,hc,e⟩,fun e=>e.2.2⟩
  refine zAL vBC hT vJW (by simp[vBD,vBA]) ?_;refine sts ?_;refine zAA cva rfl ?_
  (repeat' (first|refine stp ?_|with_reducible(refine brr ?_ ?_<;>intro h)));all_goals try(conv=>whnf)
  all_goals try (exfalso; omega)
  refine zAA cvv rfl ?_
  refine gob ?_ ?_<;>intro h
  rotate_left
  .exact zAB rfl (rA3 PV.bool (no fun e=>by have:=e.2.1; contradiction))
  have hcan:vE0 m.value:=by assumption
  have cn:=zGU m.value hcan;refine zA5 (j:=m.unit.toNat) (show m.unit=_ by omega) hj ?_;refine sts ?_;refine zAA cn rfl ?_;refine sts ?_;refine zAA cs rfl ?_
  refine gob ?_ ?_<;>intro h
  .have e1:vFT S m=vDE (vCE S.q.g.units[m.unit.toNat]!.Q (vBN (qv m.value))) (-1):=rAU rAC
   rw[e1]at cp;refine zAA cmin rfl ?_;refine sts ?_;refine zAA csc rfl ?_;refine sts ?_;refine zAA cp rfl ?_;refine sts ?_;exact zAB rfl (rA3 PV.bool (by rw[<- e1]; exact fin hcan))
  .have e1:vFT S m=vCE S.q.g.units[m.unit.toNat]!.Q (vBN (qv m.value)):=rAM (by rw[show m.upper=false by assumption]; decide)
   rw[e1]at cp;refine zAA cp rfl ?_;refine sts ?_;exact zAB rfl (rA3 PV.bool (by rw[<- e1]; exact fin hcan))
 .refine zAL vBC hT vJW (by simp[vBD,vBA]) ?_
  refine sts ?_;refine zAA cva rfl ?_
  (repeat' (first|refine stp ?_|with_reducible(refine brr ?_ ?_<;>intro h)));all_goals try(conv=>whnf)
  all_goals try (exfalso; omega)
  all_goals exact zAB rfl (rA3 PV.bool (no fun e=>hu e.1))
theorem uD7{h:Hp}{n b m:Nat}{S S':ScpL}{els:List PV}(hq:S'.q=S.q)(hp:S'.path=S.path)(hb:h b=some ⟨els,6,true⟩)(he:els=S'.lems.map vBA)(hm:m=S'.lems.length):frz h (n+3) (.agg [.int .i64 S.q.g.ins,.imm (S.q.g.units.map vBM),.imm (S.q.g.outs.map vBM),.imm (S.q.r.lo.map vA5),.imm (S.q.r.hi.map vA5),.imm (S.q.r.rows.map vBM),.imm (S.q.goal.terms.map vCB),.bool S.q.goal.const.neg,vBK S.q.goal.const.num,vBK S.q.goal.const.den,.imm (S.path.map vA9),.own b 0 m])=some (vBD S',[b]):=by
 rw[<- hq,<- hp];refine zBZ ?_;exact zAD (ks:=[]) rfl (zAD (ks:=[]) rfl (zAD (ks:=[]) rfl (zAD (ks:=[]) rfl (zAD (ks:=[]) rfl (zAD (ks:=[]) rfl (zAD (ks:=[]) rfl (zAD (ks:=[]) rfl (zAD (ks:=[]) rfl (zAD (ks:=[]) rfl (zAD (ks:=[]) rfl (zAD (ks:=[b]) (zAI hb he hm fun x=>by cases n<;>rfl) rfl)))))))))))
theorem vPX{h:Hp}{n a b k m:Nat}{S S':ScpL}{els els':List PV}(hq:S'.q=S.q)(ha:h a=some ⟨els',5,true⟩)(he':els'=S'.path.map vA9)(hk:k=S'.path.length)(hb:h b=some ⟨els,6,true⟩)(he:els=S'.lems.map vBA)(hm:m=S'.lems.length):frz h (n+3) (.agg [.int .i64 S.q.g.ins,.imm (S.q.g.units.map vBM),.imm (S.q.g.outs.map vBM),.imm (S.q.r.lo.map vA5),.imm (S.q.r.hi.map vA5),.imm (S.q.r.rows.map vBM),.imm (S.q.goal.terms.map vCB),.bool S.q.goal.const.neg,vBK S.q.goal.const.num,vBK S.q.goal.const.den,.own a 0 k,.own b 0 m])=some (vBD S',[a,b]):=by
 rw[<- hq];refine zBZ ?_;exact zAD (ks:=[]) rfl (zAD (ks:=[]) rfl (zAD (ks:=[]) rfl (zAD (ks:=[]) rfl (zAD (ks:=[]) rfl (zAD (ks:=[]) rfl (zAD (ks:=[]) rfl (zAD (ks:=[]) rfl (zAD (ks:=[]) rfl (zAD (ks:=[]) rfl (zAD (ks:=[a]) (zAI ha he' hk fun x=>by cases n<;>rfl) (zAD (ks:=[b]) (zAI hb he hm fun x=>by cases n<;>rfl) rfl)))))))))))
theorem uCQ:FO 86 Tryz.f86 [.tmp 4] 59:=mkO Tryz.func86 Tryz.ntmps86 Tryz.results86
theorem uKX(S:ScpL)(n:NodeL)(P V v c d:Nat)(hS:vB6 S)(hz:szT S P V v c d)(hn:NodeZ P V v c n)(hsm:n.Sm)(hq:szQ S.q P)(hB2:P+2 * V<=20000000)(hv:vDD S<=16):Fn 86 [vBD S,vA7 n] (.data (.bool (dB (vCJ S n)))):=by
 have hl:=hsm.len;have l1:=hsm.prf.1;have l2:=hsm.lems.1;have p2:=hz.num;have n2:=hn.num;refine zAL vBC hT uCQ (by simp[vBD]) ?_;refine sns ?_;have e0:vBW S (n.lemmas.take 0)=S:=by unfold vBW; rw[List.take_zero,rBQ]
 refine zAN hT (fun(i:Nat)=>[(2,.ptr 0 0 0),(3,.ptr 1 0 0),(5,.int .i64 i)])
  (fun i=>[(0,⟨[vBD (vBW S (n.lemmas.take i))],12,true⟩),(1,⟨[vA7 n],9,true⟩)]) [] 2
  (fun i=>i<=n.lemmas.length/\∀ k,k<i->vIM (vBW S (n.lemmas.take k)) n.lemmas[k]!) (fun i=>n.lemmas.length - i) 0 ⟨rA7 _,fun k h=>by omega⟩ zdd zsm ?_ ?_
 .dsimp only
  rw[e0];exact⟨[0,1],[],[],[],ttt,⟨apx,apx,rAI,rGU⟩,⟨bbx,bbx,rGU⟩,rAA⟩
 rintro i ⟨i1,i2⟩
 have hcan:∀ k,k<i->vE0 n.lemmas[k]!.value:=fun k hk=>(i2 k hk).2.1
 have hzi:=hz.take hn i1 hcan;have hSi:vB6 (vBW S (n.lemmas.take i)):=uF2 hS;have lems:(vBW S (n.lemmas.take i)).lems.length=S.lems.length+i:=by unfold vBW; rw[rAV,rB1]; omega
 by_cases hi:i<n.lemmas.length
 .have hm:=get_mem hi
  obtain⟨m1,m2,m3⟩:=hn.lem _ hm;have hvm:=uJO hn.val hz.val.1 hm;have cl:=uEW (vBW S (n.lemmas.take i)) n.lemmas[i]! P V hSi hzi.szS hq hB2 hv (zCZ zom m1) m2 zom
  (repeat' (first|refine stn ?_|(with_reducible refine brr ?_ ?_<;>intro h)|(with_reducible refine zAT ?_ ?_<;>intro h)|with_reducible refine zBC ?_ ?_)); all_goals try (conv=>whnf)
  all_goals try (exfalso; omega)
  refine zAA cl rfl ?_
  refine gon ?_ ?_<;>intro h
  rotate_left
  .have hlem:=dB_false.1 (by assumption:dB _=false)
   exact zAB rfl (rA3 PV.bool (zGR fun e=>hlem (e.1 i hi)))
  have hlem:=dB_true.1 (by assumption:dB _=true)
  have e1:vBW S (n.lemmas.take (i+1))=⟨S.q,S.path,(S.lems++n.lemmas.take i)++[n.lemmas[i]!]⟩:=by
   unfold vBW; rw[rBB,rA2 hi,rAT n.lemmas i hi]
  refine⟨i+1,⟨⟨zom,fun k hk=>zA6 (p:=fun k=>vIM (vBW S (n.lemmas.take k)) n.lemmas[k]!) i2 hlem hk⟩,by show n.lemmas.length - (i+1)<n.lemmas.length - i; omega⟩,?_⟩;refine⟨[0,1],[29],[],[(0,[vBD (vBW S (n.lemmas.take (i+1)))])],⟨⟨⟨_,rfl⟩,rGU⟩,rGU,⟨⟨_,6,_,rfl,zAD (uD7 (S:=S) rfl rfl rfl ?_ ?_) rfl,rfl⟩,rGU⟩⟩,⟨apx,apx,zAC rfl rfl,rGU⟩,⟨bbx,bbx,rGU⟩,rAA⟩
  .rw[e1]
   show([]++List.map vBA (S.lems++n.lemmas.take i))++[vBA n.lemmas[i]!]=List.map vBA (S.lems++n.lemmas.take i++[n.lemmas[i]!])
   rw[List.nil_append,rBE (l₂:=[n.lemmas[i]!])]; rfl
  .rw[e1]
   show(0+(List.map vBA (S.lems++n.lemmas.take i)).length)+1=(S.lems++n.lemmas.take i++[n.lemmas[i]!]).length
   simp; omega
 .obtain rfl:i=n.lemmas.length:=by omega
  rw[rBW]at *
  have hlems:vHT S n.lemmas:=i2;have cf:=vZR S.q n.split P hq zom (zCZ zom hn.spl);have cr:=uEV (vBW S n.lemmas) n.proof P V hSi hzi.szS hq hB2 hv hn.prf.1 (by have:=hn.prf.2; omega);have hvg:vB8 S.q.goal (S.q.g.ins+S.q.g.units.length):=hS.1.2.2;have cp:=vQN (vBW S n.lemmas) S.q.goal.Q n.proof P V 40000000 hSi hzi.szS hq hB2 hv (zHH hz.goal zdd) (zMB hvg) zdd hn.prf.1 (by have:=hn.prf.2; omega);rw[zN8 hvg]at cp
  (repeat' (first|refine stn ?_|(with_reducible refine brr ?_ ?_<;>intro h)|(with_reducible refine zAT ?_ ?_<;>intro h)|with_reducible refine zBC ?_ ?_)); all_goals try (conv=>whnf)
  all_goals try (exfalso; omega)
  .have hk:¬ n.kids.length=0:=by omega
   refine zAA cf rfl ?_;refine sns ?_;refine zAB rfl (rA3 PV.bool ?_);rw[rA1,dB_true,dB_true];exact⟨fun e=>⟨hlems,by rw[rAM hk]; exact e.2⟩,fun e=>⟨hS.1,by have:=e.2; rw[rAM hk]at this; exact this⟩⟩
  .have hk:n.kids.length=0:=by omega
   have he:n.empty=true:=by assumption
   refine zAA cr rfl ?_;refine sns ?_;refine zAB rfl (rA3 PV.bool ?_);rw[rA1,dB_true,dB_true];exact⟨fun e=>⟨hlems,by rw[rAU hk,rAU he]; exact e⟩,fun e=>by have:=e.2; rw[rAU hk,rAU he]at this; exact this⟩
  .have hk:n.kids.length=0:=by omega
   have he:¬ n.empty=true:=by rw[show n.empty=false by assumption]; decide
   refine zAA cp rfl ?_;refine sns ?_;refine zAB rfl (rA3 PV.bool ?_);rw[rA1,dB_true,dB_true];exact⟨fun e=>⟨hlems,by rw[rAU hk,rAM he]; exact e⟩,fun e=>by have:=e.2; rw[rAU hk,rAM he]at this; exact this⟩
noncomputable def uAO(S:ScpL)(n:NodeL):PV:=match vBE S n with
 | none=>.tup [.imm [],.bool true]
 | some p=>.tup [.imm (p.map vA9),.bool false]
theorem vSM:FO 46 Tryz.f46 [.tmp 4,.tmp 5] 53:=mkO Tryz.func46 Tryz.ntmps46 Tryz.results46
theorem vK5:∀ (s:Nat) (n:NodeL) (S:ScpL) (P V v c d:Nat),SizeOf.sizeOf n<s->n.Sm->vBH d n=true->vB6 S->szT S P V v c d->NodeZ P V v c n->szQ S.q P->P+2 * V<=20000000->vDD S<=16->Fn 46 [vBD S,vA7 n] (.data (uAO S n)):=by
 intro s
 induction s with
 | zero=>intro n S P V v c d h; omega
 | succ s ih =>
   intro n S P V v c d hs hsm hf hS hz hn hq hB2 hv;have hl:=hsm.len;have l2:=hsm.lems.1;have p1:=hz.plen;have p2:=hz.num;have n2:=hn.num;have cr:=uKX S n P V v c d hS hz hn hsm hq hB2 hv;refine zAL vBC hT vSM (by simp[vBD]) ?_;refine sns ?_;refine zAA cr rfl ?_
   refine gon ?_ ?_<;>intro h
   rotate_left
   .have hr:=dB_false.1 (by assumption:dB _=false)
    have e:uAO S n=.tup [.imm (S.path.map vA9),.bool false]:=by unfold uAO; rw[zDB hr]
    rw[e];exact zAB (zKF (zAD (zAI (f:=vA9) (l:=S.path) rfl (by show []++List.map vA9 S.path=_; rw[List.nil_append]) (by show 0+(List.map vA9 S.path).length=_; simp) fun x=>rfl) rfl)) rfl
   have hr:=dB_true.1 (by assumption:dB _=true);have hlems:=hr.1;have hcan2:∀ k,k<n.lemmas.length->vE0 n.lemmas[k]!.value:=fun k hk=>(hlems k hk).2.1
   refine zAN hT (fun(i:Nat)=>[(2,.ptr 0 0 0),(3,.ptr 1 0 0),(6,.int .i64 i)])
    (fun _=>[(0,⟨[vBD S],12,true⟩),(1,⟨[vA7 n],9,true⟩)]) [] 2
    (fun i=>i<=n.kids.length/\∀ j,j<i->vBE (vCU S n (vC6 n j)) n.kids[j]! = none) (fun i=>n.kids.length - i) 0 ⟨rA7 _,fun k h=>by omega⟩ zdd zsm ?_ ?_
   .exact⟨[0,1],[],[],[],ttt,⟨apx,apx,rAI,rGU⟩,⟨bbx,bbx,rGU⟩,rAA⟩
   rintro i ⟨i1,i2⟩
   by_cases hi:i<n.kids.length
   .have hk:n.kids.length≠0:=by omega
    have hfo:=hf;rw[zA1 hk]at hfo;simp only[rAO,rAY]at hfo;have hd0:d≠0:=hfo.1.2;have h5:=hfo.1.1;unfold vBX at h5;obtain⟨e1,_⟩:=rCD h5;have hfk:=zCV e1 (d:=d);rw[hf]at hfk;have hfk:=hfk.symm;simp only[rAO]at hfk;have hfit:vFH S.q n.split:=by have:=hr.2; rw[rAM hk]at this; exact this
    have ck:=vQL S.path n i zom;obtain⟨D,hD⟩:∃ D,vC6 n i=D:=⟨_,rfl⟩;rw[hD]at ck
    have hDk:(i=0/\D=n.split)\/(i=1/\D=opp n.split):=by
     rcases rCP i 1 with h | h
     .obtain rfl:i=0:=by omega
      exact rAW ⟨rfl,hD.symm⟩
     .obtain rfl:i=1:=by omega
      exact rA0 ⟨rfl,hD.symm⟩
    have hdr:D.rat=n.split.rat:=by
     rcases hDk with⟨_,e⟩ | ⟨_,e⟩<;>rw[e]
     rfl
    have hDf:vFH S.q D:=by
     rcases hDk with⟨_,e⟩ | ⟨_,e⟩<;>rw[e]
     .exact hfit
     .exact vP1 hfit
    have hz2:szT (vCU S n D) P V v (c - n.lemmas.length) (d - 1):=hz.kid hd0 hn hcan2 (by rw[hdr]; exact hn.spl);have hkm:n.kids[i]! ∈ n.kids:=get_mem zom;have hks:=NodeL.sizeOf_kid hkm
    have hkf:vBH (d - 1) n.kids[i]! = true:=by
     rcases hDk with⟨e,_⟩ | ⟨e,_⟩<;>rw[e]
     .exact hfk.2.1
     .exact hfk.2.2
    have cb:=ih n.kids[i]! (vCU S n D) P V _ _ (d - 1) zom (hsm.kid hkm) hkf (Go.PI.ok_kid hS hDf) hz2 (hn.kid _ hkm) hq hB2 hv
    refine gon ?_ ?_<;>intro h
    all_goals try (exfalso; omega)
    refine zBB ck rfl ?_;refine sns ?_;unfold uAO at cb;have arg:∀ {h:Hp} {a b k m:Nat} {els els':List PV},h a=some ⟨els',5,true⟩->els'=(S.path++[D]).map vA9->k=(S.path++[D]).length->h b=some ⟨els,6,true⟩->els=(S.lems++n.lemmas).map vBA->m=(S.lems++n.lemmas).length->frz h 6 (.agg [.int .i64 S.q.g.ins,.imm (S.q.g.units.map vBM),.imm (S.q.g.outs.map vBM),.imm (S.q.r.lo.map vA5),.imm (S.q.r.hi.map vA5),.imm (S.q.r.rows.map vBM),.imm (S.q.goal.terms.map vCB),.bool S.q.goal.const.neg,vBK S.q.goal.const.num,vBK S.q.goal.const.den,.own a 0 k,.own b 0 m])=some (vBD (vCU S n D),[a,b]):=fun h1 h2 h3 h4 h5 h6=>vPX (S:=S) (S':=vCU S n D) rfl h1 h2 h3 h4 h5 h6
    cases hb0:vBE (vCU S n D) n.kids[i]! with
    | none =>
      rw[hb0]at cb;refine zAA cb (zAD (arg rfl rfl zsm rfl (by show []++List.map vBA S.lems++List.map vBA n.lemmas=_; simp) (by show 0+(List.map vBA S.lems).length+(List.map vBA n.lemmas).length=_; simp)) (zAD rfl rfl)) ?_;refine sns ?_;exact⟨i+1,⟨⟨zom,fun j hj=>zA6 (p:=fun j=>vBE (vCU S n (vC6 n j)) n.kids[j]! = none) i2 (by rw[hD]; exact hb0) hj⟩,by show n.kids.length - (i+1)<n.kids.length - i; omega⟩,[0,1],[],[],[],ttt,⟨apx,apx,rAI,rGU⟩,⟨bbx,bbx,rGU⟩,rAA⟩
    | some p =>
      rw[hb0]at cb;refine zAA cb (zAD (arg rfl rfl zsm rfl (by show []++List.map vBA S.lems++List.map vBA n.lemmas=_; simp) (by show 0+(List.map vBA S.lems).length+(List.map vBA n.lemmas).length=_; simp)) (zAD rfl rfl)) ?_;refine sns ?_
      have e:uAO S n=.tup [.imm (p.map vA9),.bool false]:=by
       unfold uAO;rw[zCC hr (zG8 e1)];rcases hDk with⟨e,e2⟩ | ⟨e,e2⟩
       .rw[e,e2]at hb0
        rw[hb0]
       .have h0:=i2 0 zom
        rw[e,e2]at hb0;rw[show vBE (vCU S n n.split) n.kids[0]! = none from h0];dsimp only;rw[hb0]
      rw[e];exact rGV
   .obtain rfl:i=n.kids.length:=by omega
    have e:uAO S n=.tup [.imm [],.bool true]:=by
     unfold uAO;rcases rDD n.kids.length with h0 | h0
     .rw[zEE hr h0]
     .have hfo:=hf
      rw[zA1 zom]at hfo;simp only[rAO,rAY]at hfo;have h5:=hfo.1.1;unfold vBX at h5;obtain⟨e1,_⟩:=rCD h5;rw[zCC hr (zG8 e1),show vBE (vCU S n n.split) n.kids[0]! = none from i2 0 zom];dsimp only;rw[show vBE (vCU S n (vTN n.split)) n.kids[1]! = none from i2 1 zom]
    rw[e]
    refine gon ?_ ?_<;>intro h
    all_goals try (exfalso; omega)
    exact rGV
theorem vR5:FO 22 Tryz.f22 [.tmp 4,.tmp 5] 26:=mkO Tryz.func22 Tryz.ntmps22 Tryz.results22
theorem zOG(q:QryL)(n:NodeL)(P V v:Nat)(hvV:v<=V)(hq:szQ q P)(hs:n.Sm)(hz:NodeZ P V v 1048576 n)(hB:P+2 * V+20<=20000000)(hv:q.g.ins+q.g.units.length<=16):Fn 22 [vBJ q,vA7 n] (.data (.tup [.imm ((vCF q n).1.map vA9),.int .i64 (vCF q n).2])):=by
 have cva:=zIO q P hq zom;have crv:=zP1 n hs
 have bad:¬ (n.valid=true/\VaQ q)->PV.tup [.imm [],.int .i64 1]=.tup [.imm ((vCF q n).1.map vA9),.int .i64 (vCF q n).2]:=fun h=>by
  unfold vCF;rw[rAM h]; rfl
 refine zAL vBC hT vR5 (by simp[vBJ]) ?_;refine sns ?_;refine zAA cva rfl ?_
 refine gon ?_ ?_<;>intro h
 rotate_left
 .have hva:=dB_false.1 (by assumption:dB _=false)
  exact zAB rfl (bad fun e=>hva e.2)
 have hVa:=dB_true.1 (by assumption:dB (VaQ q)=true);refine zAA crv rfl ?_
 refine gon ?_ ?_<;>intro h
 rotate_left
 .have hval:n.valid=false:=by assumption
  exact zAB rfl (bad fun e=>by rw[hval]at e; exact absurd e.1 zdd)
 have hval:n.valid=true:=by assumption
 have hS:vB6 ⟨q,[],[]⟩:=⟨hVa,fun d hd=>by cases hd⟩
 have hsz:szT ⟨q,[],[]⟩ P V v 1048576 2048:=by
  refine⟨hq.P1,hq.g.1.2,hq.r.1,hq.r.2.1,⟨hq.r.2.2.2,hq.r.2.2.1⟩,hq.goal,(by show 0+2048<=1048576; omega),(fun d hd=>by cases hd),(fun d hd=>by cases hd),(fun d hd=>by cases hd),⟨hvV,fun m hm=>by cases hm⟩,(by show 0+1048576<=1048576; omega),zom,?_⟩;show q.g.ins+q.g.units.length<=1280
  omega
 have hfo:vBH 2048 n=true:=by unfold NodeL.valid at hval; simp only[rAO]at hval; exact hval.1
 have cb:=vK5 _ n ⟨q,[],[]⟩ P V v 1048576 2048 (rAL _) hs hfo hS hsz hz hq zom hv
 have hres:vCF q n=(match vBE ⟨q,[],[]⟩ n with
  | none=>([],0)
  | some p=>(p,12)):=rAU ⟨hval,hVa⟩
 unfold uAO at cb;rw[hres];cases hb0:vBE ⟨q,[],[]⟩ n with
 | none =>
   rw[hb0]at cb;refine zAA cb rfl ?_;refine sns ?_;exact rGV
 | some p =>
   rw[hb0]at cb;refine zAA cb rfl ?_;refine sns ?_;exact rGV
theorem uND(most:Int):∀ (n:Nat) (x:NodeL),SizeOf.sizeOf x<n->lsz most x<=most->(x.wt:Int)=lsz most x:=by
 intro n
 induction n with
 | zero=>intro x h; omega
 | succ n ih =>
   intro x hx hm;rw[vPK]at hm;have h1:∀ k:NodeL,1<=lsz most k:=fun k=>(zKB most _ k (rAL _)).1
   obtain⟨h2,h3⟩:=vYP most x.kids (fun k _=>h1 k) _ hm;rw[vPK,h2,x.wt_eq]
   have h4:∀ l:List NodeL,(∀ k∈l,k∈x.kids)->(((l.map NodeL.wt).sum:Nat):Int)=(l.map (lsz most)).sum:=by
    intro l
    induction l with
    | nil=>intro _; simp
    | cons a l ihl =>
      intro hl;have ha:=hl a zsm;have g1:=ih a (by have:=NodeL.sizeOf_kid ha; omega) (by have:=h3 a ha; omega);have g2:=ihl (fun k hk=>hl k (by simp[hk]));simp only[rBM,List.sum_cons];omega
   have:=h4 x.kids (fun _ h=>h);have hl:=zGN x.lemmas;omega
theorem vYY{P V C:Nat}{l:List MultL}(hr:∀ p∈l,okR p.coef)(hl:l.length<=400)(hC:sC l<=C)(hB:P+V+C<=1048600):vKY P V l:=by
 refine⟨⟨zom,fun p hp=>?_⟩,?_⟩
 .have:=uMB hp
  unfold lQ at this;exact⟨hr p hp,zom,zom⟩
 .have h1:l.length * (P+2 * V+18)<=400 * (P+2 * V+18):=rBK _ hl
  have h2:vEM l<=C:=hC;omega
theorem vPG{P V v:Nat}:∀ (k:Nat) (n:NodeL) (c:Nat),SizeOf.sizeOf n<k->n.NOk->n.wt<=400->n.tot spF<=P->P+V+n.tot coF<=1048600->n.tot uF<=v->n.tot lF<=V - v->n.wt<=c->NodeZ P V v c n:=by
 intro k
 induction k with
 | zero=>intro n c h; omega
 | succ k ih =>
   intro n c h hok hw hP hB hu hl hc;have s1:=zMS spF n;have s2:=zMS uF n;have s4:=zMS lF n;have s3:=zMS coF n;have hwt:=n.wt_eq;have hll:=zGN n.lemmas;refine .mk v c n (fun m hm=>?_) zom (fun m hm=>⟨⟨(hok.lem m hm).1,by unfold vEU; omega,by unfold vEU; omega⟩,?_⟩) ?_ ?_ fun x hx=>?_
   .split
    .rename_i hup
     have h1:(if m.upper=true then lQ m.value else 0)<=uL n.lemmas:=zF0 (f:=fun m:LemL=>if m.upper=true then lQ m.value else 0) hm;rw[rAU hup]at h1;have e:uF n=uL n.lemmas:=rfl;have e2:vEU m.value=lQ m.value:=rfl;omega
    .rename_i hup
     have h1:(if m.upper=true then 0 else lQ m.value)<=loL n.lemmas:=zF0 (f:=fun m:LemL=>if m.upper=true then 0 else lQ m.value) hm;rw[rAM hup]at h1;have e:lF n=loL n.lemmas:=rfl;have e2:vEU m.value=lQ m.value:=rfl;omega
   .have h1:vCD m<=(n.lemmas.map vCD).sum:=zF0 hm
    have h2:sC m.proof<=(n.lemmas.map fun m=>sC m.proof).sum:=zF0 (f:=fun m:LemL=>sC m.proof) hm;have e1:vCD m=1+m.proof.length:=rfl;have e2:coF n=(n.lemmas.map fun m=>sC m.proof).sum+sC n.proof:=rfl;exact vYY (hok.lem m hm).2 zom (C:=n.tot coF) zom hB
   .have e1:spF n=n.split.rat.num.length+n.split.rat.den.length:=rfl
    exact⟨hok.spl,zom,zom⟩
   .have e2:coF n=(n.lemmas.map fun m=>sC m.proof).sum+sC n.proof:=rfl
    exact vYY hok.prf zom (C:=n.tot coF) zom hB
   .have k1:=vGL (f:=spF) hx
    have k2:=vGL (f:=uF) hx;have k4:=vGL (f:=lF) hx;have k3:=vGL (f:=coF) hx;have k5:x.wt<=(n.kids.map NodeL.wt).sum:=zF0 hx;exact ih x _ (by have:=NodeL.sizeOf_kid hx; omega) (hok.kid hx) zom zom zom zom zom zom
structure inZ(q:QryL)(n:NodeL)(P V v:Nat):Prop where
 q:szQ q P
 hv:v<=V
 B:P+2 * V+20<=20000000
 z:NodeZ P V v 1048576 n
 sm:n.Sm
 cnt:n.cnt<=4194304
theorem szQ.le{q:QryL}{P P':Nat}(hq:szQ q P)(h:P<=P'):szQ q P':=by
 have hg:vHI P' q.g:=⟨⟨hq.g.1.1,fun f hf=>zCN h (hq.g.1.2 f hf)⟩,⟨hq.g.2.1,fun f hf=>zCN h (hq.g.2.2 f hf)⟩⟩;exact⟨by have:=hq.P1; omega,hg,vO5 h hq.r,hq.goal⟩
structure inB(q:QryL)(n:NodeL)(Bq Bn:Nat):Prop where
 q:szQ q Bq
 B:Bq+Bn<=1048590
 ok:n.NOk
 sm:n.Sm
 bk:n.bk<=Bn
 wt:n.wt<=Bn
theorem inB.z{q:QryL}{n:NodeL}{Bq Bn:Nat}(h:inB q n Bq Bn)(hw:n.wt<=400):inZ q n (Bq+n.tot spF) (n.tot vlF) (n.tot uF):=by
 have hb:=uOI n;have hvl:=uFH n;have hbk:=h.bk;have hB:=h.B;have hc:=uGK _ n (rAL _);exact⟨h.q.le zom,zom,zom,vPG _ n _ (rAL _) h.ok hw zom zom (rAR _) zom zom,h.sm,zom⟩
end Go.PI.Tryz
