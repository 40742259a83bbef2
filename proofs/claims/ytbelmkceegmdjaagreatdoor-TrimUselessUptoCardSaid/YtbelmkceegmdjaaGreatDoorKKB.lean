/-
  The checker: Tree.
-/
import Derived.Test.YtbelmkceegmdjaaGreatDoorKKA
import Derived.Test.YtbelmkceegmdjaaGreatDoorKTR
import Derived.Test.YtbelmkceegmdjaaGreatDoorKHA
set_option linter.unusedVariables false
set_option linter.unusedSimpArgs false
set_option linter.unnecessarySimpa false
set_option maxHeartbeats 0
namespace Go.PI.Tryz
open Go.Proofs Go.PI
theorem zN8{f:AffL}{n:Int}(h:vB8 f n):vBP f.Q=vBM f:=by rw[vH3,uQ2 h]
theorem encF_zero':vBP zeroQ=.agg [.imm [],.bool false,.imm [],.imm []]:=by unfold vBP zeroQ; rw[zN9]; rfl
theorem vPO{S:ScpL}{P V:Nat}(hz:szS S P V){n j:Int}{up:Bool}{l:Rat}(h:vC2 S n j up=some l):∃ a,a<S.lems.length/\S.lems[a]!.upper=up/\l=qv S.lems[a]!.value/\sz (vEU S.lems[a]!.value+1) l/\vEU S.lems[a]!.value<=2 * V:=by
 unfold vC2 at h
 split at h
 .rename_i c
  cases h
  have hi:n.toNat - 1<S.lems.length:=by omega
  have hq:=hz.lems.2 _ (get_mem hi);refine⟨_,hi,c.2.2.2,rfl,zGH (zCZ (rC3 _) (zLL hq)) zom,?_⟩;unfold vEU; have:=hq.2; omega
 .cases h
theorem vJE{S:ScpL}{P V:Nat}(hS:vB6 S)(hz:szS S P V){r:RowL}{f:QF}(h:vDB S r=some f):szF (P+2 * V+14) f:=by
 have hP:=hz.P1;have cn:∀ {c:RatL},okQ P c->szF P (vBN (qv c)):=fun hc=>zDX (zGH hc hP)
 unfold vDB at h
 split at h
 .unfold inO at h
  rcases zAM h with⟨h0,h⟩ | ⟨h0,h⟩
  .cases h
  rcases zAM h with⟨c,h⟩ | ⟨_,h⟩
  .cases h; exact zEX (zDR _) (cn (zD2 hz.lo zom)) zom
  rcases zAM h with⟨c,h⟩ | ⟨_,h⟩
  .cases h; exact zEX (cn (zD2 hz.hi zom)) (zDR _) zom
  rcases zAM h with⟨c,h⟩ | ⟨_,h⟩
  .cases h; exact zHI zom (zHH (hz.rows.2 _ (get_mem zom)) hP)
  rcases zAM h with⟨c,h⟩ | ⟨_,h⟩
  .have hq:=hz.path.2 _ (get_mem (show r.index.toNat<S.path.length by omega))
   rcases zAM h with⟨_,h⟩ | ⟨_,h⟩
   .cases h; exact zEX (zDR _) (cn hq) zom
   .rw[<- (zBH h).2]; exact zEX (cn hq) (zDR _) zom
  .cases h
 .unfold unO at h
  rcases zAM h with⟨h0,h⟩ | ⟨h0,h⟩
  .cases h
  have hv:szF 1 (vCN (S.q.g.ins+r.index)):=zDR _;have hp:szF P S.q.g.units[r.index.toNat]!.Q:=zHH (hz.units _ (get_mem zom)) hP;have one:sz 1 (-1:Rat):=zE7 (z:=-1) zdd;rcases zAM h with⟨_,h⟩ | ⟨_,h⟩
  .rw[<- (zBH h).2]; exact zHI zom hv
  rcases zAM h with⟨_,h⟩ | ⟨_,h⟩
  .rw[<- (zBH h).2]; exact zEX hv hp zom
  rcases zAM h with⟨_,h⟩ | ⟨_,h⟩
  .rw[<- (zBH h).2]; exact zHI zom hp
  rcases zAM h with⟨_,h⟩ | ⟨_,h⟩
  .rw[<- (zBH h).2]; exact zEX hp hv zom
  rcases zAM h with⟨_,h⟩ | ⟨_,h⟩
  .rw[<- (zBH h).2]; exact zGF hp one zom
  rcases zAM h with⟨_,h⟩ | ⟨_,h⟩
  .rw[<- (zBH h).2]; exact zGF hv one zom
  rcases zAM h with⟨_,h⟩ | ⟨_,h⟩
  .cases hb:vC2 S r.lo r.index false with
   | none=>rw[hb]at h; cases h
   | some l =>
     rw[hb]at h;obtain⟨a,_,_,_,hl,hl2⟩:=vPO hz hb;rw[<- (zBH h).2]; exact zEX hp (zDX hl) zom
  rcases zAM h with⟨_,h⟩ | ⟨_,h⟩
  .cases hb:vC2 S r.hi r.index true with
   | none=>rw[hb]at h; cases h
   | some l =>
     rw[hb]at h;obtain⟨a,_,_,_,hl,hl2⟩:=vPO hz hb;rw[<- (zBH h).2]; exact zEX (zDX hl) hp zom
  rcases zAM h with⟨_,h⟩ | ⟨_,h⟩
  .cases hb:vC2 S r.lo r.index false with
   | none=>rw[hb]at h; cases h
   | some l=>cases hb2:vC2 S r.hi r.index true with
     | none=>rw[hb,hb2]at h; cases h
     | some u =>
       rw[hb,hb2]at h;obtain⟨a,ha,ea,_,hl,_⟩:=vPO hz hb;obtain⟨b,hb',eb,_,hu,_⟩:=vPO hz hb2;have htwo:=hz.two a b ha hb' ea eb;rw[<- (zBH h).2];unfold uG6;exact zEX (zGF (zEX hp (zDX hl) (rAR _)) hu (rAR _)) (zGF hv (vT7 hu hl) (rAR _)) zom
  .cases h
theorem vGX{S:ScpL}{P V:Nat}(hS:vB6 S)(hz:szS S P V){f:QF}(h:okF (vDD S) f):f.ts.length<=1280:=by
 have hn:=hz.nv;have hi:=hS.1.1.1.1;obtain⟨n,hn2⟩:∃ n:Nat,vDD S=n:=⟨(vDD S).toNat,by unfold vDD at *; omega⟩;rw[hn2]at h;have:=vLS n h.1.1 h.2;omega
def vEM(l:List MultL):Nat:=(l.map fun m=>vEU m.coef+1).sum
theorem zHL{l:List MultL}{i:Nat}(h:i<l.length):vEM (l.take (i+1))=vEM (l.take i)+vEU l[i]!.coef+1:=by
 unfold vEM;rw[rA2 h,rBE,rED,rAT l i h]
 simp; omega
theorem vLR(l:List MultL)(i:Nat):vEM (l.take i)<=vEM l:=by
 unfold vEM
 conv=>rhs; rw[<- rC6 i l,rBE,rED]
 omega
def szM(l:List MultL):Prop:=l.length<=1048576/\∀ m∈l,okQ 900000000 m.coef
theorem vOB{S:ScpL}{P V kf:Nat}(hS:vB6 S)(hz:szS S P V){f:QF}(hf:szF kf f){l:List MultL}(hl:szM l):∀ {i:Nat},i<=l.length->okM S l i->szF (kf+i * (P+2 * V+18)+vEM (l.take i)) (vEB S f l i)
 | 0,_,_=>by
   show szF _ f
   exact zHI (by rw[rE2]; omega) hf
 | i+1,hi,hk=>by
   have ih:=vOB hS hz hf hl (i:=i) zom fun k h=>hk k zom
   obtain⟨_,_,_,h4⟩:=hk i zom;obtain⟨g,hg⟩:=rBZ.1 h4;have hr:=vJE hS hz hg;have e:rw' S l[i]! = g:=by unfold rw'; rw[hg]; rfl
   have hc:sz (vEU l[i]!.coef+1) (- qv l[i]!.coef):=vT8 (zGH (zCZ (rC3 _) (zLL (hl.2 _ (get_mem zom)))) zom);obtain⟨R,hR⟩:∃ R,P+2 * V+18=R:=⟨_,rfl⟩;rw[hR]at ih ⊢;have hr2:szF (R - 4) g:=zHI zom hr;rw[zEM zom,e];refine zJ8 ih hr2 hc ?_;rw[zHL zom,rD8];generalize i * R=X;omega
open Classical in
noncomputable def vDU(S:ScpL)(f:QF)(l:List MultL):RatL×Bool:=if okM S l l.length then(cr (vEB S f l l.length).c,decide ((vEB S f l l.length).ts.length=0)) else(⟨false,[],[]⟩,false)
theorem uC2:FO 102 Tryz.f102 [.cell 6 26,.tmp 7] 69:=mkO Tryz.func102 Tryz.ntmps102 Tryz.results102
theorem vZZ(S:ScpL)(f:QF)(l:List MultL)(P V kf:Nat)(hS:vB6 S)(hz:szS S P V)(hf:szF kf f)(hof:okF (vDD S) f)(hl:szM l)(hsz:kf+l.length * (P+2 * V+18)+vEM l<=940000000):Fn 102 [vBD S,vBP f,.imm (l.map vBB)] (.data (.tup [vA5 (vDU S f l).1,.bool (vDU S f l).2])):=by
 have bad:¬ okM S l l.length->PV.tup [.agg [.bool false,.imm [],.imm []],.bool false]=.tup [vA5 (vDU S f l).1,.bool (vDU S f l).2]:=fun e=>by unfold vDU; rw[rAM e]; rfl
 have l1:=hl.1;refine zAL vBC hT uC2 (by simp[vBD,vBP]) ?_;refine sts ?_
 refine zAN hT (fun(i:Nat)=>[(2,.imm (l.map vBB)),(3,.ptr 0 0 0),(4,.ptr 1 0 0),(6,.ptr 2 0 0),(12,.imm (l.map vBB)),(13,.int .i64 l.length),(14,.int .i64 i)])
  (fun i=>[(0,⟨[vBD S],12,true⟩),(1,⟨[vBP (vEB S f l i)],4,true⟩),(2,⟨[.agg [.bool false,.nilsl,.nilsl]],3,true⟩)]) [] 3
  (fun i=>i<=l.length/\okM S l i) (fun i=>l.length - i) 0 ⟨rA7 _,fun k h=>by omega⟩ zdd zsm ?_ ?_
 .exact⟨[_,_,_],[],[],[],ttt,⟨zAE rfl rfl,(apy rfl),(apy rfl),(apy rfl),zAE rfl rfl,zAC rfl zsm,zAC rfl rfl,rGU⟩,⟨bbx,bbx,bbx,rGU⟩,rAA⟩
 rintro i ⟨i1,i2⟩
 by_cases hi:i<l.length
 .have hm:=hl.2 _ (get_mem hi)
  have hm2:=hm.2;have hno:¬ uDC S l i->¬ okM S l l.length:=fun h e=>h (e i hi)
  have cva:=zG6 l[i]!.coef hm.1 zom zom;have csg:=zF8 l[i]!.coef hm.1 zom;have cle:=uK2 l[i - 1]!.row l[i]!.row;obtain⟨g,b,hgb,cf⟩:=uK3 S l[i]!.row P V hS hz
  refine gob ?_ ?_<;>intro h
  all_goals try (exfalso; omega)
  refine zAA cva rfl ?_
  refine gob ?_ ?_<;>intro h
  rotate_left
  .exact zAB rfl (bad (hno fun e=>by have:=e.1; contradiction))
  have hcan:vE0 l[i]!.coef:=by assumption
  refine zAA csg rfl ?_
  (repeat' (first|refine stp ?_|with_reducible(refine brr ?_ ?_<;>intro h)));all_goals try(conv=>whnf)
  .exact zAB rfl (bad (hno fun e=>by have:=sgnQ_pos.2 e.2.1; omega))
  .have hpos:0<qv l[i]!.coef:=sgnQ_pos.1 zom
   refine zA5 (j:=i - 1) zom zom ?_;refine sts ?_;refine zAA cle rfl ?_
   refine gob ?_ ?_<;>intro h
   .have hless:vET l[i - 1]!.row l[i]!.row:=dB_true.1 rAC
    refine zAA cf rfl ?_
    refine gob ?_ ?_<;>intro h
    .have hrow:vDB S l[i]!.row=some g:=by rcases hgb with⟨_,e⟩ | ⟨e,_⟩; exact e; exact absurd (show b=true by assumption) (by rw[e]; decide)
     have hk1:uDC S l i:=⟨hcan,hpos,fun _=>hless,by rw[hrow]; rfl⟩;have e1:rw' S l[i]! = g:=by unfold rw'; rw[hrow]; rfl
     have hgo:okF (vDD S) g:=vOF hS hrow;have hg2:=vJE hS hz hrow;have hgl:=vGX hS hz hgo;have z0:=vOB hS hz hf hl (i:=i) zom i2;have hfo:=zLB hS hof (l:=l) (i:=i) zom;have hfl:=vGX hS hz hfo;have hsi:=zHL (l:=l) hi;have hsj:=vLR l (i+1);have hmul:(i+1) * (P+2 * V+18)<=l.length * (P+2 * V+18):=rBK _ hi;rw[rD8]at hmul;have zc:sz (vEU l[i]!.coef+1) (qv l[i]!.coef):=zGH (zCZ (rC3 _) (zLL hm)) zom;have q1:=zKZ g (qv l[i]!.coef) _ _ hg2 zc zom zom;rw[<- hcan]at q1;have z2:szF (P+2 * V+17+vEU l[i]!.coef) (vDE g (qv l[i]!.coef)):=zGF hg2 zc zom;have q2:=zHC (vEB S f l i) (vDE g (qv l[i]!.coef)) _ _ z0 z2 zom zom (rBU zI2 zom);have e2:vB3 (vEB S f l i) (vDE g (qv l[i]!.coef)) (-1)=vEB S f l (i+1):=by rw[zEM hi,e1]; exact vUD hfo.1 hgo.1
     rw[e2]at q2;refine zAA q1 rfl ?_;refine sts ?_;refine zAA q2 rfl ?_;refine sts ?_;exact⟨i+1,⟨⟨zom,fun k hk=>zA6 (p:=uDC S l) i2 hk1 hk⟩,by show l.length - (i+1)<l.length - i; omega⟩,[0,1,2],[],[],[],ttt,⟨rAJ,apx,apx,apx,rAJ,rAI,rAI,rGU⟩,⟨bbx,bbx,bbx,rGU⟩,rAA⟩
    .have hrow:vDB S l[i]!.row=none:=by rcases hgb with⟨e,_⟩ | ⟨_,e⟩; exact absurd (show b=false by assumption) (by rw[e]; decide); exact e
     exact zAB rfl (bad (hno fun e=>by have:=e.2.2.2; rw[hrow]at this; cases this))
   .exact zAB rfl (bad (hno fun e=>dB_false.1 rAC (e.2.2.1 zom)))
  .have hpos:0<qv l[i]!.coef:=sgnQ_pos.1 zom
   .refine zAA cf rfl ?_
    refine gob ?_ ?_<;>intro h
    .have hrow:vDB S l[i]!.row=some g:=by rcases hgb with⟨_,e⟩ | ⟨e,_⟩; exact e; exact absurd (show b=true by assumption) (by rw[e]; decide)
     have hk1:uDC S l i:=⟨hcan,hpos,fun h=>by omega,by rw[hrow]; rfl⟩;have e1:rw' S l[i]! = g:=by unfold rw'; rw[hrow]; rfl
     have hgo:okF (vDD S) g:=vOF hS hrow;have hg2:=vJE hS hz hrow;have hgl:=vGX hS hz hgo;have z0:=vOB hS hz hf hl (i:=i) zom i2;have hfo:=zLB hS hof (l:=l) (i:=i) zom;have hfl:=vGX hS hz hfo;have hsi:=zHL (l:=l) hi;have hsj:=vLR l (i+1);have hmul:(i+1) * (P+2 * V+18)<=l.length * (P+2 * V+18):=rBK _ hi;rw[rD8]at hmul;have zc:sz (vEU l[i]!.coef+1) (qv l[i]!.coef):=zGH (zCZ (rC3 _) (zLL hm)) zom;have q1:=zKZ g (qv l[i]!.coef) _ _ hg2 zc zom zom;rw[<- hcan]at q1;have z2:szF (P+2 * V+17+vEU l[i]!.coef) (vDE g (qv l[i]!.coef)):=zGF hg2 zc zom;have q2:=zHC (vEB S f l i) (vDE g (qv l[i]!.coef)) _ _ z0 z2 zom zom (rBU zI2 zom);have e2:vB3 (vEB S f l i) (vDE g (qv l[i]!.coef)) (-1)=vEB S f l (i+1):=by rw[zEM hi,e1]; exact vUD hfo.1 hgo.1
     rw[e2]at q2;refine zAA q1 rfl ?_;refine sts ?_;refine zAA q2 rfl ?_;refine sts ?_;exact⟨i+1,⟨⟨zom,fun k hk=>zA6 (p:=uDC S l) i2 hk1 hk⟩,by show l.length - (i+1)<l.length - i; omega⟩,[0,1,2],[],[],[],ttt,⟨rAJ,apx,apx,apx,rAJ,rAI,rAI,rGU⟩,⟨bbx,bbx,bbx,rGU⟩,rAA⟩
    .have hrow:vDB S l[i]!.row=none:=by rcases hgb with⟨e,_⟩ | ⟨_,e⟩; exact absurd (show b=false by assumption) (by rw[e]; decide); exact e
     exact zAB rfl (bad (hno fun e=>by have:=e.2.2.2; rw[hrow]at this; cases this))
 .have ei:i=l.length:=by omega
  subst ei
  refine gob ?_ ?_<;>intro h
  all_goals try (exfalso; omega)
  refine zAB rfl ?_;unfold vDU;rw[rAU i2];have hb:(((vEB S f l l.length).ts.length:Int) == 0)=decide ((vEB S f l l.length).ts.length=0):=by rw[rA1,rDJ,rAY]; omega
  rw[<- hb];simp only[rAN];rfl
theorem uBT{S:ScpL}{f:QF}{l:List MultL}:((vDU S f l).2 && decide (0<=vDL (qv (vDU S f l).1)))=dB (vGA S f l):=by
 unfold vDU vGA;by_cases h:okM S l l.length
 .rw[rAU h,rA1,dB_true]
  simp only[rAO,rAY,zBW,sgnQ_nn',rAZ];exact⟨fun e=>⟨h,e⟩,fun e=>e.2⟩
 .rw[rAM h,rA1,dB_true]
  exact⟨(fun e=>by cases e),fun e=>absurd e.1 h⟩
theorem uBS{S:ScpL}{l:List MultL}:((vDU S zeroQ l).2 && decide (0<vDL (qv (vDU S zeroQ l).1)))=dB (vRO S l):=by
 unfold vDU vRO;by_cases h:okM S l l.length
 .rw[rAU h,rA1,dB_true]
  simp only[rAO,rAY,zBW,sgnQ_pos,rAZ];exact⟨fun e=>⟨h,e⟩,fun e=>e.2⟩
 .rw[rAM h,rA1,dB_true]
  exact⟨(fun e=>by cases e),fun e=>absurd e.1 h⟩
theorem vOJ{S:ScpL}{f:QF}{l:List MultL}{P V kf:Nat}(hS:vB6 S)(hz:szS S P V)(hf:szF kf f)(hl:szM l)(hsz:kf+l.length * (P+2 * V+18)+vEM l<=940000000):okQ 940000000 (vDU S f l).1:=by
 unfold vDU
 split
 .rename_i h
  have z:=vOB hS hz hf hl (rAR _) h;rw[rBW]at z;exact vJ3 (zI1 hsz z.1)
 .exact⟨⟨by simp[okN],by simp[okN]⟩,rA7 _,rA7 _⟩
theorem uI7:FO 67 Tryz.f67 [.tmp 6] 22:=mkO Tryz.func67 Tryz.ntmps67 Tryz.results67
theorem uGS(S:ScpL)(f:QF)(l:List MultL)(P V kf:Nat)(hS:vB6 S)(hz:szS S P V)(hf:szF kf f)(hof:okF (vDD S) f)(hl:szM l)(hsz:kf+l.length * (P+2 * V+18)+vEM l<=940000000):Fn 67 [vBD S,vBP f,.imm (l.map vBB)] (.data (.bool (dB (vGA S f l)))):=by
 have c1:=vZZ S f l P V kf hS hz hf hof hl hsz;have hq:=vOJ hS hz hf hl hsz;have c2:=zF8 (vDU S f l).1 hq.1 (by have:=hq.2; omega);rw[<- uBT];generalize (vDU S f l).1=c at *
 generalize (vDU S f l).2=b at *
 refine zAL vBC hT uI7 (by simp[vBD,vBP]) ?_;refine sts ?_;refine zAA c1 rfl ?_
 refine gob ?_ ?_<;>intro h
 .refine zAA c2 rfl ?_
  refine sts ?_;exact zAB rfl (by rw[show b=true by assumption]; rfl)
 .exact zAB rfl (by rw[show b=false by assumption]; rfl)
theorem uI6:FO 66 Tryz.f66 [.tmp 4] 20:=mkO Tryz.func66 Tryz.ntmps66 Tryz.results66
theorem uOA(S:ScpL)(l:List MultL)(P V:Nat)(hS:vB6 S)(hz:szS S P V)(hl:szM l)(hsz:1+l.length * (P+2 * V+18)+vEM l<=940000000):Fn 66 [vBD S,.imm (l.map vBB)] (.data (.bool (dB (vRO S l)))):=by
 have c1:=vZZ S zeroQ l P V 1 hS hz (zEF 1 zdd) (zFQ _) hl hsz;have hq:=vOJ hS hz (zEF 1 zdd) hl hsz;have c2:=zF8 (vDU S zeroQ l).1 hq.1 (by have:=hq.2; omega);rw[<- uBS];rw[encF_zero']at c1;generalize (vDU S zeroQ l).1=c at *
 generalize (vDU S zeroQ l).2=b at *
 refine zAL vBC hT uI6 (by simp[vBD]) ?_;refine sts ?_;refine zAA c1 rfl ?_
 refine gob ?_ ?_<;>intro h
 .refine zAA c2 rfl ?_
  refine sts ?_;exact zAB rfl (by rw[show b=true by assumption]; rfl)
 .exact zAB rfl (by rw[show b=false by assumption]; rfl)
theorem vXF:FO 65 Tryz.f65 [.tmp 4] 46:=mkO Tryz.func65 Tryz.ntmps65 Tryz.results65
theorem uOC(S:ScpL)(m:LemL)(P V:Nat)(hS:vB6 S)(hz:szS S P V)(hm:okQ V m.value)(hl:szM m.proof)(hsz:P+V+10+m.proof.length * (P+2 * V+18)+vEM m.proof<=940000000):Fn 65 [vBD S,vBA m] (.data (.bool (dB (vIM S m)))):=by
 have hnu:=hS.1.1.2.1;have hB:=hz.B;have hP:=hz.P1;have no:¬ vIM S m->false=dB (vIM S m):=zGR;have cva:=zG6 m.value hm.1 (by have:=hm.2; omega) (by have:=hm.2; omega);by_cases hu:0<=m.unit/\m.unit<S.q.g.units.length
 .have hj:m.unit.toNat<S.q.g.units.length:=by omega
  have hvu:=hS.1.1.2.2.2.1 _ hj;have hpa:=hz.units _ (get_mem hj);have szp:szF P S.q.g.units[m.unit.toNat]!.Q:=zHH hpa hP;have zn:szF (V+1) (vBN (qv m.value)):=zDX (zGH (zCZ (rC3 _) hm) zom);have cn:=zP3 m.value V hm zom;have lp:S.q.g.units[m.unit.toNat]!.Q.ts.length<=1048576:=by rw[uOP]; exact hpa.2.2
  have cs:=zHC S.q.g.units[m.unit.toNat]!.Q (vBN (qv m.value)) P (V+1) szp zn zom lp (by simp[vBN]);rw[zN8 hvu]at cs;have z1:szF (P+V+3) (vCE S.q.g.units[m.unit.toNat]!.Q (vBN (qv m.value))):=zEX szp zn zom;have cmi:=vIC (vCE S.q.g.units[m.unit.toNat]!.Q (vBN (qv m.value))) _ z1 zom (rBU zH7 lp);have hof:okF (vDD S) S.q.g.units[m.unit.toNat]!.Q:=vJ4 (by unfold vDD; omega) (zMB hvu)
  have hlf:szF (P+V+10) (vFT S m):=by
   unfold vFT; split
   .exact zGF z1 (zE7 (z:=-1) zdd) zom
   .exact zHI zom z1
  have hlo:okF (vDD S) (vFT S m):=by
   unfold vFT; split
   .exact zO8 (zFS hof (zHS _ _))
   .exact zFS hof (zHS _ _)
  have cp:=uGS S (vFT S m) m.proof P V _ hS hz hlf hlo hl hsz
  have fin:vE0 m.value->dB (vGA S (vFT S m) m.proof)=dB (vIM S m):=fun hc=>by
   rw[rA1,dB_true,dB_true]; exact⟨fun e=>⟨hu,hc,e⟩,fun e=>e.2.2⟩
  refine zAL vBC hT vXF (by simp[vBD,vBA]) ?_
  (repeat' (first|refine stp ?_|with_reducible(refine brr ?_ ?_<;>intro h)));all_goals try(conv=>whnf)
  all_goals try (exfalso; omega)
  refine zAA cva rfl ?_
  refine gob ?_ ?_<;>intro h
  rotate_left
  .exact zAB rfl (rA3 PV.bool (no fun e=>by have:=e.2.1; contradiction))
  have hcan:vE0 m.value:=by assumption
  refine zA5 (j:=m.unit.toNat) (show m.unit=_ by omega) hj ?_;refine sts ?_;refine zAA cn rfl ?_;refine sts ?_;refine zAA cs rfl ?_
  refine gob ?_ ?_<;>intro h
  .have e1:vFT S m=vDE (vCE S.q.g.units[m.unit.toNat]!.Q (vBN (qv m.value))) (-1):=rAU rAC
   rw[e1]at cp;refine zAA cmi rfl ?_;refine sts ?_;refine zAA cp rfl ?_;refine sts ?_;exact zAB rfl (rA3 PV.bool (by rw[<- e1]; exact fin hcan))
  .have e1:vFT S m=vCE S.q.g.units[m.unit.toNat]!.Q (vBN (qv m.value)):=rAM (by rw[show m.upper=false by assumption]; decide)
   rw[e1]at cp;refine zAA cp rfl ?_;refine sts ?_;exact zAB rfl (rA3 PV.bool (by rw[<- e1]; exact fin hcan))
 .refine zAL vBC hT vXF (by simp[vBD,vBA]) ?_
  (repeat' (first|refine stp ?_|with_reducible(refine brr ?_ ?_<;>intro h)));all_goals try(conv=>whnf)
  all_goals try (exfalso; omega)
  all_goals exact zAB rfl (rA3 PV.bool (no fun e=>hu e.1))
theorem zNT:FO 61 Tryz.f61 [.tmp 6,.tmp 7] 111:=mkO Tryz.func61 Tryz.ntmps61 Tryz.results61
theorem uN9:∀ (s:Nat) (n:NodeL) (d m:Nat),SizeOf.sizeOf n<s->n.Sm->n.cnt<=4194304->d<=2048->m<=65536->∃ k:Nat,k<=n.cnt/\((vBH d n && decide (n.cnt<=m))=true->k=n.cnt)/\Fn 61 [vA7 n,.int .i64 d,.int .i64 m] (.data (.tup [.int .i64 k,.bool (vBH d n && decide (n.cnt<=m))])):=by
 intro s
 induction s with
 | zero=>intro n d m h; omega
 | succ s ih =>
   intro n d m hn hs hct hd hm;have hl:=hs.len;have hpos:=zF5 n;have l1:=hs.prf.1;have l2:=hs.dec;have l3:=l2.1;have l4:=l2.2;have zero:(vBH d n && decide (n.cnt<=m))=false->∃ k:Nat,k<=n.cnt/\((vBH d n && decide (n.cnt<=m))=true->k=n.cnt):=fun e=>⟨0,rA7 _,fun h=>by rw[e]at h; cases h⟩
   by_cases h0:m=0
   .have e:(vBH d n && decide (n.cnt<=m))=false:=by rw[rBD zom,Bool.and_false]
    refine⟨0,rA7 _,(fun h=>by rw[e]at h; cases h),?_⟩;rw[e];refine zAL vBC hT zNT zsm ?_
    (repeat' (first|refine stn ?_|(with_reducible refine brr ?_ ?_<;>intro h)|(with_reducible refine zAT ?_ ?_<;>intro h)|with_reducible refine zBC ?_ ?_)); all_goals try (conv=>whnf)
    all_goals try (exfalso; omega)
    exact rGV
   by_cases hk:n.kids.length=0
   .have e:(vBH d n && decide (n.cnt<=m))=vED n:=by rw[zBI hk,zG3 hk,rB4 zom,rDQ]
    refine⟨1,hpos,fun _=>(zG3 hk).symm,?_⟩;rw[e]
    have lf:vED n=decide (n.split.kind=0/\n.split.index=0/\n.split.rat.neg=false/\n.split.rat.num.length=0/\n.split.rat.den.length=0):=by
     unfold vED;refine rCW.2 ?_;generalize n.split=x;obtain⟨a,b,⟨c,d,e⟩⟩:=x
     simp
    rw[lf];refine zAL vBC hT zNT zsm ?_
    (repeat' (first|refine stn ?_|(with_reducible refine brr ?_ ?_<;>intro h)|(with_reducible refine zAT ?_ ?_<;>intro h)|with_reducible refine zBC ?_ ?_)); all_goals try (conv=>whnf)
    all_goals try (exfalso; omega)
    all_goals refine zAB rfl (rA3 (fun b=>PV.tup [.int .i64 1,.bool b]) ?_)
    all_goals (rw[rA1,rAY]; simp_all; try omega)
   .have h2:=hn
    by_cases hin:vBX n=true/\d≠0
    rotate_left
    .have e:(vBH d n && decide (n.cnt<=m))=false:=by
      rw[zA1 hk];cases h1:vBX n
      .rfl
      .by_cases h5:d=0
       .simp[h5]
       .exact absurd ⟨h1,h5⟩ hin
     refine⟨0,rA7 _,(fun h=>by rw[e]at h; cases h),?_⟩;rw[e];have hno:¬ (n.kids.length=2/\1<=n.split.kind/\n.split.kind<=4/\n.empty=false/\n.proof.length=0/\d≠0):=fun⟨e1,e2,e3,e4,e5,e6⟩=>hin ⟨by unfold vBX; exact rB4 ⟨e1,e2,e3,e4,e5⟩,e6⟩
     refine zAL vBC hT zNT zsm ?_
     (repeat' (first|refine stn ?_|(with_reducible refine brr ?_ ?_<;>intro h)|(with_reducible refine zAT ?_ ?_<;>intro h)|with_reducible refine zBC ?_ ?_)); all_goals try (conv=>whnf)
     all_goals try (exfalso; omega)
     all_goals try exact rGV
     all_goals (exfalso; refine hno ⟨?_,?_,?_,?_,?_,?_⟩<;>first | omega | assumption)
    .obtain⟨h3,h4⟩:=hin
     have h5:=h3;unfold vBX at h5;obtain⟨e1,e2,e3,e4,e5⟩:=rCD h5;have hm0:n.kids[0]! ∈ n.kids:=get_mem zom;have hm1:n.kids[1]! ∈ n.kids:=get_mem zom;have s0:=NodeL.sizeOf_kid hm0;have s1:=NodeL.sizeOf_kid hm1;have ct:=vH7 e1;have p0:=zF5 n.kids[0]!;have p1:=zF5 n.kids[1]!;obtain⟨a,a1,a2,ca⟩:=ih n.kids[0]! (d - 1) (m - 1) zom (hs.kid hm0) zom zom zom
     have ef:(vBH d n && decide (n.cnt<=m))=((vBH (d - 1) n.kids[0]! && decide (n.kids[0]!.cnt<=m - 1)) && (vBH (d - 1) n.kids[1]! && decide (n.kids[1]!.cnt<=m - 1 - n.kids[0]!.cnt))):=by
      rw[zCV e1,h3,rB4 h4,ct];rw[rA1];simp only[rAO,rAY,rEM];constructor
      .rintro⟨⟨f1,f2⟩,f3⟩; exact⟨⟨f1,zom⟩,f2,zom⟩
      .rintro⟨⟨f1,f2⟩,f3,f4⟩; exact⟨⟨f1,f3⟩,zom⟩
     have ed:((d - 1:Nat):Int)=(d:Int) - 1:=by omega
     have em:((m - 1:Nat):Int)=(m:Int) - 1:=by omega
     rw[ed,em]at ca;cases hA:(vBH (d - 1) n.kids[0]! && decide (n.kids[0]!.cnt<=m - 1))
     .rw[hA]at ef ca
      refine⟨0,rA7 _,(fun h=>by rw[ef]at h; cases h),?_⟩;rw[ef];refine zAL vBC hT zNT zsm ?_
      (repeat' (first|refine stn ?_|(with_reducible refine brr ?_ ?_<;>intro h)|(with_reducible refine zAT ?_ ?_<;>intro h)|with_reducible refine zBC ?_ ?_)); all_goals try (conv=>whnf)
      all_goals try (exfalso; omega)
      all_goals try (exfalso; simp_all; done)
      refine zAA ca rfl ?_;refine sns ?_
      all_goals try (exfalso; omega)
      exact rGV
     .have ea:=a2 hA
      obtain⟨b,b1,b2,cb⟩:=ih n.kids[1]! (d - 1) (m - 1 - a) zom (hs.kid hm1) zom zom zom;rw[hA,rDP,<- ea]at ef;rw[hA]at ca;have am:a<=m - 1:=by simp only[rAO,rAY]at hA; omega
      have em2:((m - 1 - a:Nat):Int)=(m:Int) - 1 - a:=by omega
      rw[ed,em2]at cb;refine⟨1+a+b,zom,(fun h=>by have:=b2 (ef ▸ h); omega),?_⟩;rw[ef];refine zAL vBC hT zNT zsm ?_
      (repeat' (first|refine stn ?_|(with_reducible refine brr ?_ ?_<;>intro h)|(with_reducible refine zAT ?_ ?_<;>intro h)|with_reducible refine zBC ?_ ?_)); all_goals try (conv=>whnf)
      all_goals try (exfalso; omega)
      all_goals try (exfalso; simp_all; done)
      refine zAA ca rfl ?_;refine sns ?_
      all_goals try (exfalso; omega)
      refine zAA cb rfl ?_;refine sns ?_
      all_goals try (exfalso; omega)
      refine zAB rfl (rA3 (fun x=>PV.tup [.int .i64 x,.bool _]) ?_);omega
def uOX(v V:Nat)(l:List LemL):Prop:=∀ m∈l,vEU m.value<=if m.upper=true then v else V - v
theorem uJO{v V:Nat}{l:List LemL}(h:uOX v V l)(hv:v<=V){m:LemL}(hm:m∈l):vEU m.value<=V:=by
 have:=h m hm
 split at this<;>omega
def vKY(P V:Nat)(l:List MultL):Prop:=szM l/\40000000+P+V+10+l.length * (P+2 * V+18)+vEM l+18 * (P+2 * V+40+vEM l)<=940000000
inductive NodeZ(P V:Nat):Nat->Nat->NodeL->Prop
 | mk (v c:Nat) (n:NodeL) (h1:uOX v V n.lemmas) (h2:n.lemmas.length<=c) (h3:∀ m∈n.lemmas,okQ (vEU m.value) m.value/\vKY P V m.proof) (h4:okQ P n.split.rat) (h5:vKY P V n.proof)
  (h6:∀ k∈n.kids,NodeZ P V v (c - n.lemmas.length) k):NodeZ P V v c n
section
variable {P V v c:Nat} {n:NodeL}
theorem NodeZ.val(h:NodeZ P V v c n):uOX v V n.lemmas:=by cases h; assumption
theorem NodeZ.num(h:NodeZ P V v c n):n.lemmas.length<=c:=by cases h; assumption
theorem NodeZ.lem(h:NodeZ P V v c n):∀ m∈n.lemmas,okQ (vEU m.value) m.value/\vKY P V m.proof:=by cases h; assumption
theorem NodeZ.spl(h:NodeZ P V v c n):okQ P n.split.rat:=by cases h; assumption
theorem NodeZ.prf(h:NodeZ P V v c n):vKY P V n.proof:=by cases h; assumption
theorem NodeZ.kid(h:NodeZ P V v c n):∀ k∈n.kids,NodeZ P V v (c - n.lemmas.length) k:=by cases h; assumption
end
structure szT(S:ScpL)(P V v c d:Nat):Prop where
 P1:1<=P
 units:∀ f∈S.q.g.units,okA P f
 lo:vXM P S.q.r.lo
 hi:vXM P S.q.r.hi
 rows:uJG P S.q.r.rows
 goal:okA 40000000 S.q.goal
 plen:S.path.length+d<=1048576
 path:∀ e∈S.path,okQ P e.rat
 lems:∀ m∈S.lems,okQ (vEU m.value) m.value
 can:∀ m∈S.lems,vE0 m.value
 val:v<=V/\uOX v V S.lems
 num:S.lems.length+c<=1048576
 B:P+2 * V+20<=100000000
 nv:vDD S<=1280
theorem szT.szS{S:ScpL}{P V v c d:Nat}(h:szT S P V v c d):szS S P V:=by
 refine⟨h.P1,h.units,h.lo,h.hi,h.rows,⟨by have:=h.plen; omega,h.path⟩,⟨by have:=h.num; omega,fun m hm=>zCZ (uJO h.val.2 h.val.1 hm) (h.lems m hm)⟩,h.can,fun i j hi hj ei ej=>?_,h.B,h.nv⟩;have h1:=h.val.2 _ (get_mem hi);have h2:=h.val.2 _ (get_mem hj);have h3:=h.val.1;rw[ei,rAM zdd]at h1;rw[ej,rAU rfl]at h2;omega
theorem szT.take{S:ScpL}{P V v c d:Nat}(h:szT S P V v c d){n:NodeL}(hn:NodeZ P V v c n){i:Nat}(hi:i<=n.lemmas.length)(hc:∀ k,k<i->vE0 n.lemmas[k]!.value):szT (vBW S (n.lemmas.take i)) P V v (c - i) d:=by
 have h1:=hn.val;have h2:=hn.num;refine⟨h.P1,h.units,h.lo,h.hi,h.rows,h.goal,h.plen,h.path,fun m hm=>?_,fun m hm=>?_,?_,?_,h.B,h.nv⟩
 .rcases rAX.1 hm with hm | hm
  .exact h.lems m hm
  .exact(hn.lem m (rCK hm)).1
 .rcases rAX.1 hm with hm | hm
  .exact h.can m hm
  .obtain⟨k,hk,rfl⟩:=rA8 hm
   have hk2:k<i:=by rw[rB1]at hk; omega
   have:=hc k hk2;rw[rAT _ _ zom]at this
   simpa using this
 .refine⟨h.val.1,fun m hm=>?_⟩
  rcases rAX.1 hm with hm | hm
  .exact h.val.2 m hm
  .exact h1 m (rCK hm)
 .have:=h.num
  show(S.lems++n.lemmas.take i).length+_<=_
  rw[rAV,rB1]; omega
theorem szT.kid{S:ScpL}{P V v c d:Nat}(h:szT S P V v c d)(hd:d≠0){n:NodeL}(hn:NodeZ P V v c n)(hc:∀ k,k<n.lemmas.length->vE0 n.lemmas[k]!.value){e:DecL}(he:okQ P e.rat):szT (vCU S n e) P V v (c - n.lemmas.length) (d - 1):=by
 have h0:=h.take hn (rAR _) hc;rw[rBW]at h0;refine⟨h.P1,h.units,h.lo,h.hi,h.rows,h.goal,?_,fun x hx=>?_,h0.lems,h0.can,h0.val,h0.num,h.B,h.nv⟩
 .have:=h.plen
  show(S.path++[e]).length+_<=_
  rw[rAV,List.length_singleton]; omega
 .rcases rAX.1 hx with hx | hx
  .exact h.path x hx
  .rw[rBI.1 hx]; exact he
def uLM(a b:Nat)(S:ScpL):PV:=.agg [.int .i64 S.q.g.ins,.imm (S.q.g.units.map vBM),.imm (S.q.g.outs.map vBM),.imm (S.q.r.lo.map vA5),.imm (S.q.r.hi.map vA5),.imm (S.q.r.rows.map vBM),.imm (S.q.goal.terms.map vCB),.bool S.q.goal.const.neg,vBK S.q.goal.const.num,vBK S.q.goal.const.den,.own a 0 S.path.length,.own b 0 S.lems.length]
theorem uI4:FO 64 Tryz.f64 [.tmp 5] 103:=mkO Tryz.func64 Tryz.ntmps64 Tryz.results64
def uLZ(q:QryL):PV:=.func (.func 64) [] [.ptr 0 0 0,.cptr (vBJ q) 0,.ptr 1 0 0]
abbrev vEL(a b:Nat)(S:ScpL):List (Nat×Blk):=[(0,⟨[uLM a b S],12,true⟩),(1,⟨[uLZ S.q],1,false⟩),(a,⟨S.path.map vA9,5,true⟩),(b,⟨S.lems.map vBA,6,true⟩)]
def uQM(S:ScpL)(n:NodeL)(pv:PV)(s':St):Prop:=∃ S':ScpL,S'.q=S.q/\((pv=.bool true/\vBE S n=none/\S'=S)\/(pv=.bool false/\vBE S n=some S'.path))/\s'.h=hv (vEL 4 5 S')/\s'.z=zv []/\6<=s'.nx
theorem zEY{ρ:Nat->Nat}{k a b a' b':Nat}{S:ScpL}(h1:a<k)(h2:b<k)(e1:a'=ρ a)(e2:b'=ρ b):rn ρ k 3 (uLM a b S) (uLM a' b' S):=by
 subst e1 e2;exact⟨rfl,rfl,rfl,rfl,rfl,rfl,rfl,rfl,rfl,rfl,⟨h1,rfl⟩,⟨h2,rfl⟩,rGU⟩
theorem vGY{ρ:Nat->Nat}{k a b a' b' m1 m2:Nat}{S S':ScpL}(hq:S'.q=S.q)(h1:a<k)(h2:b<k)(e1:a'=ρ a)(e2:b'=ρ b)(g1:m1=S'.path.length)(g2:m2=S'.lems.length):rn ρ k 3 (uLM a b S') (.agg [.int .i64 S.q.g.ins,.imm (S.q.g.units.map vBM),.imm (S.q.g.outs.map vBM),.imm (S.q.r.lo.map vA5),.imm (S.q.r.hi.map vA5),.imm (S.q.r.rows.map vBM),.imm (S.q.goal.terms.map vCB),.bool S.q.goal.const.neg,vBK S.q.goal.const.num,vBK S.q.goal.const.den,.own a' 0 m1,.own b' 0 m2]):=by
 subst e1 e2 g1 g2;rw[<- hq];exact⟨rfl,rfl,rfl,rfl,rfl,rfl,rfl,rfl,rfl,rfl,⟨h1,rfl⟩,⟨h2,rfl⟩,rGU⟩
theorem vM9{h:Hp}{n a b:Nat}{S:ScpL}(ha:h a=some ⟨S.path.map vA9,5,true⟩)(hb:h b=some ⟨S.lems.map vBA,6,true⟩):frz h (n+3) (uLM a b S)=some (vBD S,[a,b]):=by
 refine zBZ ?_;refine zAD (ks:=[]) rfl (zAD (ks:=[]) rfl (zAD (ks:=[]) rfl (zAD (ks:=[]) rfl (zAD (ks:=[]) rfl (zAD (ks:=[]) rfl (zAD (ks:=[]) rfl (zAD (ks:=[]) rfl (zAD (ks:=[]) rfl (zAD (ks:=[]) rfl (zAD (ks:=[a]) (zAI ha rfl rfl fun x=>by cases n<;>rfl) (zAD (ks:=[b]) (zAI hb rfl rfl fun x=>by cases n<;>rfl) rfl)))))))))))
theorem zD0{ρ:Nat->Nat}{k:Nat}{q:QryL}(h0:ρ 0=0:=by rfl)(h1:ρ 1=1:=by rfl)(hk:2<=k:=by decide):rn ρ k 3 (uLZ q) (uLZ q):=by
 refine⟨rfl,rGU,⟨zom,by rw[h0]⟩,rfl,⟨zom,by rw[h1]⟩,rGU⟩
theorem zH0{h:Hp}{n r:Nat}{e d:PV}{sz:Nat}{agg:Bool}(hb:h r=some ⟨[e],sz,agg⟩)(he:frz h n e=some (d,[])):frz h (n+1) (.ptr r 0 0)=some (.cptr d 0,[r]):=by
 unfold frz;simp only[hb,List.getElem?_cons_zero,he]
theorem uGH(a b:Nat)(S:ScpL)(h1:2<=a)(h2:a<b):hv (vEL a b S) 0=some ⟨[uLM a b S],12,true⟩/\hv (vEL a b S) 1=some ⟨[uLZ S.q],1,false⟩/\hv (vEL a b S) a=some ⟨S.path.map vA9,5,true⟩/\hv (vEL a b S) b=some ⟨S.lems.map vBA,6,true⟩:=by
 rw[zHE];simp only[vEL,hl];refine⟨rfl,rfl,?_,?_⟩
 .rw[rAM zom,rAM zom]; simp
 .rw[rAM zom,rAM zom,rAM zom]; simp
def uO9(r:Nat):Nat:=if r=2 then 4 else if r=3 then 5 else r
def uFI(nx M r:Nat):Nat:=if r<2 then r else if r=nx then 4 else if r=nx+1 then 5 else M+r
theorem vNX{S:ScpL}{n:NodeL}{K:PV->St->Prop}{t:Tm}{h:Hp}{z:Fz}{nx:Nat}(hF:∀ t,FnH Tryz.prog G0 64 [vA7 n,.ptr 0 0 0,.cptr (vBJ S.q) 0,.ptr 1 0 0] (uQM S n) ⟨t,hv (vEL 2 3 S),zv [],4⟩)(hh:h=hv (vEL 4 5 S))(hz0:z=zv [])(hnx:6<=nx)
 (hK:∀ (bv:Bool) S',S'.q=S.q->((bv=true/\vBE S n=none/\S'=S)\/(bv=false/\vBE S n=some S'.path))->K (.bool bv) ⟨fun _=>.any,hv (vEL nx (nx+1) S'),zv [],nx+2⟩):FnH Tryz.prog G0 64 [vA7 n,.ptr 0 0 0,.cptr (vBJ S.q) 0,.ptr 1 0 0] K ⟨t,h,z,nx⟩:=by
 subst hh hz0;have hF:=hF t;rw[zHE,zHD]at hF;obtain⟨g0,g1,g4,g5⟩:=uGH 4 5 S zdd zdd;refine uNP uO9 hF rfl (fun i d' hd=>?_) (vHH (zID ?_)) zsm ?_ ⟨_,g0,fun i e=>by have:=rA3 Blk.agg e; cases this⟩ fun pv s' hk=>?_
 .refine⟨d',hd,?_⟩
  match i,hd with
  | 0,hd=>cases hd; exact⟨rfl,rfl,rfl,rfl,rfl,rfl,rfl,rfl,rfl,rGU⟩
  | 1,hd=>cases hd; exact⟨zdd,rfl⟩
  | 2,hd=>cases hd; exact rfl
  | 3,hd=>cases hd; exact⟨zdd,rfl⟩
  | i+4,hd=>simp at hd
 .exact⟨zAH zdd g0 (zEY zdd zdd rfl rfl) rfl rfl,zAH zdd g1 (zD0 rfl rfl) rfl rfl,zAF zdd g4 rfl (zAQ fun _=>⟨rfl,by simp[vA9]⟩) rfl,zAF zdd g5 rfl (zAQ fun _=>⟨rfl,by simp[vBA]⟩) rfl,rGU⟩
 .intro p hp q hq
  simp only[vEL,rBA,rCX,rE0]at hp hq;rcases hp with rfl | rfl | rfl | rfl<;>rcases hq with rfl | rfl | rfl | rfl<;>simp[uO9]
 .obtain⟨S',hq,hb,h1,h2,h3⟩:=hk
  obtain⟨k0,k1,k4,k5⟩:=uGH 4 5 S' zdd zdd;obtain⟨bv,hbv⟩:∃ bv:Bool,pv=.bool bv:=by rcases hb with⟨e,_⟩ | ⟨e,_⟩<;>exact⟨_,e⟩
  subst hbv;have hKK:=hK bv S' hq (by simpa using hb);refine⟨bv,vEL nx (nx+1) S',[],nx+2,uFI nx s'.nx,rfl,zom,fun r hr=>?_,vHH (zID ?_),zsm,?_,by rw[<- zHE,<- zHD]; exact hKK⟩
  .by_cases h:r<2
   .left
    unfold uFI;rw[rAU h];refine⟨zom,?_⟩;unfold uO9;rw[rAM zom,rAM zom]
   .right
    unfold uFI;rw[rAM h,rAM zom,rAM zom]; omega
  .rw[h1,h2]
   have e4:uFI nx s'.nx nx=4:=by unfold uFI; rw[rAM zom,rAU rfl]
   have e5:uFI nx s'.nx (nx+1)=5:=by unfold uFI; rw[rAM zom,rAM zom,rAU rfl]
   exact⟨zAH zom k0 (zEY zom zom e4.symm e5.symm) rfl rfl,zAH zom k1 (zD0 rfl rfl zom) rfl rfl,zAF zom (by rw[e4]; exact k4) rfl (zAQ fun _=>⟨rfl,by simp[vA9]⟩) rfl,zAF zom (by rw[e5]; exact k5) rfl (zAQ fun _=>⟨rfl,by simp[vBA]⟩) rfl,rGU⟩
  .intro p hp q hq
   simp only[vEL,rBA,rCX,rE0]at hp hq;rcases hp with rfl | rfl | rfl | rfl<;>rcases hq with rfl | rfl | rfl | rfl<;>intro hne<;>simp only[uFI]at hne ⊢<;>(try exact absurd rfl hne)<;>(repeat' split)<;>omega
theorem uP4:∀ (s:Nat) (n:NodeL) (S:ScpL) (P V v c d:Nat) (t:Tm),SizeOf.sizeOf n<s->n.Sm->vBH d n=true->vB6 S->szT S P V v c d->NodeZ P V v c n ->
 FnH Tryz.prog G0 64 [vA7 n,.ptr 0 0 0,.cptr (vBJ S.q) 0,.ptr 1 0 0] (uQM S n) ⟨t,hv (vEL 2 3 S),zv [],4⟩:=by
 intro s
 induction s with
 | zero=>intro n S P V v c d t h; omega
 | succ s ih =>
   intro n S P V v c d t hs hsm hf hS hz hn;have hl:=hsm.len;have l1:=hsm.prf.1;have l2:=hsm.lems.1;have p1:=hz.plen;have p2:=hz.num;have n2:=hn.num;refine uJ3 vBC hT uI4 zsm ?_;refine sus ?_;refine zA0 ?_;refine sus ?_;refine vBV [] [(1,.ptr 0 0 0),(2,.cptr (vBJ S.q) 0),(3,.ptr 1 0 0),(4,.cptr (vA7 n) 0),(6,.int .i64 S.lems.length)] (vEL 4 5 S) [] 6 zdd zsm trivial ?_ ?_
   .refine⟨[2,3],[4],[(4,.cptr (vA7 n) 0)],[],⟨⟨⟨_,rfl⟩,rGU⟩,⟨⟨6,[4],zH0 rfl rfl,rfl⟩,rGU⟩,rGU⟩,⟨apx,zAG rfl,apx,zAG rfl,zAC rfl zsm,rGU⟩,?_,rAA⟩
    exact⟨zAH zdd rfl (zEY zdd zdd rfl rfl) rfl rfl,zAH zdd rfl zD0 rfl rfl,zAF zdd rfl rfl (zAQ fun _=>⟨rfl,by simp[vA9]⟩) rfl,zAF zdd rfl rfl (zAQ fun _=>⟨rfl,by simp[vBA]⟩) rfl,rGU⟩
   refine sus ?_;refine zA0 ?_;refine sus ?_;have e0:vBW S (n.lemmas.take 0)=S:=by unfold vBW; rw[List.take_zero,rBQ]
   refine zAN hT (fun(i:Nat)=>[(1,.ptr 0 0 0),(2,.cptr (vBJ S.q) 0),(3,.ptr 1 0 0),(4,.cptr (vA7 n) 0),(6,.int .i64 S.lems.length),(15,.imm (n.lemmas.map vBA)),(16,.int .i64 n.lemmas.length),(17,.int .i64 i)])
    (fun i=>vEL 4 5 (vBW S (n.lemmas.take i))) [] 6 (fun i=>i<=n.lemmas.length/\∀ k,k<i->vIM (vBW S (n.lemmas.take k)) n.lemmas[k]!) (fun i=>n.lemmas.length - i) 0 ⟨rA7 _,fun k h=>by omega⟩ zdd zsm ?_ ?_
   .dsimp only
    rw[e0];refine⟨[4,5],[],[],[],ttt,⟨apx,zAG rfl,apx,zAG rfl,rAI,rAJ,zAC rfl zsm,rAI,rGU⟩,?_,rAA⟩;exact⟨zAH zdd rfl (zEY zdd zdd rfl rfl) rfl rfl,zAH zdd rfl zD0 rfl rfl,zAF zdd rfl rfl (zAQ fun _=>⟨rfl,by simp[vA9]⟩) rfl,zAF zdd rfl rfl (zAQ fun _=>⟨rfl,by simp[vBA]⟩) rfl,rGU⟩
   rintro i ⟨i1,i2⟩
   have hcan:∀ k,k<i->vE0 n.lemmas[k]!.value:=fun k hk=>(i2 k hk).2.1
   have hzi:=hz.take hn i1 hcan;have hSi:vB6 (vBW S (n.lemmas.take i)):=uF2 hS;by_cases hi:i<n.lemmas.length
   .have hm:=get_mem hi
    obtain⟨m1,m2,m3⟩:=hn.lem _ hm;have hvm:=uJO hn.val hz.val.1 hm;have cl:=uOC (vBW S (n.lemmas.take i)) n.lemmas[i]! P V hSi hzi.szS (zCZ zom m1) m2 zom;refine sus ?_
    all_goals try (exfalso; omega)
    refine zA0 ?_; (repeat' (first|refine stu ?_|with_reducible(refine brr ?_ ?_<;>intro h)));all_goals try(conv=>whnf)
    all_goals try (exfalso; omega)
    (refine zA0 ?_; refine sus ?_)
    all_goals try (exfalso; omega)
    (refine zA0 ?_; refine sus ?_)
    refine zLV cl (zAD (vM9 rfl rfl) (zAD rfl rfl)) ?_;refine sus ?_;refine zA0 ?_; (repeat' (first|refine stu ?_|with_reducible(refine brr ?_ ?_<;>intro h)));all_goals try(conv=>whnf)
    .have hlem:=dB_true.1 (by assumption:dB _=true)
     have ln:(vBW S (n.lemmas.take i)).lems.length=S.lems.length+i:=by unfold vBW; rw[rAV,rB1]; omega
     (refine zA0 ?_; refine sus ?_)
     (refine zA0 ?_; refine sus ?_)
     have e1:vBW S (n.lemmas.take (i+1))=⟨S.q,S.path,(S.lems++n.lemmas.take i)++[n.lemmas[i]!]⟩:=by
      unfold vBW; rw[rBB,rA2 hi,rAT n.lemmas i hi]
     refine⟨i+1,⟨⟨zom,fun k hk=>zA6 (p:=fun k=>vIM (vBW S (n.lemmas.take k)) n.lemmas[k]!) i2 hlem hk⟩,by show n.lemmas.length - (i+1)<n.lemmas.length - i; omega⟩,?_⟩;rw[e1];refine⟨[4,18],[],[],[],ttt,⟨apx,zAG rfl,apx,zAG rfl,rAI,rAJ,rAI,rAI,rGU⟩,?_,rAA⟩;refine⟨zAH zdd rfl (vGY (S:=S) rfl zdd zdd rfl rfl rfl (by rw[ln]; simp[vBW]; omega)) rfl rfl,zAH zdd rfl zD0 rfl rfl,zAF zdd rfl rfl (zAQ fun _=>⟨rfl,by simp[vA9]⟩) rfl,?_,rGU⟩;exact zAF zdd rfl (by show _=List.map vBA _; rw[rBE]; rfl) (zAQ fun _=>⟨rfl,by simp[vBA]⟩) rfl
    .have hlem:=dB_false.1 (by assumption:dB _=false)
     refine vBV [] [(5,.bool false)] (vEL 4 5 (vBW S (n.lemmas.take i))) [] 6 zdd zsm trivial ?_ ?_
     .exact⟨[4,5],[],[],[],ttt,⟨rAK,rGU⟩,⟨zAH zdd rfl (zEY zdd zdd rfl rfl) rfl rfl,zAH zdd rfl zD0 rfl rfl,zAF zdd rfl rfl (zAQ fun _=>⟨rfl,by simp[vA9]⟩) rfl,zAF zdd rfl rfl (zAQ fun _=>⟨rfl,by simp[vBA]⟩) rfl,rGU⟩,rAA⟩
     refine sus ?_;exact⟨vBW S (n.lemmas.take i),rfl,rA0 ⟨rfl,zDB fun e=>hlem (e.1 i hi)⟩,rfl,rfl,rAR 6⟩
   .obtain rfl:i=n.lemmas.length:=by omega
    rw[rBW]at *
    have hlems:vHT S n.lemmas:=i2;refine sus ?_;refine zA0 ?_
    (repeat' (first|refine stu ?_|with_reducible(refine brr ?_ ?_<;>intro h)));all_goals try(conv=>whnf)
    all_goals try (exfalso; omega)
    refine zA0 ?_;have lt:(vBW S n.lemmas).lems.length=S.lems.length+n.lemmas.length:=by unfold vBW; rw[rAV]
    refine uMN ⟨sv [(1,.ptr 0 0 0),(6,.int .i64 S.lems.length)],hv (vEL 4 5 (vBW S n.lemmas)),zv [],6⟩ (vBE S n=none) (fun hb=>?_) fun H9=>?_
    .refine sus ?_
     refine uL2 5 S.lems.length rfl (fun i e=>by have:=rA3 Blk.agg e; cases this) ?_;refine vBV [] [] (vEL 4 5 S) [] 6 zdd zsm trivial ?_ ?_
     .refine⟨[4,5],[],[],[],ttt,rGU,?_,rAA⟩
      refine⟨zAH zdd rfl (vGY (S:=vBW S n.lemmas) rfl zdd zdd rfl rfl rfl rfl) rfl rfl,zAH zdd rfl zD0 rfl rfl,zAF zdd rfl rfl (zAQ fun _=>⟨rfl,by simp[vA9]⟩) rfl,?_,rGU⟩;exact zAF zdd rfl (by show List.take _ (List.map vBA (S.lems++n.lemmas))=_; rw[rBE,rF4 zsm]) (zAQ fun _=>⟨rfl,by simp[vBA]⟩) rfl
     refine sus ?_
     (refine zA0 ?_; refine sus ?_)
     exact⟨S,rfl,rAW ⟨rfl,hb,rfl⟩,rfl,rfl,rC3 6⟩
    ·(repeat' (first|refine stu ?_|with_reducible(refine brr ?_ ?_<;>intro h)));all_goals try(conv=>whnf)
     all_goals refine zA0 ?_; (repeat' (first|refine stu ?_|with_reducible(refine brr ?_ ?_<;>intro h)));all_goals try(conv=>whnf)
     .have hk:n.kids.length=0:=by omega
      have he:n.empty=true:=by assumption
      have cr:=uOA (vBW S n.lemmas) n.proof P V hSi hzi.szS hn.prf.1 (by have:=hn.prf.2; omega);refine zLV cr (zAD (vM9 rfl rfl) (zAD rfl rfl)) ?_;refine sus ?_;refine zA0 ?_; (repeat' (first|refine stu ?_|with_reducible(refine brr ?_ ?_<;>intro h)));all_goals try(conv=>whnf)
      .have hr:=dB_true.1 (by assumption:dB _=true)
       refine vBV [] [(1,.ptr 0 0 0),(6,.int .i64 S.lems.length)] (vEL 4 5 (vBW S n.lemmas)) [] 6 zdd zsm trivial ⟨[4,5],[],[],[],ttt,⟨apx,rAI,rGU⟩,⟨zAH zdd rfl (zEY zdd zdd rfl rfl) rfl rfl,zAH zdd rfl zD0 rfl rfl,zAF zdd rfl rfl (zAQ fun _=>⟨rfl,by simp[vA9]⟩) rfl,zAF zdd rfl rfl (zAQ fun _=>⟨rfl,by simp[vBA]⟩) rfl,rGU⟩,rAA⟩ ?_;exact H9 (zEE ⟨hlems,by rw[rAU hk,rAU he]; exact hr⟩ hk)
      .have hr:=dB_false.1 (by assumption:dB _=false)
       refine vBV [] [(5,.bool false)] (vEL 4 5 (vBW S n.lemmas)) [] 6 zdd zsm trivial ⟨[4,5],[],[],[],ttt,⟨rAK,rGU⟩,⟨zAH zdd rfl (zEY zdd zdd rfl rfl) rfl rfl,zAH zdd rfl zD0 rfl rfl,zAF zdd rfl rfl (zAQ fun _=>⟨rfl,by simp[vA9]⟩) rfl,zAF zdd rfl rfl (zAQ fun _=>⟨rfl,by simp[vBA]⟩) rfl,rGU⟩,rAA⟩ ?_;refine sus ?_;exact⟨vBW S n.lemmas,rfl,rA0 ⟨rfl,zDB fun e=>hr (by have:=e.2; rw[rAU hk,rAU he]at this; exact this)⟩,rfl,rfl,rAR 6⟩
     .refine zA0 ?_; (repeat' (first|refine stu ?_|with_reducible(refine brr ?_ ?_<;>intro h)));all_goals try(conv=>whnf)
      all_goals try (exfalso; omega)
      have hk:n.kids.length=0:=by omega
      have he:¬ n.empty=true:=by rw[show n.empty=false by assumption]; decide
      have hvg:vB8 S.q.goal (S.q.g.ins+S.q.g.units.length):=hS.1.2.2;have cp:=uGS (vBW S n.lemmas) S.q.goal.Q n.proof P V 40000000 hSi hzi.szS (zHH hz.goal zdd) (zMB hvg) hn.prf.1 (by have:=hn.prf.2; omega);rw[zN8 hvg]at cp;refine zLV cp (zAD (vM9 rfl rfl) (zAD rfl (zAD rfl rfl))) ?_;refine sus ?_;refine zA0 ?_; (repeat' (first|refine stu ?_|with_reducible(refine brr ?_ ?_<;>intro h)));all_goals try(conv=>whnf)
      .have hr:=dB_true.1 (by assumption:dB _=true)
       refine vBV [] [(1,.ptr 0 0 0),(6,.int .i64 S.lems.length)] (vEL 4 5 (vBW S n.lemmas)) [] 6 zdd zsm trivial ⟨[4,5],[],[],[],ttt,⟨apx,rAI,rGU⟩,⟨zAH zdd rfl (zEY zdd zdd rfl rfl) rfl rfl,zAH zdd rfl zD0 rfl rfl,zAF zdd rfl rfl (zAQ fun _=>⟨rfl,by simp[vA9]⟩) rfl,zAF zdd rfl rfl (zAQ fun _=>⟨rfl,by simp[vBA]⟩) rfl,rGU⟩,rAA⟩ ?_;exact H9 (zEE ⟨hlems,by rw[rAU hk,rAM he]; exact hr⟩ hk)
      .have hr:=dB_false.1 (by assumption:dB _=false)
       refine vBV [] [(5,.bool false)] (vEL 4 5 (vBW S n.lemmas)) [] 6 zdd zsm trivial ⟨[4,5],[],[],[],ttt,⟨rAK,rGU⟩,⟨zAH zdd rfl (zEY zdd zdd rfl rfl) rfl rfl,zAH zdd rfl zD0 rfl rfl,zAF zdd rfl rfl (zAQ fun _=>⟨rfl,by simp[vA9]⟩) rfl,zAF zdd rfl rfl (zAQ fun _=>⟨rfl,by simp[vBA]⟩) rfl,rGU⟩,rAA⟩ ?_;refine sus ?_;exact⟨vBW S n.lemmas,rfl,rA0 ⟨rfl,zDB fun e=>hr (by have:=e.2; rw[rAU hk,rAM he]at this; exact this)⟩,rfl,rfl,rAR 6⟩
     .refine zA0 ?_; (repeat' (first|refine stu ?_|with_reducible(refine brr ?_ ?_<;>intro h)));all_goals try(conv=>whnf)
      all_goals try (exfalso; omega)
      have hk:n.kids.length≠0:=by omega
      have hfo:=hf;rw[zA1 hk]at hfo;simp only[rAO,rAY]at hfo;have hd0:d≠0:=hfo.1.2;have h5:=hfo.1.1;unfold vBX at h5;obtain⟨e1,e2,e3,e4,e5⟩:=rCD h5;have hfk:=zCV e1 (d:=d);rw[hf]at hfk;have hfk:=hfk.symm;simp only[rAO]at hfk;have cfit:=uK4 S.q n.split (by have:=hz.nv; have:=hS.1.1.1.1; unfold vDD at *; omega) (zCZ (by have:=hz.B; omega) hn.spl);have copp:=uOB n.split ⟨e2,e3⟩;refine zAA cfit rfl ?_;refine sus ?_;refine zA0 ?_; (repeat' (first|refine stu ?_|with_reducible(refine brr ?_ ?_<;>intro h)));all_goals try(conv=>whnf)
      rotate_left
      .have hr:=dB_false.1 (by assumption:dB _=false)
       refine vBV [] [(5,.bool false)] (vEL 4 5 (vBW S n.lemmas)) [] 6 zdd zsm trivial ⟨[4,5],[],[],[],ttt,⟨rAK,rGU⟩,⟨zAH zdd rfl (zEY zdd zdd rfl rfl) rfl rfl,zAH zdd rfl zD0 rfl rfl,zAF zdd rfl rfl (zAQ fun _=>⟨rfl,by simp[vA9]⟩) rfl,zAF zdd rfl rfl (zAQ fun _=>⟨rfl,by simp[vBA]⟩) rfl,rGU⟩,rAA⟩ ?_;refine sus ?_;exact⟨vBW S n.lemmas,rfl,rA0 ⟨rfl,zDB fun e=>hr (by have:=e.2; rw[rAM hk]at this; exact this)⟩,rfl,rfl,rAR 6⟩
      have hfit:=dB_true.1 (by assumption:dB _=true);have hright:vCJ S n:=⟨hlems,by rw[rAM hk]; exact hfit⟩
      (refine zA0 ?_; refine sus ?_)
      refine zAA copp rfl ?_;refine sus ?_;refine vBV [] [(1,.ptr 0 0 0),(2,.cptr (vBJ S.q) 0),(3,.ptr 1 0 0),(4,.cptr (vA7 n) 0),(6,.int .i64 S.lems.length),(42,.imm ([n.split,opp n.split].map vA9)),(43,.int .i64 2),(44,.int .i64 0)] (vEL 4 5 (vBW S n.lemmas)) [] 6 zdd zsm trivial ?_ ?_
      .refine⟨[4,5],[31],[(42,.imm ([n.split,opp n.split].map vA9))],[],⟨⟨⟨_,rfl⟩,rGU⟩,⟨⟨6,[31],rfl,rfl⟩,rGU⟩,rGU⟩,⟨apx,zAG rfl,apx,zAG rfl,zAC rfl rfl,zAE rfl rfl,zAC rfl rfl,zAC rfl rfl,rGU⟩,?_,rAA⟩
       exact⟨zAH zdd rfl (zEY zdd zdd rfl rfl) rfl rfl,zAH zdd rfl zD0 rfl rfl,zAF zdd rfl rfl (zAQ fun _=>⟨rfl,by simp[vA9]⟩) rfl,zAF zdd rfl rfl (zAQ fun _=>⟨rfl,by simp[vBA]⟩) rfl,rGU⟩
      refine sus ?_
      refine zAN hT (fun(i:Nat)=>[(1,.ptr 0 0 0),(2,.cptr (vBJ S.q) 0),(3,.ptr 1 0 0),(4,.cptr (vA7 n) 0),(6,.int .i64 S.lems.length),(42,.imm ([n.split,opp n.split].map vA9)),(43,.int .i64 2),(44,.int .i64 i)]) (fun _=>vEL 4 5 (vBW S n.lemmas)) [] 6
       (fun i=>i<=2/\∀ j,j<i->vBE (vCU S n [n.split,opp n.split][j]!) n.kids[j]! = none) (fun i=>2 - i) 0 ⟨zom,fun j h=>by omega⟩ zdd zsm ?_ ?_
      .refine⟨[4,5],[],[],[],ttt,⟨apx,zAG rfl,apx,zAG rfl,rAI,rAJ,rAI,rAI,rGU⟩,?_,rAA⟩
       exact⟨zAH zdd rfl (zEY zdd zdd rfl rfl) rfl rfl,zAH zdd rfl zD0 rfl rfl,zAF zdd rfl rfl (zAQ fun _=>⟨rfl,by simp[vA9]⟩) rfl,zAF zdd rfl rfl (zAQ fun _=>⟨rfl,by simp[vBA]⟩) rfl,rGU⟩
      rintro i ⟨i3,i4⟩
      by_cases hi2:i<2
      .refine sus ?_
       refine zA0 ?_; (repeat' (first|refine stu ?_|with_reducible(refine brr ?_ ?_<;>intro h)));all_goals try(conv=>whnf)
       all_goals try (exfalso; omega)
       (refine zA0 ?_; refine sus ?_)
       obtain⟨D,hD⟩:∃ D,[n.split,opp n.split][i]! = D:=⟨_,rfl⟩
       have hDk:(i=0/\D=n.split)\/(i=1/\D=opp n.split):=by
        rcases rCP i 1 with h | h
        .obtain rfl:i=0:=by omega
         exact rAW ⟨rfl,hD.symm⟩
        .obtain rfl:i=1:=by omega
         exact rA0 ⟨rfl,hD.symm⟩
       have lp:(vBW S n.lemmas).path.length=S.path.length:=rfl
       try rw[hD]
       (refine zA0 ?_; refine sus ?_)
       have hdr:D.rat=n.split.rat:=by
        rcases hDk with⟨_,e⟩ | ⟨_,e⟩<;>rw[e]
        rfl
       have hDf:vFH S.q D:=by
        rcases hDk with⟨_,e⟩ | ⟨_,e⟩<;>rw[e]
        .exact hfit
        .exact vP1 hfit
       have hcan2:∀ k,k<n.lemmas.length->vE0 n.lemmas[k]!.value:=hcan;have hz2:szT (vCU S n D) P V v (c - n.lemmas.length) (d - 1):=hz.kid hd0 hn hcan2 (by rw[hdr]; exact hn.spl);have hS2:vB6 (vCU S n D):=Go.PI.ok_kid hS hDf;have hkm:n.kids[i]! ∈ n.kids:=get_mem zom;have hks:=NodeL.sizeOf_kid hkm
       have hkf:vBH (d - 1) n.kids[i]! = true:=by
        rcases hDk with⟨e,_⟩ | ⟨e,_⟩<;>rw[e]
        .exact hfk.2.1
        .exact hfk.2.2
       have hvis:=fun t=>ih n.kids[i]! (vCU S n D) P V _ _ (d - 1) t zom (hsm.kid hkm) hkf hS2 hz2 (hn.kid _ hkm)
       refine vBV [] [(1,.ptr 0 0 0),(2,.cptr (vBJ S.q) 0),(3,.ptr 1 0 0),(4,.cptr (vA7 n) 0),(6,.int .i64 S.lems.length),(9,.int .i64 i),(42,.imm ([n.split,opp n.split].map vA9)),(43,.int .i64 2),(44,.int .i64 i)] (vEL 4 5 (vCU S n D)) [] 6 zdd zsm trivial ?_ ?_
       .refine⟨[17,5],[],[],[],ttt,⟨apx,zAG rfl,apx,zAG rfl,rAI,rAI,rAJ,rAI,rAI,rGU⟩,?_,rAA⟩
        refine⟨zAH zdd rfl (vGY (S:=S) rfl zdd zdd rfl rfl (by simp[vCU,vBW]) rfl) rfl rfl,zAH zdd rfl zD0 rfl rfl,?_,zAF zdd rfl rfl (zAQ fun _=>⟨rfl,by simp[vBA]⟩) rfl,rGU⟩;exact zAF zdd rfl (by show _=List.map vA9 (S.path++[D]); rw[rBE]; rfl) (zAQ fun _=>⟨rfl,by simp[vA9]⟩) rfl
       refine sus ?_;rw[zBR];refine sus ?_;refine zGS (vNX hvis rfl rfl zdd fun bv S' hq' hbv=>?_);refine sus ?_;refine zA0 ?_; (repeat' (first|refine stu ?_|with_reducible(refine brr ?_ ?_<;>intro h)));all_goals try(conv=>whnf)
       .obtain⟨hb0,rfl⟩:vBE (vCU S n D) n.kids[i]! = none/\S'=vCU S n D:=by
         rcases hbv with⟨_,e⟩ | ⟨e,_⟩
         .exact e
         .exact absurd e (by rw[show bv=true by assumption]; decide)
        have lk:(vCU S n D).path.length=S.path.length+1:=by simp[vCU]
        (refine zA0 ?_; refine sus ?_)
        refine uL2 12 S.path.length rfl (fun i e=>by have:=rA3 Blk.agg e; cases this) ?_;refine vBV [] [(1,.ptr 0 0 0),(2,.cptr (vBJ S.q) 0),(3,.ptr 1 0 0),(4,.cptr (vA7 n) 0),(6,.int .i64 S.lems.length),(42,.imm ([n.split,opp n.split].map vA9)),(43,.int .i64 2),(44,.int .i64 i)] (vEL 4 5 (vBW S n.lemmas)) [] 6 zdd zsm trivial ?_ ?_
        .refine⟨[12,13],[],[],[],ttt,⟨apx,zAG rfl,apx,zAG rfl,rAI,rAJ,rAI,rAI,rGU⟩,?_,rAA⟩
         refine⟨zAH zdd rfl (vGY (S:=vCU S n D) rfl zdd zdd rfl rfl (by rw[lk]; show Int.toNat _ - 0=S.path.length; omega) rfl) rfl rfl,zAH zdd rfl zD0 rfl rfl,?_,zAF zdd rfl rfl (zAQ fun _=>⟨rfl,by simp[vBA]⟩) rfl,rGU⟩;exact zAF zdd rfl (by show List.take _ (List.map vA9 (S.path++[D]))=_; rw[rBE,rF4 zsm]; rfl) (zAQ fun _=>⟨rfl,by simp[vA9]⟩) rfl
        refine sus ?_;refine⟨i+1,⟨⟨zom,fun j hj=>zA6 (p:=fun j=>vBE (vCU S n [n.split,opp n.split][j]!) n.kids[j]! = none) i4 (by rw[hD]; exact hb0) hj⟩,by show 2 - (i+1)<2 - i; omega⟩,?_⟩;refine⟨[4,5],[],[],[],ttt,⟨apx,zAG rfl,apx,zAG rfl,rAI,rAJ,rAI,rAI,rGU⟩,?_,rAA⟩;exact⟨zAH zdd rfl (zEY zdd zdd rfl rfl) rfl rfl,zAH zdd rfl zD0 rfl rfl,zAF zdd rfl rfl (zAQ fun _=>⟨rfl,by simp[vA9]⟩) rfl,zAF zdd rfl rfl (zAQ fun _=>⟨rfl,by simp[vBA]⟩) rfl,rGU⟩
       .have hb0:vBE (vCU S n D) n.kids[i]! = some S'.path:=by
         rcases hbv with⟨e,_⟩ | ⟨_,e⟩
         .exact absurd e (by rw[show bv=false by assumption]; decide)
         .exact e
        refine vBV [] [(5,.bool false)] (vEL 4 5 S') [] 6 zdd zsm trivial ⟨[12,13],[],[],[],ttt,⟨rAK,rGU⟩,⟨zAH zdd rfl (zEY zdd zdd rfl rfl) rfl rfl,zAH zdd rfl zD0 rfl rfl,zAF zdd rfl rfl (zAQ fun _=>⟨rfl,by simp[vA9]⟩) rfl,zAF zdd rfl rfl (zAQ fun _=>⟨rfl,by simp[vBA]⟩) rfl,rGU⟩,rAA⟩ ?_;refine sus ?_;refine⟨S',hq',rA0 ⟨rfl,?_⟩,rfl,rfl,rAR 6⟩;rw[zCC hright (zG8 e1)];rcases hDk with⟨e,e2⟩ | ⟨e,e2⟩
        .rw[e,e2]at hb0
         rw[hb0]
        .have h0:=i4 0 zom
         rw[e,e2]at hb0;rw[show vBE (vCU S n n.split) n.kids[0]! = none from h0];exact hb0
      .obtain rfl:i=2:=by omega
       have hnone:vBE S n=none:=by
        rw[zCC hright (zG8 e1),show vBE (vCU S n n.split) n.kids[0]! = none from i4 0 zom];exact i4 1 zom
       refine sus ?_
       (refine zA0 ?_; refine sus ?_)
       refine vBV [] [(1,.ptr 0 0 0),(6,.int .i64 S.lems.length)] (vEL 4 5 (vBW S n.lemmas)) [] 6 zdd zsm trivial ⟨[4,5],[],[],[],ttt,⟨apx,rAI,rGU⟩,⟨zAH zdd rfl (zEY zdd zdd rfl rfl) rfl rfl,zAH zdd rfl zD0 rfl rfl,zAF zdd rfl rfl (zAQ fun _=>⟨rfl,by simp[vA9]⟩) rfl,zAF zdd rfl rfl (zAQ fun _=>⟨rfl,by simp[vBA]⟩) rfl,rGU⟩,rAA⟩ ?_;exact H9 hnone
open Go.Proofs Go.PI
open Classical in
noncomputable def vD0(g:GraL):Int:=if VaG g then g.ins+g.units.length else 0
theorem uC8:FO 60 Tryz.f60 [.tmp 2] 12:=mkO Tryz.func60 Tryz.ntmps60 Tryz.results60
theorem uK5(g:GraL)(hg:vHI 950000000 g):Fn 60 [vEF g] (.data (.int .i64 (vD0 g))):=by
 have cv:=uE5 g hg;have l1:=hg.1.1;refine zAL vBC hT uC8 (by simp[vEF]) ?_;refine sts ?_;refine zAA cv rfl ?_
 refine gob ?_ ?_<;>intro h
 .have hv:VaG g:=dB_true.1 rAC
  have h1:=hv.1;refine sts ?_;exact zAB rfl (by unfold vD0; rw[rAU hv]; simp)
 .have hv:¬ VaG g:=dB_false.1 rAC
  exact zAB rfl (by unfold vD0; rw[rAM hv])
structure szQ(q:QryL)(P:Nat):Prop where
 P1:1<=P
 g:vHI P q.g
 r:vSO P q.r
 goal:okA 40000000 q.goal
theorem VaQ_split{q:QryL}:VaQ q↔vD0 q.g≠0/\VaR q.r q.g.ins/\vC4 q.goal (vD0 q.g)=true:=by
 unfold VaQ vD0;by_cases h:VaG q.g
 .rw[rAU h,validB_true]
  have:=h.1;exact⟨fun e=>⟨zom,e.2⟩,fun e=>⟨h,e.2⟩⟩
 .rw[rAM h]
  exact⟨fun e=>absurd e.1 h,fun e=>absurd rfl e.1⟩
open Classical in
noncomputable def vCF(q:QryL)(n:NodeL):List DecL×Int:=if n.valid=true/\VaQ q then(match vBE ⟨q,[],[]⟩ n with
 | none=>([],0)
 | some p=>(p,12)) else([],1)
theorem uHP{ρ:Nat->Nat}{k a b:Nat}{q:QryL}(h0:a=ρ 0)(h1:b=ρ 1)(hk:2<=k:=by decide):rn ρ k 3 (uLZ q) (.func (.func 64) [] [.ptr a 0 0,.cptr (vBJ q) 0,.ptr b 0 0]):=by
 subst h0 h1;exact⟨rfl,rGU,⟨zom,rfl⟩,rfl,⟨zom,rfl⟩,rGU⟩
theorem vZ6:∀ (k:Nat) (n:NodeL) (S:ScpL) (d:Nat) (p:List DecL),SizeOf.sizeOf n<k->vBH d n=true->vBE S n=some p->p.length<=S.path.length+d:=by
 intro k
 induction k with
 | zero=>intro n S d p h; omega
 | succ k ih =>
   intro n S d p hk hf hb;by_cases hr:vCJ S n
   .by_cases h0:n.kids.length=0
    .rw[zEE hr h0]at hb; cases hb
    .have hfo:=hf
     rw[zA1 h0]at hfo;simp only[rAO,rAY]at hfo;have hd0:d≠0:=hfo.1.2;have h5:=hfo.1.1;unfold vBX at h5;obtain⟨e1,_⟩:=rCD h5;have hfk:=zCV e1 (d:=d);rw[hf]at hfk;have hfk:=hfk.symm;simp only[rAO]at hfk;have s0:=NodeL.sizeOf_kid (get_mem (l:=n.kids) (show 0<n.kids.length by omega));have s1:=NodeL.sizeOf_kid (get_mem (l:=n.kids) (show 1<n.kids.length by omega));rw[zCC hr (zG8 e1)]at hb;have lk:∀ e,(vCU S n e).path.length=S.path.length+1:=fun e=>by simp[vCU]
     split at hb
     .rename_i p' hp
      cases hb
      have:=ih _ _ (d - 1) _ zom hfk.2.1 hp;rw[lk]at this; omega
     .have:=ih _ _ (d - 1) _ zom hfk.2.2 hb
      rw[lk]at this; omega
   .rw[zDB hr]at hb; cases hb; omega
theorem uC1:FO 38 Tryz.f38 [.tmp 4,.tmp 5] 52:=mkO Tryz.func38 Tryz.ntmps38 Tryz.results38
theorem vZY(q:QryL)(n:NodeL)(P V v:Nat)(hvV:v<=V)(hq:szQ q P)(hs:n.Sm)(hc:n.cnt<=4194304)(hz:NodeZ P V v 1048576 n)(hB:P+2 * V+20<=100000000):Fn 38 [vBJ q,vA7 n] (.data (.tup [.imm ((vCF q n).1.map vA9),.int .i64 (vCF q n).2])):=by
 obtain⟨k,k1,k2,cshp⟩:=uN9 _ n 2048 65536 (rAL _) hs hc zdd zdd;have cva:=uK5 q.g ⟨⟨hq.g.1.1,fun f hf=>zCN zom (hq.g.1.2 f hf)⟩,⟨hq.g.2.1,fun f hf=>zCN zom (hq.g.2.2 f hf)⟩⟩;have crg:=vZL q.r q.g.ins ⟨zF3 zom hq.r.1,zF3 zom hq.r.2.1,fun f hf=>zCN zom (hq.r.2.2.1 f hf),hq.r.2.2.2⟩;have clv:=zM9 q.goal (vD0 q.g) (zCN zom hq.goal);have ev:(vBH 2048 n && decide (n.cnt<=65536))=n.valid:=rfl;rw[ev]at cshp k2
 have bad:¬ (n.valid=true/\vD0 q.g≠0/\VaR q.r q.g.ins/\vC4 q.goal (vD0 q.g)=true)->PV.tup [.imm [],.int .i64 1]=.tup [.imm ((vCF q n).1.map vA9),.int .i64 (vCF q n).2]:=fun h=>by
  unfold vCF;rw[rAM (fun e=>h ⟨e.1,VaQ_split.1 e.2⟩)]; rfl
 refine zAL vBC hT uC1 (by simp[vBJ]) ?_;refine sus ?_;refine vBV [] [(2,.cptr (vBJ q) 0),(3,.cptr (vA7 n) 0)] [] [] 0 zdd zsm trivial ?_ ?_
 .exact⟨[],[0,1],[(2,.cptr (vBJ q) 0),(3,.cptr (vA7 n) 0)],[],⟨⟨⟨_,rfl⟩,⟨_,rfl⟩,rGU⟩,⟨⟨6,[0],zH0 rfl rfl,rfl⟩,⟨6,[1],zH0 rfl rfl,rfl⟩,rGU⟩,rGU⟩,⟨zAG rfl,zAG rfl,rGU⟩,rGU,rAA⟩
 refine sus ?_;refine zAA cva rfl ?_;refine sus ?_
 (refine zA0 ?_; refine sus ?_)
 refine zAA cshp rfl ?_;refine sus ?_;refine zA0 ?_; (repeat' (first|refine stu ?_|with_reducible(refine brr ?_ ?_<;>intro h)));all_goals try(conv=>whnf)
 rotate_left 2
 .have hv:n.valid=false:=by assumption
  refine sts ?_;exact zAB rfl (bad fun e=>by rw[hv]at e; exact absurd e.1 zdd)
 .have hv:vD0 q.g=0:=by assumption
  refine sts ?_;exact zAB rfl (bad fun e=>e.2.1 hv)
 have hnv:¬ vD0 q.g=0:=by assumption
 have hval:n.valid=true:=by assumption
 refine zAA crg rfl ?_
 (repeat' (first|refine stu ?_|with_reducible(refine brr ?_ ?_<;>intro h)));all_goals try(conv=>whnf)
 rotate_left
 .have hv:=dB_false.1 (by assumption:dB _=false)
  refine sts ?_;exact zAB rfl (bad fun e=>hv e.2.2.1)
 have hrg:=dB_true.1 (by assumption:dB _=true);refine zAA clv rfl ?_;refine sus ?_;refine zA0 ?_; (repeat' (first|refine stu ?_|with_reducible(refine brr ?_ ?_<;>intro h)));all_goals try(conv=>whnf)
 rotate_left
 .have hv:vC4 q.goal (vD0 q.g)=false:=by assumption
  refine sts ?_;exact zAB rfl (bad fun e=>by rw[hv]at e; exact absurd e.2.2.2 zdd)
 have hlv:vC4 q.goal (vD0 q.g)=true:=by assumption
 (refine zA0 ?_; refine sus ?_)
 (refine zA0 ?_; refine sus ?_)
 (refine zA0 ?_; refine sus ?_)
 refine vBV [(.cl 35 0 10,5,true),(.cl 35 0 11,6,true)] [(3,.cptr (vA7 n) 0),(9,.ptr 0 0 0),(10,.ptr 1 0 0)] (vEL 4 5 ⟨q,[],[]⟩) [] 6 zdd zsm ⟨_,_,rfl,rfl,rfl,_,_,rfl,rfl,rfl,rGU⟩ ?_ ?_
 .refine⟨[35,37,0,0,40,41],[],[],[],ttt,⟨zAG rfl,apx,apx,rGU⟩,?_,rAA⟩
  exact⟨zAH zdd rfl (zEY zdd zdd rfl rfl) rfl rfl,zAH zdd rfl (uHP rfl rfl) rfl rfl,zAF zdd rfl rfl (zAQ fun _=>⟨rfl,by simp[vA9]⟩) rfl,zAF zdd rfl rfl (zAQ fun _=>⟨rfl,by simp[vBA]⟩) rfl,rGU⟩
 have hVa:VaQ q:=VaQ_split.2 ⟨hnv,hrg,hlv⟩;have hS:vB6 ⟨q,[],[]⟩:=⟨hVa,fun d hd=>by cases hd⟩
 have hsz:szT ⟨q,[],[]⟩ P V v 1048576 2048:=by
  refine⟨hq.P1,hq.g.1.2,hq.r.1,hq.r.2.1,⟨hq.r.2.2.2,hq.r.2.2.1⟩,hq.goal,(by show 0+2048<=1048576; omega),(fun d hd=>by cases hd),(fun d hd=>by cases hd),(fun d hd=>by cases hd),⟨hvV,fun m hm=>by cases hm⟩,(by show 0+1048576<=1048576; omega),hB,?_⟩;have h1:=hVa.1.1;have h2:=hVa.1.2.1;show q.g.ins+q.g.units.length<=1280
  omega
 have hfo:vBH 2048 n=true:=by unfold NodeL.valid at hval; simp only[rAO]at hval; exact hval.1
 have hvis:=fun t=>uP4 _ n ⟨q,[],[]⟩ P V v 1048576 2048 t (rAL _) hs hfo hS hsz hz
 have hres:vCF q n=(match vBE ⟨q,[],[]⟩ n with
  | none=>([],0)
  | some p=>(p,12)):=rAU ⟨hval,hVa⟩
 refine sus ?_;refine zGS (vNX hvis rfl rfl zdd fun bv S' hq' hbv=>?_)
 have hpl:S'.path.length<=2048:=by
  rcases hbv with⟨_,_,e⟩ | ⟨_,e⟩
  .rw[e]; exact rA7 _
  .have:=vZ6 _ n ⟨q,[],[]⟩ 2048 _ (rAL _) hfo e
   simpa using this
 refine sus ?_
 refine gob ?_ ?_<;>intro h
 .have hb0:vBE ⟨q,[],[]⟩ n=none:=by
   rcases hbv with⟨_,e,_⟩ | ⟨e,_⟩
   .exact e
   .exact absurd e (by rw[show bv=true by assumption]; decide)
  rw[hres,hb0];exact rGV
 .have hb0:vBE ⟨q,[],[]⟩ n=some S'.path:=by
   rcases hbv with⟨e,_⟩ | ⟨_,e⟩
   .exact absurd e (by rw[show bv=false by assumption]; decide)
   .exact e
  rw[hres,hb0];exact zAB (zKF (zAD (zAI (f:=vA9) (l:=S'.path) rfl (by show []++List.take S'.path.length (List.map vA9 S'.path)=_; rw[List.nil_append,rBR zsm]) (by show 0+(List.take S'.path.length (List.map vA9 S'.path)).length=_; simp) fun x=>rfl) rfl)) rfl
end Go.PI.Tryz
