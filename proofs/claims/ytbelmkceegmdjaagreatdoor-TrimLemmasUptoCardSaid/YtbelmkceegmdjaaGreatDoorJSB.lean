/-
  Trees that were read: their walk stays in bounds.
-/
import Derived.Test.YtbelmkceegmdjaaGreatDoorJSA
set_option linter.unusedVariables false
set_option linter.unusedSimpArgs false
set_option maxHeartbeats 0
namespace Go.PI.Tryz
open Go.Proofs Go.PI
theorem vR8:FO 192 Tryz.f192 [.tmp 4] 43:=mkO Tryz.func192 Tryz.ntmps192 Tryz.results192
theorem vZG(a b:RowL):Fn 192 [vBI a,vBI b] (.data (.bool (dB (vEU a b)))):=by
 refine zAK vBC hT vR8 (by simp[vBI]) ?_
 (repeat' (first|refine stp ?_|with_reducible(refine brr ?_ ?_<;>intro h)));all_goals try(conv=>whnf)
 all_goals (refine zAB rfl (rA3 PV.bool ?_); rw[rA0,dB_true,rAX]; unfold vEU; omega)
def vSZ(l:List MultL)(k:Nat):Prop:=vE2 l[k]!.coef/\0<qv l[k]!.coef/\(0<k->vEU l[k - 1]!.row l[k]!.row)
def uK9(l:List MultL):Prop:=∀ k,k<l.length->vSZ l k
theorem vWN:FO 176 Tryz.f176 [.tmp 2] 45:=mkO Tryz.func176 Tryz.ntmps176 Tryz.results176
theorem uEE(l:List MultL)(hl:szM l):Fn 176 [.imm (l.map vBA)] (.data (.bool (dB (uK9 l)))):=by
 have l1:=hl.1;refine zAK vBC hT vWN zsm ?_;refine sts ?_
 refine zAM hT (fun(i:Nat)=>[(0,.imm (l.map vBA)),(3,.int .i64 i)]) (fun _=>[]) [] 0
  (fun i=>i<=l.length/\∀ k,k<i->vSZ l k) (fun i=>l.length - i) 0 ⟨rA8 _,fun k h=>by omega⟩ zdd zsm ?_ ?_
 .exact⟨[],[],[],[],ttt,⟨rAJ,rAI,rGU⟩,rGU,rAA⟩
 intro i ⟨i1,i2⟩;by_cases hi:i<l.length
 .have hm:=hl.2 _ (get_mem hi)
  have hm2:=hm.2;have hno:¬ vSZ l i->false=dB (uK9 l):=fun h=>zGQ fun e=>h (e i hi)
  have cva:=zGS l[i]!.coef hm.1 zom zom;have csg:=zE0 l[i]!.coef hm.1 zom;have cle:=vZG l[i - 1]!.row l[i]!.row;have nxt:vSZ l i->∀ k,k<i+1->vSZ l k:=fun h k hk=>zA7 (p:=vSZ l) i2 h hk
  refine gob ?_ ?_<;>intro h
  all_goals try (exfalso; omega)
  refine zAA cva rfl ?_
  refine gob ?_ ?_<;>intro h
  rotate_left
  .exact zAB rfl (rA3 PV.bool (hno fun e=>by have:=e.1; contradiction))
  have hcan:vE2 l[i]!.coef:=by assumption
  refine zAA csg rfl ?_
  (repeat' (first|refine stp ?_|with_reducible(refine brr ?_ ?_<;>intro h)));all_goals try(conv=>whnf)
  .exact zAB rfl (rA3 PV.bool (hno fun e=>by have:=sgnQ_pos.2 e.2.1; omega))
  .have hpos:0<qv l[i]!.coef:=sgnQ_pos.1 zom
   refine zA6 (j:=i - 1) zom zom ?_;refine sts ?_;refine zAA cle rfl ?_
   refine gob ?_ ?_<;>intro h
   .have hless:vEU l[i - 1]!.row l[i]!.row:=dB_true.1 rAC
    exact⟨i+1,⟨⟨zom,nxt ⟨hcan,hpos,fun _=>hless⟩⟩,by show l.length - (i+1)<l.length - i; omega⟩,[],[],[],[],ttt,⟨rAJ,rAI,rGU⟩,rGU,rAA⟩
   .exact zAB rfl (rA3 PV.bool (hno fun e=>dB_false.1 rAC (e.2.2 zom)))
  .have hpos:0<qv l[i]!.coef:=sgnQ_pos.1 zom
   exact⟨i+1,⟨⟨zom,nxt ⟨hcan,hpos,fun _=>by omega⟩⟩,by show l.length - (i+1)<l.length - i; omega⟩,[],[],[],[],ttt,⟨rAJ,rAI,rGU⟩,rGU,rAA⟩
 ·refine gob ?_ ?_<;>intro h
  all_goals try (exfalso; omega)
  exact zAB rfl (rA3 PV.bool (dB_true.2 fun k hk=>i2 k zom).symm)
def avP(S:ScpL)(l:List MultL)(i:Nat):Prop:=∀ k,k<i->(vDJ S l[k]!.row).isSome=true
open Classical in
noncomputable def vE3(S:ScpL)(l:List MultL):QF×Int:=if uK9 l then(if avP S l l.length then(vGB S l l.length,0) else(zeroQ,12)) else(zeroQ,1)
theorem okM_iff{S:ScpL}{l:List MultL}:okM S l l.length↔uK9 l/\avP S l l.length :=
 ⟨fun h=>⟨fun k hk=>⟨(h k hk).1,(h k hk).2.1,(h k hk).2.2.1⟩,fun k hk=>(h k hk).2.2.2⟩,fun h k hk=>⟨(h.1 k hk).1,(h.1 k hk).2.1,(h.1 k hk).2.2,h.2 k hk⟩⟩
theorem vT5{S:ScpL}{P V:Nat}(hS:vB7 S)(hz:szS S P V){l:List MultL}(hl:szM l):∀ {i:Nat},i<=l.length->avP S l i->szF (1+i * (P+2 * V+18)+vEQ (l.take i)) (vGB S l i)
 | 0,_,_=>by
   show szF _ zeroQ
   exact zHF zom (zEF 1 zdd)
 | i+1,hi,hk=>by
   have ih:=vT5 hS hz hl (i:=i) zom fun k h=>hk k zom
   obtain⟨g,hg⟩:=rCC.1 (hk i zom);have hr:=vJC hS hz hg;have e:rw' S l[i]! = g:=by unfold rw'; rw[hg]; rfl
   have hc:sz (vEV l[i]!.coef+1) (qv l[i]!.coef):=zGG (zCZ (rC4 _) (zLK (hl.2 _ (get_mem zom)))) zom;obtain⟨R,hR⟩:∃ R,P+2 * V+18=R:=⟨_,rfl⟩;rw[hR]at ih ⊢;have hr2:szF (R - 4) g:=zHF zom hr;rw[zHG zom,e];refine zJ7 ih hr2 hc ?_;rw[zHI zom,rD9];generalize i * R=X;omega
theorem zGF{S:ScpL}(hS:vB7 S)(hn:vDA S<=16){f:QF}(h:okF (vDA S) f):f.ts.length<=16:=by
 have hi:=hS.1.1.1.1;obtain⟨n,hn2⟩:∃ n:Nat,vDA S=n:=⟨(vDA S).toNat,by unfold vDA at *; omega⟩;rw[hn2]at h;have:=vLV n h.1.1 h.2;omega
theorem uKS{f g:QF}{c:Rat}(hf:Srt f.ts)(hg:Srt g.ts):vB2 f (vDC g c) 1=vB2 f g c:=by
 have h0:=zBD (c:=c) zCY hg;refine zN0 (zBD hf h0) (zBD hf hg) (fun v=>?_) ?_
 .unfold vDC
  rw[zB7 hf h0,zB7 zCY hg,zB7 hf hg,zI7]; grind
 .simp only[vDC,zHW,zeroQ]; grind
theorem vWK:FO 149 Tryz.f149 [.cell 4 46,.tmp 5] 43:=mkO Tryz.func149 Tryz.ntmps149 Tryz.results149
theorem vQK(S:ScpL)(l:List MultL)(P V:Nat)(hS:vB7 S)(hz:szS S P V)(hq:szQ S.q P)(hB2:P+2 * V<=20000000)(hn:vDA S<=16)(hl:szM l)(hsz:1+l.length * (P+2 * V+18)+vEQ l+18 * (P+2 * V+40+vEQ l)<=940000000):Fn 149 [vBD S,.imm (l.map vBA)] (.data (.tup [vBP (vE3 S l).1,.int .i64 (vE3 S l).2])):=by
 have l1:=hl.1;have cca:=uEE l hl;refine zAK vBC hT vWK (by simp[vBD]) ?_;refine sts ?_;refine zAA cca rfl ?_
 refine gob ?_ ?_<;>intro h
 rotate_left
 .have hc:¬ uK9 l:=dB_false.1 rAC
  have e:vE3 S l=(zeroQ,1):=rAN hc;exact zAB rfl (by rw[e,<- zA8])
 have hc:uK9 l:=dB_true.1 rAC
 refine zAM hT (fun(i:Nat)=>[(1,.imm (l.map vBA)),(2,.ptr 0 0 0),(4,.ptr 1 0 0),(6,.ptr 2 0 0),(7,.int .i64 i)])
  (fun i=>[(0,⟨[vBD S],12,true⟩),(1,⟨[.agg [.nilsl,.bool false,.nilsl,.nilsl]],4,true⟩),(2,⟨[vBP (vGB S l i)],4,true⟩)]) [] 3
  (fun i=>i<=l.length/\avP S l i) (fun i=>l.length - i) 0 ⟨rA8 _,fun k h=>by omega⟩ zdd zsm ?_ ?_
 .exact⟨[0,1,6],[],[],[(6,[.agg [.imm [],.bool false,.imm [],.imm []]])],⟨rGU,rGU,⟨⟨_,4,_,rfl,rfl,rfl⟩,rGU⟩⟩,⟨zAE rfl rfl,apx,apx,apx,zAC rfl rfl,rGU⟩,⟨bbx,bbx,zEV zdd rfl encF_zero'.symm rfl rfl rfl,rGU⟩,rAA⟩
 rintro i ⟨i1,i2⟩
 by_cases hi:i<l.length
 .have hm:=hl.2 _ (get_mem hi)
  have hm2:=hm.2;have cf:=vZI S l[i]!.row P V hS hz hq hB2 hn
  refine gob ?_ ?_<;>intro h
  all_goals try (exfalso; omega)
  refine zAA cf rfl ?_
  refine gob ?_ ?_<;>intro h
  .obtain⟨g,hg⟩:=rCC.1 (show(vDJ S l[i]!.row).isSome=true by assumption)
   have e1:rw' S l[i]! = g:=by unfold rw'; rw[hg]; rfl
   have e2:(vDJ S l[i]!.row).getD zeroQ=g:=e1;rw[e2];have hcan:=(hc i hi).1;have hgo:okF (vDA S) g:=vOR hS hg;have hg2:=vJC hS hz hg;have hgl:=zGF hS hn hgo;have z0:=vT5 hS hz hl (i:=i) zom i2;have hfo:=zHH hS (l:=l) (i:=i) zom;have hfl:=zGF hS hn hfo;have hsi:=zHI (l:=l) hi;have hsj:=vLU l (i+1);have hmul:(i+1) * (P+2 * V+18)<=l.length * (P+2 * V+18):=rBI _ hi;rw[rD9]at hmul;have zc:sz (vEV l[i]!.coef+1) (qv l[i]!.coef):=zGG (zCZ (rC4 _) (zLK hm)) zom;have q1:=zFJ g (qv l[i]!.coef) _ _ hg2 zc hgo.1 zom zom;rw[<- hcan]at q1;have z2:szF (P+2 * V+17+vEV l[i]!.coef) (vDC g (qv l[i]!.coef)):=zGD hg2 zc zom;have hsl:=zIX (f:=g) (c:=qv l[i]!.coef);have hm17:((vDC g (qv l[i]!.coef)).ts.length+1) * (P+2 * V+17+vEV l[i]!.coef+1)<=17 * (P+2 * V+17+vEV l[i]!.coef+1):=rBI _ zom;have q2:=uKE (vGB S l i) (vDC g (qv l[i]!.coef)) _ _ z0 z2 hfo.1 (zBD zCY hgo.1) zom zom;have e3:vB2 (vGB S l i) (vDC g (qv l[i]!.coef)) 1=vGB S l (i+1):=by rw[zHG hi,e1]; exact uKS hfo.1 hgo.1
   rw[e3]at q2;refine zAA q1 rfl ?_;refine sts ?_;refine zAA q2 rfl ?_;refine sts ?_;exact⟨i+1,⟨⟨zom,fun k hk=>zA7 (p:=fun k=>(vDJ S l[k]!.row).isSome=true) i2 rAC hk⟩,by show l.length - (i+1)<l.length - i; omega⟩,[0,1,2],[],[],[],ttt,⟨rAJ,apx,apx,apx,rAI,rGU⟩,⟨bbx,bbx,bbx,rGU⟩,rAA⟩
  .have e:vE3 S l=(zeroQ,12):=by
    unfold vE3;rw[rAV hc,rAN (fun q=>by have:=q i hi; rw[show(vDJ S l[i]!.row).isSome=false by assumption]at this; cases this)]
   exact zAB rfl (by rw[e,<- zA8])
 .obtain rfl:i=l.length:=by omega
  have e:vE3 S l=(vGB S l l.length,0):=by unfold vE3; rw[rAV hc,rAV i2]
  refine gob ?_ ?_<;>intro h
  all_goals try (exfalso; omega)
  exact zAB rfl (by rw[e]; rfl)
theorem uBA{S:ScpL}(hS:vB7 S){l:List MultL}:(vEN S zeroQ l l.length).ts=[]↔(vGB S l l.length).ts=[]:=by
 have hs:=(zHH hS (l:=l) (i:=l.length) (rAR _)).1;rw[vGW hS (zFO _) l.length (rAR _)];have hm:Srt (vCD zeroQ (vGB S l l.length)).ts:=zBD zCY hs;constructor
 .intro h
  refine zNQ hs zGY fun v=>?_
  have:=zB7 (c:=-1) zCY hs v;rw[show vB2 zeroQ (vGB S l l.length) (-1)=vCD zeroQ (vGB S l l.length) from rfl,h,zI7]at this;simp only[cf]at this ⊢; grind
 .intro h
  refine zNQ hm zGY fun v=>?_
  unfold vCD;rw[zB7 zCY hs,zI7,h];simp only[cf]; grind
theorem uOZ{S:ScpL}(hS:vB7 S){f:QF}(hf:okF (vDA S) f){l:List MultL}:(vEN S f l l.length).c=f.c - (vGB S l l.length).c:=by
 rw[vGW hS hf l.length (rAR _)];simp only[vCD,zHW]; grind
theorem vT7{S:ScpL}(hS:vB7 S)(l:List MultL):okF (vDA S) (vE3 S l).1:=by
 unfold vE3
 split
 .split
  .exact zHH hS (rAR _)
  .exact zFO _
 .exact zFO _
theorem vT6{S:ScpL}{P V:Nat}(hS:vB7 S)(hz:szS S P V){l:List MultL}(hl:szM l):szF (1+l.length * (P+2 * V+18)+vEQ l) (vE3 S l).1:=by
 unfold vE3
 split
 .split
  .rename_i h
   have z:=vT5 hS hz hl (rAR _) h;rw[rBW]at z; exact z
  .exact zHF zom (zEF 1 zdd)
 .exact zHF zom (zEF 1 zdd)
theorem uEZ{S:ScpL}{l:List MultL}:(vE3 S l).2=0↔okM S l l.length:=by
 rw[okM_iff];unfold vE3
 split
 .rename_i h
  split
  .rename_i h2; exact⟨fun _=>⟨h,h2⟩,fun _=>rfl⟩
  .rename_i h2; exact⟨(fun e=>by simp at e),fun e=>absurd e.2 h2⟩
 .rename_i h; exact⟨(fun e=>by simp at e),fun e=>absurd e.1 h⟩
theorem uEY{S:ScpL}{l:List MultL}(h:okM S l l.length):(vE3 S l).1=vGB S l l.length:=by
 obtain⟨h1,h2⟩:=okM_iff.1 h;unfold vE3;rw[rAV h1,rAV h2]
theorem vWM:FO 121 Tryz.f121 [.tmp 6] 36:=mkO Tryz.func121 Tryz.ntmps121 Tryz.results121
theorem vQL(S:ScpL)(f:QF)(l:List MultL)(P V kf:Nat)(hS:vB7 S)(hz:szS S P V)(hq:szQ S.q P)(hB2:P+2 * V<=20000000)(hn:vDA S<=16)(hf:szF kf f)(hof:okF (vDA S) f)(hkf:1<=kf)(hl:szM l)(hsz:kf+l.length * (P+2 * V+18)+vEQ l+18 * (P+2 * V+40+vEQ l)<=940000000):Fn 121 [vBD S,vBP f,.imm (l.map vBA)] (.data (.bool (dB (vIN S f l)))):=by
 have cs:=vQK S l P V hS hz hq hB2 hn hl zom;have lf:=zGF hS hn hof;have hso:=vT7 hS l;have lsum:=zGF hS hn hso;have zs:=vT6 hS hz hl;have cv:=zKX f.L 4611686018427387904 (zCO zom (uC1 hf zom));have hval:vCZ f.L 4611686018427387904=true:=validB_true.2 (vZ8 (by have:=hn; omega) (uAT hof));rw[hval,<- vH4]at cv;have cb:=zF5 f (vE3 S l).1 kf _ hf zs hof.1 hso.1 zom zom;have zb:szF (kf+(1+l.length * (P+2 * V+18)+vEQ l)+2) (vCD f (vE3 S l).1):=zEW hf zs zom;have lc:=zBL zb.1;have csg:=zE0 (cr (vCD f (vE3 S l).1).c) (zBE _) zom;rw[zBU]at csg;have h0:=uEZ (S:=S) (l:=l);have hno:¬ okM S l l.length->false=dB (vIN S f l):=fun h=>zGQ fun e=>h e.1
 have hfin:okM S l l.length->vCD f (vE3 S l).1=vEN S f l l.length:=fun h=>by rw[uEY h,<- vGW hS hof l.length (rAR _)]
 generalize hQ:vCD f (vE3 S l).1=Q at *
 generalize (vE3 S l).1=G at *
 generalize (vE3 S l).2=E at *
 refine zAK vBC hT vWM (by simp[vBD,vBP]) ?_;refine sts ?_;refine zAA cs rfl ?_
 refine gob ?_ ?_<;>intro h
 .exact zAB rfl (rA3 PV.bool (hno fun e=>by have:=h0.2 e; contradiction))
 have hok:okM S l l.length:=h0.1 rAC;have hQ2:=hfin hok
 have hres:((Q.ts.length:Int)=0/\0<=vDK Q.c)↔vIN S f l:=by
  rw[hQ2,sgnQ_nn'];exact⟨fun e=>⟨hok,rA1.1 zom,e.2⟩,fun e=>⟨by rw[e.2.1]; rfl,e.2.2⟩⟩
 refine zAA cv rfl ?_;refine sts ?_;refine zAA cb rfl ?_
 refine gob ?_ ?_<;>intro h
 .refine zAA csg rfl ?_
  refine sts ?_;refine zAB rfl (rA3 PV.bool ?_);rw[rA0,dB_true,<- hres];simp only[rAX];exact⟨fun e=>⟨zom,e⟩,fun e=>e.2⟩
 .exact zAB rfl (rA3 PV.bool (zGQ fun e=>by have:=(hres.2 e).1; omega))
theorem vWL:FO 120 Tryz.f120 [.tmp 4] 27:=mkO Tryz.func120 Tryz.ntmps120 Tryz.results120
theorem uEC(S:ScpL)(l:List MultL)(P V:Nat)(hS:vB7 S)(hz:szS S P V)(hq:szQ S.q P)(hB2:P+2 * V<=20000000)(hn:vDA S<=16)(hl:szM l)(hsz:1+l.length * (P+2 * V+18)+vEQ l+18 * (P+2 * V+40+vEQ l)<=940000000):Fn 120 [vBD S,.imm (l.map vBA)] (.data (.bool (dB (vU9 S l)))):=by
 have cs:=vQK S l P V hS hz hq hB2 hn hl hsz;have hso:=vT7 hS l;have lsum:=zGF hS hn hso;have zs:=vT6 hS hz hl;have lc:=zBL zs.1;have csg:=zE0 (cr (vE3 S l).1.c) (zBE _) zom;rw[zBU]at csg;have h0:=uEZ (S:=S) (l:=l);have hno:¬ okM S l l.length->false=dB (vU9 S l):=fun h=>zGQ fun e=>h e.1
 have hfin:okM S l l.length->(((vE3 S l).1.ts.length:Int)=0/\(vE3 S l).1.c<0↔vU9 S l):=fun h=>by
  rw[uEY h];unfold vU9;rw[uBA hS,uOZ hS (zFO _)];refine⟨fun e=>⟨h,rA1.1 zom,?_⟩,fun e=>⟨by rw[e.2.1]; rfl,?_⟩⟩
  .have:=e.2; simp only[zeroQ]; grind
  .have:=e.2.2; simp only[zeroQ]at this; grind
 generalize (vE3 S l).1=G at *
 generalize (vE3 S l).2=E at *
 refine zAK vBC hT vWL (by simp[vBD]) ?_;refine sts ?_;refine zAA cs rfl ?_
 (repeat' (first|refine stp ?_|with_reducible(refine brr ?_ ?_<;>intro h)));all_goals try(conv=>whnf)
 .refine zAA csg rfl ?_
  refine sts ?_;have hres:=hfin (h0.1 rAC);refine zAB rfl (rA3 PV.bool ?_);rw[rA0,dB_true,<- hres];simp only[rAX,sgnQ_neg];exact⟨fun e=>⟨zom,e⟩,fun e=>e.2⟩
 .have hres:=hfin (h0.1 rAC)
  exact zAB rfl (rA3 PV.bool (zGQ fun e=>by have:=(hres.2 e).1; omega))
 .exact zAB rfl (rA3 PV.bool (hno fun e=>by have:=h0.2 e; contradiction))
theorem vJV:FO 118 Tryz.f118 [.tmp 4] 53:=mkO Tryz.func118 Tryz.ntmps118 Tryz.results118
theorem uED(S:ScpL)(m:LemL)(P V:Nat)(hS:vB7 S)(hz:szS S P V)(hq:szQ S.q P)(hB2:P+2 * V<=20000000)(hn:vDA S<=16)(hm:okQ V m.value)(hl:szM m.proof)(hsz:P+V+10+m.proof.length * (P+2 * V+18)+vEQ m.proof+18 * (P+2 * V+40+vEQ m.proof)<=940000000):Fn 118 [vBD S,vBB m] (.data (.bool (dB (vLH S m)))):=by
 have hnu:=hS.1.1.2.1;have hB:=hz.B;have hP:=hz.P1;have no:¬ vLH S m->false=dB (vLH S m):=zGQ;have cva:=zIK S.q P hq zom;rw[dB_true.2 hS.1]at cva;have cvv:=zGS m.value hm.1 (by have:=hm.2; omega) (by have:=hm.2; omega);by_cases hu:0<=m.unit/\m.unit<S.q.g.units.length
 .have hj:m.unit.toNat<S.q.g.units.length:=by omega
  have hvu:=hS.1.1.2.2.2.1 _ hj;have hpa:=hz.units _ (get_mem hj);have szp:szF P S.q.g.units[m.unit.toNat]!.Q:=zHE hpa hP;have zn:szF (V+1) (vBN (qv m.value)):=zD0 (zGG (zCZ (rC4 _) hm) zom);have hof:okF (vDA S) S.q.g.units[m.unit.toNat]!.Q:=vJ4 (by unfold vDA; omega) (zMA hvu);have lp:=zGF hS hn hof;have cs:=zF5 S.q.g.units[m.unit.toNat]!.Q (vBN (qv m.value)) P (V+1) szp zn hof.1 (zFC _) zom (by show _+0<=_; omega);rw[zOJ hvu]at cs;have z1:szF (P+V+3) (vCD S.q.g.units[m.unit.toNat]!.Q (vBN (qv m.value))):=zEW szp zn zom;have s1:Srt (vCD S.q.g.units[m.unit.toNat]!.Q (vBN (qv m.value))).ts:=zBD hof.1 (zFC _);have l1:=zH1 (f:=S.q.g.units[m.unit.toNat]!.Q) (c:=qv m.value);have cmin:=zMI (-1) zdd;have csc:=zFJ (vCD S.q.g.units[m.unit.toNat]!.Q (vBN (qv m.value))) (-1) _ 1 z1 (zE8 (z:=-1) zdd) s1 zom zom
  have hlf:szF (P+V+10) (vGD S m):=by
   unfold vGD; split
   .exact zGD z1 (zE8 (z:=-1) zdd) zom
   .exact zHF zom z1
  have hlo:okF (vDA S) (vGD S m):=by
   unfold vGD; split
   .exact zPO (zFQ hof (zHO _ _))
   .exact zFQ hof (zHO _ _)
  have cp:=vQL S (vGD S m) m.proof P V _ hS hz hq hB2 hn hlf hlo zom hl hsz
  have fin:vE2 m.value->dB (vIN S (vGD S m) m.proof)=dB (vLH S m):=fun hc=>by
   rw[rA0,dB_true,dB_true]; exact⟨fun e=>⟨hu,hc,e⟩,fun e=>e.2.2⟩
  refine zAK vBC hT vJV (by simp[vBD,vBB]) ?_;refine sts ?_;refine zAA cva rfl ?_
  (repeat' (first|refine stp ?_|with_reducible(refine brr ?_ ?_<;>intro h)));all_goals try(conv=>whnf)
  all_goals try (exfalso; omega)
  refine zAA cvv rfl ?_
  refine gob ?_ ?_<;>intro h
  rotate_left
  .exact zAB rfl (rA3 PV.bool (no fun e=>by have:=e.2.1; contradiction))
  have hcan:vE2 m.value:=by assumption
  have cn:=zGT m.value hcan;refine zA6 (j:=m.unit.toNat) (show m.unit=_ by omega) hj ?_;refine sts ?_;refine zAA cn rfl ?_;refine sts ?_;refine zAA cs rfl ?_
  refine gob ?_ ?_<;>intro h
  .have e1:vGD S m=vDC (vCD S.q.g.units[m.unit.toNat]!.Q (vBN (qv m.value))) (-1):=rAV rAC
   rw[e1]at cp;refine zAA cmin rfl ?_;refine sts ?_;refine zAA csc rfl ?_;refine sts ?_;refine zAA cp rfl ?_;refine sts ?_;exact zAB rfl (rA3 PV.bool (by rw[<- e1]; exact fin hcan))
  .have e1:vGD S m=vCD S.q.g.units[m.unit.toNat]!.Q (vBN (qv m.value)):=rAN (by rw[show m.upper=false by assumption]; decide)
   rw[e1]at cp;refine zAA cp rfl ?_;refine sts ?_;exact zAB rfl (rA3 PV.bool (by rw[<- e1]; exact fin hcan))
 .refine zAK vBC hT vJV (by simp[vBD,vBB]) ?_
  refine sts ?_;refine zAA cva rfl ?_
  (repeat' (first|refine stp ?_|with_reducible(refine brr ?_ ?_<;>intro h)));all_goals try(conv=>whnf)
  all_goals try (exfalso; omega)
  all_goals exact zAB rfl (rA3 PV.bool (no fun e=>hu e.1))
theorem uDN{h:Hp}{n b m:Nat}{S S':ScpL}{els:List PV}(hq:S'.q=S.q)(hp:S'.path=S.path)(hb:h b=some ⟨els,6,true⟩)(he:els=S'.lems.map vBB)(hm:m=S'.lems.length):frz h (n+3) (.agg [.int .i64 S.q.g.ins,.imm (S.q.g.units.map vBM),.imm (S.q.g.outs.map vBM),.imm (S.q.r.lo.map vA5),.imm (S.q.r.hi.map vA5),.imm (S.q.r.rows.map vBM),.imm (S.q.goal.terms.map vCB),.bool S.q.goal.const.neg,vBK S.q.goal.const.num,vBK S.q.goal.const.den,.imm (S.path.map vA9),.own b 0 m])=some (vBD S',[b]):=by
 rw[<- hq,<- hp];refine zBY ?_;exact zAD (ks:=[]) rfl (zAD (ks:=[]) rfl (zAD (ks:=[]) rfl (zAD (ks:=[]) rfl (zAD (ks:=[]) rfl (zAD (ks:=[]) rfl (zAD (ks:=[]) rfl (zAD (ks:=[]) rfl (zAD (ks:=[]) rfl (zAD (ks:=[]) rfl (zAD (ks:=[]) rfl (zAD (ks:=[b]) (zAH hb he hm fun x=>by cases n<;>rfl) rfl)))))))))))
theorem vPZ{h:Hp}{n a b k m:Nat}{S S':ScpL}{els els':List PV}(hq:S'.q=S.q)(ha:h a=some ⟨els',5,true⟩)(he':els'=S'.path.map vA9)(hk:k=S'.path.length)(hb:h b=some ⟨els,6,true⟩)(he:els=S'.lems.map vBB)(hm:m=S'.lems.length):frz h (n+3) (.agg [.int .i64 S.q.g.ins,.imm (S.q.g.units.map vBM),.imm (S.q.g.outs.map vBM),.imm (S.q.r.lo.map vA5),.imm (S.q.r.hi.map vA5),.imm (S.q.r.rows.map vBM),.imm (S.q.goal.terms.map vCB),.bool S.q.goal.const.neg,vBK S.q.goal.const.num,vBK S.q.goal.const.den,.own a 0 k,.own b 0 m])=some (vBD S',[a,b]):=by
 rw[<- hq];refine zBY ?_;exact zAD (ks:=[]) rfl (zAD (ks:=[]) rfl (zAD (ks:=[]) rfl (zAD (ks:=[]) rfl (zAD (ks:=[]) rfl (zAD (ks:=[]) rfl (zAD (ks:=[]) rfl (zAD (ks:=[]) rfl (zAD (ks:=[]) rfl (zAD (ks:=[]) rfl (zAD (ks:=[a]) (zAH ha he' hk fun x=>by cases n<;>rfl) (zAD (ks:=[b]) (zAH hb he hm fun x=>by cases n<;>rfl) rfl)))))))))))
theorem uCB:FO 86 Tryz.f86 [.tmp 4] 59:=mkO Tryz.func86 Tryz.ntmps86 Tryz.results86
theorem uKA(S:ScpL)(n:NodeL)(P V v c d:Nat)(hS:vB7 S)(hz:szT S P V v c d)(hn:NodeZ P V v c n)(hsm:n.Sm)(hq:szQ S.q P)(hB2:P+2 * V<=20000000)(hv:vDA S<=16):Fn 86 [vBD S,vA6 n] (.data (.bool (dB (vC6 S n)))):=by
 have hl:=hsm.len;have l1:=hsm.prf.1;have l2:=hsm.lems.1;have p2:=hz.num;have n2:=hn.num;refine zAK vBC hT uCB (by simp[vBD]) ?_;refine sns ?_;have e0:vB1 S (n.lemmas.take 0)=S:=by unfold vB1; rw[List.take_zero,rBR]
 refine zAM hT (fun(i:Nat)=>[(2,.ptr 0 0 0),(3,.ptr 1 0 0),(5,.int .i64 i)])
  (fun i=>[(0,⟨[vBD (vB1 S (n.lemmas.take i))],12,true⟩),(1,⟨[vA6 n],9,true⟩)]) [] 2
  (fun i=>i<=n.lemmas.length/\∀ k,k<i->vLH (vB1 S (n.lemmas.take k)) n.lemmas[k]!) (fun i=>n.lemmas.length - i) 0 ⟨rA8 _,fun k h=>by omega⟩ zdd zsm ?_ ?_
 .dsimp only
  rw[e0];exact⟨[0,1],[],[],[],ttt,⟨apx,apx,rAI,rGU⟩,⟨bbx,bbx,rGU⟩,rAA⟩
 rintro i ⟨i1,i2⟩
 have hcan:∀ k,k<i->vE2 n.lemmas[k]!.value:=fun k hk=>(i2 k hk).2.1
 have hzi:=hz.take hn i1 hcan;have hSi:vB7 (vB1 S (n.lemmas.take i)):=uFI hS;have lems:(vB1 S (n.lemmas.take i)).lems.length=S.lems.length+i:=by unfold vB1; rw[rAU,rBX]; omega
 by_cases hi:i<n.lemmas.length
 .have hm:=get_mem hi
  obtain⟨m1,m2,m3⟩:=hn.lem _ hm;have hvm:=uI2 hn.val hz.val.1 hm;have cl:=uED (vB1 S (n.lemmas.take i)) n.lemmas[i]! P V hSi hzi.szS hq hB2 hv (zCZ zom m1) m2 zom
  (repeat' (first|refine stn ?_|(with_reducible refine brr ?_ ?_<;>intro h)|(with_reducible refine zAT ?_ ?_<;>intro h)|with_reducible refine zBC ?_ ?_)); all_goals try (conv=>whnf)
  all_goals try (exfalso; omega)
  refine zAA cl rfl ?_
  refine gon ?_ ?_<;>intro h
  rotate_left
  .have hlem:=dB_false.1 (by assumption:dB _=false)
   exact zAB rfl (rA3 PV.bool (zGQ fun e=>hlem (e.1 i hi)))
  have hlem:=dB_true.1 (by assumption:dB _=true)
  have e1:vB1 S (n.lemmas.take (i+1))=⟨S.q,S.path,(S.lems++n.lemmas.take i)++[n.lemmas[i]!]⟩:=by
   unfold vB1; rw[rBG,rA2 hi,rAT n.lemmas i hi]
  refine⟨i+1,⟨⟨zom,fun k hk=>zA7 (p:=fun k=>vLH (vB1 S (n.lemmas.take k)) n.lemmas[k]!) i2 hlem hk⟩,by show n.lemmas.length - (i+1)<n.lemmas.length - i; omega⟩,?_⟩;refine⟨[0,1],[29],[],[(0,[vBD (vB1 S (n.lemmas.take (i+1)))])],⟨⟨⟨_,rfl⟩,rGU⟩,rGU,⟨⟨_,6,_,rfl,zAD (uDN (S:=S) rfl rfl rfl ?_ ?_) rfl,rfl⟩,rGU⟩⟩,⟨apx,apx,zAC rfl rfl,rGU⟩,⟨bbx,bbx,rGU⟩,rAA⟩
  .rw[e1]
   show([]++List.map vBB (S.lems++n.lemmas.take i))++[vBB n.lemmas[i]!]=List.map vBB (S.lems++n.lemmas.take i++[n.lemmas[i]!])
   rw[List.nil_append,rBD (l₂:=[n.lemmas[i]!])]; rfl
  .rw[e1]
   show(0+(List.map vBB (S.lems++n.lemmas.take i)).length)+1=(S.lems++n.lemmas.take i++[n.lemmas[i]!]).length
   simp; omega
 .obtain rfl:i=n.lemmas.length:=by omega
  rw[rBW]at *
  have hlems:vNB S n.lemmas:=i2;have cf:=vZJ S.q n.split P hq zom (zCZ zom hn.spl);have cr:=uEC (vB1 S n.lemmas) n.proof P V hSi hzi.szS hq hB2 hv hn.prf.1 (by have:=hn.prf.2; omega);have hvg:vB8 S.q.goal (S.q.g.ins+S.q.g.units.length):=hS.1.2.2;have cp:=vQL (vB1 S n.lemmas) S.q.goal.Q n.proof P V 40000000 hSi hzi.szS hq hB2 hv (zHE hz.goal zdd) (zMA hvg) zdd hn.prf.1 (by have:=hn.prf.2; omega);rw[zOJ hvg]at cp
  (repeat' (first|refine stn ?_|(with_reducible refine brr ?_ ?_<;>intro h)|(with_reducible refine zAT ?_ ?_<;>intro h)|with_reducible refine zBC ?_ ?_)); all_goals try (conv=>whnf)
  all_goals try (exfalso; omega)
  .have hk:¬ n.kids.length=0:=by omega
   refine zAA cf rfl ?_;refine sns ?_;refine zAB rfl (rA3 PV.bool ?_);rw[rA0,dB_true,dB_true];exact⟨fun e=>⟨hlems,by rw[rAN hk]; exact e.2⟩,fun e=>⟨hS.1,by have:=e.2; rw[rAN hk]at this; exact this⟩⟩
  .have hk:n.kids.length=0:=by omega
   have he:n.empty=true:=by assumption
   refine zAA cr rfl ?_;refine sns ?_;refine zAB rfl (rA3 PV.bool ?_);rw[rA0,dB_true,dB_true];exact⟨fun e=>⟨hlems,by rw[rAV hk,rAV he]; exact e⟩,fun e=>by have:=e.2; rw[rAV hk,rAV he]at this; exact this⟩
  .have hk:n.kids.length=0:=by omega
   have he:¬ n.empty=true:=by rw[show n.empty=false by assumption]; decide
   refine zAA cp rfl ?_;refine sns ?_;refine zAB rfl (rA3 PV.bool ?_);rw[rA0,dB_true,dB_true];exact⟨fun e=>⟨hlems,by rw[rAV hk,rAN he]; exact e⟩,fun e=>by have:=e.2; rw[rAV hk,rAN he]at this; exact this⟩
noncomputable def uAD(S:ScpL)(n:NodeL):PV:=match vBE S n with
 | none=>.tup [.imm [],.bool true]
 | some p=>.tup [.imm (p.map vA9),.bool false]
theorem vSL:FO 46 Tryz.f46 [.tmp 4,.tmp 5] 53:=mkO Tryz.func46 Tryz.ntmps46 Tryz.results46
theorem vK7:∀ (s:Nat) (n:NodeL) (S:ScpL) (P V v c d:Nat),SizeOf.sizeOf n<s->n.Sm->vBG d n=true->vB7 S->szT S P V v c d->NodeZ P V v c n->szQ S.q P->P+2 * V<=20000000->vDA S<=16->Fn 46 [vBD S,vA6 n] (.data (uAD S n)):=by
 intro s
 induction s with
 | zero=>intro n S P V v c d h; omega
 | succ s ih =>
   intro n S P V v c d hs hsm hf hS hz hn hq hB2 hv;have hl:=hsm.len;have l2:=hsm.lems.1;have p1:=hz.plen;have p2:=hz.num;have n2:=hn.num;have cr:=uKA S n P V v c d hS hz hn hsm hq hB2 hv;refine zAK vBC hT vSL (by simp[vBD]) ?_;refine sns ?_;refine zAA cr rfl ?_
   refine gon ?_ ?_<;>intro h
   rotate_left
   .have hr:=dB_false.1 (by assumption:dB _=false)
    have e:uAD S n=.tup [.imm (S.path.map vA9),.bool false]:=by unfold uAD; rw[zDB hr]
    rw[e];exact zAB (zKF (zAD (zAH (f:=vA9) (l:=S.path) rfl (by show []++List.map vA9 S.path=_; rw[List.nil_append]) (by show 0+(List.map vA9 S.path).length=_; simp) fun x=>rfl) rfl)) rfl
   have hr:=dB_true.1 (by assumption:dB _=true);have hlems:=hr.1;have hcan2:∀ k,k<n.lemmas.length->vE2 n.lemmas[k]!.value:=fun k hk=>(hlems k hk).2.1
   refine zAM hT (fun(i:Nat)=>[(2,.ptr 0 0 0),(3,.ptr 1 0 0),(6,.int .i64 i)])
    (fun _=>[(0,⟨[vBD S],12,true⟩),(1,⟨[vA6 n],9,true⟩)]) [] 2
    (fun i=>i<=n.kids.length/\∀ j,j<i->vBE (vCR S n (vCI n j)) n.kids[j]! = none) (fun i=>n.kids.length - i) 0 ⟨rA8 _,fun k h=>by omega⟩ zdd zsm ?_ ?_
   .exact⟨[0,1],[],[],[],ttt,⟨apx,apx,rAI,rGU⟩,⟨bbx,bbx,rGU⟩,rAA⟩
   rintro i ⟨i1,i2⟩
   by_cases hi:i<n.kids.length
   .have hk:n.kids.length≠0:=by omega
    have hfo:=hf;rw[zA1 hk]at hfo;simp only[rAO,rAX]at hfo;have hd0:d≠0:=hfo.1.2;have h5:=hfo.1.1;unfold vBV at h5;obtain⟨e1,_⟩:=rB3 h5;have hfk:=zCM e1 (d:=d);rw[hf]at hfk;have hfk:=hfk.symm;simp only[rAO]at hfk;have hfit:vFL S.q n.split:=by have:=hr.2; rw[rAN hk]at this; exact this
    have ck:=vIA S.path n i zom;obtain⟨D,hD⟩:∃ D,vCI n i=D:=⟨_,rfl⟩;rw[hD]at ck
    have hDk:(i=0/\D=n.split)\/(i=1/\D=opp n.split):=by
     rcases rCQ i 1 with h | h
     .obtain rfl:i=0:=by omega
      exact rAW ⟨rfl,hD.symm⟩
     .obtain rfl:i=1:=by omega
      exact rAY ⟨rfl,hD.symm⟩
    have hdr:D.rat=n.split.rat:=by
     rcases hDk with⟨_,e⟩ | ⟨_,e⟩<;>rw[e]
     rfl
    have hDf:vFL S.q D:=by
     rcases hDk with⟨_,e⟩ | ⟨_,e⟩<;>rw[e]
     .exact hfit
     .exact vP3 hfit
    have hz2:szT (vCR S n D) P V v (c - n.lemmas.length) (d - 1):=hz.kid hd0 hn hcan2 (by rw[hdr]; exact hn.spl);have hkm:n.kids[i]! ∈ n.kids:=get_mem zom;have hks:=NodeL.sizeOf_kid hkm
    have hkf:vBG (d - 1) n.kids[i]! = true:=by
     rcases hDk with⟨e,_⟩ | ⟨e,_⟩<;>rw[e]
     .exact hfk.2.1
     .exact hfk.2.2
    have cb:=ih n.kids[i]! (vCR S n D) P V _ _ (d - 1) zom (hsm.kid hkm) hkf (Go.PI.ok_kid hS hDf) hz2 (hn.kid _ hkm) hq hB2 hv
    refine gon ?_ ?_<;>intro h
    all_goals try (exfalso; omega)
    refine zA5 ck rfl ?_;refine sns ?_;unfold uAD at cb;have arg:∀ {h:Hp} {a b k m:Nat} {els els':List PV},h a=some ⟨els',5,true⟩->els'=(S.path++[D]).map vA9->k=(S.path++[D]).length->h b=some ⟨els,6,true⟩->els=(S.lems++n.lemmas).map vBB->m=(S.lems++n.lemmas).length->frz h 6 (.agg [.int .i64 S.q.g.ins,.imm (S.q.g.units.map vBM),.imm (S.q.g.outs.map vBM),.imm (S.q.r.lo.map vA5),.imm (S.q.r.hi.map vA5),.imm (S.q.r.rows.map vBM),.imm (S.q.goal.terms.map vCB),.bool S.q.goal.const.neg,vBK S.q.goal.const.num,vBK S.q.goal.const.den,.own a 0 k,.own b 0 m])=some (vBD (vCR S n D),[a,b]):=fun h1 h2 h3 h4 h5 h6=>vPZ (S:=S) (S':=vCR S n D) rfl h1 h2 h3 h4 h5 h6
    cases hb0:vBE (vCR S n D) n.kids[i]! with
    | none =>
      rw[hb0]at cb;refine zAA cb (zAD (arg rfl rfl zsm rfl (by show []++List.map vBB S.lems++List.map vBB n.lemmas=_; simp) (by show 0+(List.map vBB S.lems).length+(List.map vBB n.lemmas).length=_; simp)) (zAD rfl rfl)) ?_;refine sns ?_;exact⟨i+1,⟨⟨zom,fun j hj=>zA7 (p:=fun j=>vBE (vCR S n (vCI n j)) n.kids[j]! = none) i2 (by rw[hD]; exact hb0) hj⟩,by show n.kids.length - (i+1)<n.kids.length - i; omega⟩,[0,1],[],[],[],ttt,⟨apx,apx,rAI,rGU⟩,⟨bbx,bbx,rGU⟩,rAA⟩
    | some p =>
      rw[hb0]at cb;refine zAA cb (zAD (arg rfl rfl zsm rfl (by show []++List.map vBB S.lems++List.map vBB n.lemmas=_; simp) (by show 0+(List.map vBB S.lems).length+(List.map vBB n.lemmas).length=_; simp)) (zAD rfl rfl)) ?_;refine sns ?_
      have e:uAD S n=.tup [.imm (p.map vA9),.bool false]:=by
       unfold uAD;rw[zCD hr (zG6 e1)];rcases hDk with⟨e,e2⟩ | ⟨e,e2⟩
       .rw[e,e2]at hb0
        rw[hb0]
       .have h0:=i2 0 zom
        rw[e,e2]at hb0;rw[show vBE (vCR S n n.split) n.kids[0]! = none from h0];dsimp only;rw[hb0]
      rw[e];exact rGV
   .obtain rfl:i=n.kids.length:=by omega
    have e:uAD S n=.tup [.imm [],.bool true]:=by
     unfold uAD;rcases rDD n.kids.length with h0 | h0
     .rw[zE6 hr h0]
     .have hfo:=hf
      rw[zA1 zom]at hfo;simp only[rAO,rAX]at hfo;have h5:=hfo.1.1;unfold vBV at h5;obtain⟨e1,_⟩:=rB3 h5;rw[zCD hr (zG6 e1),show vBE (vCR S n n.split) n.kids[0]! = none from i2 0 zom];dsimp only;rw[show vBE (vCR S n (vTJ n.split)) n.kids[1]! = none from i2 1 zom]
    rw[e]
    refine gon ?_ ?_<;>intro h
    all_goals try (exfalso; omega)
    exact rGV
theorem vR2:FO 22 Tryz.f22 [.tmp 4,.tmp 5] 26:=mkO Tryz.func22 Tryz.ntmps22 Tryz.results22
theorem vK3(q:QryL)(n:NodeL)(P V v:Nat)(hvV:v<=V)(hq:szQ q P)(hs:n.Sm)(hz:NodeZ P V v 1048576 n)(hB:P+2 * V+20<=20000000)(hv:q.g.ins+q.g.units.length<=16):Fn 22 [vBJ q,vA6 n] (.data (.tup [.imm ((vCJ q n).1.map vA9),.int .i64 (vCJ q n).2])):=by
 have cva:=zIK q P hq zom;have crv:=zEC n hs
 have bad:¬ (n.valid=true/\VaQ q)->PV.tup [.imm [],.int .i64 1]=.tup [.imm ((vCJ q n).1.map vA9),.int .i64 (vCJ q n).2]:=fun h=>by
  unfold vCJ;rw[rAN h]; rfl
 refine zAK vBC hT vR2 (by simp[vBJ]) ?_;refine sns ?_;refine zAA cva rfl ?_
 refine gon ?_ ?_<;>intro h
 rotate_left
 .have hva:=dB_false.1 (by assumption:dB _=false)
  exact zAB rfl (bad fun e=>hva e.2)
 have hVa:=dB_true.1 (by assumption:dB (VaQ q)=true);refine zAA crv rfl ?_
 refine gon ?_ ?_<;>intro h
 rotate_left
 .have hval:n.valid=false:=by assumption
  exact zAB rfl (bad fun e=>by rw[hval]at e; exact absurd e.1 zdd)
 have hval:n.valid=true:=by assumption
 have hS:vB7 ⟨q,[],[]⟩:=⟨hVa,fun d hd=>by cases hd⟩
 have hsz:szT ⟨q,[],[]⟩ P V v 1048576 2048:=by
  refine⟨hq.P1,hq.g.1.2,hq.r.1,hq.r.2.1,⟨hq.r.2.2.2,hq.r.2.2.1⟩,hq.goal,(by show 0+2048<=1048576; omega),(fun d hd=>by cases hd),(fun d hd=>by cases hd),(fun d hd=>by cases hd),⟨hvV,fun m hm=>by cases hm⟩,(by show 0+1048576<=1048576; omega),zom,?_⟩;show q.g.ins+q.g.units.length<=1280
  omega
 have hfo:vBG 2048 n=true:=by unfold NodeL.valid at hval; simp only[rAO]at hval; exact hval.1
 have cb:=vK7 _ n ⟨q,[],[]⟩ P V v 1048576 2048 (rAL _) hs hfo hS hsz hz hq zom hv
 have hres:vCJ q n=(match vBE ⟨q,[],[]⟩ n with
  | none=>([],0)
  | some p=>(p,12)):=rAV ⟨hval,hVa⟩
 unfold uAD at cb;rw[hres];cases hb0:vBE ⟨q,[],[]⟩ n with
 | none =>
   rw[hb0]at cb;refine zAA cb rfl ?_;refine sns ?_;exact rGV
 | some p =>
   rw[hb0]at cb;refine zAA cb rfl ?_;refine sns ?_;exact rGV
theorem uMV(most:Int):∀ (n:Nat) (x:NodeL),SizeOf.sizeOf x<n->lsz most x<=most->(x.wt:Int)=lsz most x:=by
 intro n
 induction n with
 | zero=>intro x h; omega
 | succ n ih =>
   intro x hx hm;rw[vPM]at hm;have h1:∀ k:NodeL,1<=lsz most k:=fun k=>(zKA most _ k (rAL _)).1
   obtain⟨h2,h3⟩:=vYI most x.kids (fun k _=>h1 k) _ hm;rw[vPM,h2,x.wt_eq]
   have h4:∀ l:List NodeL,(∀ k∈l,k∈x.kids)->(((l.map NodeL.wt).sum:Nat):Int)=(l.map (lsz most)).sum:=by
    intro l
    induction l with
    | nil=>intro _; simp
    | cons a l ihl =>
      intro hl;have ha:=hl a zsm;have g1:=ih a (by have:=NodeL.sizeOf_kid ha; omega) (by have:=h3 a ha; omega);have g2:=ihl (fun k hk=>hl k (by simp[hk]));simp only[rBN,List.sum_cons];omega
   have:=h4 x.kids (fun _ h=>h);have hl:=zKC x.lemmas;omega
theorem vYR{P V C:Nat}{l:List MultL}(hr:∀ p∈l,okR p.coef)(hl:l.length<=400)(hC:sC l<=C)(hB:P+V+C<=1048600):vNM P V l:=by
 refine⟨⟨zom,fun p hp=>?_⟩,?_⟩
 .have:=uLU hp
  unfold lQ at this;exact⟨hr p hp,zom,zom⟩
 .have h1:l.length * (P+2 * V+18)<=400 * (P+2 * V+18):=rBI _ hl
  have h2:vEQ l<=C:=hC;omega
theorem uC5{P V v:Nat}:∀ (k:Nat) (n:NodeL) (c:Nat),SizeOf.sizeOf n<k->n.NOk->n.wt<=400->n.tot spF<=P->P+V+n.tot coF<=1048600->n.tot uF<=v->n.tot lF<=V - v->n.wt<=c->NodeZ P V v c n:=by
 intro k
 induction k with
 | zero=>intro n c h; omega
 | succ k ih =>
   intro n c h hok hw hP hB hu hl hc;have s1:=zMV spF n;have s2:=zMV uF n;have s4:=zMV lF n;have s3:=zMV coF n;have hwt:=n.wt_eq;have hll:=zKC n.lemmas;refine .mk v c n (fun m hm=>?_) zom (fun m hm=>⟨⟨(hok.lem m hm).1,by unfold vEV; omega,by unfold vEV; omega⟩,?_⟩) ?_ ?_ fun x hx=>?_
   .split
    .rename_i hup
     have h1:(if m.upper=true then lQ m.value else 0)<=uL n.lemmas:=zGX (f:=fun m:LemL=>if m.upper=true then lQ m.value else 0) hm;rw[rAV hup]at h1;have e:uF n=uL n.lemmas:=rfl;have e2:vEV m.value=lQ m.value:=rfl;omega
    .rename_i hup
     have h1:(if m.upper=true then 0 else lQ m.value)<=loL n.lemmas:=zGX (f:=fun m:LemL=>if m.upper=true then 0 else lQ m.value) hm;rw[rAN hup]at h1;have e:lF n=loL n.lemmas:=rfl;have e2:vEV m.value=lQ m.value:=rfl;omega
   .have h1:vCH m<=(n.lemmas.map vCH).sum:=zGX hm
    have h2:sC m.proof<=(n.lemmas.map fun m=>sC m.proof).sum:=zGX (f:=fun m:LemL=>sC m.proof) hm;have e1:vCH m=1+m.proof.length:=rfl;have e2:coF n=(n.lemmas.map fun m=>sC m.proof).sum+sC n.proof:=rfl;exact vYR (hok.lem m hm).2 zom (C:=n.tot coF) zom hB
   .have e1:spF n=n.split.rat.num.length+n.split.rat.den.length:=rfl
    exact⟨hok.spl,zom,zom⟩
   .have e2:coF n=(n.lemmas.map fun m=>sC m.proof).sum+sC n.proof:=rfl
    exact vYR hok.prf zom (C:=n.tot coF) zom hB
   .have k1:=vGM (f:=spF) hx
    have k2:=vGM (f:=uF) hx;have k4:=vGM (f:=lF) hx;have k3:=vGM (f:=coF) hx;have k5:x.wt<=(n.kids.map NodeL.wt).sum:=zGX hx;exact ih x _ (by have:=NodeL.sizeOf_kid hx; omega) (hok.kid hx) zom zom zom zom zom zom
structure inZ(q:QryL)(n:NodeL)(P V v:Nat):Prop where
 q:szQ q P
 hv:v<=V
 B:P+2 * V+20<=20000000
 z:NodeZ P V v 1048576 n
 sm:n.Sm
 cnt:n.cnt<=4194304
theorem szQ.le{q:QryL}{P P':Nat}(hq:szQ q P)(h:P<=P'):szQ q P':=by
 have hg:vHK P' q.g:=⟨⟨hq.g.1.1,fun f hf=>zCO h (hq.g.1.2 f hf)⟩,⟨hq.g.2.1,fun f hf=>zCO h (hq.g.2.2 f hf)⟩⟩;exact⟨by have:=hq.P1; omega,hg,vPC h hq.r,hq.goal⟩
structure inB(q:QryL)(n:NodeL)(Bq Bn:Nat):Prop where
 q:szQ q Bq
 B:Bq+Bn<=1048590
 ok:n.NOk
 sm:n.Sm
 bk:n.bk<=Bn
 wt:n.wt<=Bn
theorem inB.z{q:QryL}{n:NodeL}{Bq Bn:Nat}(h:inB q n Bq Bn)(hw:n.wt<=400):inZ q n (Bq+n.tot spF) (n.tot vlF) (n.tot uF):=by
 have hb:=uP1 n;have hvl:=uLG n;have hbk:=h.bk;have hB:=h.B;have hc:=uF0 _ n (rAL _);exact⟨h.q.le zom,zom,zom,uC5 _ n _ (rAL _) h.ok hw zom zom (rAR _) zom zom,h.sm,zom⟩
end Go.PI.Tryz
