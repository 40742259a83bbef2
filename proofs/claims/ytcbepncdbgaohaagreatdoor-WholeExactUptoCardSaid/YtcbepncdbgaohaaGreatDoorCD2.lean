/-
  simplex: Solve.
-/
import Derived.Test.YtcbepncdbgaohaaGreatDoorCD1
set_option linter.all false
set_option maxHeartbeats 0
namespace Go.PI.Tryz
open Go.Proofs Go.PI Go.Proofs.Tryz Go.PI.SX
variable {r:Nat}{l:List Rat}
def uOZ{h:Hp}{n m:Nat}  (hb:h r=some (rwB l))(hn:n<=l.length):frz h (m+3) (.own r 0 n)=some (.imm (yS (l.take n)),[r]):=by
 unfold frz;rw[hb];dsimp only;rw[zE (by simpa using hn),EJ,<- Jc,FY]
def uMJ  {n k N:Nat}{x:Int}(hx:onI (CK (l.take n))=x)(hn:n<=l.length)(hl:l.length<=1000)(hs:∀ j,j<l.length->sz k l[j]!)(hk:k<=10000000):FnC prog G0 121 [.own r 0 n,.func (.func 122) [] []] (.pk [(r,rwB l)] N (.int .i64 x) none):=by
 subst hx;refine pkI N (uP7 (l.take n) k yE (fun j hj=>?_) hk) (yL (uOZ (m:=3) (by unfold lsH;rw[zE rfl]) hn) rfl) zsm;have hj':j<l.length:=by simp at hj;omega
 rw[gp hj,GM,<- gp hj'];exact hs j hj'
def vVZ{h:Hp}{z:Fz}{n N:Nat}  (hb:h r=some (rwB l))(hz:z r=false)(hr:r<N):fD h z [(r,rwB l)] N [.own r 0 n,.func (.func 122) [] []]:=by
 refine⟨zsm,fun p hp=>?_,fun a ha=>?_⟩
 .cases yG.1 hp
  refine⟨hb,hz,hr,fun e he=>?_⟩;obtain⟨i,_,rfl⟩:=zW.1 he;rfl
 .rcases yI.1 ha with rfl|ha
  .show Nat.blt r N=true;rw[mD];exact hr
  .cases yG.1 ha;rfl
def take_at  {n j:Nat}(hj:j<n)(hn:n<=l.length):(l.take n)[j]! = l[j]! := by
 rw[gp (by rw[wG];omega),GM,gp zom]
def uO1{U:Tab}{e:Nat}(h:Bu U r=some e)(hl:U.fs[r]!.length=U.ns.length+1):CK (U.fs[r]!.take U.ns.length)=some e:=by
 unfold Bu at h;unfold CK;rw[JL]at h ⊢;obtain⟨h1,h2,h3⟩:=h;have g:∀ j,j<U.ns.length->(U.fs[r]!.take U.ns.length)[j]! = U.fs[r]![j]! := fun j hj=>take_at hj zom
 have h2:=yN.1 h2;refine⟨by rw[g e h2];exact h1,yN.2 (by rw[wG];omega),fun j hj=>by rw[g j zom];exact h3 j hj⟩
def uO9(U:Tab)(x k N:Nat)(K:PV->St->Prop)(S:Sm k U)(hN:N<=3000)(S':Sm k (uJ x U))(hx:x∈(uJ x U).ns)
 (ho:∀ r,x∈U.bs->r=U.bs.idxOf x->∃ e,Bu U r=some e/\r<U.bs.length/\e<U.ns.length/\U.fs[r]![e]! ≠ 0)
 (hK:∀ s k',(k'.ks U.bs.length).Nodup->(∀ x∈k'.ks U.bs.length,x=1\/N<=x)->TabS k' (uI (uJ x U) ((uJ x U).ns.idxOf x)) s.h s.z->K (.tup [.nilsl,.bool true]) s):VC prog (nth tab) G0 N Sc (rS (nth tab) [.tmp 2,.tmp 3] K) ⟨sv [(1,.ptr 3210 0 0),(7,.ptr 3211 0 0)],hv (vi2 x++yX (ck 3000) U),zv [],3300⟩:=by
 have hm:=S.m1;have hn1:=S.n1;have hk2:=S.k2;have TS:=vX (T:=U) (X:=vi2 x) hm t3 rfl;by_cases hb:x∈U.bs
 .obtain⟨e,h1,h2,h3,h4⟩:=ho _ hb rfl
  have eo:uJ x U=zY U (U.bs.idxOf x) e:=by unfold uJ;rw[zE hb,h1];rfl
  rw[eo]at S' hx hK;have e1:dD U.bs x=(U.bs.idxOf x:Int):=zE hb;generalize U.bs.idxOf x=r at *
  have hl:=S.w.ll r h2;have ei:=uO1 h1 hl;refine sus ?_;refine mR [(3002,⟨yV U.bs,1,false⟩)] 3300 (Du e1 zom) (Dw TS.b rfl zdd) rfl (sts ?_)
  all_goals try omega
  refine CF (z7 _) h2 (sts ?_);refine eM hm t3 rfl h2 (sts ?_);refine mR [(3100+r,rwB U.fs[r]!)] 3300 (uMJ (x:=e) (n:=U.ns.length) (l:=U.fs[r]!) (k:=k) (by rw[ei];rfl) zom zom (fun j hj=>S.e.1 r h2 j zom) hk2) (vVZ (TS.row h2).1 (TS.row h2).2 (show 3100+r<3300 by omega)) rfl ?_;refine sts ?_;refine Il (T:=U) (ck 3000) (MP U r e k S h2 h3 h4) (pF hm zdd) zdd TS fun k' h' z' nx' g1 g2 g3 g4 g5=>?_
  have hb':(zY U r e).bs.length=U.bs.length:=by simp[zY]
  have gx:∀ q,q<3300->xk 3000 q=true->h' q=hv (vi2 x++yX (ck 3000) U) q/\z' q=false:=fun q hq hx=>g4 q (w9 hq zdd) (vW hm t3 hx)
  refine sus ?_;exact Iu k' [(1,.ptr 3210 0 0),(7,.ptr 3211 0 0)] (vi2 x) hN t3 zdd zom hm g1 g2 g3 ⟨apx,apx,zA⟩ ⟨xE zdd (gx 3210 zdd rfl).1 ⟨zdd,rfl⟩ rfl (gx 3210 zdd rfl).2.symm,vN zdd (gx 3211 zdd rfl).1 rfl rfl rfl (gx 3211 zdd rfl).2.symm,zA⟩ rfl (vZZ (zY U r e) x _ k N K S' hN rfl hx (by rw[hb'];exact hK))
 .have eo:uJ x U=U:=zB hb
  rw[eo]at hx hK;have e1:dD U.bs x=-1:=zB hb;refine sus ?_;refine mR [(3002,⟨yV U.bs,1,false⟩)] 3300 (Du e1 zom) (Dw TS.b rfl zdd) rfl (sus ?_)
  (refine wR ?_;refine sus ?_)
  (refine wR ?_;refine sus ?_)
  exact FX [] [(1,.ptr 3210 0 0),(7,.ptr 3211 0 0)] (vi2 x) hN t3 zdd hm TS rfl ⟨apx,apx,zA⟩ ⟨xE zdd rfl ⟨zdd,rfl⟩ rfl rfl,bbx,zA⟩ rfl (vZZ U x _ k N K S hN rfl hx hK)
open Go.Proofs Go.PI Go.Proofs.Tryz Go.PI.SX
variable {r:Nat}
def duL(T:Tab)(r:Nat):List (Nat×Blk):=[(1,⟨[qU (ck 3000) T],7,true⟩),(3003,⟨yV T.ns,1,false⟩),(3100+r,rwB T.fs[r]!)]
def Si{T:Tab}  : ((duL T r).map (·.1)).Nodup:=by
 unfold duL;simp;omega
def duρ(a:Nat)(q:Nat):Nat:=match Nat.beq q 3300 with
 |true=>a
 |false=>q
def bO{a q:Nat}(h:q≠3300):duρ a q=q:=by
 unfold duρ;rw[show Nat.beq q 3300=false from by rw[vL];simpa using h]
def MV{T:Tab}{a:Nat}{t:Tm}{h:Hp}{z:Fz}{nx:Nat}{L:List (Nat×PV)}{b:List Rat}(hr:r<64)(ha:3300<=a)(hS:∀ p∈duL T r,h p.1=some p.2/\z p.1=false)(hL:okV (duρ a) 3400 L t)(hb:h a=some (rwB b))(hz:z a=false):KeptG 3300 ⟨t,h,z,nx⟩ L ((3300,rwB b)::duL T r) [] 3400:=by
 have g1:=hS _ (tT ..);have g2:=hS (3003,⟨yV T.ns,1,false⟩) (by simp[duL]);have g3:=hS (3100+r,rwB T.fs[r]!) (by simp[duL]);have e:duρ a (3100+r)=3100+r:=bO zom;refine⟨duρ a,hL,⟨zH zdd hb rfl wY hz.symm,xE zdd g1.1 ⟨rfl,rfl,⟨zdd,rfl⟩,⟨zdd,rfl⟩,⟨zdd,rfl⟩,⟨zdd,rfl⟩,rfl,zA⟩ rfl g1.2.symm,zH zdd g2.1 rfl o6 g2.2.symm,zH (show 3100+r<3400 by omega) (by rw[e];exact g3.1) rfl wY (by rw[e];exact g3.2.symm),zA⟩,fun p hp q hq hne=>?_,fun q hq=>bO zom⟩
 have lt:∀ p∈(3300,rwB b)::duL T r,p.1=3300\/p.1<3300:=fun p hp=>by
  simp only[duL,yI,uU,uX]at hp;rcases hp with rfl|rfl|rfl|rfl
  .exact zF rfl
  .exact zC (show 1<3300 by decide)
  .exact zC (show 3003<3300 by decide)
  .exact zC (show 3100+r<3300 by omega)
 have e0:duρ a 3300=a:=rfl;rcases lt p hp with h1|h1<;>rcases lt q hq with h2|h2
 .exact absurd (h1.trans h2.symm) hne
 .rw[h1,e0,bO zom];omega
 .rw[h2,e0,bO zom];omega
 .rw[bO zom,bO zom];exact hne
def uMK(T:Tab)(r k:Nat)(S:Sm k T)(hr:r<T.bs.length):Fn 56 [.ptr 1 0 0,.own (3100+r) 0 (T.ns.length+1)] (.pk (duL T r) 3300 (.own 3300 0 T.bs.length) (some (rwB (tN T.vars T.bs.length T.ns T.fs[r]!)))):=by
 have hm:=S.m1;have hn:=S.n1;have hv':=S.vv;have hl:=S.w.ll r hr;have hS0:∀ p∈duL T r,hv (duL T r) p.1=some p.2/\zv [] p.1=false:=fun p hp=>⟨CC Si hp,rfl⟩
 have hne:∀ p∈duL T r,p.1<3300:=fun p hp=>by
  simp only[duL,yI,uU,uX]at hp;rcases hp with rfl|rfl|rfl
  .exact(show 1<3300 by decide)
  .exact(show 3003<3300 by decide)
  .exact(show 3100+r<3300 by omega)
 refine Ip zU hT vPD zsm (sts ?_)
 refine eO hT (fun(j:Nat)=>[(0,.ptr 1 0 0),(1,.own (3100+r) 0 (T.ns.length+1)),(5,.own 3300 0 T.bs.length),(17,.own 3003 0 T.ns.length),(18,.int .i64 T.ns.length),(19,.int .i64 j)])
  (fun j=>(3300,rwB (scF T.vars T.bs.length T.ns (fun i=>T.fs[r]![i]!) (fun _=>0) j))::duL T r) 3400 (fun j=>j<=T.ns.length) (fun j=>T.ns.length-j) 0 (z8 _) zdd ?_ ?_
 .refine KeptG.frz1 [] [] [(3305,(scF T.vars T.bs.length T.ns (fun i=>T.fs[r]![i]!) (fun _=>0) 0).map yF)] ⟨zA,zA,⟨⟨_,2,_,rfl,by rw[Io,Ra];exact AR (n:=0),rfl⟩,zA⟩⟩ (MV (a:=3305) zom zdd (fun p hp=>?_) ⟨apx,zI zom (by rw[bO zom];rfl) rfl,zI zdd rfl rfl,zI zdd rfl rfl,zG rfl rfl,zG rfl rfl,zA⟩ rfl rfl)
  have h5:p.1≠3305:=by have:=hne p hp;omega
  refine⟨?_,rfl⟩;show q7 (hs _ 3305 _) [(3305,_)] p.1=_
  unfold q7;rw[vL,qL h5];exact(yM h5).trans (hS0 p hp).1
 intro j hj
 have hS:=fun p hp=>(CC (H:=(3300,rwB (scF T.vars T.bs.length T.ns (fun i=>T.fs[r]![i]!) (fun _=>0) j))::duL T r) (mU.2 ⟨fun h=>by
  obtain⟨p,hp,e⟩:=zW.1 h;have:=hne p hp;have e:p.1=3300:=e
  omega,Si⟩) (p:=p) hp)
 have hrow:=hS (3100+r,rwB T.fs[r]!) (by simp[duL]);by_cases hlt:j<T.ns.length
 .have hvj:=S.vn _ (x6 hlt)
  have hs1:=fun i=>Lr (o:=T.vars) (n:=T.bs.length) (g:=fun i=>T.fs[r]![i]!) (c:=fun _=>0) S.w.nsn hlt (i:=i)
  have hs2:=Ls (o:=T.vars) (n:=T.bs.length) (g:=fun i=>T.fs[r]![i]!) (c:=fun _=>0) hlt
  refine gob ?_ ?_<;>intro h
  all_goals try omega
  refine yB j (z7 _) hlt ?_
  (refine gob ?_ ?_<;>intro h;refine gob ?_ ?_<;>intro h)
  all_goals try omega
  .refine vR hrow ?_
   refine sts ?_;refine vR hrow (sts ?_);refine yB j (z7 _) zom (sts ?_);refine yB (T.ns[j]!-T.vars) zom (by rw[Lp];omega) ?_;refine sts ?_;exact⟨j+1,⟨zom,zbo⟩,KeptG.to (MV (a:=3300) zom zdd (fun p hp=>⟨(yM (Nat.ne_of_lt (hne p hp))).trans (hS p (xN _ hp)),rfl⟩) ⟨apx,zI zom (by rw[bO zom];rfl) rfl,zI zdd rfl rfl,zI zdd rfl rfl,zD,zG rfl zom,zA⟩ (hs_same.trans (zV (fun l=>some (Blk.mk l 3 true)) (by rw[hs1 (T.ns[j]!-T.vars) zom zom];exact x5 zom rfl))) rfl)⟩
  .exact⟨j+1,⟨zom,zbo⟩,KeptG.to (MV (a:=3300) zom zdd (fun p hp=>⟨hS p (xN _ hp),rfl⟩) ⟨apx,zI zom (by rw[bO zom];rfl) rfl,zI zdd rfl rfl,zI zdd rfl rfl,zD,zG rfl zom,zA⟩ (by rw[hs2 fun i hi=>by omega];rfl) rfl)⟩
  .exact⟨j+1,⟨zom,zbo⟩,KeptG.to (MV (a:=3300) zom zdd (fun p hp=>⟨hS p (xN _ hp),rfl⟩) ⟨apx,zI zom (by rw[bO zom];rfl) rfl,zI zdd rfl rfl,zI zdd rfl rfl,zD,zG rfl zom,zA⟩ (by rw[hs2 fun i hi=>by omega];rfl) rfl)⟩
 .have ej:j=T.ns.length:=zom
  subst ej
  refine gob ?_ ?_<;>intro h
  all_goals try omega
  refine⟨rfl,zC ⟨3300,0,T.bs.length,rfl,zC ⟨rfl,zsm⟩⟩,fun p hp=>⟨hS p (xN _ hp),rfl⟩,fun b hb=>?_⟩;cases hb
  exact⟨by rw[<- ZW];rfl,rfl,AX⟩
def uML{T:Tab}  {h:Hp}{z:Fz}{n:Nat}(S:TabS (ck 3000) T h z)(hm:T.bs.length<=64)(hr:r<T.bs.length):fD h z (duL T r) 3300 [.ptr 1 0 0,.own (3100+r) 0 n]:=by
 refine⟨Si,fun p hp=>?_,fun a ha=>?_⟩
 .simp only[duL,yI,uU,uX]at hp
  rcases hp with rfl|rfl|rfl
  .exact⟨S.t.1,S.t.2,(show 1<3300 by decide),fun e he=>by cases yG.1 he;rfl⟩
  .refine⟨S.n,(S (3003,_) (tabL_mem.2 (zF (by unfold jH;simp[ck])))).2,(show 3003<3300 by decide),fun e he=>?_⟩
   obtain⟨q,_,rfl⟩:=zW.1 he;rfl
  .refine⟨(S.row hr).1,(S.row hr).2,(show 3100+r<3300 by omega),fun e he=>?_⟩
   obtain⟨q,_,rfl⟩:=zW.1 he;rfl
 .rcases yI.1 ha with rfl|ha
  .rfl
  .cases yG.1 ha
   show Nat.blt (3100+r) 3300=true
   rw[mD];omega
abbrev Fw:PV:=.func (.func 118) [] [.ptr 3210 0 0,.ptr 3211 0 0,.ptr 3212 0 0]
def Sk{x m n:Nat}(hm:n<=64){p:Nat×Blk}(hp:p∈viX x m):p.1∉(ck 3000).ks n/\p.1<3300:=by
 simp only[yI,uU,uX]at hp;rcases hp with rfl|rfl|rfl|rfl
 .exact⟨vW hm t3 rfl,(show 3210<3300 by decide)⟩
 .exact⟨vW hm t3 rfl,(show 3211<3300 by decide)⟩
 .exact⟨vW hm t3 rfl,(show 3212<3300 by decide)⟩
 .exact⟨vW hm t3 rfl,(show 3213<3300 by decide)⟩
def uPA(U:Tab)(x m k N:Nat)(K:PV->St->Prop)(S:Sm k U)(hN:N<=3000)(hm1:U.ns.length=m)(hin:x∈U.bs\/x∈U.ns)
 (h4:¬ 0<(xD x U)[U.ns.length]! -> VC prog (nth tab) G0 N Sc (rS (nth tab) [.tmp 2,.tmp 3] K) ⟨sv [(1,.ptr 3210 0 0),(7,.ptr 3211 0 0)],hv (vi2 x++yX (ck 3000) U),zv [],3300⟩)
 (hK:0<(xD x U)[U.ns.length]! -> ∀ s q k',(k'.ks U.bs.length).Nodup->(∀ x∈k'.ks U.bs.length,x=1\/N<=x)->TabS k' U s.h s.z->(s.h q=some (rwB (tN U.vars U.bs.length U.ns (xD x U)))/\s.z q=false/\N<=q)->K (.tup [.own q 0 U.bs.length,.bool true]) s):VC prog (nth tab) G0 N Sb (rS (nth tab) [.tmp 2,.tmp 3] K) ⟨sv [(1,.ptr 3210 0 0),(7,.ptr 3211 0 0),(13,Fw)],hv (viX x m++yX (ck 3000) U),zv [],3300⟩:=by
 have hm:=S.m1;have hn1:=S.n1;have hk2:=S.k2;have TS:=vX (T:=U) (X:=viX x m) hm t3 rfl;by_cases hb:x∈U.bs
 .obtain⟨h2,h3⟩:=oI hb
  have e1:dD U.bs x=(U.bs.idxOf x:Int):=zE hb;have ev:xD x U=U.fs[U.bs.idxOf x]! := zE hb;rw[ev]at h4 hK;generalize U.bs.idxOf x=r at *
  have hl:=S.w.ll r h2;have hq:=S.e.1 r h2 U.ns.length zom;have l1:=yO hq;have cs:=r9 (cr U.fs[r]![U.ns.length]!) (yH _) zom;rw[yC]at cs;refine sts ?_;refine fO (iR zU hT vWD zsm ?_);refine sts ?_;refine mR [(3002,⟨yV U.bs,1,false⟩)] 3300 (Du e1 zom) (Dw TS.b rfl zdd) rfl (sts ?_)
  all_goals try omega
  refine CF (z7 _) h2 (sts ?_);refine eM hm t3 rfl h2 (sts ?_);refine eM hm t3 rfl h2 (sts ?_);refine yB U.ns.length zom (by show U.ns.length<U.fs[r]!.length;omega) ?_;refine sts ?_;refine zT cs rfl ?_;have hp:=@sgnQ_pos U.fs[r]![U.ns.length]!;refine sus ?_;refine wR ?_;(repeat' (first|refine stu ?_|with_reducible(refine brr ?_ ?_<;>intro h)));all_goals try(conv=>whnf)
  .refine sts ?_
   refine Zb (duL U r) 3300 (uMK U r k S h2) (uML TS hm h2) (sts ?_);exact hK (hp.1 ‹_›) _ 3330 (ck 3000) (nd3 hm) (Sg hm hN) (TS.hsX hm t3 rfl) ⟨rfl,rfl,wS hN zdd⟩
  .exact FX [] [(1,.ptr 3210 0 0),(7,.ptr 3211 0 0)] (vi2 x) hN t3 zdd hm TS rfl ⟨apx,apx,zA⟩ ⟨xE zdd rfl ⟨zdd,rfl⟩ rfl rfl,bbx,zA⟩ rfl (h4 fun h'=>absurd (hp.2 h') ‹_›)
 .have hn:=hin.resolve_left hb
  obtain⟨h2,h3⟩:=oI hn;have ev:xD x U=(List.replicate (U.ns.length+1) 0).set (U.ns.idxOf x) 1:=zB hb
  have e0:(xD x U)[U.ns.length]! = 0:=by
   rw[ev,sN zsm,zB zom,gp zsm];simp
  have vl:(xD x U).length=U.ns.length+1:=by rw[ev];simp
  have l1:=yO (q:=(0:Rat)) (k:=k) (xV S.k1 ⟨zdd,zdd⟩);have cs:=r9 (cr 0) (yH _) zom;rw[yC,show xQ 0=0 from rfl]at cs;have L:=vPU k x m (fun V=>V=U) fun V hV=>by subst hV;exact⟨S,hm1,hin⟩
  have hx:=L.x;have xlt:=fun p hp=>Sk (x:=x) (m:=m) hm (p:=p) hp
  refine sts ?_;refine Zf (T:=U) (ck 3000) (viX x m) (L.call U rfl) (pF hm zdd) (fun p hp=>⟨(xlt p hp).1,w9 (xlt p hp).2 zdd⟩) (fun p hp=>by have:=hx.lt p hp;omega) hx.nd zdd TS hx.hv fun q k1 h1 z1 nx1 n1 n2 TS1 hq hh hn=>?_
  rw[vl];refine sts ?_;refine vR hq.1 (sts ?_);refine vR hq.1 (sts ?_);refine yB U.ns.length zom (by show U.ns.length<(xD x U).length;omega) ?_;rw[e0];refine sts ?_;refine zT cs rfl (sus ?_)
  (refine wR ?_;refine sus ?_)
  have gx:∀ q,q<3300->xk 3000 q=true->h1 q=hv (viX x m++yX (ck 3000) U) q/\z1 q=false:=fun q hq hx=>hh q (w9 hq zdd) (vW hm t3 hx)
  exact Iu k1 [(1,.ptr 3210 0 0),(7,.ptr 3211 0 0)] (vi2 x) hN t3 zdd hm hm n1 n2 TS1 ⟨apx,apx,zA⟩ ⟨xE zdd (gx 3210 zdd rfl).1 ⟨zdd,rfl⟩ rfl (gx 3210 zdd rfl).2.symm,vN zdd (gx 3211 zdd rfl).1 rfl rfl rfl (gx 3211 zdd rfl).2.symm,zA⟩ rfl (h4 (by rw[e0];exact fun h=>absurd h zdd))
open Go.Proofs Go.PI Go.Proofs.Tryz Go.PI.SX
def uK6{x:Nat}{U:Tab}(W:Wf U):(xD x U).length=U.ns.length+1:=by
 unfold xD
 split
 .rename_i hb;exact W.ll _ (oI hb).1
 .simp
def uPB(T:Tab)(x m k N:Nat)(K:PV->St->Prop)(I:Tab->Prop)(hN:N<=3000)(hI:∀ U,I U->Sm k U/\U.ns.length=m/\(x∈U.bs\/x∈U.ns)/\(∀ j,j<U.ns.length->sz k (xD x U)[j]!))(hs:∀ U e r,I U->wX U.vars U.ns (xD x U) U.ns.length=some e->vV U.vars U e U.bs.length=some r->I (zY U r e))(h0:I T)(hp:T.pv<=65537)
 (hlim:(xL T.vars (xD x) (65537-T.pv) T).1.pv<=65536) (hbl:(xL T.vars (xD x) (65537-T.pv) T).1.bs.length<=64)
 (h3:VC prog (nth tab) G0 N Sb (rS (nth tab) [.tmp 2,.tmp 3] K) ⟨sv [(1,.ptr 3210 0 0),(7,.ptr 3211 0 0),(13,Fw)],hv (viX x m++yX (ck 3000) (xL T.vars (xD x) (65537-T.pv) T).1),zv [],3300⟩):VC prog (nth tab) G0 N SZ (rS (nth tab) [.tmp 2,.tmp 3] K) ⟨sv [(1,.ptr 3210 0 0),(7,.ptr 3211 0 0),(13,Fw)],hv (viX x m++yX (ck 3000) T),zv [],3300⟩:=by
 obtain⟨S,hm1,hin,_⟩:=hI T h0;have hm:=S.m1;have TS:=vX (T:=T) (X:=viX x m) hm t3 rfl;have L:=vPU k x m I fun U hU=>⟨(hI U hU).1,(hI U hU).2.1,(hI U hU).2.2.1⟩
 have cM:=uKK T k 118 _ (viX x m) (xD x) I L (fun U hU=>⟨(hI U hU).1,uK6 (hI U hU).1.w,(hI U hU).2.2.2⟩) hs h0 hp;rw[show decide ((xL T.vars (xD x) (65537-T.pv) T).1.pv<=65536)=true from sJ hlim]at cM;generalize xL T.vars (xD x) (65537-T.pv) T=R at *
 have hx:=L.x;refine sts ?_;refine ZZ (T:=T) (ck 3000) (viX x m) cM (pF hm zdd) (fun p hp=>⟨(Sk hm hp).1,w9 (Sk hm hp).2 zdd⟩) (fun p hp=>by have:=hx.lt p hp;omega) hx.nd zdd TS hx.hv fun k' h' z' nx' g1 g2 g3 g4 g5=>?_
 refine sus ?_
 (refine wR ?_;refine sus ?_)
 (refine wR ?_;refine sus ?_)
 have gx:∀ q,q<3300->xk 3000 q=true->h' q=hv (viX x m++yX (ck 3000) T) q/\z' q=false:=fun q hq hx=>g4 q (w9 hq zdd) (vW hm t3 hx)
 exact Iu k' [(1,.ptr 3210 0 0),(7,.ptr 3211 0 0),(13,Fw)] (viX x m) hN t3 zdd hbl hm g1 g2 g3 ⟨apx,apx,⟨rfl,zA,⟨zdd,rfl⟩,⟨zdd,rfl⟩,⟨zdd,rfl⟩,zA⟩,zA⟩ ⟨xE zdd (gx 3210 zdd rfl).1 ⟨zdd,rfl⟩ rfl (gx 3210 zdd rfl).2.symm,vN zdd (gx 3211 zdd rfl).1 rfl rfl rfl (gx 3211 zdd rfl).2.symm,xE zdd (gx 3212 zdd rfl).1 ⟨zdd,rfl⟩ rfl (gx 3212 zdd rfl).2.symm,zH zdd (gx 3213 zdd rfl).1 rfl wY (gx 3213 zdd rfl).2.symm,zA⟩ rfl h3
open Go.Proofs Go.PI Go.Proofs.Tryz Go.PI.SX
def uDM(T:Tab)(w:Wdt)(v:Nat):Fn 50 [.ptr 1 0 0,.int .i64 v] (.pk [(1,⟨[mP (ck 3000) T w],7,true⟩)] 3300 (.bool (decide (v<T.vars))) none):=by
 refine Ip zU hT SI zsm (sts ?_);refine⟨?_,zF rfl,fun p hp=>?_,fun b hb=>by cases hb⟩
 .exact zV PV.bool (bW.2 zom)
 .cases yG.1 hp;exact⟨rfl,rfl⟩
def vRX{T:Tab}{w:Wdt}{v:Nat}{h:Hp}{z:Fz}(h1:h 1=some ⟨[mP (ck 3000) T w],7,true⟩)(z1:z 1=false):fD h z [(1,⟨[mP (ck 3000) T w],7,true⟩)] 3300 [.ptr 1 0 0,.int .i64 v]:=by
 refine⟨zsm,fun p hp=>?_,fun a ha=>?_⟩
 .cases yG.1 hp
  exact⟨h1,z1,(show 1<3300 by decide),fun e he=>by cases yG.1 he;rfl⟩
 .rcases yI.1 ha with rfl|ha
  .rfl
  .cases yG.1 ha;rfl
def Sl{h:Hp}{r n b:Nat}{a:Int}{e:PV}{q:Rat}(hne:b≠r)(hb:h b=some ⟨[e],3,true⟩)(he:frz h 5 e=some (yF q,[])):zZ (cv h 6 (some r)) [.own r 0 n,.int .i64 a,.own b 0 1]=some ([.own 0 0 n,.int .i64 a,.imm [yF q]],[b]):=by
 have hb':¬ (r=b):=fun e=>hne e.symm
 simp[zZ,cv,cv1,frz,hb,he,hne,hb']
def uX7{b r:Nat}(h:b≠r):[b].contains r=false:=by simp[y9 h]
def fs1{b y:Nat}(h:y≠b):fs (zv []) [b] y=false:=by
 unfold fs;rw[ZX h];rfl
def vP0{T:Tab}{x j k w:Nat}{t:Tm}{z:Fz}{nx N:Nat}(S:Sm k T)(hN:N<=3000)(hlt:j<T.bs.length)(q:Nat){hp:Hp}{b:Option Blk}(hq:Nat.ble 3300 q=true)(hj:j<64)
 (hh:∀ y,y<3300->y≠3100+j->hp y=hv (vi2 x++sS (ck 3000) (oL T.vars x T j) (wI T.ns.length j)) y/\z y=false) (hr:hp q=some (rwB (Dl T.vars T j))/\z q=false)
 (hb:b=some ⟨(mQ (ck 3000) T.bs.length (wI T.ns.length j).f).set j (.own q 0 (T.ns.length+2)),1,false⟩) (hL:okV (tkρ { ck 3000 with r:=fun i=>if i=j then q else(ck 3000).r i } 3000 []) 3300 [(1,.ptr 3210 0 0),(4,.int .i64 w),(7,.ptr 3211 0 0),(8,.int .i64 T.ns.length),(86,.own 3002 0 T.bs.length),(87,.int .i64 T.bs.length),(88,.int .i64 (j+1:Nat))] t) :
 KeptG N ⟨t,hs hp 3004 b,z,nx⟩ [(1,.ptr 3210 0 0),(4,.int .i64 w),(7,.ptr 3211 0 0),(8,.int .i64 T.ns.length),(86,.own 3002 0 T.bs.length),(87,.int .i64 T.bs.length),(88,.int .i64 (j+1:Nat))] (vi2 x++sS (ck 3000) (oL T.vars x T (j+1)) (wI T.ns.length (j+1))) [] 3300:=by
 have hm:=S.m1;have TJ:=Rf (T:=oL T.vars x T j) (w:=wI T.ns.length j) (X:=vi2 x) hm t3 rfl;rw[rM]at hq;have hqn:q∉(ck 3000).ks T.bs.length:=fun h=>by have:=dA hm h;omega
 have g1:=hh 3210 zdd zom;have g2:=hh 3211 zdd zom;have e1:∀ y,y<3300->y≠3004->y≠3100+j->hs hp 3004 b y=hv (vi2 x++sS (ck 3000) (oL T.vars x T j) (wI T.ns.length j)) y:=fun y h1 h2 h3=>(yM h2).trans (hh y h1 h3).1
 refine Iq (k:={ ck 3000 with r:=fun i=>if i=j then q else(ck 3000).r i }) [q] [] hN t3 zdd hm (RP (T:=T) (nd3 hm) hqn) (fun _=>Zp) ?_ rfl hL ⟨xE zdd ((e1 3210 zdd zdd zom).trans rfl) ⟨zdd,rfl⟩ rfl g1.2.symm,vN zdd ((e1 3211 zdd zdd zom).trans rfl) rfl rfl rfl g2.2.symm,zA⟩ ?_
 .refine TabSw.setF (T:=oL T.vars x T j) TJ (nd3 hm) (i:=j) (q:=q) (n:=T.ns.length+2) (fs:=(oL T.vars x T (j+1)).fs) hlt hqn (fun y hy hne=>?_) hr.2 (fun i hi hne=>?_) ?_ hb uK4
  .have:=dA hm hy
   exact hh y zom hne
  .show(fsG _ T (j+1))[i]! = (fsG _ T j)[i]!
   have hi:i<T.bs.length:=hi;rw[AV hi,AV hi];by_cases h:i<j
   .rw[zE h,zE zom]
   .rw[zB h,zB zom]
  .rw[show(oL T.vars x T (j+1)).fs[j]! = Dl T.vars T j from(AV hlt).trans (zE (nC j))]
   exact hr.1
 .have e:∀ a:Nat,a<3300->no (rQ [q] a)=true:=fun a ha=>by
   rw[Gw];unfold rQ;rw[show Nat.beq a q=false from by rw[vL];simp;omega];rfl
  show(((true&&(true&&true))&&((true&&no (rQ [q] 3210))&&((true&&no (rQ [q] 3211))&&true)))&&true)=true
  rw[e 3210 zdd,e 3211 zdd];rfl
def uPC(T:Tab)(w k N:Nat)(K:PV->St->Prop)(S:Sm k T)(Sa:Sm k (xB T.vars T))(hN:N<=3000)(hw:w<T.bs.length)(hne:T.fs[w]![T.ns.length]! ≠ 0)(hwn:T.vars<=T.bs[w]!)
 (h2:VC prog (nth tab) G0 N SZ (rS (nth tab) [.tmp 2,.tmp 3] K) ⟨sv [(1,.ptr 3210 0 0),(7,.ptr 3211 0 0),(13,Fw)],hv (viX (T.vars+T.bs.length) (T.ns.length+1)++yX (ck 3000) (zY (xB T.vars T) w T.ns.length)),zv [],3300⟩):VC prog (nth tab) G0 N uYA (rS (nth tab) [.tmp 2,.tmp 3] K) ⟨sv [(1,.ptr 3210 0 0),(4,.int .i64 w)],hv (fbX++yX (ck 3000) T),zv [],3300⟩:=by
 have hm:=S.m1;have hn1:=S.n1;have hvv:=S.vv;have hk2:=S.k2;have TS:=vX (T:=T) (X:=fbX) hm t3 rfl;refine sts ?_
 all_goals try omega
 obtain⟨x,hx⟩:∃ x,x=T.vars+T.bs.length:=⟨_,rfl⟩;refine eO hT (fun(j:Nat)=>[(1,.ptr 3210 0 0),(4,.int .i64 w),(7,.ptr 3211 0 0),(8,.int .i64 T.ns.length),(86,.own 3002 0 T.bs.length),(87,.int .i64 T.bs.length),(88,.int .i64 j)]) (fun j=>vi2 x++sS (ck 3000) (oL T.vars x T j) (wI T.ns.length j)) 3300 (fun j=>j<=T.bs.length) (fun j=>T.bs.length-j) 0 (z8 _) zom ?_ ?_
 .refine KeptG.to (Iq (k:={ ck 3000 with n:=3326 }) [3326] [(3211,3316)] hN t3 zdd hm (Zk (T:=T) rfl (nd3 hm) (vW hm t3 rfl)) (fun _=>Zn) ?_ rfl ⟨apx,zD,apx,zD,zI zdd rfl rfl,zD,zD,zA⟩ ⟨xE zdd rfl ⟨zdd,rfl⟩ rfl rfl,vN zdd (by rw[hx];rfl) rfl rfl rfl rfl,zA⟩ rfl)
  rw[show oL T.vars x T 0={ T with ns:=T.ns++[x] } by unfold oL;rw[Zm S.w]];refine TabSw.setN (k:=ck 3000) (w:=wd0 T) (h:=hv (fbX++yX (ck 3000) T)) (z:=zv []) TS (nd3 hm) (fun y hy h1 h3=>?_) ⟨rfl,rfl⟩ ⟨?_,rfl⟩ ?_
  .have:=dA hm hy
   exact⟨(yM h1).trans ((yM (show y≠3326 by omega)).trans ((yM h3).trans ((yM (show y≠3325 by omega)).trans ((yM (show y≠3316 by omega)).trans (yM (show y≠3316 by omega)))))),rfl⟩
  .rw[hx,SQ];rfl
  .unfold wI wd0;simp
 intro j hj;have TJ:=Rf (T:=oL T.vars x T j) (w:=wI T.ns.length j) (X:=vi2 x) hm t3 rfl;have hb:(oL T.vars x T j).bs.length=T.bs.length:=rfl;have hvs:(oL T.vars x T j).vars=T.vars:=rfl;by_cases hlt:j<T.bs.length
 .have hvb:=S.vb _ (x6 hlt)
  have hl:=S.w.ll j hlt;have cR:=fun q=>uKM T.fs[j]! T.ns.length q zom zom
  rw[hl]at cR;have ej:(oL T.vars x T j).fs[j]! = T.fs[j]! := (AV hlt).trans (zB zom);have c1:=bE 1 zdd;rw[show(((1:Int)):Rat)=1 by rfl]at c1
  refine gob ?_ ?_<;>intro h
  all_goals try omega
  refine yB j (z7 _) hlt (sts ?_);refine mR [(1,⟨[mP (ck 3000) (oL T.vars x T j) (wI T.ns.length j)],7,true⟩)] 3300 (uDM (oL T.vars x T j) _ T.bs[j]!) (vRX TJ.t.1 rfl) rfl ?_
  refine gob ?_ ?_<;>intro h
  .refine Rh (n:=T.ns.length+1) (z7 _) hlt (show(wI T.ns.length j).f j=_ from zB (dH _)) ?_
   refine sts ?_;refine qY (r:=(ck 3000).r j) (cR 0) (Sl (b:=3327) (y9 (jJ hm hlt rfl)) rfl rfl) ((Ir (jJ hm hlt rfl) (jJ hm hlt rfl) (jJ hm hlt rfl)).trans ((TJ.row hlt).1.trans (by rw[ej]))) rfl (uX7 (y9 (jJ hm hlt rfl))) AX (sts ?_);refine Ri (lo:=3100) (n:=64) (i:=j) rfl zom zdd rfl (sts ?_)
   iterate 5 refine rH (by first|decide|(show 3004≠3100+j;omega)) ?_
   refine vR TJ.f (sts ?_);refine bL rfl (sts ?_)
   iterate 5 refine rH (by first|decide|(show 3004≠3100+j;omega)) ?_
   refine vR TJ.f (sts ?_);refine Ly (z7 _) hlt (sts ?_);refine bL rfl (sts ?_);refine⟨j+1,⟨zom,zbo⟩,KeptG.to (vP0 S hN hlt 3328 rfl (by have:j<T.bs.length:=hlt;omega) (fun y h1 h2=>?_) ⟨?_,rfl⟩ ?_ ⟨apx,zD,apx,zD,zI zdd rfl rfl,zD,zG rfl zom,zA⟩)⟩
   .exact⟨(yM (show y≠3328 by omega)).trans ((yM (show y≠3100+j from h2)).trans ((yM (show y≠3327 by omega)).trans ((yM (show y≠3307 by omega)).trans (yM (show y≠3307 by omega))))),fs1 (show y≠3327 by omega)⟩
   .show some (rwB (vO T.fs[j]! T.ns.length 0))=_
    rw[show Dl T.vars T j=vO T.fs[j]! T.ns.length 0 by unfold Dl;rw[zB zom]]
   .rw[z7];rfl
  .refine cvd c1 ?_
   refine Rh (n:=T.ns.length+1) (z7 _) hlt (show(wI T.ns.length j).f j=_ from zB (dH _)) (sts ?_);refine qY (r:=(ck 3000).r j) (cR 1) (Sl (b:=3329) (y9 (jJ hm hlt rfl)) rfl rfl) ((yM (jJ hm hlt rfl)).trans ((Ir (jJ hm hlt rfl) (jJ hm hlt rfl) (jJ hm hlt rfl)).trans ((TJ.row hlt).1.trans (by rw[ej])))) rfl (uX7 (y9 (jJ hm hlt rfl))) AX (sts ?_);refine Ri (lo:=3100) (n:=64) (i:=j) rfl zom zdd rfl (sts ?_)
   iterate 6 refine rH (by first|decide|(show 3004≠3100+j;omega)) ?_
   refine vR TJ.f (sts ?_);refine bL rfl (sts ?_)
   iterate 6 refine rH (by first|decide|(show 3004≠3100+j;omega)) ?_
   refine vR TJ.f (sts ?_);refine Ly (z7 _) hlt (sts ?_);refine bL rfl (sts ?_);refine⟨j+1,⟨zom,zbo⟩,KeptG.to (vP0 S hN hlt 3330 rfl (by have:j<T.bs.length:=hlt;omega) (fun y h1 h2=>?_) ⟨?_,rfl⟩ ?_ ⟨apx,zD,apx,zD,zI zdd rfl rfl,zD,zG rfl zom,zA⟩)⟩
   .exact⟨(yM (show y≠3330 by omega)).trans ((yM (show y≠3100+j from h2)).trans ((yM (show y≠3329 by omega)).trans (Ir (show y≠3307 by omega) (show y≠3307 by omega) (show y≠3307 by omega)))),fs1 (show y≠3329 by omega)⟩
   .show some (rwB (vO T.fs[j]! T.ns.length 1))=_
    rw[show Dl T.vars T j=vO T.fs[j]! T.ns.length 1 by unfold Dl;rw[zE zom]]
   .rw[z7];rfl
 .have ejj:j=T.bs.length:=zom
  subst ejj;have ol:=S.w.ol;have cO:=uKM T.ob T.ns.length 0 zom zom;rw[ol]at cO
  refine gob ?_ ?_<;>intro h
  all_goals try omega
  refine qY (r:=3005) cO (Sl (b:=3308) zdd rfl rfl) rfl rfl rfl AX (sus ?_);have Pn:(zY (xB T.vars T) w T.ns.length).ns.length=T.ns.length+1:=by simp[zY,xB]
  have Pb:(zY (xB T.vars T) w T.ns.length).bs.length=T.bs.length:=by simp[zY,xB]
  have An:(xB T.vars T).ns.length=T.ns.length+1:=by simp[xB]
  have hne':(xB T.vars T).fs[w]![T.ns.length]! ≠ 0:=by
   have e1:(xB T.vars T).fs[w]! = vO T.fs[w]! T.ns.length 1:=(RS hw).trans (by rw[zE hwn]);rw[e1,Qp (S.w.ll w hw) zom,zB zom,zE rfl];decide
  refine uRX (kk:=3300) (k:={ ck 3000 with o:=3309 }) (T:=xB T.vars T) [3309] [] [(1,.ptr 3210 0 0),(4,.int .i64 w),(7,.ptr 3211 0 0),(8,.int .i64 T.ns.length)] (vi2 x) hN t3 zdd hm (Zl (T:=T) rfl (nd3 hm) (vW hm t3 rfl)) (fun _=>Zo) ?_ rfl ⟨apx,zD,apx,zD,zA⟩ ⟨xE zdd rfl ⟨zdd,rfl⟩ rfl rfl,bbx,zA⟩ rfl ?_
  .rw[uVQ,<- hx]
   refine TabSw.toS (w:=⟨T.ns.length+1,T.ns.length+1+1,(wI T.ns.length T.bs.length).f⟩) (TabSw.setO (k:=ck 3000) (T:=oL T.vars x T T.bs.length) TJ (nd3 hm) (fun y hy h1 h3=>?_) ⟨rfl,rfl⟩ ⟨rfl,rfl⟩ rfl) ?_ ?_ ?_ ?_
   .have:=dA hm hy
    exact⟨(yM h1).trans ((yM (show y≠3309 by omega)).trans ((yM h3).trans (yM (show y≠3308 by omega)))),fs1 (show y≠3308 by omega)⟩
   .show(vO T.ob T.ns.length 0).length=(T.ns++[x]).length+1
    rw[SX.ins_len ol];simp
   .exact fun i hi=>(zE hi).trans (by show _=(T.ns++[x]).length+1;simp)
   .show _=(T.ns++[x]).length;simp
   .show _=(T.ns++[x]).length+1;simp
  have TA:=vX (T:=xB T.vars T) (X:=vi2 x) hm t3 rfl;refine sts ?_;refine Il (T:=xB T.vars T) (ck 3000) (MP (xB T.vars T) w T.ns.length k Sa hw zom hne') (pF hm zdd) zdd TA fun k' h' z' nx' g1 g2 g3 g4 g5=>?_
  have gx:∀ q,q<3300->xk 3000 q=true->h' q=hv (vi2 x++yX (ck 3000) (xB T.vars T)) q/\z' q=false:=fun q hq hx=>g4 q (w9 hq zdd) (vW hm t3 hx)
  refine sus ?_;refine Iu (kk:=3300) k' [(1,.ptr 3210 0 0),(7,.ptr 3211 0 0)] (vi2 x) hN t3 zdd zom hm g1 g2 g3 ⟨apx,apx,zA⟩ ⟨xE zdd (gx 3210 zdd rfl).1 ⟨zdd,rfl⟩ rfl (gx 3210 zdd rfl).2.symm,vN zdd (gx 3211 zdd rfl).1 rfl rfl rfl (gx 3211 zdd rfl).2.symm,zA⟩ rfl (sus ?_)
  (refine wR ?_;refine sus ?_)
  have el:((((zY (xB T.vars T) w T.ns.length).ns.length:Nat):Int)+1).toNat=T.ns.length+1+1:=zom
  have hmP:(zY (xB T.vars T) w T.ns.length).bs.length<=64:=zom
  refine bK [] [(1,.ptr 3210 0 0),(7,.ptr 3211 0 0),(13,Fw)] _ [] 3300 zom (fun r hr=>by cases hr) trivial (KeptG.frz1 [] [] [(3306,(List.replicate (T.ns.length+1+1) (0:Rat)).map yF)] ⟨zA,zA,⟨⟨_,2,[],rfl,?_,rfl⟩,zA⟩⟩ (qA [(3212,3307),(3213,3306)] hN t3 zdd hmP ((((((vX (T:=zY (xB T.vars T) w T.ns.length) hmP t3 rfl).hsX hmP t3 rfl).hsX hmP t3 rfl).hsX hmP t3 rfl).putX hmP t3 rfl).fsX hmP t3 rfl) rfl ?_ ?_ rfl)) h2
  .show zZ (frz _ 2) (List.replicate _ FZ)=_
   rw[el];exact AR
  .exact⟨apx,apx,⟨rfl,zA,⟨zdd,rfl⟩,⟨zdd,rfl⟩,⟨zdd,rfl⟩,zA⟩,zA⟩
  .rw[<- hx]
   exact⟨xE zdd rfl ⟨zdd,rfl⟩ rfl rfl,bbx,xE zdd rfl ⟨zdd,zV (PV.own 3306 0) el⟩ rfl rfl,zH zdd rfl rfl wY rfl,zA⟩
open Go.Proofs Go.PI Go.Proofs.Tryz Go.PI.SX
def Dx(N:Nat)(T:Tab)(pv:PV)(s:St):Prop:=match nR T.vars T with
 |.inl (y,U)=>∃ q k',pv=.tup [.own q 0 T.bs.length,.bool true]/\(s.h q=some (rwB y)/\s.z q=false/\N<=q)/\(k'.ks U.bs.length).Nodup/\(∀ x∈k'.ks U.bs.length,x=1\/N<=x)/\TabS k' U s.h s.z
 |.inr U=>∃ k',pv=.tup [.nilsl,.bool true]/\(k'.ks U.bs.length).Nodup/\(∀ x∈k'.ks U.bs.length,x=1\/N<=x)/\TabS k' U s.h s.z
def uF7{N:Nat}{T:Tab}(h:u6 T.vars T T.bs.length=none):Dx N T=fun pv s=>∃ k',pv=.tup [.nilsl,.bool true]/\(k'.ks T.bs.length).Nodup/\(∀ x∈k'.ks T.bs.length,x=1\/N<=x)/\TabS k' T s.h s.z:=by
 unfold Dx;rw[show nR T.vars T=.inr T by unfold nR;rw[h]]
def uF6{N k w:Nat}{T P U:Tab}{I:Tab->Prop}(F:FeaH T k w P U I)(h:u6 T.vars T T.bs.length=some w):nR T.vars T=if 0<(xD (T.vars+T.bs.length) U)[U.ns.length]! then .inl (tN T.vars T.bs.length U.ns (xD (T.vars+T.bs.length) U),U) else .inr (uI (uJ (T.vars+T.bs.length) U) ((uJ (T.vars+T.bs.length) U).ns.idxOf (T.vars+T.bs.length))):=by
 unfold nR;rw[h];dsimp only;rw[show(sG T.vars (xD (T.vars+T.bs.length)) (zY (xB T.vars T) w T.ns.length)).1=U by rw[F.u,F.p];rfl]
def uSV{U:Tab}{x:Nat}:(uJ x U).bs.length=U.bs.length:=by
 unfold uJ;split<;>simp[zY]
set_option maxRecDepth 100000 in
def uQA(T:Tab)(k:Nat)(S:Sm k T)(hF:∀ w,u6 T.vars T T.bs.length=some w->∃ P U I,FeaH T k w P U I)(K:Tk)(N:Nat)(t0:Tm)(hK:K.Ok T.bs.length N)(hN:N<=3000):FnH prog G0 48 [.ptr 1 0 0] (Dx N T) ⟨t0,lsH (yX K T),fun _=>false,N⟩:=by
 rw[CE];have hm:=S.m1;have hn1:=S.n1;have hk2:=S.k2;refine iR zU hT (mkO func48 ntmps48 results48) zsm (sus ?_);refine RO (C:=3000) (kk:=3300) (T:=T) K [(3210,N)] [(1,.ptr 3210 0 0),(2,.nilsl),(3,.bool false)] fbX zom zdd zdd hm hK.nd (TabS.hs (Im hK.nd) (hK.not (zX _))) (fun r hr=>ZY (by rcases hr with hr|hr;omega;have:=dA zdd hr;omega)) ⟨BW zdd (by rw[Lu];rfl),jW rfl,wU rfl rfl,zA⟩ ⟨xE zdd (by rw[Lu];exact hs_same) ⟨zdd,rfl⟩ rfl rfl,zA⟩ rfl (fun p hp=>?_) (fun p hp q hq hne=>?_) ?_
 .cases yG.1 hp;rw[Lu];exact hK.not (zX _)
 .cases yG.1 hp
  cases yG.1 hq
  exact absurd rfl hne
 have TS:=vX (T:=T) (X:=fbX) hm t3 rfl;refine sts ?_
 refine eO hT (fun(j:Nat)=>[(1,.ptr 3210 0 0),(2,.nilsl),(3,.bool false),(4,.int .i64 (onI (u6 T.vars T j))),(23,.own 3002 0 T.bs.length),(24,.int .i64 T.bs.length),(25,.int .i64 j)])
  (fun j=>fbX++yX (ck 3000) T) 3300 (fun j=>j<=T.bs.length) (fun j=>T.bs.length-j) 0 (z8 _) zom ?_ ?_
 .exact KeptG.to (qA [] hN t3 zdd hm TS rfl ⟨apx,jW rfl,wU rfl rfl,zD,zI zdd rfl rfl,zD,zD,zA⟩ ⟨xE zdd rfl ⟨zdd,rfl⟩ rfl rfl,zA⟩ rfl)
 intro j hj;by_cases hlt:j<T.bs.length
 .have hq:=S.e.1 j hlt T.ns.length zom
  have l1:=yO hq;have cs:=r9 (cr T.fs[j]![T.ns.length]!) (yH _) zom;rw[yC]at cs;have hz:=SJ T.fs[j]![T.ns.length]!;have hst:=uCR (v:=T.vars) (T:=T) (k:=j);rcases ho:u6 T.vars T j with _|b
  .rw[show onI none=-1 from rfl]
   refine gob ?_ ?_<;>intro h
   all_goals try omega
   refine yB j (z7 _) hlt (sts ?_);refine mR [(1,⟨[qU (ck 3000) T],7,true⟩)] 3300 (SR T T.bs[j]!) (SV TS.t.1 rfl) rfl ?_
   refine gob ?_ ?_<;>intro h
   .exact⟨j+1,⟨zom,zbo⟩,KeptG.to (qA [] hN t3 zdd hm TS rfl ⟨apx,jW rfl,wU rfl rfl,zG rfl (by rw[hst.1 zom,ho];rfl),zI zdd rfl rfl,zD,zG rfl zom,zA⟩ ⟨xE zdd rfl ⟨zdd,rfl⟩ rfl rfl,zA⟩ rfl)⟩
   .refine mR (cnL T j) 3300 (MR T j k S hlt) (MS TS hm hlt) rfl ?_
    refine sts ?_;refine zT cs rfl ?_
    refine gob ?_ ?_<;>intro h
    all_goals try omega
    .exact⟨j+1,⟨zom,zbo⟩,KeptG.to (qA [] hN t3 zdd hm TS rfl ⟨apx,jW rfl,wU rfl rfl,zG rfl (by rw[hst.2.1 ⟨zom,hz.1 ‹_›⟩ ho];rfl),zI zdd rfl rfl,zD,zG rfl zom,zA⟩ ⟨xE zdd rfl ⟨zdd,rfl⟩ rfl rfl,zA⟩ rfl)⟩
    .exact⟨j+1,⟨zom,zbo⟩,KeptG.to (qA [] hN t3 zdd hm TS rfl ⟨apx,jW rfl,wU rfl rfl,zG rfl (by rw[hst.1 (fun h=>absurd (hz.2 h.2) ‹_›),ho];rfl),zI zdd rfl rfl,zD,zG rfl zom,zA⟩ ⟨xE zdd rfl ⟨zdd,rfl⟩ rfl rfl,zA⟩ rfl)⟩
  .obtain⟨hb1,hb2⟩:=uK1 ho
   have hqb:=S.e.1 b zom T.ns.length zom;have l2:=yO hqb;have cc:=DX (cr T.fs[j]![T.ns.length]!) (cr T.fs[b]![T.ns.length]!) (yH _) (yH _) zom zom zom zom;rw[yC,yC]at cc;have z1:=@sgn_lt T.fs[j]![T.ns.length]! T.fs[b]![T.ns.length]!;rw[show onI (some b)=(b:Int) from rfl]
   refine gob ?_ ?_<;>intro h
   all_goals try omega
   refine yB j (z7 _) hlt (sts ?_);refine mR [(1,⟨[qU (ck 3000) T],7,true⟩)] 3300 (SR T T.bs[j]!) (SV TS.t.1 rfl) rfl ?_
   refine gob ?_ ?_<;>intro h
   .exact⟨j+1,⟨zom,zbo⟩,KeptG.to (qA [] hN t3 zdd hm TS rfl ⟨apx,jW rfl,wU rfl rfl,zG rfl (by rw[hst.1 zom,ho];rfl),zI zdd rfl rfl,zD,zG rfl zom,zA⟩ ⟨xE zdd rfl ⟨zdd,rfl⟩ rfl rfl,zA⟩ rfl)⟩
   .refine mR (cnL T j) 3300 (MR T j k S hlt) (MS TS hm hlt) rfl ?_
    refine sts ?_;refine zT cs rfl ?_
    refine gob ?_ ?_<;>intro h
    all_goals try omega
    .refine mR (cnL T j) 3300 (MR T j k S hlt) (MS TS hm hlt) rfl ?_
     refine sts ?_;refine mR (cnL T b) 3300 (MR T b k S zom) (MS TS hm zom) rfl (sts ?_);refine zT cc rfl ?_
     refine gob ?_ ?_<;>intro h
     .exact⟨j+1,⟨zom,zbo⟩,KeptG.to (qA [] hN t3 zdd hm TS rfl ⟨apx,jW rfl,wU rfl rfl,zG rfl (by rw[(hst.2.2 ⟨zom,hz.1 ‹_›⟩ b ho).1 (z1.1 ‹_›)];rfl),zI zdd rfl rfl,zD,zG rfl zom,zA⟩ ⟨xE zdd rfl ⟨zdd,rfl⟩ rfl rfl,zA⟩ rfl)⟩
     .exact⟨j+1,⟨zom,zbo⟩,KeptG.to (qA [] hN t3 zdd hm TS rfl ⟨apx,jW rfl,wU rfl rfl,zG rfl (by rw[(hst.2.2 ⟨zom,hz.1 ‹_›⟩ b ho).2 (fun h=>absurd (z1.2 h) ‹_›)];rfl),zI zdd rfl rfl,zD,zG rfl zom,zA⟩ ⟨xE zdd rfl ⟨zdd,rfl⟩ rfl rfl,zA⟩ rfl)⟩
    .exact⟨j+1,⟨zom,zbo⟩,KeptG.to (qA [] hN t3 zdd hm TS rfl ⟨apx,jW rfl,wU rfl rfl,zG rfl (by rw[hst.1 (fun h=>absurd (hz.2 h.2) ‹_›),ho];rfl),zI zdd rfl rfl,zD,zG rfl zom,zA⟩ ⟨xE zdd rfl ⟨zdd,rfl⟩ rfl rfl,zA⟩ rfl)⟩
 .have ej:j=T.bs.length:=zom
  subst ej;rcases ho:u6 T.vars T T.bs.length with _|w
  .rw[uF7 ho,show onI none=-1 from rfl]
   refine gob ?_ ?_<;>intro h
   all_goals try omega
   exact⟨ck 3000,rfl,nd3 hm,Sg hm hN,TS⟩
  .obtain⟨P,U,I,F⟩:=hF w ho
   obtain⟨w1,w2,w3,_⟩:=Qo ho;have hfe:=uF6 (N:=N) F ho;have SU:=(F.i U F.iu).1;rw[show onI (some w)=(w:Int) from rfl];refine sus ?_;refine wR ?_;(repeat' (first|refine stu ?_|with_reducible(refine brr ?_ ?_<;>intro h)));all_goals try(conv=>whnf)
   all_goals try omega
   refine FX (kk:=3300) [] [(1,.ptr 3210 0 0),(4,.int .i64 w)] fbX hN t3 zdd hm TS rfl ⟨apx,zD,zA⟩ ⟨xE zdd rfl ⟨zdd,rfl⟩ rfl rfl,zA⟩ rfl ?_;refine uPC T w k N _ S F.a hN w1 (by grind) w2 ?_;rw[<- F.p];have eu:(xL P.vars (xD (T.vars+T.bs.length)) (65537-P.pv) P).1=U:=by rw[F.u,show P.vars=T.vars by rw[F.p];rfl]
   refine uPB P _ _ k N _ I hN F.i F.s F.ip F.pp (by rw[eu];exact F.pu) (by rw[eu,F.ub];exact hm) ?_;rw[eu];refine uPA U _ _ k N _ SU hN (F.i U F.iu).2.1 (F.i U F.iu).2.2.1 (fun hp=>?_) fun hp s q k' g1 g2 g3 g4=>?_
   .obtain⟨o1,o2,o3⟩:=F.o hp
    refine uO9 U _ k N _ SU hN o1 o2 o3 fun s k' g1 g2 g3=>?_
    unfold Dx;rw[hfe,zB hp];have eb:(uI (uJ (T.vars+T.bs.length) U) ((uJ (T.vars+T.bs.length) U).ns.idxOf (T.vars+T.bs.length))).bs.length=U.bs.length:=uSV;exact⟨k',rfl,by rw[eb];exact g1,by rw[eb];exact g2,g3⟩
   .unfold Dx
    rw[hfe,zE hp];rw[F.ub,F.uv]at g4;exact⟨q,k',by rw[F.ub],g4,g1,g2,g3⟩
open Go.Proofs Go.PI Go.Proofs.Tryz Go.PI.SX
abbrev dE:PV:=.agg [.int .i64 0,.bool false,.nilsl,.nilsl,.nilsl,.nilsl,.nilsl,.nilsl,.int .i64 0]
noncomputable abbrev uXY:Code:=sn (sn (sn (sn (sn (sn (sn (f17.body.getD .skip)))))))
noncomputable abbrev uYL:Code:=sn uXY
abbrev soX:List (Nat×Blk):=[(3208,⟨[dE],9,true⟩),(3210,⟨[.ptr 1 0 0],1,false⟩)]
abbrev soD(T:Tab):List (Nat×Blk):=[(3208,⟨[dE],9,true⟩),(3210,⟨[.cptr (pG T) 0],1,false⟩)]
def uR4{N:Nat}{T:Tab}{K:St->Prop}{Q:Exit->St->Prop}{s:St}(L:List (Nat×PV))(W:Wf T)(hm:T.bs.length<=64)(S:TabS (ck 3000) T s.h s.z)(h1:s.h 3208=some ⟨[dE],9,true⟩/\s.z 3208=false)(h2:s.h 3210=some ⟨[.ptr 1 0 0],1,false⟩/\s.z 3210=false)(hN:N<=3000)(hL:okV id 3300 L s.t)(h:K ⟨sv L,hv (soD T),zv [],3300⟩):tX (LeS G0,N) K Q .normal s :=
 Zx L hN W S h1 h2 zsm rfl ⟨vW hm t3 rfl,vW hm t3 rfl⟩ hL h
def uHD(l:List Nat)(hl:l.length<=1000):Fn 57 [.imm (yV l)] (.data (.imm (yV l))):=by
 refine yJ zU hT (mkO func57 ntmps57 results57) zsm ?_
 (repeat' (first|refine stn ?_|(with_reducible refine brr ?_ ?_<;>intro h)|(with_reducible refine Gz ?_ ?_<;>intro h)|with_reducible refine G3 ?_ ?_));all_goals try (conv=>whnf)
 .exact zL rfl (by rw[‹l=[]›];rfl)
 all_goals exact zL (xP (f:=fun(i:Nat)=>PV.int .i64 (i:Int)) (l:=l) rfl rfl ((z7 _).trans (z6 _)) fun _=>rfl) rfl
def uLK (T:Tab) (k:Nat) (S:Sm k T) (I:Tab->Prop) (M:MinH T k I):VC prog (nth tab) G0 0 uYL (rS (nth tab) [.cell 2 68,.tmp 3] fun v s=>Ee s.h v (.tup [iW (qH (match sG T.vars (·.ob) T with
        |(U,some e)=>.unb (u7 T.vars U) (mO T.vars U e 1) U.pv
        |(U,none)=>.opt U.ob[U.ns.length]! (u7 T.vars U) (tN T.vars T.bs.length U.ns U.ob) U.bs U.pv)),.int .i64 0])) ⟨sv [(2,.ptr 3208 0 0),(4,.ptr 3210 0 0)],hv (soX++yX (ck 3000) T),zv [],3300⟩:=by
 have hm:=S.m1;have TS:=vX (T:=T) (X:=soX) hm t3 rfl;have SU:=M.i _ M.iu;have L:=uFK k I M.i;have cM:=uKK T k 55 _ obX (·.ob) I L (fun U hU=>⟨M.i U hU,(M.i U hU).w.ol,fun j hj=>(M.i U hU).e.2 j zom⟩) M.s M.i0 M.p;rw[show decide ((xL T.vars (·.ob) (65537-T.pv) T).1.pv<=65536)=true from sJ M.pu]at cM;have eS:=Zu (n:=T.vars) (ln:=(·.ob)) (65537-T.pv) T;have eR:sG T.vars (·.ob) T=xL T.vars (·.ob) (65537-T.pv) T:=rfl;rw[eR];generalize xL T.vars (·.ob) (65537-T.pv) T=R at *
 obtain⟨U,o⟩:=R;dsimp only at SU cM ⊢;have hx:=L.x;refine sts ?_;refine ZZ (T:=T) (ck 3000) obX cM (pF hm zdd) (fun p hp=>by cases yG.1 hp;exact⟨vW hm t3 rfl,(show 3210<3302 by decide)⟩) (fun p hp=>by have:=hx.lt p hp;omega) hx.nd zdd TS (fun p hp=>by cases yG.1 hp;exact⟨rfl,rfl⟩) fun k' h' z' nx' g1 g2 g3 g4 g5=>?_
 have gx:∀ q,q<3300->xk 3000 q=true->h' q=hv (soX++yX (ck 3000) T) q/\z' q=false:=fun q hq hx=>g4 q (w9 hq zdd) (vW hm t3 hx)
 refine sus ?_;have nk:∀ q,q<3300->xk 3000 q=true->q∉k'.ks U.bs.length:=fun q hq hx h=>(g2 q h).elim (vW hm t3 hx) fun h=>absurd (nB h hq) zdd
 refine Zx [(2,.ptr 3208 0 0),(4,.ptr 3210 0 0),(6,.bool true),(10,.int .i64 (onI o))] (z8 _) SU.w g3 ⟨(gx 3208 zdd rfl).1.trans rfl,(gx 3208 zdd rfl).2⟩ ⟨(gx 3210 zdd rfl).1.trans rfl,(gx 3210 zdd rfl).2⟩ zsm rfl ⟨nk 3208 zdd rfl,nk 3210 zdd rfl⟩ ⟨apx,apx,wU rfl rfl,zD,zA⟩ ?_;cases o with
 | some e =>
   have he:e<U.ns.length:=eS.2.2 e rfl;have hk2:=SU.k2;have c1:=bE 1 zdd;rw[show(((1:Int)):Rat)=1 by rfl]at c1;have cy:=uKI U e k 1 SU he (xV SU.k1 ⟨zdd,zdd⟩);have cx:=SK U k SU;rw[eS.1]at cx cy;rw[show onI (some e)=(e:Int) from rfl];refine sts ?_;refine cvd cx ?_;refine cvd c1 ?_;refine cvd cy ?_;refine zL rfl ?_;rw[Zw]
 | none =>
   have ol:=SU.w.ol;have n1:=SU.n1;have m1:=SU.m1;have l1:(yV U.ns).length=U.ns.length:=z6 _;have l2:(yS U.ob).length=U.ob.length:=z6 _;have cx:=SK U k SU;have cd:=uQB U U.ob k SU ol;rw[eS.1]at cx cd;rw[eS.2.1]at cd;rw[show onI none=-1 from rfl];refine sts ?_;refine cvd cx ?_;refine cvd cd ?_;refine cvd (uHD U.bs zom) ?_;refine zL rfl ?_;rw[uLH,<- l1]
def uLL(T:Tab)(n k:Nat)(S:Sm k T)(vT:T.vars=n)(hI:iF n T=none->∃ I,MinH T k I):VC prog (nth tab) G0 0 uXY (rS (nth tab) [.cell 2 68,.tmp 3] fun v s=>Ee s.h v (.tup [iW (qH (match iF n T with
 |some e=>.unb (u7 n T) (mO n T e (- AK T.ob[e]!)) T.pv
 | none=>match sG n (·.ob) T with
   |(U,some e)=>.unb (u7 n U) (mO n U e 1) U.pv
   |(U,none)=>.opt U.ob[U.ns.length]! (u7 n U) (tN n T.bs.length U.ns U.ob) U.bs U.pv)),.int .i64 0])) ⟨sv [(2,.ptr 3208 0 0),(4,.ptr 3210 0 0)],hv (soX++yX (ck 3000) T),zv [],3300⟩:=by
 have hm:=S.m1;have hn1:=S.n1;have hk2:=S.k2;have ol:=S.w.ol;have TS:=vX (T:=T) (X:=soX) hm t3 rfl;subst vT;refine sts ?_;refine eO hT (fun(j:Nat)=>[(2,.ptr 3208 0 0),(4,.ptr 3210 0 0),(38,.own 3003 0 T.ns.length),(39,.int .i64 T.ns.length),(40,.int .i64 j)]) (fun _=>soX++yX (ck 3000) T) 3300 (fun j=>j<=T.ns.length/\∀ i,i<j->¬ (T.ns[i]! < T.vars/\T.ob[i]! ≠ 0)) (fun j=>T.ns.length-j) 0 ⟨z8 _,fun i hi=>absurd hi (EG _)⟩ zom ?_ ?_
 .exact KeptG.to (qA [] (z8 _) t3 zdd hm TS rfl ⟨apx,apx,zI zdd rfl rfl,zD,zD,zA⟩ ⟨bbx,xE zdd rfl ⟨zdd,rfl⟩ rfl rfl,zA⟩ rfl)
 intro j ⟨hj,hno⟩;by_cases hlt:j<T.ns.length
 .have hq:=S.e.2 j zom
  have l1:=yO hq;have cs:=r9 (cr T.ob[j]!) (yH _) zom;rw[yC]at cs;have hz:=@sgnQ_zero T.ob[j]!;have hsb:=Rj T.ob[j]!
  have nxt:¬ (T.ns[j]! < T.vars/\T.ob[j]! ≠ 0)->∀ i,i<j+1->¬ (T.ns[i]! < T.vars/\T.ob[i]! ≠ 0):=fun h i hi=>by
   by_cases e:i=j
   .rw[e];exact h
   .exact hno i zom
  refine gob ?_ ?_<;>intro h
  all_goals try omega
  refine yB j (z7 _) hlt (sts ?_);refine yB j (z7 _) (by show j<T.ob.length;omega) ?_;refine sts ?_;refine cvd cs ?_;refine mR [(1,⟨[qU (ck 3000) T],7,true⟩)] 3300 (SR T T.ns[j]!) (SV TS.t.1 rfl) rfl ?_
  (repeat' (first|refine stu ?_|with_reducible(refine brr ?_ ?_<;>intro h)));all_goals try(conv=>whnf)
  .by_cases hne:T.ob[j]! = 0
   .refine FX [] [(2,.ptr 3208 0 0),(4,.ptr 3210 0 0),(38,.own 3003 0 T.ns.length),(39,.int .i64 T.ns.length),(40,.int .i64 j),(59,.bool false)] soX (kk:=3300) (z8 _) t3 zdd hm TS rfl ⟨apx,apx,zI zdd rfl rfl,zD,zD,wU rfl ?_,zA⟩ ⟨bbx,xE zdd rfl ⟨zdd,rfl⟩ rfl rfl,zA⟩ rfl ?_
    .show(xQ T.ob[j]! != 0)=false
     rw[hz.2 hne];rfl
    refine sts ?_;exact⟨j+1,⟨⟨zom,nxt fun h=>h.2 hne⟩,zbo⟩,KeptG.to (qA [] (z8 _) t3 zdd hm TS rfl ⟨apx,apx,zI zdd rfl rfl,zD,zG rfl zom,zA⟩ ⟨bbx,xE zdd rfl ⟨zdd,rfl⟩ rfl rfl,zA⟩ rfl)⟩
   .refine uR4 [(2,.ptr 3208 0 0),(4,.ptr 3210 0 0),(7,.int .i64 j),(9,.int .i64 (xQ T.ob[j]!)),(59,.bool true)] S.w hm TS ⟨rfl,rfl⟩ ⟨rfl,rfl⟩ (z8 _) ⟨apx,apx,zD,zD,wU rfl ?_,zA⟩ ?_
    .show(xQ T.ob[j]! != 0)=true
     exact Ap.2 fun h=>hne (hz.1 h)
    have cq:=bE (0-xQ T.ob[j]!) zom;rw[Zv]at cq;have cy:=uKI T j k (- AK T.ob[j]!) S hlt (by rw[<- Zv];exact xV S.k1 (pX zom))
    have ef:iF T.vars T=some j:=by
     unfold iF;rw[JL];exact⟨andT.2 ⟨‹_›,hne⟩,yN.2 hlt,fun i hi=>by rw[andF.2 fun h1 h2=>hno i hi ⟨h1,h2⟩];rfl⟩
    refine sts ?_;refine cvd (SK T k S) ?_;refine cvd cq ?_;refine cvd cy ?_;rw[ef];refine zL rfl ?_;rw[Zw]
  .refine sts ?_
   exact⟨j+1,⟨⟨zom,nxt fun h=>‹¬ T.ns[j]! < T.vars› h.1⟩,zbo⟩,KeptG.to (qA [] (z8 _) t3 zdd hm TS rfl ⟨apx,apx,zI zdd rfl rfl,zD,zG rfl zom,zA⟩ ⟨bbx,xE zdd rfl ⟨zdd,rfl⟩ rfl rfl,zA⟩ rfl)⟩
 .have ej:j=T.ns.length:=zom
  subst ej
  have ef:iF T.vars T=none:=by
   unfold iF;rw[CZ]
   exact fun e he=>by
    have:=hno e (yN.1 he)
    simpa using this
  obtain⟨I,M⟩:=hI ef;rw[ef];refine sus ?_;refine wR ?_;(repeat' (first|refine stu ?_|with_reducible(refine brr ?_ ?_<;>intro h)));all_goals try(conv=>whnf)
  all_goals try omega
  exact FX [] [(2,.ptr 3208 0 0),(4,.ptr 3210 0 0)] soX (z8 _) t3 zdd hm TS rfl ⟨apx,apx,zA⟩ ⟨bbx,xE zdd rfl ⟨zdd,rfl⟩ rfl rfl,zA⟩ rfl (uLK T k S I M)
def uS8{P:QP}{n k:Nat}(H:SolH P n k):okP 2147483596 P.L:=by
 have hk:=H.k1;have hn:=H.n1
 have one:∀ f:QF,okF (n:Int) f/\szF k f->okA 2147483596 f.L:=fun f hf =>
  qP zom (Eu hf.2 (by have:=aS n hf.1.1.1 hf.1.2;omega))
 refine⟨one _ H.ob,fun f hf=>?_,by have:=H.m1;simp only[QP.L,z6];omega⟩;obtain⟨g,hg,rfl⟩:=zW.1 hf;exact one g (H.r g hg)
set_option maxRecDepth 100000 in
def vQS(P:QP)(n k:Nat)(H:SolH P n k):Fn 17 [nM P] (.data (.tup [iW (qH (solF n (A0 P n) (frX P.obj n))),.int .i64 0])):=by
 have hPv:=H.v
 have cv:Fn 45 [nM P] (.data (.bool true)):=by
  have hok:WH P:=⟨⟨by rw[H.v];omega,by rw[H.v];have:=H.n1;omega⟩,by have:=H.m1;omega,by rw[H.v];exact H.ob.1,fun f hf=>by rw[H.v];exact(H.r f hf).1⟩;have c:=uHK P.L (uS8 H);rw[<- uPL,validPB_true.2 (vTT hok)]at c;exact c
 refine fnV (mkO func17 ntmps17 results17) ?_;refine cvd cv ?_;have hs:=uOS P n 7 k (fun _=>.any) zdd H.v H.n1 H.m1 H.r H.ob H.k1;refine L9 (L:=[]) hs NT (fun p hp=>by cases hp) fun pv s1 hq hn h' z' g1 g2 g3=>?_
 obtain⟨q,K,e,k1,k2,k3⟩:=hq;subst e;refine sus ?_;refine Dk (sts ?_);refine Lt (by rw[g3 _ hn];rfl) ?_;refine sus ?_;have hb0:(T0 P n).bs.length=P.rows.length:=by simp[set0]
 have hn0:(T0 P n).ns.length=n:=by simp[set0]
 have n7:7<=s1.nx:=hn;have n1':(1:Nat)≠s1.nx:=zom
 have hm1:=H.m1;refine bK [] [(2,.ptr 1208 0 0),(4,.ptr 1210 0 0)] ([(1208,⟨[dE],9,true⟩),(1210,⟨[.ptr 1 0 0],1,false⟩)]++yX (ck 1000) (T0 P n)) [] 1300 (z8 _) (fun r hr=>by cases hr) trivial (KeptG.to (vY7 (C:=1000) (k:=K) (q:=q) (ρ:=fun r=>if r=1 then q else tkρ K 1000 [(1208,1),(1210,s1.nx)] r) zdd zdd zom (by rw[hb0];exact k1) (fun p hp=>?_) rfl rfl rfl rfl rfl (fun i hi=>?_) (fun r hr=>absurd hr (EG _)) ⟨apx,apx,zA⟩ ?_ ?_ ?_)) ?_
 .have hx:p.1∈K.ksq q P.rows.length:=by rw[<- hb0,<- vT7];exact zW.2 ⟨p,hp,rfl⟩
  have hx:=k2 _ hx;have g:=g1 p.1 p.2 (zF hx.1) (k3 p hp).1 (k3 p hp).2;exact⟨(yM (Nat.ne_of_lt hx.2)).trans ((yM (Nat.ne_of_lt hx.2)).trans g.1),g.2⟩
 .show(if 1000+100+i=1 then q else tkρ K 1000 [(1208,1),(1210,s1.nx)] (1000+100+i))=K.r i
  have hi:i<64:=zom
  rw[zB zom,Dj (q:=1000+100+i) (j:=100+i) zom (CG fun p hp=>by
   simp only[yI,uU,uX]at hp;rcases hp with rfl|rfl
   .exact(show 1208≠1000+100+i by omega)
   .exact(show 1210≠1000+100+i by omega)) zom,zB zom,zB zom,zB zom,zB zom]
  congr 1;omega
 .exact⟨vN (v':=dE) zdd ((yM n1').trans ((yM n1').trans ((g2 1 zdd zsm).1.trans rfl))) rfl rfl rfl ((g2 1 zdd zsm).2.trans rfl).symm,xE (v':=.ptr q 0 0) zdd (hs_same.trans rfl) ⟨zdd,rfl⟩ rfl (g3 _ hn).symm,zA⟩
 .intro p hp hq
  simp only[yI,uU,uX]at hp;have h0:=k2 _ (by rw[hb0]at hq;exact hq);rcases hp with rfl|rfl
  .exact absurd (show 7<=1 from h0.1) zdd
  .exact absurd (show s1.nx<s1.nx from h0.2) (dH _)
 .intro p hp p' hp' hne
  simp only[yI,uU,uX]at hp hp';rcases hp with rfl|rfl<;>rcases hp' with rfl|rfl
  .exact absurd rfl hne
  .exact n1'
  .exact n1'.symm
  .exact absurd rfl hne
 refine sus ?_
 have cR:=vSX (T0 P n) k (by rw[hn0];exact H.rel) (by rw[hn0];exact H.n0) (fun j hj=>by
  rw[hn0]at hj;show(List.range n)[j]! < n
  rw[gp (by simpa using hj)];simpa using hj)
 rw[hn0]at cR;have cR:FnT prog G0 47 [] 5000 (T0 P n) (.tup []) (T1 P n):=cR;have hl1:=Ff (n:=n) (T:=T0 P n) n;have hm0:(T0 P n).bs.length<=64:=zom
 have hmT:(T1 P n).bs.length<=64:=by rw[show(T1 P n).bs.length=(T0 P n).bs.length from hl1.1];exact hm0
 have TS0:=vX (T:=T0 P n) (X:=[(1208,⟨[dE],9,true⟩),(1210,⟨[.ptr 1 0 0],1,false⟩)]) (C:=1000) hm0 zdd rfl;refine Il (T:=T0 P n) (ck 1000) cR (pF hm0 zdd) zdd TS0 fun k' h2 z2 nx2 q1 q2 q3 q4 q5=>?_
 have gx:∀ q,q<1300->xk 1000 q=true->h2 q=hv ([(1208,⟨[dE],9,true⟩),(1210,⟨[.ptr 1 0 0],1,false⟩)]++yX (ck 1000) (T0 P n)) q/\z2 q=false:=fun q hq hx=>q4 q (w9 hq zdd) (vW hm0 zdd hx)
 refine sus ?_;refine Iu (C:=1000) (kk:=1300) k' [(2,.ptr 1208 0 0),(4,.ptr 1210 0 0)] [(1208,⟨[dE],9,true⟩),(1210,⟨[.ptr 1 0 0],1,false⟩)] (z8 _) zdd zdd hmT hm0 q1 q2 q3 ⟨apx,apx,zA⟩ ⟨vN zdd (gx 1208 zdd rfl).1 rfl rfl rfl (gx 1208 zdd rfl).2.symm,xE zdd (gx 1210 zdd rfl).1 ⟨zdd,rfl⟩ rfl (gx 1210 zdd rfl).2.symm,zA⟩ rfl ?_;clear hs hn g1 g2 g3 k1 k2 k3 q1 q2 q3 q4 q5 gx;have S1:=H.rel n (zX _);have TS1:=vX (T:=T1 P n) (X:=[(1208,⟨[dE],9,true⟩),(1210,⟨[.ptr 1 0 0],1,false⟩)]) (C:=1000) hmT zdd rfl;have hv1:(T1 P n).vars=n:=hl1.2.2;have cF:=uQA (T1 P n) k S1 (by rw[hv1];exact H.fea) (ck 1000) 1301 (fun _=>.any) (pF hmT zdd) zdd;refine sts ?_;refine L9 cF (by rw[u9];exact(pF (N:=1164) hmT zdd).nd) (fun p hp=>?_) fun pv s2 hq hn h3 z3 r1 r2 r3=>?_
 .have hx:p.1∈(ck 1000).ks (T1 P n).bs.length:=by rw[<- u9];exact zW.2 ⟨p,hp,rfl⟩
  have ok:=pF (C:=1000) (m:=(T1 P n).bs.length) (N:=1301) hmT zdd;exact⟨(TS1 p hp).1,(TS1 p hp).2,ok.lt _ hx,ok.pos _ hx⟩
 have in1:∀ x,(x=1\/1301<=x)->1301<=x\/x∈(yX (ck 1000) (T1 P n)).map (·.1):=fun x hx=>by
  rw[u9];exact hx.elim (fun e=>zC (ks_mem.2 (zF e))) zF
 have gx:∀ q,q<1300->xk 1000 q=true->h3 q=hv ([(1208,⟨[dE],9,true⟩),(1210,⟨[.ptr 1 0 0],1,false⟩)]++yX (ck 1000) (T1 P n)) q/\z3 q=false:=fun q hq hx=>r2 q (w9 hq zdd) (by rw[u9];exact vW hmT zdd hx)
 cases hf:nR n (T1 P n) with
 | inl yU =>
   obtain⟨y,U⟩:=yU;unfold Dx at hq;rw[hv1,hf]at hq;obtain⟨q,k',e,⟨b1,b2,b3⟩,nd,ks,TS⟩:=hq;subst e;obtain⟨SU,hm0',hyl⟩:=H.inf y U hf;have TSU:TabS k' U h3 z3:=fun p hp=>r1 p.1 p.2 (in1 _ (ks _ (by rw[<- u9];exact zW.2 ⟨p,hp,rfl⟩))) (TS p hp).1 (TS p hp).2
   have hq3:=r1 q _ (zF b3) b1 b2;have e0:solF n (A0 P n) (frX P.obj n)=.inf y U.pv:=by unfold solF;rw[show nR n (yT n (set0 n (A0 P n) (frX P.obj n)) n)=_ from hf]
   rw[e0];refine sts ?_;refine vYB (fun h=>absurd h zom) fun _=>?_
   refine sts ?_;refine vR ((gx 1210 zdd rfl).1.trans rfl) (sts ?_);refine vR TSU.t.1 (sts ?_);refine vR ((gx 1208 zdd rfl).1.trans rfl) (sts ?_);refine Lt (by rw[(gx 1208 zdd rfl).2];rfl) ?_;refine sts ?_;have hf:frz (hs h3 1208 (some ⟨[.agg [.int .i64 2,.bool false,.nilsl,.nilsl,.nilsl,.own q 0 (T1 P n).bs.length,.nilsl,.nilsl,.int .i64 U.pv]],9,true⟩)) 2 (.own q 0 (T1 P n).bs.length)=some (.imm (yS y),[q]):=xP ((yM zom).trans hq3.1) rfl hyl.symm fun _=>rfl
   exact zL (Cz (yL (lJ (yL rfl (yL rfl (yL rfl (yL rfl (yL rfl (yL hf rfl))))))) rfl)) (by rw[uLI])
 | inr T =>
   unfold Dx at hq;rw[hv1,hf]at hq;obtain⟨k',e,nd,ks,TS⟩:=hq;subst e;obtain⟨ST,vT,hI⟩:=H.opt T hf;have hmU:=ST.m1;have hnU:=ST.n1;have hk2:=ST.k2;have ol:=ST.w.ol;have TSU:TabS k' T h3 z3:=fun p hp=>r1 p.1 p.2 (in1 _ (ks _ (by rw[<- u9];exact zW.2 ⟨p,hp,rfl⟩))) (TS p hp).1 (TS p hp).2
   have e0:solF n (A0 P n) (frX P.obj n)=(match iF n T with
    |some e=>.unb (u7 n T) (mO n T e (- AK T.ob[e]!)) T.pv
    | none=>match sG n (·.ob) T with
      |(U,some e)=>.unb (u7 n U) (mO n U e 1) U.pv
      |(U,none)=>.opt U.ob[U.ns.length]! (u7 n U) (tN n T.bs.length U.ns U.ob) U.bs U.pv):=by
    unfold solF;rw[show nR n (yT n (set0 n (A0 P n) (frX P.obj n)) n)=_ from hf];rfl
   have nks:∀ x,x≠1->x<1301->x∉k'.ks T.bs.length:=fun x h1 h2 h=>(ks x h).elim h1 fun h=>by omega
   refine sus ?_;refine bK [] [(2,.ptr 3208 0 0),(4,.ptr 3210 0 0),(5,.nilsl),(6,.bool true)] ([(3208,⟨[dE],9,true⟩),(3210,⟨[.ptr 1 0 0],1,false⟩)]++yX (ck 3000) T) [] 3300 (z8 _) (fun r hr=>by cases hr) trivial (KeptG.to (FT (C:=3000) (k:=k') (ax:=[(3208,1208),(3210,1210)]) (z8 _) zdd zdd hmU nd TSU (fun r hr=>CG fun p hp=>?_) ⟨apx,apx,jW rfl,wU rfl rfl,zA⟩ ?_ rfl (fun p hp=>?_) (fun p hp p' hp' hne=>?_))) ?_
   .have hr:r<3164:=hr.elim (fun h=>absurd h (EG _)) fun h=>dA zdd h
    simp only[yI,uU,uX]at hp;rcases hp with rfl|rfl
    .exact(show 3208≠r by omega)
    .exact(show 3210≠r by omega)
   .exact⟨vN zdd (gx 1208 zdd rfl).1 rfl rfl rfl (gx 1208 zdd rfl).2.symm,xE zdd (gx 1210 zdd rfl).1 ⟨zdd,rfl⟩ rfl (gx 1210 zdd rfl).2.symm,zA⟩
   .simp only[yI,uU,uX]at hp
    rcases hp with rfl|rfl
    .exact nks 1208 zdd zdd
    .exact nks 1210 zdd zdd
   .simp only[yI,uU,uX]at hp hp'
    rcases hp with rfl|rfl<;>rcases hp' with rfl|rfl
    .exact absurd rfl hne
    .exact(show(1208:Nat)≠1210 by decide)
    .exact(show(1210:Nat)≠1208 by decide)
    .exact absurd rfl hne
   clear r1 r2 r3 gx TS TSU nks ks nd;have TSM:=vX (T:=T) (X:=soX) hmU t3 rfl;refine sus ?_
   (refine wR ?_;refine sus ?_)
   (refine wR ?_;refine sus ?_)
   (refine wR ?_;refine sus ?_)
   rw[e0];exact FX [] [(2,.ptr 3208 0 0),(4,.ptr 3210 0 0)] soX (z8 _) t3 zdd hmU TSM rfl ⟨apx,apx,zA⟩ ⟨bbx,xE zdd rfl ⟨zdd,rfl⟩ rfl rfl,zA⟩ rfl (uLL T n k ST vT hI)
end Go.PI.Tryz
