/-
  simplex: the line of the auxiliary variable.
-/
import Derived.Test.YtcbepncdbgaohaaGreatDoorCF1
set_option linter.all false
set_option maxHeartbeats 0
namespace Go.PI.Tryz
open Go.Proofs Go.PI Go.Proofs.Tryz Go.PI.SX
variable {a:Nat}{h:Hp}{r q:Nat}{A:Blk}{els:List PV}{l:List (Nat×Blk)}
def hvA  {X:Blk}  (h:a≠q):hv ((q,X)::(a,A)::l) a=some A:=by
 unfold hv;rw[vL,qL h];dsimp only;unfold hv;rw[EM]
def hvB{b:Nat}{X B:Blk}  (h:b≠q)(h1:b≠a):hv ((q,X)::(a,A)::(b,B)::l) b=some B:=by
 unfold hv;rw[vL,qL h];exact hvA h1
def hv1    : hv ((a,A)::l) a=some A:=by
 unfold hv;rw[EM]
def hs2  {j:Nat}{b b':Option Blk}{B:Blk}(h1:j≠r)(h2:h j=some B):Go.PI.hs (Go.PI.hs h r b) r b' j=some B:=by rw[yM h1,yM h1,h2]
def pH1    {b:Blk}(hb:h r=some b):q7 h [(r,els)] r=some ⟨els,b.sz,b.agg⟩:=by unfold q7;rw[EM];dsimp only;rw[hb]
def pH2    (hn:q≠r):q7 h [(r,els)] q=h q:=by unfold q7;rw[vL,qL hn];rfl
def uYK(a b:Nat)(e:Nat)(fm l:List Rat)(pv:PV)(s:St):Prop:=pv=.tup []/\(s.h a=some (rwB (vC e fm l))/\s.z a=false)/\s.h b=some (rwB fm)/\s.z b=false
def vP1(l fm:List Rat)(e k a b N n:Nat)(t0:Tm)(hn:l.length=n)(hl:fm.length=l.length)(hw:l.length<=100)(he:e<l.length)(h1:∀ q∈l,sz k q)(h2:∀ q∈fm,sz k q)(hk:k<=30000000)(hk1:1<=k)(haN:a<N)(hbN:b<N)(hab:a≠b)(hN:N<=9000) :
 FnH prog G0 185 [.own a 0 n,.int .i64 e,.own b 0 n] (uYK a b e fm l) ⟨t0,lsH [(a,rwB l),(b,rwB fm)],fun _=>false,N⟩:=by
 subst hn;have l1:=yO (h1 _ (x6 he));have c1:=r9 (cr l[e]!) (yH _) zom;rw[yC]at c1;have hq0:=@sgnQ_zero l[e]!;have he1:=h1 _ (x6 he);have n4:N+4≠a:=zom
 have n5:a≠N+4:=zom
 have n6:b≠N+4:=zom
 have n7:b≠a:=y9 hab;rw[CE];refine iR zU hT (mkO func185 ntmps185 results185) zsm (sts ?_);refine vR hv1 (sts ?_);refine vR hv1 ?_;refine yB e (z7 _) he (sts ?_)
 (repeat refine Dk ?_)
 refine sts ?_;refine Dk (sts ?_);refine zT c1 rfl ?_
 refine gob ?_ ?_<;>intro h
 .rw[sub_zero (hq0.1 xU)]
  exact⟨rfl,⟨hs2 zom hv1,rfl⟩,hs2 zom (hvA n7),rfl⟩
 refine rH zom (rH zom (vR hv1 ?_));refine sts ?_;refine rH zom (rH zom (vR hv1 ?_));refine yB e (z7 _) he (sts ?_)
 refine eO hT (fun(j:Nat)=>[(0,.own a 0 l.length),(6,.ptr (N+4) 0 0),(20,.own b 0 l.length),(21,.int .i64 l.length),(22,.int .i64 j)]) (fun j=>[(N+4,⟨[yF l[e]!],3,true⟩),(a,rwB (sbR e fm l j)),(b,rwB fm)]) (N+5)
  (fun j=>j<=l.length) (fun j=>l.length-j) 0 (z8 _) zom ?_ ?_
 .refine KeptG.frz1 [] [] [(a,(sbR e fm l 0).map yF)] ⟨zA,zA,⟨⟨_,2,_,hs_same,by rw[uC8];exact vSK (n:=0) (z7 _),rfl⟩,zA⟩⟩ ⟨id,⟨zI zom rfl rfl,BW zom rfl,zI zom rfl rfl,zG rfl rfl,zG rfl rfl,zA⟩,⟨vN zom ((pH2 n4).trans ((yM n4).trans hs_same)) rfl rfl rfl rfl,zH zom (pH1 hs_same) rfl wY rfl,zH zom ((pH2 n7).trans ((yM n7).trans (hs2 zom (hvA n7)))) rfl wY rfl,zA⟩,fun _ _ _ _ h=>h,fun _ _=>rfl⟩
 intro j hj;by_cases hlt:j<l.length
 .have hjf:j<fm.length:=zom
  have l2:=yO (h2 _ (x6 hjf));have c2:=r9 (cr fm[j]!) (yH _) zom;rw[yC]at c2;have hqj:=@sgnQ_zero fm[j]!
  refine gob ?_ ?_<;>intro h
  .refine vR (hvB n6 n7) ?_
   refine sts ?_;refine vR (hvB n6 n7) ?_;refine yB j (z7 _) hjf (sts ?_);refine Dk (sts ?_);refine Dk (sts ?_);refine zT c2 rfl ?_
   refine gob ?_ ?_<;>intro h
   .have hs0:sz k (sbR e fm l j)[j]! := by
     rw[CI hlt,zB (dH _)];have:=h1 _ (x6 hlt)
     split
     .rw[show(0:Rat)+0=0 by grind];exact iX hk1
     .rw[show l[j]! + 0=l[j]! by grind];exact this
    have l3:=yO hs0;have hm:=q9 he1 (h2 _ (x6 hjf));have l4:=yO hm;have c3:=gD (cr l[e]!) (cr fm[j]!) (yH _) (yH _) zom zom zom zom;rw[yC,yC]at c3;have c4:=Bq (cr (sbR e fm l j)[j]!) (cr (l[e]!*fm[j]!)) (yH _) (yH _) zom zom zom zom;rw[yC,yC]at c4;refine rH zom (rH zom (vR (hvA n5) ?_));refine sts ?_;refine rH zom (rH zom (vR (hvA n5) ?_));refine yB j (z7 _) (by rw[eY];exact hlt) (sts ?_);refine rH zom (rH zom (vR hv1 ?_));refine sts ?_;refine Dk (sts ?_);refine cvd c3 ?_;refine cvd c4 ?_;refine rH zom (rH zom (vR (hvA n5) ?_));refine sts ?_;refine rH zom (rH zom (vR (hvA n5) ?_));refine yB j (z7 _) (by rw[eY];exact hlt) (sts ?_);refine bL rfl (sts ?_);refine⟨j+1,⟨zom,zbo⟩,KeptG.to ⟨id,⟨zI zom rfl rfl,BW zom rfl,zI zom rfl rfl,zD,zG rfl zom,zA⟩,⟨vN zom ((yM n4).trans (hs2 (by show N+4≠_;omega) hv1)) rfl rfl rfl rfl,zH zom hs_same (by rw[<- uC9 hlt];exact x5 (z7 _) rfl) wY rfl,zH zom ((yM n7).trans (hs2 (by show b≠_;omega) (hvB n6 n7))) rfl wY rfl,zA⟩,fun _ _ _ _ h=>h,fun _ _=>rfl⟩⟩
   .refine⟨j+1,⟨zom,zbo⟩,KeptG.to ⟨id,⟨zI zom rfl rfl,BW zom rfl,zI zom rfl rfl,zD,zG rfl zom,zA⟩,⟨vN zom (hs2 (by show N+4≠_;omega) hv1) rfl rfl rfl rfl,zH zom (hs2 (by show a≠_;omega) (hvA n5)) (by rw[uDA (hqj.1 zom)]) wY rfl,zH zom (hs2 (by show b≠_;omega) (hvB n6 n7)) rfl wY rfl,zA⟩,fun _ _ _ _ h=>h,fun _ _=>rfl⟩⟩
  all_goals (exfalso;omega)
 ·refine gob ?_ ?_<;>intro h
  all_goals try omega
  rw[show j=l.length by omega,uLY];exact⟨rfl,⟨hvA n5,rfl⟩,hvB n6 n7,rfl⟩
open Go.Proofs Go.PI Go.Proofs.Tryz Go.PI.SX
variable {h':Hp}{z':Fz}
def t8:2<=8000:=by decide
abbrev tP(T:Tab):Tab:={ T with pv:=T.pv+1 }
abbrev tS(T:Tab)(r e:Nat):Tab:={ tP T with bs:=T.bs.set r T.ns[e]!,ns:=T.ns.set e T.bs[r]! }
abbrev tJ(T:Tab)(r e j:Nat):Tab:={ tS T r e with fs:=fsJ e r (x9 e T.fs[r]!) T.fs j }
def vT5{k:Tk}{T:Tab}{h:Hp}{z:Fz}(S:TabS k T h z)(hx:∀ x∈k.ks T.bs.length,h' x=h x/\z' x=z x):TabS k T h' z':=fun p hp=>by
 obtain⟨e1,e2⟩:=hx p.1 (by rw[<- u9];exact zW.2 ⟨p,hp,rfl⟩);rw[e1,e2];exact S p hp
def vKD{Cs:wK}{I:rP}{D:Bool}{f:FuncId}{args args':List PV}{d:Option Nat}{K:FP->St->Prop}{s:St}(e:args=args')(h:rR Cs I D f args' d K s):rR Cs I D f args d K s:=e ▸ h
def uJR{m c x nx:Nat}{h:Hp}  {b:Blk}(hm:m<=64)(hn:8164<=nx)(p1:h' c=some b)(p2:z' c=false)(g2:∀ r,r<nx->r∉[c,8200]->h' r=h r/\z' r=false)(hx:x∈(ck 8000).ks m):h' x=Go.PI.hs h c (some b) x/\z' x=false:=by
 by_cases e:x=c
 .subst e;rw[hs_same];exact⟨p1,p2⟩
 .rw[yM e]
  have:=dA hm hx;exact g2 x zom yE
def nd8{m:Nat}(h:m<=64):((ck 8000).ks m).Nodup:=(pF (N:=8164) h zdd).nd
def MP(T:Tab)(r e k:Nat)(S:Sm k T)(hr:r<T.bs.length)(he:e<T.ns.length)(ha:T.fs[r]![e]! ≠ 0) :
 FnT prog G0 115 [.int .i64 r,.int .i64 e] 8000 T (.tup []) (zY T r e):=by
 have hm:=S.m1;have hn1:=S.n1;have hp1:=S.p1;have hlr:=S.w.ll r hr;refine ZK zU hT (mkO func115 ntmps115 results115) zsm fun K N hK hN=>?_
 refine sus ?_;refine RO (C:=8000) (kk:=8200) (T:=tP T) K [] [(0,.ptr 1 0 0),(1,.int .i64 r),(2,.int .i64 e)] [] hN zdd zdd hm hK.nd ((Im hK.nd).setP hK.nd rfl) (fun _ _=>rfl) ⟨apx,zD,zD,zA⟩ trivial rfl (fun p hp=>by cases hp) (fun p hp=>by cases hp) (sus ?_);refine CF (z7 _) hr (sts ?_)
 refine eO hT (fun(j:Nat)=>[(0,.ptr 1 0 0),(1,.int .i64 r),(2,.int .i64 e),(6,.own ((ck 8000).r r) 0 (T.ns.length+1)),(7,.own 8200 0 (T.ns.length+1)),(28,.own ((ck 8000).r r) 0 (T.ns.length+1)),(29,.int .i64 (T.ns.length+1:Nat)),(30,.int .i64 j)])
  (fun j=>[(8200,rwB (iG e T.fs[r]! j))]++yX (ck 8000) (tP T)) 8300 (fun j=>j<=T.ns.length+1) (fun j=>T.ns.length+1-j) 0 (z8 _) (by show N<=8300;omega) ?_ ?_
 .refine KeptG.frz1 [] [] [(8210,(iG e T.fs[r]! 0).map yF)] ⟨zA,zA,⟨⟨_,2,_,rfl,by rw[vZU,hlr];exact AR (n:=0),rfl⟩,zA⟩⟩ (qA [(8200,8210)] hN zdd zdd hm ((((vX (T:=tP T) hm t8 rfl).hsX hm t8 rfl).putX hm t8 rfl).fsX hm t8 rfl) rfl ?_ ⟨zH zdd rfl rfl wY rfl,zA⟩ rfl)
  exact⟨apx,zD,zD,CH rfl zdd zom rfl rfl,zI zdd rfl rfl,CH rfl zdd zom rfl rfl,zD,zD,zA⟩
 intro j hj;by_cases hlt:j<T.ns.length+1
 .have hq:=S.e.1 r hr j hlt
  have hqe:=S.e.1 r hr e zom;have l1:=yO hq;have l2:=yO hqe;have l3:=yO (cE hq);have hk2:=S.k2;have cs:=r9 (cr T.fs[r]![j]!) (yH _) zom;have cn:=SE (cr T.fs[r]![j]!) (yH _) zom zom;rw[yC]at cs cn;have cd:=Iz (cr (- T.fs[r]![j]!)) (cr T.fs[r]![e]!) (yH _) (yH _) zom zom zom zom (by rw[yC];exact ha);rw[yC,yC]at cd;have hz:=@sgnQ_zero T.fs[r]![j]!
  refine gob ?_ ?_<;>intro h
  .refine eM hm t8 rfl hr ?_
   refine sts ?_;refine eM hm t8 rfl hr ?_;refine yB j (z7 _) (by rw[hlr];exact hlt) ?_
   refine gob ?_ ?_<;>intro h
   .refine zT cs rfl ?_
    refine gob ?_ ?_<;>intro h
    .refine cvd cn ?_
     (repeat refine Ll hm hr rfl ?_);refine eM hm t8 rfl hr ?_
     refine sts ?_
     (repeat refine Ll hm hr rfl ?_);refine eM hm t8 rfl hr ?_
     refine yB e (z7 _) (by rw[hlr];omega) ?_;refine sts ?_;refine cvd cd ?_;refine yB j (z7 _) (by rw[eZ,hlr];exact hlt) (sts ?_);refine bL rfl (sts ?_);exact⟨j+1,⟨zom,zbo⟩,KeptG.to (qA [] hN t8 zdd hm (by(repeat refine TabS.hsX ?_ hm t8 rfl);exact vX (T:=tP T) hm t8 rfl) rfl ⟨apx,zD,zD,CH rfl zdd zom rfl rfl,zI zdd rfl rfl,CH rfl zdd zom rfl rfl,zD,zG rfl zom,zA⟩ ⟨zH zdd rfl (by rw[<- vZV (by rw[hlr];exact hlt) zom];exact x5 (z7 _) rfl) wY rfl,zA⟩ rfl)⟩
    .exact⟨j+1,⟨zom,zbo⟩,KeptG.to (qA [] hN t8 zdd hm (by(repeat refine TabS.hsX ?_ hm t8 rfl);exact vX (T:=tP T) hm t8 rfl) rfl ⟨apx,zD,zD,CH rfl zdd zom rfl rfl,zI zdd rfl rfl,CH rfl zdd zom rfl rfl,zD,zG rfl zom,zA⟩ ⟨zH zdd rfl (by rw[ZO (zC (hz.1 zom))]) wY rfl,zA⟩ rfl)⟩
   .exact⟨j+1,⟨zom,zbo⟩,KeptG.to (qA [] hN t8 zdd hm (by(repeat refine TabS.hsX ?_ hm t8 rfl);exact vX (T:=tP T) hm t8 rfl) rfl ⟨apx,zD,zD,CH rfl zdd zom rfl rfl,zI zdd rfl rfl,CH rfl zdd zom rfl rfl,zD,zG rfl zom,zA⟩ ⟨zH zdd rfl (by rw[ZO (zF zom)]) wY rfl,zA⟩ rfl)⟩
  all_goals (exfalso;omega)
 ·refine gob ?_ ?_<;>intro h
  all_goals try omega
  have ej:j=T.ns.length+1:=zom
  subst ej;have hqe:=S.e.1 r hr e zom;have l2:=yO hqe;have l1:=yO (sz1 1 zdd);rw[show(((1:Int)):Rat)=1 by rfl]at l1;have hk2:=S.k2;have c1:=bE 1 zdd;rw[show(((1:Int)):Rat)=1 by rfl]at c1;have cd:=Iz (cr 1) (cr T.fs[r]![e]!) (yH _) (yH _) zom zom zom zom (by rw[yC];exact ha);rw[yC,yC]at cd;refine cvd c1 ?_;refine eM hm t8 rfl hr (sts ?_);refine eM hm t8 rfl hr ?_;refine yB e (z7 _) (by rw[hlr];omega) ?_;refine sts ?_;refine cvd cd ?_
  all_goals try omega
  refine yB e (z7 _) (by rw[eZ,hlr];omega) ?_;refine sts ?_;refine bL rfl (sts ?_);refine yB e (z7 _) he (sts ?_);refine yB r (z7 _) hr (sts ?_);refine yB r (z7 _) hr (sts ?_);refine yB e (z7 _) he (sts ?_);have hm2:(tS T r e).bs.length<=64:=by simpa using hm
  have hfr:=uF2 (e:=e) (old:=T.fs[r]!) zom;rw[hlr]at hfr
  refine eO hT (fun(j:Nat)=>[(0,.ptr 1 0 0),(1,.int .i64 r),(2,.int .i64 e),(7,.own 8200 0 (T.ns.length+1)),(99,.int .i64 T.bs.length),(100,.int .i64 j)])
   (fun j=>[(8200,rwB (x9 e T.fs[r]!))]++yX (ck 8000) (tJ T r e j)) 8300 (fun j=>j<=T.bs.length) (fun j=>T.bs.length-j) 0 (z8 _) (by show N<=8300;omega) ?_ ?_
  .refine KeptG.to (qA [] hN t8 zdd hm2 ?_ rfl ⟨apx,zD,zD,zI zdd rfl rfl,zD,zD,zA⟩ ⟨zH zdd rfl (by rw[<- hfr];exact x5 (z7 _) rfl) wY rfl,zA⟩ rfl)
   rw[show tJ T r e 0=tS T r e by unfold tJ;rw[uFY]];refine TabS.setN (T:={ tP T with bs:=T.bs.set r T.ns[e]! }) ?_ (nd8 hm2) zsm (zV (fun l=>some (Blk.mk l 1 false)) (x5 (z7 _) rfl));refine TabS.setB (T:=tP T) ?_ (nd8 hm) zsm (zV (fun l=>some (Blk.mk l 1 false)) (x5 (z7 _) rfl))
   (repeat refine TabS.hsX ?_ hm t8 rfl);exact vX (T:=tP T) hm t8 rfl
  intro j hj;have hbl:(tJ T r e j).bs.length=T.bs.length:=by simp
  have hnl:(tJ T r e j).ns.length=T.ns.length:=by simp
  by_cases hlt:j<T.bs.length
  ·(refine gob ?_ ?_<;>intro h;refine gob ?_ ?_<;>intro h)
   .refine CF (z7 _) (by rw[hbl];exact hlt) ?_
    refine sts ?_;have hlj:=S.w.ll j hlt;have hk1:=S.k1;have ej:(tJ T r e j).fs[j]! = T.fs[j]! := uT2 (by rw[S.w.fl];exact hlt);have hfl:(x9 e T.fs[r]!).length=T.ns.length+1:=by rw[Df];exact hlr
    refine vKD (args':=[.own ((ck 8000).r j) 0 (T.ns.length+1),.int .i64 e,.own 8200 0 (T.ns.length+1)]) (by rw[hnl];rfl) ?_
    refine L9 (L:=[((ck 8000).r j,rwB T.fs[j]!),(8200,rwB (x9 e T.fs[r]!))]) (vP1 T.fs[j]! (x9 e T.fs[r]!) e (k+k) ((ck 8000).r j) 8200 _ _ (fun _=>.any) hlj (by rw[hfl,hlj]) (by rw[hlj];omega) (by rw[hlj];omega) (fun q hq=>?_) (fun q hq=>?_) zom zom (nB (show 8000+100+j<=8163 by omega) zdd) zdd (jJ hm hlt rfl) zdd)
     (mU.2 ⟨by simpa using jJ hm hlt rfl,zsm⟩) (fun p hp=>?_) fun pv s1 hq hn h' z' g1 g2 g3=>?_
    .obtain⟨i,hi,rfl⟩:=SX.mem_ix hq
     exact xV zom (S.e.1 j hlt i zom)
    .obtain⟨i,hi,rfl⟩:=SX.mem_ix hq
     exact ZQ S.k1 ha (fun i hi=>S.e.1 r hr i zom) zom (by rw[Df]at hi;exact hi)
    .rcases yI.1 hp with rfl|hp
     .exact⟨by rw[<- ej];exact ZH (T:=tJ T r e j) hm2 t8 rfl (by rw[hbl];exact hlt),rfl,nB (show 8000+100+j<=8163 by omega) zdd,by show 0<8000+100+j;omega⟩
     .cases yG.1 hp
      exact⟨rfl,rfl,by show 8200<_;decide,by show 0<8200;decide⟩
    obtain⟨rfl,⟨q1,q2⟩,q3,q4⟩:=hq;obtain⟨p1,p2⟩:=g1 _ _ (zC zsm) q1 q2;obtain⟨p3,p4⟩:=g1 _ _ (zC zsm) q3 q4;refine sts ?_;refine⟨j+1,⟨zom,zbo⟩,KeptG.to (qA [] hN t8 zdd hm2 ?_ rfl ⟨apx,zD,zD,zI zdd rfl rfl,zD,zG rfl zom,zA⟩ ⟨zH zdd p3 rfl wY p4.symm,zA⟩ rfl)⟩;refine vT5 (TabS.setR (T:=tJ T r e j) (vX (X:=[(8200,rwB (x9 e T.fs[r]!))]) (T:=tJ T r e j) hm2 t8 rfl) (nd8 hm2) (by rw[hbl];exact hlt) (fun i hi hne=>uF0 (by rw[S.w.fl];rw[hbl]at hi;exact hi) hne) (b:=some ⟨yS (vC e (x9 e T.fs[r]!) T.fs[j]!),3,true⟩) (by rw[uOX (by rw[S.w.fl];exact hlt) zom])) fun x hx=>?_
    exact uJR hm2 zdd p1 p2 g2 hx
   .have ejr:j=r:=zom
    subst ejr;refine⟨j+1,⟨zom,zbo⟩,KeptG.to (qA [] hN t8 zdd hm2 ?_ rfl ⟨apx,zD,zD,zI zdd rfl rfl,zD,zG rfl zom,zA⟩ ⟨zH zdd rfl rfl wY rfl,zA⟩ rfl)⟩;rw[show tJ T j e (j+1)=tJ T j e j by unfold tJ;rw[uFZ]];exact vX (T:=tJ T j e j) hm2 t8 rfl
   all_goals (exfalso;omega)
  .have ej:j=T.bs.length:=zom
   subst ej
   (refine gob ?_ ?_<;>intro h;refine gob ?_ ?_<;>intro h)
   all_goals try omega
   have hfl:(x9 e T.fs[r]!).length=T.ns.length+1:=by rw[Df];exact hlr
   have hk1:=S.k1;have hol:=S.w.ol;refine vKD (args':=[.own 8005 0 (T.ns.length+1),.int .i64 e,.own 8200 0 (T.ns.length+1)]) (by rw[hnl];rfl) ?_
   refine L9 (L:=[(8005,rwB T.ob),(8200,rwB (x9 e T.fs[r]!))]) (vP1 T.ob (x9 e T.fs[r]!) e (k+k) 8005 8200 _ _ (fun _=>.any) hol (by rw[hfl,hol]) (by rw[hol];omega) (by rw[hol];omega) (fun q hq=>?_) (fun q hq=>?_) zom zom zdd zdd zdd zdd)
    (show [8005,8200].Nodup by decide) (fun p hp=>?_) fun pv s1 hq hn h' z' g1 g2 g3=>?_
   .obtain⟨i,hi,rfl⟩:=SX.mem_ix hq
    exact xV zom (S.e.2 i zom)
   .obtain⟨i,hi,rfl⟩:=SX.mem_ix hq
    exact ZQ S.k1 ha (fun i hi=>S.e.1 r hr i zom) zom (by rw[Df]at hi;exact hi)
   .rcases yI.1 hp with rfl|hp
    .exact⟨rfl,rfl,by show 8005<_;decide,by show 0<8005;decide⟩
    .cases yG.1 hp
     exact⟨rfl,rfl,by show 8200<_;decide,by show 0<8200;decide⟩
   obtain⟨rfl,⟨q1,q2⟩,q3,q4⟩:=hq;obtain⟨p1,p2⟩:=g1 _ _ (zC zsm) q1 q2;obtain⟨p3,p4⟩:=g1 _ _ (zC zsm) q3 q4;have ST:TabS (ck 8000) { tJ T r e T.bs.length with ob:=vC e (x9 e T.fs[r]!) T.ob } h' z':=vT5 (TabS.setO (T:=tJ T r e T.bs.length) (vX (X:=[(8200,rwB (x9 e T.fs[r]!))]) (T:=tJ T r e T.bs.length) hm2 t8 rfl) (nd8 hm2) (b:=some ⟨yS (vC e (x9 e T.fs[r]!) T.ob),3,true⟩) rfl) fun x hx=>uJR hm2 zdd p1 p2 g2 hx
   refine sts ?_;refine vR (b:=⟨[qU (ck 8000) (tJ T r e T.bs.length)],7,true⟩) ST.t.1 (sts ?_);refine vR (b:=⟨uK (ck 8000) (tJ T r e T.bs.length).bs.length ((tJ T r e T.bs.length).ns.length+1),1,false⟩) ST.f (sts ?_);refine vR (b:=⟨uK (ck 8000) (tJ T r e T.bs.length).bs.length ((tJ T r e T.bs.length).ns.length+1),1,false⟩) ST.f (sts ?_);refine CF (z7 _) (by rw[hbl];exact hr) ?_;refine Lt (by rw[ST.zf _ (ks_mem.2 (zC (zC (zC (zF rfl)))))];rfl) ?_;refine sts ?_;have h82:8200∉(ck 8000).ks T.bs.length:=vW hm t8 rfl;have hb3:(zY T r e).bs.length=T.bs.length:=by simp[zY]
   refine⟨rfl,{ ck 8000 with r:=fun i=>if i=r then 8200 else(ck 8000).r i },?_,fun x hx=>?_,?_⟩
   .rw[hb3];exact RP (k:=ck 8000) (nd8 hm) h82
   .rcases ks_mem.1 hx with h|h|h|h|h|⟨i,hi,h⟩
    .exact zF (ks_mem.2 (zF h))
    .exact zC (by rw[h];show N<=8000+2;omega)
    .exact zC (by rw[h];show N<=8000+3;omega)
    .exact zC (by rw[h];show N<=8000+4;omega)
    .exact zC (by rw[h];show N<=8000+5;omega)
    .refine zC ?_
     rw[h];dsimp only
     split
     .omega
     .show N<=8000+100+i;omega
   .have hfl2:T.fs.length=T.bs.length:=S.w.fl
    refine TabS.setF (T:={ tJ T r e T.bs.length with ob:=vC e (x9 e T.fs[r]!) T.ob }) (k:=ck 8000) (i:=r) (q:=8200) (fs:=(T.fs.map (vC e (x9 e T.fs[r]!))).set r (x9 e T.fs[r]!)) ?_ (nd8 hm2) (by rw[hbl];exact hr) (by rw[hbl];exact h82) p4 (fun i hi hne=>?_) ?_ (vZT (by rw[hbl];exact hr) (z7 _) (by rw[hnl]))
    .exact ST
    .rw[hbl]at hi
     rw[<- uOY (r:=r),sN (by rw[ZP];omega),zB (y9 hne),hfl2]
    .rw[sN yE,zE rfl];exact p3
open Go.Proofs Go.PI Go.Proofs.Tryz Go.PI.SX
def SI:FO 50 f50 [.tmp 4] 11:=mkO func50 ntmps50 results50
def Dt(T:Tab)(v:Nat):Fn 50 [.cptr (pG T) 0,.int .i64 v] (.data (.bool (decide (v<T.vars)))):=by
 refine fnV SI ?_;refine zL rfl ?_
 simp
def vI3:FO 116 f116 [.cell 4 34] 19:=mkO func116 ntmps116 results116
def MQ(T:Tab)(r k:Nat)(S:Sm k T)(hr:r<T.bs.length):Fn 116 [.cptr (pG T) 0,.int .i64 r] (.data (yF T.fs[r]![T.ns.length]!)):=by
 have hf:=S.w.fl;have hl:=S.w.ll r hr;refine fnV vI3 ?_;refine yB T.ns.length zsm (by rw[hl];omega) ?_;refine sts ?_;exact yD
def SJ(q:Rat):xQ q<0↔q<0:=sgnQ_neg
def uHC(T:Tab)(l:List Rat)(k:Nat)(hn:T.ns.length<=99)(hl:l.length=T.ns.length+1)(hs:∀ j,j<T.ns.length->sz k l[j]!)(hk:k<=100000000):Fn 130 [.cptr (pG T) 0,.imm (yS l)] (.data (.int .i64 (onI (wX T.vars T.ns l T.ns.length)))):=by
 refine fnV (mkO func130 ntmps130 results130) ?_;refine rU hT (fun(j:Nat)=>[(0,.cptr (pG T) 0),(1,.imm (yS l)),(5,.int .i64 (onI (wX T.vars T.ns l j))),(11,.imm (yV T.ns)),(12,.int .i64 T.ns.length),(13,.int .i64 j)]) (fun j=>j<=T.ns.length) (fun j=>T.ns.length-j) 0 (z8 _) ⟨uO rfl,zM,zD,zM,zG rfl (zV Nat.cast (z6 _)),zD,zA⟩ ?_;intro j hj;by_cases hlt:j<T.ns.length
 .have l1:=yO (hs j hlt)
  have cf:=Dt T T.ns[j]!;have cs:=r9 (cr l[j]!) (yH _) zom;rw[yC]at cs;have hz:=SJ l[j]!;have hst:=uGE (v:=T.vars) (ns:=T.ns) (l:=l) (k:=j);rcases ho:wX T.vars T.ns l j with _|b
  .rw[show onI none=-1 from rfl]
   refine gob ?_ ?_<;>intro h
   all_goals try omega
   refine zT cf rfl ?_
   refine gob ?_ ?_<;>intro h
   all_goals try omega
   rotate_left
   .refine zT cs rfl ?_
    refine gob ?_ ?_<;>intro h
    all_goals try omega
    .exact⟨j+1,⟨zom,zbo⟩,uO rfl,zM,zG rfl (by rw[hst.2.1 ⟨zom,hz.1 ‹_›⟩ ho];rfl),zM,zD,zG rfl zom,zA⟩
    .exact⟨j+1,⟨zom,zbo⟩,uO rfl,zM,zG rfl (by rw[hst.1 (fun h=>absurd (hz.2 h.2) ‹_›),ho];rfl),zM,zD,zG rfl zom,zA⟩
   exact⟨j+1,⟨zom,zbo⟩,uO rfl,zM,zG rfl (by rw[hst.1 zom,ho];rfl),zM,zD,zG rfl zom,zA⟩
  .have hb:=RY ho
   rw[show onI (some b)=(b:Int) from rfl]
   refine gob ?_ ?_<;>intro h
   all_goals try omega
   refine zT cf rfl ?_
   refine gob ?_ ?_<;>intro h
   all_goals try omega
   rotate_left
   .refine zT cs rfl ?_
    (refine gob ?_ ?_<;>intro h;refine gob ?_ ?_<;>intro h)
    all_goals try omega
    .exact⟨j+1,⟨zom,zbo⟩,uO rfl,zM,zG rfl (by rw[(hst.2.2 ⟨zom,hz.1 ‹_›⟩ b ho).1 zom];rfl),zM,zD,zG rfl zom,zA⟩
    .exact⟨j+1,⟨zom,zbo⟩,uO rfl,zM,zG rfl (by rw[(hst.2.2 ⟨zom,hz.1 ‹_›⟩ b ho).2 zom];rfl),zM,zD,zG rfl zom,zA⟩
    .exact⟨j+1,⟨zom,zbo⟩,uO rfl,zM,zG rfl (by rw[hst.1 (fun h=>absurd (hz.2 h.2) ‹_›),ho];rfl),zM,zD,zG rfl zom,zA⟩
   exact⟨j+1,⟨zom,zbo⟩,uO rfl,zM,zG rfl (by rw[hst.1 zom,ho];rfl),zM,zD,zG rfl zom,zA⟩
 .have ej:j=T.ns.length:=zom
  subst ej
  refine gob ?_ ?_<;>intro h
  all_goals try omega
  exact yD
def uYP(T:Tab)(e:Nat):Option Nat->Rat
 |none=>0
 |some b=>xK T e b
def uG9(T:Tab)(e k:Nat)(S:Sm k T)(he:e<T.ns.length):Fn 131 [.cptr (pG T) 0,.int .i64 e] (.data (.int .i64 (onI (vV T.vars T e T.bs.length)))):=by
 have hk2:=S.k2;have hk1:=S.k1;have hm:=S.m1;have hn:=S.n1;have hfl:=S.w.fl;refine fnV (mkO func131 ntmps131 results131) ?_
 refine xG hT (fun(j:Nat)=>[(0,.cptr (pG T) 0),(1,.int .i64 e),(5,.int .i64 (onI (vV T.vars T e j))),(6,.ptr 0 0 0),(15,.imm (yV T.bs)),(16,.int .i64 T.bs.length),(17,.int .i64 j)])
  (fun j=>[(0,⟨[yF (uYP T e (vV T.vars T e j))],3,true⟩)]) [] 1 (fun j=>j<=T.bs.length) (fun j=>T.bs.length-j) 0 (z8 _) zdd zsm ?_ ?_
 .exact⟨[2],[],[],[(2,[yF 0])],⟨zA,zA,⟨⟨_,2,_,rfl,vYK,rfl⟩,zA⟩⟩,⟨uO rfl,zG rfl rfl,zG rfl rfl,apx,xI rfl rfl,zG rfl (zV Nat.cast (z6 _)),zG rfl rfl,zA⟩,⟨bbx,zA⟩,zO⟩
 intro j hj;by_cases hlt:j<T.bs.length
 .have hlj:=S.w.ll j hlt
  have hq:=S.e.1 j hlt e zom;have hc:=S.e.1 j hlt T.ns.length zom;have l1:=yO hq;have l2:=yO hc;have l3:=yO (cE hq);have cf:=Dt T T.bs[j]!;have cs:=r9 (cr T.fs[j]![e]!) (yH _) zom;have cn:=SE (cr T.fs[j]![e]!) (yH _) zom zom;rw[yC]at cs cn;have ck:=MQ T j k S hlt;have hz:=SJ T.fs[j]![e]!;have hst:=uFM (v:=T.vars) (T:=T) (e:=e) (k:=j);rcases ho:vV T.vars T e j with _|b
  .rw[show onI none=-1 from rfl]
   refine gob ?_ ?_<;>intro h
   all_goals try omega
   refine zT cf rfl ?_
   refine gob ?_ ?_<;>intro h
   all_goals try omega
   rotate_left
   .refine zT cs rfl ?_
    refine gob ?_ ?_<;>intro h
    all_goals try omega
    rotate_left
    have hl0:T.fs[j]![e]! < 0:=hz.1 zom;have cd:=Iz (cr T.fs[j]![T.ns.length]!) (cr (-T.fs[j]![e]!)) (yH _) (yH _) zom zom zom zom (by rw[yC];grind);rw[yC,yC,show T.fs[j]![T.ns.length]! / - T.fs[j]![e]! = xK T e j from rfl]at cd;refine cvd (MQ T j k S hlt) ?_;refine cvd cn ?_;refine cvd cd ?_
    all_goals try omega
    .exact⟨j+1,⟨zom,zbo⟩,[0],[],[],[],ttt,⟨uO rfl,zD,zG rfl (by rw[hst.2.1 ⟨zom,hl0⟩ ho]<;>rfl),apx,zM,zD,zG rfl zom,zA⟩,⟨vN zdd rfl (by rw[hst.2.1 ⟨zom,hl0⟩ ho]<;>rfl) rfl rfl rfl,zA⟩,zO⟩
    .exact⟨j+1,⟨zom,zbo⟩,[0],[],[],[],ttt,⟨uO rfl,zD,zG rfl (by rw[hst.1 (fun h=>absurd (hz.2 h.2) zom),ho]<;>rfl),apx,zM,zD,zG rfl zom,zA⟩,⟨vN zdd rfl (by rw[hst.1 (fun h=>absurd (hz.2 h.2) zom),ho]<;>rfl) rfl rfl rfl,zA⟩,zO⟩
   exact⟨j+1,⟨zom,zbo⟩,[0],[],[],[],ttt,⟨uO rfl,zD,zG rfl (by rw[hst.1 zom,ho]<;>rfl),apx,zM,zD,zG rfl zom,zA⟩,⟨vN zdd rfl (by rw[hst.1 zom,ho]<;>rfl) rfl rfl rfl,zA⟩,zO⟩
  .obtain⟨hb1,hb2,hb3⟩:=ZU ho
   rw[show onI (some b)=(b:Int) from rfl];have hqb:=S.e.1 b zom e zom;have hcb:=S.e.1 b zom T.ns.length zom;have hyb:sz (k+k) (xK T e b):=H8 (by grind) hcb (cE hqb);have hyj:T.fs[j]![e]! < 0->sz (k+k) (xK T e j):=fun h=>H8 (by grind) hc (cE hq)
   have l4:=yO hyb
   refine gob ?_ ?_<;>intro h
   all_goals try omega
   refine zT cf rfl ?_
   refine gob ?_ ?_<;>intro h
   all_goals try omega
   rotate_left
   .refine zT cs rfl ?_
    refine gob ?_ ?_<;>intro h
    all_goals try omega
    rotate_left
    have hl0:T.fs[j]![e]! < 0:=hz.1 zom;have cd:=Iz (cr T.fs[j]![T.ns.length]!) (cr (-T.fs[j]![e]!)) (yH _) (yH _) zom zom zom zom (by rw[yC];grind);rw[yC,yC,show T.fs[j]![T.ns.length]! / - T.fs[j]![e]! = xK T e j from rfl]at cd;have l5:=yO (hyj hl0);have cc:=DX (cr (xK T e b)) (cr (xK T e j)) (yH _) (yH _) zom zom zom zom;rw[yC,yC]at cc;have z1:=@sgn_gt (xK T e b) (xK T e j);have z0:=@sgnQ_zero (xK T e b-xK T e j);refine cvd (MQ T j k S hlt) ?_;refine cvd cn ?_;refine cvd cd ?_
    all_goals try omega
    refine zT cc rfl ?_
    (refine gob ?_ ?_<;>intro h;rotate_left;refine gob ?_ ?_<;>intro h;refine gob ?_ ?_<;>intro h;rotate_right)
    all_goals try omega
    .exact⟨j+1,⟨zom,zbo⟩,[0],[],[],[],ttt,⟨uO rfl,zD,zG rfl (by rw[(hst.2.2 ⟨zom,hl0⟩ b ho).1 (zF (z1.1 zom))]<;>rfl),apx,zM,zD,zG rfl zom,zA⟩,⟨vN zdd rfl (by rw[(hst.2.2 ⟨zom,hl0⟩ b ho).1 (zF (z1.1 zom))]<;>rfl) rfl rfl rfl,zA⟩,zO⟩
    .exact⟨j+1,⟨zom,zbo⟩,[0],[],[],[],ttt,⟨uO rfl,zD,zG rfl (by rw[(hst.2.2 ⟨zom,hl0⟩ b ho).1 (zC ⟨by have:=z0.1 zom;grind,zom⟩)]<;>rfl),apx,zM,zD,zG rfl zom,zA⟩,⟨vN zdd rfl (by rw[(hst.2.2 ⟨zom,hl0⟩ b ho).1 (zC ⟨by have:=z0.1 zom;grind,zom⟩)]<;>rfl) rfl rfl rfl,zA⟩,zO⟩
    .exact⟨j+1,⟨zom,zbo⟩,[0],[],[],[],ttt,⟨uO rfl,zD,zG rfl (by rw[(hst.2.2 ⟨zom,hl0⟩ b ho).2 (by rintro(h|⟨h,h'⟩);have:=z1.2 h;omega;omega)]<;>rfl),apx,zM,zD,zG rfl zom,zA⟩,⟨vN zdd rfl (by rw[(hst.2.2 ⟨zom,hl0⟩ b ho).2 (by rintro(h|⟨h,h'⟩);have:=z1.2 h;omega;omega)]<;>rfl) rfl rfl rfl,zA⟩,zO⟩
    .exact⟨j+1,⟨zom,zbo⟩,[0],[],[],[],ttt,⟨uO rfl,zD,zG rfl (by rw[(hst.2.2 ⟨zom,hl0⟩ b ho).2 (by rintro(h|⟨h,h'⟩);have:=z1.2 h;omega;have:=z0.2 (by grind);omega)]<;>rfl),apx,zM,zD,zG rfl zom,zA⟩,⟨vN zdd rfl (by rw[(hst.2.2 ⟨zom,hl0⟩ b ho).2 (by rintro(h|⟨h,h'⟩);have:=z1.2 h;omega;have:=z0.2 (by grind);omega)]<;>rfl) rfl rfl rfl,zA⟩,zO⟩
    .exact⟨j+1,⟨zom,zbo⟩,[0],[],[],[],ttt,⟨uO rfl,zD,zG rfl (by rw[hst.1 (fun h=>absurd (hz.2 h.2) zom),ho]<;>rfl),apx,zM,zD,zG rfl zom,zA⟩,⟨vN zdd rfl (by rw[hst.1 (fun h=>absurd (hz.2 h.2) zom),ho]<;>rfl) rfl rfl rfl,zA⟩,zO⟩
   exact⟨j+1,⟨zom,zbo⟩,[0],[],[],[],ttt,⟨uO rfl,zD,zG rfl (by rw[hst.1 zom,ho]<;>rfl),apx,zM,zD,zG rfl zom,zA⟩,⟨vN zdd rfl (by rw[hst.1 zom,ho]<;>rfl) rfl rfl rfl,zA⟩,zO⟩
 .have ej:j=T.bs.length:=zom
  subst ej
  refine gob ?_ ?_<;>intro h
  all_goals try omega
  exact yD
open Go.Proofs Go.PI Go.Proofs.Tryz Go.PI.SX
def vPD:FO 56 f56 [.tmp 4] 49:=mkO func56 ntmps56 results56
def uQB(T:Tab)(l:List Rat)(k:Nat)(S:Sm k T)(hl:l.length=T.ns.length+1):Fn 56 [.cptr (pG T) 0,.imm (yS l)] (.data (.imm (yS (tN T.vars T.bs.length T.ns l)))):=by
 have hm:=S.m1;have hn:=S.n1;have hv:=S.vv;refine fnV vPD ?_
 refine xG hT (fun(j:Nat)=>[(0,.cptr (pG T) 0),(1,.imm (yS l)),(5,.own 0 0 T.bs.length),(17,.imm (yV T.ns)),(18,.int .i64 T.ns.length),(19,.int .i64 j)])
  (fun j=>[(0,rwB (scF T.vars T.bs.length T.ns (fun i=>l[i]!) (fun _=>0) j))]) [] 1 (fun j=>j<=T.ns.length) (fun j=>T.ns.length-j) 0 (z8 _) zdd zsm ?_ ?_
 .exact⟨[5],[],[],[(5,(scF T.vars T.bs.length T.ns (fun i=>l[i]!) (fun _=>0) 0).map yF)],⟨zA,zA,⟨⟨_,2,_,rfl,by rw[Io,Ra];exact AR (n:=0),rfl⟩,zA⟩⟩,⟨uO rfl,xI rfl rfl,zI zdd rfl rfl,xI rfl rfl,zG rfl (zV Nat.cast (z6 _)),zG rfl rfl,zA⟩,⟨zH zdd rfl rfl wY rfl,zA⟩,zO⟩
 intro j hj;by_cases hlt:j<T.ns.length
 .have hvj:=S.vn _ (x6 hlt)
  have hs1:=fun i=>Lr (o:=T.vars) (n:=T.bs.length) (g:=fun i=>l[i]!) (c:=fun _=>0) S.w.nsn hlt (i:=i)
  have hs2:=Ls (o:=T.vars) (n:=T.bs.length) (g:=fun i=>l[i]!) (c:=fun _=>0) hlt
  (refine gob ?_ ?_<;>intro h;refine gob ?_ ?_<;>intro h;refine gob ?_ ?_<;>intro h)
  all_goals try omega
  .refine yB (T.ns[j]!-T.vars) zom (by rw[Lp];omega) ?_
   refine sts ?_;exact⟨j+1,⟨zom,zbo⟩,[0],[],[],[],ttt,⟨uO rfl,zM,zI zdd rfl rfl,zM,zD,zG rfl zom,zA⟩,⟨zH zdd rfl (by rw[hs1 (T.ns[j]!-T.vars) zom zom];exact x5 zom rfl) wY rfl,zA⟩,zO⟩
  .exact⟨j+1,⟨zom,zbo⟩,[0],[],[],[],ttt,⟨uO rfl,zM,zI zdd rfl rfl,zM,zD,zG rfl zom,zA⟩,⟨zH zdd rfl (by rw[hs2 fun i hi=>by omega]) wY rfl,zA⟩,zO⟩
  .exact⟨j+1,⟨zom,zbo⟩,[0],[],[],[],ttt,⟨uO rfl,zM,zI zdd rfl rfl,zM,zD,zG rfl zom,zA⟩,⟨zH zdd rfl (by rw[hs2 fun i hi=>by omega]) wY rfl,zA⟩,zO⟩
 .have ej:j=T.ns.length:=zom
  subst ej
  (refine gob ?_ ?_<;>intro h;refine gob ?_ ?_<;>intro h;refine gob ?_ ?_<;>intro h)
  all_goals try omega
  exact zL (xP (f:=yF) (l:=tN T.vars T.bs.length T.ns l) rfl (by rw[<- ZW]) (by simp[tN]) fun _=>rfl) rfl
def SK(T:Tab)(k:Nat)(S:Sm k T):Fn 51 [.cptr (pG T) 0] (.data (.imm (yS (u7 T.vars T)))):=by
 have hm:=S.m1;have hn:=S.n1;have hv:=S.vv;refine fnV (mkO func51 ntmps51 results51) ?_
 refine xG hT (fun(j:Nat)=>[(0,.cptr (pG T) 0),(3,.own 0 0 T.vars),(14,.imm (yV T.bs)),(15,.int .i64 T.bs.length),(16,.int .i64 j)])
  (fun j=>[(0,rwB (scF 0 T.vars T.bs (fun i=>T.fs[i]![T.ns.length]!) (fun _=>0) j))]) [] 1 (fun j=>j<=T.bs.length) (fun j=>T.bs.length-j) 0 (z8 _) zdd zsm ?_ ?_
 .exact⟨[5],[],[],[(5,(scF 0 T.vars T.bs (fun i=>T.fs[i]![T.ns.length]!) (fun _=>0) 0).map yF)],⟨zA,zA,⟨⟨_,2,_,rfl,by rw[Io,Ra];exact AR (n:=0),rfl⟩,zA⟩⟩,⟨uO rfl,zI zdd rfl rfl,xI rfl rfl,zG rfl (zV Nat.cast (z6 _)),zG rfl rfl,zA⟩,⟨zH zdd rfl rfl wY rfl,zA⟩,zO⟩
 intro j hj;by_cases hlt:j<T.bs.length
 .have hvj:=S.vb _ (x6 hlt)
  have hs1:=fun i=>Lr (o:=0) (n:=T.vars) (g:=fun i=>T.fs[i]![T.ns.length]!) (c:=fun _=>0) S.w.bsn hlt (i:=i)
  have hs2:=Ls (o:=0) (n:=T.vars) (g:=fun i=>T.fs[i]![T.ns.length]!) (c:=fun _=>0) hlt
  refine gob ?_ ?_<;>intro h
  all_goals try omega
  refine zT (Dt T T.bs[j]!) rfl ?_
  refine gob ?_ ?_<;>intro h
  .refine cvd (MQ T j k S hlt) ?_
   refine yB T.bs[j]! zom (by rw[Lp];omega) ?_;refine sts ?_;exact⟨j+1,⟨zom,zbo⟩,[0],[],[],[],ttt,⟨uO rfl,zI zdd rfl rfl,zM,zD,zG rfl zom,zA⟩,⟨zH zdd rfl (by rw[hs1 T.bs[j]! zom zom];exact x5 zom rfl) wY rfl,zA⟩,zO⟩
  .exact⟨j+1,⟨zom,zbo⟩,[0],[],[],[],ttt,⟨uO rfl,zI zdd rfl rfl,zM,zD,zG rfl zom,zA⟩,⟨zH zdd rfl (by rw[hs2 fun i hi=>by omega]) wY rfl,zA⟩,zO⟩
 .have ej:j=T.bs.length:=zom
  subst ej
  refine gob ?_ ?_<;>intro h
  all_goals try omega
  exact zL (xP (f:=yF) (l:=u7 T.vars T) rfl (by rw[<- uSO S.w]) (by simp[u7]) fun _=>rfl) rfl
def uKI(T:Tab)(e k:Nat)(q:Rat)(S:Sm k T)(he:e<T.ns.length)(hq:sz k q):Fn 52 [.cptr (pG T) 0,.int .i64 e,yF q] (.data (.imm (yS (mO T.vars T e q)))):=by
 have hm:=S.m1;have hn:=S.n1;have hv:=S.vv;have hk2:=S.k2;have hve:=S.vn _ (x6 he);have hs0:=vVO (n:=T.vars) (T:=T) (e:=e) (b:=q);refine fnV (mkO func52 ntmps52 results52) ?_;refine zT (Dt T T.ns[e]!) rfl ?_
 refine gob ?_ ?_<;>intro h
 refine uN0 T.ns[e]! zom zom (sts ?_)
 all_goals
  refine xG hT (fun(j:Nat)=>[(0,.cptr (pG T) 0),(1,.int .i64 e),(5,.ptr 0 0 0),(7,.own 1 0 T.vars),(33,.imm (yV T.bs)),(34,.int .i64 T.bs.length),(35,.int .i64 j)])
   (fun j=>[(0,⟨[yF q],3,true⟩),(1,rwB (scF 0 T.vars T.bs (fun i=>q*T.fs[i]![e]!) (fun v=>if T.ns[e]! = v then q else 0) j))]) [] 2 (fun j=>j<=T.bs.length) (fun j=>T.bs.length-j) 0 (z8 _) zdd zsm ?_ ?_
 .rw[zE ‹_›]at hs0
  exact⟨[0,6],[],[],[(6,(scF 0 T.vars T.bs (fun i=>q*T.fs[i]![e]!) (fun v=>if T.ns[e]! = v then q else 0) 0).map yF)],⟨zA,zA,⟨⟨_,2,_,rfl,by rw[Io,hs0,<- uWU];exact vYJ (n:=0) (i:=0+T.ns[e]!) (z7 _),rfl⟩,zA⟩⟩,⟨uO rfl,zG rfl rfl,apx,zI zdd rfl rfl,xI rfl rfl,zG rfl (zV Nat.cast (z6 _)),zG rfl rfl,zA⟩,⟨bbx,zH zdd rfl rfl wY rfl,zA⟩,zO⟩
 rotate_left
 .rw[zB ‹_›]at hs0
  exact⟨[0,6],[],[],[(6,(scF 0 T.vars T.bs (fun i=>q*T.fs[i]![e]!) (fun v=>if T.ns[e]! = v then q else 0) 0).map yF)],⟨zA,zA,⟨⟨_,2,_,rfl,by rw[Io,hs0];exact AR (n:=0),rfl⟩,zA⟩⟩,⟨uO rfl,zG rfl rfl,apx,zI zdd rfl rfl,xI rfl rfl,zG rfl (zV Nat.cast (z6 _)),zG rfl rfl,zA⟩,⟨bbx,zH zdd rfl rfl wY rfl,zA⟩,zO⟩
 all_goals
  intro j hj;by_cases hlt:j<T.bs.length
  .have hvj:=S.vb _ (x6 hlt)
   have hlj:=S.w.ll j hlt;have hfl:=S.w.fl;have hq2:=S.e.1 j hlt e zom;have l1:=yO hq;have l2:=yO hq2;have cm:=gD (cr q) (cr T.fs[j]![e]!) (yH _) (yH _) zom zom zom zom;rw[yC,yC]at cm;have hs1:=fun i=>Lr (o:=0) (n:=T.vars) (g:=fun i=>q*T.fs[i]![e]!) (c:=fun v=>if T.ns[e]! = v then q else 0) S.w.bsn hlt (i:=i)
   have hs2:=Ls (o:=0) (n:=T.vars) (g:=fun i=>q*T.fs[i]![e]!) (c:=fun v=>if T.ns[e]! = v then q else 0) hlt
   refine gob ?_ ?_<;>intro h
   all_goals try omega
   refine zT (Dt T T.bs[j]!) rfl ?_
   refine gob ?_ ?_<;>intro h
   all_goals try omega
   .refine cvd cm ?_
    refine yB T.bs[j]! zom (by rw[Lp];omega) ?_;refine sts ?_;exact⟨j+1,⟨zom,zbo⟩,[0,1],[],[],[],ttt,⟨uO rfl,zD,apx,zI zdd rfl rfl,zM,zD,zG rfl zom,zA⟩,⟨bbx,zH zdd rfl (by rw[hs1 T.bs[j]! zom zom];exact x5 zom rfl) wY rfl,zA⟩,zO⟩
   .exact⟨j+1,⟨zom,zbo⟩,[0,1],[],[],[],ttt,⟨uO rfl,zD,apx,zI zdd rfl rfl,zM,zD,zG rfl zom,zA⟩,⟨bbx,zH zdd rfl (by rw[hs2 fun i hi=>by omega]) wY rfl,zA⟩,zO⟩
  .have ej:j=T.bs.length:=zom
   subst ej
   refine gob ?_ ?_<;>intro h
   all_goals try omega
   exact zL (xP (f:=yF) (l:=mO T.vars T e q) rfl (by rw[<- uSI S.w he]) (by simp[mO]) fun _=>rfl) rfl
open Go.Proofs Go.PI Go.Proofs.Tryz Go.PI.SX
def t5:2<=5000:=by decide
def nd5{m:Nat}(h:m<=64):((ck 5000).ks m).Nodup:=(pF (N:=5164) h zdd).nd
def vSX(T:Tab)(k:Nat)(hS:∀ j,j<=T.ns.length->Sm k (yT T.vars T j))(h0:0<T.ns.length)(hf:∀ j,j<T.ns.length->T.ns[j]! < T.vars):FnT prog G0 47 [] 5000 T (.tup []) (yT T.vars T T.ns.length):=by
 have S:Sm k T:=hS 0 (z8 _);have hm:=S.m1;have hn1:=S.n1;refine ZK zU hT (mkO func47 ntmps47 results47) zsm fun K N hK hN=>?_
 have hKn:K.n<N:=hK.lt _ (ks_mem.2 (zC (zC (zF rfl))));refine sts ?_;refine fO (iR zU hT (mkO func57 ntmps57 results57) zsm ?_);refine sts ?_
 split
 all_goals try omega
 refine sts ?_;refine rH zom (vR (Im hK.nd).n ?_);refine sts ?_;refine Dk ?_;refine Lt (by rw[ZX zom];rfl) ?_;refine sts ?_;have hl:=Ff (n:=T.vars) (T:=T)
 refine eO hT (fun(j:Nat)=>[(0,.ptr 1 0 0),(10,.own 5200 0 T.ns.length),(11,.int .i64 T.ns.length),(12,.int .i64 j)])
  (fun j=>[(5200,⟨yV T.ns,1,false⟩)]++yX (ck 5000) (yT T.vars T j)) 5300 (fun j=>j<=T.ns.length) (fun j=>T.ns.length-j) 0 (z8 _) zom ?_ ?_
 .refine KeptG.to (FT (C:=5000) (k:=K) (ax:=[(5200,N+8+1)]) zom t5 zdd hm hK.nd ?_ (fun r hr=>ZY ?_) ⟨apx,zI zdd rfl ?_,zG rfl ?_,zD,zA⟩ ⟨zH zdd (hs_same.trans rfl) ?_ o6 rfl,zA⟩ rfl (fun p hp=>?_) (fun p hp q hq hpq=>?_))
  ·(repeat refine TabS.hs ?_ (hK.not zom))
   exact Im hK.nd
  .rcases hr with hr|hr
   .omega
   .have:=dA zdd hr;omega
  .simp[yV]
  .simp[yV]
  .exact uT zsm
  .cases yG.1 hp
   rw[Lu];exact hK.not zom
  .cases yG.1 hp
   cases yG.1 hq
   exact absurd rfl hpq
 intro j hj;have Sj:=hS j hj;obtain⟨hb,hn,hv⟩:=hl j;have hmj:(yT T.vars T j).bs.length<=64:=zom
 by_cases hlt:j<T.ns.length
 .have hfj:=hf j hlt
  refine gob ?_ ?_<;>intro h
  all_goals try omega
  refine yB j (z7 _) hlt (sts ?_);refine Za (Dt (yT T.vars T j) T.ns[j]!) (yL (Fc Sj.w (vX (T:=yT T.vars T j) hmj t5 rfl)) rfl) ?_
  refine gob ?_ ?_<;>intro h
  rotate_left
  .exact absurd (hv ▸ hfj) ‹_›
  have hjn:j<(yT T.vars T j).ns.length:=zom
  refine eO hT (fun(i:Nat)=>[(0,.ptr 1 0 0),(2,.int .i64 j),(10,.own 5200 0 T.ns.length),(11,.int .i64 T.ns.length),(12,.int .i64 j),(24,.own 5002 0 (yT T.vars T j).bs.length),(25,.int .i64 (yT T.vars T j).bs.length),(26,.int .i64 i)])
   (fun _=>[(5200,⟨yV T.ns,1,false⟩)]++yX (ck 5000) (yT T.vars T j)) 5300 (fun i=>i<=(yT T.vars T j).bs.length/\∀ r,r<i->¬ (T.vars<=(yT T.vars T j).bs[r]! /\ (yT T.vars T j).fs[r]![j]! ≠ 0)) (fun i=>(yT T.vars T j).bs.length-i) 0 ⟨z8 _,fun r hr=>absurd hr (EG _)⟩ zom
   (KeptG.to (qA [] hN t5 zdd (T:=yT T.vars T j) hmj (by(repeat refine TabS.hsX ?_ hmj t5 rfl);exact vX (T:=yT T.vars T j) hmj t5 rfl) rfl ⟨apx,zD,zI zdd rfl rfl,zD,zD,zI zdd rfl rfl,zD,zD,zA⟩ ⟨zH zdd rfl rfl o6 rfl,zA⟩ rfl)) ?_
  intro i ⟨hi,hno⟩;by_cases hlt2:i<(yT T.vars T j).bs.length
  .have hli:=Sj.w.ll i hlt2
   have hq:=Sj.e.1 i hlt2 j zom;have l1:=yO hq;have hk2:=Sj.k2;have cs:=r9 (cr (yT T.vars T j).fs[i]![j]!) (yH _) zom;rw[yC]at cs;have hz:=@sgnQ_zero (yT T.vars T j).fs[i]![j]!
   have nxt:¬ (T.vars<=(yT T.vars T j).bs[i]! /\ (yT T.vars T j).fs[i]![j]! ≠ 0)->∀ r,r<i+1->¬ (T.vars<=(yT T.vars T j).bs[r]! /\ (yT T.vars T j).fs[r]![j]! ≠ 0):=fun h r hr=>by
    by_cases e:r=i
    .rw[e];exact h
    .exact hno r zom
   refine gob ?_ ?_<;>intro h
   all_goals try omega
   refine yB i (z7 _) hlt2 (sts ?_);refine Za (Dt (yT T.vars T j) (yT T.vars T j).bs[i]!) (yL (Fc Sj.w (vX (T:=yT T.vars T j) hmj t5 rfl)) rfl) ?_
   refine gob ?_ ?_<;>intro h
   .exact⟨i+1,⟨⟨zom,nxt fun h=>by omega⟩,by show(yT T.vars T j).bs.length-(i+1)<(yT T.vars T j).bs.length-i;omega⟩,KeptG.to (qA [] hN t5 zdd (T:=yT T.vars T j) hmj (by(repeat refine TabS.hsX ?_ hmj t5 rfl);exact vX (T:=yT T.vars T j) hmj t5 rfl) rfl ⟨apx,zD,zI zdd rfl rfl,zD,zD,zI zdd rfl rfl,zD,zG rfl zom,zA⟩ ⟨zH zdd rfl rfl o6 rfl,zA⟩ rfl)⟩
   .refine CF (z7 _) hlt2 ?_
    refine sts ?_;refine eM hmj t5 rfl hlt2 (sts ?_);refine eM hmj t5 rfl hlt2 ?_;refine yB j (z7 _) (by show j<(yT T.vars T j).fs[i]!.length;omega) ?_;refine sts ?_;refine zT cs rfl ?_
    refine gob ?_ ?_<;>intro h
    .have hne:(yT T.vars T j).fs[i]![j]! ≠ 0:=fun e=>absurd (hz.2 e) ‹_›
     have hit:=uO0 (n:=T.vars) (e:=j) hlt2 ⟨zom,hne⟩ hno;refine Il (T:=yT T.vars T j) (ck 5000) (MP (yT T.vars T j) i j k Sj hlt2 hjn hne) (pF hmj zdd) zdd (vX (T:=yT T.vars T j) hmj t5 rfl) fun k' h' z' nx' g1 g2 g3 g4 g5=>?_
     refine sts ?_;have e1:yT T.vars T (j+1)=zY (yT T.vars T j) i j:=uDH hit;rw[<- e1]at g1 g2 g3;have q4:=g4 5200 zdd (vW hmj t5 rfl);refine⟨j+1,⟨zom,zbo⟩,KeptG.to (FT (C:=5000) (k:=k') (ax:=[]) hN t5 zdd (by rw[(hl (j+1)).1];exact hm) g1 g3 (fun r hr=>rfl) ⟨apx,zI zdd rfl rfl,zD,zG rfl zom,zA⟩ ⟨zH zdd (q4.1.trans rfl) rfl o6 (q4.2.trans rfl).symm,zA⟩ rfl (fun p hp=>?_) (fun p hp q hq hpq=>?_))⟩
     .cases yG.1 hp
      intro hx;rcases g2 _ hx with h|h
      .exact vW hmj t5 rfl h
      .exact absurd (show _<=5200 from h) zdd
     .cases yG.1 hp
      cases yG.1 hq
      exact absurd rfl hpq
    .exact⟨i+1,⟨⟨zom,nxt fun h=>h.2 (hz.1 zom)⟩,by show(yT T.vars T j).bs.length-(i+1)<(yT T.vars T j).bs.length-i;omega⟩,KeptG.to (qA [] hN t5 zdd (T:=yT T.vars T j) hmj (by(repeat refine TabS.hsX ?_ hmj t5 rfl);exact vX (T:=yT T.vars T j) hmj t5 rfl) rfl ⟨apx,zD,zI zdd rfl rfl,zD,zD,zI zdd rfl rfl,zD,zG rfl zom,zA⟩ ⟨zH zdd rfl rfl o6 rfl,zA⟩ rfl)⟩
  .have ei:i=(yT T.vars T j).bs.length:=zom
   subst ei
   refine gob ?_ ?_<;>intro h
   all_goals try omega
   have e1:yT T.vars T (j+1)=yT T.vars T j:=uL6 (uT4 hno);refine⟨j+1,⟨zom,zbo⟩,?_⟩;rw[e1];exact KeptG.to (qA [] hN t5 zdd (T:=yT T.vars T j) hmj (vX (T:=yT T.vars T j) hmj t5 rfl) rfl ⟨apx,zI zdd rfl rfl,zD,zG rfl zom,zA⟩ ⟨zH zdd rfl rfl o6 rfl,zA⟩ rfl)
 .have ej:j=T.ns.length:=zom
  subst ej
  refine gob ?_ ?_<;>intro h
  all_goals try omega
  refine⟨rfl,ck 5000,nd5 hmj,fun x hx=>?_,vX (T:=yT T.vars T T.ns.length) hmj t5 rfl⟩;rcases ks_mem.1 hx with h|h|h|h|h|⟨i,hi,h⟩
  .exact zF (ks_mem.2 (zF h))
  all_goals refine zC ?_
  all_goals simp only[ck]at h
  all_goals omega
open Go.Proofs Go.PI Go.Proofs.Tryz Go.PI.SX
def uKK(T:Tab)(k:Nat)(gid:FuncId)(caps:List PV)(X:List (Nat×Blk))(ln:Tab->List Rat)(I:Tab->Prop)(hL:LineOk prog G0 gid caps X ln I)(hI:∀ U,I U->Sm k U/\(ln U).length=U.ns.length+1/\∀ j,j<U.ns.length->sz k (ln U)[j]!)(hs:∀ U e r,I U->wX U.vars U.ns (ln U) U.ns.length=some e->vV U.vars U e U.bs.length=some r->I (zY U r e))(h0:I T)(hp:T.pv<=65537) :
 Rb prog G0 54 [.func (.func gid) [] caps] X 5000 T (.tup [.int .i64 (onI (xL T.vars ln (65537-T.pv) T).2),.bool (decide ((xL T.vars ln (65537-T.pv) T).1.pv<=65536))]) (xL T.vars ln (65537-T.pv) T).1:=by
 have S:=(hI T h0).1;have hm:=S.m1;have hx:=hL.x;refine uT8 zU hT (mkO func54 ntmps54 results54) zsm fun K N hK hX hN=>?_
 refine sus ?_;refine hx.tell (T:=T) K [(0,.ptr 1 0 0),(1,.func (.func gid) [] caps)] zom hm hK.nd (fun p hp=>(hX p hp).1) (Lv hK.nd fun p hp=>(hX p hp).1) hx.hv ⟨apx,hL.g K,zA⟩ (sts ?_);obtain⟨R,hR⟩:∃ R,xL T.vars ln (65537-T.pv) T=R:=⟨_,rfl⟩;rw[hR];refine eO hT (fun(U:Tab)=>[(0,.ptr 1 0 0),(1,.func (.func gid) [] caps)]) (fun U=>X++yX (ck 5000) U) 5300 (fun U=>I U/\U.pv<=65537/\xL T.vars ln (65537-U.pv) U=R/\U.bs.length=T.bs.length/\U.vars=T.vars) (fun U=>65537-U.pv) T ⟨h0,hp,hR,rfl,rfl⟩ zom ?_ ?_
 .exact KeptG.to (hx.keptG (k:=ck 5000) zom hm (nd5 hm) (hx.not hm) (vX (T:=T) hm t5 hx.xk) hx.hv ⟨apx,hL.g _,zA⟩)
 intro U ⟨hU,hpU,hRU,hbU,hvU⟩;obtain⟨SU,hll,hls⟩:=hI U hU;have hmU:=SU.m1;have TS:=vX (T:=U) hmU t5 hx.xk;have hdec:decide ((U.pv:Int)<=65536)=decide (U.pv<=65536):=bW.2 zom;refine sts ?_;refine vR TS.t.1 ?_
 refine gob ?_ ?_<;>intro h
 .have hpv:U.pv<=65536:=zom
  have ek:65537-U.pv=65536-U.pv+1:=zom
  rw[BO];refine Zf (T:=U) (ck 5000) X (hL.call U hU) (pF hmU zdd) (fun p hp=>⟨hx.not hmU p hp,w9 (hx.lt p hp).2 zdd⟩) (fun p hp=>by have:=hx.lt p hp;omega) hx.nd zdd TS hx.hv fun q k1 h1 z1 nx1 n1 n2 TS1 hq hh hn=>?_
  have sub1:∀ p∈X,p.1∉k1.ks U.bs.length:=fun p hp h=>by
   rcases n2 _ h with h|h
   .exact hx.not hmU p hp h
   .exact absurd (nB h (hx.lt p hp).2) zdd
  have XS1:∀ p∈X,h1 p.1=some p.2/\z1 p.1=false:=fun p hp=>by
   have:=hh p.1 (w9 (hx.lt p hp).2 zdd) (hx.not hmU p hp);exact⟨this.1.trans (hx.hv p hp).1,this.2.trans rfl⟩
  have ce:=uHC U (ln U) k SU.n1 hll hls (by have:=SU.k2;omega);refine sts ?_;refine RU ce (yL (Fc SU.w TS1) (yL (Fb (n:=5) hq.1 (z6 _) (FY (n:=3) (ln U))) uFG)) (sus ?_);refine hx.tell (T:=U) k1 [(0,.ptr 1 0 0),(1,.func (.func gid) [] caps),(6,.int .i64 (onI (wX U.vars U.ns (ln U) U.ns.length)))] hN hmU n1 sub1 TS1 XS1 ⟨apx,hL.g k1,zD,zA⟩ ?_;rcases ho:wX U.vars U.ns (ln U) U.ns.length with _|e
  .rw[show onI none=-1 from rfl]
   refine sts ?_;refine vR TS.t.1 (sts ?_);rw[<- hvU,Zg ho]at hRU;subst hRU;exact⟨⟨by rw[hdec];rfl,ck 5000,nd5 hmU,Rc hmU hN,TS⟩,hx.hv⟩
  .rw [show onI (some e)=(e:Int) from rfl]
   have he:=RY ho;have cl:=uG9 U e k SU he;refine sts ?_
   all_goals try omega
   rcases hl:vV U.vars U e U.bs.length with _|r
   .rw[hl,show onI none=-1 from rfl]at cl
    refine RU cl (yL (Fc SU.w TS) rfl) (sts ?_);rw[<- hvU,ek,Zh ho hl]at hRU;subst hRU;exact⟨⟨by rw[show decide (U.pv<=65536)=true from sJ hpv];rfl,ck 5000,nd5 hmU,Rc hmU hN,TS⟩,hx.hv⟩
   .rw[hl,show onI (some r)=(r:Int) from rfl]at cl
    obtain⟨hr,hr2,hr3⟩:=ZU hl;have hne:U.fs[r]![e]! ≠ 0:=by grind
    have ep:(zY U r e).pv=U.pv+1:=rfl;have eb:(zY U r e).bs.length=U.bs.length:=by simp[zY]
    refine RU cl (yL (Fc SU.w TS) rfl) (sts ?_)
    all_goals try omega
    refine Il (T:=U) (ck 5000) (MP U r e k SU hr he hne) (pF hmU zdd) zdd TS fun k' h2 z2 nx2 g1 g2 g3 g4 g5=>?_
    refine sts ?_;rw[<- hvU,ek,Zi ho hl]at hRU;refine⟨zY U r e,⟨⟨hs U e r hU ho hl,zom,?_,zom,hvU⟩,by show 65537-(zY U r e).pv<65537-U.pv;omega⟩,KeptG.to (hx.keptG (k:=k') hN zom g1 (fun p hp hq=>?_) g3 (fun p hp=>?_) ⟨apx,hL.g k',zA⟩)⟩
    .rw[<- hRU,hvU,ep,show 65537-(U.pv+1)=65536-U.pv by omega]
    .rcases g2 _ hq with h|h
     .exact hx.not hmU p hp h
     .exact absurd (nB h (hx.lt p hp).2) zdd
    .have:=g4 p.1 (w9 (hx.lt p hp).2 zdd) (hx.not hmU p hp)
     exact⟨this.1.trans (hx.hv p hp).1,this.2.trans rfl⟩
 .refine vR TS.t.1 ?_
  refine sts ?_;have hpv:U.pv=65537:=zom
  rw[hpv,EK,vYF]at hRU;subst hRU;exact⟨⟨by rw[hdec];rfl,ck 5000,nd5 hmU,Rc hmU hN,TS⟩,hx.hv⟩
open Go.Proofs Go.PI Go.Proofs.Tryz Go.PI.SX
abbrev obX:List (Nat×Blk):=[(3210,⟨[.ptr 1 0 0],1,false⟩)]
def uW7(T:Tab)(W:Wf T):FnL prog G0 55 [.ptr 3210 0 0] obX 7000 T T.ob:=by
 have hol:=W.ol;refine Ze zU hT (mkO func55 ntmps55 results55) zsm fun K N hK hX hN=>?_
 have hX1:=(hX _ (yG.2 rfl)).1;have TS:=Lv (X:=obX) hK.nd fun p hp=>(hX p hp).1
 refine sts ?_;refine⟨K.o,⟨by rw[hol],K,hK.nd,fun x hx=>zF hx,TS⟩,⟨TS.o,rfl⟩,zF (ks_mem.2 (zC (zC (zC (zC (zF rfl)))))),fun p hp=>?_⟩;cases yG.1 hp;exact⟨rfl,rfl⟩
def uFK(k:Nat)(I:Tab->Prop)(hI:∀ U,I U->Sm k U):LineOk prog G0 55 [.ptr 3210 0 0] obX (·.ob) I:=by
 refine⟨⟨fun p hp=>?_,zdd,fun K h z hX=>?_⟩,fun K=>⟨rfl,zA,⟨zdd,rfl⟩,zA⟩,fun U hU=>uW7 U (hI U hU).w⟩
 .cases yG.1 hp;decide
 .have:=hX _ (yG.2 rfl)
  exact⟨xE zdd this.1 ⟨zdd,rfl⟩ rfl this.2.symm,zA⟩
def dD(l:List Nat)(v:Nat):Int:=if v∈l then l.idxOf v else -1
def uHA(l:List Nat)(v:Nat)(hl:l.length<=1000):Fn 119 [.imm (yV l),.int .i64 v] (.data (.int .i64 (dD l v))):=by
 refine fnV (mkO func119 ntmps119 results119) ?_;refine rU hT (fun(j:Nat)=>[(0,.imm (yV l)),(1,.int .i64 v),(7,.int .i64 l.length),(8,.int .i64 j)]) (fun j=>j<=l.length/\v∉l.take j) (fun j=>l.length-j) 0 ⟨z8 _,zsm⟩ ⟨zM,zD,zG rfl (zV Nat.cast (z6 _)),zD,zA⟩ ?_;intro j ⟨hj,hno⟩;by_cases hlt:j<l.length
 ·(refine gob ?_ ?_<;>intro h;refine gob ?_ ?_<;>intro h)
  all_goals try omega
  .have e:l[j]! = v:=zom
   have hm:v∈l:=e ▸ x6 hlt;have hi:l.idxOf v=j:=uFS hlt e hno;exact zL rfl (by unfold dD;rw[zE hm,hi])
  .have e:l[j]! ≠ v:=zom
   exact⟨j+1,⟨⟨zom,fun h=>(Fe hlt).1 h |>.elim hno fun h=>e h.symm⟩,zbo⟩,zM,zD,zD,zG rfl zom,zA⟩
 .have ej:j=l.length:=zom
  subst ej;rw[kK]at hno
  (refine gob ?_ ?_<;>intro h;refine gob ?_ ?_<;>intro h)
  all_goals try omega
  exact zL rfl (by unfold dD;rw[zB hno])
open Go.Proofs Go.PI Go.Proofs.Tryz Go.PI.SX
variable {v m N:Nat}
def nd7  (h:m<=64):((ck 7000).ks m).Nodup:=(pF (N:=7164) h zdd).nd
def t7:2<=7000:=by decide
def uN1{L L':List PV}{j:Nat}{K:PV->Prop}(e:L=L')(k:oK (nth L' j) K):oK (nth L j) K:=by rw[e];exact k
def uTO{K:Tk}{C m':Nat}(hm:m'<=64)(hN:N<=C):∀ x∈(ck C).ks m',x∈K.ks m\/N<=x:=fun x hx=>by
 rcases ks_mem.1 hx with h|h|h|h|h|⟨i,hi,h⟩
 .exact zF (ks_mem.2 (zF h))
 all_goals refine zC ?_
 all_goals simp only[ck]at h
 all_goals omega
def Du{l:List Nat}{r:Nat}{x:Int}(hx:dD l v=x)(hl:l.length<=1000):FnC prog G0 119 [.own r 0 l.length,.int .i64 v] (.pk [(r,⟨yV l,1,false⟩)] N (.int .i64 x) none):=by
 subst hx;exact pkI N (uHA l v hl) (yL (Fb (n:=5) (sz:=1) (agg:=false) (by unfold lsH;rw[zE rfl]) zsm (Lm l)) rfl) zsm
def Dw{h:Hp}{z:Fz}{r:Nat}{l:List Nat}(hb:h r=some ⟨yV l,1,false⟩)(hz:z r=false)(hr:r<N):fD h z [(r,⟨yV l,1,false⟩)] N [.own r 0 l.length,.int .i64 v]:=by
 refine⟨zsm,fun p hp=>?_,fun a ha=>?_⟩
 .cases yG.1 hp
  refine⟨hb,hz,hr,fun e he=>?_⟩;obtain⟨i,_,rfl⟩:=zW.1 he;rfl
 .rcases yI.1 ha with rfl|ha
  .show Nat.blt r N=true;rw[mD];exact hr
  .cases yG.1 ha;rfl
def vWD:FO 118 f118 [.tmp 3] 33:=mkO func118 ntmps118 results118
abbrev viX(v m:Nat):List (Nat×Blk):=[(3210,⟨[.ptr 1 0 0],1,false⟩),(3211,⟨[.int .i64 v],1,false⟩),(3212,⟨[.own 3213 0 (m+1)],1,false⟩),(3213,rwB (List.replicate (m+1) 0))]
def SL  {p:Nat×Blk}(hp:p∈viX v m):2<=p.1/\p.1<4000:=by
 simp only[yI,uU,uX]at hp;rcases hp with rfl|rfl|rfl|rfl
 .exact(show 2<=3210/\3210<4000 by decide)
 .exact(show 2<=3211/\3211<4000 by decide)
 .exact(show 2<=3212/\3212<4000 by decide)
 .exact(show 2<=3213/\3213<4000 by decide)
set_option maxRecDepth 100000 in
def uW6(T:Tab)(k v m:Nat)(S:Sm k T)(hm:T.ns.length=m)(hin:v∈T.bs\/v∈T.ns):FnL prog G0 118 [.ptr 3210 0 0,.ptr 3211 0 0,.ptr 3212 0 0] (viX v m) 7000 T (xD v T):=by
 have hmb:=S.m1;have hn1:=S.n1;refine Ze zU hT vWD zsm fun K N hK hX hN=>?_
 have TS0:=Lv (X:=viX v m) hK.nd fun p hp=>(hX p hp).1
 refine sus ?_;refine RO (C:=7000) (kk:=7300) (T:=T) K [] [(0,.ptr 3210 0 0),(1,.ptr 3211 0 0),(2,.ptr 3212 0 0)] (viX v m) hN zdd zdd hmb hK.nd TS0 (fun _ _=>rfl) ⟨apx,apx,apx,zA⟩ ⟨xE zdd rfl ⟨zdd,rfl⟩ rfl rfl,bbx,xE zdd rfl ⟨zdd,rfl⟩ rfl rfl,zH zdd rfl rfl wY rfl,zA⟩ rfl (fun p hp=>by rw[AQ rfl (by have:=(hX p hp).2;omega)];exact(hX p hp).1) (fun p hp q hq hne=>by rw[AQ rfl (by have:=(hX p hp).2;omega),AQ rfl (by have:=(hX q hq).2;omega)];exact hne) ?_;have TS:=vX (T:=T) (X:=viX v m) hmb t7 rfl;refine sts ?_;by_cases hb:v∈T.bs
 .obtain⟨hi,he⟩:=oI hb
  have e1:dD T.bs v=(T.bs.idxOf v:Int):=zE hb;have ev:xD v T=T.fs[T.bs.idxOf v]! := zE hb;have hli:=S.w.ll _ hi;rw[ev];generalize T.bs.idxOf v=i at *
  refine mR [(7002,⟨yV T.bs,1,false⟩)] 7300 (Du e1 zom) (Dw TS.b rfl zdd) rfl (sts ?_)
  all_goals try omega
  refine CF (z7 _) hi (sts ?_);refine⟨(ck 7000).r i,⟨by rw[hli];rfl,ck 7000,nd7 hmb,uTO hmb hN,TS⟩,TS.row hi,zC (by show N<=7000+100+i;omega),fun p hp=>?_⟩;exact⟨Lx (show [3210,3211,3212,3213].Nodup by decide) hp,rfl⟩
 .have hn:=hin.resolve_left hb
  obtain⟨hi,he⟩:=oI hn;have e1:dD T.bs v=-1:=zB hb;have e2:dD T.ns v=(T.ns.idxOf v:Int):=zE hn;have ev:xD v T=(List.replicate (m+1) 0).set (T.ns.idxOf v) 1:=by unfold xD;rw[zB hb,hm]
  rw[ev];generalize T.ns.idxOf v=i at *
  refine mR [(7002,⟨yV T.bs,1,false⟩)] 7300 (Du e1 zom) (Dw TS.b rfl zdd) rfl (sts ?_)
  all_goals try omega
  refine fO (iR zU hT (mkO func120 ntmps120 results120) zsm ?_);refine sts ?_;have c1:=bE 1 zdd;rw[show(((1:Int)):Rat)=1 by rfl]at c1;refine mR [(7003,⟨yV T.ns,1,false⟩)] 7300 (Du e2 zom) (Dw TS.n rfl zdd) rfl (sts ?_);refine cvd c1 ?_;refine uN1 (L':=yS (List.replicate (m+1) 0)) ?_ ?_
  .exact uT (by show(yS (List.replicate (m+1) 0)).length<=_;simp)
  refine yB (f:=yF) (l:=List.replicate (m+1) 0) i zom yE (sts ?_);have hTl:(List.take (m+1) (List.drop 0 (rwB (List.replicate (m+1) 0)).els))=yS (List.replicate (m+1) 0):=uT (by show(yS (List.replicate (m+1) 0)).length<=_;simp);refine⟨7314+1,⟨by rw[hTl];simp,ck 7000,nd7 hmb,uTO hmb hN,?_⟩,⟨?_,rfl⟩,zC (wS hN zdd),fun p hp=>?_⟩
  .exact(((TS.hsX hmb t7 rfl).hsX hmb t7 rfl).hsX hmb t7 rfl).hsX hmb t7 rfl
  .refine zV (fun l=>some (Blk.mk l 3 true)) ?_
   show(List.take (m+1) (List.drop 0 (rwB (List.replicate (m+1) 0)).els)).set (0+i) (yF 1)=_
   rw[hTl];exact x5 (z7 _) rfl
  .have hl:=Lx (X:=viX v m) (L:=yX (ck 7000) T) (show [3210,3211,3212,3213].Nodup by decide) hp
   have n1:p.1≠7312+1:=by have:=SL hp;omega
   have n2:p.1≠7314+1:=by have:=SL hp;omega
   exact⟨(yM n2).trans ((yM n2).trans ((yM n1).trans ((yM n1).trans hl))),rfl⟩
def vPU(k v m:Nat)(I:Tab->Prop)(hI:∀ U,I U->Sm k U/\U.ns.length=m/\(v∈U.bs\/v∈U.ns)):LineOk prog G0 118 [.ptr 3210 0 0,.ptr 3211 0 0,.ptr 3212 0 0] (viX v m) (xD v) I:=by
 refine⟨⟨fun p hp=>SL hp,show [3210,3211,3212,3213].Nodup by decide,fun K h z hX=>?_⟩,fun K=>⟨rfl,zA,⟨zdd,rfl⟩,⟨zdd,rfl⟩,⟨zdd,rfl⟩,zA⟩,fun U hU=>uW6 U k v m (hI U hU).1 (hI U hU).2.1 (hI U hU).2.2⟩;have h1:=hX (3210,_) (tT ..);have h2:=hX (3211,_) (xN _ (tT ..));have h3:=hX (3212,_) (xN _ (xN _ (tT ..)));have h4:=hX (3213,_) (xN _ (xN _ (xN _ (tT ..))));exact⟨xE zdd h1.1 ⟨zdd,rfl⟩ rfl h1.2.symm,vN zdd h2.1 rfl rfl rfl h2.2.symm,xE zdd h3.1 ⟨zdd,rfl⟩ rfl h3.2.symm,zH zdd h4.1 rfl wY h4.2.symm,zA⟩
end Go.PI.Tryz
