/-
  Elimination of variables: all of them, one behind the other; soundness. No program in sight.
-/
import Derived.Test.YtcbepncdbgaohaaGreatDoorCA2
set_option linter.all false
set_option maxHeartbeats 0
namespace Go.PI
def sv:List (Nat×PV)->Nat->PV
 |[],_=>.any
 | (j,v)::l,i=>match Nat.beq i j with
   |true=>v
   |false=>sv l i
def hv:List (Nat×Blk)->Nat->Option Blk
 |[],_=>none
 | (j,b)::l,i=>match Nat.beq i j with
   |true=>some b
   |false=>hv l i
variable {α:Type}{k r i:Nat}{Z:List Nat}{off:Nat}{v:PV}{agg:Bool}{v':PV}{h:Hp}{z:Fz}
def zv(l:List Nat)(r:Nat):Bool:=rQ l r
def BV:∀ {l:List (Nat×PV)},sv l=sl l
 |[]=>rfl
 | (j,v)::l=>by
   funext i
   unfold sv sl;rw[vL,BV];by_cases h:i=j<;>simp[h]
def Cx:∀ {l:List (Nat×Blk)},hv l=hl l
 |[]=>rfl
 | (j,v)::l=>by
   funext i
   unfold hv hl;rw[vL,Cx];by_cases h:i=j<;>simp[h]
def Cy{l:List Nat}:zv l=zl l:=by funext r;unfold zv zl;rw[fF]
def at'(ρ:Nat->Nat)(k:Nat)(t:Tm)(j:Nat)(v:PV):Prop:=rn ρ k 3 v (t j)
def okV(ρ:Nat->Nat)(k:Nat):List (Nat×PV)->Tm->Prop
 |[],_=>True
 |(j,v)::l,t=>at' ρ k t j v/\okV ρ k l t
def Ef{ρ:Nat->Nat}{k:Nat}{t:Tm}:∀ {l:List (Nat×PV)},okV ρ k l t->okS ρ k l t
 |[],_=>trivial
 |(_,_)::_,h=>⟨h.1,Ef h.2⟩
section
variable {ρ:Nat->Nat} {k:Nat} {t:Tm} {j:Nat}
def zG{κ:IntKind}{n m:Int}(h:t j=.int κ n)(e:n=m):at' ρ k t j (.int κ m):=by subst e;unfold at';rw[OG];exact h
def wU{b c:Bool}(h:t j=.bool b)(e:b=c):at' ρ k t j (.bool c):=by subst e;unfold at';rw[uL4];exact h
def xI{es fs:List PV}(h:t j=.imm es)(e:es=fs):at' ρ k t j (.imm fs):=by subst e;unfold at';rw[uSF];exact h
def jW(h:t j=.nilsl):at' ρ k t j .nilsl:=by unfold at';rw[VF];exact h
def uO{e:PV}{o:Nat}(h:t j=.cptr e o):at' ρ k t j (.cptr e o):=by unfold at';rw[uL3];exact h
def zI{len len':Nat}(hr:r<k)(h:t j=.own (ρ r) off len)(e:len=len'):at' ρ k t j (.own r off len'):=by subst e;unfold at';rw[Gt];exact⟨hr,h⟩
def BW  (hr:r<k)(h:t j=.ptr (ρ r) i off):at' ρ k t j (.ptr r i off):=by unfold at';rw[uSE];exact⟨hr,h⟩
def apx  (hr:r<k:=by decide)(h:t j=.ptr (ρ r) i off:=by exact rfl):at' ρ k t j (.ptr r i off):=BW hr h
def apy  (h:t j=.ptr (ρ r) i off)(hr:r<k:=by decide):at' ρ k t j (.ptr r i off):=BW hr h
def ttt:True/\True/\True:=⟨zA,⟨zA,zA⟩⟩
end
section
variable {P:Program} {T:Ti} {G:Gl} {n0:Nat}
def Eg(ρ:Nat->Nat)(k:Nat)(Z:List Nat)(r:Nat)(b:Blk)(h:Hp)(z:Fz):Prop:=r<k/\(∀ e∈b.els,e≠.any)/\(∃ b',h (ρ r)=some b'/\rnB ρ k b b')/\rQ Z r=z (ρ r)
def uP(ρ:Nat->Nat)(k:Nat)(Z:List Nat):List (Nat×Blk)->Hp->Fz->Prop
 |[],_,_=>True
 |(r,b)::l,h,z=>Eg ρ k Z r b h z/\uP ρ k Z l h z
def KH{ρ:Nat->Nat}{k:Nat}{Z:List Nat}{h:Hp}{z:Fz}:∀ {l:List (Nat×Blk)},uP ρ k Z l h z->okH ρ k Z l h z
 |[],_=>trivial
 |(_,_)::_,⟨⟨h1,h2,⟨b,h3,h4⟩,h5⟩,hr⟩=>⟨⟨h1,h2,by rw[h3];exact h4,by rw[<- fF];exact h5⟩,KH hr⟩
def vN{ρ:Nat->Nat}     {sz:Nat}    (hr:r<k)(hb:h (ρ r)=some ⟨[v'],sz,agg⟩)(e:v'=v)(hn:nr 3 v=true)(ha:v.storable=true)(hz:rQ Z r=z (ρ r)):Eg ρ k Z r ⟨[v],sz,agg⟩ h z:=by
 subst e;refine⟨hr,fun e he=>?_,⟨_,hb,rfl,rfl,zF ⟨rfl,fun e he=>?_⟩⟩,hz⟩
 .simp at he;subst he;intro q;subst q;simp[PV.storable]at ha
 .simp at he;subst he;exact hn
def bbx{ρ:Nat->Nat}     {sz:Nat}    (hr:r<k:=by decide)(hb:h (ρ r)=some ⟨[v'],sz,agg⟩:=by exact rfl)(e:v'=v:=by exact rfl)(hn:nr 3 v=true:=by exact rfl)(ha:v.storable=true:=by exact rfl)(hz:rQ Z r=z (ρ r):=by exact rfl):Eg ρ k Z r ⟨[v],sz,agg⟩ h z:=vN hr hb e hn ha hz
def xE{ρ:Nat->Nat}     {sz:Nat}    (hr:r<k)(hb:h (ρ r)=some ⟨[v'],sz,agg⟩)(e:rn ρ k 3 v v')(ha:v.storable=true)(hz:rQ Z r=z (ρ r)):Eg ρ k Z r ⟨[v],sz,agg⟩ h z:=by
 refine⟨hr,fun e he=>?_,⟨_,hb,rfl,rfl,zC ⟨e,zA⟩⟩,hz⟩;simp at he;subst he;intro q;subst q;simp[PV.storable]at ha
def zH{ρ:Nat->Nat}    {els els':List PV}{sz:Nat}    (hr:r<k)(hb:h (ρ r)=some ⟨els',sz,agg⟩)(e:els'=els)(hn:∀ e∈els,nr 3 e=true/\e≠.any)(hz:rQ Z r=z (ρ r)):Eg ρ k Z r ⟨els,sz,agg⟩ h z:=by
 subst e;exact⟨hr,fun e he=>(hn e he).2,⟨_,hb,rfl,rfl,zF ⟨rfl,fun e he=>(hn e he).1⟩⟩,hz⟩
def Oz(hT:∀ i x,T i=some x->zK P i=x){c:Code}{Q:Exit->St->Prop}{s:St}{ι:Type}(L:ι->List (Nat×PV))(H:ι->List (Nat×Blk))(Z:List Nat)(k:Nat)(Inv:ι->Prop)(μ:ι->Nat)(i0:ι)(h0:Inv i0)(hk:n0<=k)(hZ:∀ r∈Z,r<k)
 (ρ0:List Nat) (hs:okV (ren n0 ρ0) k (L i0) s.t) (hH:uP (ren n0 ρ0) k Z (H i0) s.h s.z) (hinj:((H i0).map fun q=>ren n0 ρ0 q.1).Pairwise (·≠·))
 (round:∀ i,Inv i->VC P T G n0 c (nG (fun s'=>∃ i' ρ,(Inv i'/\μ i'<μ i)/\okV (ren n0 ρ) k (L i') s'.t/\uP (ren n0 ρ) k Z (H i') s'.h s'.z/\((H i').map fun q=>ren n0 ρ q.1).Pairwise (·≠·)) Q) ⟨sv (L i),hv (H i),zv Z,k⟩) :
 kR P G (FnC P G) (FnH P G) (LeS G,n0) c Q s:=by
 unfold kR;refine Gs L H (fun _=>Z) k Inv μ i0 h0 (OE ρ0 hk (Ef hs) (KH hH) hZ hinj) fun i hi=>?_
 have:=round i hi;rw[BV,Cx,Cy]at this
 exact fM hT (fun e s h=>by
  cases e<;>first|(obtain⟨i',ρ,⟨h1,h2⟩,h3,h4,h5⟩:=h;exact⟨i',h1,h2,OE ρ hk (Ef h3) (KH h4) hZ h5⟩)|exact h) this
def rU(hT:∀ i x,T i=some x->zK P i=x){c:Code}{Q:Exit->St->Prop}{s:St}{ι:Type}(L:ι->List (Nat×PV))(Inv:ι->Prop)(μ:ι->Nat)(i0:ι)(h0:Inv i0)
 (hs:okV id n0 (L i0) s.t)
 (round:∀ i,Inv i->VC P T G n0 c (nG (fun s'=>∃ i',(Inv i'/\μ i'<μ i)/\okV id n0 (L i') s'.t) Q) ⟨sv (L i),noH,noZ,n0⟩) :
 kR P G (FnC P G) (FnH P G) (LeS G,n0) c Q s:=by
 unfold kR;refine vSM L Inv μ i0 h0 (Ef hs) fun i hi=>?_
 have:=round i hi;rw[BV]at this
 exact fM hT (fun e s h=>by
  cases e<;>first|(obtain⟨i',h1,h3⟩:=h;exact⟨i',h1,Ef h3⟩)|exact h) this
end
def uRY{P:Program}{tab:List TI}(h:(List.range tab.length).map (zK P)=tab):∀ i x,nth tab i=some x->zK P i=x:=by
 intro i x hx;rw[pQ,<- h,uF]at hx
 have hi:i<tab.length:=by
  by_cases hi:i<tab.length
  .exact hi
  .rw[CS (by simpa using hi)]at hx;cases hx
 rw[List.getElem?_range hi]at hx
 simpa using hx
def O0  {f:α->PV}{l:List α}{sz:Nat}{b:Bool}{A:Prop}(h:∀ x,(f x).cells.length=sz/\(f x).isAgg=agg)(hb:b=true)(k:A):brT (an (BP sz agg (l.map f)) b) A :=
 Gu (by rw[VM h,hb];rfl) k
def O2  {f:α->PV}{l:List α}{o n sz:Nat}{b:Bool}{A:Prop}(h:∀ x,(f x).cells.length=sz/\(f x).isAgg=agg)(hb:b=true)(k:A):brT (an (BP sz agg (((l.map f).drop o).take n)) b) A :=
 Gu (by rw[<- List.map_drop,<- Jc,VM h,hb];rfl) k
def O3  [Inhabited α]{f:α->PV}{l:List α}  {K:PV->Prop}(h:i<l.length)(k:K (f l[i]!)):oK (nth (l.map f) i) K:=by
 refine BN ?_ k;rw[pQ,uF,wN h,zS l i h];rfl
def wP  [Inhabited α]{f:α->PV}{l:List α}{i:Int}{K:PV->Prop}{j:Nat}(e:i=(j:Int))(h:j<l.length)(k:K (f l[j]!)):oK (nth (l.map f) i.toNat) K:=by
 subst e;exact O3 h k
def yB  [Inhabited α]{f:α->PV}{l:List α}  (j:Nat){K:PV->Prop}(e:k=j)(h:j<l.length)(q:K (f l[j]!)):oK (nth (l.map f) k) K:=by subst e;exact O3 h q
open Go.RowKit
def subs(ks KS:List Nat):Bool:=match ks with
 |[]=>true
 |k::ks=>an (rQ KS k) (subs ks KS)
def O4:∀ {ks KS:List Nat},subs ks KS=true->∀ k∈ks,k∈KS
 | k::ks,KS,h,j,hj=>by
   unfold subs at h;rw[uB,fF]at h;rcases yI.1 hj with rfl|hj
   .simpa using h.1
   .exact O4 h.2 j hj
def fzT(KS:List Nat)(h:Hp)(t:Tm):List (Nat×PV)->Prop
 |[]=>True
 |(j,d)::l=>(∃ m ks,frz h m (t j)=some (d,ks)/\subs ks KS=true)/\fzT KS h t l
def fzH(KS:List Nat)(h:Hp):List (Nat×List PV)->Prop
 |[]=>True
 |(r,els)::l=>(∃ b m ks,h r=some b/\zZ (frz h m) b.els=some (els,ks)/\subs ks KS=true)/\fzH KS h l
def BX(h:Hp):List Nat->Prop
 |[]=>True
 |k::ks=>(∃ b,h k=some b)/\BX h ks
def dW(t:Tm):List (Nat×PV)->Nat->PV
 |[],j=>t j
 | (i,d)::l,j=>match Nat.beq j i with
   |true=>d
   |false=>dW t l j
def q7(h:Hp):List (Nat×List PV)->Nat->Option Blk
 |[],r=>h r
 | (i,els)::l,r=>match Nat.beq r i with
   | true=>match h r with
     |some b=>some ⟨els,b.sz,b.agg⟩
     |none=>none
   |false=>q7 h l r
def Vd{KS:List Nat}{h:Hp}{t:Tm}:∀ {l:List (Nat×PV)},fzT KS h t l->∀ j,dW t l j=t j\/∃ m ks,frz h m (t j)=some (dW t l j,ks)/\∀ k∈ks,k∈KS
 |[],_,j=>zF rfl
 | (i,d)::l,hl,j=>by
   unfold dW;rw[vL];by_cases e:j=i
   .subst e
    simp only[fA];obtain⟨⟨m,ks,h1,h2⟩,_⟩:=hl;exact zC ⟨m,ks,h1,O4 h2⟩
   .simp only[e,iL]
    exact Vd hl.2 j
def HF{KS:List Nat}{h:Hp}:∀ {l:List (Nat×List PV)},fzH KS h l->∀ r b',q7 h l r=some b'->∃ b,h r=some b/\b'.sz=b.sz/\b'.agg=b.agg/\(b'=b\/∃ m ks,zZ (frz h m) b.els=some (b'.els,ks)/\∀ k∈ks,k∈KS)
 |[],_,r,b',hb=>⟨b',hb,rfl,rfl,zF rfl⟩
 | (i,els)::l,hl,r,b',hb=>by
   unfold q7 at hb;rw[vL]at hb;by_cases e:r=i
   .subst e
    simp only[fA]at hb;obtain⟨⟨b,m,ks,h1,h2,h3⟩,_⟩:=hl;rw[h1]at hb;cases hb
    exact⟨b,h1,rfl,rfl,zC ⟨m,ks,h2,O4 h3⟩⟩
   .simp only[e,iL]at hb
    exact HF hl.2 r b' hb
def Ve{h:Hp}:∀ {l:List Nat},BX h l->∀ k∈l,∃ b,h k=some b
 | k::ks,hl,j,hj=>by
   rcases yI.1 hj with rfl|hj
   .exact hl.1
   .exact Ve hl.2 j hj
def Vf{h:Hp}{r:Nat}(hr:h r=none):∀ {l:List (Nat×List PV)},q7 h l r=none
 |[]=>hr
 | (i,els)::l=>by
   unfold q7;cases Nat.beq r i with
   |true=>simp[hr]
   |false=>exact Vf hr
variable {n0:Nat}{h:Hp}{s:St}{cs ds:List PV}
def Vg{G:Gl}   {KS:List Nat}{TS:List (Nat×PV)}{HS:List (Nat×List PV)}(hKS:BX s.h KS)(hT:fzT KS s.h s.t TS)(hH:fzH KS s.h HS) :
 LeS G n0 s ⟨dW s.t TS,q7 s.h HS,yY s.z KS,s.nx⟩:=by
 intro E N df a w A κ hE hR;have hKS:=Ve hKS;have H1:=hR.hr.freeze (ks:=KS) hKS;refine⟨fun b=>A b\/tY κ KS b,κ,⟨⟨H1.bel,H1.hB,H1.alt,H1.a0,H1.a1,H1.acell,H1.k0,H1.glob,H1.klt,⟨fun r b' m sz cap hb hκ hc hz=>?_,H1.kp.kb,H1.kp.kk,H1.kp.zk⟩,fun r b' hb hκ=>?_,fun r r' b b' m m' s1 s2 c c' hne hr hr'=>?_⟩,fun r hr=>⟨?_,?_,?_⟩,hR.n0,fun i hi=>?_,hR.size,hR.df⟩⟩
 .obtain⟨b,h1,_⟩:=HF hH r b' hb
  exact H1.kp.own r b m sz cap h1 hκ hc hz
 .obtain⟨b,h1,h2,h3,h4⟩:=HF hH r b' hb
  rcases h4 with rfl|⟨m0,ks,h4,h5⟩
  .exact H1.blk r b' h1 hκ
  .obtain⟨m,cap,g1,g2,g3,g4⟩:=H1.blk r b h1 hκ
   obtain⟨q1,q2⟩:=kP h4;refine⟨m,cap,by rw[h2];exact g1,zom,fun e he=>?_,?_⟩
   .obtain⟨i,hi,rfl⟩:=uE he
    obtain⟨x,ks1,e1,e2,e3⟩:=q2 i _ (wN hi);obtain⟨c1,c2,_⟩:=Cn e2;have:=g3 x (wO e1);rw[h2,h3,c1,c2];exact this
   .rcases g4 with g4|⟨⟨p1,p2,p3,p4⟩,g4⟩|⟨c,ty,f1,f2,f3,f4,f5,f6⟩
    .exact zF g4
    .exact zC (zF ⟨⟨vZ.1 (by rw[p1]at q1;rw[q1];rfl),h2.trans p2,h3.trans p3,p4⟩,g4⟩)
    .refine zC (zC ⟨c,ty,by rw[h2,h3];exact f1,f2,by rw[h2];exact f3,f4,fun i e he j x hx=>?_,f6⟩)
     rw[h2];obtain⟨y,ks1,e1,e2,e3⟩:=q2 i e he;obtain⟨_,_,hcel⟩:=Cn e2;obtain⟨m',y',ks2,p1,p2,p3,p4⟩:=hcel j x hx
     have f5':lies w A κ c (i*b.sz) y:=by
      obtain⟨m2,cap2,z1,z2,z3,z4⟩:=hR.hr.blk r b h1 hκ;rw[g1]at z1;cases z1;obtain⟨c2,ty2,y1,y2,y3,y4,y5,y6,y7⟩:=dP z4 (by have hi:=(xW.1 e1).1;clear z4;omega) fun e=>by rw[e]at e1;cases e1
      rw[f2]at y2;cases y2;exact y5 i y e1
     obtain⟨u,t1,t2,t3⟩:=f5' j y' p2;refine⟨u,t1,.data _ _ ?_,t3⟩;exact ER hR.hr (A':=fun b=>A b\/tY κ KS b) (fun b hb=>zF hb) m' y' x u ks2 p3 t2 (fun b ⟨r,hr,q⟩=>zC ⟨r,h5 r (e3 r (p4 r hr)),q⟩)
 .obtain⟨b1,h1,_⟩:=HF hH r b hr
  obtain⟨b2,h2,_⟩:=HF hH r' b' hr';exact H1.excl r r' b1 b2 m m' s1 s2 c c' hne h1 h2
 .exact Vf (hR.fresh r hr).1
 .have h2:=(hR.fresh r hr).2.1
  show yY s.z KS r=false
  simp only[yY,JS];refine⟨contains_false.2 fun hm=>?_,h2⟩;obtain⟨b,hb⟩:=hKS r hm;rw[(hR.fresh r hr).1]at hb;cases hb
 .exact(hR.fresh r hr).2.2
 .show RV w _ κ (dW s.t TS i) _
  have hv:=hR.tm i hi;rcases Vd hT i with h|⟨m,ks,h1,h2⟩
  .rw[h];exact hv.mono (fun _ h=>zF h) (fun _ _ _=>rfl) (fun _ _ h=>h)
  .exact .data _ _ (ER hR.hr (A':=fun b=>A b\/tY κ KS b) (fun b hb=>zF hb) m _ _ _ ks h1 hv (fun b ⟨r,hr,q⟩=>zC ⟨r,h2 r hr,q⟩))
def LeS.trans{G:Gl}  {s1 s2 s3:St}(h:LeS G n0 s1 s2)(k:LeS G n0 s2 s3):LeS G n0 s1 s3:=by
 intro E N df a w A κ hE hR;obtain⟨A',κ',hR'⟩:=h E N df a w A κ hE hR;exact k E N df a w A' κ' hE hR'
section
variable {P:Program} {T:Ti} {G:Gl} {n0:Nat}
def Kept(n0:Nat)(s:St)(L:List (Nat×PV))(H:List (Nat×Blk))(Z:List Nat)(k:Nat):Prop :=
 ∃ (ρ KS:List Nat) (TS:List (Nat×PV)) (HS:List (Nat×List PV)),(BX s.h KS/\fzT KS s.h s.t TS/\fzH KS s.h HS)/\okV (ren n0 ρ) k L (dW s.t TS)/\uP (ren n0 ρ) k Z H (q7 s.h HS) (fs s.z KS)/\(H.map fun q=>ren n0 ρ q.1).Pairwise (·≠·)
def Kept.le  {L:List (Nat×PV)}{H:List (Nat×Blk)}{Z:List Nat}{k:Nat}(hk:n0<=k)(hZ:∀ r∈Z,r<k)(h:Kept n0 s L H Z k):LeS G n0 s ⟨sl L,hl H,zl Z,k⟩:=by
 obtain⟨ρ,KS,TS,HS,⟨h1,h2,h3⟩,h4,h5,h6⟩:=h;refine(Vg h1 h2 h3).trans (OE ρ hk (Ef h4) (KH ?_) hZ h6);rw[<- OM];exact h5
def xG(hT:∀ i x,T i=some x->zK P i=x){c:Code}{Q:Exit->St->Prop}  {ι:Type}(L:ι->List (Nat×PV))(H:ι->List (Nat×Blk))(Z:List Nat)(k:Nat)(Inv:ι->Prop)(μ:ι->Nat)(i0:ι)(h0:Inv i0)(hk:n0<=k)(hZ:∀ r∈Z,r<k)
 (hs:Kept n0 s (L i0) (H i0) Z k)
 (round:∀ i,Inv i->VC P T G n0 c (nG (fun s'=>∃ i',(Inv i'/\μ i'<μ i)/\Kept n0 s' (L i') (H i') Z k) Q) ⟨sv (L i),hv (H i),zv Z,k⟩) :
 kR P G (FnC P G) (FnH P G) (LeS G,n0) c Q s:=by
 unfold kR;refine Gs L H (fun _=>Z) k Inv μ i0 h0 (hs.le hk hZ) fun i hi=>?_
 have:=round i hi;rw[BV,Cx,Cy]at this
 exact fM hT (fun e s h=>by
  cases e<;>first|(obtain⟨i',⟨h1,h2⟩,h3⟩:=h;exact⟨i',h1,h2,h3.le hk hZ⟩)|exact h) this
end
def xP{α:Type}  {n r len sz:Nat}{agg:Bool}{els:List PV}{f:α->PV}{l:List α}(hb:h r=some ⟨els,sz,agg⟩)(he:els=l.map f)(hl:len=l.length)(hf:∀ x,frz h n (f x)=some (f x,[])):frz h (n+1) (.own r 0 len)=some (.imm (l.map f),[r]):=by
 subst hl he;unfold frz;simp only[hb];have e:((l.map f).drop 0).take l.length=l.map f:=by rw[EJ,uT zsm]
 simp only[e,BM hf l];rw[zE zsm]
def yL{f:PV->Option (PV×List Nat)}{c d:PV}  {ks ls:List Nat}(h1:f c=some (d,ks))(h2:zZ f cs=some (ds,ls)):zZ f (c::cs)=some (d::ds,ks++ls):=by
 simp only[zZ,h1,h2]
def yZ{α:Type}{f:α->PV}{l:List α}(hf:∀ x,nr 3 (f x)=true/\f x≠.any):∀ e∈l.map f,nr 3 e=true/\e≠.any:=fun e he=>by obtain⟨x,_,rfl⟩:=zW.1 he;exact hf x
def lJ  {n:Nat}  {ks:List Nat}(h1:zZ (frz h n) cs=some (ds,ks)):frz h (n+1) (.agg cs)=some (.agg ds,ks):=by
 unfold frz;simp only[h1]
def Cz  {n:Nat}  {ks:List Nat}(h1:zZ (frz h n) cs=some (ds,ks)):frz h (n+1) (.tup cs)=some (.tup ds,ks):=by
 unfold frz;simp only[h1]
abbrev zQ(ns:List Int):PV:=.imm (ns.map (.int .u32))
structure RatL where
 neg:Bool
 num:List Int
 den:List Int
 deriving DecidableEq,Inhabited
def zR(r:RatL):PV:=.agg [.bool r.neg,zQ r.num,zQ r.den]
structure DecL where
 kind:Int
 index:Int
 rat:RatL
 deriving DecidableEq,Inhabited
def tZ(d:DecL):PV:=.agg [.int .i64 d.kind,.int .i64 d.index,.bool d.rat.neg,zQ d.rat.num,zQ d.rat.den]
structure RowL where
 kind:Int
 index:Int
 lo:Int
 hi:Int
 deriving DecidableEq,Inhabited
def uH(r:RowL):PV:=.agg [.int .i64 r.kind,.int .i64 r.index,.int .i64 r.lo,.int .i64 r.hi]
structure MultL where
 row:RowL
 coef:RatL
 deriving DecidableEq,Inhabited
def vH(m:MultL):PV:=.agg [.int .i64 m.row.kind,.int .i64 m.row.index,.int .i64 m.row.lo,.int .i64 m.row.hi,.bool m.coef.neg,zQ m.coef.num,zQ m.coef.den]
structure LemL where
 unit:Int
 upper:Bool
 value:RatL
 proof:List MultL
 deriving DecidableEq,Inhabited
def O5(l:LemL):PV:=.agg [.int .i64 l.unit,.bool l.upper,.bool l.value.neg,zQ l.value.num,zQ l.value.den,.imm (l.proof.map vH)]
def uW1{α:Type}[Inhabited α]{f:α->PV}{l:List α}{i:Int}(j:Nat){K:PV->Prop}(e:i.toNat=j)(h:j<l.length)(k:K (f l[j]!)):oK (nth (l.map f) i.toNat) K:=by rw[e];exact O3 h k
def O6{α:Type}[Inhabited α]{f:α->PV}{l:List α}{K:PV->Prop}(h:0<l.length)(k:K (f l[0]!)):oK (nth (l.map f) (Int.toNat 0)) K:=uW1 0 rfl h k
section
variable {h:Hp} {n:Nat}
def qD(x:Int):frz h n (.int .u32 x)=some (.int .u32 x,[]):=by cases n<;>rfl
def KI(r:RatL):frz h (n+1) (zR r)=some (zR r,[]):=by cases n<;>rfl
end
variable {α:Type}{p q:Prop}
def Vh  [BEq α][LawfulBEq α]{a b:α}(h:(a == b)=false):a≠b:=fun e=>by subst e;simp at h
def Vi  [BEq α][LawfulBEq α]{a b:α}(h:(a != b)=true):a≠b:=by simpa using h
def Vj  [BEq α][LawfulBEq α]{a b:α}(h:(a != b)=false):a=b:=by simpa using h
structure Hq(q:Prop):Prop where
 h:q
def st1  (h:q)(e:Hq q->p:=by
 intro hq
 (first
   |(with_reducible first|refine Ox ?_|refine Oa ?_|refine wR ?_|refine Ol ?_|refine Ow ?_|refine Og ?_|refine Ob ?_|refine Oh ?_|refine Oc ?_|refine Oe ?_|refine Oj ?_|refine Oo ?_|refine Ou ?_|refine Oq ?_|refine Od ?_|refine Oi ?_|refine Om ?_|refine Ot ?_|refine OX ?_|refine Ov ?_|refine OY ?_|refine OZ ?_)
   | ((conv=>whnf);first
     |with_reducible refine Next.mk ?_
     |with_reducible refine O0 (fun _=>⟨rfl,rfl⟩) rfl ?_
     |with_reducible refine O2 (fun _=>⟨rfl,rfl⟩) rfl ?_
     |(with_reducible refine jU ?_ ?_;· (first|omega|(simp only[xR,z6,List.length_nil,List.length_cons,jO,wG,jR,dK,bZ];omega)|(simp only[xR,z6,List.length_nil,List.length_cons,jO];done)))
     |(with_reducible refine OJ ?_ ?_;· (first|omega|(simp only[xR,z6,List.length_nil,List.length_cons,jO,wG,jR,dK,bZ];omega)|(simp only[xR,z6,List.length_nil,List.length_cons,jO];done)))
     |(with_reducible refine lD ?_ ?_;· omega)
     |(with_reducible refine Gv ?_ ?_;· omega)
     |with_reducible refine OI ?_
     |with_reducible refine OL (fun _=>rfl) ?_
     |(with_reducible refine O6 ?_ ?_;· omega)
     |(with_reducible refine wP rfl ?_ ?_;· omega)))
 exact hq.h):p:=e ⟨h⟩
def stp  (h:q)(e:Hq q->p:=by
 intro hq;refine st1 ?_
 repeat refine st1 ?_
 (try (conv=>whnf))
 exact hq.h):p:=e ⟨h⟩
def sts  (h:q)(e:Hq q->p:=by
 intro hq
 repeat refine st1 ?_
 (try (conv=>whnf))
 exact hq.h):p:=e ⟨h⟩
def su1  (h:q)(e:Hq q->p:=by
 intro hq
 (first
   |(with_reducible first|refine Ox ?_|refine Oa ?_|refine Ol ?_|refine Ow ?_|refine Og ?_|refine Ob ?_|refine Oh ?_|refine Oc ?_|refine Oe ?_|refine Oj ?_|refine Oo ?_|refine Ou ?_|refine Oq ?_|refine Od ?_|refine Oi ?_|refine Om ?_|refine Ot ?_|refine OX ?_|refine Ov ?_|refine OY ?_|refine OZ ?_)
   | ((conv=>whnf);first
     |with_reducible refine Next.mk ?_
     |with_reducible refine O0 (fun _=>⟨rfl,rfl⟩) rfl ?_
     |with_reducible refine O2 (fun _=>⟨rfl,rfl⟩) rfl ?_
     |(with_reducible refine jU ?_ ?_;· (first|omega|(simp only[xR,z6,List.length_nil,List.length_cons,jO,wG,jR,dK,bZ];omega)|(simp only[xR,z6,List.length_nil,List.length_cons,jO];done)))
     |(with_reducible refine OJ ?_ ?_;· (first|omega|(simp only[xR,z6,List.length_nil,List.length_cons,jO,wG,jR,dK,bZ];omega)|(simp only[xR,z6,List.length_nil,List.length_cons,jO];done)))
     |(with_reducible refine lD ?_ ?_;· omega)
     |(with_reducible refine Gv ?_ ?_;· omega)
     |with_reducible refine OI ?_
     |with_reducible refine OL (fun _=>rfl) ?_
     |(with_reducible refine O6 ?_ ?_;· omega)
     |(with_reducible refine wP rfl ?_ ?_;· omega)))
 exact hq.h):p:=e ⟨h⟩
def stu  (h:q)(e:Hq q->p:=by
 intro hq;refine su1 ?_
 repeat refine su1 ?_
 (try (conv=>whnf))
 exact hq.h):p:=e ⟨h⟩
def sus  (h:q)(e:Hq q->p:=by
 intro hq
 repeat refine su1 ?_
 (try (conv=>whnf))
 exact hq.h):p:=e ⟨h⟩
def brr{b:Bool}{A B:Prop}(h1:p->A)(h2:q->B)(e1:b=true->p:=by
 intro h
 (first
   |(replace h:=mS h;try simp only[z6]at h)
   |(replace h:=eq_of_beq h;try simp only[z6]at h)
   |(replace h:=Vi h;try simp only[z6]at h)
   |(simp only[xO,Aq,z6,GX,Ap,ne_eq,tC,CQ]at h)
   |skip)
 exact h) (e2:b=false->q:=by
 intro h
 (first
   |(replace h:=GJ h;try simp only[z6]at h)
   |(replace h:=Vh h;try simp only[z6]at h)
   |(replace h:=Vj h;try simp only[z6]at h)
   |(simp only[xO,Aq,z6,GX,Ap,ne_eq,tC,CQ]at h)
   |skip)
 exact h):brB b A B:=VK (fun h=>h1 (e1 h)) (fun h=>h2 (e2 h))
def cvd{C:wK}{I:rP}{D:Bool}{f:FuncId}{args ds:List PV}{ks:List Nat}{v:PV}{d:Option Nat}{K:FP->St->Prop}{t:Tm}{h:Hp}{z:Fz}{nx:Nat}  (hC:C f ds (.data v))(k:q)(hf:zZ (frz h 6) args=some (ds,ks):=by exact rfl)(e:Hq q->fZ z ks fun z=>fN (nx+1) fun nx=>oV K t d v h z nx ⟨ks,[],ks⟩:=by
 intro hq;refine sts ?_
 exact hq.h):rR C I D f args d K ⟨t,h,z,nx⟩:=zT hC hf (e ⟨k⟩)
def sn1{p q:Prop}(h:q)(e:Hq q->p:=by
 intro hq
 (first
   |(with_reducible first|refine Ox ?_|refine Oa ?_|refine wR ?_|refine Ol ?_|refine Ow ?_|refine Og ?_|refine Ob ?_|refine Oh ?_|refine Oc ?_|refine Oe ?_|refine Oj ?_|refine Oo ?_|refine Ou ?_|refine Oq ?_|refine Od ?_|refine Oi ?_|refine Om ?_|refine Ot ?_|refine OX ?_|refine Ov ?_|refine OY ?_|refine OZ ?_)
   | ((conv=>whnf);first
     |with_reducible refine Next.mk ?_
     |with_reducible refine O0 (fun _=>⟨rfl,rfl⟩) rfl ?_
     |with_reducible refine O2 (fun _=>⟨rfl,rfl⟩) rfl ?_
     |(with_reducible refine jU ?_ ?_;· (first|omega|(simp only[xR,z6,List.length_nil,List.length_cons,jO,wG,jR,dK,bZ];omega)|(simp only[xR,z6,List.length_nil,List.length_cons,jO];done)))
     |(with_reducible refine OJ ?_ ?_;· (first|omega|(simp only[xR,z6,List.length_nil,List.length_cons,jO,wG,jR,dK,bZ];omega)|(simp only[xR,z6,List.length_nil,List.length_cons,jO];done)))
     |(with_reducible refine lD ?_ ?_;· omega)
     |(with_reducible refine Gv ?_ ?_;· omega)
     |with_reducible refine OI ?_
     |with_reducible refine OL (fun _=>rfl) ?_
     |(with_reducible refine O6 ?_ ?_;· omega)
     |(with_reducible refine wP rfl ?_ ?_;· omega)))
 exact hq.h):p:=e ⟨h⟩
def stn{p q:Prop}(h:q)(e:Hq q->p:=by
 intro hq;refine sn1 ?_
 repeat refine sn1 ?_
 (try (conv=>whnf))
 exact hq.h):p:=e ⟨h⟩
structure Hb(b:Bool)(A B:Prop):Prop where
 h:brB b A B
def gob{g A B A' B' p q:Prop}{b:Bool}(h1:p->A')(h2:q->B')(hg:Hb b A B->g:=by
 intro hq;refine sts ?_
 with_reducible exact hq.h) (e1:b=true->p:=by
 intro h
 with_reducible (first
  |(replace h:=mS h;try simp only[z6]at h)
  |(replace h:=eq_of_beq h;try simp only[z6]at h)
  |(replace h:=Vi h;try simp only[z6]at h)
  |(simp only[xO,Aq,z6,GX,Ap,ne_eq,tC,CQ]at h)
  |skip)
 exact h) (e2:b=false->q:=by
 intro h
 with_reducible (first
  |(replace h:=GJ h;try simp only[z6]at h)
  |(replace h:=Vh h;try simp only[z6]at h)
  |(replace h:=Vj h;try simp only[z6]at h)
  |(simp only[xO,Aq,z6,GX,Ap,ne_eq,tC,CQ]at h)
  |skip)
 exact h) (k1:p->Hq A'->A:=by
 intro h hq;refine sts ?_
 exact hq.h) (k2:q->Hq B'->B:=by
 intro h hq;refine sts ?_
 exact hq.h):g:=hg ⟨VK (fun h=>k1 (e1 h) ⟨h1 (e1 h)⟩) (fun h=>k2 (e2 h) ⟨h2 (e2 h)⟩)⟩
variable {nx:Nat}
section
variable {P:Program} {T:Ti} {G:Gl} {n0:Nat} {C:wK}
def iR(hm:P.follows .mixedOrders=true)(hT:∀ i x,T i=some x->zK P i=x){f:FuncId}{fn:Func}{c:Code}{rs:List ResultVar}{nt:Nat}(ok:FnOk P f fn c rs nt){ds:List PV}(hl:ds.length<=nt){K:PV->St->Prop}{t:Tm}{h:Hp}{z:Fz} 
 (hv:VC P T G nx c (rS T rs K) ⟨fK ds,h,z,nx⟩):FnH P G f ds K ⟨t,h,z,nx⟩ :=
 EX hm ok hl (s:=⟨t,h,z,nx⟩) (by rw[<- G5];exact fM hT (fun e s h=>Ed hT h) hv)
def fO{f:FuncId}{args:List PV}{d:Option Nat}{K:FP->St->Prop}{t:Tm}{h:Hp}{z:Fz} 
 (hI:FnH P G f args (fun v s'=>match s' with|⟨_,h',z',nx'⟩=>oV K t d v h' z' nx' ⟨[],[],[]⟩) ⟨t,h,z,nx⟩):rR C (FnH P G) false f args d K ⟨t,h,z,nx⟩ :=
 uA8 (FnH.mono _ _ _ _ _ (fun v s' hk=>by obtain⟨t',h',z',nx'⟩:=s';exact BR hk) hI)
end
variable {a:List Int}{α:Type}{xs:List Int}{x:Int}{k i j:Nat}
def wrap32(n:Int):IntKind.wrap .u32 n=n%4294967296:=by simp[IntKind.wrap,IntKind.signed,IntKind.bits]
def wrap64(n:Int):IntKind.wrap .u64 n=n%18446744073709551616:=by simp[IntKind.wrap,IntKind.signed,IntKind.bits]
def sK{n:Int}{K:Int->Prop}(h:K (n%4294967296)):ov .u32 n K:=EY (wrap32 n) h
def dX{n:Int}{K:Int->Prop}(h:K (n%18446744073709551616)):ov .u64 n K:=EY (wrap64 n) h
def Eh{b:Int}(h:0<=b/\b<=64):vM .u64 b=2^b.toNat:=by
 rw[Ea];unfold fG;have:min b.toNat (IntKind.bits .u64)=b.toNat:=by show min b.toNat 64=_;omega
 rw[this]
def aK:vM .u64 32=4294967296:=by rw[Eh zdd];rfl
def mH{a:Int}:a.fdiv (vM .u64 32)=a/4294967296:=by rw[aK,F7 _ zdd]
def uQ1  [DecidableEq α](a b:α):(a != b)=decide (a≠b):=by by_cases h:a=b<;>simp[h]
def Vk  [DecidableEq α](a b:α):(a == b)=decide (a=b):=by by_cases h:a=b<;>simp[h]
def uLU:vM .u64 63=9223372036854775808:=by rw[Eh zdd];rfl
def HL{a:Int}:a.fdiv (vM .u64 63)=a/9223372036854775808:=by rw[uLU,F7 _ zdd]
def nv:List Int->Nat
 |[]=>0
 |x::xs=>x.toNat+4294967296*nv xs
def okN(xs:List Int):Prop:=∀ x∈xs,0<=x/\x<4294967296
def pw(k:Nat):Nat:=4294967296^k
def q8:pw 0=1:=rfl
def xX(k:Nat):pw (k+1)=4294967296*pw k:=by unfold pw;rw[Nat.pow_succ,wC]
def BZ(k:Nat):0<pw k:=bY zdd
def Ei(j k:Nat):pw (j+k)=pw j*pw k:=iM ..
def qM  (h:j<=k):pw j<=pw k:=bU zdd h
def aL:okN []:=fun x h=>by cases h
def okN_cons   : okN (x::xs)↔(0<=x/\x<4294967296)/\okN xs:=by simp[okN]
def okN_append{ys:List Int}:okN (xs++ys)↔okN xs/\okN ys:=by
 constructor
 .exact fun h=>⟨fun x hx=>h x (sV _ hx),fun x hx=>h x (pJ _ hx)⟩
 .rintro⟨h1,h2⟩ x hx
  rcases y8.1 hx with hx|hx
  .exact h1 x hx
  .exact h2 x hx
def Vl  (h:okN xs)(k:Nat):okN (xs.take k):=fun x hx=>h x (pK hx)
def uFE  (h:okN xs)(k:Nat):okN (xs.drop k):=fun x hx=>h x (gQ hx)
def dY(n:Nat):okN (List.replicate n 0):=fun x hx=>by rw[Tv hx];omega
def nJ  (h:okN xs)  (hi:i<xs.length):0<=xs[i]! /\ xs[i]! < 4294967296:=by
 rw[zS xs i hi];exact h _ (wA hi)
def rV  (h:okN xs)(i:Nat)  (hx:0<=x/\x<4294967296):okN (xs.set i x):=fun y hy=>by
 rcases bR hy with hy|hy
 .exact h y hy
 .subst hy;exact hx
def HM(ys:List Int):∀ xs:List Int,nv (xs++ys)=nv xs+pw xs.length*nv ys
 |[]=>by simp[nv,pw]
 | x::xs=>by
   simp only[List.cons_append,nv,HM ys xs,List.length_cons,xX,xH,vF];omega
def sM:∀ {xs:List Int},okN xs->nv xs<pw xs.length
 |[],_=>by simp[nv,pw]
 | x::xs,h=>by
   rw[okN_cons]at h;have:=sM h.2;simp only[nv,List.length_cons,xX];omega
def HQ:∀ n:Nat,nv (List.replicate n 0)=0
 |0=>rfl
 |n+1=>by simp[List.replicate_succ,nv,HQ n]
def lb(a:List Int)(i:Nat):Nat:=(a.getD i 0).toNat
def nk(a:List Int)(k:Nat):Nat:=nv (a.take k)
def rW(a:List Int):nk a 0=0:=by simp[nk,nv]
def wV(a:List Int)(k:Nat):nk a (k+1)=nk a k+pw k*lb a k:=by
 unfold nk lb;by_cases h:k<a.length
 .rw[tO h,HM,wG,GV zom]
  simp[nv,List.getD,h]
 .rw[uT zom,uT zom]
  simp[List.getD,CS (Cb h)]
def vU   (h:a.length<=k):nk a k=nv a:=by unfold nk;rw[uT h]
def vA  (h:okN a)(k:Nat):lb a k<4294967296:=by
 unfold lb;by_cases hk:k<a.length
 .have:=h _ (wA hk)
  simp only[List.getD,wN hk,Option.getD_some];omega
 .simp[List.getD,CS (Cb hk)]
def dZ{a:List Int}(h:okN a):∀ k,nk a k<pw k
 |0=>by simp[nk,nv,pw]
 | k+1=>by
   have h1:=dZ h k;have h2:=vA h k;rw[wV,xX];have h3:pw k*(lb a k+1)<=pw k*4294967296:=sI _ h2;rw[xH,fB]at h3;omega
def wF   (h:k<a.length)(ho:okN a):(lb a k:Int)=a[k]! := by
 have:=nJ ho h;unfold lb;rw[zS a k h]at *
 simp only[List.getD,wN h,Option.getD_some];omega
def Ba   (h:a.length<=k):lb a k=0:=by simp[lb,List.getD,CS h]
def nt(a:List Int)(k:Nat):Nat:=nv (a.drop k)
def O7   (h:k<a.length)(ho:okN a):nt a k=lb a k+4294967296*nt a (k+1):=by
 unfold nt;rw[kI h,nv]
 congr 1
 have:=wF h ho;rw[zS a k h]at this;omega
def iT   (h:a.length<=k):nt a k=0:=by unfold nt;rw[bT h];rfl
def Bb(a:List Int):nt a 0=nv a:=by simp[nt]
def lK(a:List Int)(k:Nat):nv a=nk a k+pw k*nt a k:=by
 unfold nk nt;by_cases h:k<=a.length
 .conv=>lhs;rw[<- Ac k a]
  rw[HM,wG,GV h]
 .rw[uT zom,bT zom];simp[nv]
def Bc:Nat->Nat->List Int
 |0,_=>[]
 |f+1,n=>if n=0 then [] else((n%4294967296:Nat):Int)::Bc f (n/4294967296)
def zJ(n:Nat):List Int:=Bc n n
def Vm:∀ (f g n:Nat),n<=f->n<=g->Bc f n=Bc g n
 | 0,g,n,h,_=>by
   obtain rfl:n=0:=zom
   cases g<;>simp[Bc]
 | f+1,0,n,_,h=>by
   obtain rfl:n=0:=zom
   simp[Bc]
 | f+1,g+1,n,h1,h2=>by
   simp only[Bc]
   split
   .rfl
   .rw[Vm f g _ zom zom]
def d9:zJ 0=[]:=rfl
def O8{n:Nat}(h:n≠0):zJ n=((n%4294967296:Nat):Int)::zJ (n/4294967296):=by
 unfold zJ;obtain⟨m,rfl⟩:∃ m,n=m+1:=⟨n-1,zom⟩;rw[Bc,zB h,Vm m _ _ zom (zX _)]
def KJ:∀ (N n:Nat),n<N->okN (zJ n)/\nv (zJ n)=n/\(zJ n=[]\/(zJ n).getLast?≠some 0)
 |0,n,h=>by omega
 | N + 1,n,h=>by
   by_cases h0:n=0
   .subst h0;exact⟨aL,rfl,zF rfl⟩
   .rw[O8 h0]
    obtain⟨h1,h2,h3⟩:=KJ N (n/4294967296) zom;refine⟨okN_cons.2 ⟨zom,h1⟩,by rw[nv,h2];omega,zC ?_⟩;by_cases hm:n/4294967296=0
    .rw[hm,d9];simp;omega
    .rw[O8 hm]at h3 ⊢
     rw[Tz];exact h3.resolve_left zsm
def yP(n:Nat):okN (zJ n):=(KJ _ n (nC _)).1
def yR(n:Nat):nv (zJ n)=n:=(KJ _ n (nC _)).2.1
def lQ(xs:List Int):Prop:=okN xs/\(xs=[]\/xs.getLast?≠some 0)
def cA(n:Nat):lQ (zJ n):=⟨yP n,(KJ _ n (nC _)).2.2⟩
def Vn   (h:lQ (x::xs)):lQ xs:=by
 refine⟨(okN_cons.1 h.1).2,?_⟩;cases xs with
 |nil=>exact zF rfl
 |cons y ys=>right;have:=h.2.resolve_left zsm;rwa [Tz]at this
def C0:∀ {xs:List Int},lQ xs->xs≠[]->pw (xs.length-1)<=nv xs
 |[],_,h=>absurd rfl h
 | [x],h,_=>by
   have h1:=(okN_cons.1 h.1).1;have h2:=h.2.resolve_left zsm;simp at h2;simp only[List.length_singleton,nv,q8,EK];omega
 | x::y::ys,h,_=>by
   have:=C0 (Vn h) zsm;simp only[List.length_cons,Nat.add_sub_cancel]at this ⊢;rw[nv,xX];omega
def HT:∀ {xs:List Int},lQ xs->zJ (nv xs)=xs
 |[],_=>rfl
 | x::xs,h=>by
   have hp:=C0 h zsm;have hpp:=BZ ((x::xs).length-1);have h1:=(okN_cons.1 h.1).1;rw[O8 zom];have e1:nv (x::xs)%4294967296=x.toNat:=by rw[nv];omega
   have e2:nv (x::xs)/4294967296=nv xs:=by rw[nv];omega
   rw[e1,e2,HT (Vn h)]
   congr 1
   omega
def sW{n:Nat}(h:n<pw k):(zJ n).length<=k:=by
 by_cases h0:zJ n=[]
 .rw[h0];simp
 .have:=C0 (cA n) h0
  rw[yR]at this;by_cases hk:(zJ n).length<=k
  .exact hk
  .have:=qM (show k<=(zJ n).length-1 by omega)
   omega
def uC  (h:okN xs):(zJ (nv xs)).length<=xs.length:=sW (sM h)
def kS{n:Nat}(h:zJ n=[]):n=0:=by rw[<- yR n,h];rfl
def KL{l:List Int}(ho:okN l){n:Nat}(hn:n<=l.length)(hz:∀ j,n<=j->j<l.length->l[j]! = 0)(hl:n=0\/l[n-1]! ≠ 0):l.take n=zJ (nv l):=by
 have hd:l.drop n=List.replicate (l.length-n) 0:=by
  refine vE zsm fun i h1 h2=>?_
  have:=hz (n+i) zom (by simp at h1;omega);rw[zS l (n+i) (by simp at h1;omega)]at this;rw[JY,nA,this]
 have hv:nv l=nv (l.take n):=by
  conv=>lhs;rw[<- Ac n l]
  rw[HM,hd,HQ];simp
 rw[hv,HT];refine⟨Vl ho n,?_⟩;rcases hl with rfl|hl
 .left;simp
 .by_cases h0:n=0
  .subst h0;left;simp
  .right
   rw[JJ,wG,GV hn,oP zom,wN zom];rw[zS l (n-1) zom]at hl
   simpa using hl
def KM{b:List Int}(ha:okN a)(hb:okN b)  (hd:nt a (i+1)=nt b (i+1))(h1:i<a.length\/nt a i=lb a i+4294967296*nt a (i+1))(h2:i<b.length\/nt b i=lb b i+4294967296*nt b (i+1))(hlt:lb a i<lb b i):nv a<nv b:=by
 have e1:nt a i=lb a i+4294967296*nt a (i+1):=h1.elim (fun h=>O7 h ha) id;have e2:nt b i=lb b i+4294967296*nt b (i+1):=h2.elim (fun h=>O7 h hb) id;rw[lK a i,lK b i,e1,e2,hd];have h3:=dZ ha i;have h4:pw i*(lb a i+1)<=pw i*lb b i:=sI _ hlt;rw[xH,fB]at h4;rw[xH,xH (pw i) (lb b i)];omega
def nK  (ha:okN a)(i:Nat):nt a i=lb a i+4294967296*nt a (i+1):=by
 by_cases h:i<a.length
 .exact O7 h ha
 .rw[iT zom,iT zom,Ba zom]
def KN{b:List Int}(ha:lQ a)(hb:lQ b)(h:a.length<b.length):nv a<nv b:=by
 have h1:=sM ha.1;have h2:=C0 hb (by intro e;rw[e]at h;simp at h);have h3:=qM (show a.length<=b.length-1 by omega);omega
def jX   (x:Int)(h:i<a.length):nk (a.set i x) (i+1)=nk a i+pw i*x.toNat:=by
 rw[wV];have e1:nk (a.set i x) i=nk a i:=by unfold nk;rw[GH (zX _)]
 have e2:lb (a.set i x) i=x.toNat:=by simp[lb,List.getD,h]
 rw[e1,e2]
def C7(p s:Nat):p*(s%4294967296)+(s/4294967296)*(4294967296*p)=p*s:=by
 have h:p*s=p*(4294967296*(s/4294967296)+s%4294967296):=by rw[EH]
 rw[h,xH,wC (s/4294967296),wC 4294967296 p,vF];omega
def uLW  (f:α->PV)(l:List α)(i:Nat)(x:α):(l.map f).set i (f x)=(l.set i x).map f:=(Ga ..).symm
def x5  {f:α->PV}{l:List α}  {x y:α}(e:i=j)(e':x=y):(l.map f).set i (f x)=(l.set j y).map f:=by subst e e';exact uLW f l i x
def Bd   (x:Int)(h:j<a.length):nv (a.set j x)+pw j*lb a j=nv a+pw j*x.toNat:=by
 have e1:=lK (a.set j x) (j+1);have e2:=lK a (j+1);have e3:nt (a.set j x) (j+1)=nt a (j+1):=by unfold nt;rw[CY zom]
 have e4:=wV a j;rw[jX x h,e3]at e1;omega
def Vo{y:Int}(hx:0<=x/\x<4294967296)(hy:0<=y/\y<4294967296):0<=x*y/\x*y<=18446744065119617025 :=
 ⟨Int.mul_nonneg hx.1 hy.1,by
   have:=Int.mul_le_mul (show x<=4294967295 by omega) (show y<=4294967295 by omega) hy.1 zdd
   omega⟩
def KO(n j:Nat):lb (List.replicate n 0) j=0:=by
 unfold lb;by_cases h:j<n
 .simp[List.getD,h]
 .simp[List.getD,Cb h]
def aM  {f:α->PV}{n m:Nat}{x:α}(e:n=m):List.replicate n (f x)=(List.replicate m x).map f:=by subst e;simp
def KP    (h:i≠j):lb (a.set i x) j=lb a j:=by simp[lb,List.getD,GN,h]
def vJI{a b n:Nat}(h1:a<pw n)(h2:b<pw n):(zJ (a+b)).length<=n+1:=sW (by rw[xX];omega)
variable {a k i:Nat}
def Ej(w n:Nat):(BitVec.ofInt w (n:Int)).toNat=n%2^w:=by simp
def Vp{b:Nat}(hb:b<2^i)(h:2^i*a+b<18446744073709551616):tF .or .u64 ((2^i*a:Nat):Int) (b:Int)=((2^i*a+b:Nat):Int):=by
 rw[fH];unfold lG;dsimp only;have e1:(BitVec.ofInt (IntKind.bits .u64) ((2^i*a:Nat):Int)).toNat=2^i*a:=by rw[Ej];exact jQ (by show _<2^64;omega)
 have e2:(BitVec.ofInt (IntKind.bits .u64) (b:Int)).toNat=b:=by rw[Ej];exact jQ (by show _<2^64;omega)
 rw[BitVec.toNat_or,e1,e2,<- Te hb,wrap64];omega
def O9{b:Nat}(hb:b<2^i)(h:2^i*a+b<18446744073709551616):tF .or .u64 (b:Int) ((2^i*a:Nat):Int)=((2^i*a+b:Nat):Int):=by
 rw[<- Vp hb h];rw[fH];unfold lG;dsimp only;rw[BitVec.or_comm]
def Vq{b:Nat}(hb:b<2^i)(h:2^i*a+b<4294967296):tF .or .u32 ((2^i*a:Nat):Int) (b:Int)=((2^i*a+b:Nat):Int):=by
 rw[fH];unfold lG;dsimp only;have e1:(BitVec.ofInt (IntKind.bits .u32) ((2^i*a:Nat):Int)).toNat=2^i*a:=by rw[Ej];exact jQ (by show _<2^32;omega)
 have e2:(BitVec.ofInt (IntKind.bits .u32) (b:Int)).toNat=b:=by rw[Ej];exact jQ (by show _<2^32;omega)
 rw[BitVec.toNat_or,e1,e2,<- Te hb,wrap32];omega
def vS9{b:Nat}(hb:b<2^i)(h:2^i*a+b<4294967296):tF .or .u32 (b:Int) ((2^i*a:Nat):Int)=((2^i*a+b:Nat):Int):=by
 rw[<- Vq hb h];rw[fH];unfold lG;dsimp only;rw[BitVec.or_comm]
def KQ{x y:Int}(hx:0<=x/\x<4294967296)(hy:0<=y/\y<4294967296):tF .or .u64 (x*vM .u64 32) y=x*4294967296+y:=by
 have h:=Vp (a:=x.toNat) (b:=y.toNat) (i:=32) zom zom;rw[aK];have e1:((2^32*x.toNat:Nat):Int)=x*4294967296:=zom
 have e2:((y.toNat:Nat):Int)=y:=zom
 rw[e1,e2]at h;rw[h];omega
def PD{x y:Int}(hx:0<=x/\x<4294967296)(hy:0<=y/\y<4294967296):tF .or .u64 y (x*vM .u64 32)=x*4294967296+y:=by
 have h:=O9 (a:=x.toNat) (b:=y.toNat) (i:=32) zom zom;rw[aK];have e1:((2^32*x.toNat:Nat):Int)=x*4294967296:=zom
 have e2:((y.toNat:Nat):Int)=y:=zom
 rw[e1,e2]at h;rw[h];omega
def uSX{X h:Nat}(hk:k<32)(hh:h<2^k):tF .or .u32 (h:Int) ((X*2^k%4294967296:Nat):Int)=((X*2^k%4294967296+h:Nat):Int)/\X*2^k%4294967296+h<4294967296:=by
 have e:X*2^k%4294967296=2^k*(X%2^(32-k)):=by
  rw[wC,show 4294967296=2^k*2^(32-k) by rw[<- iM,show k+(32-k)=32 by omega],Nat.mul_mod_mul_left]
 have hlt:2^k*(X%2^(32-k))+h<4294967296:=by
  have h1:X%2^(32-k)<2^(32-k):=nZ _ (bY zdd);have h2:2^k*(X%2^(32-k)+1)<=2^k*2^(32-k):=sI _ h1;rw[<- iM,show k+(32-k)=32 by omega,xH,fB]at h2;omega
 rw[e];exact⟨vS9 hh hlt,hlt⟩
def Vr{α:Type}[Inhabited α]{f:α->PV}{l:List α}  {x:α}(j:Nat){K:PV->Prop}(e:k=j)(h:j<l.length)(hne:i≠j)(q:K (f l[j]!)):oK (nth ((l.map f).set i (f x)) k) K:=by
 subst e;refine BN ?_ q;rw[pQ,List.getElem?_set_ne hne,uF,wN h,zS l k h];rfl
def uC2  (hk:k<32)(a b T:Nat)(ha:a<4294967296):(a+4294967296*(b+4294967296*T))/2^k=(a+4294967296*b)/2^k%4294967296+4294967296*((b+4294967296*T)/2^k):=by
 obtain⟨P,eP⟩:∃ P,2^k=P:=⟨_,rfl⟩;obtain⟨Q,eQ⟩:∃ Q,2^(32-k)=Q:=⟨_,rfl⟩;have hB:P*Q=4294967296:=by rw[<- eP,<- eQ,<- iM,show k+(32-k)=32 by omega]
 have hP:0<P:=eP ▸ bY zdd;have hQ:0<Q:=eQ ▸ bY zdd;rw[eP,<- hB];have d1:∀ N,(a+P*Q*N)/P=a/P+Q*N:=fun N=>by rw[vF,JQ _ _ hP]
 rw[d1,d1];have haQ:a/P<Q:=M9 (by rw[hB];exact ha);obtain⟨N,eN⟩:∃ N,b+P*Q*T=N:=⟨_,rfl⟩;rw[eN];have hbm:N%P=b%P:=by rw[<- eN,vF,Mt]
 have h1:Q*N=P*Q*(N/P)+Q*(b%P):=by
  conv=>lhs;rw[<- EH N P]
  rw[xH,hbm,<- vF,wC Q P]
 have h2:Q*b=P*Q*(b/P)+Q*(b%P):=by
  conv=>lhs;rw[<- EH b P]
  rw[xH,<- vF,wC Q P]
 have h3:(a/P+Q*b)%(P*Q)=a/P+Q*(b%P):=by
  rw[h2,show a/P+(P*Q*(b/P)+Q*(b%P))=a/P+Q*(b%P)+P*Q*(b/P) by omega,Mt];refine jQ ?_;have:Q*(b%P+1)<=Q*P:=sI _ (nZ _ hP);rw[xH,fB,wC Q P]at this;omega
 rw[h3,h1];omega
def lS:Nat->Nat->List Int
 |0,_=>[]
 |k+1,n=>((n%4294967296:Nat):Int)::lS k (n/4294967296)
def HV:∀ k n,(lS k n).length=k
 |0,_=>rfl
 |k+1,n=>by simp[lS,HV k]
def PE:∀ k n,okN (lS k n)
 |0,_=>aL
 |k+1,n=>okN_cons.2 ⟨zom,PE k _⟩
def PF:∀ k n,n<pw k->nv (lS k n)=n
 |0,n,h=>by simp[q8]at h;simp[lS,nv,h]
 | k+1,n,h=>by
   rw[xX]at h;rw[lS,nv,PF k _ zom];omega
def KR:∀ {xs:List Int},okN xs->lS xs.length (nv xs)=xs
 |[],_=>rfl
 | x::xs,h=>by
   have h1:=(okN_cons.1 h).1;have e1:nv (x::xs)%4294967296=x.toNat:=by rw[nv];omega
   have e2:nv (x::xs)/4294967296=nv xs:=by rw[nv];omega
   rw[List.length_cons,lS,e1,e2,KR (okN_cons.1 h).2]
   congr 1
   omega
def blF:Nat->Nat->Nat
 |0,_=>0
 |f+1,n=>if n=0 then 0 else blF f (n/2)+1
def bl(n:Nat):Nat:=blF 64 n
def Vs:∀ (f g n:Nat),n<2^f->n<2^g->blF f n=blF g n
 | 0,g,n,h,_=>by
   obtain rfl:n=0:=by simp at h;exact h
   cases g<;>simp[blF]
 | f+1,0,n,_,h=>by
   obtain rfl:n=0:=by simp at h;exact h
   simp[blF]
 | f+1,g+1,n,h1,h2=>by
   simp only[blF]
   split
   .rfl
   .rw[Vs f g _ (by rw[Nat.pow_succ]at h1;omega) (by rw[Nat.pow_succ]at h2;omega)]
def KT:bl 0=0:=rfl
def cB{n:Nat}(h:n≠0)(hb:n<2^64):bl n=bl (n/2)+1:=by
 unfold bl;rw[blF,zB h,Vs 63 64 _ zom zom]
def jY:∀ (f n:Nat),n<2^f->f<=64->n<2^bl n/\(n≠0->2^bl n<=2*n)/\bl n<=f
 | 0,n,h,_=>by
   obtain rfl:n=0:=by simp at h;exact h
   simp[KT]
 | f + 1,n,h,hf=>by
   by_cases h0:n=0
   .subst h0;simp[KT]
   .have hb:n<2^64:=w9 h (bU zdd hf)
    obtain⟨i1,i2,i3⟩:=jY f (n/2) (by rw[Nat.pow_succ]at h;omega) zom;rw[cB h0 hb,Nat.pow_succ];refine⟨zom,fun _=>?_,zom⟩;by_cases h1:n/2=0
    .rw[h1,KT];simp;omega
    .have:=i2 h1;omega
def KU{n:Nat}(h:256<=n)(hb:n<2^64):bl n=bl (n/256)+8:=by
 rw[cB zom hb,cB (n:=n/2) zom zom,cB (n:=n/2/2) zom zom,cB (n:=n/2/2/2) zom zom,cB (n:=n/2/2/2/2) zom zom,cB (n:=n/2/2/2/2/2) zom zom,cB (n:=n/2/2/2/2/2/2) zom zom,cB (n:=n/2/2/2/2/2/2/2) zom zom];rw[show n/2/2/2/2/2/2/2/2=n/256 by omega]
def Vt{n:Nat}(h:65536<=n)(hb:n<2^64):bl n=bl (n/65536)+16:=by
 rw[KU zom hb,KU (n:=n/256) zom zom,show n/256/256=n/65536 by omega]
def KV{S:ByteArray}(hS:(List.range 256).all (fun m=>match S[m]? with|some b=>b.toNat == bl m|none=>false)=true){i:Int}{n:Nat}(e:i=(n:Int))(hn:n<256){K:UInt8->Prop}(k:∀ b:UInt8,b.toNat=bl n->K b):oK (S[i.toNat]?) K:=by
 subst e;rw[xZ]at hS;have:=hS n (yN.2 hn);rw[Int.toNat_natCast]
 split at this
 .rename_i b hb
  exact BN hb (k b (by simpa using this))
 .cases this
def HX{a:Int}{k:IntKind}{b:Int}{j:Nat}(h:min b.toNat k.bits=j):a.fdiv (vM k b)=a/2^j:=by
 rw[Ea];unfold fG;rw[h,F7 _ (Int.le_of_lt (Int.pow_pos zdd))]
def uWL(n:Int):IntKind.wrap .u8 n=n%256:=by simp[IntKind.wrap,IntKind.signed,IntKind.bits]
def KW{n:Int}{K:Int->Prop}(h:K (n%256)):ov .u8 n K:=EY (uWL n) h
structure Est(U W p T v1 v2 u3:Nat):Prop where
 u1:p*(u3+4294967296*T)<=U
 u2:U<p*(u3+4294967296*T+1)
 w1:p*(v2+4294967296*v1)<=W
 w2:W<p*(v2+4294967296*v1+1)
 v1l:2147483648<=v1
 v1h:v1<4294967296
 v2h:v2<4294967296
 u3h:u3<4294967296
 lt:U<W*4294967296
 p0:0<p
variable {q r:Nat}
section
variable {U W p T v1 v2 u3:Nat}
def Est.init(h:Est U W p T v1 v2 u3)  (ht:T=q*v1+r)(hr:r<v1):U<(q+1)*W/\q<=4294967297:=by
 constructor
 .have h1:p*(u3+4294967296*T+1)<=p*(4294967296*((q+1)*v1)):=sI _ (by
   have:(q+1)*v1=q*v1+v1:=by rw[w6,Ch]
   have:=h.u3h
   omega)
  have h2:p*(4294967296*((q+1)*v1))=(q+1)*(p*(4294967296*v1)):=by
   rw[pO 4294967296,pO p]
  have h3:(q+1)*(p*(4294967296*v1))<=(q+1)*W:=sI _ (wS (sI _ zom) h.w1);have:=h.u2;omega
 .have h1:p*(4294967296*T)<p*(4294967296*((v1+1)*4294967296)):=by
   have a1:p*(4294967296*T)<=U:=wS (sI _ zom) h.u1;have a2:W*4294967296<=p*(4294967296*(v1+1))*4294967296:=vK _ (wS (EL h.w2) (sI _ (by have:=h.v2h;omega)));have:=h.lt;rw[vF,vF]at a2;omega
  have h2:T<(v1+1)*4294967296:=by
   have:=CO h1;omega
  have h3:q*v1<4294967298*v1:=by have:=h.v1l;omega
  have:=Nat.lt_of_mul_lt_mul_right h3;omega
def Est.step(h:Est U W p T v1 v2 u3)  (ht:T=q*v1+r)(hc:4294967296<=q\/r*4294967296+u3<q*v2):U<q*W:=by
 rcases hc with hc|hc
 .have:=h.lt
  have h1:W*4294967296<=W*q:=sI _ hc;rw[wC W q]at h1;omega
 .have h1:u3+4294967296*T+1<=q*(v2+4294967296*v1):=by
   rw[xH,pO,ht,xH];omega
  have h2:p*(q*(v2+4294967296*v1))=q*(p*(v2+4294967296*v1)):=pO ..;have h3:=sI p h1;have h4:=sI q h.w1;have:=h.u2;omega
def Est.last(h:Est U W p T v1 v2 u3)  (ht:T=q*v1+r)(hq:q<=4294967296)(hc:q*v2<=r*4294967296+u3):q*W<=U+W:=by
 have h1:q*(v2+4294967296*v1)<=u3+4294967296*T:=by
  rw[xH,pO,ht,xH];omega
 have h2:q*(p*(v2+4294967296*v1))<=U:=by
  rw[pO];exact wS (sI p h1) h.u1
 have h3:q*W<=q*(p*(v2+4294967296*v1+1)):=sI _ (EL h.w2);have h4:q*(p*(v2+4294967296*v1+1))=q*(p*(v2+4294967296*v1))+q*p:=by rw[xH p,fB,xH]
 have h5:q*p<=W:=by
  have a1:q*p<=4294967296*p:=vK _ hq;have a2:p*4294967296<=p*(v2+4294967296*v1):=sI _ (by have:=h.v1l;omega);have:=h.w1;rw[wC 4294967296 p]at a1;omega
 omega
def Est.great(h:Est U W p T v1 v2 u3)  (hq:q<=4294967296)(hr:4294967296<=r):q*v2<=r*4294967296+u3:=by
 have h1:q*v2<=4294967296*4294967296:=gW hq (EL h.v2h);have h2:4294967296*4294967296<=r*4294967296:=vK _ hr;omega
end
def uUJ{P V:List Int}(hP:okN P)(hV:okN V){n:Nat}(hn:2<=n)(hPl:P.length=n+1)(hVl:V.length=n)(htop:2147483648<=lb V (n-1))(hlt:nv P<nv V*4294967296) :
 Est (nv P) (nv V) (pw (n-2)) (lb P n*4294967296+lb P (n-1)) (lb V (n-1)) (lb V (n-2)) (lb P (n-2)):=by
 have e1:=lK P (n-2);have e2:=lK V (n-2);have p1:=nK hP (n-2);have p2:=nK hP (n-1);have p3:=nK hP n;have p4:nt P (n+1)=0:=iT zom;have v1:=nK hV (n-2);have v2:=nK hV (n-1);have v3:nt V n=0:=iT zom;rw[show n-2+1=n-1 by omega]at p1 v1;rw[show n-1+1=n by omega]at p2 v2;have k1:=dZ hP (n-2);have k2:=dZ hV (n-2);have eP:nt P (n-2)=lb P (n-2)+4294967296*(lb P n*4294967296+lb P (n-1)):=zom
 have eV:nt V (n-2)=lb V (n-2)+4294967296*lb V (n-1):=zom
 rw[eP]at e1;rw[eV]at e2;exact⟨zom,by rw[xH _ _ 1];omega,zom,by rw[xH _ _ 1];omega,htop,vA hV _,vA hV _,vA hP _,hlt,BZ _⟩
def vSJ{B:List Int}(hb:okN B){n k:Nat}(hn:B.length=n)(h1:1<=n)(ht:lb B (n-1)≠0)(hk:bl (lb B (n-1))+k=32) :
 nv B*2^k<pw n/\(zJ (nv B*2^k)).length=n/\2147483648<=lb (zJ (nv B*2^k)) (n-1):=by
 obtain⟨b1,b2,b3⟩:=jY 32 _ (vA hb (n-1)) zdd;have b2:=b2 ht;have e:nv B=nk B (n-1)+pw (n-1)*lb B (n-1):=by rw[<- wV,show n-1+1=n by omega,vU zom]
 have hk1:=dZ hb (n-1);have hp:pw n=pw (n-1)*4294967296:=by rw[show n=n-1+1 by omega,xX,wC];rfl
 have hpp:=BZ (n-1);have e32:2^bl (lb B (n-1))*2^k=4294967296:=by rw[<- iM,hk]
 have t1:(lb B (n-1)+1)*2^k<=4294967296:=by rw[<- e32];exact vK _ b1
 have t2:4294967296<=2*(lb B (n-1)*2^k):=by rw[<- e32,<- vF];exact vK _ b2
 have lo:pw (n-1)*2147483648<=nv B*2^k:=by
  rw[e,w6,vF];exact wS (sI _ zom) (Nat.le_add_left ..)
 have up:nv B*2^k<pw n:=by
  have:nv B<pw (n-1)*(lb B (n-1)+1):=by rw[e,xH];omega
  have:=Tf this (show 0<2^k from bY zdd);rw[vF]at this;rw[hp];exact w9 this (sI _ t1)
 have ho:=yP (nv B*2^k);have hv:=yR (nv B*2^k);have hl:=sW up;generalize zJ (nv B*2^k)=V at *
 generalize nv B*2^k=M at *
 have hl2:V.length=n:=by
  rcases nD V.length n with h|h
  .have a:=sM ho
   have b:=qM (show V.length<=n-1 by omega);omega
  .omega
 refine⟨up,hl2,?_⟩;have e2:nv V=nk V (n-1)+pw (n-1)*lb V (n-1):=by rw[<- wV,show n-1+1=n by omega,vU zom]
 have hk2:=dZ ho (n-1);have:pw (n-1)*2147483648<pw (n-1)*(lb V (n-1)+1):=by rw[xH];omega
 have:=CO this;omega
variable {j d k:Nat}{q:Rat}
def sg(b:Bool)(n:Nat):Int:=if b then -(n:Int) else n
def iU(b:Bool)(n:Nat):(sg b n).natAbs=n:=by unfold sg;split<;>simp
def Vu(b:Bool)(n:Nat):sg b n<0↔b=true/\n≠0:=by unfold sg;cases b<;>simp<;>omega
def uSB(b:Bool)(n:Nat):sg b n=0↔n=0:=by unfold sg;cases b<;>simp
def Ek(b:Bool)(n:Nat):sg (!b) n=- sg b n:=by unfold sg;cases b<;>simp
def KX(a b:Bool)(m n:Nat):sg (a != b) (m*n)=sg a m*sg b n:=by unfold sg;cases a<;>cases b<;>simp[Int.neg_mul,Int.mul_neg]
def uLV(a:Bool)(m n:Nat):sg a (m*n)=sg a m*n:=by unfold sg;cases a<;>simp[Int.neg_mul]
structure IntL where
 neg:Bool
 mag:List Int
 deriving DecidableEq,Inhabited
def vI(x:IntL):PV:=.agg [.bool x.neg,zQ x.mag]
def iv(x:IntL):Int:=sg x.neg (nv x.mag)
def cz(z:Int):IntL:=⟨decide (z<0),zJ z.natAbs⟩
def PG(b:Bool)(n:Nat):cz (sg b n)=⟨b&&decide (n≠0),zJ n⟩:=by
 unfold cz;rw[iU];congr 1;rw[mW];simp[Vu]
def iV(z:Int):iv (cz z)=z:=by
 unfold iv cz sg;simp only[yR];split<;>rename_i h<;>simp at h<;>omega
def PH(b:Bool)(n:Nat):Int.sign (sg b n)=if n=0 then 0 else if b then -1 else 1:=by
 unfold sg;by_cases h:n=0
 .subst h;cases b<;>rfl
 .rw[zB h]
  cases b
  .exact GD yE
  .exact F6 yE
def okR(r:RatL):Prop:=okN r.num/\okN r.den
def dn(den:List Int):Nat:=if nv den=0 then 1 else nv den
def s5(d:List Int):dn d≠0:=by unfold dn;split<;>omega
def qv(r:RatL):Rat:=mkRat (sg r.neg (nv r.num)) (dn r.den)
def cr(q:Rat):RatL:=⟨decide (q.num<0),zJ q.num.natAbs,if q.den=1 then [] else zJ q.den⟩
def yH(q:Rat):okR (cr q):=⟨yP _,by unfold cr;dsimp only;split;exact aL;exact yP _⟩
def uXI(q:Rat):dn (cr q).den=q.den:=by
 unfold dn cr;dsimp only;by_cases h:q.den=1
 .simp[h,nv]
 .rw[zB h,yR,zB q.den_nz]
def uWT(q:Rat):sg (cr q).neg (nv (cr q).num)=q.num:=iV q.num
def yC(q:Rat):qv (cr q)=q:=by unfold qv;rw[uWT,uXI,EI]
def Vv(z:Int)  (h:d≠0):(mkRat z d).num=z/(z.natAbs.gcd d:Int):=by rw[Rat.mkRat_def,dif_neg h,Rat.normalize_eq]
def Vw(z:Int)  (h:d≠0):(mkRat z d).den=d/z.natAbs.gcd d:=by rw[Rat.mkRat_def,dif_neg h,Rat.normalize_eq]
def Vx(z:Int)  (h:d≠0):(mkRat z d).num.natAbs=z.natAbs/z.natAbs.gcd d:=by
 rw[Vv z h,Int.natAbs_ediv_of_dvd]
 .simp
 .exact NJ.2 (GU ..)
def Vy(z:Int)  (h:d≠0):(mkRat z d).num<0↔z<0:=by
 rw[Vv z h];have h1:(z.natAbs.gcd d:Int) ∣ z:=NJ.2 (GU ..);have h2:0<z.natAbs.gcd d:=Nat.gcd_pos_of_pos_right _ zom;obtain⟨k,hk⟩:=h1;have h3:(0:Int)<(z.natAbs.gcd d:Int):=zom
 generalize hg:(z.natAbs.gcd d:Int)=g at *
 rw[hk,Int.mul_ediv_cancel_left _ zom];constructor
 .intro h;exact Int.mul_neg_of_pos_of_neg h3 h
 .intro h
  refine Int.not_le.1 fun h'=>?_
  have:=Int.mul_nonneg (Int.le_of_lt h3) h';omega
def PK(b:Bool)(n:Nat)  (h:d≠0):cr (mkRat (sg b n) d)=⟨b&&decide (n≠0),zJ (n/n.gcd d),if d/n.gcd d=1 then [] else zJ (d/n.gcd d)⟩:=by
 unfold cr;rw[Vx _ h,Vw _ h,iU]
 congr 1
 rw[mW];simp[Vy _ h,Vu]
def nL:cr 0=⟨false,[],[]⟩:=by decide
def qv_zero{r:RatL}:qv r=0↔nv r.num=0:=by
 unfold qv;rw[Rat.mkRat_eq_zero (s5 _),uSB]
def Vz(z:Int)  (h:d≠0):(mkRat z d).num.sign=z.sign:=by
 have h1:=Vy z h;have h2:=Rat.mkRat_eq_zero (n:=z) h;rw[<- NQ]at h2;rcases Ai z 0 with h3|h3|h3
 .rw[F6 h3,F6 (h1.2 h3)]
 .rw[h3]at h2 ⊢;rw[h2.2 rfl]
 .rw[GD h3,GD]
  have:¬ (mkRat z d).num<0:=fun h=>by have:=h1.1 h;omega
  have:¬ (mkRat z d).num=0:=fun h=>by have:=h2.1 h;omega
  omega
def uMH(r:RatL):(qv r).num.sign=(sg r.neg (nv r.num)).sign:=Vz _ (s5 _)
def xQ(q:Rat):Int:=q.num.sign
def KY(r:RatL):xQ (qv r)=(sg r.neg (nv r.num)).sign:=uMH r
def uR1(n1 n2:Int){d1 d2:Nat}(h1:d1≠0)(h2:d2≠0):mkRat n1 d1-mkRat n2 d2=mkRat (n1*d2-n2*d1) (d1*d2):=by
 rw[NG,NU,NF _ _ h1 h2,Int.neg_mul,<- Int.sub_eq_add_neg]
def uC5(a b:RatL):xQ (qv a-qv b)=(sg a.neg (nv a.num)*dn b.den-sg b.neg (nv b.num)*dn a.den).sign:=by
 unfold qv;rw[uR1 _ _ (s5 _) (s5 _)];exact Vz _ (Al (s5 _) (s5 _))
def sgnQ_neg{q:Rat}:xQ q<0↔q<0:=by
 unfold xQ;rw[Int.sign_neg_iff,Rat.lt_iff];simp
def sgnQ_zero{q:Rat}:xQ q=0↔q=0:=by
 unfold xQ;rw[Int.sign_eq_zero_iff_zero,NQ]
def sgnQ_pos{q:Rat}:0<xQ q↔0<q:=by
 unfold xQ;rw[Int.sign_pos_iff,Rat.lt_iff];simp
def V3(a b:RatL):qv a+qv b=mkRat (sg a.neg (nv a.num)*dn b.den+sg b.neg (nv b.num)*dn a.den) (dn a.den*dn b.den):=by
 unfold qv;rw[NF _ _ (s5 _) (s5 _)]
def V4(a b:RatL):qv a*qv b=mkRat (sg a.neg (nv a.num)*sg b.neg (nv b.num)) (dn a.den*dn b.den):=by
 unfold qv;rw[NE]
def sz(k:Nat)(q:Rat):Prop:=q.num.natAbs<pw k/\q.den<pw k
def xV  (h:j<=k)  (hq:sz j q):sz k q:=⟨w9 hq.1 (qM h),w9 hq.2 (qM h)⟩
def El  {z:Int}  (h:d≠0)(h1:z.natAbs<pw k)(h2:d<pw k):sz k (mkRat z d):=by
 refine⟨?_,?_⟩
 .rw[Vx _ h];exact nB (gS ..) h1
 .rw[Vw _ h];exact nB (gS ..) h2
def yO   (h:sz k q):(cr q).num.length<=k/\(cr q).den.length<=k:=by
 refine⟨sW h.1,?_⟩;unfold cr;dsimp only;split
 .simp
 .exact sW h.2
def PL{d:List Int}(h:okN d)  (hk:d.length<=k)(hk1:1<=k):dn d<pw k:=by
 have h1:=sM h;have h2:=qM hk;have h3:=qM hk1;have:pw 1=4294967296:=rfl;unfold dn;split<;>omega
def kT{r:RatL}(h:okR r)  (h1:r.num.length<=k)(h2:r.den.length<=k)(hk:1<=k):sz k (qv r):=by
 refine El (s5 _) ?_ (PL h.2 h2 hk);rw[iU];exact w9 (sM h.1) (qM h1)
def C8{a b:Nat}(h1:a<pw j)(h2:b<pw k):a*b<pw (j+k):=by
 rw[Ei];exact Nat.mul_lt_mul'' h1 h2
def q9  {p:Rat}(h1:sz j p)(h2:sz k q):sz (j+k) (p*q):=by
 rw[<- EI p,<- EI q,NE];refine El (Al p.den_nz q.den_nz) ?_ (C8 h1.2 h2.2);rw[dG];exact C8 h1.1 h2.1
def pU  {p:Rat}(h1:sz j p)(h2:sz k q):sz (j+k+1) (p+q):=by
 rw[<- EI p,<- EI q,NF _ _ p.den_nz q.den_nz];have e1:=C8 h1.1 h2.2;have e2:=C8 h2.1 h1.2;have e3:=C8 h1.2 h2.2;have e4:=xX (j+k);rw[bX k j]at e2;refine El (Al p.den_nz q.den_nz) ?_ zom
 have:(p.num*(q.den:Int)+q.num*(p.den:Int)).natAbs<=p.num.natAbs*q.den+q.num.natAbs*p.den:=by
  refine wS (Int.natAbs_add_le ..) ?_;rw[dG,dG];simp
 omega
def cE   (h:sz k q):sz k (-q):=by unfold sz at *;simpa using h
variable {xs:List Int}
def KZ(k:Nat):pw k=2^(32*k):=by unfold pw;rw[Nat.pow_mul]
def V5  (h:okN xs)(j:Nat):nv xs/pw j=nt xs j:=by
 rw[lK xs j,JQ _ _ (BZ j),Cc (dZ h j),z7]
def uVK  (h:okN xs)(i:Nat):nv xs/2^i%2=lb xs (i/32)/2^(i%32)%2:=by
 have e:i=32*(i/32)+i%32:=zom
 conv=>lhs;rw[e]
 rw[iM,<- M3,<- KZ,V5 h,nK h];have hs:i%32<32:=nZ _ zdd;generalize i%32=s at *
 obtain⟨r,hr⟩:∃ r,32=s+(r+1):=⟨31-s,zom⟩
 have e2:(4294967296:Nat)=2^s*(2^r*2):=by
  rw[<- Nat.pow_succ,<- iM,<- hr]
 generalize nt xs (i/32+1)=T;rw[show 4294967296*T=2^s*((2^r*T)*2) by rw[e2,vF,vF,wC 2 T,vF],JQ _ _ (bY zdd)];omega
def uFL  (h:okN xs){i q:Nat}(e:nv xs=2^(i+1)*q):∃ c,lb xs (i/32)=2^(i%32+1)*c:=by
 have e1:=V5 h (i/32);have e0:i+1=32*(i/32)+(i%32+1):=zom
 rw[e,e0,iM,<- KZ,vF,Mw _ (BZ _),nK h]at e1;have hs:i%32+1<=32:=zom
 generalize i%32+1=s at *
 obtain⟨r,hr⟩:∃ r,32=s+r:=⟨32-s,zom⟩;have e2:(4294967296:Nat)=2^s*2^r:=by rw[<- iM,<- hr]
 have hlt:=vA h (i/32);generalize nt xs (i/32+1)=T at *
 generalize lb xs (i/32)=L at *
 rw[show 4294967296*T=2^s*(2^r*T) by rw[e2,vF]]at e1;have:2^s ∣ L:=(Nat.dvd_add_left (Nat.dvd_mul_right (2^s) (2^r*T))).1 ⟨q,e1.symm⟩;exact this
def uOE{s c:Nat}(hs:s<32)(h:2^(s+1)*c<4294967296):tF .or .u32 ((2^(s+1)*c:Nat):Int) ((2^s:Nat):Int)=((2^(s+1)*c+2^s:Nat):Int)/\2^(s+1)*c+2^s<4294967296:=by
 have e:2^s<2^(s+1):=M8 zdd zom
 have hb:2^(s+1)*c+2^s<4294967296:=by
  obtain⟨r,hr⟩:∃ r,32=(s+1)+r:=⟨31-s,zom⟩;have e2:(4294967296:Nat)=2^(s+1)*2^r:=by rw[<- iM,<- hr]
  rw[e2]at h ⊢;have hc:=CO h;have:=sI (2^(s+1)) (show c+1<=2^r by omega);rw[xH]at this;omega
 exact⟨Vq e hb,hb⟩
def V6{b:Int}(h:0<=b/\b<32):vM .u32 b=2^b.toNat:=by
 rw[Ea];unfold fG;have:min b.toNat (IntKind.bits .u32)=b.toNat:=by show min b.toNat 32=_;omega
 rw[this]
def uBZ{n:Nat}(h:n<4294967296):tF .and .u32 (n:Int) 1=((n%2:Nat):Int):=by
 rw[fH];unfold lG;dsimp only;have e1:(BitVec.ofInt (IntKind.bits .u32) (n:Int)).toNat=n:=by rw[Ej];exact jQ (by show _<2^32;omega)
 have e2:(BitVec.ofInt (IntKind.bits .u32) (1:Int)).toNat=1:=by rfl
 rw[BitVec.toNat_and,e1,e2,Nat.and_one_is_mod,wrap32];omega
structure TermL where
 var:Int
 coef:RatL
 deriving DecidableEq,Inhabited
variable {k:Nat}{v:Int}{i:Nat}{x c:Rat}
def mI(t:TermL):PV:=.agg [.int .i64 t.var,.bool t.coef.neg,zQ t.coef.num,zQ t.coef.den]
structure AffL where
 terms:List TermL
 const:RatL
 deriving DecidableEq,Inhabited
def x8(f:AffL):PV:=.agg [.imm (f.terms.map mI),.bool f.const.neg,zQ f.const.num,zQ f.const.den]
structure ProgL where
 vars:Int
 rows:List AffL
 obj:AffL
 deriving DecidableEq,Inhabited
def HY(p:ProgL):PV:=.agg [.int .i64 p.vars,.imm (p.rows.map x8),.imm (p.obj.terms.map mI),.bool p.obj.const.neg,zQ p.obj.const.num,zQ p.obj.const.den]
def okQ(k:Nat)(r:RatL):Prop:=okR r/\r.num.length<=k/\r.den.length<=k
def okA(k:Nat)(f:AffL):Prop:=okQ k f.const/\(∀ t∈f.terms,okQ k t.coef)/\f.terms.length<=1048576
def okP(k:Nat)(p:ProgL):Prop:=okA k p.obj/\(∀ f∈p.rows,okA k f)/\p.rows.length<=1048576
def V7  {f:AffL}(h:okA k f)  (hi:i<f.terms.length):okQ k f.terms[i]!.coef:=by
 rw[zS f.terms i hi];exact h.2.1 _ (wA hi)
def uNY  {p:ProgL}(h:okP k p)  (hi:i<p.rows.length):okA k p.rows[i]! := by
 rw[zS p.rows i hi];exact h.2.1 _ (wA hi)
def okT(ts:List TermL)(n:Int)(i:Nat):Prop :=
 0<=ts[i]!.var/\ts[i]!.var<n/\(0<i->ts[i-1]!.var<ts[i]!.var)/\qv ts[i]!.coef≠0/\ts[i]!.coef=cr (qv ts[i]!.coef)
def uQ(f:AffL)(n:Int):Prop:=(∀ i,i<f.terms.length->okT f.terms n i)/\f.const=cr (qv f.const)
noncomputable def kU(f:AffL)(n:Int):Bool:=@decide (uQ f n) (Classical.propDecidable _)
def validB_true{f:AffL}{n:Int}:kU f n=true↔uQ f n:=by simp[kU]
def vH0{f:AffL}{n:Int}:kU f n=false↔¬ uQ f n:=by simp[kU]
def V8{f:AffL}{n:Int}(h:∀ i,i<f.terms.length->okT f.terms n i):decide (f.const=cr (qv f.const))=kU f n:=by
 rw[mW,validB_true,tC];exact⟨fun e=>⟨h,e⟩,fun e=>e.2⟩
def kV{f:AffL}{n:Int}  (hi:i<f.terms.length)(h:¬ okT f.terms n i):false=kU f n:=by
 rw[eq_comm,vH0];exact fun e=>h (e.1 i hi)
abbrev QT:=Int×Rat
def tQ(p:QT):TermL:=⟨p.1,cr p.2⟩
def uY(p:QT):PV:=mI (tQ p)
structure QF where
 ts:List QT
 c:Rat
 deriving Inhabited
def QF.L(f:QF):AffL:=⟨f.ts.map tQ,cr f.c⟩
def zP(f:QF):PV:=.agg [.imm (f.ts.map uY),.bool (cr f.c).neg,zQ (cr f.c).num,zQ (cr f.c).den]
def C9(f:QF):zP f=x8 f.L:=by unfold zP x8 QF.L;simp only[qC];rfl
def AffL.Q(f:AffL):QF:=⟨f.terms.map fun t=>(t.var,qv t.coef),qv f.const⟩
def nzq(v:Int)(x:Rat):List QT:=if x=0 then [] else [(v,x)]
def Kb(v:Int):nzq v 0=[]:=by simp[nzq]
def Em   (h:x≠0):nzq v x=[(v,x)]:=by simp[nzq,h]
def cf:List QT->Int->Rat
 |[],_=>0
 |p::l,v=>(if p.1=v then p.2 else 0)+cf l v
def cG(a b:List QT)(v:Int):cf (a++b) v=cf a v+cf b v:=by
 induction a with
 |nil=>simp[cf,GY]
 |cons p a ih=>simp only[List.cons_append,cf,ih,Rat.add_assoc]
def cH(w:Int)(x:Rat)(v:Int):cf (nzq w x) v=if w=v then x else 0:=by
 unfold nzq;by_cases h:x=0
 .simp[h,cf]
 .simp[h,cf,dI]
def Srt(l:List QT):Prop:=l.Pairwise (fun p q=>p.1<q.1)/\∀ p∈l,p.2≠0
def pV:Srt []:=⟨List.Pairwise.nil,fun _ h=>by cases h⟩
variable {l:List QT}
def srt_cons{p:QT}  : Srt (p::l)↔(∀ q∈l,p.1<q.1)/\p.2≠0/\Srt l:=by
 unfold Srt;simp only[JV,yI,forall_eq_or_imp];constructor
 .rintro⟨⟨h1,h2⟩,h3,h4⟩;exact⟨h1,h3,h2,h4⟩
 .rintro⟨h1,h3,h2,h4⟩;exact⟨⟨h1,h2⟩,h3,h4⟩
def cJ   (h:∀ q∈l,q.1≠v):cf l v=0:=by
 induction l with
 |nil=>rfl
 | cons p l ih =>
   have h1:=h p zsm;simp[cf,h1,ih fun q hq=>h q (by simp[hq]),dI]
def HZ:∀ {a b:List QT},Srt a->Srt b->(∀ v,cf a v=cf b v)->a=b
 |[],[],_,_,_=>rfl
 | [],q::b,_,hb,h=>by
   rw[srt_cons]at hb;have:=h q.1;rw[cf,cf,cJ (l:=b) (fun r hr e=>by have:=hb.1 r hr;omega)]at this;simp[dI]at this;exact absurd this.symm hb.2.1
 | p::a,[],ha,_,h=>by
   rw[srt_cons]at ha;have:=h p.1;rw[cf,cf,cJ (l:=a) (fun r hr e=>by have:=ha.1 r hr;omega)]at this;simp[dI]at this;exact absurd this ha.2.1
 | p :: a,q::b,ha,hb,h=>by
   rw[srt_cons]at ha hb;have hp:=h p.1;have hq:=h q.1;simp only[cf]at hp hq;rw[cJ (l:=a) (fun r hr e=>by have:=ha.1 r hr;omega)]at hp;rw[cJ (l:=b) (fun r hr e=>by have:=hb.1 r hr;omega)]at hq;simp only[uA,dI]at hp hq
   have hv:p.1=q.1:=by
    rcases Ai p.1 q.1 with hlt|he|hlt
    .rw[zB zom,cJ (l:=b) (fun r hr e=>by have:=hb.1 r hr;omega),dI]at hp
     exact absurd hp ha.2.1
    .exact he
    .rw[zB zom,cJ (l:=a) (fun r hr e=>by have:=ha.1 r hr;omega),dI]at hq
     exact absurd hq.symm hb.2.1
   have hx:p.2=q.2:=by
    rw[zE hv.symm,cJ (l:=b) (fun r hr e=>by have:=hb.1 r hr;omega),dI]at hp;exact hp
   have hab:a=b:=HZ ha.2.2 hb.2.2 fun v=>by
    have:=h v;simp only[cf]at this;rw[hv,hx]at this;exact Rat.add_left_cancel _ this
   rw[hab]
   congr 1
   exact Prod.ext hv hx
def cK    (hl:Srt l)(h:∀ q∈l,v<q.1):Srt (nzq v x++l):=by
 unfold nzq;by_cases h0:x=0
 .simpa [h0]using hl
 .simp only[h0,tE,List.cons_append,List.nil_append]
  exact srt_cons.2 ⟨h,h0,hl⟩
def mrg(c:Rat):List QT->List QT->List QT
 |[],[]=>[]
 |p::a,[]=>nzq p.1 p.2++mrg c a []
 |[],q::b=>nzq q.1 (q.2*c)++mrg c [] b
 |p::a,q::b=>if p.1<q.1 then nzq p.1 p.2++mrg c a (q::b) else if q.1<p.1 then nzq q.1 (q.2*c)++mrg c (p::a) b else nzq p.1 (p.2+q.2*c)++mrg c a b
termination_by a b=>a.length+b.length
def yA(f g:QF)(c:Rat):QF:=⟨mrg c f.ts g.ts,f.c+g.c*c⟩
def pW(c:Rat):∀ (n:Nat) (a b:List QT),a.length+b.length<=n->∀ r∈mrg c a b,(∃ p∈a,p.1=r.1)\/∃ q∈b,q.1=r.1
 |n,[],[],_,r,h=>by rw[mrg]at h;cases h
 |0,_::_,_,h,_,_=>by simp at h
 |0,_,_::_,h,_,_=>by simp at h
 | n + 1,p::a,[],hn,r,h=>by
   rw[mrg,y8]at h;simp only[List.length_cons]at hn;rcases h with h|h
   .unfold nzq at h;split at h
    .cases h
    .simp at h;left;exact⟨p,zsm,by rw[h]⟩
   .rcases pW c n a [] (by simp at hn ⊢;omega) r h with⟨q,h1,h2⟩|h1
    .exact zF ⟨q,by simp[h1],h2⟩
    .exact zC h1
 | n + 1,[],q::b,hn,r,h=>by
   rw[mrg,y8]at h;simp only[List.length_cons]at hn;rcases h with h|h
   .unfold nzq at h;split at h
    .cases h
    .simp at h;right;exact⟨q,zsm,by rw[h]⟩
   .rcases pW c n [] b (by simp at hn ⊢;omega) r h with h1|⟨q,h1,h2⟩
    .exact zF h1
    .exact zC ⟨q,by simp[h1],h2⟩
 | n + 1,p::a,q::b,hn,r,h=>by
   rw[mrg]at h;simp only[List.length_cons]at hn
   have one:∀ {v:Int} {x:Rat},r∈nzq v x->v=r.1:=fun {v x} h=>by
    unfold nzq at h;split at h
    .cases h
    .simp at h;rw[h]
   split at h
   .rcases y8.1 h with h|h
    .exact zF ⟨p,zsm,one h⟩
    .rcases pW c n a (q::b) yE r h with⟨t,h1,h2⟩|h1
     .exact zF ⟨t,by simp[h1],h2⟩
     .exact zC h1
   .split at h
    .rcases y8.1 h with h|h
     .exact zC ⟨q,zsm,one h⟩
     .rcases pW c n (p::a) b yE r h with h1|⟨t,h1,h2⟩
      .exact zF h1
      .exact zC ⟨t,by simp[h1],h2⟩
    .rcases y8.1 h with h|h
     .exact zF ⟨p,zsm,one h⟩
     .rcases pW c n a b zom r h with⟨t,h1,h2⟩|⟨t,h1,h2⟩
      .exact zF ⟨t,by simp[h1],h2⟩
      .exact zC ⟨t,by simp[h1],h2⟩
def cL (c:Rat):∀ (n:Nat) (a b:List QT),a.length+b.length<=n->Srt a->Srt b->Srt (mrg c a b)/\∀ v,cf (mrg c a b) v=cf a v+cf b v*c
 |n,[],[],_,_,_=>by rw[mrg];exact⟨pV,fun v=>by simp[cf,GY]⟩
 |0,_::_,_,h,_,_=>by simp at h
 |0,_,_::_,h,_,_=>by simp at h
 | n + 1,p::a,[],hn,ha,hb=>by
   rw[mrg];simp only[List.length_cons]at hn;rw[srt_cons]at ha;obtain⟨h1,h2⟩:=cL c n a [] (by simp at hn ⊢;omega) ha.2.2 hb;refine⟨cK h1 fun r hr=>?_,fun v=>?_⟩
   .rcases pW c _ a [] (zX _) r hr with⟨t,h3,h4⟩|⟨t,h3,_⟩
    .rw[<- h4];exact ha.1 t h3
    .cases h3
   .rw[cG,cH,h2];simp only[cf];grind
 | n + 1,[],q::b,hn,ha,hb=>by
   rw[mrg];simp only[List.length_cons]at hn;rw[srt_cons]at hb;obtain⟨h1,h2⟩:=cL c n [] b (by simp at hn ⊢;omega) ha hb.2.2;refine⟨cK h1 fun r hr=>?_,fun v=>?_⟩
   .rcases pW c _ [] b (zX _) r hr with⟨t,h3,_⟩|⟨t,h3,h4⟩
    .cases h3
    .rw[<- h4];exact hb.1 t h3
   .rw[cG,cH,h2];simp only[cf];grind
 | n + 1,p::a,q::b,hn,ha,hb=>by
   rw[mrg];simp only[List.length_cons]at hn;have ha':=srt_cons.1 ha;have hb':=srt_cons.1 hb
   split
   .rename_i hlt
    obtain⟨h1,h2⟩:=cL c n a (q::b) yE ha'.2.2 hb;refine⟨cK h1 fun r hr=>?_,fun v=>?_⟩
    .rcases pW c _ a (q::b) (zX _) r hr with⟨t,h3,h4⟩|⟨t,h3,h4⟩
     .rw[<- h4];exact ha'.1 t h3
     .rw[<- h4]
      rcases yI.1 h3 with h3|h3
      .rw[h3];exact hlt
      .have:=hb'.1 t h3;omega
    .rw[cG,cH,h2];simp only[cf];grind
   .split
    .rename_i hlt
     obtain⟨h1,h2⟩:=cL c n (p::a) b yE ha hb'.2.2;refine⟨cK h1 fun r hr=>?_,fun v=>?_⟩
     .rcases pW c _ (p::a) b (zX _) r hr with⟨t,h3,h4⟩|⟨t,h3,h4⟩
      .rw[<- h4]
       rcases yI.1 h3 with h3|h3
       .rw[h3];exact hlt
       .have:=ha'.1 t h3;omega
      .rw[<- h4];exact hb'.1 t h3
     .rw[cG,cH,h2];simp only[cf];grind
    .have he:p.1=q.1:=zom
     obtain⟨h1,h2⟩:=cL c n a b zom ha'.2.2 hb'.2.2;refine⟨cK h1 fun r hr=>?_,fun v=>?_⟩
     .rcases pW c _ a b (zX _) r hr with⟨t,h3,h4⟩|⟨t,h3,h4⟩
      .rw[<- h4];exact ha'.1 t h3
      .rw[<- h4,he];exact hb'.1 t h3
     .rw[cG,cH,h2];simp only[cf];grind
def wZ(v:Int)(c:Rat):List QT->Bool->List QT
 |[],d=>if d then [] else nzq v c
 |t::ts,d=>(if (d||decide (t.1=v))=false/\v<t.1 then nzq v c else [])++nzq t.1 (if t.1=v then t.2+c else t.2)++wZ v c ts ((d||decide (t.1=v))||decide (v<t.1))
def PM{v:Int}{c:Rat}:∀ {l:List QT},Srt l->(∀ q∈l,v<q.1)->wZ v c l true=l
 |[],_,_=>rfl
 | t::ts,hs,h=>by
   have hs':=srt_cons.1 hs;have ht:=h t zsm;have h1:¬ t.1=v:=zom
   simp only[wZ,gY,Ag,Ar,tE,h1,List.nil_append];rw[Em hs'.2.1,PM hs'.2.2 fun q hq=>h q (by simp[hq])];rfl
def V9{v:Int}{c:Rat}:∀ {l:List QT},Srt l->Srt (wZ v c l false)/\(∀ w,cf (wZ v c l false) w=cf l w+if v=w then c else 0)/\∀ r∈wZ v c l false,r.1=v\/∃ p∈l,p.1=r.1
 | [],_=>by
   simp only[wZ,JX,tE];refine⟨by have:=cK (v:=v) (x:=c) pV (fun q h=>by cases h);simpa using this,fun w=>by rw[cH];simp[cf,GY],fun r hr=>?_⟩;unfold nzq at hr;split at hr
   .cases hr
   .simp at hr;left;rw[hr]
 | t :: ts,hs=>by
   have hs':=srt_cons.1 hs
   have memz:∀ {w:Int} {x:Rat} {r:QT},r∈nzq w x->r.1=w:=fun {w x r} h=>by
    unfold nzq at h;split at h
    .cases h
    .simp at h;rw[h]
   rcases Ai t.1 v with hlt|he|hgt
   .obtain⟨h1,h2,h3⟩:=V9 (v:=v) (c:=c) hs'.2.2
    have e1:¬ t.1=v:=zom
    have e2:¬ v<t.1:=zom
    simp only[wZ,e1,e2,iL,nW,and_false,tE,List.nil_append];refine⟨cK h1 fun r hr=>?_,fun w=>?_,fun r hr=>?_⟩
    .rcases h3 r hr with h|⟨p,hp,h⟩
     .omega
     .have:=hs'.1 p hp;omega
    .rw[cG,cH,h2];simp only[cf];grind
    .rcases y8.1 hr with hr|hr
     .right;exact⟨t,zsm,(memz hr).symm⟩
     .rcases h3 r hr with h|⟨p,hp,h⟩
      .exact zF h
      .exact zC ⟨p,by simp[hp],h⟩
   .have h1:=PM (v:=v) (c:=c) hs'.2.2 (fun q hq=>by have:=hs'.1 q hq;omega)
    simp only[wZ,he,fA,gZ,Ag,Ar,tE,uA,List.nil_append,gY,h1];refine⟨cK hs'.2.2 fun r hr=>by have:=hs'.1 r hr;omega,fun w=>?_,fun r hr=>?_⟩
    .rw[cG,cH];simp only[cf];rw[he];grind
    .rcases y8.1 hr with hr|hr
     .exact zF (memz hr)
     .exact zC ⟨r,by simp[hr],rfl⟩
   .have e1:¬ t.1=v:=zom
    have h1:=PM (v:=v) (c:=c) hs'.2.2 (fun q hq=>by have:=hs'.1 q hq;omega);simp only[wZ,e1,hgt,iL,fA,nW,gZ,and_self,uA,tE,h1];rw[Em hs'.2.1,tV];refine⟨cK hs fun r hr=>?_,fun w=>?_,fun r hr=>?_⟩
    .rcases yI.1 hr with hr|hr
     .rw[hr];exact hgt
     .have:=hs'.1 r hr;omega
    .rw[cG,cH];simp only[cf,List.cons_append,List.nil_append];grind
    .rcases y8.1 hr with hr|hr
     .exact zF (memz hr)
     .exact zC ⟨r,hr,rfl⟩
def WA(f:QF)(v:Int)(c:Rat):QF:=⟨wZ v c f.ts false,f.c⟩
def addL(l:List QT)(g:List QT):List QT:=g.foldl (fun l t=>wZ t.1 t.2 l false) l
def Be(f g:QF):QF:=⟨addL f.ts g.ts,f.c+g.c⟩
def PN:∀ {g l:List QT},Srt l->Srt (addL l g)/\∀ w,cf (addL l g) w=cf l w+cf g w
 |[],l,h=>⟨h,fun w=>by simp[addL,cf,dI]⟩
 | t::g,l,h=>by
   obtain⟨h1,h2,_⟩:=V9 (v:=t.1) (c:=t.2) h;obtain⟨h3,h4⟩:=PN (g:=g) h1;refine⟨h3,fun w=>?_⟩;show cf (addL (wZ t.1 t.2 l false) g) w=_
   rw[h4,h2];simp only[cf];grind
def rA(c:Rat)(l:List QT):List QT:=l.flatMap fun t=>nzq t.1 (t.2*c)
def rB(f:QF)(c:Rat):QF:=⟨rA c f.ts,f.c*c⟩
def He(c:Rat):∀ {l:List QT},Srt l->Srt (rA c l)/\(∀ w,cf (rA c l) w=cf l w*c)/\∀ r∈rA c l,∃ p∈l,p.1=r.1
 |[],_=>⟨pV,fun w=>by simp[rA,cf],fun r h=>by cases h⟩
 | t :: l,h=>by
   have h':=srt_cons.1 h;obtain⟨h1,h2,h3⟩:=He c h'.2.2;have e:rA c (t::l)=nzq t.1 (t.2*c)++rA c l:=by simp[rA]
   rw[e];refine⟨cK h1 fun r hr=>?_,fun w=>?_,fun r hr=>?_⟩
   .obtain⟨p,hp,h4⟩:=h3 r hr
    rw[<- h4];exact h'.1 p hp
   .rw[cG,cH,h2];simp only[cf];grind
   .rcases y8.1 hr with hr|hr
    .unfold nzq at hr;split at hr
     .cases hr
     .simp at hr;exact⟨t,zsm,by rw[hr]⟩
    .obtain⟨p,hp,h4⟩:=h3 r hr
     exact⟨p,by simp[hp],h4⟩
variable {g:QF}
def En{f:QF}(hf:Srt f.ts)(hg:Srt g.ts)(c:Rat):Be f (rB g c)=yA f g c:=by
 obtain⟨h1,h2⟩:=cL c _ f.ts g.ts (zX _) hf hg;obtain⟨h3,h4,_⟩:=He c hg;obtain⟨h5,h6⟩:=PN (g:=rA c g.ts) hf;unfold Be yA rB
 congr 1
 exact HZ h5 h1 fun v=>by rw[h6,h4,h2]
def ev1(x:List Rat)(l:List QT)(y:Rat):Rat:=l.foldl (fun y t=>y+t.2*x[t.1.toNat]!) y
def evQ(f:QF)(x:List Rat):Rat:=ev1 x f.ts f.c
def szF(k:Nat)(f:QF):Prop:=sz k f.c/\∀ p∈f.ts,sz k p.2
def rX{j:Nat}(h:j<=k){f:QF}(hf:szF j f):szF k f:=⟨xV h hf.1,fun p hp=>xV h (hf.2 p hp)⟩
def lT   {r:QT}(h:r∈nzq v x):r=(v,x):=by
 unfold nzq at h;split at h
 .cases h
 .simpa using h
def Eo{c:Rat}{K:Nat}{kf kg kc:Nat}(hc:sz kc c)(hK:kf+(kg+kc)+1<=K):∀ (n:Nat) (a b:List QT),a.length+b.length<=n->(∀ p∈a,sz kf p.2)->(∀ p∈b,sz kg p.2)->∀ r∈mrg c a b,sz K r.2
 |n,[],[],_,_,_,r,h=>by rw[mrg]at h;cases h
 |0,_::_,_,h,_,_,_,_=>by simp at h
 |0,_,_::_,h,_,_,_,_=>by simp at h
 | n+1,p::a,[],hn,ha,hb,r,h=>by
   rw[mrg,y8]at h;simp only[List.length_cons]at hn;rcases h with h|h
   .rw[lT h];exact xV zom (ha p zsm)
   .exact Eo hc hK n a [] (by simp at hn ⊢;omega) (fun q hq=>ha q (by simp[hq])) hb r h
 | n+1,[],q::b,hn,ha,hb,r,h=>by
   rw[mrg,y8]at h;simp only[List.length_cons]at hn;rcases h with h|h
   .rw[lT h];exact xV zom (q9 (hb q zsm) hc)
   .exact Eo hc hK n [] b (by simp at hn ⊢;omega) ha (fun q hq=>hb q (by simp[hq])) r h
 | n + 1,p::a,q::b,hn,ha,hb,r,h=>by
   rw[mrg]at h;simp only[List.length_cons]at hn
   split at h
   .rcases y8.1 h with h|h
    .rw[lT h];exact xV zom (ha p zsm)
    .exact Eo hc hK n a (q::b) yE (fun q hq=>ha q (by simp[hq])) hb r h
   .split at h
    .rcases y8.1 h with h|h
     .rw[lT h];exact xV zom (q9 (hb q zsm) hc)
     .exact Eo hc hK n (p::a) b yE ha (fun q hq=>hb q (by simp[hq])) r h
    .rcases y8.1 h with h|h
     .rw[lT h];exact xV hK (pU (ha p zsm) (q9 (hb q zsm) hc))
     .exact Eo hc hK n a b zom (fun q hq=>ha q (by simp[hq])) (fun q hq=>hb q (by simp[hq])) r h
def Ep{c:Rat}:∀ (n:Nat) (a b:List QT),a.length+b.length<=n->(mrg c a b).length<=a.length+b.length
 |n,[],[],_=>by rw[mrg];simp
 |0,_::_,_,h=>by simp at h
 |0,_,_::_,h=>by simp at h
 | n+1,p::a,[],hn=>by
   simp only[List.length_cons]at hn;have:=Ep (c:=c) n a [] (by simp at hn ⊢;omega);have l:∀ v x,(nzq v x).length<=1:=fun v x=>by unfold nzq;split<;>simp
   have:=l p.1 p.2;rw[mrg,xR];simp at *;omega
 | n+1,[],q::b,hn=>by
   simp only[List.length_cons]at hn;have:=Ep (c:=c) n [] b (by simp at hn ⊢;omega);have l:∀ v x,(nzq v x).length<=1:=fun v x=>by unfold nzq;split<;>simp
   have:=l q.1 (q.2*c);rw[mrg,xR];simp at *;omega
 | n + 1,p::a,q::b,hn=>by
   simp only[List.length_cons]at hn;have l:∀ v x,(nzq v x).length<=1:=fun v x=>by unfold nzq;split<;>simp
   rw[mrg]
   split
   .have:=Ep (c:=c) n a (q::b) yE
    have:=l p.1 p.2;rw[xR];simp at *;omega
   .split
    .have:=Ep (c:=c) n (p::a) b yE
     have:=l q.1 (q.2*c);rw[xR];simp at *;omega
    .have:=Ep (c:=c) n a b zom
     have:=l p.1 (p.2+q.2*c);rw[xR];simp at *;omega
def cN{f:QF}  {kf kg kc K:Nat}(hf:szF kf f)(hg:szF kg g)(hc:sz kc c)(hK:kf+(kg+kc)+1<=K):szF K (yA f g c) :=
 ⟨xV hK (pU hf.1 (q9 hg.1 hc)),Eo hc hK _ f.ts g.ts (zX _) hf.2 hg.2⟩
def Kc{f:QF}  : (yA f g c).ts.length<=f.ts.length+g.ts.length:=Ep _ _ _ (zX _)
def aN{f:QF}  (hf:Srt f.ts)(hg:Srt g.ts):Srt (yA f g c).ts:=(cL c _ f.ts g.ts (zX _) hf hg).1
def zeroQ:QF:=⟨[],0⟩
def cQ(k:Nat)(hk:1<=k):szF k zeroQ:=by
 have:4294967296<=pw k:=qM hk;exact⟨⟨by show(0:Nat)<_;omega,by show 1<_;omega⟩,fun p h=>by cases h⟩
def pX{z:Int}(h:z.natAbs<4294967296):sz 1 (z:Rat):=⟨by simpa [xX,q8]using h,by simp[xX,q8]⟩
def Er:zP zeroQ=.agg [.imm [],.bool false,.imm [],.imm []]:=by unfold zP zeroQ;rw[nL];rfl
def yF(q:Rat):PV:=zR (cr q)
def WB(x:List Rat)(ts:List QT)(y:Rat)(i:Nat)(h:i<ts.length):ev1 x (ts.take (i+1)) y=ev1 x (ts.take i) y+ts[i]!.2*x[ts[i]!.1.toNat]! := by
 unfold ev1;rw[tO h,dF,zS ts i h];rfl
structure FR where
 c:List Int
 fm:Nat
 deriving Inhabited
variable {c:List Int}{i:Nat}
def encI(c:List Int):PV:=.imm (c.map (.int .i64))
def qN(r:FR):PV:=.agg [.imm (r.c.map (.int .i64)),.int .u64 r.fm]
def okG(x:Int):Prop:=-1073741824<=x/\x<=1073741824
instance (x:Int):Decidable (okG x):=by unfold okG;exact inferInstance
def gcI(c:List Int)(i:Nat):Nat:=(c.take i).foldl (fun d x=>Nat.gcd x.natAbs d) 0
def gcD(c:List Int):Nat:=gcI c c.length
def PO   (h:i<c.length):gcI c (i+1)=Nat.gcd c[i]!.natAbs (gcI c i):=by
 unfold gcI;rw[tO h,dF,zS c i h];rfl
def WC(c:List Int):∀ i,i<=c.length->∀ j,j<i->gcI c i ∣ c[j]!.natAbs
 |0,_,j,hj=>by omega
 | i+1,hi,j,hj=>by
   rw[PO zom];by_cases e:j=i
   .subst e;exact GU _ _
   .exact Nat.dvd_trans (Nat.gcd_dvd_right _ _) (WC c i zom j zom)
def PP{c:List Int}{B:Nat}(hB:∀ x∈c,x.natAbs<=B):∀ i,i<=c.length->gcI c i<=B
 |0,_=>z8 _
 | i+1,hi=>by
   rw[PO zom];have h1:=hB c[i]! (by rw[zS c i zom];exact wA _);have h2:=PP hB i zom;by_cases h0:c[i]!.natAbs=0
   .rw[h0,Nat.gcd_zero_left];exact h2
   .exact wS (Nat.gcd_le_left _ zom) h1
def pE(d:Nat)(x:Int):Int:=if 1<d then x.tdiv d else x
def uPQ{d:Nat}{x:Int}{B:Int}(h:-B<=x/\x<=B):-B<=pE d x/\pE d x<=B:=by
 unfold pE
 split
 .have h1:=Tu x d
  have h2:(x.tdiv d).natAbs<=x.natAbs:=h1;omega
 .exact h
def uGN{d:Nat}{x:Int}(h:d ∣ x.natAbs):∃ e:Int,0<e/\pE d x*e=x/\e=if 1<d then(d:Int) else 1:=by
 unfold pE;by_cases h1:1<d
 .rw[zE h1,zE h1]
  refine⟨d,zom,?_,rfl⟩;exact Int.tdiv_mul_cancel (NJ.2 h)
 .rw[zB h1,zB h1]
  exact⟨1,zdd,zom,rfl⟩
def pY(d:Nat):List Int->Nat
 |[]=>0
 |x::l=>if okG (pE d x) then 1+pY d l else 0
def WE(d:Nat):∀ l:List Int,pY d l<=l.length
 |[]=>zX _
 |x::l=>by unfold pY;split;have:=WE d l;simp only[List.length_cons];omega;exact z8 _
def PQ(d:Nat):∀ (l:List Int) (i:Nat),i<pY d l->okG (pE d l[i]!)
 |[],i,h=>by simp[pY]at h
 | x::l,i,h=>by
   unfold pY at h
   split at h
   .cases i with
    |zero=>assumption
    | succ i =>
      have:i<pY d l:=zom
      simpa using PQ d l i this
   .omega
def WF(d:Nat):∀ (l:List Int),pY d l<l.length->¬ okG (pE d l[pY d l]!)
 |[],h=>by simp at h
 | x::l,h=>by
   unfold pY at h ⊢
   split at h
   .rename_i hx
    rw[zE hx,bX 1];have:pY d l<l.length:=by simp only[List.length_cons]at h;omega
    simpa using WF d l this
   .rename_i hx
    rw[zB hx];simpa using hx
def rC(c:List Int)(i:Nat):List Int:=(c.take i).map (pE (gcD c))++c.drop i
def DC(c:List Int)  (h:i<=c.length):(rC c i).length=c.length:=by simp[rC];omega
def vVI(c:List Int):rC c 0=c:=by simp[rC]
def WG   (h:i<c.length):(rC c i)[i]! = c[i]! := by
 have h1:i<(rC c i).length:=by rw[DC c zom];exact h
 rw[zS _ i h1,zS c i h];simp only[rC];rw[iI yE];simp only[z6,wG,JY]
 congr 1;omega
def PR   (h:i<c.length):(rC c i).set i (pE (gcD c) c[i]!)=rC c (i+1):=by
 refine vE (by simp[rC];omega) fun j h1 h2=>?_
 have hj:j<c.length:=by rw[DC c zom]at h2;exact h2
 by_cases e:j=i
 .subst e
  rw[JP];simp only[rC];rw[iJ yE];simp[zS c j hj]
 .rw[CW zom]
  simp only[rC];by_cases e2:j<i
  .rw[iJ yE,iJ yE]
   simp
  .rw[iI yE,iI yE]
   simp only[z6,wG,JY]
   congr 1;omega
def uL7   (h:i<c.length):(rC c (i+1))[i]! = pE (gcD c) c[i]! := by
 rw[<- PR h];have h1:i<(rC c i).length:=by rw[DC c zom];exact h
 rw[zS _ i (by simpa using h1),JP]
def qO(c:List Int):Bool:=decide (pY (gcD c) c=c.length)
def rY(c:List Int):List Int:=rC c (min (pY (gcD c) c+1) c.length)
def Ke(c:List Int):(rY c).length=c.length:=DC c (Nat.min_le_right _ _)
def PS  (h:qO c=true):rY c=c.map (pE (gcD c))/\∀ x∈rY c,okG x:=by
 have hk:pY (gcD c) c=c.length:=mS h
 have e:rY c=c.map (pE (gcD c)):=by
  unfold rY;rw[hk,Nat.min_eq_right zom];simp[rC]
 refine⟨e,fun x hx=>?_⟩;rw[e]at hx;obtain⟨y,hy,rfl⟩:=zW.1 hx;obtain⟨j,hj,rfl⟩:=uE hy;have:=PQ (gcD c) c j zom
 rwa [zS c j hj]at this
def Kg  (h:qO c=true):∃ e:Int,0<e/\∀ i,i<c.length->(rY c)[i]!*e=c[i]! := by
 obtain⟨h1,_⟩:=PS h;refine⟨if 1<gcD c then(gcD c:Int) else 1,by split<;>omega,fun i hi=>?_⟩;rw[h1,zS _ i (by simpa using hi),vS,zS c i hi];obtain⟨e,e1,e2,e3⟩:=uGN (d:=gcD c) (x:=c[i]) (by have:=WC c c.length (zX _) i hi;rwa [zS c i hi]at this);rw[<- e3];exact e2
def lW:Nat->Nat->Nat
 |0,_=>0
 |k+1,x=>if x=0 then 0 else x%2+lW k (x/2)
def DD(x:Nat):Nat:=lW 64 x
def PT:∀ k x,lW k x<=k
 |0,_=>zX _
 |k+1,x=>by unfold lW;split;omega;have:=PT k (x/2);omega
def uH3{a b:Nat}(ha:a<18446744073709551616)(hb:b<18446744073709551616):tF .or .u64 (a:Int) (b:Int)=((a ||| b:Nat):Int):=by
 rw[fH];unfold lG;dsimp only;have e:∀ n:Nat,n<18446744073709551616->(BitVec.ofInt (IntKind.bits .u64) (n:Int)).toNat=n:=fun n hn=>by rw[Ej];exact jQ (by show _<2^64;omega)
 rw[BitVec.toNat_or,e a ha,e b hb];have:a ||| b<2^64:=NL zom zom
 exact VJ zom zom
variable {p:Prop}{k:Nat}
def Hg(p:ProgL):Prop:=(0<=p.vars/\p.vars<=1280)/\p.rows.length<=4096/\uQ p.obj p.vars/\∀ i,i<p.rows.length->uQ p.rows[i]! p.vars
noncomputable def Et(p:ProgL):Bool:=@decide (Hg p) (Classical.propDecidable _)
def validPB_true{p:ProgL}:Et p=true↔Hg p:=by simp[Et]
def validPB_false{p:ProgL}:Et p=false↔¬ Hg p:=by simp[Et]
structure QP where
 vars:Int
 rows:List QF
 obj:QF
 deriving Inhabited
def nM(P:QP):PV:=.agg [.int .i64 P.vars,.imm (P.rows.map zP),.imm (P.obj.ts.map uY),.bool (cr P.obj.c).neg,zQ (cr P.obj.c).num,zQ (cr P.obj.c).den]
def uWN{t:TermL}(h:t.coef=cr (qv t.coef)):tQ (t.var,qv t.coef)=t:=by unfold tQ;rw[<- h]
def PU{f:AffL}{n:Int}(h:uQ f n):f.Q.L=f:=by
 obtain⟨ts,c⟩:=f
 have h1:(ts.map fun t=>tQ (t.var,qv t.coef))=ts:=by
  refine vE zsm fun i h1 h2=>?_
  have:=(h.1 i (by simpa using h1)).2.2.2.2;rw[zS ts i h2]at this;simp only[vS];exact uWN this
 unfold QF.L AffL.Q;simp only[qC];rw[show(tQ∘fun t:TermL=>(t.var,qv t.coef))=fun t=>tQ (t.var,qv t.coef) from rfl,h1,<- h.2]
def Hh{f:AffL}{n:Int}(h:uQ f n):x8 f=zP f.Q:=by rw[C9,PU h]
def okF(n:Int)(f:QF):Prop:=Srt f.ts/\∀ t∈f.ts,0<=t.1/\t.1<n
def p8{f:AffL}{n:Int}(h:uQ f n):okF n f.Q:=by
 have inc:∀ (d i:Nat),i+d+1<f.terms.length->f.terms[i]!.var<f.terms[i+d+1]!.var:=by
  intro d
  induction d with
  |zero=>intro i hi;exact(h.1 (i+1) hi).2.2.1 zom
  | succ d ih =>
    intro i hi;have h1:=ih i zom;have h2:=(h.1 (i+(d+1)+1) hi).2.2.1 zom;rw[show i+(d+1)+1-1=i+d+1 by omega]at h2;omega
 refine⟨⟨?_,fun p hp=>?_⟩,fun t ht=>?_⟩
 .unfold AffL.Q
  rw[List.pairwise_map,F8];intro i j hi hj hij;have:=inc (j-i-1) i zom;rw[show i+(j-i-1)+1=j by omega,zS f.terms i hi,zS f.terms j hj]at this;exact this
 .unfold AffL.Q at hp
  obtain⟨t,ht,rfl⟩:=zW.1 hp;obtain⟨i,hi,rfl⟩:=uE ht;have:=(h.1 i hi).2.2.2.1
  rwa [zS f.terms i hi]at this
 .unfold AffL.Q at ht
  obtain⟨t,ht',rfl⟩:=zW.1 ht;obtain⟨i,hi,rfl⟩:=uE ht';have:=h.1 i hi;rw[okT,zS f.terms i hi]at this;exact⟨this.1,this.2.1⟩
def DF{f:QF}{n:Int}(h:okF n f):uQ f.L n:=by
 refine⟨fun i hi=>?_,by show cr f.c=cr (qv (cr f.c));rw[yC]⟩;have hi':i<f.ts.length:=by simpa [QF.L]using hi
 have e:f.L.terms[i]! = tQ f.ts[i]! := by
  rw[zS f.L.terms i hi,zS f.ts i hi'];simp[QF.L]
 have hm:f.ts[i]! ∈ f.ts:=by rw[zS f.ts i hi'];exact wA hi'
 unfold okT;rw[e];refine⟨(h.2 _ hm).1,(h.2 _ hm).2,fun h0=>?_,?_,?_⟩
 .have hi2:i-1<f.ts.length:=zom
  have e2:f.L.terms[i-1]! = tQ f.ts[i-1]! := by
   rw[zS f.L.terms (i-1) zom,zS f.ts (i-1) hi2];simp[QF.L]
  rw[e2,zS f.ts i hi',zS f.ts (i-1) hi2];exact F8.1 h.1.1 (i-1) i hi2 hi' zom
 .show qv (cr f.ts[i]!.2)≠0
  rw[yC];exact h.1.2 _ hm
 .show cr _=cr (qv (cr _));rw[yC]
def WH(P:QP):Prop:=(0<=P.vars/\P.vars<=1280)/\P.rows.length<=4096/\okF P.vars P.obj/\∀ f∈P.rows,okF P.vars f
def QP.L(P:QP):ProgL:=⟨P.vars,P.rows.map QF.L,P.obj.L⟩
def uPL(P:QP):nM P=HY P.L:=by
 unfold nM HY QP.L;simp only[qC];rw[show(x8∘QF.L)=zP from funext fun f=>(C9 f).symm];simp only[QF.L,qC];rfl
def vTT{P:QP}(h:WH P):Hg P.L:=by
 refine⟨h.1,by simpa [QP.L]using h.2.1,DF h.2.2.1,fun i hi=>?_⟩;have hi':i<P.rows.length:=by simpa [QP.L]using hi
 have e:P.L.rows[i]! = P.rows[i]!.L:=by
  rw[zS P.L.rows i hi,zS P.rows i hi'];simp[QP.L]
 rw[e];exact DF (h.2.2.2 _ (by rw[zS P.rows i hi'];exact wA hi'))
def kW  {q:Rat}(h:sz k q):okQ k (cr q):=⟨yH q,(yO h).1,(yO h).2⟩
def Bf{j:Nat}(h:j<=k){r:RatL}(hr:okQ j r):okQ k r:=⟨hr.1,wS hr.2.1 h,wS hr.2.2 h⟩
def Eu  {f:QF}(h:szF k f)(hl:f.ts.length<=1048576):okA k f.L:=by
 refine⟨kW h.1,fun t ht=>?_,by simpa [QF.L]using hl⟩;obtain⟨p,hp,rfl⟩:=zW.1 ht;exact kW (h.2 p hp)
def WI{k kx:Nat}{x:List Rat}(hx:∀ q∈x,sz kx q):∀ (ts:List QT) (y:Rat) (m:Nat),(∀ t∈ts,sz k t.2)->(∀ t∈ts,0<=t.1/\t.1<x.length)->sz m y->sz (m+ts.length*(k+kx+1)) (ev1 x ts y)
 |[],y,m,_,_,hy=>by simpa [ev1]using hy
 | t::ts,y,m,ht,hv,hy=>by
   have h0:=hv t zsm;have hj:t.1.toNat<x.length:=zom
   have h1:=pU hy (q9 (ht t zsm) (hx x[t.1.toNat]! (by rw[zS x _ hj];exact wA hj)));have h2:=WI hx ts _ _ (fun s hs=>ht s (by simp[hs])) (fun s hs=>hv s (by simp[hs])) h1;have e:ev1 x (t::ts) y=ev1 x ts (y+t.2*x[t.1.toNat]!):=rfl;rw[e];refine xV ?_ h2;rw[List.length_cons,w6];omega
def WJ{kx:Nat}{f:QF}{x:List Rat}(hf:szF k f)(hx:∀ q∈x,sz kx q)(hv:∀ t∈f.ts,0<=t.1/\t.1<x.length):sz (k+f.ts.length*(k+kx+1)) (evQ f x) :=
 WI hx f.ts f.c k hf.2 hv hf.1
structure SolL where
 status:Int
 value:RatL
 point:List RatL
 dual:List RatL
 ray:List RatL
 basis:List Int
 pivots:Int
 deriving DecidableEq,Inhabited
def iW(s:SolL):PV:=.agg [.int .i64 s.status,.bool s.value.neg,zQ s.value.num,zQ s.value.den,.imm (s.point.map zR),.imm (s.dual.map zR),.imm (s.ray.map zR),.imm (s.basis.map (.int .i64)),.int .i64 s.pivots]
def Bg(f:QF)(x:List Rat):Rat:=evQ ⟨f.ts,0⟩ x
noncomputable def dB(p:Prop):Bool:=@decide p (Classical.propDecidable _)
def dB_true  : dB p=true↔p:=by simp[dB]
def dB_false  : dB p=false↔¬ p:=by simp[dB]
def fP  (h:p):true=dB p:=(dB_true.2 h).symm
def aO  (h:¬ p):false=dB p:=(dB_false.2 h).symm
instance:DecidableEq TermL:=fun a b=>decidable_of_iff (a.var=b.var/\a.coef=b.coef) (by cases a;cases b;simp)
instance:DecidableEq AffL:=fun a b=>decidable_of_iff (a.terms=b.terms/\a.const=b.const) (by cases a;cases b;simp)
structure RegL where
 lo:List RatL
 hi:List RatL
 rows:List AffL
 deriving Inhabited
variable {k j:Nat}{l:List RatL}{i:Nat}{fn:Fn}
def kX(r:RegL):PV:=.agg [.imm (r.lo.map zR),.imm (r.hi.map zR),.imm (r.rows.map x8)]
def cT(k:Nat)(l:List RatL):Prop:=l.length<=1048576/\∀ x∈l,okQ k x
def aP(k:Nat)(r:RegL):Prop:=cT k r.lo/\cT k r.hi/\(∀ f∈r.rows,okA k f)/\r.rows.length<=1048576
def WK  (h:j<=k)  (hl:cT j l):cT k l:=⟨hl.1,fun x hx=>Bf h (hl.2 x hx)⟩
def cV   (h:cT k l)  (hi:i<l.length):okQ k l[i]! := by
 rw[zS l i hi];exact h.2 _ (wA hi)
def qP  (h:j<=k){f:AffL}(hf:okA j f):okA k f:=⟨Bf h hf.1,fun t ht=>Bf h (hf.2.1 t ht),hf.2.2⟩
variable {r:RegL}
def PW  (h:j<=k)  (hr:aP j r):aP k r:=⟨WK h hr.1,WK h hr.2.1,fun f hf=>qP h (hr.2.2.1 f hf),hr.2.2.2⟩
def vX1   (h:aP k r)  (hi:i<r.rows.length):okA k r.rows[i]! := by
 rw[zS r.rows i hi];exact h.2.2.1 _ (wA hi)
def Hj(r:RegL)(i:Nat):Prop:=r.lo[i]! = cr (qv r.lo[i]!)/\r.hi[i]! = cr (qv r.hi[i]!)/\qv r.lo[i]! <= qv r.hi[i]!
def VaR(r:RegL)(n:Int):Prop:=(1<=n/\n<=256)/\(r.lo.length:Int)=n/\(r.hi.length:Int)=n/\r.rows.length<=256/\(∀ i,i<r.lo.length->Hj r i)/\∀ i,i<r.rows.length->uQ r.rows[i]! n
def VaO(r:RegL):Prop:=VaR r r.lo.length
def uQ9  {n:Int}(h:VaR r n):VaO r:=by
 have e:=h.2.1;subst e;exact h
def vMV   (hi:i<l.length):(l.map qv)[i]! = qv l[i]! := by
 rw[zS (l.map qv) i (by simpa using hi),zS l i hi];simp
def WL{l:List Rat}  (hi:i<l.length):(l.map cr)[i]! = cr l[i]! := by
 rw[zS (l.map cr) i (by simpa using hi),zS l i hi];simp
def fQ(a b:Rat):Rat:=if b<=a then a else b
def sgn_ge{a b:Rat}:0<=xQ (a-b)↔b<=a:=by
 have:=sgnQ_neg (q:=a-b);constructor
 .intro h;exact mX.1 fun e=>by have:=this.2 (by grind);omega
 .intro h;exact Jh.1 fun e=>by have:=this.1 e;grind
def sgn_le{a b:Rat}:xQ (a-b)<=0↔a<=b:=by
 have:=sgnQ_pos (q:=a-b);constructor
 .intro h;exact mX.1 fun e=>by have:=this.2 (by grind);omega
 .intro h;exact Jh.1 fun e=>by have:=this.1 e;grind
def sgn_gt{a b:Rat}:0<xQ (a-b)↔b<a:=by rw[sgnQ_pos];constructor<;>intro h<;>grind
def sgn_lt{a b:Rat}:xQ (a-b)<0↔a<b:=by rw[sgnQ_neg];constructor<;>intro h<;>grind
def Kh(k:Nat)(l:List AffL):Prop:=l.length<=1048576/\∀ f∈l,okA k f
def WM{ρ:Nat->Nat}  {t:Tm}   {c:PV}{o:Nat}(h:t j=.func fn [] [.cptr c o]):at' ρ k t j (.func fn [] [.cptr c o]):=by unfold at';rw[h];exact⟨rfl,zA,rfl,zA⟩
def WN{ρ:Nat->Nat}  {t:Tm}   {c d e:PV}{o q r:Nat}(h:t j=.func fn [] [.cptr c o,.cptr d q,.cptr e r]):at' ρ k t j (.func fn [] [.cptr c o,.cptr d q,.cptr e r]):=by unfold at';rw[h];exact⟨rfl,zA,rfl,rfl,rfl,zA⟩
def cW{ρ:Nat->Nat}  {t:Tm}   (h:t j=.func fn [] []):at' ρ k t j (.func fn [] []):=by unfold at';rw[h];exact⟨rfl,zA,zA⟩
def Hl(r:RegL)(x:List RatL):Prop:=VaO r/\x.length=r.lo.length/\(∀ i,i<x.length->qv r.lo[i]! <= qv x[i]! /\ qv x[i]! <= qv r.hi[i]!)/\∀ i,i<r.rows.length->0<=evQ r.rows[i]!.Q (x.map qv)
def jZ{k:Nat}{f:AffL}(h:okA k f)(hk:1<=k):szF k f.Q:=by
 refine⟨kT h.1.1 h.1.2.1 h.1.2.2 hk,fun p hp=>?_⟩;unfold AffL.Q at hp;obtain⟨t,ht,rfl⟩:=zW.1 hp;have:=h.2.1 t ht;exact kT this.1 this.2.1 this.2.2 hk
def fR(f:AffL):f.Q.ts.length=f.terms.length:=by simp[AffL.Q]
def uR{α:Type}[Inhabited α]{f:Nat->α}{n i:Nat}(h:i<n):((List.range n).map f)[i]! = f i:=by
 rw[zS _ i (by simpa using h)];simp
variable {l:List Int}{a:Nat}
def Hm(l:List Int):Prop:=l.length<=1048576/\∀ x∈l,0<=x/\x<256
def fdB(l:List Int)(a:Nat):Blk:=⟨[.agg [.imm (l.map (.int .u8)),.int .i64 a]],2,true⟩
def nx1(l:List Int)(a n:Nat):Nat:=if a<l.length then l[a]!.toNat%n else 0
def nx2(l:List Int)(a:Nat):Nat:=if a<l.length then a+1 else a
def cZ  {n:Nat}(h:0<n):nx1 l a n<n:=by unfold nx1;split;exact nZ _ h;exact h
def mJ   (h:a<=l.length):nx2 l a<=l.length:=by unfold nx2;split<;>omega
def Bh(k:Nat):Nat:=if k<2 then 1 else if k=2 then 2 else 4
def uGO(k:Nat):Bh k≠0:=by unfold Bh;split;decide;split<;>decide
def qE(l:List Int)(a:Nat):Rat:=mkRat ((nx1 l a 9:Int)-4) (Bh (nx1 l (nx2 l a) 4))
def kY(l:List Int)(a:Nat):Nat:=nx2 l (nx2 l a)
def Ho   (h:a<=l.length):kY l a<=l.length:=mJ (mJ h)
def Bi(l:List Int)(a:Nat):sz 1 (qE l a):=by
 have h1:=cZ (l:=l) (a:=a) (n:=9) zdd;refine El (uGO _) ?_ ?_
 .exact nB (show _<=9 by omega) (by decide +kernel)
 .exact nB (show _<=4 by unfold Bh;split;decide;split<;>decide) (by decide +kernel)
def yK(v:Int):QF:=⟨[(v,1)],0⟩
def Ki(v:Int):Srt (yK v).ts:=by
 rw[show(yK v).ts=(v,1)::[] from rfl,srt_cons];exact⟨fun q hq=>(by cases hq),(show(1:Rat)≠0 by decide +kernel),pV⟩
def Bj(v:Int):szF 1 (yK v):=by
 refine⟨(cQ 1 zdd).1,fun p hp=>?_⟩;have e:p=(v,1):=yG.1 hp;rw[e];exact pX (z:=1) zdd
def fS(l:List Int)(v:Nat)(s:QF×Nat):QF×Nat :=
 if 0<nx1 l s.2 3 then(yA s.1 (yK v) (qE l (nx2 l s.2)),kY l (nx2 l s.2)) else(s.1,nx2 l s.2)
def wM(l:List Int)(a:Nat):Nat->QF×Nat
 |0=>(⟨[],qE l a⟩,kY l a)
 |n+1=>fS l n (wM l a n)
def Bl{l:List Int}{a:Nat}(ha:a<=l.length):∀ n:Nat,okF n (wM l a n).1/\szF (1+3*n) (wM l a n).1/\(wM l a n).1.ts.length<=n/\(wM l a n).2<=l.length
 |0=>⟨⟨pV,fun t ht=>by cases ht⟩,⟨Bi l a,fun p hp=>by cases hp⟩,zX _,Ho ha⟩
 | n + 1=>by
   obtain⟨⟨h1,h2⟩,h3,h4,h5⟩:=Bl ha n;show okF _ (fS l n (wM l a n)).1/\szF _ (fS l n (wM l a n)).1/\(fS l n (wM l a n)).1.ts.length<=_/\(fS l n (wM l a n)).2<=_
   generalize wM l a n=s at *
   unfold fS
   split
   .refine⟨⟨aN h1 (Ki n),fun t ht=>?_⟩,cN h3 (Bj n) (Bi l _) zom,?_,Ho (mJ h5)⟩
    .rcases pW _ _ _ _ (zX _) t ht with⟨p,hp,e⟩|⟨p,hp,e⟩
     .have:=h2 p hp;omega
     .have:p=((n:Int),(1:Rat)):=yG.1 hp
      subst this;simp only at e;omega
    .have:(yA s.1 (yK n) (qE l (nx2 l s.2))).ts.length<=s.1.ts.length+(yK n).ts.length:=Kc
     have e:(yK n).ts.length=1:=rfl;show(yA s.1 (yK n) (qE l (nx2 l s.2))).ts.length<=_
     omega
   .exact⟨⟨h1,fun t ht=>by have:=h2 t ht;omega⟩,rX zom h3,by show s.1.ts.length<=_;omega,mJ h5⟩
def aQ(q:Rat):RatL:=⟨false,(cr q).num,(cr q).den⟩
def WO(q:Rat):okR (aQ q):=yH q
def uQ8(q:Rat):0<=qv (aQ q):=mX.1 fun h=>by
 have h1:=sgnQ_neg.2 h;rw[KY]at h1;have:0<=sg (aQ q).neg (nv (aQ q).num):=by unfold sg aQ;simp
 obtain⟨n,hn⟩:=M0 this;rw[hn]at h1;cases n<;>simp[Int.sign]at h1
def bdA(l:List Int)(a:Nat):Nat->Nat
 |0=>a
 |n+1=>kY l (kY l (bdA l a n))
def loI(l:List Int)(a n:Nat):List Rat:=(List.range n).map fun i=>qE l (bdA l a i)
def hiI(l:List Int)(a n:Nat):List Rat:=(List.range n).map fun i=>qE l (bdA l a i)+qv (aQ (qE l (kY l (bdA l a i))))
def Hr{l:List Int}{a:Nat}(h:a<=l.length):∀ n,bdA l a n<=l.length
 |0=>h
 |n+1=>Ho (Ho (Hr h n))
def rwA(l:List Int)(a m:Nat):Nat->Nat
 |0=>a
 |n+1=>(wM l (rwA l a m n) m).2
def rwI(l:List Int)(a m n:Nat):List QF:=(List.range n).map fun i=>(wM l (rwA l a m i) m).1
def DG{l:List Int}{a m:Nat}(h:a<=l.length):∀ n,rwA l a m n<=l.length
 |0=>h
 |n+1=>(Bl (DG h n) m).2.2.2
def rZ(l:List Int)(a m:Nat):RegL:=⟨(loI l a m).map cr,(hiI l a m).map cr,(rwI l (nx2 l (bdA l a m)) m (nx1 l (bdA l a m) 3)).map QF.L⟩
def DI(l:List Int)(a m:Nat):Nat:=rwA l (nx2 l (bdA l a m)) m (nx1 l (bdA l a m) 3)
def uQ7(l:List Int)(a:Nat):sz 1 (qv (aQ (qE l a))):=by
 have:=yO (Bi l a);exact kT (WO _) this.1 this.2 zdd
def PX  {m n:Nat}(h:a<=l.length){f:QF}(hf:f∈rwI l a m n):okF m f/\szF (1+3*m) f/\f.ts.length<=m:=by
 unfold rwI at hf;obtain⟨i,hi,rfl⟩:=zW.1 hf;have:=Bl (DG h i (m:=m)) m;exact⟨this.1,this.2.1,this.2.2.1⟩
def WP  {m:Nat}(h:a<=l.length)(hm:1<=m)(hm2:m<=8):VaR (rZ l a m) m/\aP 30 (rZ l a m)/\(rZ l a m).lo.length=m/\(rZ l a m).hi.length=m/\(rZ l a m).rows.length<=2/\∀ f∈(rZ l a m).rows,f.terms.length<=m:=by
 have hr:=DG (m:=m) (mJ (Hr h m));have h3:=cZ (l:=l) (a:=bdA l a m) (n:=3) zdd;have e1:(rZ l a m).lo.length=m:=by simp[rZ,loI]
 have e2:(rZ l a m).hi.length=m:=by simp[rZ,hiI]
 have e3:(rZ l a m).rows.length=nx1 l (bdA l a m) 3:=by simp[rZ,rwI]
 have hrow:∀ f∈(rZ l a m).rows,∃ g,f=g.L/\okF m g/\szF (1+3*m) g/\g.ts.length<=m:=fun f hf=>by
  obtain⟨g,hg,rfl⟩:=zW.1 hf;exact⟨g,rfl,PX (mJ (Hr h m)) hg⟩
 refine⟨⟨⟨zom,zom⟩,zom,zom,zom,fun i hi=>?_,fun i hi=>?_⟩,⟨⟨zom,fun x hx=>?_⟩,⟨zom,fun x hx=>?_⟩,fun f hf=>?_,zom⟩,e1,e2,zom,fun f hf=>?_⟩
 .have hi:i<m:=zom
  unfold Hj rZ;dsimp only;have a1:i<(loI l a m).length:=by simpa [loI]using hi
  have a2:i<(hiI l a m).length:=by simpa [hiI]using hi
  rw[WL a1,WL a2];simp only[yC];refine⟨zA,zA,?_⟩;unfold loI hiI;rw[uR hi,uR hi];have:=uQ8 (qE l (kY l (bdA l a i)))
  grind
 .obtain⟨g,e,hg,_⟩:=hrow (rZ l a m).rows[i]! (by rw[zS _ i hi];exact wA hi)
  rw[e];exact DF hg
 .unfold rZ loI at hx
  simp only[qC,zW,yN,Function.comp]at hx;obtain⟨i,hi,rfl⟩:=hx;exact kW (xV zdd (Bi l _))
 .unfold rZ hiI at hx
  simp only[qC,zW,yN,Function.comp]at hx;obtain⟨i,hi,rfl⟩:=hx;exact kW (xV zdd (pU (Bi l _) (uQ7 l _)))
 .obtain⟨g,rfl,_,h4,h5⟩:=hrow f hf
  exact Eu (rX zom h4) zom
 .obtain⟨g,rfl,_,h4,h5⟩:=hrow f hf
  simpa [QF.L]using h5
def dot(x:List Rat):List QT->Rat
 |[]=>0
 |t::l=>t.2*x[t.1.toNat]! + dot x l
def WQ(x:List Rat):∀ (l:List QT) (y:Rat),ev1 x l y=y+dot x l
 |[],y=>by simp only[ev1,List.foldl_nil,dot];grind
 | t::l,y=>by
   have e:ev1 x (t::l) y=ev1 x l (y+t.2*x[t.1.toNat]!):=rfl;rw[e,WQ x l];simp only[dot];grind
def Ev(x:List Rat):∀ (a b:List QT),dot x (a++b)=dot x a+dot x b
 |[],b=>by simp only[List.nil_append,dot];grind
 |t::a,b=>by simp only[List.cons_append,dot,Ev x a b];grind
def Ht(x:List Rat)(v:Int)(c:Rat):dot x (nzq v c)=c*x[v.toNat]! := by
 unfold nzq;split
 .rename_i h;subst h;simp only[dot];grind
 .simp only[dot];grind
def DJ(x:List Rat)(c:Rat):∀ (n:Nat) (a b:List QT),a.length+b.length<=n->dot x (mrg c a b)=dot x a+c*dot x b
 |n,[],[],_=>by rw[mrg];simp only[dot];grind
 |0,_::_,_,h=>by simp at h
 |0,_,_::_,h=>by simp at h
 | n+1,p::a,[],hn=>by
   rw[mrg,Ev,Ht,DJ x c n a [] (by simp at hn ⊢;omega)];simp only[dot];grind
 | n+1,[],q::b,hn=>by
   rw[mrg,Ev,Ht,DJ x c n [] b (by simp at hn ⊢;omega)];simp only[dot];grind
 | n + 1,p::a,q::b,hn=>by
   simp only[List.length_cons]at hn;rw[mrg]
   split
   .rw[Ev,Ht,DJ x c n a (q::b) yE];simp only[dot];grind
   .split
    .rw[Ev,Ht,DJ x c n (p::a) b yE];simp only[dot];grind
    .have he:p.1=q.1:=zom
     rw[Ev,Ht,DJ x c n a b zom];simp only[dot,he];grind
def mK(f:QF)(x:List Rat):evQ f x=f.c+dot x f.ts:=WQ x f.ts f.c
def WR(f:QF)(x:List Rat):Bg f x=dot x f.ts:=by unfold Bg;rw[mK];grind
def j5(x:List Rat)(f g:QF)(c:Rat):evQ (yA f g c) x=evQ f x+c*evQ g x:=by
 simp only[mK,yA,DJ x c _ _ _ (zX _)];grind
def vSV(x:List Rat)(f g:QF)(c:Rat):Bg (yA f g c) x=Bg f x+c*Bg g x:=by
 simp only[WR,yA,DJ x c _ _ _ (zX _)]
def PY{f:QF}(h:f.ts=[])(x:List Rat):evQ f x=f.c:=by rw[mK,h];simp only[dot];grind
def aR(x:List Rat):evQ zeroQ x=0:=PY rfl x
structure GraL where
 ins:Int
 units:List AffL
 outs:List AffL
 deriving Inhabited
variable {x:List Rat}{vars:List QF}
def sD(g:GraL):PV:=.agg [.int .i64 g.ins,.imm (g.units.map x8),.imm (g.outs.map x8)]
def j6(k:Nat)(g:GraL):Prop:=Kh k g.units/\Kh k g.outs
def VaG(g:GraL):Prop:=(1<=g.ins/\g.ins<=256)/\g.units.length<=1024/\(1<=g.outs.length/\g.outs.length<=256)/\(∀ j,j<g.units.length->uQ g.units[j]! (g.ins+j))/\∀ i,i<g.outs.length->uQ g.outs[i]! (g.ins+g.units.length)
def uWO(vs:List Rat)(u:QF):List Rat:=vs++[fQ 0 (evQ u vs)]
def vB(us:List QF)(x:List Rat)(j:Nat):List Rat:=(us.take j).foldl uWO x
def Kj(us:List QF)(x:List Rat):vB us x 0=x:=by simp[vB]
def Hu{us:List QF}  {j:Nat}(h:j<us.length):vB us x (j+1)=vB us x j++[fQ 0 (evQ us[j]! (vB us x j))]:=by
 unfold vB;rw[tO h,dF,zS us j h];rfl
def PZ{us:List QF}{x:List Rat}:∀ j,j<=us.length->(vB us x j).length=x.length+j
 |0,_=>by rw[Kj];rfl
 |j+1,h=>by rw[Hu zom,xR,PZ j zom];simp;omega
def WS{n:Int}{x y:List Rat}(hn:n<=x.length):∀ (l:List QT),(∀ t∈l,0<=t.1/\t.1<n)->dot (x++y) l=dot x l
 |[],_=>rfl
 | t::l,h=>by
   have h1:=h t zsm;simp only[dot,WS hn l fun q hq=>h q (by simp[hq])];rw[zS (x++y) t.1.toNat yE,zS x t.1.toNat zom,iJ]
def Ew{n:Int}{f:QF}{y:List Rat}(hn:n<=x.length)(hf:okF n f):evQ f (x++y)=evQ f x:=by
 rw[mK,mK,WS hn _ hf.2]
def uS(us:List QF)(x:List Rat):List Rat:=(List.range us.length).map fun j=>evQ us[j]! (vB us x j)
def Ex(us:List QF)(x:List Rat):(uS us x).length=us.length:=by simp[uS]
def Hv{us:List QF}  {j:Nat}(h:j<us.length):(uS us x)[j]! = evQ us[j]! (vB us x j):=by unfold uS;rw[uR h]
def qQ(κ:Nat->Nat):Nat->Nat->Nat
 |_,0=>0
 |a,n+1=>κ a+qQ κ (a+1) n
def WT(κ:Nat->Nat):∀ (m a n:Nat),qQ κ a (m+n)=qQ κ a m+qQ κ (a+m) n
 |0,a,n=>by simp[qQ]
 | m+1,a,n=>by
   rw[show m+1+n=(m+n)+1 by omega,qQ,qQ,WT κ m (a+1) n,show a+1+m=a+(m+1) by omega];omega
def Hy(κ:Nat->Nat):∀ (l:List QT) (a n:Nat),l.Pairwise (fun p q=>p.1<q.1)->(∀ t∈l,(a:Int)<=t.1/\t.1<(a+n:Nat))->(l.map fun t=>κ t.1.toNat).sum<=qQ κ a n
 |[],_,_,_,_=>by simp
 | t::l,a,n,hp,h=>by
   obtain⟨h1,h2⟩:=h t zsm;rw[JV]at hp;obtain⟨v,hv⟩:∃ v:Nat,t.1=v:=⟨t.1.toNat,zom⟩;obtain⟨d,rfl⟩:∃ d,v=a+d:=⟨v-a,zom⟩;obtain⟨m,rfl⟩:∃ m,n=d+(m+1):=⟨n-d-1,zom⟩
   have ih:=Hy κ l (a+d+1) m hp.2 fun q hq=>by
    have e1:=hp.1 q hq;have e2:=(h q (by simp[hq])).2;omega
   rw[WT,qQ,uW,List.sum_cons,hv];simp only[Int.toNat_natCast];omega
def phase(p:Rat):Int:=if 0<p then 1 else if p<0 then 2 else 0
def vQ(f:QF)(vars:List QF):QF:=f.ts.foldl (fun o t=>yA o vars[t.1.toNat]! t.2) ⟨[],f.c⟩
def mL(f:QF)(vars:List QF)(i:Nat):QF:=(f.ts.take i).foldl (fun o t=>yA o vars[t.1.toNat]! t.2) ⟨[],f.c⟩
def Pd{f:QF}  {i:Nat}(h:i<f.ts.length):mL f vars (i+1)=yA (mL f vars i) vars[f.ts[i]!.1.toNat]! f.ts[i]!.2:=by
 unfold mL;rw[tO h,dF,zS f.ts i h];rfl
def Pe(f:QF)(vars:List QF):mL f vars f.ts.length=vQ f vars:=by unfold mL vQ;rw[kK]
def lY(n:Nat):List QF:=(List.range n).map fun(i:Nat)=>⟨[((i:Int),1)],0⟩
def xA(us:List QF)(n:Nat)(ph:List Int):Nat->List QF
 |0=>lY n
 |j+1=>xA us n ph j++[if ph[j]! = 2 then zeroQ else vQ us[j]! (xA us n ph j)]
def mM(us:List QF)(n:Nat)(ph:List Int):∀ j,(xA us n ph j).length=n+j
 |0=>by simp[xA,lY]
 |j+1=>by simp only[xA,xR,mM us n ph j,List.length_cons,List.length_nil];omega
def p9(us:List QF)(n:Nat)(ph:List Int):List QF:=(List.range us.length).map fun j=>vQ us[j]! (xA us n ph j)
def DK(n:Nat)(κ:Nat->Nat)(vars:List QF):Prop:=∀ v,v<vars.length->okF n vars[v]! /\ szF (κ v) vars[v]! /\ vars[v]!.ts.length<=n
def aS{l:List QT}(n:Nat)(h:l.Pairwise (fun p q=>p.1<q.1))(hv:∀ t∈l,0<=t.1/\t.1<n):l.length<=n:=by
 have:=Hy (fun _=>1) l 0 n h fun t ht=>by have:=hv t ht;omega
 have e:∀ a m,qQ (fun _=>1) a m=m:=by
  intro a m
  induction m generalizing a with
  |zero=>rfl
  |succ m ih=>rw[qQ,ih];omega
 rw[e]at this
 have e2:(l.map fun _=>1).sum=l.length:=by
  clear this h hv
  induction l with
  |nil=>rfl
  |cons a l ih=>rw[uW,List.sum_cons,ih,List.length_cons];omega
 omega
def Pf{n:Nat}{κ:Nat->Nat}{vars:List QF}{f:QF}{k:Nat}(hv:DK n κ vars)(hf:szF k f)(ho:okF vars.length f):∀ i,i<=f.ts.length ->
 okF n (mL f vars i)/\szF (k+((f.ts.take i).map fun t=>κ t.1.toNat+k+1).sum) (mL f vars i)/\(mL f vars i).ts.length<=n
 |0,_=>⟨⟨pV,fun t ht=>by cases ht⟩,⟨xV zom hf.1,fun p hp=>by cases hp⟩,z8 _⟩
 | i + 1,h=>by
   obtain⟨h1,h2,h3⟩:=Pf hv hf ho i zom;have hm:f.ts[i]! ∈ f.ts:=by rw[zS f.ts i zom];exact wA _
   have ht:=ho.2 _ hm;obtain⟨g1,g2,g3⟩:=hv f.ts[i]!.1.toNat zom;rw[Pd zom]
   have hok:okF n (yA (mL f vars i) vars[f.ts[i]!.1.toNat]! f.ts[i]!.2):=by
    refine⟨aN h1.1 g1.1,fun t ht=>?_⟩;rcases pW _ _ _ _ (zX _) t ht with⟨p,hp,e⟩|⟨p,hp,e⟩
    .have:=h1.2 p hp;omega
    .have:=g1.2 p hp;omega
   refine⟨hok,?_,aS n hok.1.1 hok.2⟩;refine rX ?_ (cN h2 g2 (hf.2 _ hm) (zX _));rw[tO zom,wB,List.sum_append,<- zS f.ts i zom]
   simp
   omega
def Kk{n:Nat}{κ:Nat->Nat}  {f:QF}{k:Nat}(hv:DK n κ vars)(hf:szF k f)(ho:okF vars.length f) :
 okF n (vQ f vars)/\szF (k+qQ (fun v=>κ v+k+1) 0 vars.length) (vQ f vars)/\(vQ f vars).ts.length<=n:=by
 obtain⟨h1,h2,h3⟩:=Pf hv hf ho f.ts.length (zX _);rw[Pe]at h1 h2 h3;rw[kK]at h2;refine⟨h1,rX ?_ h2,h3⟩;have:=Hy (fun v=>κ v+k+1) f.ts 0 vars.length ho.1.1 fun t ht=>by have:=ho.2 t ht;omega
 omega
def WU{x:List Rat}{vars:List QF}:∀ (l:List QT) (o:QF),(∀ t∈l,0<=t.1/\t.1<vars.length)->evQ (l.foldl (fun o t=>yA o vars[t.1.toNat]! t.2) o) x=evQ o x+dot (vars.map fun f=>evQ f x) l
 |[],o,_=>by simp only[List.foldl_nil,dot];grind
 | t::l,o,h=>by
   have ht:=h t zsm;rw[List.foldl_cons,WU l _ fun q hq=>h q (by simp[hq]),j5];simp only[dot]
   have e:(vars.map fun f=>evQ f x)[t.1.toNat]! = evQ vars[t.1.toNat]! x:=by
    rw[zS _ _ yE,zS vars _ zom];simp
   rw[e];grind
def Hz   {f:QF}(h:okF vars.length f):evQ (vQ f vars) x=evQ f (vars.map fun f=>evQ f x):=by
 unfold vQ;rw[WU f.ts _ h.2,PY rfl,mK f]
def GraL.us(g:GraL):List QF:=g.units.map AffL.Q
variable {a:Rat}
def Agree(of p:Int):Prop:=of=0\/of=p
def WV  : phase a=0↔a=0:=by
 unfold phase;split
 .rename_i h;constructor<;>intro e
  .omega
  .grind
 .split
  .rename_i h;constructor<;>intro e
   .omega
   .grind
  .constructor<;>intro e
   .grind
   .rfl
def vV5  : phase a=1↔0<a:=by
 unfold phase;split
 .rename_i h;exact⟨fun _=>h,fun _=>rfl⟩
 .rename_i h;split
  .exact⟨fun e=>by omega,fun e=>absurd e h⟩
  .exact⟨fun e=>by omega,fun e=>absurd e h⟩
def vV4  : phase a=2↔a<0:=by
 unfold phase;split
 .rename_i h;exact⟨fun e=>by omega,fun e=>by grind⟩
 .split
  .rename_i h;exact⟨fun _=>h,fun _=>rfl⟩
  .rename_i h;exact⟨fun e=>by omega,fun e=>absurd e h⟩
def agree_on  : Agree (phase a) 1↔0<=a:=by
 unfold Agree;rw[WV,vV5];constructor<;>intro h<;>grind
def agree_off  : Agree (phase a) 2↔a<=0:=by
 unfold Agree;rw[WV,vV4];constructor<;>intro h<;>grind
section
variable {us:List QF} {x:List Rat} {ph:List Int} {n:Nat}
def AgN(us:List QF)(x:List Rat)(ph:List Int)(j:Nat):Prop:=∀ i,i<j->Agree (phase (uS us x)[i]!) ph[i]!
def Pg(hx:x.length=n)(hu:∀ j,j<us.length->okF (n+j:Nat) us[j]!)(hp:∀ j,j<us.length->ph[j]! = 1\/ph[j]! = 2):∀ j,j<=us.length->AgN us x ph j->(xA us n ph j).map (fun f=>evQ f x)=vB us x j
 | 0,_,_=>by
   rw[Kj];simp only[xA,lY,qC];refine vE (by simp[hx]) fun i h1 h2=>?_
   have h3:i<n:=by simpa using h1
   simp only[vS,oQ,Function.comp];rw[mK];simp only[dot];rw[show((i:Int)).toNat=i from rfl,zS x i zom];grind
 | j+1,h,ha=>by
   have ih:=Pg hx hu hp j zom fun i hi=>ha i zom
   rw[Hu zom];simp only[xA,wB,uW,kO,ih]
   congr 2
   have hag:=ha j zom;rw[Hv zom]at hag;have hl:=mM us n ph j
   have hv:evQ (vQ us[j]! (xA us n ph j)) x=evQ us[j]! (vB us x j):=by
    rw[Hz (by rw[hl];exact hu j zom),ih]
   rcases hp j zom with e|e
   .rw[e]at hag ⊢
    rw[zB zdd,hv];have:=agree_on.1 hag;unfold fQ;split<;>grind
   .rw[e]at hag ⊢
    rw[zE rfl,aR];have:=agree_off.1 hag;unfold fQ;split<;>grind
def nN(us:List QF)(n:Nat)(ph:List Int)(j:Nat):QF:=if ph[j]! = 2 then yA zeroQ (vQ us[j]! (xA us n ph j)) (-1) else vQ us[j]! (xA us n ph j)
def WW(hx:x.length=n)(hu:∀ j,j<us.length->okF (n+j:Nat) us[j]!)(hp:∀ j,j<us.length->ph[j]! = 1\/ph[j]! = 2){j:Nat}(h:j<us.length)(ha:AgN us x ph j):0<=evQ (nN us n ph j) x↔Agree (phase (uS us x)[j]!) ph[j]! := by
 have ih:=Pg hx hu hp j zom ha;have hl:=mM us n ph j
 have hv:evQ (vQ us[j]! (xA us n ph j)) x=evQ us[j]! (vB us x j):=by
  rw[Hz (by rw[hl];exact hu j zom),ih]
 rw[Hv h];unfold nN;rcases hp j h with e|e
 .rw[e,zB zdd,hv,agree_on]
 .rw[e,zE rfl,j5,aR,hv,agree_off]
  constructor<;>intro h<;>grind
def vSO(hx:x.length=n)(hu:∀ j,j<us.length->okF (n+j:Nat) us[j]!)(hp:∀ j,j<us.length->ph[j]! = 1\/ph[j]! = 2):(∀ j,j<us.length->0<=evQ (nN us n ph j) x)↔AgN us x ph us.length:=by
 constructor
 .intro h
  have:∀ m,m<=us.length->AgN us x ph m:=by
   intro m
   induction m with
   |zero=>intro _ i hi;omega
   | succ m ih =>
     intro hm i hi;have hm':=ih zom;by_cases e:i=m
     .subst e;exact(WW hx hu hp zom hm').1 (h i zom)
     .exact hm' i zom
  exact this _ (zX _)
 .intro h j hj
  exact(WW hx hu hp hj fun i hi=>h i zom).2 (h j hj)
end
section
variable {us:List QF} {n:Nat} {p:List Int} {x:List Rat}
def vTH(n K:Nat)(hK:1<=K):okF n zeroQ/\szF K zeroQ/\zeroQ.ts.length<=n:=⟨⟨pV,fun t ht=>by cases ht⟩,cQ K hK,z8 _⟩
end
structure QryL where
 g:GraL
 r:RegL
 goal:AffL
 deriving Inhabited
variable {g:QF}
def kZ(q:QryL):PV:=.agg [.int .i64 q.g.ins,.imm (q.g.units.map x8),.imm (q.g.outs.map x8),.imm (q.r.lo.map zR),.imm (q.r.hi.map zR),.imm (q.r.rows.map x8),.imm (q.goal.terms.map mI),.bool q.goal.const.neg,zQ q.goal.const.num,zQ q.goal.const.den]
structure ScpL where
 q:QryL
 path:List DecL
 lems:List LemL
 deriving Inhabited
def xY(s:ScpL):PV:=.agg [.int .i64 s.q.g.ins,.imm (s.q.g.units.map x8),.imm (s.q.g.outs.map x8),.imm (s.q.r.lo.map zR),.imm (s.q.r.hi.map zR),.imm (s.q.r.rows.map x8),.imm (s.q.goal.terms.map mI),.bool s.q.goal.const.neg,zQ s.q.goal.const.num,zQ s.q.goal.const.den,.imm (s.path.map tZ),.imm (s.lems.map O5)]
def VaQ(q:QryL):Prop:=VaG q.g/\VaR q.r q.g.ins/\uQ q.goal (q.g.ins+q.g.units.length)
def bA(c:Rat):QF:=⟨[],c⟩
def Kl(f g:QF):QF:=yA f g (-1)
def Ph(f:QF)(c:Rat):QF:=yA zeroQ f c
def uSK{f:QF}(hf:Srt f.ts)(hg:Srt g.ts)(h:∀ v,cf f.ts v=cf g.ts v)(hc:f.c=g.c):f=g:=by
 cases f;cases g
 simp only at *
 rw[HZ hf hg h,hc]
def uG6{f:QF}{c:Rat}(hf:Srt f.ts)(hg:Srt g.ts)(v:Int):cf (yA f g c).ts v=cf f.ts v+cf g.ts v*c:=(cL c _ f.ts g.ts (zX _) hf hg).2 v
def uQT(f g:QF)(c:Rat):(yA f g c).c=f.c+g.c*c:=rfl
def uPX(v:Int):cf zeroQ.ts v=0:=rfl
def WX:Srt zeroQ.ts:=pV
def uK8(v:Int):Srt (yK v).ts:=Ki v
def Km(r:RatL):Prop:=r.neg=false/\r.num.length=0/\r.den.length=0
def uYV(r:RatL):Prop:=r=cr (qv r)
def Bm(q:QryL)(d:DecL):Prop:=((d.kind=1\/d.kind=2)/\0<=d.index/\d.index<q.g.units.length/\Km d.rat)\/((d.kind=3\/d.kind=4)/\0<=d.index/\d.index<q.g.ins/\uYV d.rat)
def uRU{n v:Int}(h0:0<=v)(h:v<n):okF n (yK v):=⟨uK8 v,fun t ht=>by
 have:t=(v,1):=yG.1 ht
 subst this;exact⟨h0,h⟩⟩
def Kn{n:Int}{f:QF}{c:Rat}(hf:okF n f)(hg:okF n g):okF n (yA f g c):=⟨aN hf.1 hg.1,fun t ht=>by
 rcases pW _ _ _ _ (zX _) t ht with⟨p,hp,e⟩|⟨p,hp,e⟩
 .have:=hf.2 p hp;omega
 .have:=hg.2 p hp;omega⟩
def WY(n:Int):okF n zeroQ:=⟨pV,fun t ht=>by cases ht⟩
def Pi{m n:Int}{f:QF}(h:m<=n)(hf:okF m f):okF n f:=⟨hf.1,fun t ht=>by have:=hf.2 t ht;omega⟩
def usQ(q:QryL):List QF:=q.g.units.map AffL.Q
def oW(q:QryL):(usQ q).length=q.g.units.length:=by simp[usQ]
def Pj{q:QryL}{j:Nat}(h:j<q.g.units.length):(usQ q)[j]! = q.g.units[j]!.Q:=by
 unfold usQ;rw[zS _ j (by simpa using h),zS q.g.units j h];simp
def vlQ(q:QryL)(x:List Rat):List Rat:=vB (usQ q) x (usQ q).length
def inQ(q:QryL)(x:List Rat):Prop:=(x.length:Int)=q.g.ins/\(∀ i,i<x.length->qv q.r.lo[i]! <= x[i]! /\ x[i]! <= qv q.r.hi[i]!)/\∀ i,i<q.r.rows.length->0<=evQ q.r.rows[i]!.Q x
section
variable {S:ScpL} {x:List Rat}
end
section
variable {rows:List QF} {g:QF} {x:List Rat} {i:Nat} {lo hi:Rat}
end
section
variable {S T:ScpL}
end
instance dec_okT (ts:List TermL) (n:Int) (i:Nat):Decidable (okT ts n i):=by unfold okT;exact inferInstance
instance dec_ValidF (f:AffL) (n:Int):Decidable (uQ f n):=by unfold uQ;exact inferInstance
instance dec_VaG (g:GraL):Decidable (VaG g):=by unfold VaG;exact inferInstance
def sz1(z:Int)(h:z.natAbs<4294967296):sz 2 (z:Rat):=xV zdd (pX h)
def Ey{c:Rat}{PA PB R:Rat->Prop}(h1:∀ x,PA x->R x)(h2:∀ y,PB y->R (y*c))(h3:∀ x y,PA x->PB y->R (x+y*c)):∀ (n:Nat) (a b:List QT),a.length+b.length<=n->(∀ p∈a,PA p.2)->(∀ p∈b,PB p.2)->∀ r∈mrg c a b,R r.2
 |n,[],[],_,_,_,r,h=>by rw[mrg]at h;cases h
 |0,_::_,_,h,_,_,_,_=>by simp at h
 |0,_,_::_,h,_,_,_,_=>by simp at h
 | n+1,p::a,[],hn,ha,hb,r,h=>by
   rw[mrg,y8]at h;simp only[List.length_cons]at hn;rcases h with h|h
   .rw[lT h];exact h1 _ (ha p zsm)
   .exact Ey h1 h2 h3 n a [] (by simp at hn ⊢;omega) (fun q hq=>ha q (by simp[hq])) hb r h
 | n+1,[],q::b,hn,ha,hb,r,h=>by
   rw[mrg,y8]at h;simp only[List.length_cons]at hn;rcases h with h|h
   .rw[lT h];exact h2 _ (hb q zsm)
   .exact Ey h1 h2 h3 n [] b (by simp at hn ⊢;omega) ha (fun q hq=>hb q (by simp[hq])) r h
 | n + 1,p::a,q::b,hn,ha,hb,r,h=>by
   rw[mrg]at h;simp only[List.length_cons]at hn
   split at h
   .rcases y8.1 h with h|h
    .rw[lT h];exact h1 _ (ha p zsm)
    .exact Ey h1 h2 h3 n a (q::b) yE (fun q hq=>ha q (by simp[hq])) hb r h
   .split at h
    .rcases y8.1 h with h|h
     .rw[lT h];exact h2 _ (hb q zsm)
     .exact Ey h1 h2 h3 n (p::a) b yE ha (fun q hq=>hb q (by simp[hq])) r h
    .rcases y8.1 h with h|h
     .rw[lT h];exact h3 _ _ (ha p zsm) (hb q zsm)
     .exact Ey h1 h2 h3 n a b zom (fun q hq=>ha q (by simp[hq])) (fun q hq=>hb q (by simp[hq])) r h
def fT(n v:Nat):Nat:=if v<n then 200 else 2500*2^(v-n)
def WZ:∀ n,n<4->∀ j,j<5->200+qQ (fun v=>fT n v+200+1) 0 (n+j)<=2500*2^j:=by decide +kernel
def uTR(n j:Nat):fT n (n+j)=2500*2^j:=by unfold fT;rw[zB zom,GA]
section
variable {us:List QF} {n:Nat} {p:List Int} {x:List Rat}
def Pk(us:List QF)(n:Nat):Prop:=n<4/\us.length<5/\∀ j,j<us.length->szF 200 us[j]! /\ okF (n+j:Nat) us[j]!
def H4(h:Pk us n):∀ j,j<=us.length->DK n (fT n) (xA us n p j)
 | 0,_=>fun v hv=>by
   have hv':v<n:=by simpa [xA,lY]using hv
   have e:(xA us n p 0)[v]! = ⟨[((v:Int),1)],0⟩:=by unfold xA lY;rw[uR hv']
   rw[e];refine⟨⟨⟨JM _ _,fun t ht=>?_⟩,fun t ht=>?_⟩,⟨xV ?_ (pX (z:=0) zdd),fun t ht=>?_⟩,?_⟩
   .rw[yG.1 ht];show(1:Rat)≠0;decide
   .rw[yG.1 ht];simp only;omega
   .unfold fT;rw[zE hv'];decide
   .rw[yG.1 ht]
    exact xV (by unfold fT;rw[zE hv'];decide) (pX (z:=1) zdd)
   .simp only[List.length_singleton];omega
 | j + 1,hj=>fun v hv=>by
   have ih:=H4 h j zom;have hl:=mM us n p j;rw[mM]at hv;by_cases e:v<n+j
   .have e2:(xA us n p (j+1))[v]! = (xA us n p j)[v]! := by
     have h1:v<(xA us n p j).length:=zom
     rw[zS _ v (by rw[mM];omega),zS _ v h1];simp only[xA];rw[iJ h1]
    rw[e2];exact ih v zom
   .have e3:v=n+j:=zom
    subst e3
    have e2:(xA us n p (j+1))[n+j]! = if p[j]! = 2 then zeroQ else vQ us[j]! (xA us n p j):=by
     rw[zS _ (n+j) (by rw[mM];omega)];simp only[xA];rw[iI zom];simp[hl]
    rw[e2,uTR];have hp:1<=2^j:=Nat.one_le_two_pow
    split
    .exact vTH n _ zom
    .obtain⟨h1,h2,h3⟩:=Kk ih (h.2.2 j zom).1 (by rw[hl];exact(h.2.2 j zom).2)
     rw[hl]at h2;exact⟨h1,rX (WZ n h.1 j (by have:=h.2.1;omega)) h2,h3⟩
def Ko(h:Pk us n){j:Nat}(hj:j<=us.length):200+qQ (fun v=>fT n v+200+1) 0 (n+j)<=40000:=by
 have:=WZ n h.1 j (by have:=h.2.1;omega);have h2:2^j<=2^4:=bU zdd (by have:=h.2.1;omega);omega
end
structure smQ(q:QryL)(kg:Nat):Prop where
 va:VaQ q
 ins:q.g.ins<=3
 un:q.g.units.length<=4
 rows:q.r.rows.length<=8
 g:j6 199 q.g
 r:aP 60 q.r
 goal:okA kg q.goal
def smQ.n{q:QryL}{kg:Nat}(h:smQ q kg):∃ n:Nat,q.g.ins=(n:Int)/\1<=n/\n<=3/\q.r.lo.length=n/\q.r.hi.length=n:=by
 obtain⟨⟨h1,h2⟩,_⟩:=h.va.1;have:=h.ins;have h3:=h.va.2.1.2.1;have h4:=h.va.2.1.2.2.1;exact⟨q.g.ins.toNat,zom,zom,zom,zom,zom⟩
def smQ.us{q:QryL}{kg n:Nat}(h:smQ q kg)(hn:q.g.ins=(n:Int)):Pk (usQ q) n:=by
 have h1:=h.ins;have h2:=h.un;refine⟨zom,by rw[oW];omega,fun j hj=>?_⟩;rw[oW]at hj;rw[Pj hj];refine⟨rX zdd (jZ (h.g.1.2 _ (by rw[zS q.g.units j hj];exact wA _)) zdd),?_⟩;have:=p8 (h.va.1.2.2.2.1 j hj);rw[hn]at this
 exact_mod_cast this
def Pm(q:QryL)(x:List Rat):Rat:=evQ q.goal.Q (vlQ q x)
def Bn(q:QryL)(n:Nat)(p:List Int):List QF:=(List.range (usQ q).length).map (nN (usQ q) n p)
def l6(q:QryL)(n:Nat)(p:List Int):QF:=vQ q.goal.Q (xA (usQ q) n p (usQ q).length)
section
variable {q:QryL} {kg n:Nat} {x:List Rat}
def uN5{f:QF}{k m:Nat}(hf:szF k f)(hk:k+1<=m):szF m (yA zeroQ f (-1)):=by
 refine⟨?_,fun p hp=>?_⟩
 .show sz m (0+f.c*(-1))
  have:(0:Rat)+f.c*(-1)=- f.c:=by grind
  rw[this];exact xV zom (cE hf.1)
 .refine Ey (PA:=fun _=>False) (PB:=fun y=>sz k y) (R:=fun y=>sz m y) (c:=-1) (fun x h=>h.elim) (fun y h=>?_) (fun x y h _=>h.elim) _ _ _ (zX _) (fun p hp=>by cases hp) hf.2 p hp
  have:y*(-1)=- y:=by grind
  rw[this];exact xV zom (cE h)
def uL2(h:smQ q kg)(hn:q.g.ins=(n:Int))(p:List Int){j:Nat}(hj:j<(usQ q).length):okF n (nN (usQ q) n p j)/\szF 40001 (nN (usQ q) n p j)/\(nN (usQ q) n p j).ts.length<=n:=by
 have hu:=h.us hn;have hl:=mM (usQ q) n p j;have hk:=Ko (n:=n) hu (j:=j) zom;obtain⟨h1,h2,h3⟩:=Kk (f:=(usQ q)[j]!) (H4 (p:=p) hu j zom) (hu.2.2 j hj).1 (by rw[hl];exact(hu.2.2 j hj).2);rw[hl]at h2;unfold nN
 split
 .have hok:okF n (yA zeroQ (vQ (usQ q)[j]! (xA (usQ q) n p j)) (-1)):=⟨aN pV h1.1,fun t ht=>by
   rcases pW _ _ _ _ (zX _) t ht with⟨p,hp,e⟩|⟨p,hp,e⟩
   .cases hp
   .have:=h1.2 p hp;omega⟩
  have h4:(yA zeroQ (vQ (usQ q)[j]! (xA (usQ q) n p j)) (-1)).ts.length<=0+(vQ (usQ q)[j]! (xA (usQ q) n p j)).ts.length:=Kc;refine⟨hok,uN5 h2 zom,zom⟩
 .exact⟨h1,rX zom h2,h3⟩
def uOV(h:smQ q kg)(hn:q.g.ins=(n:Int))(hx:x.length=n){p:List Int}(hp:∀ j,j<(usQ q).length->p[j]! = 1\/p[j]! = 2)(ha:AgN (usQ q) x p (usQ q).length):evQ (l6 q n p) x=Pm q x:=by
 have hu:=h.us hn;unfold l6 Pm vlQ;rw[Hz,Pg hx (fun j hj=>(hu.2.2 j hj).2) hp _ (zX _) ha];have:=p8 h.va.2.2;rw[mM,oW];rw[hn]at this
 exact_mod_cast this
end
def smQ.bnd{q:QryL}{kg:Nat}(h:smQ q kg){i:Nat}(hi:i<q.r.lo.length):sz 60 (qv q.r.lo[i]!)/\sz 60 (qv q.r.hi[i]!)/\qv q.r.lo[i]! <= qv q.r.hi[i]! /\ q.r.lo[i]! = cr (qv q.r.lo[i]!)/\q.r.hi[i]! = cr (qv q.r.hi[i]!):=by
 have hb:=h.va.2.1.2.2.2.2.1 i hi;have h1:=cV h.r.1 hi;have h2:=cV h.r.2.1 (i:=i) (by have:=h.va.2.1.2.1;have:=h.va.2.1.2.2.1;omega);exact⟨kT h1.1 h1.2.1 h1.2.2 zdd,kT h2.1 h2.2.1 h2.2.2 zdd,hb.2.2,hb.1,hb.2.1⟩
section
variable {q:QryL} {kg n:Nat} {x:List Rat}
def uK2(h:smQ q kg):(∀ f∈q.g.units,f.terms.length<=7)/\(∀ f∈q.r.rows,f.terms.length<=7)/\q.goal.terms.length<=7:=by
 have key:∀ (f:AffL) (m:Int),uQ f m->m<=7->f.terms.length<=7:=fun f m hf hm=>by
  have h1:=p8 hf;have h2:=aS 7 h1.1.1 fun t ht=>by have:=h1.2 t ht;omega
  simpa [AffL.Q]using h2
 have h1:=h.ins;have h2:=h.un;refine⟨fun f hf=>?_,fun f hf=>?_,key _ _ h.va.2.2 zom⟩
 .obtain⟨j,hj,rfl⟩:=uE hf
  have:=h.va.1.2.2.2.1 j hj;rw[zS _ j hj]at this;exact key _ _ this zom
 .obtain⟨j,hj,rfl⟩:=uE hf
  have:=h.va.2.1.2.2.2.2.2 j hj;rw[zS _ j hj]at this;exact key _ _ this zom
end
section
variable {q:QryL} {kg n:Nat} {x:List Rat}
end
def guA(l:List Int)(a n:Nat):Nat->Nat
 |0=>a
 |j+1=>(wM l (guA l a n j) (n+j)).2
variable {l:List Int}{a:Nat}
def guI(l:List Int)(a n u:Nat):List QF:=(List.range u).map fun j=>(wM l (guA l a n j) (n+j)).1
def H5{l:List Int}{a n:Nat}(h:a<=l.length):∀ j,guA l a n j<=l.length
 |0=>h
 |j+1=>(Bl (H5 h j) (n+j)).2.2.2
def Po(l:List Int)(a n u:Nat):(guI l a n u).length=u:=by simp[guI]
def We  {n u j:Nat}(hj:j<u):(guI l a n u)[j]! = (wM l (guA l a n j) (n+j)).1:=by unfold guI;rw[uR hj]
def gfN(l:List Int)(a:Nat):Nat:=1+nx1 l a 3
def gfU(l:List Int)(a:Nat):Nat:=nx1 l (nx2 l a) 5
def gfO(l:List Int)(a:Nat):Nat:=1+nx1 l (nx2 l (nx2 l a)) 3
def gfS(l:List Int)(a:Nat):Nat:=nx2 l (nx2 l (nx2 l a))
def gfM(l:List Int)(a:Nat):Nat:=guA l (gfS l a) (gfN l a) (gfU l a)
def gfE(l:List Int)(a:Nat):Nat:=rwA l (gfM l a) (gfN l a+gfU l a) (gfO l a)
def gfG(l:List Int)(a:Nat):GraL:=⟨(gfN l a:Nat),(guI l (gfS l a) (gfN l a) (gfU l a)).map QF.L,(rwI l (gfM l a) (gfN l a+gfU l a) (gfO l a)).map QF.L⟩
def Kq   (h:a<=l.length):gfS l a<=l.length:=mJ (mJ (mJ h))
def Kr   (h:a<=l.length):gfM l a<=l.length:=H5 (Kq h) _
def H6   (h:a<=l.length):gfE l a<=l.length:=DG (Kr h) _
def H7(l:List Int)(a:Nat):gfN l a<=3/\1<=gfN l a/\gfU l a<=4/\gfO l a<=3/\1<=gfO l a:=by
 have h1:=cZ (l:=l) (a:=a) (n:=3) zdd;have h2:=cZ (l:=l) (a:=nx2 l a) (n:=5) zdd;have h3:=cZ (l:=l) (a:=nx2 l (nx2 l a)) (n:=3) zdd;unfold gfN gfU gfO;omega
def Wh   (h:a<=l.length):VaG (gfG l a)/\j6 40 (gfG l a)/\(gfG l a).units.length=gfU l a:=by
 obtain⟨g1,g2,g3,g4,g5⟩:=H7 l a;have e1:(gfG l a).units.length=gfU l a:=by simp[gfG,Po]
 have e2:(gfG l a).outs.length=gfO l a:=by simp[gfG,rwI]
 refine⟨⟨⟨by show(1:Int)<=(gfN l a:Nat);omega,by show((gfN l a:Nat):Int)<=256;omega⟩,zom,⟨zom,zom⟩,fun j hj=>?_,fun i hi=>?_⟩,⟨⟨zom,fun f hf=>?_⟩,⟨zom,fun f hf=>?_⟩⟩,e1⟩
 .have hj':j<gfU l a:=zom
  have e:(gfG l a).units[j]! = (wM l (guA l (gfS l a) (gfN l a) j) (gfN l a+j)).1.L:=by
   rw[zS _ j hj];simp only[gfG,vS];rw[<- We hj',zS _ j (by rw[Po];exact hj')]
  rw[e];have:=(Bl (H5 (n:=gfN l a) (Kq h) j) (gfN l a+j)).1;exact DF (by exact_mod_cast this)
 .have hi':i<gfO l a:=zom
  have e:(gfG l a).outs[i]! = (rwI l (gfM l a) (gfN l a+gfU l a) (gfO l a))[i]!.L:=by
   rw[zS _ i hi,zS _ i (by simpa [rwI]using hi')];simp only[gfG,vS]
  rw[e,e1]
  have hm:(rwI l (gfM l a) (gfN l a+gfU l a) (gfO l a))[i]! ∈ rwI l (gfM l a) (gfN l a+gfU l a) (gfO l a):=by
   rw[zS _ i (by simpa [rwI]using hi')];exact wA _
  have:=(PX (Kr h) hm).1;exact DF (by show okF ((gfN l a:Nat)+(gfU l a:Nat):Int) _;exact_mod_cast this)
 .obtain⟨g,hg,rfl⟩:=zW.1 hf
  obtain⟨j,hj,rfl⟩:=zW.1 hg;have hj:=yN.1 hj;obtain⟨_,k2,k3,_⟩:=Bl (H5 (n:=gfN l a) (Kq h) j) (gfN l a+j);exact Eu (rX zom k2) zom
 .obtain⟨g,hg,rfl⟩:=zW.1 hf
  obtain⟨_,k2,k3⟩:=PX (Kr h) hg;exact Eu (rX zom k2) zom
def Ez(l:List Int):QryL:=⟨gfG l 0,rZ l (gfE l 0) (gfN l 0),(wM l (DI l (gfE l 0) (gfN l 0)) (gfN l 0+gfU l 0)).1.L⟩
def Wl  {m:Nat}(h:a<=l.length):DI l a m<=l.length:=DG (mJ (Hr h m)) _
def uOM(l:List Int):smQ (Ez l) 199:=by
 have h0:0<=l.length:=z8 _;obtain⟨g1,g2,g3⟩:=Wh h0;obtain⟨n1,n2,n3,_⟩:=H7 l 0;obtain⟨r1,r2,r3,r4,r5,r6⟩:=WP (l:=l) (H6 h0) (m:=gfN l 0) n2 zom;obtain⟨f1,f2,f3,f4⟩:=Bl (Wl (m:=gfN l 0) (H6 h0)) (gfN l 0+gfU l 0);refine⟨⟨g1,r1,?_⟩,by show((gfN l 0:Nat):Int)<=3;omega,by show(gfG l 0).units.length<=4;omega,by show(rZ l (gfE l 0) (gfN l 0)).rows.length<=8;omega,⟨⟨g2.1.1,fun f hf=>qP zdd (g2.1.2 f hf)⟩,⟨g2.2.1,fun f hf=>qP zdd (g2.2.2 f hf)⟩⟩,PW zdd r2,Eu (rX zom f2) zom⟩;refine DF ?_;show okF ((gfN l 0:Nat)+((gfG l 0).units.length:Nat):Int) _
 rw[g3]
 exact_mod_cast f1
def Kt{v:Int}:∀ {l:List QT},(∀ p∈l,p.1≠v)->cf l v=0
 |[],_=>rfl
 | p::l,h=>by
   rw[cf,zB (h p zsm),Kt fun q hq=>h q (xN _ hq)];exact GY 0
def Pp{v:Int}:∀ {l:List QT},l.Pairwise (fun p q=>p.1<q.1)->∀ {p:QT},p∈l->p.1=v->cf l v=p.2
 |[],_,p,hp,_=>by cases hp
 | q::l,h,p,hp,e=>by
   obtain⟨h1,h2⟩:=JV.1 h;rw[cf];rcases yI.1 hp with rfl|hp
   .rw[zE e,Kt fun r hr=>by have:=h1 r hr;omega]
    exact dI _
   .have:=h1 p hp
    rw[zB zom,Pp h2 hp e];exact GY _
variable {k:Nat}
def uLB  {b:Rat}(h0:b≠0)(h:sz k b):sz k b⁻¹:=by
 have hn:b.num≠0:=fun e=>h0 (NQ.1 e)
 refine⟨?_,?_⟩
 .rw[Rat.num_inv,dG,Int.natAbs_sign_of_ne_zero hn,Ch]
  simpa using h.2
 .rw[Rat.den_inv,zB hn];exact h.1
def H8{j:Nat}{a b:Rat}(h0:b≠0)(ha:sz j a)(hb:sz k b):sz (j+k) (a/b):=by
 rw[Rat.div_def];exact q9 ha (uLB h0 hb)
def iX  (hk:1<=k):sz k (0:Rat):=xV hk (⟨zdd,zdd⟩:sz 1 (0:Rat))
def cf_sz  (hk:1<=k):∀ {l:List QT} {v:Int},l.Pairwise (fun p q=>p.1<q.1)->(∀ p∈l,sz k p.2)->sz k (cf l v):=fun {l v} hp hl=>by
 by_cases h:∃ p∈l,p.1=v
 .obtain⟨p,h1,h2⟩:=h
  rw[Pp hp h1 h2];exact hl p h1
 .rw[Kt fun p hp e=>h ⟨p,hp,e⟩]
  exact iX hk
def Pq{α:Type}[Inhabited α]{l:List α}{i:Nat}(h:i<l.length):l[i]! ∈ l:=by rw[zS l i h];exact wA h
section
variable {q:QryL} {kg n:Nat} {x:List Rat}
def smQ.nn(h:smQ q kg)(hn:q.g.ins=(n:Int)):1<=n/\n<=3/\q.r.lo.length=n/\q.r.hi.length=n:=by
 obtain⟨m,e,h1,h2,h3,h4⟩:=h.n;have:m=n:=zom
 subst this;exact⟨h1,h2,h3,h4⟩
def Ps(h:smQ q kg)(hkg:kg<=200)(hn:q.g.ins=(n:Int))(p:List Int):okF n (l6 q n p)/\szF 40000 (l6 q n p)/\(l6 q n p).ts.length<=n:=by
 have hu:=h.us hn;have hg:=p8 h.va.2.2;rw[hn]at hg;have hl:=mM (usQ q) n p (usQ q).length;obtain⟨h1,h2,h3⟩:=Kk (f:=q.goal.Q) (k:=200) (H4 (p:=p) hu _ (zX _)) (jZ (qP hkg h.goal) zdd) (by rw[hl,oW];exact_mod_cast hg);rw[hl]at h2;have hk:=Ko (n:=n) hu (j:=(usQ q).length) (zX _);exact⟨h1,rX zom h2,h3⟩
end
variable {xs:List Rat}{i:Nat}
def smN(xs:List Int):Int×Bool:=if xs=[] then(0,true) else(xs[0]!,decide (xs.length=1/\xs[0]! <= 1073741824))
def Wm(n:Nat):((smN (zJ n)).2=true↔n<=1073741824)/\(n<=1073741824->(smN (zJ n)).1=n):=by
 have hv:=yR n;unfold smN;by_cases h0:zJ n=[]
 .rw[zE h0]
  rw[h0]at hv;have:n=0:=hv.symm;subst this;exact⟨⟨fun _=>by omega,fun _=>rfl⟩,fun _=>rfl⟩
 .rw[zB h0]
  have hl:=CV.2 h0
  have one:(zJ n).length=1->(zJ n)[0]! = (n:Int):=fun h1=>by
   obtain⟨a,ha⟩:=JN.1 h1;have hok:=yP n a (by rw[ha];simp);rw[ha]at hv ⊢;have:nv [a]=a.toNat:=by simp[nv]
   show a=_
   omega
  refine⟨⟨fun h=>?_,fun h=>?_⟩,fun h=>?_⟩
  .obtain⟨h1,h2⟩:=mS h
   rw[one h1]at h2;omega
  .have h1:(zJ n).length<=1:=sW (nB h zdd)
   exact sJ ⟨zom,by rw[one zom];omega⟩
  .have h1:(zJ n).length<=1:=sW (nB h zdd)
   exact one zom
def okX(q:Rat):Prop:=q.num.natAbs<=1073741824/\q.den<=1073741824
instance (q:Rat):Decidable (okX q):=by unfold okX;exact inferInstance
def uR6(q:Rat):((smN (cr q).num).2=true↔q.num.natAbs<=1073741824)/\(q.num.natAbs<=1073741824->(smN (cr q).num).1=(q.num.natAbs:Int)):=Wm _
def uR7(q:Rat):((smN (cr q).den).2=true↔q.den<=1073741824)/\(q.den<=1073741824->(if 1 > (smN (cr q).den).1 then 1 else(smN (cr q).den).1)=(q.den:Int)):=by
 have hp:=q.den_pos;have e:(cr q).den=if q.den=1 then [] else zJ q.den:=by unfold cr;rfl
 rw[e];by_cases h1:q.den=1
 .rw[zE h1]
  refine⟨⟨fun _=>by omega,fun _=>rfl⟩,fun _=>?_⟩;show(if (1:Int) > 0 then 1 else 0)=_
  rw[zE zdd,h1];rfl
 .rw[zB h1]
  obtain⟨s1,s2⟩:=Wm q.den;refine⟨s1,fun h=>?_⟩;rw[s2 h,zB zom]
def uUV(q:Rat):(cr q).neg=decide (q.num<0):=rfl
def frX(f:QF)(vars:Nat):List Rat:=(List.range (vars+1)).map fun i=>if i<vars then cf f.ts i else f.c
def iA(f:QF)(vars:Nat):(frX f vars).length=vars+1:=by simp[frX]
def l8{f:QF}{vars:Nat}(h:i<vars+1):(frX f vars)[i]! = if i<vars then cf f.ts i else f.c:=by
 rw[zS _ i (by rw[iA];exact h)];simp[frX]
def H9(xs:List Rat):Prop:=∀ i,i<xs.length->okX xs[i]!
def nuI(xs:List Rat)(i:Nat):List Int:=(List.range xs.length).map fun j=>if j<i then xs[j]!.num else 0
def deI(xs:List Rat)(i:Nat):List Int:=(List.range xs.length).map fun j=>if j<i then(xs[j]!.den:Int) else 0
def Wn(xs:List Rat)(i:Nat):(nuI xs i).length=xs.length:=by simp[nuI]
def Ku(xs:List Rat)(i:Nat):(deI xs i).length=xs.length:=by simp[deI]
def Pt{α:Type}(n:Nat)(f:Nat->α)(z:α)  (h:i<n):((List.range n).map fun j=>if j<i then f j else z).set i (f i)=(List.range n).map fun j=>if j<i+1 then f j else z:=by
 refine vE zsm fun j h1 h2=>?_
 by_cases e:j=i
 .subst e;simp
 .rw[CW zom]
  simp only[vS,oQ];by_cases e2:j<i
  .simp only[zE e2,zE (show j<i+1 by omega)]
  .simp only[zB e2,zB (show ¬ j<i+1 by omega)]
def uN2   (h:i<xs.length):(nuI xs i).set i xs[i]!.num=nuI xs (i+1):=Pt _ (fun j=>xs[j]!.num) 0 h
def uPT   (h:i<xs.length):(deI xs i).set i (xs[i]!.den:Int)=deI xs (i+1):=Pt _ (fun j=>(xs[j]!.den:Int)) 0 h
def Pu{α:Type}(n:Nat)(f:Nat->α)(z:α):((List.range n).map fun j=>if j<0 then f j else z)=List.replicate n z:=by
 refine vE zsm fun j h1 h2=>by simp
def Wo  {j:Nat}(h:j<xs.length):(deI xs xs.length)[j]! = (xs[j]!.den:Int):=by
 rw[zS _ j (by rw[Ku];exact h)];simp[deI,h]
def laI(xs:List Rat):Nat->Nat
 |0=>1
 |i+1=>laI xs i/Nat.gcd (laI xs i) xs[i]!.den*xs[i]!.den
def Pv(xs:List Rat):∀ i,0<laI xs i
 |0=>Nat.one_pos
 | i+1=>by
   have h1:=Pv xs i;have h2:=xs[i]!.den_pos;have h3:0<Nat.gcd (laI xs i) xs[i]!.den:=Ty _ h1;exact Nat.mul_pos (Nat.div_pos (Nat.gcd_le_left _ h1) h3) h2
def Ws(xs:List Rat):∀ i j,j<i->xs[j]!.den ∣ laI xs i
 |0,j,h=>by omega
 | i + 1,j,h=>by
   show _ ∣ laI xs i/Nat.gcd (laI xs i) xs[i]!.den*xs[i]!.den
   by_cases e:j=i
   .subst e;exact Nat.dvd_mul_left _ _
   .have h1:=Ws xs i j zom
    have h2:laI xs i ∣ laI xs i/Nat.gcd (laI xs i) xs[i]!.den*xs[i]!.den:=by
     have:=Nat.dvd_lcm_left (laI xs i) xs[i]!.den;rw[Nat.lcm,wC,Nat.mul_div_assoc _ (GU _ _),wC]at this;exact this
    exact Nat.dvd_trans h1 h2
def uTL(xs:List Rat)(i:Nat):laI xs (i+1)<=laI xs i*xs[i]!.den:=vK _ (gS _ _)
def E0(xs:List Rat)(n:Nat):Prop:=∀ i,i<n->laI xs (i+1)<=1073741824
def Wt  {n:Nat}(h:E0 xs n):laI xs n<=1073741824:=by
 cases n with
 |zero=>exact(by decide:1<=1073741824)
 |succ n=>exact h n (nC _)
def meI(xs:List Rat)(i:Nat):List Int:=(List.range xs.length).map fun j=>if j<i then xs[j]!.num*((laI xs xs.length/xs[j]!.den:Nat):Int) else xs[j]!.num
def E5(xs:List Rat)(i:Nat):(meI xs i).length=xs.length:=by simp[meI]
def uFF(xs:List Rat):meI xs 0=nuI xs xs.length:=by
 refine vE (by simp[meI,nuI]) fun j h1 h2=>?_
 have:j<xs.length:=by simpa [meI]using h1
 simp[meI,nuI,this]
def uOA   (h:i<xs.length):(meI xs i)[i]! = xs[i]!.num:=by
 rw[zS _ i (by rw[E5];exact h)];simp[meI]
def uN9   (h:i<xs.length):(meI xs i).set i (xs[i]!.num*((laI xs xs.length/xs[i]!.den:Nat):Int))=meI xs (i+1):=by
 refine vE (by simp[meI]) fun j h1 h2=>?_
 by_cases e:j=i
 .subst e;simp[meI]
 .rw[CW zom]
  simp only[meI,vS,oQ];by_cases e2:j<i
  .simp only[zE e2,zE (show j<i+1 by omega)]
  .simp only[zB e2,zB (show ¬ j<i+1 by omega)]
def meL(xs:List Rat):List Int:=meI xs xs.length
def uN8   (h:i<xs.length):(meL xs)[i]! = xs[i]!.num*((laI xs xs.length/xs[i]!.den:Nat):Int):=by
 unfold meL;rw[zS _ i (by rw[E5];exact h)];simp[meI,h]
open Classical in
noncomputable def rD(xs:List Rat):List Int×Bool:=if H9 xs/\E0 xs xs.length then(rY (meL xs),qO (meL xs)) else([],false)
def uW5  (h:H9 xs)(hl:laI xs xs.length<=1073741824):∀ i,i<=xs.length->∀ x∈meI xs i,x.natAbs<=1152921504606846976:=fun i hi x hx=>by
 obtain⟨j,hj,rfl⟩:=zW.1 hx;have hj:j<xs.length:=yN.1 hj;have h1:=(h j hj).1;have h2:laI xs xs.length/xs[j]!.den<=1073741824:=wS (gS _ _) hl
 split
 .rw[dG,Int.natAbs_natCast]
  exact wS (gW h1 h2) zdd
 .omega
def Pw  (h:(rD xs).2=true):(rD xs).1.length=xs.length/\(∀ x∈(rD xs).1,okG x)/\∃ s:Rat,0<s/\∀ i,i<xs.length->(((rD xs).1[i]! : Int):Rat)=s*xs[i]! := by
 unfold rD at h ⊢
 split at h
 .rename_i hc
  rw[zE hc];dsimp only at h ⊢;obtain⟨e,he,hm⟩:=Kg h;refine⟨by rw[Ke];exact E5 _ _,(PS h).2,(laI xs xs.length:Rat)/(e:Rat),?_,fun i hi=>?_⟩
  .have h1:=Pv xs xs.length
   have h2:(0:Rat)<(laI xs xs.length:Rat):=by exact_mod_cast h1
   have h3:(0:Rat)<(e:Rat):=by exact_mod_cast he
   rw[Rat.div_def];exact nY h2 (Cg.2 h3)
  .have h1:=hm i (by rw[show(meL xs).length=xs.length from E5 _ _];exact hi)
   rw[uN8 hi]at h1
   have h3:(e:Rat)≠0:=by
    intro h0;have:e=0:=by exact_mod_cast h0
    omega
   have hd:xs[i]!.den ∣ laI xs xs.length:=Ws xs _ i hi;obtain⟨k,hk⟩:=hd;have hdp:=xs[i]!.den_pos;rw[hk,Mw _ hdp]at h1;have h4:(((rY (meL xs))[i]! : Int):Rat)*(e:Rat)=(xs[i]!.num:Rat)*(k:Rat):=by exact_mod_cast h1
   have h5:(laI xs xs.length:Rat)=(xs[i]!.den:Rat)*(k:Rat):=by rw[hk];exact_mod_cast rfl
   have h6:xs[i]!*(xs[i]!.den:Rat)=(xs[i]!.num:Rat):=by
    have h8:((xs[i]!.num:Int):Rat)/((xs[i]!.den:Nat):Rat)=xs[i]! := by rw[<- GR,EI]
    have h9:(xs[i]!.den:Rat)≠0:=by
     intro h0;have:xs[i]!.den=0:=by exact_mod_cast h0
     omega
    have h10:=Ad (a:=(xs[i]!.num:Rat)) h9
    rwa [h8]at h10
   rw[h5]
   have h7:(((rY (meL xs))[i]! : Int):Rat)=(xs[i]!.num:Rat)*(k:Rat)/(e:Rat):=by
    rw[<- h4,Rat.mul_div_cancel h3]
   rw[h7,<- h6,Rat.div_def,Rat.div_def];grind
 .cases h
open Go.RowKit
variable {G:Gl}{n0:Nat}{s:St}{agg:Bool}
def uRB    {j sz:Nat}  (hj:s.t j=.nilsl) :
 LeS G n0 s ⟨mE s.t j (.own s.nx 0 0),hset s.h s.nx (some ⟨[],sz,agg⟩),s.z,s.nx+1⟩:=by
 intro E N df a w A κ hE hR;have hf:=hR.fresh s.nx (zX _);have hn:E.n0<=s.nx:=hR.n0;have hk:=hf.2.2;have hle:=qW (0,sz,0) hk;refine⟨A,wL κ s.nx (0,sz,0),⟨hR.hr.empty hn hk,fun r hr=>?_,GL hn,fun i hi=>?_,hR.size,hR.df⟩⟩
 .have hr':s.nx+1<=r:=hr
  have hne:r≠s.nx:=zom
  have h:=hR.fresh r zom;exact⟨by simp only[hset,zB hne];exact h.1,h.2.1,by rw[wH κ _ hne];exact h.2.2⟩
 .show RV w A _ (mE s.t j (.own s.nx 0 0) i) _
  have hv:=hR.tm i hi;unfold mE
  split
  .rename_i e
   subst e;rw[hj]at hv;rw[hv.nilsl_inv];exact EQ (vG ..) none
  .exact hv.mono (fun _ h=>h) (fun _ _ _=>rfl) hle
def HR.retell{E:Env}  {w:World}{A:Nat->Prop}{κ:Ka}{h:Hp}{z:Fz}(H:HR E G w A κ h z){r:Nat}{b b':Blk}(hb:h r=some b)(hsz:b'.sz=b.sz)(hagg:b'.agg=b.agg)(hlen:b'.els.length<=b.els.length)
 (hel:∀ (i:Nat) (e':PV),b'.els[i]?=some e'->∃ e:PV,b.els[i]?=some e/\e'.cells.length=e.cells.length/\e'.isAgg=e.isAgg/\∀ (j:Nat) (d':PV),e'.cells[j]?=some d'->∃ d:PV,e.cells[j]?=some d/\∀ v,RV w A κ d v->RV w A κ d' v):HR E G w A κ (hset h r (some b')) z:=by
 have get:∀ r' q,hset h r (some b') r'=some q->∃ q0,h r'=some q0/\(q=q0\/(r'=r/\q=b'/\q0=b)):=fun r' q hq=>by
  unfold hset at hq
  split at hq
  .rename_i e;subst e;cases hq;exact⟨b,hb,zC ⟨rfl,rfl,rfl⟩⟩
  .exact⟨q,hq,zF rfl⟩
 refine⟨H.bel,H.hB,H.alt,H.a0,H.a1,H.acell,H.k0,H.glob,H.klt,⟨fun r' q m sz cap hq hκ hc hz=>?_,H.kp.kb,H.kp.kk,H.kp.zk⟩,fun r' q hq hκ=>?_,fun r1 r2 q1 q2 m1 m2 s1 s2 c1 c2 hne h1 h2=>?_⟩
 .obtain⟨q0,h1,_⟩:=get r' q hq
  exact H.kp.own r' q0 m sz cap h1 hκ hc hz
 .obtain⟨q0,h1,h2⟩:=get r' q hq
  rcases h2 with rfl|⟨rfl,rfl,rfl⟩
  .exact H.blk r' q h1 hκ
  .obtain⟨m,cap,g1,g2,g3,g4⟩:=H.blk r' q0 h1 hκ
   refine⟨m,cap,by rw[hsz];exact g1,zom,fun e' he=>?_,?_⟩
   .obtain⟨i,hi,rfl⟩:=uE he
    obtain⟨e,e1,e2,e3,_⟩:=hel i _ (wN hi);have:=g3 e (wO e1);rw[e2,e3,hsz,hagg];exact this
   .rcases g4 with g4|⟨⟨p1,p2,p3,p4⟩,g4⟩|⟨c,ty,f1,f2,f3,f4,f5,f6⟩
    .exact zF g4
    .exact zC (zF ⟨⟨vZ.1 (by rw[p1]at hlen;exact Nat.le_zero.1 hlen),hsz.trans p2,hagg.trans p3,p4⟩,g4⟩)
    .refine zC (zC ⟨c,ty,by rw[hsz,hagg];exact f1,f2,by rw[hsz];exact f3,f4,fun i e' he j d' hd=>?_,f6⟩)
     rw[hsz];obtain⟨e,e1,e2,e3,e4⟩:=hel i e' he;obtain⟨d,d1,d2⟩:=e4 j d' hd;obtain⟨u,t1,t2,t3⟩:=f5 i e e1 j d d1;exact⟨u,t1,d2 u t2,t3⟩
 .obtain⟨p1,g1,_⟩:=get r1 q1 h1
  obtain⟨p2,g2,_⟩:=get r2 q2 h2;exact H.excl r1 r2 p1 p2 m1 m2 s1 s2 c1 c2 hne g1 g2
def E8(b:Blk)(i c:Nat)(v:PV):Blk:=match b.els[i]? with
 |some (.agg cs)=>⟨b.els.set i (.agg (cs.set c v)),b.sz,b.agg⟩
 |_=>b
def uH9    {r i c sz:Nat}  {b:Blk}{cs:List PV}(hb:s.h r=some b)(hi:b.els[i]?=some (.agg cs))(hc:cs[c]?=some .nilsl) :
 LeS G n0 s ⟨s.t,hset (hset s.h s.nx (some ⟨[],sz,agg⟩)) r (some (E8 b i c (.own s.nx 0 0))),s.z,s.nx+1⟩:=by
 intro E N df a w A κ hE hR;have hf:=hR.fresh s.nx (zX _);have hn:E.n0<=s.nx:=hR.n0;have hk:=hf.2.2;have hle:=qW (0,sz,0) hk;have hrn:r<s.nx:=Nat.lt_of_not_le fun e=>by have:=(hR.fresh r e).1;rw[this]at hb;cases hb
 have eset:E8 b i c (.own s.nx 0 0)=⟨b.els.set i (.agg (cs.set c (.own s.nx 0 0))),b.sz,b.agg⟩:=by unfold E8;rw[hi]
 have H1:=hR.hr.empty (sz:=sz) (agg:=agg) hn hk;have hb1:hset s.h s.nx (some ⟨[],sz,agg⟩) r=some b:=by simp only[hset,zB (show r≠s.nx by omega)];exact hb
 have H2:HR E G w A (wL κ s.nx (0,sz,0)) (hset (hset s.h s.nx (some ⟨[],sz,agg⟩)) r (some (E8 b i c (.own s.nx 0 0)))) s.z:=by
  rw[eset];refine H1.retell hb1 rfl rfl zsm (fun j e' he=>?_)
  .rw [GN]at he
   split at he
   .rename_i e
    subst e
    split at he
    .cases he
     refine⟨_,hi,by simp[PV.cells],rfl,fun q d' hd=>?_⟩;simp only[PV.cells,GN]at hd
     split at hd
     .rename_i e
      subst e
      split at hd
      .cases hd
       refine⟨_,hc,fun v hv=>?_⟩;rw[hv.nilsl_inv];exact EQ (vG ..) none
      .cases hd
     .exact⟨d',hd,fun _ h=>h⟩
    .cases he
   .exact⟨e',he,rfl,rfl,fun q d' hd=>⟨d',hd,fun _ h=>h⟩⟩
 refine⟨A,wL κ s.nx (0,sz,0),⟨H2,fun q hq=>?_,GL hn,fun j hj=>?_,hR.size,hR.df⟩⟩
 .have hq':s.nx+1<=q:=hq
  have hne:q≠s.nx:=zom
  have h:=hR.fresh q zom;exact⟨by simp only[hset,zB hne,zB (show q≠r by omega)];exact h.1,h.2.1,by rw[wH κ _ hne];exact h.2.2⟩
 .exact(hR.tm j hj).mono (fun _ h=>h) (fun _ _ _=>rfl) hle
inductive Np where
 |sl (j:Nat)
 |cl (r i c:Nat)
def Bo:St->List (Np×Nat×Bool)->St
 |s,[]=>s
 |⟨t,h,z,nx⟩,(.sl j,sz,agg)::l=>Bo ⟨ts t j (.own nx 0 0),hs h nx (some ⟨[],sz,agg⟩),z,nx+1⟩ l
 | ⟨t,h,z,nx⟩,(.cl r i c,sz,agg)::l=>(match h r with
   |some b=>Bo ⟨t,hs (hs h nx (some ⟨[],sz,agg⟩)) r (some (E8 b i c (.own nx 0 0))),z,nx+1⟩ l
   |none=>⟨t,h,z,nx⟩)
def DL:St->List (Np×Nat×Bool)->Prop
 |_,[]=>True
 |⟨t,h,z,nx⟩,(.sl j,sz,agg)::l=>t j=.nilsl/\DL ⟨ts t j (.own nx 0 0),hs h nx (some ⟨[],sz,agg⟩),z,nx+1⟩ l
 |⟨t,h,z,nx⟩,(.cl r i c,sz,agg)::l=>∃ b cs,h r=some b/\b.els[i]?=some (.agg cs)/\cs[c]?=some .nilsl/\DL ⟨t,hs (hs h nx (some ⟨[],sz,agg⟩)) r (some (E8 b i c (.own nx 0 0))),z,nx+1⟩ l
def E9{G:Gl}{n0:Nat}:∀ {N:List (Np×Nat×Bool)} {s s':St},DL s N->LeS G n0 (Bo s N) s'->LeS G n0 s s'
 |[],⟨t,h,z,nx⟩,s',_,hl=>hl
 | (.sl j,sz,agg)::l,⟨t,h,z,nx⟩,s',hN,hl=>by
   have h1:=uRB (G:=G) (n0:=n0) (s:=⟨t,h,z,nx⟩) (sz:=sz) (agg:=agg) hN.1;refine h1.trans ?_;have h2:=E9 (N:=l) hN.2 hl;rw[EZ,pR]at h2;exact h2
 | (.cl r i c,sz,agg)::l,⟨t,h,z,nx⟩,s',hN,hl=>by
   obtain⟨b,cs,g1,g2,g3,g4⟩:=hN;have h1:=uH9 (G:=G) (n0:=n0) (s:=⟨t,h,z,nx⟩) (sz:=sz) (agg:=agg) g1 g2 g3;refine h1.trans ?_;unfold Bo at hl;rw[g1]at hl;have h2:=E9 (N:=l) g4 hl;rw[pR,pR]at h2;exact h2
section
variable {P:Program} {T:Ti} {G:Gl} {n0:Nat}
def fU{K:St->Prop}{Q:Exit->St->Prop}  (N:List (Np×Nat×Bool))(L:List (Nat×PV))(H:List (Nat×Blk))(Z:List Nat)(k:Nat)(hk:n0<=k)(hZ:∀ r∈Z,r<k)(hN:DL s N)(hs:Kept n0 (Bo s N) L H Z k)
 (h:K ⟨sv L,hv H,zv Z,k⟩):tX (LeS G,n0) K Q .normal s:=VV (E9 hN (hs.le hk hZ)) (by rw[<- BV,<- Cx,<- Cy];exact h)
def iB(hT:∀ i x,T i=some x->zK P i=x){c:Code}{Q:Exit->St->Prop}  {ι:Type}(N:List (Np×Nat×Bool))(L:ι->List (Nat×PV))(H:ι->List (Nat×Blk))(Z:List Nat)(k:Nat)(Inv:ι->Prop)(μ:ι->Nat)(i0:ι)(h0:Inv i0)(hk:n0<=k)(hZ:∀ r∈Z,r<k)
 (hN:DL s N) (hs:Kept n0 (Bo s N) (L i0) (H i0) Z k)
 (round:∀ i,Inv i->VC P T G n0 c (nG (fun s'=>∃ i',(Inv i'/\μ i'<μ i)/\Kept n0 s' (L i') (H i') Z k) Q) ⟨sv (L i),hv (H i),zv Z,k⟩) :
 kR P G (FnC P G) (FnH P G) (LeS G,n0) c Q s:=by
 unfold kR;refine Gs L H (fun _=>Z) k Inv μ i0 h0 (E9 hN (hs.le hk hZ)) fun i hi=>?_
 have:=round i hi;rw[BV,Cx,Cy]at this
 exact fM hT (fun e s h=>by
  cases e<;>first|(obtain⟨i',⟨h1,h2⟩,h3⟩:=h;exact⟨i',h1,h2,h3.le hk hZ⟩)|exact h) this
end
def get_mem{α:Type}[Inhabited α]{l:List α}{i:Nat}(h:i<l.length):l[i]! ∈ l:=by rw[zS l i h];exact wA h
def Wu{g:PV->Option (PV×List Nat)}{α:Type}{f:α->PV}(hf:∀ x,g (f x)=some (f x,[])):∀ l:List α,zZ g (l.map f)=some (l.map f,[])
 |[]=>rfl
 |a::l=>by rw[uW];exact yL (hf a) (Wu hf l)
def Wv{g:PV->Option (PV×List Nat)}{c d:PV}{ks:List Nat}(h1:g c=some (d,ks)):∀ {l ds:List PV},zZ g l=some (ds,[])->zZ g (l++[c])=some (ds++[d],ks)
 | [],ds,h=>by
   have:ds=[]:=by simp[zZ]at h;exact h
   subst this;have:=yL (f:=g) (cs:=[]) (ds:=[]) (ls:=[]) h1 rfl
   simpa using this
 | a::l,ds,h=>by
   simp only[zZ]at h
   split at h
   .rename_i d1 k1 ds1 k2 e1 e2
    simp only[NK,NV,M5]at h;obtain⟨rfl,rfl,rfl⟩:=h;exact yL e1 (Wv h1 e2)
   .cases h
def Ww{h:Hp}{n:Nat}(f:QF):frz h (n+1) (zP f)=some (zP f,[]):=by cases n<;>rfl
def vRU{v:QF}(hv:Srt v.ts)(c:Rat):rB v c=yA zeroQ v c:=by
 have h1:=cL c _ zeroQ.ts v.ts (zX _) pV hv;obtain⟨h3,h4,_⟩:=He c hv;have e:rA c v.ts=mrg c zeroQ.ts v.ts:=HZ h3 h1.1 fun w=>by rw[h1.2,h4];simp only[zeroQ,cf];grind
 unfold yA rB;simp only[e,QF.mk.injEq,dK];simp only[zeroQ];grind
def IA{j n:Nat}{p:Nat->Prop}(h:∀ j,j<n->p j)(hn:p n)(hj:j<n+1):p j:=by
 rcases Ae (Ah hj) with hj|rfl
 .exact h j hj
 .exact hn
end Go.PI
namespace Go.PI.SX
def dt:List Rat->List Rat->Rat
 |[],_=>0
 |a::_,[]=>a
 |a::l,w::m=>a*w+dt l m
variable {α:Type}{j:Nat}
def Kv(a:Rat)(l:List Rat):dt (a::l) []=a:=rfl
def mN(a w:Rat)(l ws:List Rat):dt (a::l) (w::ws)=a*w+dt l ws:=rfl
def Bp:∀ {l w:List Rat} {e:Nat} {x:Rat},e<w.length->l.length=w.length+1->dt l (w.set e x)=dt l w+l[e]!*(x-w[e]!)
 |[],_,_,_,_,h=>by simp at h
 |a::l,[],_,_,h,_=>by simp at h
 |a::l,y::w,0,x,_,_=>by simp only[List.set_cons_zero,mN,bS];grind
 | a::l,y::w,e+1,x,h,hl=>by
   simp only[List.set_cons_succ,mN,Ab];rw[Bp (by simpa using h) (by simpa using hl)];grind
def FA:∀ {l f g w:List Rat} {c:Rat},l.length=w.length+1->f.length=w.length+1->g.length=w.length+1->(∀ j,j<w.length+1->g[j]! = l[j]! + c*f[j]!)->dt g w=dt l w+c*dt f w
 |[],_,_,_,_,h,_,_,_=>by simp at h
 |_,[],_,_,_,_,h,_,_=>by simp at h
 |_,_,[],_,_,_,_,h,_=>by simp at h
 | a::l,b::f,d::g,[],c,_,_,_,h=>by
   have:=h 0 zsm
   simpa [Kv]using this
 | a::l,b::f,d::g,y::w,c,h1,h2,h3,h=>by
   have h0:=h 0 zsm;simp only[bS]at h0;have ih:=FA (l:=l) (f:=f) (g:=g) (w:=w) (c:=c) (by simpa using h1) (by simpa using h2) (by simpa using h3) fun j hj=>by simpa using h (j+1) (by simpa using hj)
   simp only[mN,ih,h0];grind
def iY:∀ {l:List Rat} {n:Nat},l.length=n+1->dt l (List.replicate n 0)=l[n]!
 |[],_,h=>by simp at h
 |a::l,0,h=>rfl
 | a::l,n+1,h=>by
   rw[List.replicate_succ,mN,iY (by simpa using h),Ab];grind
def Wx:∀ {l w:List Rat},l.length=w.length+1->dt l w<l[w.length]! -> ∃ j,j<w.length/\l[j]!*w[j]! < 0
 |[],_,h,_=>by simp at h
 |a::l,[],_,h=>by simp only[Kv,List.length_nil,bS]at h;exact absurd h (by grind)
 | a::l,y::w,hl,h=>by
   simp only[mN,List.length_cons,Ab]at h;by_cases hn:a*y<0
   .exact⟨0,zsm,by simpa using hn⟩
   .obtain⟨j,h1,h2⟩:=Wx (l:=l) (w:=w) (by simpa using hl) (by grind)
    exact⟨j+1,by simpa using h1,by simpa using h2⟩
def gp  [Inhabited α]{l:List α}  (h:j<l.length):l[j]! = l[j]:=zS l j h
def oD{n:Nat}{f:Nat->Rat}  (h:j<n):((List.range n).map f)[j]! = f j:=by
 rw[gp (by simpa using h)];simp
def sN  [Inhabited α]{l:List α}{i:Nat}{x:α}(hj:j<l.length):(l.set i x)[j]! = if i=j then x else l[j]! := by
 rw[gp (by simpa using hj),gp hj,kL]
def tH{β:Type}[Inhabited α][Inhabited β]{f:α->β}{l:List α}  (hj:j<l.length):(l.map f)[j]! = f l[j]! := by
 rw[gp (by simpa using hj),gp hj,vS]
def x6  [Inhabited α]{l:List α}  (hj:j<l.length):l[j]! ∈ l:=by rw[gp hj];exact wA hj
def mem_ix  [Inhabited α]{l:List α}{x:α}(h:x∈l):∃ j,j<l.length/\l[j]! = x:=by
 obtain⟨j,hj,rfl⟩:=uE h;exact⟨j,hj,gp hj⟩
def nodup_get  [Inhabited α]{l:List α}(h:l.Nodup){i:Nat}(hi:i<l.length)(hj:j<l.length)(e:l[i]! = l[j]!):i=j:=by
 rw[gp hi,gp hj]at e;exact(List.getElem_inj h).1 e
structure Tab where
 vars:Nat
 bs:List Nat
 ns:List Nat
 fs:List (List Rat)
 ob:List Rat
 pv:Nat
 deriving Inhabited
def x9(e:Nat)(old:List Rat):List Rat:=(List.range old.length).map fun j=>if j=e then 1/old[e]! else-old[j]!/old[e]!
def vC(e:Nat)(f l:List Rat):List Rat:=(List.range l.length).map fun j=>(if j=e then 0 else l[j]!)+l[e]!*f[j]!
def zY(T:Tab)(r e:Nat):Tab :=
 let f:=x9 e T.fs[r]!
 { T with bs:=T.bs.set r T.ns[e]!,ns:=T.ns.set e T.bs[r]!,fs:=(T.fs.map (vC e f)).set r f,ob:=vC e f T.ob,pv:=T.pv+1 }
structure Wf(T:Tab):Prop where
 fl:T.fs.length=T.bs.length
 ll:∀ i,i<T.bs.length->T.fs[i]!.length=T.ns.length+1
 ol:T.ob.length=T.ns.length+1
 nd:(T.bs++T.ns).Nodup
def Sol(T:Tab)(z:Nat->Rat):Prop:=∀ i,i<T.bs.length->z T.bs[i]! = dt T.fs[i]! (T.ns.map z)
def Px:∀ {n:Nat} {w:List Rat},w.length=n->dt (List.replicate (n+1) 0) w=0
 |0,[],_=>rfl
 |n+1,y::w,h=>by rw[List.replicate_succ,mN,Px (by simpa using h)];grind
def IB{x:Rat}:∀ {n e:Nat} {w:List Rat},w.length=n->e<n->dt ((List.replicate (n+1) 0).set e x) w=x*w[e]!
 |n+1,0,y::w,h,_=>by rw[List.replicate_succ,List.set_cons_zero,mN,bS,Px (by simpa using h)];grind
 |n+1,e+1,y::w,h,he=>by rw[List.replicate_succ,List.set_cons_succ,mN,Ab,IB (by simpa using h) zom];grind
def uUQ{e:Nat}{old w:List Rat}(hl:old.length=w.length+1)(he:e<w.length)(ha:old[e]! ≠ 0):dt (x9 e old) w=(w[e]!-(dt old w-old[e]!*w[e]!))/old[e]! := by
 have h1:dt (x9 e old) w=dt ((List.replicate (w.length+1) 0).set e ((1+old[e]!)/old[e]!)) w+(- (1/old[e]!))*dt old w:=by
  refine FA zsm hl (by simp[x9,hl]) fun j hj=>?_
  unfold x9;rw[oD (by omega:j<old.length),sN (by simpa using hj)];by_cases h:j=e
  .subst h;rw[zE rfl,zE rfl];grind
  .rw[zB h,zB (y9 h),gp (by simpa using hj:j<(List.replicate (w.length+1) (0:Rat)).length)];simp only[nA];grind
 rw[h1,IB rfl he];grind
def uUP{e:Nat}{f l w:List Rat}(hl:l.length=w.length+1)(hf:f.length=w.length+1)(he:e<w.length):dt (vC e f l) w=dt l w-l[e]!*w[e]! + l[e]!*dt f w:=by
 have h1:dt (vC e f l) w=dt (l.set e 0) w+l[e]!*dt f w:=by
  refine FA (by simp[hl]) hf (by simp[vC,hl]) fun j hj=>?_
  unfold vC;rw[oD (by omega:j<l.length),sN zom];by_cases h:j=e
  .subst h;simp
  .rw[zB h,zB (y9 h)]
 have h3:=FA (l:=l) (f:=(List.replicate (w.length+1) 0).set e 1) (g:=l.set e 0) (w:=w) (c:=- l[e]!) hl zsm (by simp[hl]) fun j hj=>by
  rw[sN zom,sN (by simpa using hj)];by_cases h:e=j
  .subst h;rw[zE rfl,zE rfl];grind
  .rw[zB h,zB h,gp (by simpa using hj:j<(List.replicate (w.length+1) (0:Rat)).length)];simp only[nA];grind
 rw[h1,h3,IB rfl he];grind
end Go.PI.SX
namespace Go.PI
open SX
section
variable {α:Type} [Inhabited α] (lt:α->α->Bool)
def DN(l:List α)(j:Nat):List α:=(l.set j l[j-1]!).set (j-1) l[j]!
def bB:Nat->List α->List α
 |0,l=>l
 |j+1,l=>if lt l[j+1]! l[j]! then bB j (DN l (j+1)) else l
def qF:Nat->List α->List α
 |0,l=>l
 |i+1,l=>bB lt i (qF i l)
end
variable {α:Type} [Inhabited α] {lt:α->α->Bool}
def Py(l:List α)(j:Nat):(DN l j).length=l.length:=by simp[DN]
def uLC{l:List α}{j:Nat}(h:j<l.length){x:α}(hx:x∈DN l j):x∈l:=by
 unfold DN at hx;rcases bR hx with h1|h1
 .rcases bR h1 with h2|h2
  .exact h2
  .rw[h2];exact x6 zom
 .rw[h1];exact x6 h
def Wy:∀ (j:Nat) (l:List α),(bB lt j l).length=l.length
 |0,_=>rfl
 |j+1,l=>by unfold bB;split;rw[Wy j,Py];rfl
def Wz:∀ (j:Nat) (l:List α),j<l.length->∀ x∈bB lt j l,x∈l
 |0,_,_,_,h=>h
 | j+1,l,hj,x,h=>by
   unfold bB at h
   split at h
   .exact uLC hj (Wz j _ (by rw[Py];omega) x h)
   .exact h
def Kw:∀ (i:Nat) (l:List α),(qF lt i l).length=l.length
 |0,_=>rfl
 |i+1,l=>by unfold qF;rw[Wy,Kw i]
def W5:∀ (i:Nat) (l:List α),i<=l.length->∀ x∈qF lt i l,x∈l
 |0,_,_,_,h=>h
 | i+1,l,hi,x,h=>by
   unfold qF at h;exact W5 i l zom x (Wz i _ (by rw[Kw];omega) x h)
variable {r:FR}{v:Nat}{l:List FR}{k:Nat}{a:FR}{i:Nat}
def Pz{p:FR->Bool}{m:List FR}  (h:p r=true):(m++[r]).filter p=m.filter p++[r]:=by
 rw[NI,Mx h];rfl
def P5{p:FR->Bool}{m:List FR}  (h:¬ p r=true):(m++[r]).filter p=m.filter p:=by
 rw[NI,My h,List.filter_nil,mV]
def upI(l:List FR)(v:Nat)(i:Nat):Nat:=((l.take i).filter fun(r:FR)=>decide (0<r.c[v]!)).length
def dnI(l:List FR)(v:Nat)(i:Nat):Nat:=((l.take i).filter fun(r:FR)=>decide (r.c[v]! < 0)).length
def nO(l:List FR)(v:Nat):Nat:=upI l v l.length*dnI l v l.length
def P6   (h:i<l.length):upI l v (i+1)=if 0<l[i]!.c[v]! then upI l v i+1 else upI l v i:=by
 unfold upI;rw[tO h,zS l i h];by_cases hc:0<l[i].c[v]!
 .rw[zE hc,Pz (by simpa using hc),xR];rfl
 .rw[zB hc,P5 (by simpa using hc)]
def P7   (h:i<l.length):dnI l v (i+1)=if l[i]!.c[v]! < 0 then dnI l v i+1 else dnI l v i:=by
 unfold dnI;rw[tO h,zS l i h];by_cases hc:l[i].c[v]! < 0
 .rw[zE hc,Pz (by simpa using hc),xR];rfl
 .rw[zB hc,P5 (by simpa using hc)]
def uRW(l:List FR)(v i:Nat):upI l v i<=i:=wS (GG _ _) (by rw[wG];omega)
def P8(l:List FR)(v i:Nat):dnI l v i<=i:=wS (GG _ _) (by rw[wG];omega)
def wW(a b:FR)(v:Nat):List Int:=(List.range a.c.length).map fun n=>a.c[n]!*((0:Int)-b.c[v]!)+b.c[n]!*a.c[v]!
def aT(a b:FR)(v:Nat)(i:Nat):List Int:=(List.range a.c.length).map fun n=>if n<i then a.c[n]!*((0:Int)-b.c[v]!)+b.c[n]!*a.c[v]! else(0:Int)
def uG3(a b:FR)(v i:Nat):(aT a b v i).length=a.c.length:=by simp[aT]
def uG4(a b:FR)(v:Nat):aT a b v a.c.length=wW a b v:=by
 unfold aT wW;refine rL fun n hn=>?_
 rw[zE (yN.1 hn)]
def uG2{b:FR}  (h:i<a.c.length):(aT a b v i).set i (a.c[i]!*((0:Int)-b.c[v]!)+b.c[i]!*a.c[v]!)=aT a b v (i+1):=Pt _ (fun n=>a.c[n]!*((0:Int)-b.c[v]!)+b.c[n]!*a.c[v]!) 0 h
def iC(a b:FR)(v k:Nat):Prop:=0<a.c[v]! /\ b.c[v]! < 0/\DD (a.fm ||| b.fm)<=k+1
instance (a b:FR) (v k:Nat):Decidable (iC a b v k):=by unfold iC;exact inferInstance
def qG(a b:FR)(v:Nat):FR:=⟨rY (wW a b v),a.fm ||| b.fm⟩
def elS(v k:Nat)(o:Option (List FR))(a b:FR):Option (List FR):=match o with
 |none=>none
 |some out=>if iC a b v k then(if qO (wW a b v)=true then some (out++[qG a b v]) else none) else some out
def elJ(v k:Nat)(l:List FR)(a:FR)(o:Option (List FR))(j:Nat):Option (List FR):=(l.take j).foldl (fun o b=>elS v k o a b) o
def elI(v k:Nat)(l:List FR)(o:Option (List FR))(i:Nat):Option (List FR):=(l.take i).foldl (fun o a=>elJ v k l a o l.length) o
def jA(l:List FR)(v i:Nat):List FR:=(l.take i).filter fun(r:FR)=>decide (r.c[v]! = 0)
def jB(l:List FR)(v k:Nat):Option (List FR):=elI v k l (some (jA l v l.length)) l.length
def W6    {o:Option (List FR)}{j:Nat}(h:j<l.length):elJ v k l a o (j+1)=elS v k (elJ v k l a o j) a l[j]! := by
 unfold elJ;rw[tO h,dF,zS l j h];rfl
def W7   {o:Option (List FR)}  (h:i<l.length):elI v k l o (i+1)=elJ v k l l[i]! (elI v k l o i) l.length:=by
 unfold elI;rw[tO h,dF,zS l i h];rfl
def Ky(v k:Nat)(a:FR):∀ (m:List FR),m.foldl (fun o b=>elS v k o a b) none=none
 |[]=>rfl
 |_::m=>Ky v k a m
def uGI    {o:Option (List FR)}{j:Nat}(h:elJ v k l a o j=none)(_hj:j<=l.length):elJ v k l a o l.length=none:=by
 unfold elJ at h ⊢;have e:l.foldl (fun o b=>elS v k o a b) o=(l.drop j).foldl (fun o b=>elS v k o a b) ((l.take j).foldl (fun o b=>elS v k o a b) o):=by rw[<- dF,Ac]
 rw[kK,e,h];exact Ky v k a _
def W8(v k:Nat)(l:List FR):∀ (m:List FR),m.foldl (fun o a=>elJ v k l a o l.length) none=none
 |[]=>rfl
 | _::m=>by
   rw[List.foldl_cons,show elJ v k l _ none l.length=none from Ky v k _ _];exact W8 v k l m
def uGJ   {o:Option (List FR)}  (h:elI v k l o i=none)(_hi:i<=l.length):elI v k l o l.length=none:=by
 unfold elI at h ⊢;have e:l.foldl (fun o a=>elJ v k l a o l.length) o=(l.drop i).foldl (fun o a=>elJ v k l a o l.length) ((l.take i).foldl (fun o a=>elJ v k l a o l.length) o):=by rw[<- dF,Ac]
 rw[kK,e,h];exact W8 v k l _
def vTK   (h:i<l.length):jA l v (i+1)=if l[i]!.c[v]! = 0 then jA l v i++[l[i]!] else jA l v i:=by
 unfold jA;rw[tO h,zS l i h];by_cases hc:l[i].c[v]! = 0
 .rw[zE hc,Pz (by simpa using hc)]
 .rw[zB hc,P5 (by simpa using hc)]
def W9(l:List FR)(v i:Nat):(jA l v i).length<=i:=wS (GG _ _) (by rw[wG];omega)
def XA(l:List FR)(v:Nat):∀ {i j:Nat},i<=j->j<=l.length->upI l v i<=upI l v j:=fun {i j} h hj=>by
 unfold upI;have e:l.take i=(l.take j).take i:=by rw[List.take_take,GV h]
 rw[e];exact((NM _ _).filter _).length_le
def XB  {O out:List FR}{b:FR}(h:elS v k (some O) a b=some out):out.length<=O.length+(if 0<a.c[v]! /\ b.c[v]! < 0 then 1 else 0):=by
 unfold elS at h;dsimp only at h
 split at h
 .rename_i hg
  split at h
  .cases h;rw[zE ⟨hg.1,hg.2.1⟩];simp
  .cases h
 .cases h;exact Aj _ _
structure okRw(m:Nat)(r:FR):Prop where
 len:r.c.length=m
 sm:∀ x∈r.c,okG x
 fm:r.fm<4611686018427387904
def okRw.at{m:Nat}  (h:okRw m r)  (hi:i<m):okG r.c[i]! := h.sm _ (by rw[zS r.c i (by rw[h.len];exact hi)];exact wA _)
def Kz{a b:Int}(ha:okG a)(hb:okG b):-1152921504606846976<=a*b/\a*b<=1152921504606846976:=by
 have h:(a*b).natAbs<=1073741824*1073741824:=by
  rw[dG];unfold okG at ha hb;exact gW zom zom
 omega
def P9{a:Int}(h:okG a):okG (0-a):=by unfold okG at *;omega
def uUY{m:Nat}{b:FR}  (ha:okRw m a)(hb:okRw m b)(hv:v<m):∀ x∈wW a b v,x.natAbs<=4611686018427387904:=fun x hx=>by
 obtain⟨n,hn,rfl⟩:=zW.1 hx;have hn:n<m:=by rw[<- ha.len];exact yN.1 hn
 have h1:=Kz (ha.at hn) (P9 (hb.at hv));have h2:=Kz (hb.at hn) (ha.at hv);omega
def XC{m:Nat}{b:FR}  (ha:okRw m a)(hb:okRw m b)(h:qO (wW a b v)=true):okRw m (qG a b v) :=
 ⟨by show(rY _).length=m;rw[Ke];simp[wW,ha.len],(PS h).2,by
   have h1:=ha.fm;have h2:=hb.fm;have:a.fm ||| b.fm<2^62:=NL zom zom
   show a.fm ||| b.fm<_;omega⟩
def uPO  {P:FR->Prop}{o:Option (List FR)}{b:FR}(hs:iC a b v k->qO (wW a b v)=true->P (qG a b v))(ho:∀ out,o=some out->∀ r∈out,P r):∀ out,elS v k o a b=some out->∀ r∈out,P r:=fun out h r hr=>by
 unfold elS at h;cases o with
 |none=>cases h
 | some o =>
   dsimp only at h
   split at h
   .rename_i hg
    split at h
    .rename_i hb
     cases h
     rcases y8.1 hr with hr|hr
     .exact ho _ rfl r hr
     .rw[yG.1 hr];exact hs hg hb
    .cases h
   .cases h;exact ho _ rfl r hr
def XD{v k:Nat}{P:FR->Prop}{a:FR}:∀ (m:List FR) (o:Option (List FR)),(∀ b∈m,iC a b v k->qO (wW a b v)=true->P (qG a b v))->(∀ out,o=some out->∀ r∈out,P r)->∀ out,m.foldl (fun o b=>elS v k o a b) o=some out->∀ r∈out,P r
 |[],_,_,ho=>ho
 |b::m,o,hs,ho=>XD m _ (fun c hc=>hs c (xN _ hc)) (uPO (hs b zsm) ho)
def XE{v k:Nat}{P:FR->Prop}{l:List FR}:∀ (m:List FR) (o:Option (List FR)),(∀ a∈m,∀ b∈l,iC a b v k->qO (wW a b v)=true->P (qG a b v))->(∀ out,o=some out->∀ r∈out,P r)->∀ out,m.foldl (fun o a=>elJ v k l a o l.length) o=some out->∀ r∈out,P r
 |[],_,_,ho=>ho
 | a::m,o,hs,ho=>XE m _ (fun c hc=>hs c (xN _ hc)) (fun out h=>by
   unfold elJ at h;rw[kK]at h
   exact XD l o (hs a zsm) ho out h)
def QA   {P:FR->Prop}(hz:∀ r∈l,r.c[v]! = 0->P r)(hs:∀ a∈l,∀ b∈l,iC a b v k->qO (wW a b v)=true->P (qG a b v)){out:List FR}(h:jB l v k=some out):∀ r∈out,P r:=by
 unfold jB elI at h;rw[kK]at h;refine XE l _ hs (fun o ho=>?_) out h;cases ho
 intro r hr;unfold jA at hr;rw[kK]at hr;obtain⟨h1,h2⟩:=gT.1 hr;exact hz r h1 (mS h2)
structure EnS where
 low:Bool
 high:Bool
 least:Rat
 most:Rat
variable {a c:Int}
def enV(a c:Int):Rat:=if 0<a then mkRat (0-c) a.natAbs else mkRat c a.natAbs
def enS(s:EnS)(a c:Int):EnS :=
 if a=0 then s
 else if 0<a then⟨true,s.high,if s.low=false\/s.least<enV a c then enV a c else s.least,s.most⟩
 else⟨s.low,true,s.least,if s.high=false\/enV a c<s.most then enV a c else s.most⟩
def enI(l:List FR)(n:Nat):Nat->Option EnS
 |0=>some ⟨false,false,0,0⟩
 | i+1=>match enI l n i with
   |none=>none
   |some s=>if l[i]!.c[n]! = 0/\l[i]!.c[n+1]! < 0 then none else some (enS s l[i]!.c[n]! l[i]!.c[n+1]!)
def enR(o:Option EnS):Int×Rat:=match o with
 |none=>(2,0)
 |some s=>if s.low=true/\s.high=true/\s.most<s.least then(2,0) else if s.low=false then(3,0) else(1,s.least)
def rE(l:List FR)(n:Nat):Int×Rat:=enR (enI l n l.length)
def XF {l : List FR} {n i:Nat} (h:enI l n i=none):∀ j,i<=j->enI l n j=none
 | 0, hj => by have:i=0:=zom
               subst this;exact h
 | j+1,hj=>by
   by_cases e:i=j+1
   .subst e;exact h
   .unfold enI;rw[XF h j zom]
def bC  (h:0<a):(0:Rat)<(a:Rat):=by exact_mod_cast h
def uUM  {t:Rat}(ha:0<a)(h:0<=(a:Rat)*t+(c:Rat)):enV a c<=t:=by
 unfold enV;rw[zE ha,GR]
 have e:((a.natAbs:Nat):Rat)=(a:Rat):=by
  have h1:((a.natAbs:Nat):Int)=a:=zom
  have h2:(((a.natAbs:Nat):Int):Rat)=((a:Int):Rat):=by rw[h1]
  exact h2
 rw[e];have hp:=bC ha;refine mX.1 fun h2=>?_
 have h3:=Tn h2 hp;have h4:(a:Rat)*(((0-c:Int):Rat)/(a:Rat))=((0-c:Int):Rat):=by rw[Jd];exact Ad (fun e=>by rw[e]at hp;exact absurd hp zdd)
 rw[h4,NR]at h3
 grind
def uUN  {t:Rat}(ha:a<0)(h:0<=(a:Rat)*t+(c:Rat)):t<=enV a c:=by
 unfold enV;rw[zB zom,GR]
 have e:((a.natAbs:Nat):Rat)=- (a:Rat):=by
  have:((a.natAbs:Nat):Int)=- a:=zom
  have h2:(((a.natAbs:Nat):Int):Rat)=((- a:Int):Rat):=by rw[this]
  rw[Rat.intCast_neg]at h2;exact h2
 rw[e]
 have hp:(0:Rat)< - (a:Rat):=by
  have:=bC (a:=-a) zom
  rwa [Rat.intCast_neg]at this
 refine mX.1 fun h2=>?_
 have h3:=Tn h2 hp;have h4:- (a:Rat)*((c:Rat) / - (a:Rat))=(c:Rat):=by rw[Jd];exact Ad (fun e=>by rw[e]at hp;exact absurd hp zdd)
 rw[h4]at h3
 grind
def XG{l:List FR}{n:Nat}{t:Rat}(h:∀ i,i<l.length->0<=((l[i]!.c[n]! : Int):Rat)*t+((l[i]!.c[n+1]! : Int):Rat)):∀ i,i<=l.length->∃ s,enI l n i=some s/\(s.low=true->s.least<=t)/\(s.high=true->t<=s.most)
 |0,_=>⟨_,rfl,fun e=>(by cases e),fun e=>(by cases e)⟩
 | i + 1,hi=>by
   obtain⟨s,h1,h2,h3⟩:=XG h i zom;have hr:=h i zom;unfold enI;rw[h1];dsimp only
   have hn:¬ (l[i]!.c[n]! = 0/\l[i]!.c[n+1]! < 0):=by
    rintro⟨e1,e2⟩
    rw[e1]at hr;have:((l[i]!.c[n+1]! : Int):Rat)<0:=by exact_mod_cast e2
    have e0:((0:Int):Rat)=0:=rfl;rw[e0]at hr
    grind
   rw[zB hn];refine⟨_,rfl,?_,?_⟩
   .unfold enS
    split
    .exact h2
    .split
     .rename_i hp
      intro _;dsimp only
      split
      .exact uUM hp hr
      .rename_i hc
       exact h2 (by cases hs:s.low;exact absurd (zF hs) hc;rfl)
     .exact h2
   .unfold enS
    split
    .exact h3
    .rename_i h0
     split
     .exact h3
     .rename_i hp
      intro _;dsimp only
      split
      .exact uUN zom hr
      .rename_i hc
       exact h3 (by cases hs:s.high;exact absurd (zF hs) hc;rfl)
def uPK{l:List FR}{n:Nat}{t:Rat}(h:∀ i,i<l.length->0<=((l[i]!.c[n]! : Int):Rat)*t+((l[i]!.c[n+1]! : Int):Rat)):(rE l n).1=3\/(rE l n).1=1/\(rE l n).2<=t:=by
 obtain⟨s,h1,h2,h3⟩:=XG h l.length (zX _);unfold rE enR;rw[h1];dsimp only
 have hn:¬ (s.low=true/\s.high=true/\s.most<s.least):=by
  rintro⟨e1,e2,e3⟩
  have:=h2 e1;have:=h3 e2;grind
 rw[zB hn]
 split
 .exact zF rfl
 .rename_i hl
  exact zC ⟨rfl,h2 (by cases hs:s.low;exact absurd hs hl;rfl)⟩
def XH  (ha:okG a)(hc:okG c)(h0:a≠0):sz 2 (enV a c):=by
 unfold okG at ha hc;have h1:a.natAbs<pw 1:=nB (show a.natAbs<=1073741824 by omega) zdd;unfold enV
 split
 .exact xV zdd (El (k:=1) zom (nB (show(0-c).natAbs<=1073741824 by omega) zdd) h1)
 .exact xV zdd (El (k:=1) zom (nB (show c.natAbs<=1073741824 by omega) zdd) h1)
def XI{s:EnS}  (ha:okG a)(hc:okG c)(h:sz 2 s.least/\sz 2 s.most):sz 2 (enS s a c).least/\sz 2 (enS s a c).most:=by
 unfold enS
 split
 .exact h
 .rename_i h0
  have:=XH ha hc h0
  split
  .dsimp only
   refine⟨?_,h.2⟩
   split
   .exact this
   .exact h.1
  .dsimp only
   refine⟨h.1,?_⟩
   split
   .exact this
   .exact h.2
variable {a:FR}{v i:Nat}
def XJ(l:List FR)(v:Nat)(o:Option Nat):Bool:=match o with
 |none=>true
 |some b=>decide (nO l v<nO l b)
def l9(l:List FR)(done:List Bool):Nat->Option Nat
 |0=>none
 |v+1=>if done[v]! = false/\XJ l v (l9 l done v)=true then some v else l9 l done v
def K3(l:List FR)(done:List Bool):∀ v,(∀ b,l9 l done v=some b->b<v/\done[b]! = false)/\(l9 l done v=none->∀ u,u<v->done[u]! = true)
 |0=>⟨fun b e=>(by cases e),fun _ u hu=>zom⟩
 | v + 1=>by
   obtain⟨h1,h2⟩:=K3 l done v;unfold l9
   split
   .rename_i hc
    exact⟨fun b e=>(by cases e;exact⟨nC _,hc.1⟩),fun e=>(by cases e)⟩
   .rename_i hc
    refine⟨fun b e=>⟨by have:=(h1 b e).1;omega,(h1 b e).2⟩,fun e u hu=>?_⟩;by_cases hu2:u=v
    .subst hu2
     cases hd:done[u]! with
     |true=>rfl
     |false=>exact absurd ⟨hd,(by rw[e];rfl)⟩ hc
    .exact h2 e u zom
structure FeS where
 l:List FR
 done:List Bool
 deriving Inhabited
def feS(n k:Nat)(s:FeS):Option FeS:=match l9 s.l s.done n with
 |none=>none
 | some b=>if 20000<nO s.l b then none else match jB s.l b k with
   |none=>none
   |some l'=>some ⟨l',s.done.set b true⟩
def feI(n:Nat)(l0:List FR):Nat->Option FeS
 |0=>some ⟨l0,List.replicate n false⟩
 | k+1=>match feI n l0 k with
   |none=>none
   |some s=>feS n (k+1) s
def XK {n : Nat} {l0:List FR} {i:Nat} (h:feI n l0 i=none):∀ j,i<=j->feI n l0 j=none
 | 0, hj => by have:i=0:=zom
               subst this;exact h
 | j+1,hj=>by
   by_cases e:i=j+1
   .subst e;exact h
   .unfold feI;rw[XK h j zom]
def feV(n:Nat)(l0:List FR):Int×Rat:=match feI n l0 n with
 |none=>(0,0)
 |some s=>rE s.l n
def aU(d:List Bool):Nat:=(d.filter fun b=>b).length
def QB:∀ (d:List Bool) (b:Nat),b<d.length->d[b]! = false->aU (d.set b true)=aU d+1
 |[],b,h,_=>by simp at h
 | x::d,0,_,h2=>by
   have:x=false:=by simpa using h2
   subst this;simp[aU]
 | x::d,b+1,h,h2=>by
   have ih:=QB d b (by simpa using h) (by simpa using h2);unfold aU at ih ⊢;cases x<;>simp[ih]
def XL:∀ (d:List Bool),(∀ u,u<d.length->d[u]! = true)->aU d=d.length
 |[],_=>rfl
 | x::d,h=>by
   have h0:x=true:=by simpa using h 0 zsm
   have ih:=XL d fun u hu=>by simpa using h (u+1) (by simpa using hu)
   subst h0;unfold aU at ih ⊢;simp[ih]
structure FeP(n m k:Nat)(s:FeS):Prop where
 rw:∀ r∈s.l,okRw m r
 dl:s.done.length=n
 cnt:aU s.done=k
 zero:∀ u,u<n->s.done[u]! = true->∀ r∈s.l,r.c[u]! = 0
def uG1{b:FR}  (h:qO (wW a b v)=true)(hi:i<a.c.length):∃ e:Int,0<e/\(qG a b v).c[i]!*e=a.c[i]!*(0-b.c[v]!)+b.c[i]!*a.c[v]! := by
 obtain⟨e,he,hm⟩:=Kg h;have hl:(wW a b v).length=a.c.length:=by simp[wW]
 refine⟨e,he,?_⟩;have:=hm i zom;rw[show(qG a b v).c=rY (wW a b v) from rfl,this];rw[zS (wW a b v) i zom];simp[wW]
def uA1{b:FR}  (h:qO (wW a b v)=true)(hi:i<a.c.length)(h0:a.c[i]!*(0-b.c[v]!)+b.c[i]!*a.c[v]! = 0):(qG a b v).c[i]! = 0:=by
 obtain⟨e,he,hm⟩:=uG1 h hi;rw[h0]at hm;rcases Int.mul_eq_zero.1 hm with h|h
 .exact h
 .omega
def FeP.step{n m k:Nat}{s:FeS}(h:FeP n m k s)(hk:k<n)(hm:n<=m):(∃ b,l9 s.l s.done n=some b/\b<n)/\∀ s',feS n (k+1) s=some s'->FeP n m (k+1) s':=by
 obtain⟨b1,b2⟩:=K3 s.l s.done n
 have hex:∃ b,l9 s.l s.done n=some b/\b<n:=by
  cases hb:l9 s.l s.done n with
  | none =>
    have:=XL s.done fun u hu=>b2 hb u (by rw[<- h.dl];exact hu)
    have:=h.cnt;have:=h.dl;omega
  |some b=>exact⟨b,rfl,(b1 b hb).1⟩
 refine⟨hex,fun s' hs=>?_⟩;obtain⟨b,hb,hbn⟩:=hex;unfold feS at hs;rw[hb]at hs;dsimp only at hs
 split at hs
 .cases hs
 .cases hE:jB s.l b (k+1) with
  |none=>rw[hE]at hs;cases hs
  | some l' =>
    rw[hE]at hs;cases hs
    have hbd:=(b1 b hb).2;refine⟨QA (P:=okRw m) (fun r hr _=>h.rw r hr) (fun a ha c hc _ hB=>XC (h.rw a ha) (h.rw c hc) hB) hE,by simpa using h.dl,by rw[QB _ _ (by rw[h.dl];exact hbn) hbd,h.cnt],fun u hu hd=>?_⟩;refine QA (P:=fun r=>r.c[u]! = 0) (fun r hr hz=>?_) (fun a ha c hc hg hB=>?_) hE
    .by_cases e:u=b
     .subst e;exact hz
     .have hd2:s.done[u]! = true:=by
       have h1:u<s.done.length:=by rw[h.dl];exact hu
       rw[zS _ u (by simpa using h1),CW zom]at hd;rw[zS _ u h1];exact hd
      exact h.zero u hu hd2 r hr
    .have hal:=(h.rw a ha).len
     refine uA1 hB zom ?_;by_cases e:u=b
     .subst e;grind
     .have hd2:s.done[u]! = true:=by
       have h1:u<s.done.length:=by rw[h.dl];exact hu
       rw[zS _ u (by simpa using h1),CW zom]at hd;rw[zS _ u h1];exact hd
      rw[h.zero u hu hd2 a ha,h.zero u hu hd2 c hc];simp
def FB{n m:Nat}{l0:List FR}(h:∀ r∈l0,okRw m r)(hm:n<=m):∀ k,k<=n->∀ s,feI n l0 k=some s->FeP n m k s
 | 0,_,s,hs=>by
   cases hs
   refine⟨h,zsm,by simp[aU],fun u hu hd=>?_⟩;rw[zS _ u (by simpa using hu),nA]at hd;cases hd
 | k + 1,hk,s,hs=>by
   unfold feI at hs;cases hp:feI n l0 k with
   |none=>rw[hp]at hs;cases hs
   | some s0 =>
     rw[hp]at hs;exact((FB h hm k zom s0 hp).step zom hm).2 s hs
def oZ(c:List Int)(y:Nat->Rat):Nat->Rat
 |0=>0
 |i+1=>oZ c y i+((c[i]! : Int):Rat)*y i
def fV(m:Nat)(y:Nat->Rat)(r:FR):Prop:=0<=oZ r.c y m
def XM{c a b:List Int}{y:Nat->Rat}{p q e:Rat}:∀ {m:Nat},(∀ i,i<m->((c[i]! : Int):Rat)*e=((a[i]! : Int):Rat)*p+((b[i]! : Int):Rat)*q)->oZ c y m*e=oZ a y m*p+oZ b y m*q
 |0,_=>by simp only[oZ];grind
 | m+1,h=>by
   have h1:=XM (y:=y) (m:=m) fun i hi=>h i zom
   have h2:=h m (nC _);simp only[oZ]
   grind
theorem cmb_holds{m:Nat}{y:Nat->Rat}{b:FR}  (hal:a.c.length=m)(h:qO (wW a b v)=true)(h1:0<a.c[v]!)(h2:b.c[v]! < 0)(ha:fV m y a)(hb:fV m y b):fV m y (qG a b v):=by
 obtain⟨e,he,hm⟩:=Kg h;have hl:(wW a b v).length=a.c.length:=by simp[wW]
 have key:=XM (c:=(qG a b v).c) (a:=a.c) (b:=b.c) (y:=y) (p:=((0-b.c[v]! : Int):Rat)) (q:=((a.c[v]! : Int):Rat)) (e:=(e:Rat)) (m:=m) fun i hi=>by
  have h3:=hm i zom;rw[zS (wW a b v) i zom]at h3;have h4:(rY (wW a b v))[i]!*e=a.c[i]!*(0-b.c[v]!)+b.c[i]!*a.c[v]! := by rw[h3];simp[wW]
  show(((rY (wW a b v))[i]! : Int):Rat)*(e:Rat)=_
  rw[<- Jb,h4,Rat.intCast_add,Jb,Jb]
 have hp:(0:Rat)<((0-b.c[v]! : Int):Rat):=bC zom;have hq:(0:Rat)<((a.c[v]! : Int):Rat):=bC h1;have hee:(0:Rat)<(e:Rat):=bC he;unfold fV at *
 have h5:=qV ha (nX hp);have h6:=qV hb (nX hq);refine mX.1 fun hlt=>?_
 have h7:=Rat.mul_lt_mul_of_pos_right hlt hee
 grind
theorem feI_holds {n m:Nat} {l0:List FR} {y:Nat->Rat} (h:∀ r∈l0,okRw m r) (hm:n<=m) (hy:∀ r∈l0,fV m y r):∀ k,k<=n->∀ s,feI n l0 k=some s->∀ r∈s.l,fV m y r
 |0,_,s,hs=>by cases hs;exact hy
 | k + 1,hk,s,hs=>by
   unfold feI at hs;cases hp:feI n l0 k with
   |none=>rw[hp]at hs;cases hs
   | some s0 =>
     rw[hp]at hs;have h0:=feI_holds h hm hy k zom s0 hp;have hP:=FB h hm k zom s0 hp;dsimp only at hs;unfold feS at hs
     split at hs
     .cases hs
     .split at hs
      .cases hs
      .split at hs
       .cases hs
       .rename_i l' hE
        cases hs
        exact QA (P:=fV m y) (fun r hr _=>h0 r hr) (fun a ha b hb hg hB=>cmb_holds (hP.rw a ha).len hB hg.1 hg.2.1 (h0 a ha) (h0 b hb)) hE
def vU4{c:List Int}{y:Nat->Rat}{n:Nat}(h:∀ u,u<n->c[u]! = 0):oZ c y (n+2)=((c[n]! : Int):Rat)*y n+((c[n+1]! : Int):Rat)*y (n+1):=by
 have h0:∀ k,k<=n->oZ c y k=0:=fun k=>by
  induction k with
  |zero=>intro _;rfl
  | succ k ih =>
    intro hk;simp only[oZ];rw[ih zom,h k zom];have:((0:Int):Rat)=0:=rfl;rw[this];grind
 simp only[oZ];rw[h0 n (zX _)];grind
def uUC{n:Nat}{l0:List FR}{y:Nat->Rat}(h:∀ r∈l0,okRw (n+2) r)(hy:∀ r∈l0,fV (n+2) y r)(h1:y (n+1)=1):(feV n l0).1=0\/(feV n l0).1=3\/(feV n l0).1=1/\(feV n l0).2<=y n:=by
 unfold feV;cases hs:feI n l0 n with
 |none=>exact zF rfl
 | some s =>
   right
   have hP:=FB h zom n (zX _) s hs;have hH:=feI_holds h zom hy n (zX _) s hs;refine uPK fun i hi=>?_
   have hr:=Pq hi
   have hz:∀ u,u<n->s.l[i]!.c[u]! = 0:=fun u hu=>hP.zero u hu (by
    refine kJ fun hne=>?_
    have hf:s.done[u]! = false:=by simpa using hne
    have h2:=QB s.done u (by rw[hP.dl];exact hu) hf;have h3:aU (s.done.set u true)<=(s.done.set u true).length:=GG _ _
    rw[Am,hP.dl,h2,hP.cnt]at h3;omega) _ hr
   have:=hH _ hr;unfold fV at this;rw[vU4 hz,h1]at this;rw[Rat.mul_one]at this;exact this
def XN{v k:Nat}{a:FR}{l:List FR}{O:List FR}:∀ j,j<=l.length->∀ Q,elJ v k l a (some O) j=some Q->Q.length<=O.length+(if 0<a.c[v]! then dnI l v j else 0)
 |0,_,Q,h=>by cases h;exact Aj _ _
 | j + 1,hj,Q,h=>by
   rw[W6 zom]at h;cases hp:elJ v k l a (some O) j with
   |none=>rw[hp]at h;cases h
   | some P =>
     rw[hp]at h;have h1:=XN j zom P hp;have h2:=XB h;rw[P7 zom];by_cases ha:0<a.c[v]!
     .rw[zE ha]at h1 ⊢
      by_cases hb:l[j]!.c[v]! < 0
      .rw[zE ⟨ha,hb⟩]at h2;rw[zE hb];omega
      .rw[zB (fun e=>hb e.2)]at h2;rw[zB hb];omega
     .rw[zB ha]at h1 ⊢
      rw[zB (fun e=>ha e.1)]at h2;omega
def XO{v k:Nat}{l:List FR}{Z:List FR}:∀ i,i<=l.length->∀ Q,elI v k l (some Z) i=some Q->Q.length<=Z.length+upI l v i*dnI l v l.length
 |0,_,Q,h=>by cases h;exact Aj _ _
 | i + 1,hi,Q,h=>by
   rw[W7 zom]at h;cases hp:elI v k l (some Z) i with
   | none =>
     rw[hp]at h;have:elJ v k l l[i]! none l.length=none:=Ky v k _ _;rw[this]at h;cases h
   | some P =>
     rw[hp]at h;have h1:=XO i zom P hp;have h2:=XN l.length (zX _) Q h;rw[P6 zom];by_cases ha:0<l[i]!.c[v]!
     .rw[zE ha]at h2 ⊢;rw[w6,Ch];omega
     .rw[zB ha]at h2 ⊢;omega
def uPM{l out:List FR}{k:Nat}(h:jB l v k=some out):out.length<=l.length+nO l v:=by
 have:=XO l.length (zX _) out h;have h2:=W9 l v l.length;unfold nO;omega
def XP {n:Nat} {l0:List FR}:∀ k s,feI n l0 k=some s->s.l.length<=l0.length+20000*k
 |0,s,h=>by cases h;exact Aj _ _
 | k + 1,s,h=>by
   unfold feI at h;cases hp:feI n l0 k with
   |none=>rw[hp]at h;cases h
   | some s0 =>
     rw[hp]at h;have h1:=XP k s0 hp;dsimp only at h;unfold feS at h
     split at h
     .cases h
     .split at h
      .cases h
      .rename_i hle
       split at h
       .cases h
       .rename_i hE
        cases h
        have:=uPM hE;dsimp only;omega
noncomputable def rw0(A:List QF)(n i:Nat):List FR:=(List.range i).map fun j=>⟨(rD (frX A[j]! (n+1))).1,2^j⟩
def DR(A:List QF)(n i:Nat):Prop:=∀ j,j<i->(rD (frX A[j]! (n+1))).2=true
def K4(A:List QF)(n i:Nat):(rw0 A n i).length=i:=by simp[rw0]
def uDC(A:List QF)(n i:Nat):rw0 A n (i+1)=rw0 A n i++[⟨(rD (frX A[i]! (n+1))).1,2^i⟩]:=by
 unfold rw0;rw[kM,wB];rfl
def K5{A:List QF}{n:Nat}(h:DR A n i)(hi:i<=62):∀ r∈rw0 A n i,okRw (n+2) r:=fun r hr=>by
 obtain⟨j,hj,rfl⟩:=zW.1 hr;have hj:=yN.1 hj;obtain⟨h1,h2,_⟩:=Pw (h j hj);exact⟨by show(rD _).1.length=_;rw[h1,iA],h2,w9 (M8 zdd (show j<62 by omega)) zdd⟩
open Classical in
noncomputable def uD(A:List QF)(n:Nat):Int×Rat:=if A.length<=62/\DR A n A.length then feV n (rw0 A n A.length) else(0,0)
def nP(l:List QT)(y:Nat->Rat):Nat->Rat
 |0=>0
 |i+1=>nP l y i+cf l i*y i
def XQ{c:List Int}{f:QF}{y:Nat->Rat}{s:Rat}:∀ (m:Nat),(∀ (i:Nat),i<m->((c[i]! : Int):Rat)=s*cf f.ts i)->oZ c y m=s*(nP f.ts y m)
 |0,_=>by simp only[oZ,nP];grind
 | m+1,h=>by
   simp only[oZ,nP];rw[XQ m fun i hi=>h i zom,h m (nC _)];grind
def zD{p:Prop}(h:p:=by exact zG rfl rfl):p:=h
def zM{p:Prop}(h:p:=by exact xI rfl rfl):p:=h
end Go.PI
