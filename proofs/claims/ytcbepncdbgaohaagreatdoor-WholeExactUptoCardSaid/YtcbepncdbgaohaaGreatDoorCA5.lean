/-
  PI: from a function's contract on data to a law's row: true, and all that came in reads as it did.
-/
import Derived.Test.YtcbepncdbgaohaaGreatDoorCA4
import Derived.Test.YtcbepncdbgaohaaGreatDoorCB0
import Derived.Lib.Overlaps
import Derived.Laws.Externs
import Derived.OpenShut
import Derived.OpenVars
import Derived.Lib.LaidTab
set_option linter.all false
set_option maxHeartbeats 0
namespace Go.PI
open Go.RowKit SX
variable {n0 q C m:Nat}{s:St}{X:List (Nat×Blk)}
abbrev yS(l:List Rat):List PV:=l.map yF
abbrev yV(l:List Nat):List PV:=l.map fun(i:Nat)=>PV.int .i64 (i:Int)
structure Tk where
 b:Nat
 n:Nat
 f:Nat
 o:Nat
 r:Nat->Nat
def Tk.ks(k:Tk)(m:Nat):List Nat:=[1,k.b,k.n,k.f,k.o]++(List.range m).map k.r
def qU(k:Tk)(T:Tab):PV:=.agg [.int .i64 T.vars,.int .i64 T.bs.length,.own k.b 0 T.bs.length,.own k.n 0 T.ns.length,.own k.f 0 T.bs.length,.own k.o 0 (T.ns.length+1),.int .i64 T.pv]
def uK(k:Tk)(m w:Nat):List PV:=(List.range m).map fun i=>.own (k.r i) 0 w
def jH(k:Tk)(T:Tab):List (Nat×Blk):=[(1,⟨[qU k T],7,true⟩),(k.b,⟨yV T.bs,1,false⟩),(k.n,⟨yV T.ns,1,false⟩),(k.f,⟨uK k T.bs.length (T.ns.length+1),1,false⟩),(k.o,⟨yS T.ob,3,true⟩)]
def eH(k:Tk)(T:Tab):List (Nat×Blk):=(List.range T.bs.length).map fun i=>(k.r i,⟨yS T.fs[i]!,3,true⟩)
def yX(k:Tk)(T:Tab):List (Nat×Blk):=jH k T++eH k T
structure Wdt where
 n:Nat
 o:Nat
 f:Nat->Nat
def wd0(T:Tab):Wdt:=⟨T.ns.length,T.ns.length+1,fun _=>T.ns.length+1⟩
def mP(k:Tk)(T:Tab)(w:Wdt):PV:=.agg [.int .i64 T.vars,.int .i64 T.bs.length,.own k.b 0 T.bs.length,.own k.n 0 w.n,.own k.f 0 T.bs.length,.own k.o 0 w.o,.int .i64 T.pv]
def mQ(k:Tk)(m:Nat)(f:Nat->Nat):List PV:=(List.range m).map fun i=>.own (k.r i) 0 (f i)
def jI(k:Tk)(T:Tab)(w:Wdt):List (Nat×Blk):=[(k.b,⟨yV T.bs,1,false⟩),(k.n,⟨yV T.ns,1,false⟩),(k.f,⟨mQ k T.bs.length w.f,1,false⟩),(k.o,⟨yS T.ob,3,true⟩)]
def sS(k:Tk)(T:Tab)(w:Wdt):List (Nat×Blk):=((1,⟨[mP k T w],7,true⟩)::jI k T w)++eH k T
variable {k:Tk}
def uR0  {T:Tab}:yX k T=sS k T (wd0 T):=rfl
def FQ  {T:Tab}{w:Wdt}:(sS k T w).map (·.1)=k.ks T.bs.length:=by
 unfold sS jI eH Tk.ks
 simp
def u9  {T:Tab}:(yX k T).map (·.1)=k.ks T.bs.length:=by
 unfold yX jH eH Tk.ks
 simp
def tabL_mem  {T:Tab}{p:Nat×Blk}:p∈yX k T↔p∈jH k T\/∃ i,i<T.bs.length/\p=(k.r i,⟨yS T.fs[i]!,3,true⟩):=by
 unfold yX eH;rw[y8,zW];constructor
 .rintro(h|⟨i,hi,rfl⟩)
  .exact zF h
  .exact zC ⟨i,by simpa using hi,rfl⟩
 .rintro(h|⟨i,hi,rfl⟩)
  .exact zF h
  .exact zC ⟨i,by simpa using hi,rfl⟩
def ks_mem  {x:Nat}:x∈k.ks m↔x=1\/x=k.b\/x=k.n\/x=k.f\/x=k.o\/∃ i,i<m/\x=k.r i:=by
 unfold Tk.ks;simp only[y8,yI,zW,yN,uU,uX];constructor
 .rintro((h|h|h|h|h)|⟨i,hi,rfl⟩)
  .exact zF h
  .exact zC (zF h)
  .exact zC (zC (zF h))
  .exact zC (zC (zC (zF h)))
  .exact zC (zC (zC (zC (zF h))))
  .exact zC (zC (zC (zC (zC ⟨i,hi,rfl⟩))))
 .rintro(h|h|h|h|h|⟨i,hi,rfl⟩)
  .exact zF (zF h)
  .exact zF (zC (zF h))
  .exact zF (zC (zC (zF h)))
  .exact zF (zC (zC (zC (zF h))))
  .exact zF (zC (zC (zC (zC h))))
  .exact zC ⟨i,hi,rfl⟩
structure Tk.Ok(k:Tk)(m N:Nat):Prop where
 nd:(k.ks m).Nodup
 lt:∀ x∈k.ks m,x<N
 pos:∀ x∈k.ks m,0<x
def TabS(k:Tk)(T:Tab)(h:Hp)(z:Fz):Prop:=∀ p∈yX k T,h p.1=some p.2/\z p.1=false
def TabSw(k:Tk)(T:Tab)(w:Wdt)(h:Hp)(z:Fz):Prop:=∀ p∈sS k T w,h p.1=some p.2/\z p.1=false
def ck(C:Nat):Tk:=⟨C+2,C+3,C+4,C+5,fun i=>C+100+i⟩
def pF{N:Nat}(hm:m<=64)(hN:C+164<=N):(ck C).Ok m N:=by
 refine⟨?_,fun x hx=>?_,fun x hx=>?_⟩
 .unfold Tk.ks ck
  simp only[List.cons_append,List.nil_append,mU,yI,zW,yN,fC,dJ,dL];refine⟨⟨zom,zom,zom,zom,fun i _=>by omega⟩,⟨zom,zom,zom,fun i _=>by omega⟩,⟨zom,zom,fun i _=>by omega⟩,⟨zom,fun i _=>by omega⟩,fun i _=>by omega,?_⟩;exact eF fun i j hij _=>by omega
 .rcases ks_mem.1 hx with h|h|h|h|h|⟨i,hi,h⟩<;>first|omega|(simp only[ck]at h;omega)
 .rcases ks_mem.1 hx with h|h|h|h|h|⟨i,hi,h⟩<;>first|omega|(simp only[ck]at h;omega)
def xk(C r:Nat):Bool:=Nat.ble 2 r&&(Nat.blt r C||Nat.ble (C+164) r)
def vW{r:Nat}(hm:m<=64)(hC:2<=C)(h:xk C r=true):r∉(ck C).ks m:=fun hx=>by
 unfold xk at h;simp only[xO,kN,rM,mD]at h;rcases ks_mem.1 hx with h'|h'|h'|h'|h'|⟨i,hi,h'⟩<;>first|omega|(simp only[ck]at h';omega)
def yM{h:Hp}{r j:Nat}{b:Option Blk}(e:j≠r):hs h r b j=h j:=by
 unfold hs;rw[vL,qL e]
def CC:∀ {H:List (Nat×Blk)} {p:Nat×Blk},(H.map (·.1)).Nodup->p∈H->hv H p.1=some p.2
 | (k,b)::l,p,hn,hp=>by
   simp only[uW,mU]at hn;unfold hv;rcases yI.1 hp with rfl|hp
   .rw[vL,sJ rfl]
   .rw[vL,qL fun e=>hn.1 (zW.2 ⟨p,hp,e⟩)]
    exact CC hn.2 hp
def CE:∀ {L:List (Nat×Blk)},lsH L=hv L
 |[]=>rfl
 | (k,b)::l=>by
   funext r
   unfold lsH hv;rw[vL,CE];by_cases e:r=k<;>simp[e]
def ZF   {T:Tab}{w:Wdt}(hm:T.bs.length<=64)(hC:2<=C)(hX:X.all (fun q=>xk C q.1)=true):∀ p∈sS (ck C) T w,hv (X++sS (ck C) T w) p.1=some p.2:=fun p hp=>by
 have hk:p.1∈(ck C).ks T.bs.length:=by rw[<- FQ];exact zW.2 ⟨p,hp,rfl⟩
 rw[uTW fun q hq e=>vW hm hC (xZ.1 hX q hq) (by rw[e];exact hk)];exact CC (by rw[FQ];exact(pF (N:=C+164) hm (zX _)).nd) hp
def ZG   {T:Tab}(hm:T.bs.length<=64)(hC:2<=C)(hX:X.all (fun q=>xk C q.1)=true):∀ p∈yX (ck C) T,hv (X++yX (ck C) T) p.1=some p.2:=ZF (w:=wd0 T) hm hC hX
def ZH  {i:Nat}{T:Tab}(hm:T.bs.length<=64)(hC:2<=C)(hX:X.all (fun q=>xk C q.1)=true)(hi:i<T.bs.length):hv (X++yX (ck C) T) (C+100+i)=some ⟨yS T.fs[i]!,3,true⟩ :=
 ZG hm hC hX (C+100+i,_) (tabL_mem.2 (zC ⟨i,hi,rfl⟩))
def asc:List (Nat×Nat)->Nat->Option Nat
 |[],_=>none
 | (k,x)::l,q=>match Nat.beq q k with
   |true=>some x
   |false=>asc l q
def tkρ (k : Tk) (C:Nat) (ax:List (Nat×Nat)) (q:Nat):Nat:=match asc ax q with
 |some x=>x
 | none => match Nat.ble C q with
   |false=>q
   | true => match Nat.ble (C+164) q with
     |true=>q
     | false => match Nat.beq q (C+2) with
       |true=>k.b
       | false=>match Nat.beq q (C+3) with
         |true=>k.n
         | false=>match Nat.beq q (C+4) with
           |true=>k.f
           | false=>match Nat.beq q (C+5) with
             |true=>k.o
             |false=>k.r (q-(C+100))
section
variable {k:Tk} {C:Nat} {ax:List (Nat×Nat)}
def AQ  (ha:asc ax q=none)(h:q<C):tkρ k C ax q=q:=by
 unfold tkρ;rw[ha,show Nat.ble C q=false from GQ.2 fun e=>by rw[rM]at e;omega]
def Dj{j:Nat}(hq:q=C+j)(ha:asc ax q=none)(h:j<164):tkρ k C ax q=if j=2 then k.b else if j=3 then k.n else if j=4 then k.f else if j=5 then k.o else k.r (j-100):=by
 subst hq;unfold tkρ;rw[ha,show Nat.ble C (C+j)=true by rw[rM];omega,show Nat.ble (C+164) (C+j)=false from GQ.2 fun e=>by rw[rM]at e;omega];dsimp only;rw[vL,vL,vL,vL];simp only[Nat.add_left_cancel_iff];by_cases h2:j=2
 .simp[h2]
 by_cases h3:j=3
 .simp[h3]
 by_cases h4:j=4
 .simp[h4]
 by_cases h5:j=5
 .simp[h5]
 simp only[h2,h3,h4,h5,iL,tE];rw[show C+j-(C+100)=j-100 by omega]
def RL{α:Type}{f:PV->PV->Prop}{g g':α->PV}:∀ {l:List α},(∀ x∈l,f (g x) (g' x))->rnL f (l.map g) (l.map g')
 |[],_=>trivial
 |x::l,h=>⟨h x zsm,RL fun y hy=>h y (xN _ hy)⟩
def o6{l:List Nat}:∀ e∈yV l,nr 3 e=true/\e≠.any:=fun e he=>by
 unfold yV at he;obtain⟨i,_,rfl⟩:=zW.1 he;exact⟨rfl,zsm⟩
def wY{l:List Rat}:∀ e∈yS l,nr 3 e=true/\e≠.any:=fun e he=>by
 unfold yS at he;obtain⟨i,_,rfl⟩:=zW.1 he;exact⟨rfl,by simp[yF,zR]⟩
def KeptG(n0:Nat)(s:St)(L:List (Nat×PV))(H:List (Nat×Blk))(Z:List Nat)(k:Nat):Prop :=
 ∃ (ρ:Nat->Nat),okV ρ k L s.t/\uP ρ k Z H s.h s.z/\(∀ p∈H,∀ q∈H,p.1≠q.1->ρ p.1≠ρ q.1)/\∀ r,r<n0->ρ r=r
def KeptG.frz   {L:List (Nat×PV)}{H:List (Nat×Blk)}{Z:List Nat}{k:Nat}{KS:List Nat}{TS:List (Nat×PV)}{HS:List (Nat×List PV)}(hf:BX s.h KS/\fzT KS s.h s.t TS/\fzH KS s.h HS)
 (h:KeptG n0 ⟨dW s.t TS,q7 s.h HS,fs s.z KS,s.nx⟩ L H Z k):KeptF n0 s L H Z k:=by
 obtain⟨ρ,h1,h2,h3,h4⟩:=h;exact⟨ρ,KS,TS,HS,hf,h1,h2,h3,h4⟩
def KeptG.to   {L:List (Nat×PV)}{H:List (Nat×Blk)}{Z:List Nat}{k:Nat}(h:KeptG n0 s L H Z k):KeptF n0 s L H Z k:=by
 obtain⟨ρ,h1,h2,h3,h4⟩:=h;have ez:Go.PI.fs s.z []=s.z:=by funext r;rfl
 exact⟨ρ,[],[],[],ttt,h1,by rw[ez];exact h2,h3,h4⟩
def Tk.ksq(k:Tk)(q m:Nat):List Nat:=[q,k.b,k.n,k.f,k.o]++(List.range m).map k.r
def ksq_mem{k:Tk}{x:Nat}:x∈k.ksq q m↔x=q\/x=k.b\/x=k.n\/x=k.f\/x=k.o\/∃ i,i<m/\x=k.r i:=by
 unfold Tk.ksq;simp only[List.cons_append,List.nil_append,yI,zW,yN];constructor
 .rintro(h|h|h|h|h|⟨i,hi,h⟩)
  .exact zF h
  .exact zC (zF h)
  .exact zC (zC (zF h))
  .exact zC (zC (zC (zF h)))
  .exact zC (zC (zC (zC (zF h))))
  .exact zC (zC (zC (zC (zC ⟨i,hi,h.symm⟩))))
 .rintro(h|h|h|h|h|⟨i,hi,h⟩)
  .exact zF h
  .exact zC (zF h)
  .exact zC (zC (zF h))
  .exact zC (zC (zC (zF h)))
  .exact zC (zC (zC (zC (zF h))))
  .exact zC (zC (zC (zC (zC ⟨i,hi,h.symm⟩))))
def Ik(q:Nat)(k:Tk)(T:Tab):List (Nat×Blk):=(q,⟨[qU k T],7,true⟩)::((jH k T).tail++eH k T)
def tabQ_mem  {k:Tk}{T:Tab}{p:Nat×Blk}:p∈Ik q k T↔p=(q,⟨[qU k T],7,true⟩)\/p∈(jH k T).tail\/∃ i,i<T.bs.length/\p=(k.r i,⟨yS T.fs[i]!,3,true⟩):=by
 unfold Ik eH;simp only[yI,y8,zW,yN];constructor
 .rintro(h|h|⟨i,hi,h⟩)
  .exact zF h
  .exact zC (zF h)
  .exact zC (zC ⟨i,hi,h.symm⟩)
 .rintro(h|h|⟨i,hi,h⟩)
  .exact zF h
  .exact zC (zF h)
  .exact zC (zC ⟨i,hi,h.symm⟩)
def ZI(q:Nat)(k:Tk)(T:Tab)(h:Hp)(z:Fz):Prop:=∀ p∈Ik q k T,h p.1=some p.2/\z p.1=false
def uXT(q:Nat)(k:Tk)(T:Tab)(w:Wdt)(h:Hp)(z:Fz):Prop:=∀ p∈(q,⟨[mP k T w],7,true⟩)::(jI k T w++eH k T),h p.1=some p.2/\z p.1=false
def ZJ{w:Wdt}{kk:Nat}{ρ:Nat->Nat}  {T:Tab}{L:List (Nat×PV)}  (hC:2<=C)(hkk:C+164<=kk)(hm:T.bs.length<=64)(hnd:(k.ksq q T.bs.length).Nodup)(hS:uXT q k T w s.h s.z)
 (e1:ρ 1=q) (e2:ρ (C+2)=k.b) (e3:ρ (C+3)=k.n) (e4:ρ (C+4)=k.f) (e5:ρ (C+5)=k.o) (er:∀ i,i<T.bs.length->ρ (C+100+i)=k.r i) (hlow:∀ r,r<n0->ρ r=r) (hL:okV ρ kk L s.t) (hX:uP ρ kk [] X s.h s.z)
 (hXd:∀ p∈X,ρ p.1∉k.ksq q T.bs.length) (hXi:∀ p∈X,∀ p'∈X,p.1≠p'.1->ρ p.1≠ρ p'.1):KeptG n0 s L (X++sS (ck C) T w) [] kk:=by
 have ek:∀ p∈sS (ck C) T w,∃ x∈k.ksq q T.bs.length,ρ p.1=x:=fun p hp=>by
  have hk:p.1∈(ck C).ks T.bs.length:=by rw[<- FQ];exact zW.2 ⟨p,hp,rfl⟩
  rcases ks_mem.1 hk with h|h|h|h|h|⟨i,hi,h⟩<;>rw[h]
  .exact⟨q,ksq_mem.2 (zF rfl),e1⟩
  .exact⟨_,ksq_mem.2 (zC (zF rfl)),e2⟩
  .exact⟨_,ksq_mem.2 (zC (zC (zF rfl))),e3⟩
  .exact⟨_,ksq_mem.2 (zC (zC (zC (zF rfl)))),e4⟩
  .exact⟨_,ksq_mem.2 (zC (zC (zC (zC (zF rfl))))),e5⟩
  .exact⟨_,ksq_mem.2 (zC (zC (zC (zC (zC ⟨i,hi,rfl⟩))))),er i hi⟩
 have inj:∀ x∈(ck C).ks T.bs.length,∀ y∈(ck C).ks T.bs.length,x≠y->ρ x≠ρ y:=by
  have hmap:((ck C).ks T.bs.length).map (ρ)=k.ksq q T.bs.length:=by
   unfold Tk.ks Tk.ksq;simp only[wB,uW,kO,qC];rw[show(ck C).b=C+2 from rfl,show(ck C).n=C+3 from rfl,show(ck C).f=C+4 from rfl,show(ck C).o=C+5 from rfl,e1,e2,e3,e4,e5]
   congr 1
   exact rL fun i hi=>er i (by simpa using hi)
  intro x hx y hy hne e;obtain⟨a,ha,rfl⟩:=mem_ix hx;obtain⟨b,hb,rfl⟩:=mem_ix hy;have hab:a≠b:=fun e=>hne (by rw[e])
  have hl:(k.ksq q T.bs.length).length=((ck C).ks T.bs.length).length:=by rw[<- hmap];simp
  have ga:=tH (f:=ρ) ha;have gb:=tH (f:=ρ) hb;rw[hmap]at ga gb;exact hab (SX.nodup_get hnd zom zom (by rw[ga,gb,e]))
 refine⟨ρ,hL,?_,?_,hlow⟩
 .refine Ij hX ?_
  unfold sS;have g1:=hS (q,⟨[mP k T w],7,true⟩) (tT ..);have gb:=hS (k.b,⟨yV T.bs,1,false⟩) (xN _ (sV _ (by simp[jI])));have gn:=hS (k.n,⟨yV T.ns,1,false⟩) (xN _ (sV _ (by simp[jI])));have gf:=hS (k.f,⟨mQ k T.bs.length w.f,1,false⟩) (xN _ (sV _ (by simp[jI])));have go:=hS (k.o,⟨yS T.ob,3,true⟩) (xN _ (sV _ (by simp[jI])))
  refine Ij ⟨⟨zom,fun e he=>?_,⟨⟨[mP k T w],7,true⟩,by rw[e1];exact g1.1,rfl,rfl,zC ⟨?_,zA⟩⟩,?_⟩,⟨by show C+2<kk;omega,fun e he=>(o6 e he).2,⟨_,by show s.h (ρ (C+2))=_;rw[e2];exact gb.1,rfl,rfl,zF ⟨rfl,fun e he=>(o6 e he).1⟩⟩,?_⟩,
   ⟨by show C+3<kk;omega,fun e he=>(o6 e he).2,⟨_,by show s.h (ρ (C+3))=_;rw[e3];exact gn.1,rfl,rfl,zF ⟨rfl,fun e he=>(o6 e he).1⟩⟩,?_⟩,⟨by show C+4<kk;omega,fun e he=>?_,⟨⟨mQ k T.bs.length w.f,1,false⟩,by show s.h (ρ (C+4))=_;rw[e4];exact gf.1,rfl,rfl,zC ?_⟩,?_⟩,
   ⟨by show C+5<kk;omega,fun e he=>(wY e he).2,⟨_,by show s.h (ρ (C+5))=_;rw[e5];exact go.1,rfl,rfl,zF ⟨rfl,fun e he=>(wY e he).1⟩⟩,?_⟩,zA⟩ ?_
  .simp at he;subst he;simp[mP]
  .unfold mP
   rw[VG];simp only[VI,VH,OG,Gt,bZ,dK];show(C+2<kk/\PV.own k.b 0 _=PV.own (ρ (C+2)) 0 _)/\(C+3<kk/\PV.own k.n 0 _=PV.own (ρ (C+3)) 0 _)/\(C+4<kk/\PV.own k.f 0 _=PV.own (ρ (C+4)) 0 _)/\C+5<kk/\PV.own k.o 0 _=PV.own (ρ (C+5)) 0 _
   rw[e2,e3,e4,e5];exact⟨⟨zom,rfl⟩,⟨zom,rfl⟩,⟨zom,rfl⟩,zom,rfl⟩
  .rw[e1];exact g1.2.symm
  .show _=s.z (ρ (C+2));rw[e2];exact gb.2.symm
  .show _=s.z (ρ (C+3));rw[e3];exact gn.2.symm
  .unfold mQ at he;obtain⟨i,_,rfl⟩:=zW.1 he;simp
  .unfold mQ
   refine RL fun i hi=>?_
   have hi:i<T.bs.length:=by simpa using hi
   rw[Gt];show C+100+i<kk/\PV.own (k.r i) 0 _=PV.own (ρ (C+100+i)) 0 _
   rw[er i hi];exact⟨zom,rfl⟩
  .show _=s.z (ρ (C+4));rw[e4];exact gf.2.symm
  .show _=s.z (ρ (C+5));rw[e5];exact go.2.symm
  .unfold eH
   have key:∀ l:List Nat,(∀ i∈l,i<T.bs.length)->uP (ρ) kk [] (l.map fun i=>((ck C).r i,⟨yS T.fs[i]!,3,true⟩)) s.h s.z:=by
    intro l
    induction l with
    |nil=>intro _;trivial
    | cons i l ih =>
      intro hl;have hi:=hl i zsm;have g:=hS (k.r i,⟨yS T.fs[i]!,3,true⟩) (xN _ (pJ _ (zW.2 ⟨i,yN.2 hi,rfl⟩)));exact⟨⟨by show C+100+i<kk;omega,fun e he=>(wY e he).2,⟨_,by show s.h (ρ (C+100+i))=_;rw[er i hi];exact g.1,rfl,rfl,zF ⟨rfl,fun e he=>(wY e he).1⟩⟩,by show _=s.z (ρ (C+100+i));rw[er i hi];exact g.2.symm⟩,ih fun j hj=>hl j (by simp[hj])⟩
   exact key _ fun i hi=>by simpa using hi
 .intro p hp p' hq hne
  rcases y8.1 hp with hp|hp<;>rcases y8.1 hq with hq|hq
  .exact hXi p hp p' hq hne
  .obtain⟨x,hx,e⟩:=ek p' hq
   exact fun e'=>hXd p hp (by rw[e',e];exact hx)
  .obtain⟨x,hx,e⟩:=ek p hp
   exact fun e'=>hXd p' hq (by rw[<- e',e];exact hx)
  .have kp:p.1∈(ck C).ks T.bs.length:=by rw[<- FQ];exact zW.2 ⟨p,hp,rfl⟩
   have kq:p'.1∈(ck C).ks T.bs.length:=by rw[<- FQ];exact zW.2 ⟨p',hq,rfl⟩
   exact inj _ kp _ kq hne
def vY7{kk:Nat}{ρ:Nat->Nat}  {T:Tab}{L:List (Nat×PV)}  (hC:2<=C)(hkk:C+164<=kk)(hm:T.bs.length<=64)(hnd:(k.ksq q T.bs.length).Nodup)(hS:ZI q k T s.h s.z)
 (e1:ρ 1=q) (e2:ρ (C+2)=k.b) (e3:ρ (C+3)=k.n) (e4:ρ (C+4)=k.f) (e5:ρ (C+5)=k.o) (er:∀ i,i<T.bs.length->ρ (C+100+i)=k.r i) (hlow:∀ r,r<n0->ρ r=r) (hL:okV ρ kk L s.t) (hX:uP ρ kk [] X s.h s.z)
 (hXd:∀ p∈X,ρ p.1∉k.ksq q T.bs.length) (hXi:∀ p∈X,∀ p'∈X,p.1≠p'.1->ρ p.1≠ρ p'.1):KeptG n0 s L (X++yX (ck C) T) [] kk :=
 ZJ (w:=wd0 T) hC hkk hm hnd hS e1 e2 e3 e4 e5 er hlow hL hX hXd hXi
def RN{w:Wdt}{kk:Nat}  {T:Tab}{L:List (Nat×PV)}  (hn0:n0<=C)(hC:2<=C)(hkk:C+164<=kk)(hm:T.bs.length<=64)(hnd:(k.ks T.bs.length).Nodup)(hS:TabSw k T w s.h s.z)
 (hax:∀ r,r<n0\/r∈(ck C).ks 64->asc ax r=none) (hL:okV (tkρ k C ax) kk L s.t) (hX:uP (tkρ k C ax) kk [] X s.h s.z) (hXk:X.all (fun q=>xk C q.1)=true)
 (hXd:∀ p∈X,tkρ k C ax p.1∉k.ks T.bs.length) (hXi:∀ p∈X,∀ q∈X,p.1≠q.1->tkρ k C ax p.1≠tkρ k C ax q.1):KeptG n0 s L (X++sS (ck C) T w) [] kk:=by
 have m1:∀ {x},x∈(ck C).ks 64->asc ax x=none:=fun hx=>hax _ (zC hx)
 have e1:tkρ k C ax 1=1:=AQ (m1 (ks_mem.2 (zF rfl))) zom;have e2:tkρ k C ax (C+2)=k.b:=Dj rfl (m1 (ks_mem.2 (zC (zF rfl)))) zom;have e3:tkρ k C ax (C+3)=k.n:=Dj rfl (m1 (ks_mem.2 (zC (zC (zF rfl))))) zom;have e4:tkρ k C ax (C+4)=k.f:=Dj rfl (m1 (ks_mem.2 (zC (zC (zC (zF rfl)))))) zom;have e5:tkρ k C ax (C+5)=k.o:=Dj rfl (m1 (ks_mem.2 (zC (zC (zC (zC (zF rfl))))))) zom
 have er:∀ i,i<T.bs.length->tkρ k C ax (C+100+i)=k.r i:=fun i hi=>by
  rw[Dj (q:=C+100+i) (j:=100+i) zom (m1 (ks_mem.2 (zC (zC (zC (zC (zC ⟨i,zom,rfl⟩))))))) zom,zB zom,zB zom,zB zom,zB zom,show 100+i-100=i by omega]
 exact ZJ hC hkk hm hnd hS e1 e2 e3 e4 e5 er (fun r hr=>AQ (hax r (zF hr)) zom) hL hX hXd hXi
def FT{kk:Nat}  {T:Tab}{L:List (Nat×PV)}  (hn0:n0<=C)(hC:2<=C)(hkk:C+164<=kk)(hm:T.bs.length<=64)(hnd:(k.ks T.bs.length).Nodup)(hS:TabS k T s.h s.z)
 (hax:∀ r,r<n0\/r∈(ck C).ks 64->asc ax r=none) (hL:okV (tkρ k C ax) kk L s.t) (hX:uP (tkρ k C ax) kk [] X s.h s.z) (hXk:X.all (fun q=>xk C q.1)=true)
 (hXd:∀ p∈X,tkρ k C ax p.1∉k.ks T.bs.length) (hXi:∀ p∈X,∀ q∈X,p.1≠q.1->tkρ k C ax p.1≠tkρ k C ax q.1):KeptG n0 s L (X++yX (ck C) T) [] kk :=
 RN (w:=wd0 T) hn0 hC hkk hm hnd hS hax hL hX hXk hXd hXi
end
open Go.RowKit SX
variable {k:Tk}{args:List PV}{h:Hp}{z:Fz}{T':Tab}
def FU  {T:Tab}   (h1:h 1=some ⟨[qU k T],7,true⟩)(hb:h k.b=some ⟨yV T.bs,1,false⟩)(hn:h k.n=some ⟨yV T.ns,1,false⟩)(hf:h k.f=some ⟨uK k T.bs.length (T.ns.length+1),1,false⟩)
 (ho:h k.o=some ⟨yS T.ob,3,true⟩) (hr:∀ i,i<T.bs.length->h (k.r i)=some ⟨yS T.fs[i]!,3,true⟩) (hz:∀ x∈k.ks T.bs.length,z x=false):TabS k T h z:=fun p hp=>by
 refine⟨?_,hz _ (by rw[<- u9];exact zW.2 ⟨p,hp,rfl⟩)⟩;rcases tabL_mem.1 hp with hp|⟨i,hi,rfl⟩
 .unfold jH at hp
  simp only[yI,uU,uX]at hp;rcases hp with rfl|rfl|rfl|rfl|rfl
  .exact h1
  .exact hb
  .exact hn
  .exact hf
  .exact ho
 .exact hr i hi
def TabS.t  {T:Tab}   (S:TabS k T h z):h 1=some ⟨[qU k T],7,true⟩/\z 1=false:=S (1,_) (tabL_mem.2 (zF (tT ..)))
def TabS.row  {T:Tab}   (S:TabS k T h z){i:Nat}(hi:i<T.bs.length):h (k.r i)=some ⟨yS T.fs[i]!,3,true⟩/\z (k.r i)=false:=S (k.r i,_) (tabL_mem.2 (zC ⟨i,hi,rfl⟩))
def vX{X:List (Nat×Blk)}{C:Nat}{T:Tab}(hm:T.bs.length<=64)(hC:2<=C)(hX:X.all (fun q=>xk C q.1)=true):TabS (ck C) T (hv (X++yX (ck C) T)) (zv []):=fun p hp=>⟨ZG hm hC hX p hp,rfl⟩
def TabS.hs{k:Tk}{T:Tab}{h:Hp}{z:Fz}(S:TabS k T h z){r:Nat}{b:Option Blk}(hr:r∉k.ks T.bs.length):TabS k T (hs h r b) z:=fun p hp=>by
 have:p.1≠r:=fun e=>hr (by rw[<- e,<- u9];exact zW.2 ⟨p,hp,rfl⟩)
 rw[yM this];exact S p hp
def FV(k:Tk)(N m:Nat)(v:PV)(T':Tab)(pv:PV)(s:St):Prop :=
 pv=v/\∃ k':Tk,(k'.ks T'.bs.length).Nodup/\(∀ x∈k'.ks T'.bs.length,x∈k.ks m\/N<=x)/\TabS k' T' s.h s.z
def FnT(P:Program)(G:Gl)(f:FuncId)(args:List PV)(B:Nat)(T:Tab)(v:PV)(T':Tab):Prop :=
 ∀ (k:Tk) (N:Nat) (t0:Tm),k.Ok T.bs.length N->N<=B->FnH P G f (.ptr 1 0 0::args) (FV k N T.bs.length v T') ⟨t0,lsH (yX k T),fun _=>false,N⟩
section
variable {P:Program} {Ti':Ti} {G:Gl}
def ZK(hm:P.follows .mixedOrders=true)(hT:∀ i x,Ti' i=some x->zK P i=x){f:FuncId}{fn:Func}{c:Code}{rs:List ResultVar}{nt:Nat}(ok:FnOk P f fn c rs nt)  (hl:args.length+1<=nt){B:Nat}{T:Tab}{v:PV}
 (h:∀ (k:Tk) (N:Nat),k.Ok T.bs.length N->N<=B->VC P Ti' G N c (rS Ti' rs (FV k N T.bs.length v T')) ⟨fK (.ptr 1 0 0::args),hv (yX k T),noZ,N⟩):FnT P G f args B T v T':=fun k N t0 hk hN=>by
 rw[CE];exact iR hm hT ok (by simpa using hl) (h k N hk hN)
def RO{n0 kk C:Nat}{K:St->Prop}{Q:Exit->St->Prop}{s:St}{T:Tab}(k:Tk)(ax:List (Nat×Nat))(L:List (Nat×PV))(X:List (Nat×Blk))(hn0:n0<=C)(hC:2<=C)(hkk:C+164<=kk)(hm:T.bs.length<=64)(hnd:(k.ks T.bs.length).Nodup)(hS:TabS k T s.h s.z)
 (hax:∀ r,r<n0\/r∈(ck C).ks 64->asc ax r=none) (hL:okV (tkρ k C ax) kk L s.t) (hX:uP (tkρ k C ax) kk [] X s.h s.z) (hXk:X.all (fun q=>xk C q.1)=true)
 (hXd:∀ p∈X,tkρ k C ax p.1∉k.ks T.bs.length) (hXi:∀ p∈X,∀ q∈X,p.1≠q.1->tkρ k C ax p.1≠tkρ k C ax q.1)
 (h:K ⟨sv L,hv (X++yX (ck C) T),zv [],kk⟩):tX (LeS G,n0) K Q .normal s:=by
 obtain⟨t,hh,z,nx⟩:=s;exact bK [] L _ [] kk zom (fun r hr=>by cases hr) trivial (FT hn0 hC hkk hm hnd hS hax hL hX hXk hXd hXi).to h
def Il{Cs:wK}{f:FuncId}  {d:Option Nat}{K:FP->St->Prop}{t:Tm}   {nx B:Nat}{T:Tab}{v:PV}(k:Tk)(hF:FnT P G f args B T v T')(hk:k.Ok T.bs.length nx)(hB:nx<=B)(hS:TabS k T h z)
 (hK:∀ (k':Tk) (h':Hp) (z':Fz) (nx':Nat),(k'.ks T'.bs.length).Nodup->(∀ x∈k'.ks T'.bs.length,x∈k.ks T.bs.length\/nx<=x)->TabS k' T' h' z'->(∀ r,r<nx->r∉k.ks T.bs.length->h' r=h r/\z' r=z r)->nx<=nx'->oV K t d v h' z' nx' ⟨[],[],[]⟩) :
 rR Cs (FnH P G) false f (.ptr 1 0 0::args) d K ⟨t,h,z,nx⟩:=by
 refine fO (FnH.mono _ _ _ _ _ (fun pv s' hq=>?_) (Ld (s:=⟨t,h,z,nx⟩) (hF k nx t hk hB) rfl (by rw[u9];exact hk.nd) (fun p hp=>?_) fun p hp=>?_))
 .obtain⟨s1,⟨hv,k',g1,g2,g3⟩,e1,e2,e3,e4⟩:=hq
  subst hv;obtain⟨t',h',z',nx'⟩:=s';dsimp only at e1 e2 e4 ⊢;subst e1;subst e2;subst e4
  have inn:∀ x∈k'.ks T'.bs.length,nx<=x\/x∈(yX k T).map (·.1):=fun x hx=>by
   rw[u9];exact(g2 x hx).symm
  refine hK k' _ _ _ g1 g2 (fun p hp=>?_) (fun r hr hn=>?_) e3
  .have hx:p.1∈k'.ks T'.bs.length:=by rw[<- u9];exact zW.2 ⟨p,hp,rfl⟩
   rw[oJ (inn _ hx),oJ (inn _ hx),B0 (g3 p hp).2];exact⟨(g3 p hp).1,rfl⟩
  .have ho:¬ (nx<=r\/r∈(yX k T).map (·.1)):=by
    rw[u9]
    rintro(h|h)
    .omega
    .exact hn h
   rw[bJ ho,bJ ho];exact⟨rfl,rfl⟩
 .exact⟨(hS p hp).1,(hS p hp).2,hk.lt _ (by rw[<- u9];exact zW.2 ⟨p,hp,rfl⟩)⟩
 .exact hk.pos _ (by rw[<- u9];exact zW.2 ⟨p,hp,rfl⟩)
end
open Go.RowKit SX
def Li(os:List Oper)(after:List Edge)(fp:FP):List (Nat×FP)->Bool
 |[]=>true
 | (k,f)::acc=>an (match rch os k 4 after with
   |true=>true
   |false=>touch f fp) (Li os after fp acc)
def ZL{os:List Oper}{after:List Edge}{fp:FP}:∀ {acc:List (Nat×FP)},Li os after fp acc=true->clr os after fp acc=true
 |[],_=>rfl
 | (k,f)::acc,h=>by
   unfold Li at h;unfold clr;rw[uB]at h ⊢;refine⟨?_,ZL h.2⟩;cases ht:touch f fp with
   |true=>rfl
   | false =>
     cases hr:rch os k 4 after with
     |true=>rfl
     |false=>rw[hr,ht]at h;exact absurd h.1 zsm
variable {n0 C:Nat}{h:Hp}{i m r:Nat}{s:St}{z:Fz}{q j:Nat}{ax:List (Nat×Nat)}{nx:Nat}{X:List (Nat×Blk)}
def bL{os:List Oper}{after:List Edge}{fp:FP}{acc:List (Nat×FP)}{A:Prop}(h:Li os after fp acc=true)(k:A):brT (clr os after fp acc) A:=Gu (ZL h) k
section
variable {k:Tk} {T:Tab} {h:Hp} {z:Fz}
def gL(hnd:(k.ks T.bs.length).Nodup):k.b≠1/\k.n≠1/\k.f≠1/\k.o≠1/\k.n≠k.b/\k.f≠k.b/\k.o≠k.b/\k.f≠k.n/\k.o≠k.n/\k.o≠k.f/\∀ i,i<T.bs.length->k.r i≠1/\k.r i≠k.b/\k.r i≠k.n/\k.r i≠k.f/\k.r i≠k.o/\∀ j,j<T.bs.length->j≠i->k.r j≠k.r i:=by
 unfold Tk.ks at hnd;simp only[List.cons_append,List.nil_append,mU,yI,zW,yN,fC,dJ,dL]at hnd;obtain⟨⟨a1,a2,a3,a4,a5⟩,⟨b1,b2,b3,b4⟩,⟨c1,c2,c3⟩,⟨d1,d2⟩,e1,e2⟩:=hnd;refine⟨y9 a1,y9 a2,y9 a3,y9 a4,y9 b1,y9 b2,y9 b3,y9 c1,y9 c2,y9 d1,fun i hi=>⟨a5 i hi,b4 i hi,c3 i hi,d2 i hi,e1 i hi,fun j hj hne e=>?_⟩⟩;have h1:=tH (f:=k.r) (l:=List.range T.bs.length) (j:=i) (by simpa using hi);have h2:=tH (f:=k.r) (l:=List.range T.bs.length) (j:=j) (by simpa using hj);have g1:(List.range T.bs.length)[i]! = i:=by rw[gp (by simpa using hi)];simp
 have g2:(List.range T.bs.length)[j]! = j:=by rw[gp (by simpa using hj)];simp
 rw[g1]at h1;rw[g2]at h2;exact hne (SX.nodup_get e2 (by simpa using hj) (by simpa using hi) (by rw[h1,h2,e]))
def TabS.b(S:TabS k T h z):h k.b=some ⟨yV T.bs,1,false⟩:=(S (k.b,_) (tabL_mem.2 (zF (by unfold jH;simp)))).1
def TabS.n(S:TabS k T h z):h k.n=some ⟨yV T.ns,1,false⟩:=by
 have:(k.n,(⟨yV T.ns,1,false⟩:Blk))∈yX k T:=tabL_mem.2 (zF (by unfold jH;simp));exact(S _ this).1
def TabS.f(S:TabS k T h z):h k.f=some ⟨uK k T.bs.length (T.ns.length+1),1,false⟩:=by
 have:(k.f,(⟨uK k T.bs.length (T.ns.length+1),1,false⟩:Blk))∈yX k T:=tabL_mem.2 (zF (by unfold jH;simp));exact(S _ this).1
def TabS.o(S:TabS k T h z):h k.o=some ⟨yS T.ob,3,true⟩:=by
 have:(k.o,(⟨yS T.ob,3,true⟩:Blk))∈yX k T:=tabL_mem.2 (zF (by unfold jH;simp));exact(S _ this).1
def TabS.zf(S:TabS k T h z):∀ x∈k.ks T.bs.length,z x=false:=fun x hx=>by
 rw[<- u9]at hx;obtain⟨p,hp,rfl⟩:=zW.1 hx;exact(S p hp).2
def hs_eq1  {b:Option Blk}:hs h r b r=b:=by unfold hs;rw[vL,sJ rfl]
def TabS.setP(S:TabS k T h z)(hnd:(k.ks T.bs.length).Nodup){p:Nat}{b:Option Blk}(hb:b=some ⟨[qU k { T with pv:=p }],7,true⟩):TabS k { T with pv:=p } (Go.PI.hs h 1 b) z:=by
 obtain⟨n1,n2,n3,n4,n5,n6,n7,n8,n9,n10,nr⟩:=gL hnd;subst hb;exact FU hs_eq1 (by rw[yM n1];exact S.b) (by rw[yM n2];exact S.n) (by rw[yM n3];exact S.f) (by rw[yM n4];exact S.o) (fun i hi=>by rw[yM (nr i hi).1];exact(S.row hi).1) S.zf
def TabS.setB(S:TabS k T h z)(hnd:(k.ks T.bs.length).Nodup){bs:List Nat}(hl:bs.length=T.bs.length){b:Option Blk}(hb:b=some ⟨yV bs,1,false⟩):TabS k { T with bs:=bs } (Go.PI.hs h k.b b) z:=by
 obtain⟨n1,n2,n3,n4,n5,n6,n7,n8,n9,n10,nr⟩:=gL hnd;subst hb;exact FU (by rw[yM (y9 n1)];unfold qU;dsimp only;rw[hl];exact S.t.1) hs_eq1 (by rw[yM n5];exact S.n) (by rw[yM n6];dsimp only;rw[hl];exact S.f) (by rw[yM n7];exact S.o) (fun i hi=>by dsimp only at hi;rw[hl]at hi;rw[yM (nr i hi).2.1];exact(S.row hi).1) (by dsimp only;rw[hl];exact S.zf)
def TabS.setN(S:TabS k T h z)(hnd:(k.ks T.bs.length).Nodup){ns:List Nat}(hl:ns.length=T.ns.length){b:Option Blk}(hb:b=some ⟨yV ns,1,false⟩):TabS k { T with ns:=ns } (Go.PI.hs h k.n b) z:=by
 obtain⟨n1,n2,n3,n4,n5,n6,n7,n8,n9,n10,nr⟩:=gL hnd;subst hb;exact FU (by rw[yM (y9 n2)];unfold qU;dsimp only;rw[hl];exact S.t.1) (by rw[yM (y9 n5)];exact S.b) hs_eq1 (by rw[yM n8];dsimp only;rw[hl];exact S.f) (by rw[yM n9];exact S.o) (fun i hi=>by rw[yM (nr i hi).2.2.1];exact(S.row hi).1) S.zf
def TabS.setO(S:TabS k T h z)(hnd:(k.ks T.bs.length).Nodup){ob:List Rat}{b:Option Blk}(hb:b=some ⟨yS ob,3,true⟩):TabS k { T with ob:=ob } (Go.PI.hs h k.o b) z:=by
 obtain⟨n1,n2,n3,n4,n5,n6,n7,n8,n9,n10,nr⟩:=gL hnd;subst hb;exact FU (by rw[yM (y9 n4)];exact S.t.1) (by rw[yM (y9 n7)];exact S.b) (by rw[yM (y9 n9)];exact S.n) (by rw[yM (y9 n10)];exact S.f) hs_eq1 (fun i hi=>by rw[yM (nr i hi).2.2.2.2.1];exact(S.row hi).1) S.zf
def TabS.setR(S:TabS k T h z)(hnd:(k.ks T.bs.length).Nodup){fs:List (List Rat)}  (hi:i<T.bs.length)(hf:∀ j,j<T.bs.length->j≠i->fs[j]! = T.fs[j]!){b:Option Blk}(hb:b=some ⟨yS fs[i]!,3,true⟩):TabS k { T with fs:=fs } (Go.PI.hs h (k.r i) b) z:=by
 obtain⟨n1,n2,n3,n4,n5,n6,n7,n8,n9,n10,nr⟩:=gL hnd;obtain⟨m1,m2,m3,m4,m5,m6⟩:=nr i hi;subst hb;refine FU (by rw[yM (y9 m1)];exact S.t.1) (by rw[yM (y9 m2)];exact S.b) (by rw[yM (y9 m3)];exact S.n) (by rw[yM (y9 m4)];exact S.f) (by rw[yM (y9 m5)];exact S.o) (fun j hj=>?_) S.zf;by_cases e:j=i
 .subst e;exact hs_eq1
 .rw[yM (m6 j hj e)];dsimp only;rw[hf j hj e];exact(S.row hj).1
def TabS.setF(S:TabS k T h z)(hnd:(k.ks T.bs.length).Nodup)  (hi:i<T.bs.length)(hq:q∉k.ks T.bs.length)(hzq:z q=false){fs:List (List Rat)}(hf:∀ j,j<T.bs.length->j≠i->fs[j]! = T.fs[j]!)(hr:h q=some ⟨yS fs[i]!,3,true⟩){b:Option Blk}
 (hb:b=some ⟨uK { k with r:=fun j=>if j=i then q else k.r j } T.bs.length (T.ns.length+1),1,false⟩):TabS { k with r:=fun j=>if j=i then q else k.r j } { T with fs:=fs } (Go.PI.hs h k.f b) z:=by
 obtain⟨n1,n2,n3,n4,n5,n6,n7,n8,n9,n10,nr⟩:=gL hnd;have hqf:q≠k.f:=fun e=>hq (ks_mem.2 (zC (zC (zC (zF e)))))
 subst hb;refine FU (by rw[yM (y9 n3)];exact S.t.1) (by rw[yM (y9 n6)];exact S.b) (by rw[yM (y9 n8)];exact S.n) hs_eq1 (by rw[yM n10];exact S.o) (fun j hj=>?_) fun x hx=>?_
 .by_cases e:j=i
  .subst e;dsimp only;rw[zE rfl,yM hqf];exact hr
  .dsimp only;rw[zB e,yM (nr j hj).2.2.2.1,hf j hj e];exact(S.row hj).1
 .rcases ks_mem.1 hx with h|h|h|h|h|⟨j,hj,h⟩
  .exact S.zf x (ks_mem.2 (zF h))
  .exact S.zf x (ks_mem.2 (zC (zF h)))
  .exact S.zf x (ks_mem.2 (zC (zC (zF h))))
  .exact S.zf x (ks_mem.2 (zC (zC (zC (zF h)))))
  .exact S.zf x (ks_mem.2 (zC (zC (zC (zC (zF h))))))
  .dsimp only at h
   split at h
   .rw[h];exact hzq
   .exact S.zf x (ks_mem.2 (zC (zC (zC (zC (zC ⟨j,hj,h⟩))))))
def RP(hnd:(k.ks T.bs.length).Nodup)  (hq:q∉k.ks T.bs.length):((⟨k.b,k.n,k.f,k.o,fun j=>if j=i then q else k.r j⟩:Tk).ks T.bs.length).Nodup:=by
 have hn:=hnd;unfold Tk.ks at hnd ⊢;rw[iK]at hnd ⊢;obtain⟨h1,h2,h3⟩:=hnd;refine⟨h1,?_,fun a ha b hb=>?_⟩
 .obtain⟨_,_,_,_,_,_,_,_,_,_,nr⟩:=gL hn
  refine eF fun a b hab hb=>?_
  dsimp only;by_cases ea:a=i
  .subst ea
   rw[zE rfl,zB zom];exact fun e=>hq (ks_mem.2 (zC (zC (zC (zC (zC ⟨b,hb,e⟩))))))
  .rw[zB ea]
   by_cases eb:b=i
   .subst eb
    rw[zE rfl];exact fun e=>hq (ks_mem.2 (zC (zC (zC (zC (zC ⟨a,zom,e.symm⟩))))))
   .rw[zB eb]
    exact(nr b hb).2.2.2.2.2 a zom zom
 .obtain⟨j,hj,rfl⟩:=zW.1 hb
  have hj:j<T.bs.length:=by simpa using hj
  dsimp only
  split
  .exact fun e=>hq (by rw[<- e];unfold Tk.ks;exact sV _ ha)
  .exact h3 a ha (k.r j) (zW.2 ⟨j,by simpa using hj,rfl⟩)
def uF1{k:Tk}{w:Nat}(hi:i<m):(uK k m w).set i (.own q 0 w)=uK { k with r:=fun j=>if j=i then q else k.r j } m w:=by
 unfold uK;refine vE zsm fun j h1 h2=>?_
 simp only[kL,vS,oQ];by_cases e:i=j
 .rw[zE e,zE e.symm]
 .rw[zB e,zB (y9 e)]
def vZT{k:Tk}{w w' i':Nat}(hi:i<m)(e:i'=i)(ew:w'=w):some (Blk.mk ((uK k m w).set i' (.own q 0 w')) 1 false)=some ⟨uK { k with r:=fun j=>if j=i then q else k.r j } m w,1,false⟩:=by
 subst e;subst ew;rw[uF1 hi]
def CF{k:Tk}{w:Nat}{K:PV->Prop}(e:j=i)(hi:i<m)(q:K (.own (k.r i) 0 w)):oK (nth (uK k m w) j) K:=by
 subst e;refine BN ?_ q;rw[pQ];unfold uK;simp[hi]
end
def Im{k:Tk}{T:Tab}(hnd:(k.ks T.bs.length).Nodup):TabS k T (hv (yX k T)) noZ:=fun p hp=>⟨CC (by rw[u9];exact hnd) hp,rfl⟩
def CG:∀ {ax:List (Nat×Nat)} {q:Nat},(∀ p∈ax,p.1≠q)->asc ax q=none
 |[],_,_=>rfl
 | (k,x)::l,q,h=>by
   unfold asc;rw[vL,qL fun e=>h (k,x) zsm e.symm];exact CG fun p hp=>h p (xN _ hp)
def RQ{k:Tk}   (ha:asc ax q=none)(h:q<C\/C+164<=q):tkρ k C ax q=q:=by
 rcases h with h|h
 .exact AQ ha h
 .unfold tkρ
  rw[ha,show Nat.ble C q=true by rw[rM];omega,show Nat.ble (C+164) q=true by rw[rM];omega]
def uLA   (hi:i<64)(hax:ax.all (fun p=>Nat.ble (C+164) p.1)=true):tkρ (ck C) C ax (C+100+i)=C+100+i:=by
 have ha:asc ax (C+100+i)=none:=CG fun p hp e=>by
  have:=xZ.1 hax p hp;rw[rM]at this;omega
 rw[Dj (q:=C+100+i) (j:=100+i) zom ha zom,zB zom,zB zom,zB zom,zB zom];show C+100+(100+i-100)=_
 omega
def FW:List Nat->Bool
 |[]=>true
 |x::l=>no (rQ l x)&&FW l
def Lj:∀ {l:List Nat},FW l=true->l.Nodup
 |[],_=>NT
 | x::l,h=>by
   unfold FW at h;rw[xO,Gw,fF]at h;exact mU.2 ⟨contains_false.1 h.1,Lj h.2⟩
def xOk(C:Nat)(ax:List (Nat×Nat))(X:List Nat):Bool:=X.all (fun q=>xk C q)&&(X.map fun q=>(asc ax q).getD q).all (fun q=>xk C q)&&FW (X.map fun q=>(asc ax q).getD q)
def vY6{w:Wdt}{kk:Nat}  {T:Tab}{L:List (Nat×PV)}  (ax:List (Nat×Nat))(hn0:n0<=C)(hC:2<=C)(hkk:C+164<=kk)(hm:T.bs.length<=64)(hS:TabSw (ck C) T w s.h s.z)(hax:ax.all (fun p=>Nat.ble (C+164) p.1)=true)
 (hL:okV (tkρ (ck C) C ax) kk L s.t) (hX:uP (tkρ (ck C) C ax) kk [] X s.h s.z) (hXk:xOk C ax (X.map (·.1))=true):KeptG n0 s L (X++sS (ck C) T w) [] kk:=by
 unfold xOk at hXk;rw[xO,xO,xZ,xZ]at hXk;obtain⟨⟨h1,h2⟩,h3⟩:=hXk
 have ho:∀ x,xk C x=true->x<C\/C+164<=x:=fun x hx=>by
  unfold xk at hx;simp only[xO,kN,rM,mD]at hx;exact hx.2
 have er:∀ p∈X,tkρ (ck C) C ax p.1=(asc ax p.1).getD p.1:=fun p hp=>by
  cases e:asc ax p.1 with
  |some x=>unfold tkρ;rw[e];rfl
  |none=>exact RQ e (ho _ (h1 _ (zW.2 ⟨p,hp,rfl⟩)))
 refine RN hn0 hC hkk hm (pF (N:=C+164) hm (zX _)).nd hS (fun r hr=>CG fun p hp e=>?_) hL hX ?_ (fun p hp=>?_) fun p hp q hq hne e=>?_
 .have:=xZ.1 hax p hp
  rw[rM]at this;rcases hr with hr|hr
  .omega
  .have:=(pF (C:=C) (m:=64) (N:=C+164) (zX _) (zX _)).lt r hr;omega
 .rw[xZ];exact fun q hq=>h1 _ (zW.2 ⟨q,hq,rfl⟩)
 .rw[er p hp]
  exact vW hm hC (h2 _ (zW.2 ⟨p.1,zW.2 ⟨p,hp,rfl⟩,rfl⟩))
 .rw[er p hp,er q hq]at e
  have:Inhabited (Nat×Blk):=⟨(0,⟨[],0,false⟩)⟩;obtain⟨a,ha,ea⟩:=mem_ix hp;obtain⟨b,hb,eb⟩:=mem_ix hq;rw[qC]at h3;have hnd:=Lj h3;have ga:=tH (f:=(fun q=>(asc ax q).getD q)∘fun(q:Nat×Blk)=>q.1) ha;have gb:=tH (f:=(fun q=>(asc ax q).getD q)∘fun(q:Nat×Blk)=>q.1) hb;have:=SX.nodup_get hnd (i:=a) (j:=b) (by simpa using ha) (by simpa using hb) (by rw[ga,gb,ea,eb];exact e);subst this;exact hne (by rw[<- ea,<- eb])
def ZM{kk:Nat}  {T:Tab}{L:List (Nat×PV)}  (ax:List (Nat×Nat))(hn0:n0<=C)(hC:2<=C)(hkk:C+164<=kk)(hm:T.bs.length<=64)(hS:TabS (ck C) T s.h s.z)(hax:ax.all (fun p=>Nat.ble (C+164) p.1)=true)
 (hL:okV (tkρ (ck C) C ax) kk L s.t) (hX:uP (tkρ (ck C) C ax) kk [] X s.h s.z) (hXk:xOk C ax (X.map (·.1))=true):KeptG n0 s L (X++yX (ck C) T) [] kk :=
 vY6 (w:=wd0 T) ax hn0 hC hkk hm hS hax hL hX hXk
section
variable {P:Program} {Ti':Ti} {G:Gl} {n0:Nat}
def FX{kk:Nat}{K:St->Prop}{Q:Exit->St->Prop}  {T:Tab}(ax:List (Nat×Nat))(L:List (Nat×PV))(X:List (Nat×Blk))(hn0:n0<=C)(hC:2<=C)(hkk:C+164<=kk)(hm:T.bs.length<=64)(hS:TabS (ck C) T s.h s.z)(hax:ax.all (fun p=>Nat.ble (C+164) p.1)=true)
 (hL:okV (tkρ (ck C) C ax) kk L s.t) (hX:uP (tkρ (ck C) C ax) kk [] X s.h s.z) (hXk:xOk C ax (X.map (·.1))=true) (h:K ⟨sv L,hv (X++yX (ck C) T),zv [],kk⟩):tX (LeS G,n0) K Q .normal s:=by
 obtain⟨t,hh,z,nx⟩:=s;exact bK [] L _ [] kk zom (fun r hr=>by cases hr) trivial (ZM ax hn0 hC hkk hm hS hax hL hX hXk).to h
def TabS.hsX  {T:Tab}    {b:Option Blk}(S:TabS (ck C) T h z)(hm:T.bs.length<=64)(hC:2<=C)(hr:xk C r=true):TabS (ck C) T (Go.PI.hs h r b) z:=S.hs (vW hm hC hr)
def TabS.putX  {T:Tab}   (S:TabS (ck C) T h z)(hm:T.bs.length<=64)(hC:2<=C):∀ {HS:List (Nat×List PV)},HS.all (fun p=>xk C p.1)=true->TabS (ck C) T (q7 h HS) z
 |[],_=>S
 | (r,els)::l,hr=>by
   simp only[List.all_cons,xO]at hr;have ih:=TabS.putX S hm hC hr.2;intro p hp;have hne:p.1≠r:=fun e=>vW hm hC hr.1 (by rw[<- e,<- u9];exact zW.2 ⟨p,hp,rfl⟩)
   refine⟨?_,(ih p hp).2⟩;unfold q7;rw[vL,qL hne];exact(ih p hp).1
def TabS.fsX  {T:Tab}   (S:TabS (ck C) T h z)(hm:T.bs.length<=64)(hC:2<=C){KS:List Nat}(hr:KS.all (fun r=>xk C r)=true):TabS (ck C) T h (Go.PI.fs z KS):=fun p hp=>by
 refine⟨(S p hp).1,?_⟩;unfold Go.PI.fs;cases e:rQ KS p.1 with
 | true =>
   rw[fF]at e;exact absurd (by rw[<- u9];exact zW.2 ⟨p,hp,rfl⟩) (vW hm hC (xZ.1 hr p.1 (by simpa using e)))
 |false=>exact(S p hp).2
def CH{kk len len':Nat}  {t:Tm}(hax:ax.all (fun p=>Nat.ble (C+164) p.1)=true)(hkk:C+164<=kk)(hi:i<64)(h:t j=.own ((ck C).r i) 0 len)(e:len=len'):at' (tkρ (ck C) C ax) kk t j (.own ((ck C).r i) 0 len') :=
 zI (by show C+100+i<kk;omega) (by rw[h];show PV.own (C+100+i) 0 _=.own (tkρ (ck C) C ax (C+100+i)) 0 _;rw[uLA hi hax]) e
def rH   {b:Option Blk}{K:Blk->Prop}(e:j≠r)(k:oK (h j) K):oK (Go.PI.hs h r b j) K:=by rw[yM e];exact k
def eM   {T:Tab}{K:Blk->Prop}(hm:T.bs.length<=64)(hC:2<=C)(hX:X.all (fun q=>xk C q.1)=true)(hi:i<T.bs.length)(k:K ⟨yS T.fs[i]!,3,true⟩):oK (hv (X++yX (ck C) T) ((ck C).r i)) K:=BN (ZH hm hC hX hi) k
def eO(hT:∀ i x,Ti' i=some x->zK P i=x){c:Code}{Q:Exit->St->Prop}{t:Tm}    {ι:Type}(L:ι->List (Nat×PV))(H:ι->List (Nat×Blk))(k:Nat)(Inv:ι->Prop)(μ:ι->Nat)(i0:ι)(h0:Inv i0)(hk:n0<=k)
 (hs:KeptF n0 ⟨t,h,z,nx⟩ (L i0) (H i0) [] k)
 (round:∀ i,Inv i->VC P Ti' G n0 c (nG (fun s'=>∃ i',(Inv i'/\μ i'<μ i)/\KeptF n0 s' (L i') (H i') [] k) Q) ⟨sv (L i),hv (H i),zv [],k⟩) :
 kR P G (FnC P G) (FnH P G) (LeS G,n0) c Q ⟨t,h,z,nx⟩:=RF hT [] L H [] k Inv μ i0 h0 hk (fun r hr=>by cases hr) trivial hs round
def qA{kk:Nat}{t:Tm}    {T:Tab}{L:List (Nat×PV)}  (ax:List (Nat×Nat))(hn0:n0<=C)(hC:2<=C)(hkk:C+164<=kk)(hm:T.bs.length<=64)(hS:TabS (ck C) T h z)(hax:ax.all (fun p=>Nat.ble (C+164) p.1)=true)
 (hL:okV (tkρ (ck C) C ax) kk L t) (hX:uP (tkρ (ck C) C ax) kk [] X h z) (hXk:xOk C ax (X.map (·.1))=true):KeptG n0 ⟨t,h,z,nx⟩ L (X++yX (ck C) T) [] kk:=ZM ax hn0 hC hkk hm hS hax hL hX hXk
def KeptG.frz1{t:Tm}    {L:List (Nat×PV)}{H:List (Nat×Blk)}{Z:List Nat}{k:Nat}(KS:List Nat)(TS:List (Nat×PV))(HS:List (Nat×List PV))(hf:BX h KS/\fzT KS h t TS/\fzH KS h HS)
 (hi:KeptG n0 ⟨dW t TS,q7 h HS,Go.PI.fs z KS,nx⟩ L H Z k):KeptF n0 ⟨t,h,z,nx⟩ L H Z k:=KeptG.frz hf hi
def jJ  (hm:m<=64)(hi:i<m)(hq:Nat.ble (C+164) q=true):(ck C).r i≠q:=fun e=>by
 have e:C+100+i=q:=e;rw[rM]at hq;omega
def Ll   {b:Option Blk}{K:Blk->Prop}(hm:m<=64)(hi:i<m)(hq:Nat.ble (C+164) q=true)(k:oK (h ((ck C).r i)) K):oK (Go.PI.hs h q b ((ck C).r i)) K:=rH (jJ hm hi hq) k
end
open SX
variable {h:Hp}{e r j:Nat}{fm old:List Rat}{i:Nat}{l:List Rat}
abbrev rwB(l:List Rat):Blk:=⟨yS l,3,true⟩
def RR{g:PV->Option (PV×List Nat)}{c d:PV}(h1:g c=some (d,[])):∀ {l ds:List PV} {i:Nat},zZ g l=some (ds,[])->zZ g (l.set i c)=some (ds.set i d,[])
 | [],ds,i,h=>by
   unfold zZ at h;cases h;simp[zZ]
 | a::l,ds,i,h=>by
   unfold zZ at h
   split at h
   .rename_i d' ks ds' ls e1 e2
    simp only[NK,NV,M5]at h;obtain⟨rfl,rfl,rfl⟩:=h;cases i with
    |zero=>rw[List.set_cons_zero,List.set_cons_zero];unfold zZ;rw[h1,e2];rfl
    |succ i=>rw[List.set_cons_succ,List.set_cons_succ];unfold zZ;rw[e1,RR h1 e2];rfl
   .cases h
def uXC  {n:Nat}(q:Rat):frz h (n+2) (yF q)=some (yF q,[]):=rfl
def FY{h:Hp}{n:Nat}:∀ l:List Rat,zZ (frz h (n+2)) (l.map yF)=some (l.map yF,[])
 |[]=>rfl
 | q::l=>by
   rw[uW];unfold zZ;rw[uXC,FY l];rfl
def FZ:PV:=.agg [.bool false,.nilsl,.nilsl]
def ZN  {n:Nat}:frz h (n+2) FZ=some (yF 0,[]):=by
 have:yF 0=.agg [.bool false,.imm [],.imm []]:=by unfold yF;rw[nL];rfl
 rw[this];rfl
def vYI  {n:Nat}(l:List Rat):zZ (frz h (n+2)) ((l.map yF).set i FZ)=some ((l.set i 0).map yF,[]):=by
 rw[RR ZN (FY l),Ga]
def vSK  {n:Nat}  (e:i=j):zZ (frz h (n+2)) ((l.map yF).set i FZ)=some ((l.set j 0).map yF,[]):=by subst e;exact vYI l
def AR  {n w:Nat}:zZ (frz h (n+2)) (List.replicate w FZ)=some ((List.replicate w (0:Rat)).map yF,[]):=by
 induction w with
 |zero=>rfl
 |succ w ih=>rw[List.replicate_succ,List.replicate_succ,uW];unfold zZ;rw[ZN,ih];rfl
def uWU   {q:Rat}:(l.map yF).set i (yF q)=(l.set i q).map yF:=by rw[Ga]
def sbR(e:Nat)(fm l:List Rat)(j:Nat):List Rat:=(List.range l.length).map fun i=>(if i=e then 0 else l[i]!)+if i<j then l[e]!*fm[i]! else 0
def eY   : (sbR e fm l j).length=l.length:=by simp[sbR]
def CI   (hi:i<l.length):(sbR e fm l j)[i]! = (if i=e then 0 else l[i]!)+if i<j then l[e]!*fm[i]! else 0:=by
 unfold sbR;rw[oD hi]
def AU{l':List Rat}(h:l.length=l'.length)(h':∀ i,i<l.length->l[i]! = l'[i]!):l=l' :=
 vE h fun i h1 h2=>by have:=h' i h1;rwa [gp h1,gp h2]at this
def uC8   : sbR e fm l 0=l.set e 0:=by
 refine AU (by simp[eY]) fun i hi=>?_
 rw[eY]at hi;rw[CI hi,sN hi]
 grind
def uLY   : sbR e fm l l.length=vC e fm l:=by
 refine AU (by simp[eY,vC]) fun i hi=>?_
 rw[eY]at hi;rw[CI hi,zE hi];unfold vC;rw[oD hi]
def uC9   (hj:j<l.length):(sbR e fm l j).set j ((sbR e fm l j)[j]! + l[e]!*fm[j]!)=sbR e fm l (j+1):=by
 refine AU (by simp[eY]) fun i hi=>?_
 rw[Am,eY]at hi;rw[sN (by rw[eY];exact hi),CI hi,CI hj,CI hi]
 grind
def uDA   (h0:fm[j]! = 0):sbR e fm l j=sbR e fm l (j+1):=by
 refine AU (by simp[eY]) fun i hi=>?_
 rw[eY]at hi;rw[CI hi,CI hi]
 grind
def sub_zero   (h0:l[e]! = 0):vC e fm l=l:=by
 refine AU (by simp[vC]) fun i hi=>?_
 simp only[vC,z6,Ca]at hi;unfold vC;rw[oD hi]
 grind
def iG(e:Nat)(old:List Rat)(j:Nat):List Rat:=(List.range old.length).map fun i=>if i<j/\i≠e then-old[i]!/old[e]! else 0
def eZ   : (iG e old j).length=old.length:=by simp[iG]
def Fa   (hi:i<old.length):(iG e old j)[i]! = if i<j/\i≠e then-old[i]!/old[e]! else 0:=by unfold iG;rw[oD hi]
def vZU   : iG e old 0=List.replicate old.length 0:=by
 refine AU (by simp[iG]) fun i hi=>?_
 rw[eZ]at hi;have e0:(List.replicate old.length (0:Rat))[i]! = 0:=by rw[gp (by simpa using hi)];simp
 rw[Fa hi,e0,zB zom]
def vZV   (hj:j<old.length)(hne:j≠e):(iG e old j).set j (- old[j]!/old[e]!)=iG e old (j+1):=by
 refine AU (by simp[eZ]) fun i hi=>?_
 rw[Am,eZ]at hi;rw[sN (by rw[eZ];exact hi),Fa hi,Fa hi]
 grind
def ZO   (h:j=e\/old[j]! = 0):iG e old j=iG e old (j+1):=by
 refine AU (by simp[eZ]) fun i hi=>?_
 rw[eZ]at hi;rw[Fa hi,Fa hi];by_cases hij:i=j
 .subst hij
  rcases h with h|h
  .grind
  .rw[h,zB zom];split<;>grind
 .grind
def uF2   (he:e<old.length):(iG e old old.length).set e (1/old[e]!)=x9 e old:=by
 refine AU (by simp[eZ,x9]) fun i hi=>?_
 rw[Am,eZ]at hi;rw[sN (by rw[eZ];exact hi),Fa hi];unfold x9;rw[oD hi]
 grind
def fsJ(e r:Nat)(f:List Rat)(fs:List (List Rat))(j:Nat):List (List Rat):=(List.range fs.length).map fun i=>if i<j/\i≠r then vC e f fs[i]! else fs[i]!
def RS{α:Type}[Inhabited α]{n:Nat}{f:Nat->α}  (h:j<n):((List.range n).map f)[j]! = f j:=by
 rw[gp (by simpa using h)];simp
def ZP  {f:List Rat}{fs:List (List Rat)}:(fsJ e r f fs j).length=fs.length:=by simp[fsJ]
def CJ  {f:List Rat}{fs:List (List Rat)}(hi:i<fs.length):(fsJ e r f fs j)[i]! = if i<j/\i≠r then vC e f fs[i]! else fs[i]! := by unfold fsJ;rw[RS hi]
def uFY  {f:List Rat}{fs:List (List Rat)}:fsJ e r f fs 0=fs:=by
 refine vE (by simp[fsJ]) fun i h1 h2=>?_
 have:=CJ (e:=e) (r:=r) (j:=0) (f:=f) h2;rw[gp h1,zB zom,gp h2]at this;exact this
def uF0  {f:List Rat}{fs:List (List Rat)}(hi:i<fs.length)(hne:i≠j):(fsJ e r f fs (j+1))[i]! = (fsJ e r f fs j)[i]! := by
 rw[CJ hi,CJ hi];by_cases h:i<j/\i≠r
 .rw[zE h,zE ⟨zom,h.2⟩]
 .rw[zB h,zB (fun h'=>h ⟨zom,h'.2⟩)]
def uT2  {f:List Rat}{fs:List (List Rat)}(hj:j<fs.length):(fsJ e r f fs j)[j]! = fs[j]! := by rw[CJ hj,zB zom]
def uOX  {f:List Rat}{fs:List (List Rat)}(hj:j<fs.length)(hne:j≠r):(fsJ e r f fs (j+1))[j]! = vC e f fs[j]! := by rw[CJ hj,zE ⟨zom,hne⟩]
def uFZ  {f:List Rat}{fs:List (List Rat)}:fsJ e r f fs (r+1)=fsJ e r f fs r:=by
 refine vE (by simp[fsJ]) fun i h1 h2=>?_
 have hi:i<fs.length:=by simpa [fsJ]using h1
 have a:=CJ (e:=e) (r:=r) (j:=r+1) (f:=f) hi;have b:=CJ (e:=e) (r:=r) (j:=r) (f:=f) hi;rw[gp h1]at a;rw[gp h2]at b;rw[a,b];by_cases h:i<r/\i≠r
 .rw[zE h,zE ⟨zom,h.2⟩]
 .rw[zB h,zB (fun h'=>h ⟨zom,h'.2⟩)]
def uOY  {f:List Rat}{fs:List (List Rat)}:(fsJ e r f fs fs.length).set r f=(fs.map (vC e f)).set r f:=by
 refine vE (by simp[fsJ]) fun i h1 h2=>?_
 have hi:i<fs.length:=by simpa [fsJ]using h1
 rw[kL,kL];by_cases h:r=i
 .rw[zE h,zE h]
 .rw[zB h,zB h]
  have a:=CJ (e:=e) (r:=r) (j:=fs.length) (f:=f) hi;rw[gp (by rw[ZP];exact hi),zE ⟨hi,y9 h⟩,gp hi]at a;rw[a,vS]
def ZQ{k:Nat}  (hk:1<=k)(ha:old[e]! ≠ 0)(h:∀ i,i<old.length->sz k old[i]!)(he:e<old.length)  (hj:j<old.length):sz (k+k) (x9 e old)[j]! := by
 unfold x9;rw[oD hj]
 split
 .exact H8 ha (xV hk (⟨zdd,zdd⟩:sz 1 (1:Rat))) (h e he)
 .exact H8 ha (cE (h j hj)) (h e he)
open SX
variable {args:List PV}{v:Nat}{h:Hp}{ds:List PV}{k:Nat}
def pG(T:Tab):PV:=.agg [.int .i64 T.vars,.int .i64 T.bs.length,.imm (yV T.bs),.imm (yV T.ns),.imm (T.fs.map fun l=>.imm (yS l)),.imm (yS T.ob),.int .i64 T.pv]
def Lm{h:Hp}{n:Nat}:∀ l:List Nat,zZ (frz h n) (yV l)=some (yV l,[])
 |[]=>rfl
 | i::l=>by
   show zZ (frz h n) (PV.int .i64 (i:Int)::yV l)=_
   unfold zZ;rw[Lm l];cases n<;>rfl
def Fb  {r n:Nat}{els:List PV}{sz:Nat}{agg:Bool}{m:Nat}  (hb:h r=some ⟨els,sz,agg⟩)(hl:els.length=m)(he:zZ (frz h n) els=some (ds,[])):frz h (n+1) (.own r 0 m)=some (.imm ds,[r]):=by
 subst hl;unfold frz;rw[hb];dsimp only;rw[zE zom,EJ,kK,he]
def ZR{k:Tk}{T:Tab}{h:Hp}{w n:Nat}(hr:∀ i,i<T.bs.length->h (k.r i)=some ⟨yS T.fs[i]!,3,true⟩/\T.fs[i]!.length=w):∀ (l:List Nat),(∀ i∈l,i<T.bs.length)->zZ (frz h (n+3)) (l.map fun i=>.own (k.r i) 0 w)=some (l.map fun i=>.imm (yS T.fs[i]!),l.map k.r)
 |[],_=>rfl
 | i::l,hl=>by
   rw[uW,uW,uW];unfold zZ;rw[Fb (n:=n+2) (hr i (hl i zsm)).1 (by rw[z6];exact(hr i (hl i zsm)).2) (FY _),ZR hr l fun j hj=>hl j (by simp[hj])];rfl
def uF3{T:Tab}(hf:T.fs.length=T.bs.length):((List.range T.bs.length).map fun i=>PV.imm (yS T.fs[i]!))=T.fs.map fun l=>.imm (yS l):=by
 refine vE (by simp[hf]) fun i h1 h2=>?_
 simp only[vS,oQ];rw[gp (by simpa using h2)]
def Fc{k:Tk}{T:Tab}  {z:Fz}(W:Wf T)(S:TabS k T h z):frz h 6 (.ptr 1 0 0)=some (.cptr (pG T) 0,1::([k.b]++([k.n]++(k.f::((List.range T.bs.length).map k.r)++[k.o])))):=by
 have e1:zZ (frz h 4) [.int .i64 T.vars,.int .i64 T.bs.length,.own k.b 0 T.bs.length,.own k.n 0 T.ns.length,.own k.f 0 T.bs.length,.own k.o 0 (T.ns.length+1),.int .i64 T.pv]=some ([.int .i64 T.vars,.int .i64 T.bs.length,.imm (yV T.bs),.imm (yV T.ns),.imm (T.fs.map fun l=>.imm (yS l)),.imm (yS T.ob),.int .i64 T.pv],[k.b]++([k.n]++(k.f::((List.range T.bs.length).map k.r)++[k.o]))):=by
  have a1:=Fb (n:=3) (m:=T.bs.length) S.b zsm (Lm T.bs);have a2:=Fb (n:=3) (m:=T.ns.length) S.n zsm (Lm T.ns);have a4:=Fb (n:=3) (m:=T.ns.length+1) S.o (by rw[z6];exact W.ol) (FY (n:=1) T.ob)
  have a3:frz h 4 (.own k.f 0 T.bs.length)=some (.imm (T.fs.map fun l=>.imm (yS l)),k.f::(List.range T.bs.length).map k.r):=by
   unfold frz;rw[S.f];dsimp only;rw[zE (by simp[uK]),EJ,show(uK k T.bs.length (T.ns.length+1)).take T.bs.length=uK k T.bs.length (T.ns.length+1) from uT (by simp[uK])];unfold uK;rw[ZR (n:=0) (fun i hi=>⟨(S.row hi).1,W.ll i hi⟩) _ (fun i hi=>by simpa using hi),uF3 W.fl]
  unfold zZ zZ zZ zZ zZ zZ zZ zZ;rw[a1,a2,a3,a4];rfl
 show (match h 1 with
  | some b=>(match b.els[0]? with
    | some e=>(match frz h 5 e with
      |some (d,ks)=>some (PV.cptr d 0,1::ks)
      |none=>none)
    |none=>none)
  |none=>none)=_
 rw[S.t.1]
 show (match frz h 5 (qU k T) with
       |some (d,ks)=>some (PV.cptr d 0,1::ks)
       |none=>none)=_
 have:frz h 5 (qU k T)=(match zZ (frz h 4) [.int .i64 T.vars,.int .i64 T.bs.length,.own k.b 0 T.bs.length,.own k.n 0 T.ns.length,.own k.f 0 T.bs.length,.own k.o 0 (T.ns.length+1),.int .i64 T.pv]with
  |some (ds,ks)=>some (.agg ds,ks)
  |none=>none):=rfl
 rw[this,e1];rfl
section
variable {P:Program} {G:Gl} {C:wK}
def ZT{f:FuncId}  {ks:List Nat}{kd:IntKind}{b:Int}{K:PV->St->Prop}{s:St}(hC:FnC P G f ds (.data (.int kd b)))(hf:zZ (frz s.h 6) args=some (ds,ks))(hk:K (.int kd b) s):FnH P G f args K s:=by
 refine⟨hC.1,fun E w A κ vs hn hκ hA hw H hfr hvs=>?_⟩;have hRD:=Gj H hf hvs;have hHf:=H.freeze (dQ hf);have hcall:=hC.2 w _ _ hHf.alt hHf.gok hRD;refine hcall.mono fun e w' ⟨v',he,hb,hh⟩=>?_
 have hv:v'=.int kd b:=(RV.data (κ:=κ) _ _ hh).int_inv;subst hv;exact⟨_,.int kd b,_,κ,s,he,H.after hb (X:=fun _=>False) (fun b h=>h.elim),hfr,zX _,.data _ _ (.int kd b),hk⟩
def RU{f:FuncId}  {ks:List Nat}{kd:IntKind}{b:Int}{d:Option Nat}{K:FP->St->Prop}{t:Tm}  {z:Fz}{nx:Nat}
 (hC:FnC P G f ds (.data (.int kd b))) (hf:zZ (frz h 6) args=some (ds,ks)) (hk:oV K t d (.int kd b) h z nx ⟨[],[],[]⟩):rR C (FnH P G) false f args d K ⟨t,h,z,nx⟩ :=
 fO (ZT hC hf hk)
end
def onI:Option Nat->Int
 |none=>-1
 |some j=>j
def RX{can:Nat->Bool}{lt:Nat->Nat->Prop}[∀ a b,Decidable (lt a b)]:∀ {k b},bsF can lt k=some b->b<k
 | k + 1,b,h=>by
   unfold bsF at h
   split at h
   .split at h
    .cases h;omega
    .rename_i b' h'
     have:=RX h'
     split at h<;>cases h<;>omega
   .have:=RX h;omega
def RY  {ns:List Nat}{l:List Rat}{b:Nat}(h:wX v ns l k=some b):b<k:=RX h
def uGE  {ns:List Nat}{l:List Rat}  :
 (¬ (v<=ns[k]! /\ l[k]! < 0)->wX v ns l (k+1)=wX v ns l k) /\
 ((v<=ns[k]! /\ l[k]! < 0)->wX v ns l k=none->wX v ns l (k+1)=some k) /\
 ((v<=ns[k]! /\ l[k]! < 0)->∀ b,wX v ns l k=some b->(ns[k]! < ns[b]! -> wX v ns l (k+1)=some k)/\(¬ ns[k]! < ns[b]! -> wX v ns l (k+1)=some b)):=by
 unfold wX;refine⟨fun h=>?_,fun h h0=>?_,fun h b h0=>⟨fun h1=>?_,fun h1=>?_⟩⟩<;>conv=>lhs;unfold bsF
 .rw[zB (by simpa using h)]
 .rw[zE (by simpa using h),h0]
 .rw[zE (by simpa using h),h0];dsimp only;rw[zE h1]
 .rw[zE (by simpa using h),h0];dsimp only;rw[zB h1]
def uFM  {T:Tab}{e:Nat} :
 (¬ (v<=T.bs[k]! /\ T.fs[k]![e]! < 0)->vV v T e (k+1)=vV v T e k) /\
 ((v<=T.bs[k]! /\ T.fs[k]![e]! < 0)->vV v T e k=none->vV v T e (k+1)=some k) /\
 ((v<=T.bs[k]! /\ T.fs[k]![e]! < 0)->∀ b,vV v T e k=some b->((xK T e k<xK T e b\/xK T e k=xK T e b/\T.bs[k]! < T.bs[b]!)->vV v T e (k+1)=some k)/\(¬ (xK T e k<xK T e b\/xK T e k=xK T e b/\T.bs[k]! < T.bs[b]!)->vV v T e (k+1)=some b)):=by
 unfold vV;refine⟨fun h=>?_,fun h h0=>?_,fun h b h0=>⟨fun h1=>?_,fun h1=>?_⟩⟩<;>conv=>lhs;unfold bsF
 .rw[zB (by simpa using h)]
 .rw[zE (by simpa using h),h0]
 .rw[zE (by simpa using h),h0];dsimp only;rw[zE h1]
 .rw[zE (by simpa using h),h0];dsimp only;rw[zB h1]
def ZU  {T:Tab}{e:Nat}:∀ {k b},vV v T e k=some b->b<k/\v<=T.bs[b]! /\ T.fs[b]![e]! < 0:=fun {k b} h=>by
 have:=(AJ (FI T e).1 (FI T e).2 k).2 b h;exact⟨this.1,andT.1 this.2.1⟩
def vYK  {n:Nat}:zZ (frz h (n+2)) [.agg [.bool false,.nilsl,.nilsl]]=some ([yF 0],[]):=AR (n:=n) (w:=1)
def uCR  {T:Tab}  :
 (¬ (v<=T.bs[k]! /\ T.fs[k]![T.ns.length]! < 0)->u6 v T (k+1)=u6 v T k) /\
 ((v<=T.bs[k]! /\ T.fs[k]![T.ns.length]! < 0)->u6 v T k=none->u6 v T (k+1)=some k) /\
 ((v<=T.bs[k]! /\ T.fs[k]![T.ns.length]! < 0)->∀ b,u6 v T k=some b->(T.fs[k]![T.ns.length]! < T.fs[b]![T.ns.length]! -> u6 v T (k+1)=some k)/\(¬ T.fs[k]![T.ns.length]! < T.fs[b]![T.ns.length]! -> u6 v T (k+1)=some b)):=by
 unfold u6;refine⟨fun h=>?_,fun h h0=>?_,fun h b h0=>⟨fun h1=>?_,fun h1=>?_⟩⟩<;>conv=>lhs;unfold bsF
 .rw[zB (by simpa using h)]
 .rw[zE (by simpa using h),h0]
 .rw[zE (by simpa using h),h0];dsimp only;rw[zE h1]
 .rw[zE (by simpa using h),h0];dsimp only;rw[zB h1]
end Go.PI
namespace Go.PI.SX
def scF(o n:Nat)(L:List Nat)(g c:Nat->Rat)(j:Nat):List Rat:=(List.range n).map fun v=>if o+v∈L.take j then g (L.idxOf (o+v)) else c v
variable {o n:Nat} {L:List Nat} {g c:Nat->Rat} {j:Nat}
@[simp] theorem Lp:(scF o n L g c j).length=n:=by simp[scF]
def Io:scF o n L g c 0=(List.range n).map c:=by simp[scF]
def RZ:scF o n L g c L.length=(List.range n).map fun v=>if o+v∈L then g (L.idxOf (o+v)) else c v:=by simp[scF]
def Fe(hj:j<L.length){x:Nat}:x∈L.take (j+1)↔x∈L.take j\/x=L[j]! := by
 rw[tO hj,y8,yG,gp hj]
def ZV{v:Nat}(h:v<(scF o n L g c j).length):(scF o n L g c j)[v]=if o+v∈L.take j then g (L.idxOf (o+v)) else c v:=by simp[scF]
def Lr(hL:L.Nodup)(hj:j<L.length){i:Nat}(h:L[j]! = o+i)(_:i<n):scF o n L g c (j+1)=(scF o n L g c j).set i (g j):=by
 refine vE zsm fun v h1 h2=>?_
 rw[kL,ZV];have hv:v<n:=by simpa using h1
 by_cases e:i=v
 .subst e
  rw[zE ((Fe hj).2 (zC h.symm)),zE rfl,<- h,Qh hL hj]
 .rw[zB e,ZV]
  by_cases hm:o+v∈L.take j
  .rw[zE hm,zE ((Fe hj).2 (zF hm))]
  .rw[zB hm,zB fun h'=>?_]
   rcases(Fe hj).1 h' with h'|h'
   .exact hm h'
   .omega
def Ls(hj:j<L.length)(h:∀ i,i<n->L[j]! ≠ o+i):scF o n L g c (j+1)=scF o n L g c j:=by
 unfold scF;refine rL fun v hv=>?_
 have hv:=yN.1 hv;by_cases hm:o+v∈L.take j
 .rw[zE hm,zE ((Fe hj).2 (zF hm))]
 .rw[zB hm,zB fun h'=>?_]
  rcases(Fe hj).1 h' with h'|h'
  .exact hm h'
  .exact h v hv h'.symm
def ZW{m:Nat}{l:List Rat}:scF n m L (fun i=>l[i]!) (fun _=>0) L.length=tN n m L l:=RZ
def Ra{m:Nat}:(List.range m).map (fun _=>(0:Rat))=List.replicate m 0:=by
 refine vE zsm fun i h1 h2=>by simp
def uSO{T:Tab}(W:Wf T):scF 0 n T.bs (fun i=>T.fs[i]![T.ns.length]!) (fun _=>0) T.bs.length=u7 n T:=by
 rw[RZ];unfold u7;refine rL fun v _=>?_
 rw[z7];by_cases h:v∈T.bs
 .obtain⟨h1,h2⟩:=oI h
  rw[zE h]
  conv=>rhs;rw[<- h2]
  rw[Ic W h1]
 .rw[zB h]
  unfold bpF ptF;by_cases h':v∈T.ns
  .rw[zE h',gp (by simpa using (oI h').1)];simp
  .rw[zB h',zB h]
def uSI{T:Tab}(W:Wf T){e:Nat}(he:e<T.ns.length){b:Rat}:scF 0 n T.bs (fun i=>b*T.fs[i]![e]!) (fun v=>if T.ns[e]! = v then b else 0) T.bs.length=mO n T e b:=by
 rw[RZ];unfold mO;refine rL fun v _=>?_
 rw[z7];by_cases h:v∈T.bs
 .rw[zE h,zB fun h':T.ns[e]! = v=>W.dis h (h' ▸ x6 he),zE h]
 .rw[zB h]
  by_cases h':T.ns[e]! = v
  .rw[zE h',zE h']
  .rw[zB h',zB h',zB h]
def vVO{T:Tab}{e:Nat}{b:Rat}:(List.range n).map (fun v=>if T.ns[e]! = v then b else 0)=if T.ns[e]! < n then(List.replicate n (0:Rat)).set T.ns[e]! b else List.replicate n 0:=by
 by_cases h:T.ns[e]! < n
 .rw[zE h]
  refine vE zsm fun i h1 h2=>?_
  rw[kL];simp
 .rw[zB h]
  refine vE zsm fun i h1 h2=>?_
  have hi:i<n:=by simpa using h1
  rw[vS,oQ,zB zom];simp
variable {e:Nat}
def uFS{l:List Nat}{v j:Nat}(hj:j<l.length)(e:l[j]! = v)(hno:v∉l.take j):l.idxOf v=j:=by
 have hm:v∈l:=e ▸ x6 hj;obtain⟨h1,h2⟩:=oI hm
 have hle:l.idxOf v<=j:=by
  rw[<- Ac j l,List.idxOf_append,zB hno];have:l.drop j=v::l.drop (j+1):=by rw[kI hj,<- e,gp hj]
  rw[this,List.idxOf_cons_self];simp;omega
 rcases nD (l.idxOf v) j with h|h
 .exact absurd (Tt.2 ⟨l.idxOf v,zom,by rw[<- gp h1];exact h2⟩) hno
 .omega
def uO0{n i:Nat}{T:Tab}(hi:i<T.bs.length)(h:n<=T.bs[i]! /\ T.fs[i]![e]! ≠ 0)(hb:∀ r,r<i->¬ (n<=T.bs[r]! /\ T.fs[r]![e]! ≠ 0)):Bs n T e=some i:=by
 unfold Bs;rw[JL];exact⟨andT.2 h,yN.2 hi,fun j hj=>by rw[andF.2 fun h1 h2=>hb j hj ⟨h1,h2⟩];rfl⟩
def uT4{n:Nat}{T:Tab}(hb:∀ r,r<T.bs.length->¬ (n<=T.bs[r]! /\ T.fs[r]![e]! ≠ 0)):Bs n T e=none:=by
 unfold Bs;rw[CZ];exact fun r hr=>by rw[andF.2 fun h1 h2=>hb r (yN.1 hr) ⟨h1,h2⟩];simp
def uDH{n i:Nat}{T:Tab}(h:Bs n T e=some i):eG n T e=zY T i e:=by unfold eG;rw[h]
def uL6{n:Nat}{T:Tab}(h:Bs n T e=none):eG n T e=T:=by unfold eG;rw[h]
def uDG{n:Nat}{T:Tab}:(eG n T e).bs.length=T.bs.length/\(eG n T e).ns.length=T.ns.length/\(eG n T e).vars=T.vars:=by
 unfold eG
 split<;>simp[zY]
def Ff{n:Nat}{T:Tab}:∀ k,(yT n T k).bs.length=T.bs.length/\(yT n T k).ns.length=T.ns.length/\(yT n T k).vars=T.vars
 |0=>⟨rfl,rfl,rfl⟩
 | k+1=>by
   obtain⟨h1,h2,h3⟩:=Ff (n:=n) (T:=T) k;obtain⟨g1,g2,g3⟩:=uDG (n:=n) (e:=k) (T:=yT n T k);exact⟨g1.trans h1,g2.trans h2,g3.trans h3⟩
end Go.PI.SX
namespace Go.PI
variable {h:Hp}{r:Nat}
def uN0{n k:Nat}{z:PV}{K:PV->Prop}(j:Nat)(e:k=j)(h:j<n)(q:K z):oK (nth (List.replicate n z) k) K:=by
 rw[show List.replicate n z=(List.range n).map fun _=>z by rw[List.map_const',Ca]];exact yB j e (by simpa using h) q
def vYJ  {n w i j:Nat}{q:Rat}(e:i=j):zZ (frz h (n+2)) ((List.replicate w FZ).set i (yF q))=some (((List.replicate w (0:Rat)).map yF).set j (yF q),[]):=by subst e;exact RR rfl AR
def vR{α:Type}{o:Option α}{b:α}{K:α->Prop}(e:o=some b)(k:K b):oK o K:=BN e k
def Dk   {b:Blk}{K:Blk->Prop}(k:K b):oK (Go.PI.hs h r (some b) r) K:=BN (by unfold Go.PI.hs;rw[EM]) k
def ZX{k j:Nat}(h:j≠k):rQ [k] j=false:=by
 unfold rQ;rw[show Nat.beq j k=false from by rw[vL];simpa using h];rfl
def Lt{b:Bool}{A:Prop}(h:b=true)(k:A):brT b A:=Gu h k
def hs_same   {b:Option Blk}:Go.PI.hs h r b r=b:=by unfold Go.PI.hs;rw[EM]
def Tk.Ok.not{k:Tk}{m N:Nat}(h:k.Ok m N)(hr:N<=r):r∉k.ks m:=fun hx=>by have:=h.lt _ hx;omega
def Lu{k:Tk}{C q x:Nat}:tkρ k C [(q,x)] q=x:=by unfold tkρ asc;rw[EM]
def ZY{q x:Nat}(h:r≠q):asc [(q,x)] r=none:=by
 unfold asc;rw[show Nat.beq r q=false from by rw[vL];simpa using h];rfl
def dA{C m:Nat}(hm:m<=64)(h:r∈(ck C).ks m):r<C+164:=by
 rcases ks_mem.1 h with h'|h'|h'|h'|h'|⟨i,hi,h'⟩<;>first|omega|(simp only[ck]at h';omega)
open Go.RowKit SX
variable {args:List PV}{T':Tab}
def Rb(P:Program)(G:Gl)(f:FuncId)(args:List PV)(X:List (Nat×Blk))(B:Nat)(T:Tab)(v:PV)(T':Tab):Prop :=
 ∀ (k:Tk) (N:Nat) (t0:Tm),k.Ok T.bs.length N->(∀ p∈X,p.1∉k.ks T.bs.length/\p.1<N)->N<=B ->
   FnH P G f (.ptr 1 0 0::args) (fun pv s=>FV k N T.bs.length v T' pv s/\∀ p∈X,s.h p.1=some p.2/\s.z p.1=false) ⟨t0,lsH (X++yX k T),fun _=>false,N⟩
section
variable {P:Program} {Ti':Ti} {G:Gl}
def uT8(hm:P.follows .mixedOrders=true)(hT:∀ i x,Ti' i=some x->zK P i=x){f:FuncId}{fn:Func}{c:Code}{rs:List ResultVar}{nt:Nat}(ok:FnOk P f fn c rs nt)  (hl:args.length+1<=nt){X:List (Nat×Blk)}{B:Nat}{T:Tab}{v:PV}
 (h:∀ (k:Tk) (N:Nat),k.Ok T.bs.length N->(∀ p∈X,p.1∉k.ks T.bs.length/\p.1<N)->N<=B->VC P Ti' G N c (rS Ti' rs fun pv s=>FV k N T.bs.length v T' pv s/\∀ p∈X,s.h p.1=some p.2/\s.z p.1=false) ⟨fK (.ptr 1 0 0::args),hv (X++yX k T),noZ,N⟩):Rb P G f args X B T v T':=fun k N t0 hk hX hN=>by
 rw[CE];exact iR hm hT ok (by simpa using hl) (h k N hk hX hN)
def Lv{k:Tk}{T:Tab}:∀ {X:List (Nat×Blk)},(k.ks T.bs.length).Nodup->(∀ p∈X,p.1∉k.ks T.bs.length)->TabS k T (hv (X++yX k T)) noZ
 |[],hnd,_=>Im hnd
 | (r,b)::l,hnd,hX=>by
   have ih:=Lv (X:=l) hnd fun p hp=>hX p (xN _ hp)
   exact TabS.hs ih (hX (r,b) (tT ..))
def ZZ{Cs:wK}{f:FuncId}  {d:Option Nat}{K:FP->St->Prop}{t:Tm}{h:Hp}{z:Fz}{nx B:Nat}{T:Tab}{v:PV}(k:Tk)(X:List (Nat×Blk))(hF:Rb P G f args X B T v T')(hk:k.Ok T.bs.length nx)(hX:∀ p∈X,p.1∉k.ks T.bs.length/\p.1<nx)(h0:∀ p∈X,0<p.1)(hXn:(X.map (·.1)).Nodup)(hB:nx<=B)(hS:TabS k T h z)(hXS:∀ p∈X,h p.1=some p.2/\z p.1=false)
 (hK:∀ (k':Tk) (h':Hp) (z':Fz) (nx':Nat),(k'.ks T'.bs.length).Nodup->(∀ x∈k'.ks T'.bs.length,x∈k.ks T.bs.length\/nx<=x)->TabS k' T' h' z'->(∀ r,r<nx->r∉k.ks T.bs.length->h' r=h r/\z' r=z r)->nx<=nx'->oV K t d v h' z' nx' ⟨[],[],[]⟩) :
 rR Cs (FnH P G) false f (.ptr 1 0 0::args) d K ⟨t,h,z,nx⟩:=by
 have keys:(X++yX k T).map (·.1)=X.map (·.1)++k.ks T.bs.length:=by rw[wB,u9]
 refine fO (FnH.mono _ _ _ _ _ (fun pv s' hq=>?_) (Ld (s:=⟨t,h,z,nx⟩) (hF k nx t hk hX hB) rfl ?_ (fun p hp=>?_) fun p hp=>?_))
 .obtain⟨s1,⟨⟨hv,k',g1,g2,g3⟩,gX⟩,e1,e2,e3,e4⟩:=hq
  subst hv;obtain⟨t',h',z',nx'⟩:=s';dsimp only at e1 e2 e4 ⊢;subst e1;subst e2;subst e4
  have inn:∀ x∈k'.ks T'.bs.length,nx<=x\/x∈(X++yX k T).map (·.1):=fun x hx=>by
   rw[keys];rcases g2 x hx with h|h
   .exact zC (pJ _ h)
   .exact zF h
  refine hK k' _ _ _ g1 g2 (fun p hp=>?_) (fun r hr hn=>?_) e3
  .have hx:p.1∈k'.ks T'.bs.length:=by rw[<- u9];exact zW.2 ⟨p,hp,rfl⟩
   rw[oJ (inn _ hx),oJ (inn _ hx),B0 (g3 p hp).2];exact⟨(g3 p hp).1,rfl⟩
  .by_cases hx:r∈X.map (·.1)
   .obtain⟨p,hp,rfl⟩:=zW.1 hx
    have hi:nx<=p.1\/p.1∈(X++yX k T).map (·.1):=zC (by rw[keys];exact sV _ hx);rw[oJ hi,oJ hi,B0 (gX p hp).2,(gX p hp).1,(hXS p hp).1,(hXS p hp).2];exact⟨rfl,rfl⟩
   .have ho:¬ (nx<=r\/r∈(X++yX k T).map (·.1)):=by
     rw[keys]
     rintro(h|h)
     .omega
     .exact(y8.1 h).elim hx hn
    rw[bJ ho,bJ ho];exact⟨rfl,rfl⟩
 .rw[keys]
  exact iK.2 ⟨hXn,hk.nd,fun a ha b hb e=>by
   obtain⟨p,hp,rfl⟩:=zW.1 ha
   exact(hX p hp).1 (e ▸ hb)⟩
 .rcases y8.1 hp with hp|hp
  .exact⟨(hXS p hp).1,(hXS p hp).2,(hX p hp).2⟩
  .exact⟨(hS p hp).1,(hS p hp).2,hk.lt _ (by rw[<- u9];exact zW.2 ⟨p,hp,rfl⟩)⟩
 .rcases y8.1 hp with hp|hp
  .exact h0 p hp
  .exact hk.pos _ (by rw[<- u9];exact zW.2 ⟨p,hp,rfl⟩)
end
variable {args:List PV}
section
variable {P:Program} {T:Ti} {G:Gl} {n0:Nat} {C:wK}
def uF4{f:FuncId}{ds:List PV}{ks:List Nat}{b:Bool}{K:PV->St->Prop}{s:St}(hC:FnC P G f ds (.data (.bool b)))(hf:zZ (frz s.h 6) args=some (ds,ks))(hk:K (.bool b) s):FnH P G f args K s:=by
 refine⟨hC.1,fun E w A κ vs hn hκ hA hw H hfr hvs=>?_⟩;have hRD:=Gj H hf hvs;have hHf:=H.freeze (dQ hf);have hcall:=hC.2 w _ _ hHf.alt hHf.gok hRD;refine hcall.mono fun e w' ⟨v',he,hb,hh⟩=>?_
 have hv:v'=.bool b:=(RV.data (κ:=κ) _ _ hh).bool_inv;subst hv;exact⟨_,.bool b,_,κ,s,he,H.after hb (X:=fun _=>False) (fun b h=>h.elim),hfr,zX _,.data _ _ (.bool b),hk⟩
def Za{f:FuncId}{ds:List PV}{ks:List Nat}{b:Bool}{d:Option Nat}{K:FP->St->Prop}{t:Tm}{h:Hp}{z:Fz}{nx:Nat}
 (hC:FnC P G f ds (.data (.bool b))) (hf:zZ (frz h 6) args=some (ds,ks)) (hk:oV K t d (.bool b) h z nx ⟨[],[],[]⟩):rR C (FnH P G) false f args d K ⟨t,h,z,nx⟩ :=
 fO (uF4 hC hf hk)
end
variable {args:List PV}{v:PV}{nx:Nat}
section
variable {P:Program} {T:Ti} {G:Gl}
def mR{C:wK}{I:rP}{D:Bool}{f:FuncId}   {d:Option Nat}{K:FP->St->Prop}{t:Tm}{h:Hp}{z:Fz}  (L:List (Nat×Blk))(N:Nat)(hC:C f args (.pk L N v none))(hok:fD h z L N args)(hv:mZ N nx v=v)
 (hk:fN (nx+1) fun nx=>oV K t d v h z nx ⟨A9 L,[],[]⟩):rR C I D f args d K ⟨t,h,z,nx⟩:=by
 have e:yY z []=z:=by funext r;simp[yY]
 rw[jV]at hk;unfold rR fE;refine zF ?_;exact⟨⟨A9 L,[],[]⟩,_,_,zC (zC (zC ⟨L,N,v,none,hC,hok,rfl,rfl,rfl,rfl,rfl⟩)),by dsimp only;rw[hv,e];exact BR hk⟩
def Zb{C:wK}{I:rP}{D:Bool}{f:FuncId}  {b:Blk}{len:Nat}{d:Option Nat}{K:FP->St->Prop}{t:Tm}{h:Hp}{z:Fz}  (L:List (Nat×Blk))(N:Nat)(hC:C f args (.pk L N (.own N 0 len) (some b)))(hok:fD h z L N args)
 (hk:fN (nx+1) fun nx'=>oV K t d (.own nx 0 len) (hs h nx (some b)) z nx' ⟨A9 L,[nx],[]⟩):rR C I D f args d K ⟨t,h,z,nx⟩:=by
 have e:yY z []=z:=by funext r;simp[yY]
 rw[jV]at hk;unfold rR fE;refine zF ?_
 exact⟨⟨A9 L,[nx],[]⟩,_,_,zC (zC (zC ⟨L,N,_,some b,hC,hok,rfl,rfl,rfl,rfl,rfl⟩)),by
  dsimp only;rw[show mZ N nx (.own N 0 len)=.own nx 0 len by simp[mZ],e,show Gb h nx (some b)=hs h nx (some b) by rw[pR];rfl]
  exact BR hk⟩
def Zd{f:FuncId}  {L:List (Nat×Blk)}{N:Nat}  {nb:Option Blk}(hc:callable P f=true)(h:FnH P G f args (pkK L N v nb) ⟨fun _=>.any,lsH L,fun _=>false,N⟩):FnC P G f args (.pk L N v nb):=⟨hc,h⟩
def Ip(hm:P.follows .mixedOrders=true)(hT:∀ i x,T i=some x->zK P i=x){f:FuncId}{fn:Func}{c:Code}{rs:List ResultVar}{nt:Nat}(ok:FnOk P f fn c rs nt){ds:List PV}(hl:ds.length<=nt){L:List (Nat×Blk)}{N:Nat}  {nb:Option Blk}
 (h:VC P T G N c (rS T rs (pkK L N v nb)) ⟨fK ds,hv L,noZ,N⟩):FnC P G f ds (.pk L N v nb) :=
 Zd ok.callable (by rw[CE];exact iR hm hT ok hl h)
def pkI{f:FuncId}{ds:List PV}{ks:List Nat}{kd:IntKind}{b:Int}{L:List (Nat×Blk)}(N:Nat)(hC:FnC P G f ds (.data (.int kd b)))(hf:zZ (frz (lsH L) 6) args=some (ds,ks))(hn:(L.map (·.1)).Nodup):FnC P G f args (.pk L N (.int kd b) none) :=
 Zd hC.1 (ZT hC hf ⟨rfl,zF rfl,fun p hp=>⟨by rw[CE];exact CC hn hp,rfl⟩,fun b hb=>by cases hb⟩)
end
open Go.RowKit SX
structure XbOk(X:List (Nat×Blk)):Prop where
 lt:∀ p∈X,2<=p.1/\p.1<4000
 nd:(X.map (·.1)).Nodup
 ok:∀ (k:Tk) (h:Hp) (z:Fz),(∀ p∈X,h p.1=some p.2/\z p.1=false)->uP (tkρ k 5000 []) 5300 [] X h z
def XbOk.xk{X:List (Nat×Blk)}(hX:XbOk X):X.all (fun q=>xk 5000 q.1)=true:=by
 rw[xZ];intro p hp;have:=hX.lt p hp;unfold Go.PI.xk;simp only[xO,kN,rM,mD];omega
variable {args:List PV}{k:Nat}{X:List (Nat×Blk)}{n0 nx:Nat}
def XbOk.not  (hX:XbOk X){m:Nat}(hm:m<=64):∀ p∈X,p.1∉(ck 5000).ks m:=fun p hp=>vW hm zdd (xZ.1 hX.xk p hp)
def Lx:∀ {X L:List (Nat×Blk)} {p:Nat×Blk},(X.map (·.1)).Nodup->p∈X->hv (X++L) p.1=some p.2
 | (k,b)::l,L,p,hn,hp=>by
   simp only[uW,mU]at hn;show hv ((k,b)::(l++L)) p.1=_
   unfold hv;rcases yI.1 hp with rfl|hp
   .exact hs_same
   .have:p.1≠k:=fun e=>hn.1 (by rw[<- e];exact zW.2 ⟨p,hp,rfl⟩)
    rw[show Nat.beq p.1 k=false from by rw[vL];simpa using this];exact Lx hn.2 hp
def XbOk.hv{X:List (Nat×Blk)}(hX:XbOk X){L:List (Nat×Blk)}:∀ p∈X,hv (X++L) p.1=some p.2/\zv [] p.1=false:=fun p hp=>⟨Lx hX.nd hp,rfl⟩
def XbOk.keptG  (hX:XbOk X)  {t:Tm}{h:Hp}{z:Fz}  {T:Tab}{L:List (Nat×PV)}{k:Tk}(hn0:n0<=5000)(hm:T.bs.length<=64)(hnd:(k.ks T.bs.length).Nodup)(hsub:∀ p∈X,p.1∉k.ks T.bs.length)(hS:TabS k T h z)(hXS:∀ p∈X,h p.1=some p.2/\z p.1=false)
 (hL:okV (tkρ k 5000 []) 5300 L t):KeptG n0 ⟨t,h,z,nx⟩ L (X++yX (ck 5000) T) [] 5300 :=
 FT (C:=5000) (ax:=[]) hn0 zdd zdd hm hnd hS (fun _ _=>rfl) hL (hX.ok k h z hXS) hX.xk
  (fun p hp=>by rw[AQ rfl (by have:=(hX.lt p hp).2;omega)];exact hsub p hp)
  fun p hp q hq hne=>by rw[AQ rfl (by have:=(hX.lt p hp).2;omega),AQ rfl (by have:=(hX.lt q hq).2;omega)];exact hne
def XbOk.tell  (hX:XbOk X){G:Gl}  {K:St->Prop}{Q:Exit->St->Prop}{s:St}{T:Tab}(k:Tk)(L:List (Nat×PV))(hn0:n0<=5000)(hm:T.bs.length<=64)(hnd:(k.ks T.bs.length).Nodup)(hsub:∀ p∈X,p.1∉k.ks T.bs.length)(hS:TabS k T s.h s.z)(hXS:∀ p∈X,s.h p.1=some p.2/\s.z p.1=false)
 (hL:okV (tkρ k 5000 []) 5300 L s.t) (h:K ⟨sv L,Go.PI.hv (X++yX (ck 5000) T),zv [],5300⟩):tX (LeS G,n0) K Q .normal s:=by
 obtain⟨t,hh,z,nx⟩:=s;exact bK [] L _ [] 5300 zom (fun r hr=>by cases hr) trivial (hX.keptG hn0 hm hnd hsub hS hXS hL).to h
def FnL(P:Program)(G:Gl)(gid:FuncId)(caps:List PV)(X:List (Nat×Blk))(B:Nat)(T:Tab)(l:List Rat):Prop :=
 ∀ (k:Tk) (N:Nat) (t0:Tm),k.Ok T.bs.length N->(∀ p∈X,p.1∉k.ks T.bs.length/\p.1<N)->N<=B ->
   FnH P G gid caps (fun pv s=>∃ q,FV k N T.bs.length (.own q 0 l.length) T pv s/\(s.h q=some ⟨yS l,3,true⟩/\s.z q=false)/\(q∈k.ks T.bs.length\/N<=q)/\∀ p∈X,s.h p.1=some p.2/\s.z p.1=false) ⟨t0,lsH (X++yX k T),fun _=>false,N⟩
section
variable {P:Program} {Ti':Ti} {G:Gl}
def Ze(hm:P.follows .mixedOrders=true)(hT:∀ i x,Ti' i=some x->zK P i=x){f:FuncId}{fn:Func}{c:Code}{rs:List ResultVar}{nt:Nat}(ok:FnOk P f fn c rs nt)  (hl:args.length<=nt)  {B:Nat}{T:Tab}{l:List Rat}
 (h:∀ (k:Tk) (N:Nat),k.Ok T.bs.length N->(∀ p∈X,p.1∉k.ks T.bs.length/\p.1<N)->N<=B->VC P Ti' G N c (rS Ti' rs fun pv s=>∃ q,FV k N T.bs.length (.own q 0 l.length) T pv s/\(s.h q=some ⟨yS l,3,true⟩/\s.z q=false)/\(q∈k.ks T.bs.length\/N<=q)/\∀ p∈X,s.h p.1=some p.2/\s.z p.1=false) ⟨fK args,hv (X++yX k T),noZ,N⟩):FnL P G f args X B T l:=fun k N t0 hk hX hN=>by
 rw[CE];exact iR hm hT ok hl (h k N hk hX hN)
def Zf{Cs:wK}{f:FuncId}  {d:Option Nat}{K:FP->St->Prop}{t:Tm}{h:Hp}{z:Fz}{B:Nat}{T:Tab}{l:List Rat}(k:Tk)(X:List (Nat×Blk))(hF:FnL P G f args X B T l)(hk:k.Ok T.bs.length nx)(hX:∀ p∈X,p.1∉k.ks T.bs.length/\p.1<nx)(h0:∀ p∈X,0<p.1)(hXn:(X.map (·.1)).Nodup)(hB:nx<=B)(hS:TabS k T h z)(hXS:∀ p∈X,h p.1=some p.2/\z p.1=false)
 (hK:∀ (q:Nat) (k':Tk) (h':Hp) (z':Fz) (nx':Nat),(k'.ks T.bs.length).Nodup->(∀ x∈k'.ks T.bs.length,x∈k.ks T.bs.length\/nx<=x)->TabS k' T h' z'->(h' q=some ⟨yS l,3,true⟩/\z' q=false)->(∀ r,r<nx->r∉k.ks T.bs.length->h' r=h r/\z' r=z r)->nx<=nx'->oV K t d (.own q 0 l.length) h' z' nx' ⟨[],[],[]⟩) :
 rR Cs (FnH P G) false f args d K ⟨t,h,z,nx⟩:=by
 have keys:(X++yX k T).map (·.1)=X.map (·.1)++k.ks T.bs.length:=by rw[wB,u9]
 refine fO (FnH.mono _ _ _ _ _ (fun pv s' hq=>?_) (Ld (s:=⟨t,h,z,nx⟩) (hF k nx t hk hX hB) rfl ?_ (fun p hp=>?_) fun p hp=>?_))
 .obtain⟨s1,⟨q,⟨hv,k',g1,g2,g3⟩,gq,gi,gX⟩,e1,e2,e3,e4⟩:=hq
  subst hv;obtain⟨t',h',z',nx'⟩:=s';dsimp only at e1 e2 e4 ⊢;subst e1;subst e2;subst e4
  have inn':∀ {x},(x∈k.ks T.bs.length\/nx<=x)->nx<=x\/x∈(X++yX k T).map (·.1):=fun h=>by
   rw[keys];rcases h with h|h
   .exact zC (pJ _ h)
   .exact zF h
  refine hK q k' _ _ _ g1 g2 (fun p hp=>?_) ?_ (fun r hr hn=>?_) e3
  .have hx:p.1∈k'.ks T.bs.length:=by rw[<- u9];exact zW.2 ⟨p,hp,rfl⟩
   rw[oJ (inn' (g2 _ hx)),oJ (inn' (g2 _ hx)),B0 (g3 p hp).2];exact⟨(g3 p hp).1,rfl⟩
  .rw[oJ (inn' gi),oJ (inn' gi),B0 gq.2]
   exact⟨gq.1,rfl⟩
  .by_cases hx:r∈X.map (·.1)
   .obtain⟨p,hp,rfl⟩:=zW.1 hx
    have hi:nx<=p.1\/p.1∈(X++yX k T).map (·.1):=zC (by rw[keys];exact sV _ hx);rw[oJ hi,oJ hi,B0 (gX p hp).2,(gX p hp).1,(hXS p hp).1,(hXS p hp).2];exact⟨rfl,rfl⟩
   .have ho:¬ (nx<=r\/r∈(X++yX k T).map (·.1)):=by
     rw[keys]
     rintro(h|h)
     .omega
     .exact(y8.1 h).elim hx hn
    rw[bJ ho,bJ ho];exact⟨rfl,rfl⟩
 .rw[keys]
  exact iK.2 ⟨hXn,hk.nd,fun a ha b hb e=>by
   obtain⟨p,hp,rfl⟩:=zW.1 ha
   exact(hX p hp).1 (e ▸ hb)⟩
 .rcases y8.1 hp with hp|hp
  .exact⟨(hXS p hp).1,(hXS p hp).2,(hX p hp).2⟩
  .exact⟨(hS p hp).1,(hS p hp).2,hk.lt _ (by rw[<- u9];exact zW.2 ⟨p,hp,rfl⟩)⟩
 .rcases y8.1 hp with hp|hp
  .exact h0 p hp
  .exact hk.pos _ (by rw[<- u9];exact zW.2 ⟨p,hp,rfl⟩)
end
structure LineOk(P:Program)(G:Gl)(gid:FuncId)(caps:List PV)(X:List (Nat×Blk))(ln:Tab->List Rat)(I:Tab->Prop):Prop where
 x:XbOk X
 g:∀ k,rn (tkρ k 5000 []) 5300 3 (.func (.func gid) [] caps) (.func (.func gid) [] caps)
 call:∀ U,I U->FnL P G gid caps X 7000 U (ln U)
def Rc{K:Tk}{N m m':Nat}(hm:m'<=64)(hN:N<=5000):∀ x∈(ck 5000).ks m',x∈K.ks m\/N<=x:=fun x hx=>by
 rcases ks_mem.1 hx with h|h|h|h|h|⟨i,hi,h⟩
 .exact zF (ks_mem.2 (zF h))
 all_goals refine zC ?_
 all_goals simp only[ck]at h
 all_goals omega
def uFG{f:PV->Option (PV×List Nat)}:zZ f []=some ([],[]):=rfl
def vYF{n:Nat}{ln:Tab->List Rat}{T:Tab}:xL n ln 0 T=(T,none):=rfl
def Zg{n:Nat}{ln:Tab->List Rat}{T:Tab}(h:wX n T.ns (ln T) T.ns.length=none):xL n ln k T=(T,none):=by
 cases k with
 |zero=>rfl
 |succ k=>unfold xL;rw[h]
def Zh{n e:Nat}{ln:Tab->List Rat}{T:Tab}(h:wX n T.ns (ln T) T.ns.length=some e)(h':vV n T e T.bs.length=none):xL n ln (k+1) T=(T,some e):=by
 unfold xL;rw[h];dsimp only;rw[h']
def Zi{n e r:Nat}{ln:Tab->List Rat}{T:Tab}(h:wX n T.ns (ln T) T.ns.length=some e)(h':vV n T e T.bs.length=some r):xL n ln (k+1) T=xL n ln k (zY T r e):=by
 conv=>lhs;unfold xL
 rw[h];dsimp only;rw[h']
open Go.RowKit SX
variable {i:Nat}
section
variable {k:Tk} {T:Tab} {w:Wdt} {h:Hp} {z:Fz}
def tabLw_mem{p:Nat×Blk}:p∈sS k T w↔p=(1,⟨[mP k T w],7,true⟩)\/p∈jI k T w\/∃ i,i<T.bs.length/\p=(k.r i,⟨yS T.fs[i]!,3,true⟩):=by
 unfold sS eH;simp only[List.cons_append,yI,y8,zW,yN];constructor
 .rintro(h|h|⟨i,hi,h⟩)
  .exact zF h
  .exact zC (zF h)
  .exact zC (zC ⟨i,hi,h.symm⟩)
 .rintro(h|h|⟨i,hi,h⟩)
  .exact zF h
  .exact zC (zF h)
  .exact zC (zC ⟨i,hi,h.symm⟩)
def Re(h1:h 1=some ⟨[mP k T w],7,true⟩)(hb:h k.b=some ⟨yV T.bs,1,false⟩)(hn:h k.n=some ⟨yV T.ns,1,false⟩)(hf:h k.f=some ⟨mQ k T.bs.length w.f,1,false⟩)
 (ho:h k.o=some ⟨yS T.ob,3,true⟩) (hr:∀ i,i<T.bs.length->h (k.r i)=some ⟨yS T.fs[i]!,3,true⟩) (hz:∀ x∈k.ks T.bs.length,z x=false):TabSw k T w h z:=fun p hp=>by
 refine⟨?_,hz _ (by rw[<- FQ];exact zW.2 ⟨p,hp,rfl⟩)⟩;rcases tabLw_mem.1 hp with rfl|hp|⟨i,hi,rfl⟩
 .exact h1
 .unfold jI at hp
  simp only[yI,uU,uX]at hp;rcases hp with rfl|rfl|rfl|rfl
  .exact hb
  .exact hn
  .exact hf
  .exact ho
 .exact hr i hi
def TabSw.t(S:TabSw k T w h z):h 1=some ⟨[mP k T w],7,true⟩/\z 1=false:=S (1,_) (tabLw_mem.2 (zF rfl))
def TabSw.row(S:TabSw k T w h z)  (hi:i<T.bs.length):h (k.r i)=some ⟨yS T.fs[i]!,3,true⟩/\z (k.r i)=false:=S (k.r i,_) (tabLw_mem.2 (zC (zC ⟨i,hi,rfl⟩)))
def TabSw.b(S:TabSw k T w h z):h k.b=some ⟨yV T.bs,1,false⟩:=(S (k.b,_) (tabLw_mem.2 (zC (zF (by unfold jI;simp))))).1
def TabSw.n(S:TabSw k T w h z):h k.n=some ⟨yV T.ns,1,false⟩:=by
 have:(k.n,(⟨yV T.ns,1,false⟩:Blk))∈sS k T w:=tabLw_mem.2 (zC (zF (by unfold jI;simp)));exact(S _ this).1
def TabSw.f(S:TabSw k T w h z):h k.f=some ⟨mQ k T.bs.length w.f,1,false⟩:=by
 have:(k.f,(⟨mQ k T.bs.length w.f,1,false⟩:Blk))∈sS k T w:=tabLw_mem.2 (zC (zF (by unfold jI;simp)));exact(S _ this).1
def TabSw.o(S:TabSw k T w h z):h k.o=some ⟨yS T.ob,3,true⟩:=by
 have:(k.o,(⟨yS T.ob,3,true⟩:Blk))∈sS k T w:=tabLw_mem.2 (zC (zF (by unfold jI;simp)));exact(S _ this).1
def Rf{X:List (Nat×Blk)}{C:Nat}(hm:T.bs.length<=64)(hC:2<=C)(hX:X.all (fun q=>xk C q.1)=true):TabSw (ck C) T w (hv (X++sS (ck C) T w)) (zv []):=fun p hp=>⟨ZF hm hC hX p hp,rfl⟩
def uWM(ho:T.ob.length=T.ns.length+1)(hf:∀ i,i<T.bs.length->w.f i=T.ns.length+1)(hn:w.n=T.ns.length)(hw:w.o=T.ns.length+1):sS k T w=yX k T:=by
 rw[uR0];unfold sS mP jI wd0;rw[hn,hw,show mQ k T.bs.length w.f=mQ k T.bs.length fun _=>T.ns.length+1 from rL fun i hi=>by rw[hf i (yN.1 hi)]]
def TabSw.toS(S:TabSw k T w h z)(ho:T.ob.length=T.ns.length+1)(hf:∀ i,i<T.bs.length->w.f i=T.ns.length+1)(hn:w.n=T.ns.length)(hw:w.o=T.ns.length+1):TabS k T h z:=by
 unfold TabS;rw[<- uWM ho hf hn hw];exact S
def TabSw.setF(S:TabSw k T w h z)(hnd:(k.ks T.bs.length).Nodup){q n:Nat}(hi:i<T.bs.length)(hq:q∉k.ks T.bs.length){h':Hp}{z':Fz}(hh:∀ x∈k.ks T.bs.length,x≠k.r i->h' x=h x/\z' x=false)(hzq:z' q=false){fs:List (List Rat)}(hf:∀ j,j<T.bs.length->j≠i->fs[j]! = T.fs[j]!)(hr:h' q=some ⟨yS fs[i]!,3,true⟩){b:Option Blk}
 (hb:b=some ⟨(mQ k T.bs.length w.f).set i (.own q 0 n),1,false⟩) {w':Wdt} (hw:w'=⟨w.n,w.o,fun j=>if j=i then n else w.f j⟩):TabSw { k with r:=fun j=>if j=i then q else k.r j } { T with fs:=fs } w' (Go.PI.hs h' k.f b) z':=by
 subst hw;obtain⟨n1,n2,n3,n4,n5,n6,n7,n8,n9,n10,nr⟩:=gL hnd;obtain⟨m1,m2,m3,m4,m5,m6⟩:=nr i hi;have hqf:q≠k.f:=fun e=>hq (ks_mem.2 (zC (zC (zC (zF e)))))
 have g1:=hh 1 (ks_mem.2 (zF rfl)) (y9 m1);have gb:=hh k.b (ks_mem.2 (zC (zF rfl))) (y9 m2);have gn:=hh k.n (ks_mem.2 (zC (zC (zF rfl)))) (y9 m3);have gf:=hh k.f (ks_mem.2 (zC (zC (zC (zF rfl))))) (y9 m4);have go:=hh k.o (ks_mem.2 (zC (zC (zC (zC (zF rfl)))))) (y9 m5);subst hb;refine Re (by rw[yM (y9 n3),g1.1];exact S.t.1) (by rw[yM (y9 n6),gb.1];exact S.b) (by rw[yM (y9 n8),gn.1];exact S.n) (hs_eq1.trans ?_) (by rw[yM n10,go.1];exact S.o) (fun j hj=>?_) fun x hx=>?_
 .refine zV (fun l=>some (Blk.mk l 1 false)) ?_
  unfold mQ;refine vE zsm fun j h1 h2=>?_
  simp only[kL,vS,oQ];by_cases e:i=j
  .rw[zE e,zE e.symm,zE e.symm]
  .rw[zB e,zB (y9 e),zB (y9 e)]
 .by_cases e:j=i
  .subst e;dsimp only;rw[zE rfl,yM hqf];exact hr
  .dsimp only;rw[zB e,yM (nr j hj).2.2.2.1,hf j hj e,(hh _ (ks_mem.2 (zC (zC (zC (zC (zC ⟨j,hj,rfl⟩)))))) (m6 j hj e)).1];exact(S.row hj).1
 .rcases ks_mem.1 hx with h|h|h|h|h|⟨j,hj,h⟩
  .rw[h];exact g1.2
  .rw[h];exact gb.2
  .rw[h];exact gn.2
  .rw[h];exact gf.2
  .rw[h];exact go.2
  .dsimp only at h
   split at h
   .rw[h];exact hzq
   .rename_i hne
    rw[h];exact(hh _ (ks_mem.2 (zC (zC (zC (zC (zC ⟨j,hj,rfl⟩)))))) (m6 j hj hne)).2
def Ly{m j:Nat}{f:Nat->Nat}{K:PV->Prop}(e:j=i)(hi:i<m)(q:K (.own (k.r i) 0 (f i))):oK (nth (mQ k m f) j) K:=by
 subst e;refine BN ?_ q;rw[pQ];unfold mQ;simp[hi]
end
open Go.RowKit SX
variable {m j q:Nat}{h':Hp}{z':Fz}{w':Wdt}
section
variable {k:Tk} {T:Tab} {w:Wdt} {h:Hp} {z:Fz}
def Zj  (h:k.b≠1/\k.n≠1/\k.f≠1/\k.o≠1/\k.n≠k.b/\k.f≠k.b/\k.o≠k.b/\k.f≠k.n/\k.o≠k.n/\k.o≠k.f/\∀ i,i<m->k.r i≠1/\k.r i≠k.b/\k.r i≠k.n/\k.r i≠k.f/\k.r i≠k.o/\∀ j,j<m->j≠i->k.r j≠k.r i):(k.ks m).Nodup:=by
 obtain⟨n1,n2,n3,n4,n5,n6,n7,n8,n9,n10,nr⟩:=h;unfold Tk.ks;simp only[List.cons_append,List.nil_append,mU,yI,zW,yN,fC,dJ,dL];exact⟨⟨y9 n1,y9 n2,y9 n3,y9 n4,fun i hi=>(nr i hi).1⟩,⟨y9 n5,y9 n6,y9 n7,fun i hi=>(nr i hi).2.1⟩,⟨y9 n8,y9 n9,fun i hi=>(nr i hi).2.2.1⟩,⟨y9 n10,fun i hi=>(nr i hi).2.2.2.1⟩,fun i hi=>(nr i hi).2.2.2.2.1,eF fun a b ha hb=>(nr b hb).2.2.2.2.2 a zom zom⟩
def Zk  {T:Tab}(hm:m=T.bs.length)(hnd:(k.ks m).Nodup)(hq:q∉k.ks m):(({ k with n:=q }:Tk).ks m).Nodup:=by
 subst hm;obtain⟨n1,n2,n3,n4,n5,n6,n7,n8,n9,n10,nr⟩:=gL hnd;rw[ks_mem]at hq;simp only[fC,dJ,dL]at hq;obtain⟨q1,q2,q3,q4,q5,qr⟩:=hq;exact Zj ⟨n1,q1,n3,n4,q2,n6,n7,y9 q4,y9 q5,n10,fun i hi=>⟨(nr i hi).1,(nr i hi).2.1,y9 (qr i hi),(nr i hi).2.2.2.1,(nr i hi).2.2.2.2.1,(nr i hi).2.2.2.2.2⟩⟩
def Zl  {T:Tab}(hm:m=T.bs.length)(hnd:(k.ks m).Nodup)(hq:q∉k.ks m):(({ k with o:=q }:Tk).ks m).Nodup:=by
 subst hm;obtain⟨n1,n2,n3,n4,n5,n6,n7,n8,n9,n10,nr⟩:=gL hnd;rw[ks_mem]at hq;simp only[fC,dJ,dL]at hq;obtain⟨q1,q2,q3,q4,q5,qr⟩:=hq;exact Zj ⟨n1,n2,n3,q1,n5,n6,q2,n8,q3,q4,fun i hi=>⟨(nr i hi).1,(nr i hi).2.1,(nr i hi).2.2.1,(nr i hi).2.2.2.1,y9 (qr i hi),(nr i hi).2.2.2.2.2⟩⟩
def TabSw.setN(S:TabSw k T w h z)(hnd:(k.ks T.bs.length).Nodup)  {ns:List Nat}    (hh:∀ x∈k.ks T.bs.length,x≠1->x≠k.n->h' x=h x/\z' x=false)(h1:h' 1=some ⟨[mP { k with n:=q } { T with ns:=ns } w'],7,true⟩/\z' 1=false)(hq:h' q=some ⟨yV ns,1,false⟩/\z' q=false)(hw:w'.f=w.f):TabSw { k with n:=q } { T with ns:=ns } w' h' z':=by
 obtain⟨n1,n2,n3,n4,n5,n6,n7,n8,n9,n10,nr⟩:=gL hnd;have gb:=hh k.b (ks_mem.2 (zC (zF rfl))) n1 (y9 n5);have gf:=hh k.f (ks_mem.2 (zC (zC (zC (zF rfl))))) n3 n8;have go:=hh k.o (ks_mem.2 (zC (zC (zC (zC (zF rfl)))))) n4 n9;have gr:=fun i hi=>hh (k.r i) (ks_mem.2 (zC (zC (zC (zC (zC ⟨i,hi,rfl⟩)))))) (nr i hi).1 (nr i hi).2.2.1
 refine Re h1.1 (gb.1.trans S.b) hq.1 (gf.1.trans (by rw[hw];exact S.f)) (go.1.trans S.o) (fun i hi=>(gr i hi).1.trans (S.row hi).1) fun x hx=>?_
 rcases ks_mem.1 hx with e|e|e|e|e|⟨i,hi,e⟩<;>rw[e]
 .exact h1.2
 .exact gb.2
 .exact hq.2
 .exact gf.2
 .exact go.2
 .exact(gr i hi).2
def TabSw.setO(S:TabSw k T w h z)(hnd:(k.ks T.bs.length).Nodup)  {ob:List Rat}    (hh:∀ x∈k.ks T.bs.length,x≠1->x≠k.o->h' x=h x/\z' x=false)(h1:h' 1=some ⟨[mP { k with o:=q } { T with ob:=ob } w'],7,true⟩/\z' 1=false)(hq:h' q=some ⟨yS ob,3,true⟩/\z' q=false)(hw:w'.f=w.f):TabSw { k with o:=q } { T with ob:=ob } w' h' z':=by
 obtain⟨n1,n2,n3,n4,n5,n6,n7,n8,n9,n10,nr⟩:=gL hnd;have gb:=hh k.b (ks_mem.2 (zC (zF rfl))) n1 (y9 n7);have gn:=hh k.n (ks_mem.2 (zC (zC (zF rfl)))) n2 (y9 n9);have gf:=hh k.f (ks_mem.2 (zC (zC (zC (zF rfl))))) n3 (y9 n10);have gr:=fun i hi=>hh (k.r i) (ks_mem.2 (zC (zC (zC (zC (zC ⟨i,hi,rfl⟩)))))) (nr i hi).1 (nr i hi).2.2.2.2.1
 refine Re h1.1 (gb.1.trans S.b) (gn.1.trans S.n) (gf.1.trans (by rw[hw];exact S.f)) hq.1 (fun i hi=>(gr i hi).1.trans (S.row hi).1) fun x hx=>?_
 rcases ks_mem.1 hx with e|e|e|e|e|⟨i,hi,e⟩<;>rw[e]
 .exact h1.2
 .exact gb.2
 .exact gn.2
 .exact gf.2
 .exact hq.2
 .exact(gr i hi).2
def fsG(g:Nat->List Rat)(T:Tab)(j:Nat):List (List Rat):=(List.range T.bs.length).map fun r=>if r<j then g r else T.fs[r]!
def AV{g:Nat->List Rat}{i:Nat}(hi:i<T.bs.length):(fsG g T j)[i]! = if i<j then g i else T.fs[i]! := by unfold fsG;rw[RS hi]
def Zm{g:Nat->List Rat}(W:Wf T):fsG g T 0=T.fs:=by
 refine vE (by simp[fsG,W.fl]) fun i h1 h2=>?_
 have:=AV (g:=g) (j:=0) (T:=T) (i:=i) (by rw[<- W.fl];exact h2);rw[gp h1,zB zom,gp h2]at this;exact this
abbrev Dl(n:Nat)(T:Tab)(r:Nat):List Rat:=vO T.fs[r]! T.ns.length (if n<=T.bs[r]! then 1 else 0)
def oL(n x:Nat)(T:Tab)(j:Nat):Tab:={ T with ns:=T.ns++[x],fs:=fsG (Dl n T) T j }
def wI(n j:Nat):Wdt:=⟨n+1,n+1,fun i=>if i<j then n+2 else n+1⟩
def dlJ(c:Nat)(T:Tab)(j:Nat):Tab:={ T with ns:=T.ns.eraseIdx c,fs:=fsG (fun r=>T.fs[r]!.eraseIdx c) T j }
def wD(n j:Nat):Wdt:=⟨n-1,n+1,fun i=>if i<j then n else n+1⟩
def uVQ{n:Nat}:xB n T={ oL n (n+T.bs.length) T T.bs.length with ob:=vO T.ob T.ns.length 0 }:=by
 unfold xB oL fsG
 congr 1
 exact rL fun i hi=>by rw[zE (yN.1 hi)]
def uUR{c:Nat}(W:Wf T):uI T c={ dlJ c T T.bs.length with ob:=T.ob.eraseIdx c }:=by
 unfold uI dlJ fsG
 congr 1
 refine vE (by simp[W.fl]) fun i h1 h2=>?_
 have hi:i<T.fs.length:=by simpa using h1
 simp only[vS,oQ];rw[zE (by rw[<- W.fl];exact hi),gp hi]
def uK4{n:Nat}:wI n (j+1)=⟨(wI n j).n,(wI n j).o,fun i=>if i=j then n+2 else(wI n j).f i⟩:=by
 unfold wI
 congr 1
 funext i
 dsimp only;by_cases e:i=j
 .rw[zE e,zE zom]
 .rw[zB e]
  by_cases h:i<j
  .rw[zE h,zE zom]
  .rw[zB h,zB zom]
def uK5{n:Nat}:wD n (j+1)=⟨(wD n j).n,(wD n j).o,fun i=>if i=j then n else(wD n j).f i⟩:=by
 unfold wD
 congr 1
 funext i
 dsimp only;by_cases e:i=j
 .rw[zE e,zE zom]
 .rw[zB e]
  by_cases h:i<j
  .rw[zE h,zE zom]
  .rw[zB h,zB zom]
end
open Go.RowKit SX
variable {n0 nx:Nat}
def L6(C:Nat)(ax:List (Nat×Nat))(E X:List Nat):Bool:=X.all (fun q=>xk C q)&&(X.map fun q=>(asc ax q).getD q).all (fun q=>xk C q&&no (rQ E q))&&FW (X.map fun q=>(asc ax q).getD q)
def Iq{k:Tk}{w:Wdt}{kk C:Nat}{t:Tm}{h:Hp}{z:Fz}  {T:Tab}{L:List (Nat×PV)}{X:List (Nat×Blk)}(E:List Nat)(ax:List (Nat×Nat))(hn0:n0<=C)(hC:2<=C)(hkk:C+164<=kk)(hm:T.bs.length<=64)(hnd:(k.ks T.bs.length).Nodup)(hsub:∀ x∈k.ks T.bs.length,x∈(ck C).ks T.bs.length\/x∈E)(hS:TabSw k T w h z)(hax:ax.all (fun p=>Nat.ble (C+164) p.1)=true)
 (hL:okV (tkρ k C ax) kk L t) (hX:uP (tkρ k C ax) kk [] X h z) (hXk:L6 C ax E (X.map (·.1))=true):KeptG n0 ⟨t,h,z,nx⟩ L (X++sS (ck C) T w) [] kk:=by
 unfold L6 at hXk;rw[xO,xO,xZ,xZ]at hXk;obtain⟨⟨h1,h2⟩,h3⟩:=hXk
 have ho:∀ x,xk C x=true->x<C\/C+164<=x:=fun x hx=>by
  unfold xk at hx;simp only[xO,kN,rM,mD]at hx;exact hx.2
 have er:∀ p∈X,tkρ k C ax p.1=(asc ax p.1).getD p.1:=fun p hp=>by
  cases e:asc ax p.1 with
  |some x=>unfold tkρ;rw[e];rfl
  |none=>exact RQ e (ho _ (h1 _ (zW.2 ⟨p,hp,rfl⟩)))
 refine RN hn0 hC hkk hm hnd hS (fun r hr=>CG fun p hp e=>?_) hL hX ?_ (fun p hp=>?_) fun p hp q hq hne e=>?_
 .have:=xZ.1 hax p hp
  rw[rM]at this;rcases hr with hr|hr
  .omega
  .have:=(pF (C:=C) (m:=64) (N:=C+164) (zX _) (zX _)).lt r hr;omega
 .rw[xZ];exact fun q hq=>h1 _ (zW.2 ⟨q,hq,rfl⟩)
 .rw[er p hp]
  have g:=h2 _ (zW.2 ⟨p.1,zW.2 ⟨p,hp,rfl⟩,rfl⟩);rw[xO,Gw,fF]at g;exact fun hx=>(hsub _ hx).elim (vW hm hC g.1) (contains_false.1 g.2)
 .rw[er p hp,er q hq]at e
  have:Inhabited (Nat×Blk):=⟨(0,⟨[],0,false⟩)⟩;obtain⟨a,ha,ea⟩:=mem_ix hp;obtain⟨b,hb,eb⟩:=mem_ix hq;rw[qC]at h3;have hnd:=Lj h3;have ga:=tH (f:=(fun q=>(asc ax q).getD q)∘fun(q:Nat×Blk)=>q.1) ha;have gb:=tH (f:=(fun q=>(asc ax q).getD q)∘fun(q:Nat×Blk)=>q.1) hb;have:=SX.nodup_get hnd (i:=a) (j:=b) (by simpa using ha) (by simpa using hb) (by rw[ga,gb,ea,eb];exact e);subst this;exact hne (by rw[<- ea,<- eb])
def uOK{k:Tk}{kk C:Nat}{t:Tm}{h:Hp}{z:Fz}  {T:Tab}{L:List (Nat×PV)}{X:List (Nat×Blk)}(E:List Nat)(ax:List (Nat×Nat))(hn0:n0<=C)(hC:2<=C)(hkk:C+164<=kk)(hm:T.bs.length<=64)(hnd:(k.ks T.bs.length).Nodup)(hsub:∀ x∈k.ks T.bs.length,x∈(ck C).ks T.bs.length\/x∈E)(hS:TabS k T h z)(hax:ax.all (fun p=>Nat.ble (C+164) p.1)=true)
 (hL:okV (tkρ k C ax) kk L t) (hX:uP (tkρ k C ax) kk [] X h z) (hXk:L6 C ax E (X.map (·.1))=true):KeptG n0 ⟨t,h,z,nx⟩ L (X++yX (ck C) T) [] kk:=Iq (w:=wd0 T) E ax hn0 hC hkk hm hnd hsub hS hax hL hX hXk
section
variable {k:Tk} {m q x:Nat}
def Zn(h:x∈({ k with n:=q }:Tk).ks m):x∈k.ks m\/x∈[q]:=by
 rcases ks_mem.1 h with e|e|e|e|e|⟨i,hi,e⟩
 .exact zF (ks_mem.2 (zF e))
 .exact zF (ks_mem.2 (zC (zF e)))
 .exact zC (by rw[e];simp)
 .exact zF (ks_mem.2 (zC (zC (zC (zF e)))))
 .exact zF (ks_mem.2 (zC (zC (zC (zC (zF e))))))
 .exact zF (ks_mem.2 (zC (zC (zC (zC (zC ⟨i,hi,e⟩))))))
def Zo(h:x∈({ k with o:=q }:Tk).ks m):x∈k.ks m\/x∈[q]:=by
 rcases ks_mem.1 h with e|e|e|e|e|⟨i,hi,e⟩
 .exact zF (ks_mem.2 (zF e))
 .exact zF (ks_mem.2 (zC (zF e)))
 .exact zF (ks_mem.2 (zC (zC (zF e))))
 .exact zF (ks_mem.2 (zC (zC (zC (zF e)))))
 .exact zC (by rw[e];simp)
 .exact zF (ks_mem.2 (zC (zC (zC (zC (zC ⟨i,hi,e⟩))))))
def Zp{j:Nat}(h:x∈({ k with r:=fun i=>if i=j then q else k.r i }:Tk).ks m):x∈k.ks m\/x∈[q]:=by
 rcases ks_mem.1 h with e|e|e|e|e|⟨i,hi,e⟩
 .exact zF (ks_mem.2 (zF e))
 .exact zF (ks_mem.2 (zC (zF e)))
 .exact zF (ks_mem.2 (zC (zC (zF e))))
 .exact zF (ks_mem.2 (zC (zC (zC (zF e)))))
 .exact zF (ks_mem.2 (zC (zC (zC (zC (zF e))))))
 .dsimp only at e
  split at e
  .exact zC (by rw[e];simp)
  .exact zF (ks_mem.2 (zC (zC (zC (zC (zC ⟨i,hi,e⟩))))))
end
def Rh{k:Tk}{m i j n:Nat}{f:Nat->Nat}{K:PV->Prop}(e:j=i)(hi:i<m)(hl:f i=n)(q:K (.own (k.r i) 0 n)):oK (nth (mQ k m f) j) K:=Ly e hi (by rw[hl];exact q)
def Zq{h:Hp}{r n:Nat}{a b:Int}:zZ (cv h 6 (some r)) [.own r 0 n,.int .i64 a,.int .i64 b]=some ([.own 0 0 n,.int .i64 a,.int .i64 b],[]):=by
 simp[zZ,cv,cv1,frz]
def Ir{h:Hp}{a b c x:Nat}{u v w:Option Blk}(h1:x≠a)(h2:x≠b)(h3:x≠c):Go.PI.hs (Go.PI.hs (Go.PI.hs h a u) b v) c w x=h x:=(yM h3).trans ((yM h2).trans (yM h1))
variable {lo:Nat}
def Zr(lo n:Nat)(f:FP):Bool:=(f.rd++(f.wr++f.fz)).all fun q=>Nat.blt q lo||Nat.ble (lo+n) q
def L8(lo n:Nat)(os:List Oper)(after:List Edge)(key:Nat)(ks:List Nat):List (Nat×FP)->Bool
 |[]=>true
 | (k,f)::acc=>an (match rch os k 4 after with
   |true=>true
   |false=>FP.apart f ⟨ks,[key],ks⟩&&Zr lo n f) (L8 lo n os after key ks acc)
def uB7{n i key:Nat}{ks:List Nat}{f:FP}(hi:i<n)(hb:lo+n<=mkz)(h1:FP.apart f ⟨ks,[key],ks⟩=true)(h2:Zr lo n f=true):FP.apart f ⟨(lo+i)::ks,[lo+i,key],ks⟩=true:=by
 have no:∀ q∈f.rd++(f.wr++f.fz),q≠lo+i:=fun q hq e=>by
  have:=xZ.1 h2 q hq;rw[kN,mD,rM]at this;omega
 unfold FP.apart at h1 ⊢;simp only[xO,xZ,bV,yI,uU,uX,forall_eq,forall_eq_or_imp]at h1 ⊢;obtain⟨⟨⟨g1,g2⟩,g3⟩,g4⟩:=h1
 have nin:∀ {l:List Nat},(∀ q∈l,q∈f.rd++(f.wr++f.fz))->l.contains (lo+i)=false:=fun hl=>by
  rw[<- Bool.not_eq_true];intro h;exact no _ (hl _ (by simpa using h)) rfl
 have cne:∀ {k:Nat} {l:List Nat},k≠lo+i->((lo+i)::l).contains k=l.contains k:=fun h=>by
  simp[JW,h]
 refine⟨⟨⟨fun k hk=>?_,⟨nin fun q hq=>by simp[hq],nin fun q hq=>by simp[hq]⟩,g2⟩,fun k hk=>?_⟩,g4⟩
 .have hk':=no k (by simp[hk])
  obtain⟨⟨a1,a2⟩,a3⟩:=g1 k hk;exact⟨⟨by rw[cne hk'];exact a1,by rw[cne hk'];exact a2⟩,a3⟩
 .rw[cne zom];exact g3 k hk
def Zt{lo n i key:Nat}{ks:List Nat}{os:List Oper}{after:List Edge}(hi:i<n)(hb:lo+n<=mkz):∀ {acc:List (Nat×FP)},L8 lo n os after key ks acc=true->clr os after ⟨(lo+i)::ks,[lo+i,key],ks⟩ acc=true
 |[],_=>rfl
 | (k,f)::acc,h=>by
   unfold L8 at h;unfold clr;rw[uB]at h ⊢;refine⟨?_,Zt hi hb h.2⟩;cases hr:rch os k 4 after with
   |true=>split<;>rfl
   | false =>
     rw[hr]at h;have h1:=h.1;dsimp only at h1;rw[xO]at h1;rw[show touch f ⟨(lo+i)::ks,[lo+i,key],ks⟩=true from uB7 hi hb h1.1 h1.2]
def Ri{n i key r:Nat}{ks:List Nat}{os:List Oper}{after:List Edge}{acc:List (Nat×FP)}{A:Prop}(e:r=lo+i)(hi:i<n)(hb:lo+n<=mkz)(h:L8 lo n os after key ks acc=true)(k:A):brT (clr os after ⟨r::ks,[r,key],ks⟩ acc) A:=by
 subst e;exact Gu (Zt hi hb h) k
open Go.RowKit SX
variable {nx0 m':Nat}
section
variable {P:Program} {Ti':Ti} {G:Gl} {n0:Nat}
def uOL{n0 kk C:Nat}{s:St}{T:Tab}(k:Tk)(L:List (Nat×PV))(X:List (Nat×Blk))(hn0:n0<=C)(hC:2<=C)(hkk:C+164<=kk)(hm:T.bs.length<=64)(hm':m'<=64)(hnd:(k.ks T.bs.length).Nodup)(hsub:∀ x∈k.ks T.bs.length,x∈(ck C).ks m'\/nx0<=x)(hS:TabS k T s.h s.z)
 (hL:okV (tkρ k C []) kk L s.t) (hX:uP (tkρ k C []) kk [] X s.h s.z) (hXk:X.all (fun q=>xk C q.1&&Nat.blt q.1 nx0)=true):KeptG n0 s L (X++yX (ck C) T) [] kk:=by
 have hx:∀ p∈X,xk C p.1=true/\p.1<nx0:=fun p hp=>by
  have:=xZ.1 hXk p hp;rw[xO,mD]at this;exact this
 have er:∀ p∈X,tkρ k C [] p.1=p.1:=fun p hp=>by
  have h:=(hx p hp).1;unfold xk at h;simp only[xO,kN,rM,mD]at h;exact RQ rfl h.2
 refine FT hn0 hC hkk hm hnd hS (fun _ _=>rfl) hL hX (xZ.2 fun p hp=>(hx p hp).1) (fun p hp=>?_) fun p hp q hq hne=>?_
 .rw[er p hp]
  exact fun h=>(hsub _ h).elim (vW hm' hC (hx p hp).1) fun h=>by have:=(hx p hp).2;omega
 .rw[er p hp,er q hq];exact hne
def Iu{kk C:Nat}{K:St->Prop}{Q:Exit->St->Prop}{s:St}{T:Tab}(k:Tk)(L:List (Nat×PV))(X:List (Nat×Blk))(hn0:n0<=C)(hC:2<=C)(hkk:C+164<=kk)(hm:T.bs.length<=64)(hm':m'<=64)(hnd:(k.ks T.bs.length).Nodup)(hsub:∀ x∈k.ks T.bs.length,x∈(ck C).ks m'\/nx0<=x)(hS:TabS k T s.h s.z)
 (hL:okV (tkρ k C []) kk L s.t) (hX:uP (tkρ k C []) kk [] X s.h s.z) (hXk:X.all (fun q=>xk C q.1&&Nat.blt q.1 nx0)=true) (h:K ⟨sv L,hv (X++yX (ck C) T),zv [],kk⟩):tX (LeS G,n0) K Q .normal s :=
 bK [] L _ [] kk zom (fun r hr=>by cases hr) trivial (uOL k L X hn0 hC hkk hm hm' hnd hsub hS hL hX hXk).to h
end
open Go.RowKit SX
section
variable {G:Gl} {n0:Nat}
def uRX{k:Tk}{kk C:Nat}{K:St->Prop}{Q:Exit->St->Prop}{s:St}{T:Tab}(E:List Nat)(ax:List (Nat×Nat))(L:List (Nat×PV))(X:List (Nat×Blk))(hn0:n0<=C)(hC:2<=C)(hkk:C+164<=kk)(hm:T.bs.length<=64)(hnd:(k.ks T.bs.length).Nodup)(hsub:∀ x∈k.ks T.bs.length,x∈(ck C).ks T.bs.length\/x∈E)(hS:TabS k T s.h s.z)(hax:ax.all (fun p=>Nat.ble (C+164) p.1)=true)
 (hL:okV (tkρ k C ax) kk L s.t) (hX:uP (tkρ k C ax) kk [] X s.h s.z) (hXk:L6 C ax E (X.map (·.1))=true) (h:K ⟨sv L,hv (X++yX (ck C) T),zv [],kk⟩):tX (LeS G,n0) K Q .normal s:=by
 obtain⟨t,hh,z,nx⟩:=s;exact bK [] L _ [] kk zom (fun r hr=>by cases hr) trivial (uOK E ax hn0 hC hkk hm hnd hsub hS hax hL hX hXk).to h
end
open Go.RowKit SX
variable {pv:Nat}
def qH:Out->SolL
 |.inf y pv=>⟨2,cr 0,[],y.map cr,[],[],pv⟩
 |.unb x d pv=>⟨3,cr 0,x.map cr,[],d.map cr,[],pv⟩
 |.opt v x y bs pv=>⟨1,cr v,x.map cr,y.map cr,[],bs.map fun(b:Nat)=>(b:Int),pv⟩
def Iw{l:List Rat}:PV.imm ((l.map cr).map zR)=.imm (yS l):=by
 rw[qC];rfl
def Zu{n:Nat}{ln:Tab->List Rat}:∀ (k:Nat) (T:Tab),(xL n ln k T).1.vars=T.vars/\(xL n ln k T).1.bs.length=T.bs.length/\∀ e,(xL n ln k T).2=some e->e<(xL n ln k T).1.ns.length
 |0,T=>⟨rfl,rfl,fun e h=>by cases h⟩
 | k + 1,T=>by
   cases h1:wX n T.ns (ln T) T.ns.length with
   |none=>rw[Zg h1];exact⟨rfl,rfl,fun e h=>by cases h⟩
   | some e =>
     cases h2:vV n T e T.bs.length with
     | none =>
       rw[Zh h1 h2];exact⟨rfl,rfl,fun e' h=>by cases h;exact RY h1⟩
     | some r =>
       rw[Zi h1 h2];obtain⟨g1,g2,g3⟩:=Zu (n:=n) (ln:=ln) k (zY T r e);exact⟨g1,g2.trans (by simp[zY]),g3⟩
def Rj(q:Rat):-1<=xQ q/\xQ q<=1:=by
 unfold xQ;rcases Ai q.num 0 with h|h|h
 .rw[F6 h];decide
 .rw[h];decide
 .rw[GD h];decide
def Zv(q:Rat):((0-xQ q:Int):Rat)=- AK q:=by
 unfold AK;rcases Ai (xQ q) 0 with h|h|h
 .have:=Rj q
  rw[zE (sgnQ_neg.1 h),show xQ q=-1 by omega];decide +kernel
 .rw[h]
  have e:=sgnQ_zero.1 h;subst e
  decide +kernel
 .have:=Rj q
  have hp:=sgnQ_pos.1 h;rw[zB (by grind),zE hp,show xQ q=1 by omega];decide +kernel
def uLI{y:List Rat}  : iW (qH (.inf y pv))=.agg [.int .i64 2,.bool false,.imm [],.imm [],.imm [],.imm (yS y),.imm [],.imm [],.int .i64 pv]:=by
 unfold iW qH;dsimp only;rw[nL,Iw];rfl
def Zw{x d:List Rat}  : iW (qH (.unb x d pv))=.agg [.int .i64 3,.bool false,.imm [],.imm [],.imm (yS x),.imm [],.imm (yS d),.imm [],.int .i64 pv]:=by
 unfold iW qH;dsimp only;rw[nL,Iw,Iw];rfl
def uLH{v:Rat}{x y:List Rat}{bs:List Nat}  : iW (qH (.opt v x y bs pv))=.agg [.int .i64 1,.bool (cr v).neg,zQ (cr v).num,zQ (cr v).den,.imm (yS x),.imm (yS y),.imm [],.imm (yV bs),.int .i64 pv]:=by
 unfold iW qH;dsimp only;rw[Iw,Iw,qC];rfl
def L9{P:Program}{G:Gl}{Cs:wK}{f:FuncId}{args:List PV}{d:Option Nat}{K:FP->St->Prop}{t t0:Tm}{h:Hp}{z:Fz}{nx:Nat}{L:List (Nat×Blk)}{K0:PV->St->Prop}(hF:FnH P G f args K0 ⟨t0,lsH L,fun _=>false,nx⟩)
 (hnd:(L.map (·.1)).Nodup) (hL:∀ p∈L,h p.1=some p.2/\z p.1=false/\p.1<nx/\0<p.1)
 (hK:∀ pv s1,K0 pv s1->nx<=s1.nx->∀ (h':Hp) (z':Fz),(∀ q b,(nx<=q\/q∈L.map (·.1))->s1.h q=some b->s1.z q=false->h' q=some b/\z' q=false)->(∀ r,r<nx->r∉L.map (·.1)->h' r=h r/\z' r=z r)->(∀ r,nx<=r->z' r=false)->oV K t d pv h' z' s1.nx ⟨[],[],[]⟩) :
 rR Cs (FnH P G) false f args d K ⟨t,h,z,nx⟩:=by
 refine fO (FnH.mono _ _ _ _ _ (fun pv s' hq=>?_) (Ld (s:=⟨t,h,z,nx⟩) hF rfl hnd (fun p hp=>⟨(hL p hp).1,(hL p hp).2.1,(hL p hp).2.2.1⟩) fun p hp=>(hL p hp).2.2.2));obtain⟨s1,h0,e1,e2,e3,e4⟩:=hq;obtain⟨t',h',z',nx'⟩:=s';dsimp only at e1 e2 e4 ⊢;subst e1;subst e2;subst e4;refine hK pv s1 h0 e3 _ _ (fun q b hq hb hz=>?_) (fun r hr hn=>?_) fun r hr=>oJ (zF hr)
 .rw[oJ hq,oJ hq,B0 hz];exact⟨hb,rfl⟩
 .have ho:¬ (nx<=r\/r∈L.map (·.1)):=fun e=>e.elim (fun e=>by omega) hn
  rw[bJ ho,bJ ho];exact⟨rfl,rfl⟩
open Go.RowKit SX
def vT7{q:Nat}{k:Tk}{T:Tab}:(Ik q k T).map (·.1)=k.ksq q T.bs.length:=by
 unfold Ik jH eH Tk.ksq
 simp
def Zx{G:Gl}{n0:Nat}{K:St->Prop}{Q:Exit->St->Prop}{s:St}{T:Tab}{k:Tk}(L:List (Nat×PV)){e0:PV}{sz:Nat}{ag:Bool}(hn0:n0<=3000)(W:Wf T)(S:TabS k T s.h s.z)(h1:s.h 3208=some ⟨[e0],sz,ag⟩/\s.z 3208=false)(h2:s.h 3210=some ⟨[.ptr 1 0 0],1,false⟩/\s.z 3210=false)
 (he:e0≠.any) (hr:nr 3 e0=true) (hn:3208∉k.ks T.bs.length/\3210∉k.ks T.bs.length) (hL:okV id 3300 L s.t) (h:K ⟨sv L,hv [(3208,⟨[e0],sz,ag⟩),(3210,⟨[.cptr (pG T) 0],1,false⟩)],zv [],3300⟩):tX (LeS G,n0) K Q .normal s:=by
 obtain⟨t,hh,z,nx⟩:=s;dsimp only at S h1 h2 hL;obtain⟨KS,hKS⟩:∃ KS,KS=1::([k.b]++([k.n]++(k.f::((List.range T.bs.length).map k.r)++[k.o]))):=⟨_,rfl⟩
 have hsub:∀ x∈KS,x∈k.ks T.bs.length:=fun x hx=>by
  rw[hKS]at hx;unfold Tk.ks;simp only[yI,y8,uU,uX,List.cons_append,List.nil_append]at hx ⊢;rcases hx with h|h|h|h|h|h<;>simp[h]
 have hz:∀ r,r∉k.ks T.bs.length->z r=false->Go.PI.fs z KS r=false:=fun r hr hz=>by
  unfold Go.PI.fs;cases e:rQ KS r with
  |true=>rw[fF]at e;exact absurd (hsub r (by simpa using e)) hr
  |false=>exact hz
 have hB:∀ l:List Nat,(∀ x∈l,x∈k.ks T.bs.length)->BX hh l:=fun l=>by
  induction l with
  |nil=>intro _;trivial
  | cons x l ih =>
    intro hl;refine⟨?_,ih fun y hy=>hl y (xN _ hy)⟩;have hx:=hl x (tT ..);rw[<- u9]at hx;obtain⟨p,hp,rfl⟩:=zW.1 hx;exact⟨p.2,(S p hp).1⟩
 have hs:∀ l:List Nat,(∀ x∈l,x∈KS)->subs l KS=true:=fun l=>by
  induction l with
  |nil=>intro _;rfl
  | cons x l ih =>
    intro hl;unfold subs;rw[uB,fF];exact⟨by simpa using hl x (tT ..),ih fun y hy=>hl y (xN _ hy)⟩
 refine bK [] L [(3208,⟨[e0],sz,ag⟩),(3210,⟨[.cptr (pG T) 0],1,false⟩)] [] 3300 zom (fun r hr=>by cases hr) trivial (KeptG.frz (KS:=KS) (TS:=[]) (HS:=[(3210,[.cptr (pG T) 0])]) ⟨hB KS hsub,zA,⟨⟨_,6,KS,h2.1,?_,hs KS fun x hx=>hx⟩,zA⟩⟩ ⟨id,hL,⟨⟨zdd,fun e he'=>by cases yG.1 he';exact he,⟨⟨[e0],sz,ag⟩,h1.1,rfl,rfl,zF ⟨rfl,fun e he'=>by cases yG.1 he';exact hr⟩⟩,(hz _ hn.1 h1.2).symm⟩,⟨zdd,fun e he'=>by cases yG.1 he';simp,⟨⟨[.cptr (pG T) 0],1,false⟩,?_,rfl,rfl,zF ⟨rfl,fun e he'=>by cases yG.1 he';rfl⟩⟩,(hz _ hn.2 h2.2).symm⟩,zA⟩,fun p _ q _ hne=>hne,fun r _=>rfl⟩) h
 .rw[hKS]
  show zZ (frz hh 6) [.ptr 1 0 0]=_
  unfold zZ;rw[Fc W S];simp[zZ]
 .show q7 hh [(3210,_)] 3210=_
  unfold q7;rw[vL,sJ rfl,h2.1]
open FM SX
noncomputable def qB(q:QryL)(n:Nat)(p:List Int):Int×Rat:=uD ([yA (yK n) (l6 q n p) (-1),yA zeroQ (yA (yK n) (l6 q n p) (-1)) (-1)]++kC q n p) n
section
variable {q:QryL} {kg n:Nat} {p:List Int} {A:List (List Rat)} {c:List Rat}
structure LpL(q:QryL)(n:Nat)(p:List Int)(A:List (List Rat))(c:List Rat):Prop where
 len:A.length=(lpQ q n p).length
 row:∀ i,i<A.length->∀ X:List Rat,X.length=n+(usQ q).length->dt A[i]! X=evQ (lpQ q n p)[i]! X
 obj:∀ X:List Rat,X.length=n+(usQ q).length->dt c X=evQ q.goal.Q X
def Rk(h:smQ q kg)(hn:q.g.ins=(n:Int)):okF ((n+(usQ q).length:Nat):Int) q.goal.Q:=by
 have:=p8 h.va.2.2;rw[hn]at this;rw[oW];exact_mod_cast this
def Zy(h:smQ q kg)(hkg:kg<=200)(hn:q.g.ins=(n:Int))(hp:∀ j,j<(usQ q).length->p[j]! = 1\/p[j]! = 2){X:List Rat}(hX:X.length=n+(usQ q).length)(hr:∀ f∈lpQ q n p,0<=evQ f X) :
 (qB q n p).1=0\/(qB q n p).1=3\/(qB q n p).1=1/\(qB q n p).2<=evQ q.goal.Q X:=by
 obtain⟨h1,h2,h3⟩:=Q4 h hn hp hX hr;have hu:=h.us hn;have hxl:(X.take n).length=n:=by simp;omega
 have hg:evQ q.goal.Q X=evQ (l6 q n p) (X.take n):=by rw[uOV h hn hxl hp h2];unfold Pm;rw[<- h3]
 rw[hg];refine vVY hxl (Ps h hkg hn p).1 (fun f hf=>⟨(QV h hn p f hf).2,?_⟩) rfl;rcases y8.1 hf with hf|hf
 .have:=hr f (sV _ hf)
  have e:=Ew (x:=X.take n) (y:=X.drop n) (n:=(n:Int)) yE (De h hn f hf).2;rw[Ac]at e
  rwa [e]at this
 .obtain⟨j,hj,rfl⟩:=zW.1 hf
  exact(vSO hxl (fun j hj=>(hu.2.2 j hj).2) hp).2 h2 j (yN.1 hj)
def Zz(L:LpL q n p A c){X:List Rat}(hX:X.length=n+(usQ q).length)(hr:∀ i,i<A.length->0<=dt A[i]! X):∀ f∈lpQ q n p,0<=evQ f X:=fun f hf=>by
 obtain⟨i,hi,rfl⟩:=mem_ix hf;rw[<- L.row i (by rw[L.len];exact hi) X hX];exact hr i (by rw[L.len];exact hi)
def Z0(h:smQ q kg)(hkg:kg<=200)(hn:q.g.ins=(n:Int))(hp:∀ j,j<(usQ q).length->p[j]! = 1\/p[j]! = 2)(L:LpL q n p A c){y:List Rat}{al b:Rat}(hal:0<=al)(hy:∀ i,i<A.length->0<=y[i]!)
 (hid:∀ X:List Rat,X.length=n+(usQ q).length->al*dt c X=b+sm (fun i=>y[i]!*dt A[i]! X) A.length):((qB q n p).1=1->b<=al*(qB q n p).2)/\((qB q n p).1=3->∃ T:Rat,∀ t,t<=T->b<=al*t):=by
 have hlen:=L.len;rw[LY]at hlen;have hRl:(kC q n p).length=(rF q.r).length+(usQ q).length:=by simp[kC,Bn]
 refine uGL (u:=fun i=>if i<(rF q.r).length then y[i]! else y[(rF q.r).length+(3*(i-(rF q.r).length)+1)]!) (fun f hf=>(QV h hn p f hf).2) (Ps h hkg hn p).1 hal (fun i hi=>?_) (fun x hx=>?_) rfl
 .split
  .exact hy _ zom
  .exact hy _ zom
 .obtain⟨e1,e2⟩:=uTJ h hn hp hx
  have hXl:(kD q n p x).length=n+(usQ q).length:=by simp[kD,mM]
  have hg:dt c (kD q n p x)=evQ (l6 q n p) x:=by
   rw[L.obj _ hXl];unfold l6 kD;rw[Hz (by rw[mM];exact Rk h hn)]
  rw[<- hg,hid _ hXl,hRl,hlen,Q5,Q5,Yz]
  congr 1
  congr 1
  .refine Q6 _ fun i hi=>?_
   have e3:(kC q n p)[i]! = (rF q.r)[i]! := by
    rw[gp (by rw[hRl];omega),gp hi];unfold kC;rw[iJ hi]
   rw[zE hi,L.row i zom _ hXl,uOC hi,e3,e1 _ (De h hn _ (by rw[gp hi];exact wA hi)).2]
  .refine Q6 _ fun j hj=>?_
   have e3:(kC q n p)[(rF q.r).length+j]! = nN (usQ q) n p j:=by
    rw[gp (by rw[hRl];omega)];unfold kC Bn;rw[iI zom];simp
   have g:∀ k,k<3->dt A[(rF q.r).length+(3*j+k)]! (kD q n p x)=if k=1 then evQ (nN (usQ q) n p j) x else 0:=fun k hk=>by
    rw[L.row _ zom _ hXl,uOB hj hk,e2 j hj k hk]
   have g0:=g 0 zom;have g1:=g 1 zom;have g2:=g 2 zom;rw[zB zdd]at g0 g2;rw[zE rfl]at g1;rw[Nat.add_zero]at g0;rw[g0,g1,g2,zB zom,GA,e3];grind
def Rl(q:QryL)(n:Nat)(p:List Int):Out->Prop
 |.inf _ _=>(qB q n p).1=2
 |.unb _ _ _=>False
 |.opt v x _ _ _=>(qB q n p).1=1/\(qB q n p).2=v/\x.length=n+(usQ q).length/\inQ q (x.take n)/\AgN (usQ q) (x.take n) p (usQ q).length
def Z1(h:smQ q kg)(hkg:kg<=200)(hn:q.g.ins=(n:Int))(hp:∀ j,j<(usQ q).length->p[j]! = 1\/p[j]! = 2)(L:LpL q n p A c){o:Out}(hP:Bv (n+(usQ q).length) A c o)(hV:(qB q n p).1=1\/(qB q n p).1=2):Rl q n p o:=by
 cases o with
 | inf y pv =>
   obtain⟨h1,h2,k,hk,h3⟩:=hP;refine hV.resolve_left fun hv=>?_
   have:=(Z0 h hkg hn hp L (al:=0) (b:=k) nE h2 fun X hX=>by rw[h3 X hX];grind).1 hv
   grind
 | unb x d pv =>
   obtain⟨h1,h2,h3⟩:=hP;obtain⟨X,hX,hr,hlt⟩:=h3 (qB q n p).2;have:=Zy h hkg hn hp hX (Zz L hX hr);rw[L.obj X hX]at hlt;rcases this with g|g|⟨_,g⟩
   .omega
   .omega
   .exact absurd hlt (by grind)
 | opt v x y bs pv =>
   obtain⟨h1,h2,h3,h4,h5,h6⟩:=hP;have hr:=Zz L h1 h2;obtain⟨p1,p2,p3⟩:=Q4 h hn hp h1 hr;rw[L.obj x h1]at h3
   have hv:(qB q n p).1=1/\(qB q n p).2<=v:=by
    rcases Zy h hkg hn hp h1 hr with g|g|g
    .omega
    .omega
    .rwa [h3]at g
   have:=(Z0 h hkg hn hp L (al:=1) (b:=v) zdd h5 fun X hX=>by rw[h6 X hX];grind).1 hv.1;exact⟨hv.1,by grind,h1,p1,p2⟩
def xJ:Nat->Nat->List Int
 |0,_=>[]
 |m+1,k=>(1+((k%2:Nat):Int))::xJ m (k/2)
def Iy:∀ m k,(xJ m k).length=m
 |0,_=>rfl
 |m+1,k=>by simp[xJ,Iy m]
def Rm:∀ m k j,j<m->(xJ m k)[j]! = 1+((k/2^j%2:Nat):Int)
 |m+1,k,0,_=>by simp[xJ]
 | m+1,k,j+1,h=>by
   rw[xJ,Ab,Rm m (k/2) j zom,M3,Nat.pow_succ,wC]
def Dm{m k j:Nat}(h:j<m):(xJ m k)[j]! = 1\/(xJ m k)[j]! = 2:=by
 rw[Rm m k j h];have:=nZ (k/2^j) (show 0<2 by omega);omega
def Z2:∀ (m:Nat) (p:List Int),p.length=m->(∀ a∈p,a=1\/a=2)->∃ k,k<2^m/\xJ m k=p
 |0,[],_,_=>⟨0,zdd,rfl⟩
 | m+1,a::p,h,ha=>by
   obtain⟨k,hk,e⟩:=Z2 m p (by simpa using h) fun b hb=>ha b (xN _ hb)
   rcases ha a zsm with rfl|rfl
   .exact⟨2*k,by rw[Nat.pow_succ];omega,by rw[xJ,show 2*k/2=k by omega,show 2*k%2=0 by omega,e];rfl⟩
   .exact⟨2*k+1,by rw[Nat.pow_succ];omega,by rw[xJ,show(2*k+1)/2=k by omega,show(2*k+1)%2=1 by omega,e];rfl⟩
def Best(P:Nat->Int×Rat)(N:Nat)(s:Int×Rat):Prop :=
 (∀ j,j<N->(P j).1=1\/(P j).1=2)/\(s.1=2/\(∀ j,j<N->(P j).1=2)\/s.1=1/\(∃ j,j<N/\(P j).1=1/\(P j).2=s.2)/\∀ j,j<N->(P j).1=1->s.2<=(P j).2)
def Best.step{P:Nat->Int×Rat}{N:Nat}{s:Int×Rat}(h:Best P N s)(hP:(P N).1=1\/(P N).1=2):Best P (N+1) (if (P N).1=1/\(s.1=2\/(P N).2<s.2) then P N else s):=by
 obtain⟨h1,h2⟩:=h;refine⟨fun j hj=>?_,?_⟩
 .by_cases e:j=N
  .rw[e];exact hP
  .exact h1 j zom
 .split
  .rename_i hc
   refine zC ⟨hc.1,⟨N,zom,hc.1,rfl⟩,fun j hj hj1=>?_⟩;by_cases e:j=N
   .rw[e];exact nE
   .rcases h2 with⟨_,h3⟩|⟨h3,_,h4⟩
    .have:=h3 j zom;omega
    .have:=h4 j zom hj1
     rcases hc.2 with h5|h5
     .omega
     .grind
  .rename_i hc
   rcases h2 with⟨h3,h4⟩|⟨h3,⟨j,hj,g1,g2⟩,h4⟩
   .refine zF ⟨h3,fun j hj=>?_⟩
    by_cases e:j=N
    .rw[e];exact hP.resolve_left fun h5=>hc ⟨h5,zF h3⟩
    .exact h4 j zom
   .refine zC ⟨h3,⟨j,zom,g1,g2⟩,fun j hj hj1=>?_⟩
    by_cases e:j=N
    .rw[e]at hj1 ⊢
     have:¬ (P N).2<s.2:=fun h5=>hc ⟨hj1,zC h5⟩
     grind
    .exact h4 j zom hj1
def Rn{P:Nat->Int×Rat}(hst:∀ j,(P j).1=0\/(P j).1=1\/(P j).1=2\/(P j).1=3):∀ (N:Nat) (s:Int×Rat),oG P N=some s->Best P N s
 |0,s,h=>by cases h;exact⟨fun j hj=>by omega,zF ⟨rfl,fun j hj=>by omega⟩⟩
 | N + 1,s,h=>by
   unfold oG at h;cases hp:oG P N with
   |none=>rw[hp]at h;cases h
   | some c =>
     rw[hp]at h;unfold QU at h;dsimp only at h
     split at h
     .cases h
     .rename_i hc
      have:=(Rn hst N c hp).step (by have:=hst N;omega)
      split at h<;>rename_i hd
      .rw[zE hd]at this;cases h;exact this
      .rw[zB hd]at this;cases h;exact this
def Best.eq{P Q:Nat->Int×Rat}{N M:Nat}{s t:Int×Rat}(h:Best P N s)(g:Best Q M t)(hPQ:∀ j,j<N->∃ k,k<M/\Q k=P j)(hQP:∀ k,k<M->∃ j,j<N/\P j=Q k):s.1=t.1/\(s.1=1->s.2=t.2):=by
 obtain⟨_,h⟩:=h;obtain⟨_,g⟩:=g;rcases h with⟨h1,h2⟩|⟨h1,⟨j,hj,h2,h3⟩,h4⟩<;>rcases g with⟨g1,g2⟩|⟨g1,⟨k,hk,g2,g3⟩,g4⟩
 .exact⟨zom,fun _=>by omega⟩
 .obtain⟨j,hj,e⟩:=hQP k hk
  have:=h2 j hj;rw[e]at this;omega
 .obtain⟨k,hk,e⟩:=hPQ j hj
  have:=g2 k hk;rw[e]at this;omega
 .refine⟨zom,fun _=>Rat.le_antisymm ?_ ?_⟩
  .obtain⟨i,hi,e⟩:=hQP k hk
   have:=h4 i hi (by rw[e];exact g2);rw[e,g3]at this;exact this
  .obtain⟨i,hi,e⟩:=hPQ j hj
   have:=g4 i hi (by rw[e];exact h2);rw[e,h3]at this;exact this
def MB:∀ (m:Nat) (p:List Int),(wJ m p).length=2^m
 |0,_=>rfl
 |m+1,p=>by simp only[wJ,xR,MB m];omega
def Ro:∀ (m:Nat) (p s:List Int),s∈wJ m p->∃ t,s=p++t/\t.length=m/\∀ a∈t,a=1\/a=2
 |0,p,s,h=>⟨[],by simpa [wJ]using h,rfl,fun a ha=>by cases ha⟩
 | m + 1,p,s,h=>by
   unfold wJ at h;rcases y8.1 h with h|h
   .obtain⟨t,h1,h2,h3⟩:=Ro m _ s h
    exact⟨1::t,by rw[h1];simp,by simp[h2],fun a ha=>by
     rcases yI.1 ha with rfl|ha
     .exact zF rfl
     .exact h3 a ha⟩
   .obtain⟨t,h1,h2,h3⟩:=Ro m _ s h
    exact⟨2::t,by rw[h1];simp,by simp[h2],fun a ha=>by
     rcases yI.1 ha with rfl|ha
     .exact zC rfl
     .exact h3 a ha⟩
def vP(O:Nat->Out):Nat->Int×Rat
 |0=>(2,0)
 | k+1=>match O k with
   |.opt v _ _ _ _=>if (vP O k).1=2\/v<(vP O k).2 then(1,v) else vP O k
   |_=>vP O k
def uO4(h:smQ q kg)(hkg:kg<=200)(hn:q.g.ins=(n:Int))(hd:(oH q n).1≠0)(O:Nat->Out)(A:Nat->List (List Rat))(c:Nat->List Rat)(hL:∀ k,k<2^(usQ q).length->LpL q n (xJ (usQ q).length k) (A k) (c k))
 (hO:∀ k,k<2^(usQ q).length->Bv (n+(usQ q).length) (A k) (c k) (O k)) :
 (vP O (2^(usQ q).length)).1=(oH q n).1/\((oH q n).1=1->(vP O (2^(usQ q).length)).2=(oH q n).2) /\
  ∀ k,k<2^(usQ q).length->∀ v x y bs pv,O k=.opt v x y bs pv->x.length=n+(usQ q).length/\inQ q (x.take n)/\AgN (usQ q) (x.take n) (xJ (usQ q).length k) (usQ q).length:=by
 have hst:∀ j,(pP q n j).1=0\/(pP q n j).1=1\/(pP q n j).1=2\/(pP q n j).1=3:=fun j=>YR _ _
 have hB:Best (pP q n) (2^(usQ q).length) (oH q n):=by
  unfold oH aZ at hd ⊢;cases hi:oG (pP q n) (2^(usQ q).length) with
  |none=>rw[hi]at hd;exact absurd rfl hd
  |some s=>exact Rn hst _ s hi
 have ins:∀ j,j<2^(usQ q).length->(uZ q j).length=(usQ q).length/\∀ a∈uZ q j,a=1\/a=2:=fun j hj=>by
  have hj':j<(wJ (usQ q).length []).length:=by rw[MB];exact hj
  obtain⟨t,h1,h2,h3⟩:=Ro _ _ _ (x6 hj');rw[List.nil_append]at h1;unfold uZ;rw[h1];exact⟨h2,h3⟩
 have hPQ:∀ j,j<2^(usQ q).length->∃ k,k<2^(usQ q).length/\qB q n (xJ (usQ q).length k)=pP q n j:=fun j hj=>by
  obtain⟨h1,h2⟩:=ins j hj;obtain⟨k,hk,e⟩:=Z2 _ _ h1 h2;exact⟨k,hk,by rw[e];rfl⟩
 have hQP:∀ k,k<2^(usQ q).length->∃ j,j<2^(usQ q).length/\pP q n j=qB q n (xJ (usQ q).length k):=fun k hk=>by
  have hm:=QS (usQ q).length [] (xJ (usQ q).length k) (Iy _ _) fun a ha=>by
   obtain⟨j,hj,rfl⟩:=mem_ix ha;exact Dm (by rw[Iy]at hj;exact hj)
  rw[List.nil_append]at hm;obtain⟨j,hj,e⟩:=mem_ix hm;rw[MB]at hj;exact⟨j,hj,by unfold pP qB uZ;rw[e]⟩
 have hone:∀ k,k<2^(usQ q).length->Rl q n (xJ (usQ q).length k) (O k):=fun k hk=>Z1 h hkg hn (fun j hj=>Dm hj) (hL k hk) (hO k hk) (by
  obtain⟨j,hj,e⟩:=hQP k hk
  rw[<- e];exact hB.1 j hj)
 have hF:∀ N,N<=2^(usQ q).length->Best (fun k=>qB q n (xJ (usQ q).length k)) N (vP O N):=by
  intro N
  induction N with
  |zero=>exact fun _=>⟨fun j hj=>by omega,zF ⟨rfl,fun j hj=>by omega⟩⟩
  | succ N ih =>
    intro hN;have g:=hone N zom;have i:=ih zom;unfold vP;cases ho:O N with
    | inf y pv =>
      rw[ho]at g;have:=i.step (zC g)
      rwa [zB fun hc=>by have g':(qB q n (xJ (usQ q).length N)).1=2:=g;omega]at this
    |unb x d pv=>rw[ho]at g;exact g.elim
    | opt v x y bs pv =>
      rw[ho]at g;have:=i.step (zF g.1);dsimp only at this g ⊢;have e:qB q n (xJ (usQ q).length N)=(1,v):=by rw[<- g.1,<- g.2.1]
      rw[e]at this;by_cases hc:(vP O N).1=2\/v<(vP O N).2
      .rw[zE ⟨rfl,hc⟩]at this;rw[zE hc];exact this
      .rw[zB fun h=>hc h.2]at this;rw[zB hc];exact this
 obtain⟨e1,e2⟩:=(hF _ (zX _)).eq hB hQP hPQ;refine⟨e1,fun h1=>e2 (by rw[e1];exact h1),fun k hk v x y bs pv ho=>?_⟩;have g:=hone k hk;rw[ho]at g;exact g.2.2
end
open FM SX
def Z3{N:Nat}{f:QF}(hf:okF N f){X:List Rat}(hX:X.length=N):dt (frX f N) X=evQ f X:=by
 have one:∀ (l:List QT),(∀ t∈l,0<=t.1/\t.1<(N:Int))->dt (frX ⟨l,0⟩ N) X=dot X l:=by
  intro l
  induction l with
  | nil =>
    intro _
    have e:frX ⟨[],0⟩ N=List.replicate (N+1) 0:=by
     apply vE (by simp[frX]);intro j h1 h2;have:j<N+1:=by simpa using h2
     rw[<- gp h1,l8 this];simp[cf]
    rw[e,Px hX];rfl
  | cons t l ih =>
    intro h;obtain⟨h1,h2⟩:=h t zsm;have hi:=ih fun q hq=>h q (xN _ hq)
    have ht:t.1.toNat<N:=zom
    have e:dt (frX ⟨t::l,0⟩ N) X=dt (frX ⟨l,0⟩ N) X+t.2*dt ((List.replicate (N+1) 0).set t.1.toNat 1) X:=by
     refine FA (by rw[iA,hX]) (by simp[hX]) (by rw[iA,hX]) fun j hj=>?_
     rw[hX]at hj;rw[l8 hj,l8 hj,sN (by simpa using hj)];by_cases hn:j<N
     .rw[zE hn,zE hn]
      simp only[cf];by_cases he:t.1.toNat=j
      .rw[zE he,zE zom];grind
      .rw[zB he,zB zom,gp (by simpa using hj:j<(List.replicate (N+1) (0:Rat)).length)]
       simp only[nA];grind
     .rw[zB hn,zB hn,zB zom,gp (by simpa using hj:j<(List.replicate (N+1) (0:Rat)).length)]
      simp only[nA];grind
    rw[e,hi,IB hX ht];simp only[dot];grind
 have e:dt (frX f N) X=dt (frX ⟨f.ts,0⟩ N) X+f.c*dt ((List.replicate (N+1) 0).set N 1) X:=by
  refine FA (by rw[iA,hX]) (by simp[hX]) (by rw[iA,hX]) fun j hj=>?_
  rw[hX]at hj;rw[l8 hj,l8 hj,sN (by simpa using hj)];by_cases hn:j<N
  .rw[zE hn,zE hn,zB zom,gp (by simpa using hj:j<(List.replicate (N+1) (0:Rat)).length)]
   simp only[nA];grind
  .rw[zB hn,zB hn,zE zom];grind
 have e2:∀ (n:Nat) (X:List Rat),X.length=n->dt ((List.replicate (n+1) 0).set n 1) X=1:=by
  intro n
  induction n with
  |zero=>intro X h;match X,h with|[],_=>rfl
  |succ n ih=>intro X h;match X,h with|y::X,h=>rw[List.replicate_succ,List.set_cons_succ,mN,ih X (by simpa using h)];grind
 rw[e,one _ hf.2,e2 N X hX,mK];grind
section
variable {q:QryL} {kg n:Nat} {p:List Int}
def lpA(q:QryL)(n:Nat)(p:List Int):List (List Rat):=(lpQ q n p).map fun f=>frX f (n+(usQ q).length)
def lpC(q:QryL)(n:Nat):List Rat:=frX q.goal.Q (n+(usQ q).length)
def Z4(h:smQ q kg)(hn:q.g.ins=(n:Int)):∀ f∈lpQ q n p,okF ((n+(usQ q).length:Nat):Int) f/\szF 410 f:=fun f hf=>by
 have hu:=h.us hn;rcases y8.1 hf with hf|hf
 .exact⟨Pi zom (De h hn f hf).2,rX zdd (De h hn f hf).1⟩
 .obtain⟨j,hj,hf⟩:=Ce.1 hf
  have hj:=yN.1 hj;obtain⟨u1,u2⟩:=hu.2.2 j hj;have u2:=Pi (n:=((n+(usQ q).length:Nat):Int)) zom u2;have v2:okF ((n+(usQ q).length:Nat):Int) (yK ((n+j:Nat):Int)):=uRU zom zom;have v1:=Bj ((n+j:Nat):Int);have m1:sz 1 (-1:Rat):=pX (z:=-1) zdd;have z1:=cQ 1 zdd;unfold gK at hf
  split at hf
  .rcases yI.1 hf with rfl|hf
   .exact⟨v2,rX zdd v1⟩
   .rcases yI.1 hf with rfl|hf
    .exact⟨Kn (WY _) u2,cN z1 u1 m1 zdd⟩
    .rw[yG.1 hf]
     exact⟨Kn (WY _) v2,cN z1 v1 m1 zdd⟩
  .rcases yI.1 hf with rfl|hf
   .exact⟨Kn v2 u2,cN v1 u1 m1 zdd⟩
   .rcases yI.1 hf with rfl|hf
    .exact⟨u2,rX zdd u1⟩
    .rw[yG.1 hf]
     exact⟨Kn u2 v2,cN u1 v1 m1 zdd⟩
def Fg:(lpA q n p).length=(lpQ q n p).length:=by simp[lpA]
def Z5{i:Nat}(hi:i<(lpQ q n p).length):(lpA q n p)[i]! = frX (lpQ q n p)[i]! (n+(usQ q).length):=by unfold lpA;rw[tH hi]
def uTH(h:smQ q kg)(hn:q.g.ins=(n:Int)):Okp (n+(usQ q).length) (lpA q n p) (lpC q n) :=
 ⟨fun i hi=>by rw[Z5 (by rw[<- Fg];exact hi),iA],iA _ _⟩
def Rp(h:smQ q kg)(hn:q.g.ins=(n:Int)):LpL q n p (lpA q n p) (lpC q n) :=
 ⟨Fg,fun i hi X hX=>by
   rw[Fg]at hi
   rw[Z5 hi,Z3 (Z4 h hn _ (x6 hi)).1 hX],fun X hX=>Z3 (Rk h hn) hX⟩
def Rq(h:smQ q kg)(hn:q.g.ins=(n:Int))(hm:(usQ q).length<=3)(hr:q.r.rows.length<=2):n+(usQ q).length<=6/\(lpA q n p).length<=17/\∀ M k,M<=(lpA q n p).length+1->k<=n+(usQ q).length+1->chF M k<=31824:=by
 obtain⟨n1,n2,n3,n4⟩:=h.nn hn
 have hl:(lpA q n p).length<=17:=by
  rw[Fg,LY];have:(rF q.r).length=2*q.r.lo.length+q.r.rows.length:=by simp[rF,IY]
  omega
 have key:∀ M,M<19->∀ k,k<8->chF M k<=31824:=by decide +kernel
 exact⟨zom,hl,fun M k hM hk=>key M zom k zom⟩
def Z6{f:QF}{k N:Nat}(hf:szF k f)(hs:Srt f.ts)(hk:1<=k){j:Nat}(hj:j<N+1):sz k (frX f N)[j]! := by
 rw[l8 hj]
 split
 .exact cf_sz hk hs.1 hf.2
 .exact hf.1
def lvB:Nat->Nat
 |0=>411
 |i+1=>4*lvB i+1
def Z7:∀ i,411<=lvB i
 |0=>zX _
 |i+1=>by have:=Z7 i;simp only[lvB];omega
def lv_ok:Lvl fun i x=>sz (lvB i) x:=by
 have one:∀ i (z:Int),z.natAbs<4294967296->sz (lvB i) (z:Rat):=fun i z hz=>xV (by have:=Z7 i;omega) (pX hz)
 exact⟨fun i=>one i 0 zdd,fun i=>one i 1 zdd,fun i x h=>cE h,fun i x h=>xV (by simp only[lvB];omega) h,
  fun i x l c a hx hl hc ha ha0=>xV (by simp only[lvB];omega) (pU hx (q9 hl (H8 ha0 hc ha)))⟩
end
end Go.PI
namespace Go.PI.SX
open Go.PI
structure Sm(k:Nat)(T:Tab):Prop where
 w:Wf T
 m1:T.bs.length<=64
 n1:T.ns.length<=99
 vb:∀ v∈T.bs,v<1000000
 vn:∀ v∈T.ns,v<1000000
 vv:T.vars<1000000
 p1:T.pv<1000000
 e:bH (sz k) T
 k1:1<=k
 k2:k<=10000000
structure FeaH(T:Tab)(k w:Nat)(P U:Tab)(I:Tab->Prop):Prop where
 p:P=zY (xB T.vars T) w T.ns.length
 u:U=(xL T.vars (xD (T.vars+T.bs.length)) (65537-P.pv) P).1
 a:Sm k (xB T.vars T)
 i:∀ U,I U->Sm k U/\U.ns.length=T.ns.length+1/\(T.vars+T.bs.length∈U.bs\/T.vars+T.bs.length∈U.ns)/\∀ j,j<U.ns.length->sz k (xD (T.vars+T.bs.length) U)[j]!
 s:∀ U e r,I U->wX U.vars U.ns (xD (T.vars+T.bs.length) U) U.ns.length=some e->vV U.vars U e U.bs.length=some r->I (zY U r e)
 ip:I P
 iu:I U
 pp:P.pv<=65537
 pu:U.pv<=65536
 ub:U.bs.length=T.bs.length
 uv:U.vars=T.vars
 o:¬ 0<(xD (T.vars+T.bs.length) U)[U.ns.length]! -> Sm k (uJ (T.vars+T.bs.length) U)/\T.vars+T.bs.length∈(uJ (T.vars+T.bs.length) U).ns/\∀ r,T.vars+T.bs.length∈U.bs->r=U.bs.idxOf (T.vars+T.bs.length)->∃ e,Bu U r=some e/\r<U.bs.length/\e<U.ns.length/\U.fs[r]![e]! ≠ 0
abbrev A0(P:QP)(n:Nat):List (List Rat):=P.rows.map (frX · n)
abbrev T0(P:QP)(n:Nat):Tab:=set0 n (A0 P n) (frX P.obj n)
abbrev T1(P:QP)(n:Nat):Tab:=yT n (T0 P n) n
structure MinH(T:Tab)(k:Nat)(I:Tab->Prop):Prop where
 i:∀ U,I U->Sm k U
 s:∀ U e r,I U->wX U.vars U.ns U.ob U.ns.length=some e->vV U.vars U e U.bs.length=some r->I (zY U r e)
 i0:I T
 iu:I (xL T.vars (·.ob) (65537-T.pv) T).1
 p:T.pv<=65537
 pu:(xL T.vars (·.ob) (65537-T.pv) T).1.pv<=65536
structure SolH(P:QP)(n k:Nat):Prop where
 v:P.vars=n
 n0:0<n
 n1:n<=90
 m1:P.rows.length<=64
 r:∀ f∈P.rows,okF (n:Int) f/\szF k f
 ob:okF (n:Int) P.obj/\szF k P.obj
 k1:k<=10000000
 rel:∀ j,j<=n->Sm k (yT n (T0 P n) j)
 fea:∀ w,u6 n (T1 P n) (T1 P n).bs.length=some w->∃ Q U I,FeaH (T1 P n) k w Q U I
 inf:∀ y U,nR n (T1 P n)=.inl (y,U)->Sm k U/\0<(T1 P n).bs.length/\y.length=(T1 P n).bs.length
 opt:∀ T,nR n (T1 P n)=.inr T->Sm k T/\T.vars=n/\(iF n T=none->∃ I,MinH T k I)
end Go.PI.SX
namespace Go.PI
open SX
variable {j:Nat}
def lnJ(f:QF)(n j:Nat):List Rat:=(List.range (n+1)).map fun i=>if i<n then cf (f.ts.take j) i else 0
@[simp] theorem Z8 {f:QF} {n:Nat}:(lnJ f n j).length=n+1:=by simp[lnJ]
def uFI{f:QF}{n:Nat}:lnJ f n 0=List.replicate (n+1) 0:=by
 refine vE zsm fun i h1 h2=>?_
 simp[lnJ,cf]
def uPY{l:List QT}{p:QT}{v:Int}:cf (l++[p]) v=cf l v+(if p.1=v then p.2 else 0):=by
 rw[cG];simp only[cf];grind
def Rs{f:QF}{n i:Nat}(h:i<(lnJ f n j).length):(lnJ f n j)[i]=if i<n then cf (f.ts.take j) i else 0:=by simp[lnJ]
def uFJ{f:QF}{n:Nat}(hs:f.ts.Pairwise (fun p q=>p.1<q.1))(hj:j<f.ts.length)(h0:0<=f.ts[j]!.1)(hv:f.ts[j]!.1<n):lnJ f n (j+1)=(lnJ f n j).set f.ts[j]!.1.toNat f.ts[j]!.2:=by
 have hg:f.ts[j]! = f.ts[j]:=zS f.ts j hj;have ht:f.ts.take (j+1)=f.ts.take j++[f.ts[j]!]:=by rw[hg,tO hj]
 have hout:cf (f.ts.take j) f.ts[j]!.1=0:=cJ fun q hq=>by
  obtain⟨i,hi,e⟩:=Tt.1 hq;have:=F8.1 hs i j zom hj zom;rw[hg,<- e];omega
 refine vE zsm fun i h1 h2=>?_
 have hi:i<n+1:=by simpa using h1
 rw[kL,Rs,Rs,ht,uPY];by_cases e:f.ts[j]!.1.toNat=i
 .have e':f.ts[j]!.1=(i:Int):=zom
  rw[zE e,zE zom,zE e',<- e',hout];grind
 .rw[zB e,zB (show ¬ f.ts[j]!.1=(i:Int) by omega)]
  split<;>grind
def uOD{f:QF}{n:Nat}:(lnJ f n f.ts.length).set n f.c=frX f n:=by
 refine vE (by simp[frX]) fun i h1 h2=>?_
 have hi:i<n+1:=by simpa using h1
 rw[kL,Rs,kK,show(frX f n)[i]=if i<n then cf f.ts i else f.c by simp[frX]];by_cases e:n=i
 .rw[zE e,zB zom]
 .rw[zB e,zE zom,zE zom]
def stH(n m b x y:Nat):PV:=.agg [.int .i64 n,.int .i64 m,.own b 0 x,.own 1003 0 n,.own 1004 0 y,.nilsl,.int .i64 0]
open SX
variable {q:Nat}{k:Tk}{m y:Nat}{bs:List Nat}{A:List (List Rat)}
def stK(k:Tk)(n m x y:Nat):PV:=.agg [.int .i64 n,.int .i64 m,.own k.b 0 x,.own k.n 0 n,.own k.f 0 y,.nilsl,.int .i64 0]
def st4(q:Nat)(k:Tk)(n m:Nat)(bs:List Nat)(y:Nat):List (Nat×Blk):=[(q,⟨[stK k n m bs.length y],7,true⟩),(k.b,⟨yV bs,1,false⟩),(k.n,⟨yV (List.range n),1,false⟩),(k.f,⟨uK k y (n+1),1,false⟩)]
def stR(k:Tk)(A:List (List Rat))(y:Nat):List (Nat×Blk):=(List.range y).map fun i=>(k.r i,⟨yS A[i]!,3,true⟩)
def stL(q:Nat)(k:Tk)(n m:Nat)(bs:List Nat)(A:List (List Rat))(y:Nat):List (Nat×Blk):=st4 q k n m bs y++stR k A y
def StS(q:Nat)(k:Tk)(n m:Nat)(bs:List Nat)(A:List (List Rat))(y:Nat)(h:Hp)(z:Fz):Prop:=∀ p∈stL q k n m bs A y,h p.1=some p.2/\z p.1=false
def qI(q:Nat)(k:Tk)(y:Nat):List Nat:=[q,k.b,k.n,k.f]++(List.range y).map k.r
def Rt   {n:Nat}    : (stL q k n m bs A y).map (·.1)=qI q k y:=by
 unfold stL st4 stR qI;simp[Function.comp_def]
def Ru   {n:Nat}   {i:Nat}(hi:i<y):(k.r i,(⟨yS A[i]!,3,true⟩:Blk))∈stL q k n m bs A y:=pJ _ (zW.2 ⟨i,yN.2 hi,rfl⟩)
def Z9{n0 kk:Nat}{ρ:Nat->Nat}  {t:Tm}{h:Hp}{z:Fz}{nx n:Nat}   {L:List (Nat×PV)}{X:List (Nat×Blk)}(hkk:1164<=kk)(hm:y<=64)(hnd:(qI q k y).Nodup)(hS:StS q k n m bs A y h z)
 (e1:ρ 1001=q) (e2:ρ 1002=k.b) (e3:ρ 1003=k.n) (e4:ρ 1004=k.f) (er:∀ i,i<y->ρ (1100+i)=k.r i) (hlow:∀ r,r<n0->ρ r=r) (hL:okV ρ kk L t) (hX:uP ρ kk [] X h z)
 (hXd:∀ p∈X,ρ p.1∉qI q k y) (hXi:∀ p∈X,∀ p'∈X,p.1≠p'.1->ρ p.1≠ρ p'.1):KeptG n0 ⟨t,h,z,nx⟩ L (X++stL 1001 (ck 1000) n m bs A y) [] kk:=by
 have hmap:(qI 1001 (ck 1000) y).map ρ=qI q k y:=by
  unfold qI;simp only[wB,uW,kO,qC];rw[show(ck 1000).b=1002 from rfl,show(ck 1000).n=1003 from rfl,show(ck 1000).f=1004 from rfl,e1,e2,e3,e4]
  congr 1
  exact rL fun i hi=>er i (by simpa using hi)
 have g1:=hS (q,⟨[stK k n m bs.length y],7,true⟩) (tT ..);have gb:=hS (k.b,⟨yV bs,1,false⟩) (xN _ (tT ..));have gn:=hS (k.n,⟨yV (List.range n),1,false⟩) (xN _ (xN _ (tT ..)));have gf:=hS (k.f,⟨uK k y (n+1),1,false⟩) (xN _ (xN _ (xN _ (tT ..))));refine⟨ρ,hL,?_,?_,hlow⟩
 .refine Ij hX ?_
  unfold stL st4
  refine Ij ⟨⟨zom,fun e he=>?_,⟨⟨[stK k n m bs.length y],7,true⟩,by show h (ρ 1001)=_;rw[e1];exact g1.1,rfl,rfl,zC ⟨?_,zA⟩⟩,by show _=z (ρ 1001);rw[e1];exact g1.2.symm⟩,⟨by show 1002<kk;omega,fun e he=>(o6 e he).2,⟨_,by show h (ρ 1002)=_;rw[e2];exact gb.1,rfl,rfl,zF ⟨rfl,fun e he=>(o6 e he).1⟩⟩,by show _=z (ρ 1002);rw[e2];exact gb.2.symm⟩,
   ⟨by show 1003<kk;omega,fun e he=>(o6 e he).2,⟨_,by show h (ρ 1003)=_;rw[e3];exact gn.1,rfl,rfl,zF ⟨rfl,fun e he=>(o6 e he).1⟩⟩,by show _=z (ρ 1003);rw[e3];exact gn.2.symm⟩,⟨by show 1004<kk;omega,fun e he=>?_,⟨⟨uK k y (n+1),1,false⟩,by show h (ρ 1004)=_;rw[e4];exact gf.1,rfl,rfl,zC ?_⟩,by show _=z (ρ 1004);rw[e4];exact gf.2.symm⟩,zA⟩ ?_
  .simp at he;subst he;simp[stK]
  .unfold stK
   rw[VG];simp only[VI,VH,OG,Gt,VF,bZ,dK];show(1002<kk/\PV.own k.b 0 _=PV.own (ρ 1002) 0 _)/\(1003<kk/\PV.own k.n 0 _=PV.own (ρ 1003) 0 _)/\1004<kk/\PV.own k.f 0 _=PV.own (ρ 1004) 0 _
   rw[e2,e3,e4];exact⟨⟨zom,rfl⟩,⟨zom,rfl⟩,zom,rfl⟩
  .unfold uK at he;obtain⟨i,_,rfl⟩:=zW.1 he;simp
  .unfold uK
   refine RL fun i hi=>?_
   have hi:i<y:=by simpa using hi
   rw[Gt];show 1000+100+i<kk/\PV.own (k.r i) 0 _=PV.own (ρ (1100+i)) 0 _
   rw[er i hi];exact⟨zom,rfl⟩
  .unfold stR
   have key:∀ l:List Nat,(∀ i∈l,i<y)->uP ρ kk [] (l.map fun i=>((ck 1000).r i,⟨yS A[i]!,3,true⟩)) h z:=by
    intro l
    induction l with
    |nil=>intro _;trivial
    | cons i l ih =>
      intro hl;have hi:=hl i zsm;have g:=hS _ (Ru hi);exact⟨⟨by show 1000+100+i<kk;omega,fun e he=>(wY e he).2,⟨_,by show h (ρ (1100+i))=_;rw[er i hi];exact g.1,rfl,rfl,zF ⟨rfl,fun e he=>(wY e he).1⟩⟩,by show _=z (ρ (1100+i));rw[er i hi];exact g.2.symm⟩,ih fun j hj=>hl j (by simp[hj])⟩
   exact key _ fun i hi=>by simpa using hi
 .have hin:∀ p∈stL 1001 (ck 1000) n m bs A y,p.1∈qI 1001 (ck 1000) y:=fun p hp=>by rw[<- Rt (n:=n) (m:=m) (bs:=bs) (A:=A)];exact zW.2 ⟨p,hp,rfl⟩
  have himg:∀ {x},x∈qI 1001 (ck 1000) y->ρ x∈qI q k y:=fun hx=>by rw[<- hmap];exact zW.2 ⟨_,hx,rfl⟩
  intro p hp p' hq hne;rcases y8.1 hp with hp|hp<;>rcases y8.1 hq with hq|hq
  .exact hXi p hp p' hq hne
  .exact fun e=>hXd p hp (by rw[e];exact himg (hin _ hq))
  .exact fun e=>hXd p' hq (by rw[<- e];exact himg (hin _ hp))
  .intro e
   obtain⟨a,ha,ea⟩:=mem_ix (hin _ hp);obtain⟨b,hb,eb⟩:=mem_ix (hin _ hq);have hl:(qI q k y).length=(qI 1001 (ck 1000) y).length:=by rw[<- hmap];simp
   have ga:=tH (f:=ρ) ha;have gb:=tH (f:=ρ) hb;rw[hmap,ea]at ga;rw[hmap,eb]at gb;have:=SX.nodup_get hnd (i:=a) (j:=b) zom zom (by rw[ga,gb,e]);exact hne (by rw[<- ea,<- eb,this])
def uWP  : (qI 1001 (ck 1000) y).Nodup:=by
 unfold qI ck;simp only[List.cons_append,List.nil_append,mU,yI,zW,yN,fC,dJ,dL];refine⟨⟨zom,zom,zom,fun i _=>by omega⟩,⟨zom,zom,fun i _=>by omega⟩,⟨zom,fun i _=>by omega⟩,fun i _=>by omega,?_⟩;exact eF fun i j hij _=>by omega
def uIG{r:Nat}(h:r<1001\/(1004<r/\r<1100)\/1164<=r)(hy:y<=64):r∉qI 1001 (ck 1000) y:=by
 unfold qI ck;simp only[List.cons_append,List.nil_append,yI,zW,yN,fC,dJ,dL];exact⟨zom,zom,zom,zom,fun i _=>by omega⟩
def StS.hs{q:Nat}{k:Tk}{n m y:Nat}{bs:List Nat}{A:List (List Rat)}{h:Hp}{z:Fz}(S:StS q k n m bs A y h z){r:Nat}{b:Option Blk}(hr:r∉qI q k y):StS q k n m bs A y (hs h r b) z:=fun p hp=>by
 have:p.1≠r:=fun e=>hr (by rw[<- e,<- Rt (n:=n) (m:=m) (bs:=bs) (A:=A)];exact zW.2 ⟨p,hp,rfl⟩)
 rw[yM this];exact S p hp
def Rv{n m y:Nat}{bs:List Nat}{A:List (List Rat)}:∀ {X:List (Nat×Blk)},(∀ p∈X,p.1∉qI 1001 (ck 1000) y)->StS 1001 (ck 1000) n m bs A y (hv (X++stL 1001 (ck 1000) n m bs A y)) (zv [])
 |[],_=>fun p hp=>⟨CC (H:=stL 1001 (ck 1000) n m bs A y) (by rw[Rt];exact uWP) hp,rfl⟩
 |(r,b)::l,hX=>StS.hs (Rv (X:=l) fun p hp=>hX p (xN _ hp)) (hX (r,b) (tT ..))
open Go Go.RowKit Go.Lib
variable {c:Array Value}
def zLU{P:Program}(w:World)(tS tR e:TypeId)(ht:P.underlying tS=some (.slice e))(size:Nat)(hz:∀ w,(Go.sizeOf e).run P w=.ok size w)
 (a b:Addr) (la ca lb cb:Nat) (hne:a.block≠b.block) (tA tB:TypeId) (kA kB:Nat)
 (hsa:w.shape? a.block=some (tA,kA)) (hsb:w.shape? b.block=some (tB,kB)) (hkA:kA≠0) (hkB:kB≠0)
 (hfb:w.frozen? b=false) (hfe:w.frozen? { block:=b.block,off:=kB }=false) :
 (Extern.SlicesOverlaps.overlaps #[tS,tS] #[tR] #[.slice (some a) la ca,.slice (some b) lb cb]).run P w=.ok (.bool false) w:=by
 have hnb:(a.block != b.block)=true:=by simpa using hne
 have hnb':(a.block == b.block)=false:=by simpa using hne
 change Sem.run P (α:=Value) (do
  let some t := (#[tS, tS] : Array TypeId)[0]? | stuck ""
  let .slice elem <- underlying t|stuck _
  let size <- sizeOf elem
  match (some a:Option Addr),(some b:Option Addr) with
  | some a,some b =>
    if la=0\/lb=0\/size=0 then pure (Value.bool false)
    else if a.block != b.block&&(<- frozen a)&&(<- frozen b) then unsupported .addressObserved
    else do
     if a.block != b.block then do
      noView a;noView b
      if <- mayBeOne a b then return Value.bool ((<- choose _) == 1)
     pure (Value.bool (a.block == b.block&&a.off<b.off+lb*size&&b.off<a.off+la*size))
  |_,_=>pure (Value.bool false)) w=_
 by_cases h0:la=0\/lb=0\/size=0
 .simp[run_underlying ht,hz,h0]
 .cases kB with
  |zero=>exact absurd rfl hkB
  | succ kB =>
   cases kA with
   |zero=>exact absurd rfl hkA
   | succ kA =>
    cases hfa:w.frozen? a<;>cases hfa2:w.frozen? { block:=a.block,off:=kA+1 } <;>
     simp[run_underlying ht,hz,h0,hnb,hnb',frozen,noView,viewAt,mayBeOne,stringish,shape,Sem.run,hsa,hsb,hfb,hfe,hfa,hfa2]
section
variable {E:Env} {G:Gl} {w:World} {A:Nat->Prop} {κ:Ka} {h:Hp} {z:Fz}
def rI(c:Array Value)(vs:List Value)(o:Nat):Array Value:=(c.toList.take o++vs++c.toList.drop (o+vs.length)).toArray
def bM  {vs:List Value}{o:Nat}(h:o+vs.length<=c.size):(rI c vs o).size=c.size:=by unfold rI;simp;omega
def Lay(w:World)(A:Nat->Prop)(κ:Ka)(l:List Rat)(c:Array Value):Prop:=∀ k e,(yS l)[k]?=some e->lies w A κ c (k*3) e
def Lay.mono{w':World}{A':Nat->Prop}{κ':Ka}(hA:∀ b,A b->A' b)(hc:∀ b o,A b->w'.cell? ⟨b,o,none⟩=w.cell? ⟨b,o,none⟩)(hk:∀ r x,κ r=some x->κ' r=some x){l:List Rat}  (H:Lay w A κ l c):Lay w' A' κ' l c:=fun k e he=>(H k e he).mono hA hc hk
def Lay.of{l l':List Rat}{c':Array Value}(H:Lay w A κ l c)(hh:∀ k q,l'[k]?=some q->∃ k0,l[k0]?=some q/\∀ j,j<3->c'[k*3+j]?=c[k0*3+j]?):Lay w A κ l' c':=by
 intro k e he j d hd;rw[uF,pI]at he;obtain⟨q,hq,rfl⟩:=he;obtain⟨k0,h0,hc⟩:=hh k q hq;obtain⟨v,h1,h2,h3⟩:=H k0 (yF q) (by rw[uF,h0];rfl) j d hd;have hj:j<3:=(xW.1 hd).1;exact⟨v,by rw[hc j hj];exact h1,h2,h3⟩
def HR.setc(P:Program)(H:HR E G w A κ h z){r m cap:Nat}{b:Blk}{els:List PV}  {ty:TypeId}(hr:h r=some b)(hk:κ r=some (m,b.sz,cap))(hcap:cap≠0)(hz:z r=false)
 (hm:w.heap[m]?=some (.cells c ty (0,0))) (hone:∀ u∈c.toList,u.oneCell'=true) (news:List Value) (o:Nat) (hrange:o+news.length<=c.size) (h1:∀ v∈news,v.oneCell'=true) (hl:els.length<=cap)
 (hu:∀ e∈els,e.cells.length=b.sz/\e.isAgg=b.agg) (hlies:∀ k e,els[k]?=some e->lies w A κ (rI c news o) (k*b.sz) e) :
 HR E G (w.setCells m o news) A κ (hset h r (some { b with els:=els })) z/\(w.setCells m o news).heap[m]?=some (.cells (rI c news o) ty (0,0))/\(∀ u∈(rI c news o).toList,u.oneCell'=true) /\
  ∀ b o',A b->(w.setCells m o news).cell? ⟨b,o',none⟩=w.cell? ⟨b,o',none⟩:=by
 have e1:wL κ r (m,b.sz,cap)=κ:=by
  funext j
  by_cases e:j=r
  .subst e;rw[vG,hk]
  .rw[wH κ _ e]
 have e2:∀ b',hset (hset h r none) r (some b')=hset h r (some b'):=fun b'=>by
  funext j
  by_cases e:j=r<;>simp[hset,e]
 have hone':∀ u∈(rI c news o).toList,u.oneCell'=true:=fun u hu=>by
  unfold rI at hu;simp only[y8]at hu;rcases hu with(hu|hu)|hu
  .exact hone u (pK hu)
  .exact h1 u hu
  .exact hone u (gQ hu)
 have HW:=H.write (key:=r) (els:=els) (c':=rI c news o) hr hk hcap hz rfl hm (zF rfl) (bM hrange) hl hu hone' hlies;rw[e1,e2,show w.setRow m (rI c news o)=w.setCells m o news from(Jo P hm hrange h1).symm]at HW;refine⟨HW,?_,hone',fun b o' hA=>?_⟩
 .rw[Jo P hm hrange h1];exact setRow_heap w m c _ ty (0,0) hm
 .rw[Jo P hm hrange h1];exact Jm H hr hk hcap hz _ b o' hA
end
open Go Go.RowKit Go.Lib
variable {cap:Nat}{c:Array Value}{cs vs:List Value}
section
variable {E:Env} {G:Gl} {w:World} {A:Nat->Prop} {κ:Ka} {l:List Rat} {i:Nat} {q:Rat}
def uYR{b b':Blk}:hset (wE (some b)).h 0 (some b')=(wE (some b')).h:=by
 funext j
 by_cases e:j=0<;>simp[hset,wE,e]
def HR.setc1(P:Program){b:Blk}(els:List PV)(H:HR E G w A κ (wE (some b)).h (wE (some b)).z){m:Nat}  {ty:TypeId}(hk:κ 0=some (m,b.sz,cap))(hcap:cap≠0)
 (hm:w.heap[m]?=some (.cells c ty (0,0))) (hone:∀ u∈c.toList,u.oneCell'=true) (news:List Value) (o:Nat) (hrange:o+news.length<=c.size) (h1:∀ v∈news,v.oneCell'=true) (hl:els.length<=cap)
 (hu:∀ e∈els,e.cells.length=b.sz/\e.isAgg=b.agg) (hlies:∀ k e,els[k]?=some e->lies w A κ (rI c news o) (k*b.sz) e) :
 HR E G (w.setCells m o news) A κ (wE (some { b with els:=els })).h (wE (some { b with els:=els })).z/\(w.setCells m o news).heap[m]?=some (.cells (rI c news o) ty (0,0))/\(∀ u∈(rI c news o).toList,u.oneCell'=true) /\
  ∀ b o',A b->(w.setCells m o news).cell? ⟨b,o',none⟩=w.cell? ⟨b,o',none⟩:=by
 have:=H.setc (r:=0) (els:=els) P (by simp[wE,hset]) hk hcap rfl hm hone news o hrange h1 hl hu hlies;rw[uYR]at this;exact this
def Dn{l:List Rat}:∀ e∈yS l,e.cells.length=3/\e.isAgg=true:=fun e he=>by
 obtain⟨q,_,rfl⟩:=zW.1 he;exact⟨rfl,rfl⟩
def Rw{l:List Nat}:∀ e∈yV l,e.cells.length=1/\e.isAgg=false:=fun e he=>by
 obtain⟨q,_,rfl⟩:=zW.1 he;exact⟨rfl,rfl⟩
def Fh{b:Blk}(H:HR E G w A κ (wE (some b)).h (wE (some b)).z){m sz:Nat}(hk:κ 0=some (m,sz,cap))(hb:b.sz≠0:=by intro h;cases h):sz=b.sz/\b.els.length<=cap/\(cap=0\/∃ c ty,w.heap[m]?=some (.cells c ty (0,0))/\c.size=cap*b.sz/\(∀ u∈c.toList,u.oneCell'=true)/\(∀ k e,b.els[k]?=some e->lies w A κ c (k*b.sz) e)/\¬ A m):=by
 obtain⟨m',cap',hk',g2,g3,g4⟩:=H.blk 0 b (by simp[wE,hset]) (by rw[hk];simp);rw[hk]at hk';cases hk';refine⟨rfl,g2,(Decidable.em (cap=0)).imp id fun hc=>?_⟩;obtain⟨c,ty,p1,p2,p3,p4,p5,p6,p7⟩:=dP g4 hc fun _=>hb
 exact⟨c,ty,p2,p3,p4,p5,p6 rfl⟩
def uOH   (H:Lay w A κ l c)(hi:i<l.length)(hcs:cs=(c.toList.take (l.length*3)).drop ((i+1)*3))(hc:l.length*3<=c.size):Lay w A κ (l.eraseIdx i) (rI c cs (i*3)):=by
 have hlen:cs.length=(l.length-(i+1))*3:=by rw[hcs];simp;omega
 refine H.of fun k q hq=>?_
 rw[UB]at hq;have get:∀ p,(rI c cs (i*3))[p]?=if i*3<=p/\p<i*3+cs.length then cs[p-i*3]? else c[p]?:=fun p=>aC c cs (i*3) zom p
 split at hq
 .refine⟨k,hq,fun j hj=>?_⟩
  rw[get,zB zom]
 .have hk:=(xW.1 hq).1
  refine⟨k+1,hq,fun j hj=>?_⟩;rw[get,zE zom,hcs,pM,oP zom];rw[CU]
  congr 1;omega
def uFN   {o:Nat}(H:Lay w A κ l c)(ho:l.length*3<=o)(hr:o+vs.length<=c.size):Lay w A κ l (rI c vs o):=H.of fun k q hq=>by
 have hk:=(xW.1 hq).1;refine⟨k,hq,fun j hj=>?_⟩;have:=aC c vs o hr (k*3+j);rw[zB zom]at this;exact this
def uTK   (H:Lay w A κ l c)(hi:i<l.length)(hcs:cs=(c.toList.take (l.length*3)).drop (i*3))(hc:(l.length+1)*3<=c.size):Lay w A κ (l.take (i+1)++l.drop i) (rI c cs ((i+1)*3)):=by
 have hlen:cs.length=(l.length-i)*3:=by rw[hcs];simp;omega
 refine H.of fun k q hq=>?_
 have get:∀ p,(rI c cs ((i+1)*3))[p]?=if (i+1)*3<=p/\p<(i+1)*3+cs.length then cs[p-(i+1)*3]? else c[p]?:=fun p=>aC c cs _ zom p
 rw[NA,wG]at hq
 split at hq
 .rw[ED]at hq
  split at hq
  .refine⟨k,hq,fun j hj=>?_⟩
   rw[get,zB zom]
  .cases hq
 .rw[pM]at hq
  have hk:=(xW.1 hq).1;refine⟨_,hq,fun j hj=>?_⟩;rw[get,zE zom,hcs,pM,oP zom];rw[CU]
  congr 1;omega
def vYX   {l':List Rat}(H:Lay w A κ l c)(hv:vs.length=3)(hq:∀ (j:Nat) d,(yF q).cells[j]?=some d->∃ v,vs[j]?=some v/\RV w A κ d v/\v.oneCell'=true)(hc:i*3+3<=c.size)
 (hl:∀ (k:Nat) x,l'[k]?=some x->(k=i/\x=q)\/(k≠i/\l[k]?=some x)):Lay w A κ l' (rI c vs (i*3)):=by
 intro k e he j d hd;rw[uF,pI]at he;obtain⟨x,hx,rfl⟩:=he;have hj:j<3:=(xW.1 hd).1;have get:∀ p,(rI c vs (i*3))[p]?=if i*3<=p/\p<i*3+vs.length then vs[p-i*3]? else c[p]?:=fun p=>aC c vs (i*3) zom p
 rcases hl k x hx with⟨rfl,rfl⟩|⟨hne,hx⟩
 .obtain⟨v,h1,h2,h3⟩:=hq j d hd
  exact⟨v,by rw[get,zE zom,show k*3+j-k*3=j by omega];exact h1,h2,h3⟩
 .obtain⟨v,h1,h2,h3⟩:=H k (yF x) (by rw[uF,hx];rfl) j d hd
  exact⟨v,by rw[get,zB zom];exact h1,h2,h3⟩
def uOG{c0:Array Value}  {o:Nat}{l0 l':List Rat}(H:Lay w A κ l c)(H0:Lay w A κ l0 c0)(hr:o+vs.length<=c.size)
 (hh:∀ k x,l'[k]?=some x->(l[k]?=some x/\k*3+3<=o)\/∃ k0,l0[k0]?=some x/\∀ j,j<3->o<=k*3+j/\k*3+j<o+vs.length/\vs[k*3+j-o]?=c0[k0*3+j]?):Lay w A κ l' (rI c vs o):=by
 intro k e he j d hd;rw[uF,pI]at he;obtain⟨x,hx,rfl⟩:=he;have hj:j<3:=(xW.1 hd).1;have get:∀ p,(rI c vs o)[p]?=if o<=p/\p<o+vs.length then vs[p-o]? else c[p]?:=fun p=>aC c vs o hr p
 rcases hh k x hx with⟨h1,h2⟩|⟨k0,h1,h2⟩
 .obtain⟨v,g1,g2,g3⟩:=H k (yF x) (by rw[uF,h1];rfl) j d hd
  exact⟨v,by rw[get,zB zom];exact g1,g2,g3⟩
 .obtain⟨v,g1,g2,g3⟩:=H0 k0 (yF x) (by rw[uF,h1];rfl) j d hd
  obtain⟨a1,a2,a3⟩:=h2 j hj;exact⟨v,by rw[get,zE ⟨a1,a2⟩,a3];exact g1,g2,g3⟩
def uFO{l:List Nat}{i:Nat}   (H:∀ k e,(yV l)[k]?=some e->lies w A κ c (k*1) e)(hi:i<l.length)(hcs:cs=(c.toList.take l.length).drop (i+1))(hc:l.length<=c.size):∀ k e,(yV (l.eraseIdx i))[k]?=some e->lies w A κ (rI c cs i) (k*1) e:=by
 have hlen:cs.length=l.length-(i+1):=by rw[hcs];simp;omega
 have get:∀ p,(rI c cs i)[p]?=if i<=p/\p<i+cs.length then cs[p-i]? else c[p]?:=fun p=>aC c cs i zom p
 intro k e he j d hd;rw[uF,pI]at he;obtain⟨x,hx,rfl⟩:=he;have hj:j<1:=(xW.1 hd).1;rw[UB]at hx
 split at hx
 .obtain⟨v,h1,h2,h3⟩:=H k (.int .i64 x) (by rw[uF,hx];rfl) j d hd
  exact⟨v,by rw[get,zB zom];exact h1,h2,h3⟩
 .have hk:=(xW.1 hx).1
  obtain⟨v,h1,h2,h3⟩:=H (k+1) (.int .i64 x) (by rw[uF,hx];rfl) j d hd;refine⟨v,?_,h2,h3⟩;rw[get,zE zom,hcs,pM,oP zom,CU,<- h1]
  congr 1;omega
def vYY{l:List Nat}   {o:Nat}(H:∀ k e,(yV l)[k]?=some e->lies w A κ c (k*1) e)(ho:l.length<=o)(hr:o+vs.length<=c.size):∀ k e,(yV l)[k]?=some e->lies w A κ (rI c vs o) (k*1) e:=by
 intro k e he j d hd;have hk:k<l.length:=by have:=(xW.1 he).1;simpa using this
 obtain⟨v,h1,h2,h3⟩:=H k e he j d hd
 have hj:j<1:=by
  have:=(xW.1 hd).1;rw[(Rw e (wO he)).1]at this;exact this
 have:=aC c vs o hr (k*1+j);rw[zB zom]at this;exact⟨v,by rw[<- h1];exact this,h2,h3⟩
end
variable {j:Nat}
def jK(p:List Int)(m:Nat):List DecL:=(List.range m).map fun j=>⟨p[j]!,(j:Nat),⟨false,[],[]⟩⟩
def uL(q:QryL)(p:List Int):ScpL:=⟨q,jK p q.g.units.length,[]⟩
section
variable {q:QryL} {p:List Int} {n:Nat}
def vO3{m:Nat}(h:j<m):(jK p m)[j]! = ⟨p[j]!,(j:Nat),⟨false,[],[]⟩⟩:=by unfold jK;rw[uR h]
def Fj{m:Nat}:(jK p m).length=m:=by simp[jK]
def Fp{k:Int}  (hk:k=1\/k=2)(hj:j<q.g.units.length):rG (uL q p) k j=decide (p[j]! = k):=by
 rw[mW,tC];unfold rG uL;dsimp only;rw[EF];constructor
 .rintro⟨d,hd,h⟩
  obtain⟨i,hi,rfl⟩:=zW.1 hd;unfold Dh at h;simp only[xO,tC]at h;obtain⟨⟨h1,h2⟩,_⟩:=h;have:i=j:=zom
  subst this;exact h1
 .intro h
  refine⟨⟨p[j]!,(j:Nat),⟨false,[],[]⟩⟩,zW.2 ⟨j,yN.2 hj,rfl⟩,?_⟩;unfold Dh;simp only[xO,tC];refine⟨⟨h,zA⟩,dB_true.2 ?_⟩;unfold Bm;refine zF ⟨by show p[j]! = 1\/p[j]! = 2;rw[h];exact hk,by show(0:Int)<=(j:Nat);omega,by show((j:Nat):Int)<_;omega,?_⟩;unfold Km;exact⟨rfl,rfl,rfl⟩
def vPC(hp:∀ j,j<q.g.units.length->p[j]! = 1\/p[j]! = 2):La (uL q p):=fun j hj=>by
 have hj:j<q.g.units.length:=hj;have h:=hp j hj;rw[Fp (zF rfl) hj,Fp (zC rfl) hj];rcases h with h|h<;>rw[h]<;>decide
def Fq{k:Int}(h5:5<=k)(h10:k<=10)  (hj:j<q.g.units.length)(h7:k=7\/k=8->p[j]! = 1)(h9:k=9\/k=10->p[j]! = 2):LZ (uL q p) ⟨k,j,0,0⟩:=by
 refine zC ⟨rfl,rfl,h5,h10,?_,?_,fun e=>?_,fun e=>?_⟩
 .show(0:Int)<=(j:Nat);omega
 .show((j:Nat):Int)<(q.g.units.length:Nat);omega
 .show rG (uL q p) 1 (j:Nat)=true
  rw[Fp (zF rfl) hj];exact sJ (h7 e)
 .show rG (uL q p) 2 (j:Nat)=true
  rw[Fp (zC rfl) hj];exact sJ (h9 e)
def uVO(h:smQ q 199)(hp:∀ j,j<q.g.units.length->p[j]! = 1\/p[j]! = 2):∀ r∈kE (uL q p),LZ (uL q p) r:=fun r hr=>by
 obtain⟨n,hn,n1,n2,n3,n4⟩:=h.n;unfold kE at hr;rcases y8.1 hr with hr|hr
 .obtain⟨i,hi,hr⟩:=Ce.1 hr
  have hi:=yN.1 hi;have e:(uL q p).q.g.ins=n:=hn;have:i<n:=zom
  unfold loS at hr;rcases yI.1 hr with rfl|hr
  .exact zF ⟨rfl,rfl,by show(0:Int)<=(i:Nat);omega,zF ⟨rfl,by show((i:Nat):Int)<(q.r.lo.length:Nat);omega⟩⟩
  .rw[yG.1 hr]
   exact zF ⟨rfl,rfl,by show(0:Int)<=(i:Nat);omega,zC (zF ⟨rfl,by show((i:Nat):Int)<(q.r.hi.length:Nat);omega⟩)⟩
 .rcases y8.1 hr with hr|hr
  .obtain⟨i,hi,rfl⟩:=zW.1 hr
   have hi:=yN.1 hi;exact zF ⟨rfl,rfl,by show(0:Int)<=(i:Nat);omega,zC (zC ⟨rfl,by show((i:Nat):Int)<_;omega⟩)⟩
  .obtain⟨j,hj,hr⟩:=Ce.1 hr
   have hj:j<q.g.units.length:=yN.1 hj;unfold unS at hr;rw[Fp (zF rfl) hj]at hr
   split at hr
   .rename_i e
    have e:=mS e;rcases yI.1 hr with rfl|hr
    .exact Fq zdd zdd hj (fun _=>e) (fun h=>by omega)
    .rcases yI.1 hr with rfl|hr
     .exact Fq zdd zdd hj (fun _=>e) (fun h=>by omega)
     .rw[yG.1 hr]
      exact Fq zdd zdd hj (fun _=>e) (fun h=>by omega)
   .rename_i e
    have e2:p[j]! = 2:=(hp j hj).resolve_left fun e1=>e (sJ e1)
    rcases yI.1 hr with rfl|hr
    .exact Fq zdd zdd hj (fun h=>by omega) (fun _=>e2)
    .rcases yI.1 hr with rfl|hr
     .exact Fq zdd zdd hj (fun h=>by omega) (fun _=>e2)
     .rw[yG.1 hr]
      exact Fq zdd zdd hj (fun h=>by omega) (fun _=>e2)
def vZY{α β:Type}{l:List α}{f g:α->List β}(h:∀ x∈l,f x=g x):l.flatMap f=l.flatMap g:=by
 induction l with
 |nil=>rfl
 |cons x l ih=>rw[EE,EE,h x zsm,ih fun y hy=>h y (xN _ hy)]
def uVN(h:smQ q 199)(hn:q.g.ins=(n:Int))(hp:∀ j,j<q.g.units.length->p[j]! = 1\/p[j]! = 2):(kE (uL q p)).map (fmS (uL q p))=lpQ q n p:=by
 obtain⟨n1,n2,n3,n4⟩:=h.nn hn;unfold kE lpQ rF;rw[wB,wB,List.map_flatMap,List.map_flatMap,tV,oW];have e0:(uL q p).q.g.ins.toNat=n:=by show q.g.ins.toNat=n;omega
 rw[e0,n3]
 congr 1
 congr 1
 .apply vE (by simp[uL])
  intro i h1 h2;simp only[vS,oQ];have hi:i<q.r.rows.length:=by simpa using h2
  show fmS (uL q p) (poS i)=_
  unfold fmS inF poS;simp only[Int.reduceLE,Int.reduceEq,uA,tE];show(q.r.rows[((i:Nat):Int).toNat]!).Q=_
  rw[Int.toNat_natCast,zS _ i hi]
 .refine vZY fun j hj=>?_
  have hj:j<q.g.units.length:=yN.1 hj;have ev:(uL q p).q.g.ins+((j:Nat):Int)=((n+j:Nat):Int):=by show q.g.ins+_=_;omega
  have eu:(uL q p).q.g.units[((j:Nat):Int).toNat]!.Q=(usQ q)[j]! := by rw[Int.toNat_natCast,Pj hj];rfl
  have hs:Srt (usQ q)[j]!.ts:=by rw[Pj hj];exact(p8 (h.va.1.2.2.2.1 _ hj)).1
  unfold unS gK;rw[Fp (zF rfl) hj];rcases hp j hj with e|e
  .rw[e,zE zdd,zB zdd]
   simp only[uW,kO];unfold fmS uFm;simp only[ev,eu];simp only[Int.reduceLE,Int.reduceEq,uA,tE,Y5 hs];rfl
  .rw[e,zB zdd,zE zdd]
   simp only[uW,kO];unfold fmS uFm;simp only[ev,eu];simp only[Int.reduceLE,Int.reduceEq,uA,tE];rfl
end
end Go.PI
namespace Go.PI.SX
open Go.PI
def vON{n:Nat}{ln:Tab->List Rat}{obj:(Nat->Rat)->Rat}{I:Tab->Prop}(hI:∀ T,I T->Wf T/\Lin obj T (ln T))(hs:∀ T e r,I T->Ent (frB n) T (ln T) e->Lev (frB n) T e r->I (zY T r e))
 {B M:Nat} {T:Tab} (h:I T) (F:Fea (frB n) T) (hV:∀ v,(v∈T.bs\/v∈T.ns)->v<n+M) (hB:chF M (tL ((List.range M).map (n+·)) T).length<=B) :
 ∃ J:Tab->Prop,J T/\(∀ U,J U->I U/\Fea (frB n) U/\U.vars=T.vars/\U.pv<T.pv+B) /\
   ∀ U e r,J U->wX n U.ns (ln U) U.ns.length=some e->vV n U e U.bs.length=some r->J (zY U r e):=by
 refine⟨fun U=>∃ k f lq eq rq,Run (frB n) obj f lq eq rq k/\f 0=T/\f k=U/\I U/\U.vars=T.vars/\U.pv=T.pv+k,⟨0,fun _=>T,fun _=>[],fun _=>0,fun _=>0,⟨(hI T h).1,F,fun i hi=>by omega⟩,rfl,rfl,h,rfl,rfl⟩,?_,?_⟩
 .rintro U ⟨k,f,lq,eq,rq,R,h0,h1,h2,h3,h4⟩
  have nd:((List.range M).map (n+·)).Nodup:=eF fun i j hij _=>by omega
  have:=R.few nd (fun v hv hm=>by
   rw[h0]at hm;have h7:=hV v hm;have h8:=frF.1 hv
   exact zW.2 ⟨v-n,yN.2 zom,zom⟩) (fun v hv=>by
   obtain⟨x,_,rfl⟩:=zW.1 hv
   exact frF.2 zom)
  simp only[z6,Ca]at this;rw[h0]at this;refine⟨h2,?_,h3,zom⟩;rw[<- h1];exact(R.w (zX k)).2.1
 .rintro U e r ⟨k,f,lq,eq,rq,R,h0,h1,h2,h3,h4⟩ he hl
  have E:=LQ he;have L:=Yd hl;have S:Stp (frB n) obj U (zY U r e) (ln U) e r:=⟨(hI U h2).2,E,L,rfl⟩;refine⟨k+1,fun i=>if i<=k then f i else zY U r e,fun i=>if i<k then lq i else ln U,fun i=>if i<k then eq i else e,fun i=>if i<k then rq i else r,⟨?_,?_,?_⟩,?_,?_,hs U e r h2 E L,h3,?_⟩
  .rw[zE (z8 _)];exact R.wf
  .rw[zE (z8 _)];exact R.fea
  .intro i hi
   by_cases hik:i<k
   .rw[zE zom,zE zom,zE hik,zE hik,zE hik];exact R.stp i hik
   .have:i=k:=zom
    subst this;rw[zE (zX _),zB zom,zB hik,zB hik,zB hik,h1];exact S
  .exact(zE (z8 k)).trans h0
  .exact zB zom
  .show U.pv+1=_;omega
def Rx{n:Nat}{ln:Tab->List Rat}{J:Tab->Prop}(hs:∀ U e r,J U->wX n U.ns (ln U) U.ns.length=some e->vV n U e U.bs.length=some r->J (zY U r e)):∀ (K:Nat) (T:Tab),J T->J (xL n ln K T).1
 |0,T,h=>h
 | K + 1,T,h=>by
   unfold xL;cases he:wX n T.ns (ln T) T.ns.length with
   |none=>exact h
   | some e =>
     dsimp only;cases hl:vV n T e T.bs.length with
     |none=>exact h
     |some r=>exact Rx hs K _ (hs T e r h he hl)
def Ry{n:Nat}{ln:Tab->List Rat}:∀ (K:Nat) (T:Tab),(xL n ln K T).1.vars=T.vars
 |0,T=>rfl
 | K + 1,T=>by
   unfold xL
   split
   .rfl
   .split
    .rfl
    .exact Ry K _
def lv0(i:Nat):sz (lvB i) 0:=lv_ok.z i
def lv1(i:Nat):sz (lvB i) 1:=lv_ok.o i
def lv7:lvB 7=6739285:=by decide
def uR5{obj:(Nat->Rat)->Rat}{T0 T:Tab}(S:Same obj T0 T)(h0:bH (sz 411) T0)(hm:T.bs.length<=17)(hn:T.ns.length<=7)(hv:∀ v,v∈T.bs\/v∈T.ns->v<1000)(hx:T.vars<1000)(hp:T.pv<1000000):Sm (lvB 7) T :=
 ⟨S.w,zom,zom,fun v h=>by have:=hv v (zF h);omega,fun v h=>by have:=hv v (zC h);omega,zom,hp,
   Same.size (P:=fun i x=>sz (lvB i) x) 7 lv_ok S (wS (GG _ _) hn) h0,by rw[lv7];decide,by rw[lv7];decide⟩
section
variable {n:Nat} {A:List (List Rat)} {c:List Rat}
def uC6(h:∀ i,i<A.length->∀ j,j<n+1->sz 411 A[i]![j]!)(hc:∀ j,j<n+1->sz 411 c[j]!):bH (sz 411) (set0 n A c) :=
 ⟨fun i hi j hj=>h i (by simpa [set0]using hi) j (by simpa [set0]using hj),fun j hj=>hc j (by simpa [set0]using hj)⟩
def uJM{l:List Rat}{x:Rat}(hl:l.length=n+1)(h:∀ j,j<n+1->sz 411 l[j]!)(hx:sz 411 x){j:Nat}(hj:j<n+2):sz 411 (vO l n x)[j]! := by
 rw[Qp hl hj]
 split
 .exact h j zom
 .split
  .exact hx
  .exact h n zom
def uQ3(hO:Okp n A c)(h:∀ i,i<A.length->∀ j,j<n+1->sz 411 A[i]![j]!)(hc:∀ j,j<n+1->sz 411 c[j]!){B:List Nat}:bH (sz 411) (ax0 n A c B):=by
 refine⟨fun i hi j hj=>?_,fun j hj=>uJM hO.c hc (lv0 0) (by simpa [ax0]using hj)⟩;have hi:i<A.length:=by simpa [ax0]using hi
 have hj:j<n+2:=by simpa [ax0]using hj
 show sz 411 ((List.range A.length).map _)[i]![j]!
 rw[uR hi];refine uJM (hO.a i hi) (h i hi) ?_ hj
 split
 .exact lv1 0
 .exact lv0 0
structure SmallP(n:Nat)(A:List (List Rat))(c:List Rat):Prop where
 o:Okp n A c
 n6:n<=6
 m17:A.length<=17
 a:∀ i,i<A.length->∀ j,j<n+1->sz 411 A[i]![j]!
 c:∀ j,j<n+1->sz 411 c[j]!
 few:∀ M k,M<=A.length+1->k<=n+1->chF M k<=31824
variable {T U:Tab} {B:List Nat}
def Rz(H:SmallP n A c)(S:Same (obF n c) (set0 n A c) T)(hx:T.vars=n)(hp:T.pv<1000000):Sm (lvB 7) T:=by
 obtain⟨h1,h2⟩:=LR S;have:=H.n6;have:=H.m17;exact uR5 S (uC6 H.a H.c) zom zom (fun v hv=>by have:=Ig S hv;omega) zom hp
def MC(H:SmallP n A c)(S:Same (obF n c) (ax0 n A c B) T)(hx:T.vars=n)(hp:T.pv<1000000):Sm (lvB 7) T:=by
 have h1:T.bs.length=A.length:=by rw[<- S.bl];simp[ax0]
 have h2:T.ns.length=n+1:=by rw[<- S.nl];simp[ax0]
 have:=H.n6;have:=H.m17;refine uR5 S (uQ3 H.o H.a H.c) zom zom (fun v hv=>?_) zom hp;rcases(S.all v).2 hv with h1|h1
 .obtain⟨x,hx,rfl⟩:=zW.1 h1
  have:=yN.1 hx;omega
 .rcases y8.1 h1 with h2|h2
  .have:=yN.1 h2;omega
  .have:=yG.1 h2;omega
def uN7(H:SmallP n A c)(I:I2 n A c T)(F:Fea (frB n) T)(hx:T.vars=n)(hp:T.pv<=31824+110):∃ J,MinH T (lvB 7) J:=by
 have hl:=(Dg I.1).1;have hk:(tL ((List.range A.length).map (n+·)) T).length<=n+1:=by have:=@key_le' n T A.length;omega
 obtain⟨J,j1,j2,j3⟩:=vON (n:=n) (ln:=(·.ob)) (obj:=obF n c) (I:=I2 n A c) (fun T h=>⟨h.1.1.w,h.1.1.l⟩) (fun T e r h E L=>Yt h E L) (M:=A.length) (B:=31824) I F (fun v hv=>Ig I.1.1 hv) (H.few _ _ zom hk);have jm:∀ K,J (xL n (·.ob) K T).1:=fun K=>Rx j3 K T j1
 refine⟨J,fun U hU=>?_,fun U e r hU he hl=>?_,j1,by rw[hx];exact jm _,zom,?_⟩
 .obtain⟨h1,_,h3,h4⟩:=j2 U hU
  exact Rz H h1.1.1 (h3.trans hx) zom
 .have:=(j2 U hU).2.2.1
  rw[this,hx]at he hl;exact j3 U e r hU he hl
 .have:=(j2 _ (jm (65537-T.pv))).2.2.2
  rw[hx];omega
def uRT{k x:Nat}(S:Sm k U)(hx:x∈U.bs\/x∈U.ns)(h0:sz k 0)(h1:sz k 1){j:Nat}(hj:j<U.ns.length):sz k (xD x U)[j]! := by
 unfold xD
 split
 .rename_i h
  exact S.e.1 _ (oI h).1 j zom
 .rw[sN yE]
  split
  .exact h1
  .rw[gp yE,nA];exact h0
def out_vars{x:Nat}:(uJ x U).vars=U.vars:=by unfold uJ;split<;>rfl
def uO8(H:SmallP n A c)(I:I0 n A c T)(hx:T.vars=n)(hp:T.pv<=n){w:Nat}(hw:u6 n T T.bs.length=some w):∃ P U J,FeaH T (lvB 7) w P U J:=by
 obtain⟨hl,hb⟩:=Dg I;have hn6:=H.n6;obtain⟨I1',F1⟩:=LU H.o I hw;have hp1:(zY (xB n T) w T.ns.length).pv=T.pv+1:=rfl;have hv1:(zY (xB n T) w T.ns.length).vars=n:=hx;have sA:Sm (lvB 7) (xB n T):=MC H (Ym H.o I.1) hx (show T.pv<_ by omega);generalize hT2:zY (xB n T) w T.ns.length=T2 at *
 have hk:(tL ((List.range (A.length+1)).map (n+·)) T2).length<=n+1:=by have:=(FK I1').1;have:=@key_le' n T2 (A.length+1);omega
 obtain⟨J,j1,j2,j3⟩:=vON (n:=n) (ln:=xD (n+A.length)) (I:=I1 n A c T.bs) (fun T h=>⟨h.1.w,Qy h⟩) (fun T e r h E L=>Yr h E L) (M:=A.length+1) (B:=31824) I1' F1 (fun v hv=>Qx I1' hv) (H.few _ _ zom hk);have jm:=Rx j3 (65537-T2.pv) T2 j1;obtain⟨u1,u2,u3,u4⟩:=j2 _ jm;refine⟨T2,_,J,by rw[hx,hT2],rfl,by rw[hx];exact sA,?_,?_,j1,?_,zom,?_,?_,?_,?_⟩
 .intro V hV
  obtain⟨h1,_,h3,h4⟩:=j2 V hV;have S:=MC H h1.1 (h3.trans hv1) zom;rw[hx,hb];exact⟨S,by rw[(FK h1).1,hl],Ii h1,fun j hj=>uRT S (Ii h1) (lv0 7) (lv1 7) hj⟩
 .intro V e r hV he hl
  rw[hx,hb]at he;have:=(j2 V hV).2.2.1;rw[this,hv1]at he hl;exact j3 V e r hV he hl
 all_goals rw[hx,hb]
 .exact jm
 .omega
 .exact(FK u1).2
 .exact u3.trans hv1
 .intro hv
  obtain⟨k1,k2,k3,k4,k5⟩:=Q3 H.o u1 u2 hv;exact⟨MC H k1.1 (out_vars.trans (u3.trans hv1)) zom,k3,k5⟩
def vUG{P:QP}{n:Nat}(hv:P.vars=n)(n0:0<n)(ok:∀ f∈P.rows,okF (n:Int) f/\szF 410 f)(ob:okF (n:Int) P.obj/\szF 410 P.obj)(n6:n<=6)(m17:P.rows.length<=17)(few:∀ M k,M<=P.rows.length+1->k<=n+1->chF M k<=31824):SolH P n (lvB 7):=by
 have hal:(A0 P n).length=P.rows.length:=z6 _;have hag:∀ i,i<P.rows.length->(A0 P n)[i]! = frX P.rows[i]! n:=fun i hi=>tH hi
 have ge:∀ i,i<P.rows.length->P.rows[i]! ∈ P.rows:=fun i hi=>x6 hi
 have H:SmallP n (A0 P n) (frX P.obj n):=⟨⟨fun i hi=>by rw[hag i zom,iA],iA _ _⟩,n6,zom,fun i hi j hj=>by
  have:=ok _ (ge i zom)
  rw[hag i zom];exact xV zdd (Z6 this.2 this.1.1 zdd hj),fun j hj=>xV zdd (Z6 ob.2 ob.1.1 zdd hj),fun M k h1 h2=>few M k zom h2⟩
 have hs:∀ j,j<=n->Same (obF n (frX P.obj n)) (T0 P n) (yT n (T0 P n) j)/\Zc n j (yT n (T0 P n) j)/\(yT n (T0 P n) j).pv<=j/\(yT n (T0 P n) j).vars=n:=fun j hj=>by
  obtain⟨h1,h2,_,_,h5⟩:=Yh (n:=n) (Qr H.o) j (by simpa [set0]using hj);exact⟨h1,h2,by simpa [set0]using h5,(Ff j).2.2⟩
 obtain⟨s1,s2,s3,s4⟩:=hs n (zX _);have I:I0 n (A0 P n) (frX P.obj n) (T1 P n):=⟨s1,s2⟩;obtain⟨hl,hb⟩:=Dg I;have k10:szF (lvB 7) P.obj:=rX (by rw[lv7];decide) ob.2
 have two:∀ T,I0 n (A0 P n) (frX P.obj n) T->Fea (frB n) T->T.vars=n->T.pv<=31824+110->Sm (lvB 7) T/\T.vars=n/\(iF n T=none->∃ J,MinH T (lvB 7) J):=fun T I F hx hp =>
  ⟨Rz H I.1 hx zom,hx,fun hf=>uN7 H ⟨I,fun j hj hnj=>by
    have:=CZ.1 hf j (yN.2 hj);apply kJ;intro hne
    exact this (andT.2 ⟨hnj,hne⟩)⟩ F hx hp⟩
 have hp9:(T1 P n).pv<=n:=s3;have fe:∀ w,u6 n (T1 P n) (T1 P n).bs.length=some w->∃ Q U J,FeaH (T1 P n) (lvB 7) w Q U J:=fun w hw=>uO8 H I s4 s3 hw
 refine⟨hv,n0,zom,zom,fun f hf=>⟨(ok f hf).1,rX (by rw[lv7];decide) (ok f hf).2⟩,⟨ob.1,k10⟩,by rw[lv7];decide,fun j hj=>Rz H (hs j hj).1 (hs j hj).2.2.2 (by have:=(hs j hj).2.2.1;omega),fe,?_,?_⟩
 all_goals
  unfold nR;cases hw:u6 n (T1 P n) (T1 P n).bs.length with
  |none=>?_
  |some w=>?_
 .intro y U h;cases h
 .intro y U h
  obtain⟨I1',F1⟩:=LU H.o I hw;obtain⟨g1,g2,g3,g4⟩:=Qz H.o I1' F1 (b:=31824) (fun k hk=>H.few _ k zom zom) (by show 31824<=65537-((T1 P n).pv+1);omega);have hv9:(sG n (xD (n+(A0 P n).length)) (zY (xB n (T1 P n)) w (T1 P n).ns.length)).1.vars=n:=(Ry _ _).trans s4;have hg:(zY (xB n (T1 P n)) w (T1 P n).ns.length).pv=(T1 P n).pv+1:=rfl;dsimp only at h;rw[hb]at h;generalize (sG n (xD (n+(A0 P n).length)) (zY (xB n (T1 P n)) w (T1 P n).ns.length)).1=V at *
  split at h
  .cases h
   exact⟨MC H g1.1 hv9 zom,by have:=(Qo hw).1;omega,by simp[tN,hb]⟩
  .cases h
 .intro T h
  cases h
  exact two _ I (fun i hi hf=>Ye hw hi (frF.1 hf)) s4 zom
 .intro T h
  obtain⟨I1',F1⟩:=LU H.o I hw;obtain⟨g1,g2,g3,g4⟩:=Qz H.o I1' F1 (b:=31824) (fun k hk=>H.few _ k zom zom) (by show 31824<=65537-((T1 P n).pv+1);omega);have hv9:(sG n (xD (n+(A0 P n).length)) (zY (xB n (T1 P n)) w (T1 P n).ns.length)).1.vars=n:=(Ry _ _).trans s4;have hg:(zY (xB n (T1 P n)) w (T1 P n).ns.length).pv=(T1 P n).pv+1:=rfl;dsimp only at h;rw[hb]at h;generalize (sG n (xD (n+(A0 P n).length)) (zY (xB n (T1 P n)) w (T1 P n).ns.length)).1=V at *
  split at h
  .cases h
  .rename_i hvi
   cases h
   obtain⟨k1,k2,k3,k4,_⟩:=Q3 H.o g1 g2 hvi;obtain⟨m1,m2⟩:=Yu H.o k1 k2 k3;exact two _ m1 m2 ((show _=(uJ (n+(A0 P n).length) V).vars from rfl).trans (out_vars.trans hv9)) (by show(uJ (n+(A0 P n).length) V).pv<=_;omega)
end
open Go.PI
section
variable {P:QP} {n k:Nat} {T U:Tab}
def sz0(hk:1<=k):sz k 0:=xV hk (pX (z:=0) zdd)
def uAJ{m:Nat}{ns:List Nat}{l:List Rat}(hk:1<=k)(h:∀ j,j<ns.length->sz k l[j]!):∀ c∈tN n m ns l,sz k c:=fun c hc=>by
 obtain⟨i,hi,rfl⟩:=zW.1 hc
 split
 .rename_i hm
  exact h _ (Tg hm)
 .exact sz0 hk
def uGK{m:Nat}{ns:List Nat}{l:List Rat}:(tN n m ns l).length=m:=by simp[tN]
def uSN(S:Sm k U):∀ c∈u7 n U,sz k c:=fun c hc=>by
 obtain⟨v,hv,rfl⟩:=zW.1 hc;by_cases h1:v∈U.ns
 .rw[bG S.w h1];exact sz0 S.k1
 .by_cases h2:v∈U.bs
  .obtain⟨i,hi,rfl⟩:=mem_ix h2
   rw[Ic S.w hi];exact S.e.1 i hi _ zom
  .unfold bpF ptF;rw[zB h1,zB h2];exact sz0 S.k1
def uMI:(u7 n U).length=n:=by simp[u7]
def ME(n m k:Nat):Out->Prop
 |.inf y _=>(∀ c∈y,sz k c)/\y.length=m
 |.unb _ _ _=>True
 |.opt v x y _ _=>sz k v/\(∀ c∈x,sz k c)/\(∀ c∈y,sz k c)/\x.length=n/\y.length=m
def uSU (H:SolH P n k):ME n P.rows.length k (solF n (A0 P n) (frX P.obj n)):=by
 have hv:(T1 P n).vars=n:=(Ff n).2.2
 have hb:(T1 P n).bs.length=P.rows.length:=by
  rw[show(T1 P n).bs.length=(T0 P n).bs.length from(Ff n).1];simp[set0]
 unfold solF;cases hf:nR n (yT n (set0 n (A0 P n) (frX P.obj n)) n) with
 | inl p =>
   obtain⟨y,V⟩:=p;obtain⟨h1,h2,h3⟩:=H.inf y V hf;dsimp only[ME];refine⟨?_,by rw[h3,hb]⟩;have hf':nR n (T1 P n)=.inl (y,V):=hf;unfold nR at hf';cases hw:u6 n (T1 P n) (T1 P n).bs.length with
   |none=>rw[hw]at hf';cases hf'
   | some w =>
     rw[hw]at hf';dsimp only at hf';obtain⟨Q,W,I,F⟩:=H.fea w hw
     have eU:(sG n (xD (n+(T1 P n).bs.length)) (zY (xB n (T1 P n)) w (T1 P n).ns.length)).1=W:=by
      rw[F.u,F.p,hv];rfl
     rw[eU]at hf'
     split at hf'
     .cases hf'
      obtain⟨g1,g2,g3,g4⟩:=F.i V F.iu;rw[hv]at g4;exact uAJ g1.k1 g4
     .cases hf'
 | inr T =>
   obtain⟨h1,h2,h3⟩:=H.opt T hf;dsimp only;cases hc:iF n T with
   |some e=>trivial
   | none =>
     obtain⟨I,M⟩:=h3 hc;have hU:=M.i _ M.iu;have eU:(sG n (·.ob) T).1=(xL T.vars (·.ob) (65537-T.pv) T).1:=by rw[h2];rfl
     rw[<- eU]at hU
     have hbT:T.bs.length=P.rows.length:=by
      rw[<- hb];unfold nR at hf;cases hw:u6 n (T1 P n) (T1 P n).bs.length with
      | none =>
        rw[show u6 n (yT n (set0 n (A0 P n) (frX P.obj n)) n) (yT n (set0 n (A0 P n) (frX P.obj n)) n).bs.length=none from hw]at hf;cases hf;rfl
      | some w =>
        rw[show u6 n (yT n (set0 n (A0 P n) (frX P.obj n)) n) (yT n (set0 n (A0 P n) (frX P.obj n)) n).bs.length=some w from hw]at hf;dsimp only at hf
        split at hf
        .cases hf
        .cases hf
         obtain⟨Q,W,I,F⟩:=H.fea w hw
         have eU:(sG n (xD (n+(T1 P n).bs.length)) (zY (xB n (T1 P n)) w (T1 P n).ns.length)).1=W:=by
          rw[F.u,F.p,hv];rfl
         have e1:(uJ (n+(T1 P n).bs.length) (sG n (xD (n+(T1 P n).bs.length)) (zY (xB n (T1 P n)) w (T1 P n).ns.length)).1).bs.length=(T1 P n).bs.length:=by
          rw[eU];unfold uJ
          split
          .show(zY W _ _).bs.length=_
           simp only[zY,Am];exact F.ub
          .exact F.ub
         exact e1
     cases hm:sG n (·.ob) T with
     | mk V o =>
       rw[hm]at hU;have hU:Sm k V:=hU;cases o with
       |some e=>trivial
       | none =>
         dsimp only[ME];exact⟨hU.e.2 V.ns.length (nC _),uSN hU,uAJ hU.k1 fun j hj=>hU.e.2 j (GK hj),uMI,by rw[uGK,hbT]⟩
end
end Go.PI.SX
namespace Go.PI
open SX
variable {k:Nat}{x y:List Rat}{pv:Nat}
section
variable {q:QryL} {n:Nat} {p:List Int}
noncomputable def uM(q:QryL)(n k:Nat):Out:=solF (n+(usQ q).length) (lpA q n (xJ (usQ q).length k)) (lpC q n)
def uX3(q:QryL)(n:Nat)(p:List Int):QP:=⟨((n+(usQ q).length:Nat):Int),lpQ q n p,q.goal.Q⟩
def uJ1(h:smQ q 199)(hn:q.g.ins=(n:Int))(hu:q.g.units.length<=3)(hr:q.r.rows.length<=2):SolH (uX3 q n p) (n+(usQ q).length) (lvB 7):=by
 obtain⟨n1,n2,n3,n4⟩:=h.nn hn;obtain⟨f1,f2,f3⟩:=Rq (p:=p) h hn (by rw[oW];exact hu) hr;rw[Fg]at f2 f3;exact vUG rfl zom (fun f hf=>Z4 h hn f hf) ⟨Rk h hn,rX zdd (jZ h.goal zdd)⟩ f1 f2 f3
def R3(h:smQ q 199)(hn:q.g.ins=(n:Int))(hu:q.g.units.length<=3)(hr:q.r.rows.length<=2):Bv (n+(usQ q).length) (lpA q n p) (lpC q n) (solF (n+(usQ q).length) (lpA q n p) (lpC q n)):=by
 obtain⟨f1,f2,f3⟩:=Rq (p:=p) h hn (by rw[oW];exact hu) hr;exact uR3 (uTH h hn) zom f3
def uUF(h:smQ q 199)(hn:q.g.ins=(n:Int))(hu:q.g.units.length<=3)(hr:q.r.rows.length<=2)(hd:(oH q n).1≠0)  (_:k<2^(usQ q).length):Rl q n (xJ (usQ q).length k) (uM q n k):=by
 have hst:∀ j,(pP q n j).1=0\/(pP q n j).1=1\/(pP q n j).1=2\/(pP q n j).1=3:=fun j=>YR _ _
 have hB:Best (pP q n) (2^(usQ q).length) (oH q n):=by
  unfold oH aZ at hd ⊢;cases hi:oG (pP q n) (2^(usQ q).length) with
  |none=>rw[hi]at hd;exact absurd rfl hd
  |some s=>exact Rn hst _ s hi
 have hm:=QS (usQ q).length [] (xJ (usQ q).length k) (Iy _ _) fun a ha=>by
  obtain⟨j,hj,rfl⟩:=mem_ix ha;exact Dm (by rw[Iy]at hj;exact hj)
 rw[List.nil_append]at hm;obtain⟨j,hj,e⟩:=mem_ix hm;rw[MB]at hj;have hpp:pP q n j=qB q n (xJ (usQ q).length k):=by unfold pP qB uZ;rw[e]
 exact Z1 h zdd hn (fun j hj=>Dm hj) (Rp h hn) (R3 h hn hu hr) (by rw[<- hpp];exact hB.1 j hj)
def uUG(h:smQ q 199)(hn:q.g.ins=(n:Int))(hu:q.g.units.length<=3)(hr:q.r.rows.length<=2)(hd:(oH q n).1≠0):(vP (uM q n) (2^(usQ q).length)).1=(oH q n).1/\((oH q n).1=1->(vP (uM q n) (2^(usQ q).length)).2=(oH q n).2):=by
 have:=uO4 h zdd hn hd (uM q n) (fun k=>lpA q n (xJ (usQ q).length k)) (fun _=>lpC q n) (fun k hk=>Rp h hn) (fun k hk=>R3 h hn hu hr);exact⟨this.1,this.2.1⟩
def MF(h:smQ q 199)(hn:q.g.ins=(n:Int))(hu:q.g.units.length<=3)(hr:q.r.rows.length<=2)  : ME (n+(usQ q).length) (lpQ q n (xJ (usQ q).length k)).length (lvB 7) (uM q n k):=by
 have:=uSU (uJ1 (p:=xJ (usQ q).length k) h hn hu hr);exact this
def vHZ{us:List QF}{x:List Rat}{w:Rat}:∀ (d j:Nat),j+d<=us.length->w∈vB us x j->w∈vB us x (j+d)
 |0,j,_,h=>h
 | d+1,j,hd,h=>by
   rw[show j+(d+1)=j+d+1 by omega,Hu zom];exact sV _ (vHZ d j zom h)
def uXG(h:smQ q 199)(hn:q.g.ins=(n:Int))(hu:q.g.units.length<=3)(hr:q.r.rows.length<=2)  {v:Rat}  {bs:List Nat}  (ho:uM q n k=.opt v x y bs pv) :
 ∀ j,j<q.g.units.length->(∀ w∈vB (usQ q) (x.take n) j,sz 50000000 w)/\sz 50000000 (uS (usQ q) (x.take n))[j]! := by
 have hz:=MF (k:=k) h hn hu hr;have hp:=R3 (p:=xJ (usQ q).length k) h hn hu hr;rw[show solF (n+(usQ q).length) (lpA q n (xJ (usQ q).length k)) (lpC q n)=uM q n k from rfl,ho]at hp;rw[ho]at hz;obtain⟨z1,z2,z3,z4,z5⟩:=hz;obtain⟨p1,p2,_⟩:=hp;have L:=Rp (p:=xJ (usQ q).length k) h hn
 obtain⟨i1,i2,i3⟩:=Q4 h hn (fun j hj=>Dm hj) p1 (fun f hf=>by
  obtain⟨i,hi,rfl⟩:=mem_ix hf;rw[<- L.row i (by rw[L.len];exact hi) x p1]
  exact p2 i (by rw[L.len];exact hi))
 have hus:=h.us hn
 have hva:∀ j,j<=(usQ q).length->∀ w∈vB (usQ q) (x.take n) j,sz (lvB 7) w:=fun j hj w hw=>by
  have:=vHZ ((usQ q).length-j) j zom hw;rw[show j+((usQ q).length-j)=(usQ q).length by omega]at this;exact z2 w (by rw[i3];exact this)
 intro j hj;rw[<- oW]at hj;refine⟨fun w hw=>xV (by rw[lv7];decide) (hva j zom w hw),?_⟩;rw[Hv hj];have hxl:(x.take n).length=n:=by rw[wG];omega
 have hl:(vB (usQ q) (x.take n) j).length=n+j:=by rw[PZ j zom,hxl]
 obtain⟨o1,o2⟩:=hus.2.2 j hj;have ok:=Pi (n:=((n+j:Nat):Int)) zom o2;have:=WJ o1 (hva j zom) (fun t ht=>by rw[hl];have:=ok.2 t ht;omega);have ht:(usQ q)[j]!.ts.length<=6:=aS 6 ok.1.1 fun t ht=>by have:=ok.2 t ht;have:=h.nn hn;rw[oW]at hj;omega
 have h6:(usQ q)[j]!.ts.length*(200+lvB 7+1)<=6*(200+lvB 7+1):=vK _ ht;rw[lv7]at h6;rw[lv7]at this;exact xV zom this
def uJZ(h:smQ q 199)(hn:q.g.ins=(n:Int))(hu:q.g.units.length<=3)(hr:q.r.rows.length<=2):∀ k,sz (lvB 7) (vP (uM q n) k).2
 |0=>sz0 (by rw[lv7];decide)
 | k + 1=>by
   have:=MF (k:=k) h hn hu hr;have ih:=uJZ h hn hu hr k;unfold vP;cases ho:uM q n k with
   |inf y pv=>exact ih
   |unb x d pv=>exact ih
   | opt v x y bs pv =>
     rw[ho]at this;dsimp only
     split
     .exact this.1
     .exact ih
def R4(x:List Rat)(n:Nat):((x.map cr).take n).map qv=x.take n:=by
 rw[<- Jc,qC];have:(qv∘cr)=id:=funext fun q=>yC q
 rw[this,List.map_id]
def uUH(h:smQ q 199)  (hi:inQ q (x.take n)):Hl q.r ((x.map cr).take n):=by
 obtain⟨h1,h2,h3⟩:=hi;have hv:=h.va.2.1;have hl:((x.map cr).take n).length=(x.take n).length:=by rw[wG,wG,z6]
 have hg:∀ i,i<(x.take n).length->qv ((x.map cr).take n)[i]! = (x.take n)[i]! := fun i hi=>by
  rw[zS _ i (by rw[hl];exact hi),zS _ i hi,GM,GM,vS,yC]
 refine⟨uQ9 hv,by have:=hv.2.1;omega,fun i hi=>?_,fun i hi=>by rw[R4];exact h3 i hi⟩;rw[hl]at hi;rw[hg i hi];exact h2 i hi
def uUE  (hp:∀ j,j<q.g.units.length->p[j]! = 1\/p[j]! = 2)(ha:AgN (usQ q) x p (usQ q).length):∀ d∈(uL q p).path,(d.kind=1\/d.kind=2)/\Bm q d/\0<=d.index/\d.index<q.g.units.length/\(d.kind=1->0<=(uS (usQ q) x)[d.index.toNat]!)/\(d.kind=2->(uS (usQ q) x)[d.index.toNat]! <= 0):=fun d hd=>by
 obtain⟨j,hj,rfl⟩:=zW.1 hd;have hj:j<q.g.units.length:=yN.1 hj;have h1:=ha j (by rw[oW];exact hj);have h2:=hp j hj;refine⟨h2,zF ⟨h2,by show(0:Int)<=(j:Nat);omega,by show((j:Nat):Int)<_;omega,⟨rfl,rfl,rfl⟩⟩,by show(0:Int)<=(j:Nat);omega,by show((j:Nat):Int)<_;omega,fun e=>?_,fun e=>?_⟩
 .have e:p[j]! = 1:=e
  rw[e]at h1;exact agree_on.1 h1
 .have e:p[j]! = 2:=e
  rw[e]at h1;exact agree_off.1 h1
def uO3{O:Nat->Out}    (h:O k=.inf y pv):vP O (k+1)=vP O k:=by
 conv=>lhs;unfold vP
 rw[h]
def uO2{O:Nat->Out}  {v:Rat}  {bs:List Nat}  (h:O k=.opt v x y bs pv):vP O (k+1)=if (vP O k).1=2\/v<(vP O k).2 then(1,v) else vP O k:=by
 conv=>lhs;unfold vP
 rw[h]
end
def vOJ{b:Int}(h:0<=b/\b<=63):vM .i64 b=2^b.toNat:=by
 rw[Ea];unfold fG;have:IntKind.bits .i64=64:=rfl;rw[this,show min b.toNat 64=b.toNat by omega]
section
variable {q:QryL} {kg n:Nat}
end
open Go
mutual
def kF{H:Type}:DataW H->Nat
 |.lit (.string bytes)=>bytes.length+1
 |.lit _=>1
 |.nil=>1
 |.ptr d=>kF d+1
 |.slice elems spare=>dC elems+dC spare+1
 |.agg parts=>dC parts+1
 |.iface _ d=>kF d+1
 |.map entries=>MG entries+1
 |.held _=>1
def dC{H:Type}:List (DataW H)->Nat
 |[]=>0
 |d::r=>kF d+dC r
def MG{H:Type}:List (Lit×DataW H)->Nat
 |[]=>0
 |x::r=>R5 x+MG r
def R5{H:Type}:Lit×DataW H->Nat
 |(.string bytes,d)=>bytes.length+kF d+1
 |(_,d)=>kF d+1
end
def RC(w:World)(A:Nat->Prop)(ds:List PV)(cs:List Value):Prop:=ds.length=cs.length/\∀ i d,ds[i]?=some d->RD w A d (cs.getD i undef)/\(cs.getD i undef).oneCell'=true
abbrev gM(w:World):Nat->Prop:=fun b=>b<w.heap.size
section
variable {H:Type} {enc:TypeId×Value->H} {P:Program} {w:World} {A:Nat->Prop}
def RC.one{d:PV}{v:Value}(h:RD w A d v)(h1:v.oneCell'=true):RC w A [d] [v]:=⟨rfl,fun i x hx=>by
 cases i with
 |zero=>simp at hx;subst hx;exact⟨h,h1⟩
 |succ i=>simp at hx⟩
def vRJ(b o n:Nat):(⟨b,o,none⟩:Addr).add n=⟨b,o+n,none⟩:=by
 unfold Addr.add
 split
 .rename_i h;subst h;rfl
 .rfl
def cell_spot{w:World}{a:Addr}{v:Value}(h:w.cell? a=some v):a.spot=none:=by
 unfold World.cell? at h
 split at h
 .split at h
  .cases h
  .rename_i hs;simpa using hs
 .cases h
def Reads{α:Type}(enc:TypeId×Value->H)(P:Program)(w:World)(n:Nat)(t:TypeId)(e:α->List PV)(Q:α->Nat->Prop):Prop :=
 ∀ fuel,fuel<=n->∀ cs (d:DataW H) ps,DataW.trod enc P w 0 (fun _=>true) true fuel t cs=some (d,ps)->∃ x:α,RC w (gM w) (e x) cs/\Q x (kF d)
def vVK{n:Nat}{t:TypeId}{k:IntKind}(ht:P.underlying t=some (.int k)):Reads enc P w n t (fun x:Int=>[.int k x]) (fun x B=>(Lit.int k x).wf=true/\1<=B):=by
 intro fuel _ cs d ps h;obtain⟨x,rfl,he,hw⟩:=DataW.trod_int ht h;cases he
 exact⟨x,RC.one (.int k x) rfl,hw,zX _⟩
def QL{α:Type}(Q:α->Nat->Prop):List α->Nat->Prop
 |[],B=>1<=B
 |x::xs,B=>∃ b c,Q x b/\QL Q xs c/\b+c<=B
def QL.mono{α:Type}{Q:α->Nat->Prop}:∀ {xs:List α} {B C:Nat},QL Q xs B->B<=C->QL Q xs C
 |[],_,_,h,hc=>wS h hc
 |_::_,_,_,⟨b,c,h1,h2,h3⟩,hc=>⟨b,c,h1,h2,wS h3 hc⟩
def QL.mem{α:Type}{Q:α->Nat->Prop}:∀ {xs:List α} {B:Nat},QL Q xs B->∀ x∈xs,∃ b,Q x b/\b<=B
 | x::xs,B,⟨b,c,h1,h2,h3⟩,y,hy=>by
   rcases yI.1 hy with rfl|hy
   .exact⟨b,h1,zom⟩
   .obtain⟨b',h4,h5⟩:=QL.mem h2 y hy;exact⟨b',h4,zom⟩
def QL.len{α:Type}{Q:α->Nat->Prop}(hq:∀ x b,Q x b->1<=b):∀ {xs:List α} {B:Nat},QL Q xs B->xs.length<B
 |[],_,h=>h
 |x::xs,B,⟨b,c,h1,h2,h3⟩=>by have:=QL.len hq h2;have:=hq _ _ h1;simp;omega
def vLN {α:Type} {n:Nat} {t e:TypeId} {sz:Nat} {ec:α->List PV} {pack:α->PV} {Q:α->Nat->Prop} (ht:P.underlying t=some (.slice e)) (hc:P.cellsOf e=sz) (hz:sz≠0)
 (hpk:∀ x,(pack x).cells=ec x/\(ec x).length=sz) (hE:Reads enc P w n e ec Q):Reads enc P w (n+1) t (fun xs:List α=>[.imm (xs.map pack)]) (QL Q):=by
 intro fuel hf cs d ps h;rcases DataW.trod_slice ht h with⟨rfl,he⟩|⟨a,len,cap,elems,rest,m,rfl,rfl,he,hb,hl,hm,hlen,hel,hsp,hns⟩
 .cases he
  exact⟨[],RC.one (.imm0 none 0) rfl,zX _⟩
 .cases he
  subst hc
  have each:∀ i y,elems[i]?=some y->∃ x:α,∃ cs',w.cells? 0 (a.add (i*P.cellsOf e)) (P.cellsOf e)=some cs'/\RC w (gM w) (ec x) cs'/\Q x (kF y.1):=by
   intro i y hy;have hi:i<len:=by have:=(xW.1 hy).1;omega
   have:=hel i hi;rw[hy,Option.bind_eq_some_iff]at this;obtain⟨cs',h1,h2⟩:=this;obtain⟨x,h3,h4⟩:=hE m zom cs' y.1 y.2 h2;exact⟨x,cs',h1,h3,h4⟩
  have all:∃ xs:List α,xs.length=elems.length/\(∀ i x,xs[i]?=some x->∃ cs',w.cells? 0 (a.add (i*P.cellsOf e)) (P.cellsOf e)=some cs'/\RC w (gM w) (ec x) cs')/\QL Q xs (dC (elems.map (·.1))+1):=by
   clear hel hsp hns h
   have gen:∀ (l:List (DataW H×List MemPlace)) (k:Nat),(∀ i y,l[i]?=some y->∃ x:α,∃ cs',w.cells? 0 (a.add ((k+i)*P.cellsOf e)) (P.cellsOf e)=some cs'/\RC w (gM w) (ec x) cs'/\Q x (kF y.1)) ->
    ∃ xs:List α,xs.length=l.length/\(∀ i x,xs[i]?=some x->∃ cs',w.cells? 0 (a.add ((k+i)*P.cellsOf e)) (P.cellsOf e)=some cs'/\RC w (gM w) (ec x) cs')/\QL Q xs (dC (l.map (·.1))+1):=by
    intro l
    induction l with
    |nil=>intro k _;exact⟨[],rfl,fun i x hx=>by simp at hx,by simp[QL,dC]⟩
    | cons y l ih =>
      intro k hk;obtain⟨x,cs',g1,g2,g3⟩:=hk 0 y rfl
      obtain⟨xs,f1,f2,f3⟩:=ih (k+1) (fun i z hz=>by
       have:=hk (i+1) z (by simpa using hz)
       rwa [show k+(i+1)=k+1+i by omega]at this)
      refine⟨x::xs,by simp[f1],fun i z hz=>?_,⟨_,_,g3,f3,by simp[dC];omega⟩⟩;cases i with
      |zero=>simp at hz;subst hz;exact⟨cs',g1,g2⟩
      | succ i =>
        have:=f2 i z (by simpa using hz)
        rwa [show k+1+i=k+(i+1) by omega]at this
   have:=gen elems 0 (fun i y hy=>by rw[z7];exact each i y hy)
   simpa using this
  obtain⟨xs,hx1,hx2,hx3⟩:=all;refine⟨xs,RC.one ?_ rfl,hx3.mono (by simp only[kF];omega)⟩;by_cases h0:len=0
  .have:xs=[]:=vZ.1 zom
   subst this;subst h0;exact .imm0 (some a) cap
  .have hlt:0<xs.length:=zom
   have ha:a.spot=none:=by
    obtain⟨cs',g1,_,_⟩:=hx2 0 xs[0] (wN hlt);obtain⟨_,q1,q2⟩:=World.cells?_some g1;have hc2:=q2 0 zom
    have hv:cs'[0]?=some (cs'.getD 0 undef):=by
     rw[Tp,wN zom];rfl
    rw[hv]at hc2;have e1:(a.add (0*P.cellsOf e)).add 0=a:=by unfold Addr.add;simp
    rw[e1]at hc2;exact cell_spot hc2
   obtain⟨ab,ao,aq⟩:=a;dsimp only at ha;subst ha
   have cellat:∀ i x,xs[i]?=some x->∀ c,c<P.cellsOf e->∃ v,w.cell? ⟨ab,ao+i*P.cellsOf e+c,none⟩=some v/\v.oneCell'=true/\(∀ d,(pack x).cells[c]?=some d->RD w (gM w) d v):=by
    intro i x hx c hcz;obtain⟨cs',g1,g2,g3⟩:=hx2 i x hx;obtain⟨_,q1,q2⟩:=World.cells?_some g1;have hc2:=q2 c zom
    have hv:cs'[c]?=some (cs'.getD c undef):=by
     rw[Tp,wN zom];rfl
    rw[hv,vRJ,vRJ]at hc2;have hcd:=(hpk x);have hlx:c<(ec x).length:=zom
    have g4:=g3 c _ (wN hlx);refine⟨_,hc2,g4.2,fun d hd=>?_⟩;rw[hcd.1]at hd;exact(g3 c d hd).1
   obtain⟨v0,hv0,_,_⟩:=cellat 0 xs[0] (wN hlt) 0 zom
   have hA:ab<w.heap.size:=by
    simp only[World.cell?]at hv0;by_cases hb2:ab<w.heap.size
    .exact hb2
    .rw[GF zom]at hv0;simp at hv0
   have := RD.imm (w:=w) (A:=gM w) (xs.map pack) (P.cellsOf e) ab ao cap
    (fun i c=>(w.cell? ⟨ab,ao+i*P.cellsOf e+c,none⟩).getD undef) hA yE
    (fun d hd=>by obtain⟨x,_,rfl⟩:=zW.1 hd;rw[(hpk x).1,(hpk x).2])
    (fun i c hi hc=>by
      rw[z6]at hi;obtain⟨v,h1,h2,_⟩:=cellat i xs[i] (wN hi) c hc
      rw[h1];exact⟨rfl,h2⟩)
    (fun i d hd c d' hd'=>by
      rw[uF]at hd;cases hx:xs[i]? with
      |none=>rw[hx]at hd;cases hd
      | some x =>
        rw[hx]at hd;cases hd
        have hcz:c<P.cellsOf e:=by
         have:=(xW.1 hd').1;rw[(hpk x).1,(hpk x).2]at this;exact this
        obtain⟨v,h1,h2,h3⟩:=cellat i x hx c hcz
        rw[h1];exact h3 d' hd')
   rw[z6,hx1,hlen]at this;exact this
def Reads.to{α β:Type}{n:Nat}{t:TypeId}{e:α->List PV}{e':β->List PV}{Q:α->Nat->Prop}{Q':β->Nat->Prop}(f:α->β)(h:Reads enc P w n t e Q)(he:∀ x,e x=e' (f x))(hq:∀ x B,Q x B->Q' (f x) B):Reads enc P w n t e' Q' :=
 fun fuel hf cs d ps hd=>let ⟨x,h1,h2⟩:=h fuel hf cs d ps hd;⟨f x,he x ▸ h1,hq _ _ h2⟩
def Reads.le{α:Type}{n m:Nat}{t:TypeId}{e:α->List PV}{Q:α->Nat->Prop}(h:Reads enc P w n t e Q)(hm:m<=n):Reads enc P w m t e Q:=fun fuel hf=>h fuel (wS hf hm)
end
open Go Go.RowKit Go.WideShapes Go.ChangeShapes Go.WideElems
variable {b0:Nat}{args:Array Value}{v:Value}{before:List MemPlace}
section
variable {H:Type} {enc:TypeId×Value->H} {P:Program}
def zJE(hl:laidOutB P=true){W W':World}(hb:Below W.heap.size W W'){sp:Nat->Bool}:∀ {ts:List TypeId} {vs:List Value} {ds:List (DataW H)} {ps:List MemPlace},
 ts.all (fun t=>P.readableRec t&&decide (t<P.types.size))=true->DataW.TrodAll enc P W 0 (fun _=>true) true ts vs ds ps->(∀ p∈ps,sp p.block=true)->DataW.TrodAll enc P W' 0 sp true ts vs ds ps
 |[],[],[],_,_,h,_=>h
 | t::ts,v::vs,d::ds,ps,hr,h,hs=>by
   have hlt:=h.lt;obtain⟨p,q,⟨fuel,h1⟩,h2,e⟩:=h;simp only[List.all_cons,xO,tC]at hr;have hp:∀ x∈p,x.block<W.heap.size:=fun x hx=>hlt x (by rw[e];simp[hx])
   exact⟨p,q,⟨fuel,DataW.trod_stays (kids_book hl hr.1.1) (book_sized hr.1.1) (fun h=>by cases h) ⟨hr.1.2,book_self t⟩ h1 (fun x hx=>hb.same (hp x hx)) (fun x hx=>hs x (by rw[e];simp[hx]))⟩,
    zJE hl hb (by simpa using hr.2) h2 (fun x hx=>hs x (by rw[e];simp[hx])),e⟩
 |[],[],_::_,_,_,h,_=>h.elim
 |[],_::_,_,_,_,h,_=>h.elim
 |_::_,[],_,_,_,h,_=>h.elim
 |_::_,_::_,[],_,_,h,_=>h.elim
def vTU{w:World}{r:Reach}  {t:TypeId}  {e:TypeId}(ht:P.underlying t=some (.slice e))(h:Value.okWide P w r b0 t v):v.cells=#[v]:=by
 simp[Value.okWide,ht,Cell.okWide,Cell.ok]at h;cases v<;>simp_all [Value.cells]
def uB3{w:World}{r:Reach}  {ps:Array TypeId}  (h:∀ (j:Nat) t v,ps[j]?=some t->args[j]?=some v->Value.okWide P w r b0 t v)(j:Nat){t:TypeId}  {e:TypeId}(h1:ps[j]?=some t)(h2:args[j]?=some v)(ht:P.underlying t=some (.slice e)):v.cells=#[v]:=vTU ht (h j t v h1 h2)
def uSH{w:World}{A:Nat->Prop}{d:PV}  (hc:v.cells=#[v])(h:RC w A [d] v.cells.toList):RD w A d v:=by
 rw[hc]at h;exact(h.2 0 d rfl).1
def vRW{f:Func}{s:ChangeSpec}{W W':World}   {ds gs:List (DataW H)}{pa pv:List MemPlace}
 (hW:DataW.Whole enc P f.params.toList s.vars false W args.toList ds gs before)
 (hres:∀ (b:Nat) (sp:Nat->Bool) (hd:Bool),DataW.TrodAll enc P W' b sp hd f.resultTypes.toList (v.resultList f.resultTypes.size) (s.fn H (ds++gs)).results [])
 (hargs:∀ sp:Nat->Bool,(∀ p∈before,sp p.block=true)->DataW.TrodAll enc P W' 0 sp true f.params.toList args.toList (s.fn H (ds++gs)).args pa)
 (hvars:∀ sp:Nat->Bool,(∀ p∈before,sp p.block=true)->DataW.TrodVars enc P W' sp s.vars (s.fn H (ds++gs)).vars pv)
 (hps:before=pa++pv) (hb:Below W.heap.size W W')
 (hok:∀ (j:Nat) (t:TypeId) (r:Value),f.resultTypes[j]?=some t->(v.resultList f.resultTypes.size)[j]?=some r->Value.okWide P W' .any 0 t r) :
 s.post enc P f false true false false W args v W':=by
 have hold:∀ p∈before,(fun b=>decide (b<W.heap.size)) p.block=true:=fun p hp=>by simpa using hW.lt p hp
 refine⟨ds,gs,before,[],pa,pv,hW,hres _ _ _,hargs _ hold,hvars _ hold,World.keptBut_mono (fun p hp=>⟨hp,?_⟩) (hb.frame (·∈before)),fun h=>by cases h⟩;rw[hps,y8]at hp;exact zC hp
def uFP{G:Gl}{f:FuncId}{fn:Func}{s:ChangeSpec}{tb:TypeId}(hl:laidOutB P=true)(hr:fn.params.toList.all (fun t=>P.readableRec t&&decide (t<P.types.size))=true)
 (hrt:fn.resultTypes=#[tb]) (htb:P.underlying tb=some .bool) (hv:s.vars=[])
 {W:World}  {ds gs:List (DataW H)}  (hfn:∀ gs:List (DataW H),gs=[]->s.fn H (ds++gs)={ results:=[.lit (.bool true)],args:=ds })
 (hW:DataW.Whole enc P fn.params.toList s.vars false W args.toList ds gs before) (hg:Gok G W (gM W)) {pvs:List PV} (hd:RDs W (gM W) pvs args.toList) (hF:FnC P G f pvs (.data (.bool true))) :
 Calls P f args W fun e W'=>∃ v,e=.returned v/\s.post enc P fn false true false false W args v W':=by
 have hc:=hF.2 W (gM W) args.toList (fun _ h=>h) hg hd;rw[Array.toArray_toList]at hc;refine hc.mono fun e W' ⟨v,he,hb,hh⟩=>⟨v,he,?_⟩
 obtain rfl:v=.bool true:=by cases (show RD _ _ (.bool true) v from hh);rfl
 have hW0:=hW;obtain⟨p,q,hA,hV,rfl,_,_⟩:=hW0;rw[hv]at hV;obtain⟨rfl,rfl⟩:=trodVars_none hV;have hfn:=hfn [] rfl;refine vRW (pa:=p) (pv:=[]) hW (fun b sp hd=>?_) (fun sp hsp=>?_) (fun sp hsp=>?_) rfl hb (ok_one hrt rfl (okWide_bool_mk htb _))
 .rw[hfn,hrt]
  exact trodAll_cons_mk (shut_bool htb _) trodAll_mk0
 .rw[hfn]
  exact zJE hl hb hr hA (fun x hx=>hsp x (by simp[hx]))
 .rw[hfn,hv]
  rfl
end
end Go.PI
