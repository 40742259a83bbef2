/-
  PI: a family of rows, as many as there are, at keys one behind the other; states told with keys renamed by any map.
-/
import Derived.Test.YtcbepncdbgaohaaGreatDoorCA3
set_option linter.all false
set_option maxHeartbeats 0
namespace Go.PI
def X5(y:Nat->Rat):∀ m,nP [] y m=0
 |0=>rfl
 |m+1=>by simp only[nP];rw[X5 y m];simp only[cf];grind
def X6(p:QT)(l:List QT)(y:Nat->Rat):∀ m:Nat,(m:Int)<=p.1->nP (p::l) y m=nP l y m
 |0,_=>rfl
 | m+1,h=>by
   simp only[nP];rw[X6 p l y m zom];simp only[cf];rw[zB (show ¬ p.1=(m:Int) by omega)];grind
def X7(p:QT)(l:List QT)(y:Nat->Rat)(h0:0<=p.1):∀ m:Nat,p.1<(m:Int)->nP (p::l) y m=p.2*y p.1.toNat+nP l y m
 |0,h=>by omega
 | m+1,h=>by
   simp only[nP];simp only[cf];by_cases e:p.1=(m:Int)
   .rw[X6 p l y m zom,zE e,show p.1.toNat=m by omega];grind
   .rw[X7 p l y h0 m zom,zB e];grind
def QR{y:Nat->Rat}{X:List Rat}{m:Nat}(hy:∀ i,i<m->y i=X[i]!):∀ l:List QT,(∀ t∈l,0<=t.1/\t.1<(m:Int))->nP l y m=dot X l
 |[],_=>X5 y m
 | p::l,h=>by
   have h1:=h p zsm;rw[X7 p l y h1.1 m h1.2,QR hy l fun t ht=>h t (xN _ ht),hy _ zom];rfl
variable {X:List Rat}
def ptX(X:List Rat)(n:Nat)(i:Nat):Rat:=if i=n+1 then 1 else X[i]!
def uSC{f:QF}  {n:Nat}(hf:∀ t∈f.ts,0<=t.1/\t.1<((n+1:Nat):Int)){c:List Int}{s:Rat}(h:∀ i,i<n+2->((c[i]! : Int):Rat)=s*(frX f (n+1))[i]!):oZ c (ptX X n) (n+2)=s*evQ f X:=by
 have e1:oZ c (ptX X n) (n+1)=s*nP f.ts (ptX X n) (n+1):=XQ (n+1) fun i hi=>by rw[h i zom,l8 zom,zE zom]
 have e2:nP f.ts (ptX X n) (n+1)=dot X f.ts:=QR (fun i hi=>by unfold ptX;rw[zB zom]) _ hf;show oZ c (ptX X n) (n+1)+((c[n+1]! : Int):Rat)*ptX X n (n+1)=_
 rw[e1,e2,h (n+1) zom,l8 zom,zB zom,mK];unfold ptX;rw[zE rfl];grind
theorem rw0_holds{A:List QF}  {n:Nat}(hB:DR A n A.length)(hf:∀ f∈A,(∀ t∈f.ts,0<=t.1/\t.1<((n+1:Nat):Int))/\0<=evQ f X):∀ r∈rw0 A n A.length,fV (n+2) (ptX X n) r:=fun r hr=>by
 obtain⟨j,hj,rfl⟩:=zW.1 hr;have hj:=yN.1 hj;obtain⟨h1,h2,s,hs,h3⟩:=Pw (hB j hj);obtain⟨g1,g2⟩:=hf _ (Pq hj);unfold fV;show 0<=oZ (rD (frX A[j]! (n+1))).1 _ _
 rw[uSC g1 fun i hi=>h3 i (by rw[iA];exact hi)];exact qV (nX hs) g2
def vYM{A:List QF}  {n:Nat}(hf:∀ f∈A,(∀ t∈f.ts,0<=t.1/\t.1<((n+1:Nat):Int))/\0<=evQ f X):(uD A n).1=0\/(uD A n).1=3\/(uD A n).1=1/\(uD A n).2<=X[n]! := by
 unfold uD
 split
 .rename_i hc
  have:=uUC (n:=n) (y:=ptX X n) (K5 hc.2 hc.1) (rw0_holds hc.2 hf) (by unfold ptX;rw[zE rfl]);have e:ptX X n n=X[n]! := by unfold ptX;rw[zB zom]
  rwa [e]at this
 .exact zF rfl
def X8{x:List Rat}{t:Rat}:∀ l:List QT,(∀ p∈l,0<=p.1/\p.1<(x.length:Int))->dot (x++[t]) l=dot x l
 |[],_=>rfl
 | p::l,h=>by
   have h1:=h p zsm
   have e:(x++[t])[p.1.toNat]! = x[p.1.toNat]! := by
    rw[zS (x++[t]) p.1.toNat yE,zS x p.1.toNat zom,iJ]
   simp only[dot];rw[e,X8 l fun q hq=>h q (xN _ hq)]
def X9{x:List Rat}{t:Rat}{f:QF}(h:∀ p∈f.ts,0<=p.1/\p.1<(x.length:Int)):evQ f (x++[t])=evQ f x:=by
 rw[mK,mK,X8 _ h]
def vVY{n:Nat}{x:List Rat}{O:QF}{R:List QF}{vq:QF}(hx:x.length=n)(hO:okF n O)(hR:∀ f∈R,okF n f/\0<=evQ f x)(hv:vq=⟨[((n:Int),1)],0⟩):((uD ([yA vq O (-1),yA zeroQ (yA vq O (-1)) (-1)]++R) n).1=0\/(uD ([yA vq O (-1),yA zeroQ (yA vq O (-1)) (-1)]++R) n).1=3\/(uD ([yA vq O (-1),yA zeroQ (yA vq O (-1)) (-1)]++R) n).1=1/\(uD ([yA vq O (-1),yA zeroQ (yA vq O (-1)) (-1)]++R) n).2<=evQ O x):=by
 have hlast:(x++[evQ O x])[n]! = evQ O x:=by
  rw[zS _ n (by simp[hx]),iI zom];simp[hx]
 have hev:evQ vq (x++[evQ O x])=evQ O x:=by
  rw[hv,mK];simp only[dot,Int.toNat_natCast];rw[hlast];grind
 have hOx:evQ O (x++[evQ O x])=evQ O x:=X9 fun p hp=>by rw[hx];exact hO.2 p hp
 have hT:evQ (yA vq O (-1)) (x++[evQ O x])=0:=by rw[j5,hev,hOx];grind
 have hTv:∀ t∈(yA vq O (-1)).ts,0<=t.1/\t.1<((n+1:Nat):Int):=fun t ht=>by
  rcases pW _ _ _ _ (zX _) t ht with⟨p,hp,e⟩|⟨p,hp,e⟩
  .rw[hv]at hp
   rw[yG.1 hp]at e;dsimp only at e;omega
  .have:=hO.2 p hp;omega
 have:=vYM (A:=[yA vq O (-1),yA zeroQ (yA vq O (-1)) (-1)]++R) (X:=x++[evQ O x]) (n:=n) fun f hf=>by
  rcases y8.1 hf with hf|hf
  .rcases yI.1 hf with rfl|hf
   .exact⟨hTv,by rw[hT];exact nE⟩
   .rw[yG.1 hf]
    refine⟨fun t ht=>?_,by rw[j5,hT,aR];grind⟩;rcases pW _ _ _ _ (zX _) t ht with⟨p,hp,e⟩|⟨p,hp,e⟩
    .cases hp
    .have:=hTv p hp;omega
  .obtain⟨g1,g2⟩:=hR f hf
   exact⟨fun t ht=>by have:=g1.2 t ht;omega,by rw[X9 fun p hp=>by rw[hx];exact g1.2 p hp];exact g2⟩
 rwa [hlast]at this
def Dc(r:RegL)(i:Nat):List QF:=(List.range i).flatMap fun(j:Nat)=>[yA (yK j) ⟨[],qv r.lo[j]!⟩ (-1),yA ⟨[],qv r.hi[j]!⟩ (yK j) (-1)]
def rF(r:RegL):List QF:=Dc r r.lo.length++r.rows.map AffL.Q
def YA(r:RegL)(i:Nat):Dc r (i+1)=Dc r i++[yA (yK i) ⟨[],qv r.lo[i]!⟩ (-1),yA ⟨[],qv r.hi[i]!⟩ (yK i) (-1)]:=by
 unfold Dc;rw[kM,CX];simp
def IY(r:RegL):∀ i,(Dc r i).length=2*i
 |0=>rfl
 |i+1=>by rw[YA,xR,IY r i];simp;omega
def wJ:Nat->List Int->List (List Int)
 |0,p=>[p]
 |m+1,p=>wJ m (p++[1])++wJ m (p++[2])
def QS:∀ (m:Nat) (p s:List Int),s.length=m->(∀ a∈s,a=1\/a=2)->p++s∈wJ m p
 | 0,p,s,h,_=>by
   have:s=[]:=vZ.1 h;subst this;simp[wJ]
 | m+1,p,a::s,h,ha=>by
   have ih:=QS m (p++[a]) s (by simpa using h) fun b hb=>ha b (xN _ hb)
   rw[tV]at ih;unfold wJ;rcases ha a zsm with rfl|rfl
   .exact sV _ ih
   .exact pJ _ ih
def QU(o:Option (Int×Rat))(s:Int×Rat):Option (Int×Rat):=match o with
 |none=>none
 |some c=>if s.1=0\/s.1=3 then none else if s.1=1/\(c.1=2\/s.2<c.2) then some s else some c
def oG(P:Nat->Int×Rat):Nat->Option (Int×Rat)
 |0=>some (2,0)
 |i+1=>QU (oG P i) (P i)
def aZ(P:Nat->Int×Rat)(N:Nat):Int×Rat:=match oG P N with
 |none=>(0,0)
 |some s=>s
def YB {P : Nat->Int×Rat} {i:Nat} (h:oG P i=none):∀ j,i<=j->oG P j=none
 | 0, hj => by have:i=0:=zom
               subst this;exact h
 | j+1,hj=>by
   by_cases e:i=j+1
   .subst e;exact h
   .unfold oG;rw[YB h j zom];rfl
def YC{l:List FR}{n m:Nat}(hr:∀ r∈l,okRw m r)(hn:n+1<m):∀ i,i<=l.length->∀ s,enI l n i=some s->sz 2 s.least/\sz 2 s.most
 |0,_,s,h=>by cases h;exact⟨iX zdd,iX zdd⟩
 | i + 1,hi,s,h=>by
   unfold enI at h;cases hp:enI l n i with
   |none=>rw[hp]at h;cases h
   | some c =>
     rw[hp]at h;dsimp only at h
     split at h
     .cases h
     .have ho:=hr l[i]! (Pq zom)
      have hol:=ho.len;rw[<- Ak h];exact XI (ho.at (i:=n) zom) (ho.at (i:=n+1) hn) (YC hr hn i zom c hp)
variable {kg:Nat}
def uPJ{l:List FR}{n m:Nat}(hr:∀ r∈l,okRw m r)(hn:n+1<m):sz 2 (rE l n).2:=by
 unfold rE enR;cases he:enI l n l.length with
 |none=>exact iX zdd
 | some s =>
   dsimp only
   split
   .exact iX zdd
   .split
    .exact iX zdd
    .exact(YC hr hn _ (zX _) s he).1
def uTG(A:List QF)(n:Nat):sz 2 (uD A n).2:=by
 unfold uD
 split
 .rename_i hc
  unfold feV;cases hf:feI n (rw0 A n A.length) n with
  |none=>exact iX zdd
  |some s=>exact uPJ (FB (K5 hc.2 hc.1) zom n (zX _) s hf).rw zom
 .exact iX zdd
def YD{P:Nat->Int×Rat}(h:∀ j,sz 2 (P j).2):∀ i s,oG P i=some s->sz 2 s.2
 |0,s,e=>by cases e;exact iX zdd
 | i + 1,s,e=>by
   unfold oG at e;cases hp:oG P i with
   |none=>rw[hp]at e;cases e
   | some c =>
     rw[hp]at e;unfold QU at e;dsimp only at e
     split at e
     .cases e
     .split at e
      .rw[<- Ak e];exact h i
      .rw[<- Ak e];exact YD h i c hp
def YE{P:Nat->Int×Rat}{N j:Nat}(h:oG P j=none)(hj:j<=N):aZ P N=(0,0):=by unfold aZ;rw[YB h N hj]
def uAR{P:Nat->Int×Rat}{N:Nat}{s:Int×Rat}(h:oG P N=some s):aZ P N=s:=by unfold aZ;rw[h]
def uAT{P:Nat->Int×Rat}{i:Nat}{s:Int×Rat}(h:oG P i=some s):oG P (i+1)=if (P i).1=0\/(P i).1=3 then none else if (P i).1=1/\(s.1=2\/(P i).2<s.2) then some (P i) else some s:=by
 conv=>lhs;unfold oG
 rw[h];rfl
def uZ(q:QryL)(j:Nat):List Int:=(wJ (usQ q).length [])[j]!
def kC(q:QryL)(n:Nat)(p:List Int):List QF:=rF q.r++Bn q n p
noncomputable def pP(q:QryL)(n j:Nat):Int×Rat:=uD ([yA (yK n) (l6 q n (uZ q j)) (-1),yA zeroQ (yA (yK n) (l6 q n (uZ q j)) (-1)) (-1)]++kC q n (uZ q j)) n
noncomputable def oH(q:QryL)(n:Nat):Int×Rat:=aZ (pP q n) (2^(usQ q).length)
def De{q:QryL}{n:Nat}(h:smQ q kg)(hn:q.g.ins=(n:Int)):∀ f∈rF q.r,szF 64 f/\okF n f:=fun f hf=>by
 obtain⟨n1,n2,n3,n4⟩:=h.nn hn;rcases y8.1 hf with hf|hf
 .unfold Dc at hf
  obtain⟨j,hj,hf⟩:=Ce.1 hf;have hj:=yN.1 hj;obtain⟨b1,b2,_⟩:=h.bnd (i:=j) hj;have hv:=Ki (j:Int);have hz:=Bj (j:Int);have z1:szF 60 (⟨[],qv q.r.lo[j]!⟩:QF):=⟨b1,fun p hp=>by cases hp⟩;have z2:szF 60 (⟨[],qv q.r.hi[j]!⟩:QF):=⟨b2,fun p hp=>by cases hp⟩;rcases yI.1 hf with rfl|hf
  .refine⟨cN hz z1 (kc:=1) ⟨by decide +kernel,by decide +kernel⟩ zom,aN hv pV,fun t ht=>?_⟩
   rcases pW _ _ _ _ (zX _) t ht with⟨p,hp,e⟩|⟨p,hp,e⟩
   .rw[yG.1 hp]at e
    dsimp only at e;omega
   .cases hp
  .rw[yG.1 hf]
   refine⟨cN z2 hz (kc:=1) ⟨by decide +kernel,by decide +kernel⟩ zom,aN pV hv,fun t ht=>?_⟩;rcases pW _ _ _ _ (zX _) t ht with⟨p,hp,e⟩|⟨p,hp,e⟩
   .cases hp
   .rw[yG.1 hp]at e
    dsimp only at e;omega
 .obtain⟨a,ha,rfl⟩:=zW.1 hf
  obtain⟨j,hj,rfl⟩:=uE ha;have h1:=p8 (h.va.2.1.2.2.2.2.2 j hj);rw[zS _ j hj,hn]at h1;have h2:=h.r.2.2.1 _ ha;exact⟨jZ (qP zdd h2) zdd,by exact_mod_cast h1⟩
def QV{q:QryL}{n:Nat}(h:smQ q kg)(hn:q.g.ins=(n:Int))(p:List Int):∀ f∈kC q n p,szF 40001 f/\okF n f:=fun f hf=>by
 rcases y8.1 hf with hf|hf
 .exact⟨rX zdd (De h hn f hf).1,(De h hn f hf).2⟩
 .obtain⟨j,hj,rfl⟩:=zW.1 hf
  obtain⟨r1,r2,r3⟩:=uL2 h hn p (yN.1 hj);exact⟨r2,r1⟩
end Go.PI
namespace Go.PI.FM
variable {S:List Nat}{i:Nat}
def ls(S:List Nat)(f:Nat->Rat):Rat:=(S.map f).sum
def YF(f:Nat->Rat):ls [] f=0:=rfl
def iE(i:Nat)(S:List Nat)(f:Nat->Rat):ls (i::S) f=f i+ls S f:=by simp[ls]
def QW(S:List Nat)(f g:Nat->Rat):ls S (fun i=>f i+g i)=ls S f+ls S g:=by
 induction S with
 |nil=>simp only[YF];grind
 |cons a S ih=>simp only[iE,ih];grind
def QX(S:List Nat)(c:Rat)(f:Nat->Rat):ls S (fun i=>c*f i)=c*ls S f:=by
 induction S with
 |nil=>simp only[YF];grind
 |cons a S ih=>simp only[iE,ih];grind
def AA  {f g:Nat->Rat}(h:∀ i∈S,f i=g i):ls S f=ls S g:=by
 induction S with
 |nil=>rfl
 |cons a S ih=>rw[iE,iE,h a zsm,ih fun i hi=>h i (by simp[hi])]
def LI  {f:Nat->Rat}(h:∀ i∈S,f i=0):ls S f=0:=by
 induction S with
 |nil=>rfl
 |cons a S ih=>rw[iE,h a zsm,ih fun i hi=>h i (by simp[hi])];grind
def YG  {p:Nat}(hp:p∈S)(f:Nat->Rat):ls S f=f p+ls (S.erase p) f:=by
 induction S with
 |nil=>cases hp
 | cons a S ih =>
   by_cases h:a=p
   .subst h;simp[iE]
   .rw[List.erase_cons_tail (by simpa using h),iE,iE,ih (by simpa [y9 h]using hp)];grind
def QY:∀ (E S:List Nat) (A:Nat->Nat->Rat),S.Nodup->E.length<S.length ->
 ∃ z:Nat->Rat,(∃ i∈S,z i≠0)/\(∀ i,i∉S->z i=0)/\∀ j∈E,ls S (fun i=>z i*A i j)=0
 |[],[],_,_,h=>by simp at h
 |[],a::S,A,_,_=>⟨fun i=>if i=a then 1 else 0,⟨a,zsm,zsm⟩,fun i hi=>by simp at hi;simp[hi.1],fun j hj=>by cases hj⟩
 | j :: E,S,A,hS,hl=>by
   by_cases hz:∀ i∈S,A i j=0
   .obtain⟨z,h1,h2,h3⟩:=QY E S A hS (by simp at hl;omega)
    refine⟨z,h1,h2,fun k hk=>?_⟩;rcases yI.1 hk with rfl|hk
    .exact LI fun i hi=>by rw[hz i hi];grind
    .exact h3 k hk
   .simp only[JR]at hz
    obtain⟨p,hp,hpz⟩:=hz;have hS':(S.erase p).Nodup:=hS.erase p;have hlen:(S.erase p).length=S.length-1:=F9 hp;obtain⟨z,⟨i0,hi0,hz0⟩,h2,h3⟩:=QY E (S.erase p) (fun i k=>A i k-A i j/A p j*A p k) hS' (by simp at hl;omega);have hpn:p∉S.erase p:=fun e=>by have:=(Tw hS).1 e;exact this.1 rfl
    have hzp:z p=0:=h2 p hpn;let q:Rat:=- (ls (S.erase p) (fun i=>z i*A i j)/A p j)
    have key:∀ k,ls S (fun i=>(if i=p then q else z i)*A i k)=q*A p k+ls (S.erase p) (fun i=>z i*A i k):=fun k=>by
     rw[YG hp];simp only[uA]
     congr 1
     refine AA fun i hi=>?_
     rw[zB (fun e=>hpn (by have h9:=hi;rw[e]at h9;exact h9))]
    refine⟨fun i=>if i=p then q else z i,⟨i0,JO hi0,?_⟩,fun i hi=>?_,fun k hk=>?_⟩
    .show(if i0=p then q else z i0)≠0
     rw[zB (fun e=>hpn (by have h9:=hi0;rw[e]at h9;exact h9))];exact hz0
    .show(if i=p then q else z i)=0
     rw[zB (fun e=>hi (by rw[e];exact hp))];exact h2 i fun e=>hi (JO e)
    .rw[key]
     have hd:∀ x:Rat,x/A p j*A p j=x:=fun x=>Ad hpz
     rcases yI.1 hk with rfl|hk
     .show-(ls (S.erase p) (fun i=>z i*A i k)/A p k)*A p k+_=0
      have:=hd (ls (S.erase p) (fun i=>z i*A i k))
      grind
     .have e:=h3 k hk
      have e2:ls (S.erase p) (fun i=>z i*(A i k-A i j/A p j*A p k))=ls (S.erase p) (fun i=>z i*A i k)+(- (A p k/A p j))*ls (S.erase p) (fun i=>z i*A i j):=by
       rw[<- QX,<- QW];refine AA fun i _=>?_
       rw[Rat.div_def,Rat.div_def];grind
      rw[e2]at e;show-(ls (S.erase p) (fun i=>z i*A i j)/A p j)*A p k+_=0
      rw[Rat.div_def]at e ⊢
      grind
section
variable (m:Nat) (A:Nat->Nat->Rat)
def col(y:Nat->Rat)(j:Nat):Rat:=ls (List.range m) (fun i=>y i*A i j)
def qR(E:List Nat)(y:Nat->Rat):Prop:=(∀ i,0<=y i)/\(∀ i,m<=i->y i=0)/\∀ j∈E,col m A y j=0
def Sub(y z:Nat->Rat):Prop:=∀ i,y i≠0->z i≠0
def Min(E:List Nat)(y:Nat->Rat):Prop:=qR m A E y/\(∃ i,y i≠0)/\∀ z,qR m A E z->(∃ i,z i≠0)->Sub z y->Sub y z
end
variable {m:Nat} {A:Nat->Nat->Rat} {E:List Nat}
def jE(y z:Nat->Rat)(j:Nat):col m A (fun i=>y i+z i) j=col m A y j+col m A z j:=by
 unfold col;rw[<- QW];exact AA fun i _=>by grind
def jF(c:Rat)(y:Nat->Rat)(j:Nat):col m A (fun i=>c*y i) j=c*col m A y j:=by
 unfold col;rw[<- QX];exact AA fun i _=>by grind
def uGV{y z:Nat->Rat}(hy:qR m A E y)(hz:qR m A E z):qR m A E fun i=>y i+z i :=
 ⟨fun i=>Rat.add_nonneg (hy.1 i) (hz.1 i),fun i hi=>by dsimp only;rw[hy.2.1 i hi,hz.2.1 i hi];grind,fun j hj=>by rw[jE,hy.2.2 j hj,hz.2.2 j hj];grind⟩
def QZ{c:Rat}(hc:0<=c){y:Nat->Rat}(hy:qR m A E y):qR m A E fun i=>c*y i :=
 ⟨fun i=>qV hc (hy.1 i),fun i hi=>by dsimp only;rw[hy.2.1 i hi];grind,fun j hj=>by rw[jF,hy.2.2 j hj];grind⟩
def least(f:Nat->Rat):∀ (S:List Nat),S≠[]->∃ i∈S,∀ j∈S,f i<=f j
 |[],h=>absurd rfl h
 |[a],_=>⟨a,zsm,fun j hj=>by simp at hj;subst hj;exact nE⟩
 | a :: b::S,_=>by
   obtain⟨i,h1,h2⟩:=least f (b::S) zsm;rcases Rat.le_total (a:=f a) (b:=f i) with h|h
   .exact⟨a,zsm,fun j hj=>by
     rcases yI.1 hj with rfl|hj
     .exact nE
     .exact Cf h (h2 j hj)⟩
   .exact⟨i,xN _ h1,fun j hj=>by
     rcases yI.1 hj with rfl|hj
     .exact h
     .exact h2 j hj⟩
def Qa{y z:Nat->Rat}(hy:∀ i,0<=y i)(hz:∃ i,0<z i)(hz0:∀ i,m<=i->z i=0)(hs:∀ i,0<z i->y i≠0) :
 ∃ c i0,0<c/\0<z i0/\y i0=c*z i0/\∀ i,c*z i<=y i:=by
 classical
 obtain⟨i1,h1⟩:=hz
 have hlt:∀ i,0<z i->i<m:=fun i hi=>by
  rcases nD i m with h|h
  .exact h
  .rw[hz0 i h]at hi;exact absurd hi zdd
 let S:=(List.range m).filter fun i=>decide (0<z i)
 have hS:∀ i,i∈S↔0<z i:=fun i=>by
  simp only[S,gT,yN,tC];exact⟨fun h=>h.2,fun h=>⟨hlt i h,h⟩⟩
 obtain⟨i0,h2,h3⟩:=least (fun i=>y i/z i) S (fun e=>by have:=(hS i1).2 h1;rw[e]at this;cases this);have hp:=(hS i0).1 h2;have hd:∀ i,0<z i->y i/z i*z i=y i:=fun i hi=>Ad (fun e=>by rw[e]at hi;exact absurd hi zdd)
 have hy0:0<y i0:=by have:=hy i0;have:=hs i0 hp;grind
 have hc:0<y i0/z i0:=by rw[Rat.div_def];exact nY hy0 (Cg.2 hp)
 refine⟨y i0/z i0,i0,hc,hp,(hd i0 hp).symm,fun i=>?_⟩;by_cases hi:0<z i
 .have:=h3 i ((hS i).2 hi)
  have:=Ta this (nX hi)
  rwa [hd i hi]at this
 .have h4:z i<=0:=mX.1 hi
  have:y i0/z i0*z i<=0:=by
   have:=qV (nX hc) (show 0<=- z i by grind)
   grind
  exact Cf this (hy i)
def LJ{y:Nat->Rat}(hy:qR m A E y)  (h:y i≠0):0<y i:=by have:=hy.1 i;grind
def YH{y z:Nat->Rat}(hy:Min m A E y)(hz:qR m A E z)(hz0:∃ i,z i≠0)(hs:Sub z y):∃ c,0<c/\∀ i,y i=c*z i:=by
 obtain⟨c,i0,h1,h2,h3,h4⟩:=Qa (m:=m) hy.1.1 (by obtain⟨i,hi⟩:=hz0;exact⟨i,LJ hz hi⟩) hz.2.1 (fun i hi=>hs i (by grind));refine⟨c,h1,?_⟩
 have hw:qR m A E fun i=>y i+(-c)*z i :=
  ⟨fun i=>by have:=h4 i;grind,fun i hi=>by dsimp only;rw[hy.1.2.1 i hi,hz.2.1 i hi];grind,fun j hj=>by rw[jE,jF,hy.1.2.2 j hj,hz.2.2 j hj];grind⟩
 by_cases hn:∃ i,y i+(-c)*z i≠0
 .have:=hy.2.2 _ hw hn (fun i hi e=>by
   by_cases hzi:z i=0
   .rw[e,hzi]at hi;exact hi (by grind)
   .exact hs i hzi e)
  exact absurd (show y i0+(-c)*z i0=0 by rw[h3];grind) (this i0 (hs i0 (by grind)))
 .intro i
  have:y i+(-c)*z i=0:=jP.1 fun e=>hn ⟨i,e⟩
  grind
def cnt(m:Nat)(y:Nat->Rat):Nat:=((List.range m).filter fun i=>decide (y i≠0)).length
def YI{p q:Nat->Bool}:∀ (l:List Nat),(∀ i,p i=true->q i=true)->(l.filter p).length<=(l.filter q).length
 |[],_=>zX _
 | a :: l,h=>by
   have ih:=YI l h;by_cases hp:p a=true
   .simp[hp,h a hp,ih]
   .by_cases hq:q a=true
    .simp[hp,hq];omega
    .simp[hp,hq,ih]
def YJ{p q:Nat->Bool}:∀ (l:List Nat),(∀ i,p i=true->q i=true)->(∃ i∈l,p i=false/\q i=true)->(l.filter p).length<(l.filter q).length
 |[],_,⟨i,h,_⟩=>by cases h
 | a :: l,h,⟨i,hi,h1,h2⟩=>by
   rcases yI.1 hi with rfl|hi
   .have:=YI l h
    simp[h1,h2];omega
   .have ih:=YJ l h ⟨i,hi,h1,h2⟩
    by_cases hp:p a=true
    .simp[hp,h a hp,ih]
    .by_cases hq:q a=true
     .simp[hp,hq];omega
     .simp[hp,hq,ih]
def cnt_lt{y z:Nat->Rat}(hs:Sub y z)  (hi:i<m)(h1:y i=0)(h2:z i≠0):cnt m y<cnt m z :=
 YJ _ (fun i h=>by simpa using hs i (by simpa using h)) ⟨i,by simpa using hi,by simpa using h1,by simpa using h2⟩
def IZ{y:Nat->Rat}(hy:qR m A E y)  (h:y i≠0):i<m:=by
 rcases nD i m with h'|h'
 .exact h'
 .exact absurd (hy.2.1 i h') h
def YK:∀ (n:Nat) (y:Nat->Rat),cnt m y<=n->qR m A E y->(∃ i,y i≠0)->∃ z,Min m A E z/\Sub z y
 | n, y,hn,hy,h0=>by
   by_cases h:∀ z,qR m A E z->(∃ i,z i≠0)->Sub z y->Sub y z
   .exact⟨y,⟨hy,h0,h⟩,fun _ h=>h⟩
   .simp only[JR]at h
    obtain⟨z,hz,hz0,hs,hns⟩:=h;unfold Sub at hns;simp only[JR]at hns;obtain⟨i,h1,h2⟩:=hns;have h2:z i=0:=jP.1 h2;have hlt:=cnt_lt (m:=m) hs (IZ hy h1) h2 h1
    match n,hn with
    |0,hn=>omega
    | n+1,hn =>
      obtain⟨t,ht,hts⟩:=YK n z zom hz hz0;exact⟨t,ht,fun i hi=>hs i (hts i hi)⟩
def LK{Q:(Nat->Rat)->Prop}(h0:∀ y,(∀ i,y i=0)->Q y)(hadd:∀ a b:Nat->Rat,Q a->Q b->Q fun i=>a i+b i)(hmul:∀ (c:Rat) (a:Nat->Rat),0<c->Q a->Q fun i=>c*a i) :
 ∀ (n:Nat) (y:Nat->Rat),cnt m y<=n->qR m A E y->(∀ z,Min m A E z->Sub z y->Q z)->Q y
 | n, y,hn,hy,hQ=>by
   by_cases h:∃ i,y i≠0
   .obtain⟨z,hz,hs⟩:=YK _ y (zX _) hy h
    obtain⟨c,i0,h1,h2,h3,h4⟩:=Qa (m:=m) hy.1 (by obtain⟨i,hi⟩:=hz.2.1;exact⟨i,LJ hz.1 hi⟩) hz.1.2.1 (fun i hi=>hs i (by grind))
    have hw:qR m A E fun i=>y i+(-c)*z i :=
     ⟨fun i=>by have:=h4 i;grind,fun i hi=>by dsimp only;rw[hy.2.1 i hi,hz.1.2.1 i hi];grind,fun j hj=>by rw[jE,jF,hy.2.2 j hj,hz.1.2.2 j hj];grind⟩
    have hsub:Sub (fun i=>y i+(-c)*z i) y:=fun i hi e=>by
     by_cases hzi:z i=0
     .dsimp only at hi;rw[e,hzi]at hi;exact hi (by grind)
     .exact hs i hzi e
    have hlt:=cnt_lt (m:=m) hsub (IZ hz.1 (i:=i0) (by grind)) (show y i0+(-c)*z i0=0 by rw[h3];grind) (hs i0 (by grind))
    match n,hn with
    |0,hn=>omega
    | n+1,hn =>
      have:=LK h0 hadd hmul n _ zom hw fun t ht hts=>hQ t ht fun i hi=>hsub i (hts i hi)
      have h5:=hadd _ _ this (hmul c z h1 (hQ z hz hs));have e:y=fun i=>y i+(-c)*z i+c*z i:=funext fun i=>by grind
      rw[e];exact h5
   .exact h0 y fun i=>jP.1 fun e=>h ⟨i,e⟩
def min_mul{c:Rat}(hc:0<c){y z:Nat->Rat}(hz:Min m A E z)(h:∀ i,y i=c*z i):Min m A E y:=by
 have e:y=fun i=>c*z i:=funext h
 have s1:∀ i,y i≠0↔z i≠0:=fun i=>by
  rw[h i];constructor
  .intro h1 h2;exact h1 (by rw[h2];grind)
  .intro h1 h2
   rcases Ja.1 h2 with h|h
   .rw[h]at hc;exact absurd hc zdd
   .exact h1 h
 refine⟨by rw[e];exact QZ (nX hc) hz.1,by obtain⟨i,hi⟩:=hz.2.1;exact⟨i,(s1 i).2 hi⟩,fun t ht ht0 hs i hi=>hz.2.2 t ht ht0 (fun i hi=>(s1 i).1 (hs i hi)) i ((s1 i).1 hi)⟩
def step{v:Nat}{y:Nat->Rat}(hy:Min m A (v::E) y) :
 (Min m A E y/\col m A y v=0)\/∃ z1 z2 c,Min m A E z1/\Min m A E z2/\0<col m A z1 v/\col m A z2 v<0/\0<c/\∀ i,y i=c*(- col m A z2 v*z1 i+col m A z1 v*z2 i):=by
 have hyE:qR m A E y:=⟨hy.1.1,hy.1.2.1,fun j hj=>hy.1.2.2 j (by simp[hj])⟩;have hv:col m A y v=0:=hy.1.2.2 v zsm;by_cases h:∃ z,Min m A E z/\Sub z y/\col m A z v=0
 .obtain⟨z,hz,hs,h0⟩:=h
  obtain⟨c,hc,hp⟩:=YH hy ⟨hz.1.1,hz.1.2.1,fun j hj=>by
   rcases yI.1 hj with rfl|hj
   .exact h0
   .exact hz.1.2.2 j hj⟩ hz.2.1 hs
  exact .inl ⟨min_mul hc hz hp,hv⟩
 .have hne:∀ z,Min m A E z->Sub z y->col m A z v≠0:=fun z h1 h2 h3=>h ⟨z,h1,h2,h3⟩
  have zero:∀ z:Nat->Rat,(∀ i,z i=0)->col m A z v=0:=fun z hz=>LI fun i _=>by rw[hz i];grind
  have pos:∃ z,Min m A E z/\Sub z y/\0<col m A z v:=by
   refine jP.1 fun hno=>?_
   have:=LK (m:=m) (A:=A) (E:=E) (Q:=fun z=>(∀ i,z i=0)\/col m A z v<0) (fun y h=>.inl h)
    (fun a b ha hb=>by
      rcases ha with ha|ha<;>rcases hb with hb|hb
      .exact .inl fun i=>by dsimp only;rw[ha i,hb i];grind
      .right;rw[jE,zero a ha];grind
      .right;rw[jE,zero b hb];grind
      .right;rw[jE];grind)
    (fun c a hc ha=>by
      rcases ha with ha|ha
      .exact .inl fun i=>by dsimp only;rw[ha i];grind
      .right;rw[jF];have:=nY hc (show 0< - col m A a v by grind);grind)
    _ y (zX _) hyE fun z hz hs=>.inr (by
      have h1:=hne z hz hs;have h2:¬ 0<col m A z v:=fun e=>hno ⟨z,hz,hs,e⟩
      grind)
   rcases this with h|h
   .obtain⟨i,hi⟩:=hy.2.1;exact hi (h i)
   .rw[hv]at h;exact absurd h zdd
  have neg:∃ z,Min m A E z/\Sub z y/\col m A z v<0:=by
   refine jP.1 fun hno=>?_
   have:=LK (m:=m) (A:=A) (E:=E) (Q:=fun z=>(∀ i,z i=0)\/0<col m A z v) (fun y h=>.inl h)
    (fun a b ha hb=>by
      rcases ha with ha|ha<;>rcases hb with hb|hb
      .exact .inl fun i=>by dsimp only;rw[ha i,hb i];grind
      .right;rw[jE,zero a ha];grind
      .right;rw[jE,zero b hb];grind
      .right;rw[jE];grind)
    (fun c a hc ha=>by
      rcases ha with ha|ha
      .exact .inl fun i=>by dsimp only;rw[ha i];grind
      .right;rw[jF];exact nY hc ha)
    _ y (zX _) hyE fun z hz hs=>.inr (by
      have h1:=hne z hz hs;have h2:¬ col m A z v<0:=fun e=>hno ⟨z,hz,hs,e⟩
      grind)
   rcases this with h|h
   .obtain⟨i,hi⟩:=hy.2.1;exact hi (h i)
   .rw[hv]at h;exact absurd h zdd
  obtain⟨z1,a1,a2,a3⟩:=pos;obtain⟨z2,b1,b2,b3⟩:=neg
  have hw:qR m A (v::E) fun i=>- col m A z2 v*z1 i+col m A z1 v*z2 i:=by
   have:=uGV (QZ (c:=- col m A z2 v) (by grind) a1.1) (QZ (c:=col m A z1 v) (by grind) b1.1);refine⟨this.1,this.2.1,fun j hj=>?_⟩;rcases yI.1 hj with rfl|hj
   .rw[jE,jF,jF];grind
   .exact this.2.2 j hj
  obtain⟨c,hc,hp⟩:=YH hy hw (by
   obtain⟨i,hi⟩:=a1.2.1;have h1:=LJ a1.1 hi;have h2:=b1.1.1 i;have h3:=nY (show 0< - col m A z2 v by grind) h1;have h4:=qV (nX a3) h2
   exact⟨i,by show-col m A z2 v*z1 i+col m A z1 v*z2 i≠0;grind⟩) (fun i hi e=>by
   have h1:z1 i=0:=jP.1 fun h=>a2 i h e
   have h2:z2 i=0:=jP.1 fun h=>b2 i h e
   apply hi;show-col m A z2 v*z1 i+col m A z1 v*z2 i=0
   rw[h1,h2];grind)
  exact .inr ⟨z1,z2,c,a1,b1,a3,b3,hc,hp⟩
def uTN{y:Nat->Rat}(hy:Min m A E y):cnt m y<=E.length+1:=by
 refine jP.1 fun hno=>?_
 obtain⟨i0,hi0⟩:=hy.2.1;let S:=(List.range m).filter fun i=>decide (y i≠0)
 have hS:∀ i,i∈S↔y i≠0:=fun i=>by
  simp only[S,gT,yN,tC];exact⟨fun h=>h.2,fun h=>⟨IZ hy.1 h,h⟩⟩
 have hnd:S.Nodup:=List.Pairwise.filter _ JZ;have hlen:S.length=cnt m y:=rfl;have hmem:i0∈S:=(hS i0).2 hi0;obtain⟨z,⟨i1,h1,h2⟩,h3,h4⟩:=QY E (S.erase i0) A (hnd.erase i0) (by rw[F9 hmem];omega);have hsup:∀ i,z i≠0->i∈S.erase i0:=fun i hi=>jP.1 fun e=>hi (h3 i e)
 have hz0:z i0=0:=h3 i0 fun e=>by have:=(Tw hnd).1 e;exact this.1 rfl
 have hcol:∀ j∈E,col m A z j=0:=fun j hj=>by
  have e:ls (List.range m) (fun i=>z i*A i j)=ls S (fun i=>z i*A i j):=by
   have:∀ l:List Nat,ls l (fun i=>z i*A i j)=ls (l.filter fun i=>decide (y i≠0)) (fun i=>z i*A i j):=fun l=>by
    induction l with
    |nil=>rfl
    | cons a l ih =>
      by_cases ha:y a≠0
      .rw[Mx (by simpa using ha),iE,iE,ih]
      .have hza:z a=0:=jP.1 fun e=>ha ((hS a).1 (JO (hsup a e)))
       rw[My (by simpa using ha),iE,ih,hza];grind
   exact this _
  unfold col;rw[e,YG hmem,hz0,h4 j hj];grind
 obtain⟨t,ht0,htp,htn,htc,hti⟩:∃ t:Nat->Rat,(∃ i,0<t i)/\(∀ i,t i≠0->y i≠0)/\(∀ i,m<=i->t i=0)/\(∀ j∈E,col m A t j=0)/\t i0=0:=by
  have hn:∀ i,z i≠0->y i≠0:=fun i hi=>(hS i).1 (JO (hsup i hi))
  have hm:∀ i,m<=i->z i=0:=fun i hi=>jP.1 fun e=>by have:=IZ hy.1 (hn i e);omega
  by_cases hp:0<z i1
  .exact⟨z,⟨i1,hp⟩,hn,hm,hcol,hz0⟩
  .exact⟨fun i=>(-1)*z i,⟨i1,by show 0<(-1)*z i1;grind⟩,fun i hi=>hn i fun e=>hi (by show(-1)*z i=0;rw[e];grind),fun i hi=>by show(-1)*z i=0;rw[hm i hi];grind,
    fun j hj=>by rw[jF,hcol j hj];grind,by show(-1)*z i0=0;rw[hz0];grind⟩
 obtain⟨c,i2,g1,g2,g3,g4⟩:=Qa (m:=m) hy.1.1 ht0 htn (fun i hi=>htp i (by grind))
 have hw:qR m A E fun i=>y i+(-c)*t i :=
  ⟨fun i=>by have:=g4 i;grind,fun i hi=>by dsimp only;rw[hy.1.2.1 i hi,htn i hi];grind,fun j hj=>by rw[jE,jF,hy.1.2.2 j hj,htc j hj];grind⟩
 have:=hy.2.2 _ hw ⟨i0,by show y i0+(-c)*t i0≠0;rw[hti];grind⟩ (fun i hi e=>by
  by_cases hzi:t i=0
  .rw[e,hzi]at hi;exact hi (by grind)
  .exact htp i hzi e)
 exact absurd (show y i2+(-c)*t i2=0 by rw[g3];grind) (this i2 (htp i2 (by grind)))
end Go.PI.FM
namespace Go.PI
open FM
variable {v k:Nat}
def uGH  {o:Option (List FR)}{a b:FR}{out:List FR}(h:elS v k o a b=some out):∃ O,o=some O/\(∀ r∈O,r∈out)/\(iC a b v k->qO (wW a b v)=true/\qG a b v∈out):=by
 unfold elS at h;cases o with
 |none=>cases h
 | some O =>
   dsimp only at h;refine⟨O,rfl,?_⟩
   split at h
   .split at h
    .rename_i hb
     cases h
     exact⟨fun r hr=>sV _ hr,fun _=>⟨hb,zsm⟩⟩
    .cases h
   .rename_i hg
    cases h
    exact⟨fun r hr=>hr,fun e=>absurd e hg⟩
def YL{v k:Nat}{a:FR}:∀ (m:List FR) (o:Option (List FR)) (out:List FR),m.foldl (fun o b=>elS v k o a b) o=some out->∃ O,o=some O/\(∀ r∈O,r∈out)/\∀ b∈m,iC a b v k->qO (wW a b v)=true/\qG a b v∈out
 |[],o,out,h=>⟨out,h,fun r hr=>hr,fun b hb=>by cases hb⟩
 | b::m,o,out,h=>by
   obtain⟨O1,h1,h2,h3⟩:=YL m _ out h;obtain⟨O,g1,g2,g3⟩:=uGH h1;refine⟨O,g1,fun r hr=>h2 r (g2 r hr),fun c hc hg=>?_⟩;rcases yI.1 hc with rfl|hc
   .obtain⟨e1,e2⟩:=g3 hg
    exact⟨e1,h2 _ e2⟩
   .exact h3 c hc hg
def YM{v k:Nat}{l:List FR}:∀ (m:List FR) (o:Option (List FR)) (out:List FR),m.foldl (fun o a=>elJ v k l a o l.length) o=some out->∃ O,o=some O/\(∀ r∈O,r∈out)/\∀ a∈m,∀ b∈l,iC a b v k->qO (wW a b v)=true/\qG a b v∈out
 |[],o,out,h=>⟨out,h,fun r hr=>hr,fun b hb=>by cases hb⟩
 | a::m,o,out,h=>by
   obtain⟨O1,h1,h2,h3⟩:=YM m _ out h;unfold elJ at h1;rw[kK]at h1;obtain⟨O,g1,g2,g3⟩:=YL l o O1 h1;refine⟨O,g1,fun r hr=>h2 r (g2 r hr),fun c hc b hb hg=>?_⟩;rcases yI.1 hc with rfl|hc
   .obtain⟨e1,e2⟩:=g3 b hb hg
    exact⟨e1,h2 _ e2⟩
   .exact h3 c hc b hb hg
def uPN{l out:List FR}  (h:jB l v k=some out):(∀ r∈l,r.c[v]! = 0->r∈out)/\∀ a∈l,∀ b∈l,iC a b v k->qO (wW a b v)=true/\qG a b v∈out:=by
 unfold jB elI at h;rw[kK]at h;obtain⟨O,h1,h2,h3⟩:=YM l _ out h;cases h1
 refine⟨fun r hr hz=>h2 r ?_,h3⟩;unfold jA;rw[kK];exact gT.2 ⟨hr,sJ hz⟩
def vS8:∀ k,lW k 0=0
 |0=>rfl
 |k+1=>by unfold lW;rw[zE rfl]
def YN:∀ (k x:Nat),lW k x=((List.range k).filter fun i=>x.testBit i).length
 |0,_=>rfl
 | k + 1,x=>by
   have ih:=YN k (x/2)
   have e:((List.range (k+1)).filter fun i=>x.testBit i).length=x%2+((List.range k).filter fun i=>(x/2).testBit i).length:=by
    rw[UA,List.filter_cons]
    have e1:((List.range k).map Nat.succ).filter (fun i=>x.testBit i)=((List.range k).filter fun i=>(x/2).testBit i).map Nat.succ:=by
     rw[List.filter_map]
     congr 1
     refine List.filter_congr fun i _=>?_
     simp[Nat.testBit_succ]
    rw[e1];by_cases h:x%2=1
    .rw[zE (by simp[Nat.testBit_zero,h])];simp;omega
    .rw[zB (by simp[Nat.testBit_zero,h])];simp;omega
   have hb:lW (k+1) x=if x=0 then 0 else x%2+lW k (x/2):=rfl
   rw[e,<- ih,hb]
   split
   .rename_i h;subst h;rw[show(0:Nat)/2=0 from rfl,vS8]
   .rfl
def uH2{m x:Nat}{y:Nat->Rat}(hm:m<=64)(hy:∀ i,m<=i->y i=0)(h:∀ i,x.testBit i=decide (y i≠0)):DD x=cnt m y:=by
 unfold DD cnt;rw[YN]
 have e:(List.range 64).filter (fun i=>x.testBit i)=(List.range m).filter fun i=>decide (y i≠0):=by
  obtain⟨d,hd⟩:∃ d,64=m+d:=⟨64-m,zom⟩;rw[hd,List.range_add,NI]
  have:((List.range d).map fun i=>m+i).filter (fun i=>x.testBit i)=[]:=by
   rw[List.filter_eq_nil_iff];intro i hi;obtain⟨j,_,rfl⟩:=zW.1 hi;rw[h,hy _ (Aj _ _)];simp
  rw[this,mV];exact List.filter_congr fun i _=>h i
 rw[e]
structure RepR(m w:Nat)(A:Nat->Nat->Rat)(y:Nat->Rat)(r:FR)(s:Rat):Prop where
 pos:0<s
 eq:∀ j,j<w->((r.c[j]! : Int):Rat)=s*col m A y j
 bit:∀ i,r.fm.testBit i=decide (y i≠0)
def Rep(m w:Nat)(A:Nat->Nat->Rat)(E:List Nat)(l:List FR):Prop:=∀ y,Min m A E y->∃ r∈l,∃ s,RepR m w A y r s
def Qb{s x:Rat}{a:Int}(hs:0<s)(h:((a:Int):Rat)=s*x):(0<a↔0<x)/\(a<0↔x<0)/\(a=0↔x=0):=by
 have h1:(0<a↔(0:Rat)<(a:Rat)):=by have:=T9 (a:=0) (b:=a);simpa using this.symm
 have h2:(a<0↔(a:Rat)<0):=by have:=T9 (a:=a) (b:=0);simpa using this.symm
 have p1:0<x->0<s*x:=fun hx=>nY hs hx
 have p2:x<0->s*x<0:=fun hx=>by have:=nY hs (show 0< -x by grind);grind
 have p3:x=0->s*x=0:=fun hx=>by rw[hx];grind
 have htri:x<0\/x=0\/0<x:=by
  by_cases a:x<0
  .exact zF a
  .by_cases b:x=0
   .exact zC (zF b)
   .exact zC (zC (by grind))
 rcases htri with hx|hx|hx
 .have:=p2 hx
  rw[h1,h2,h];refine⟨by grind,by grind,⟨fun e=>?_,fun e=>by grind⟩⟩;have:((a:Int):Rat)<0:=by rw[h];exact this
  have:=h2.2 this;omega
 .have:=p3 hx
  have ha:a=0:=by
   have e:((a:Int):Rat)=((0:Int):Rat):=by rw[h,this];rfl
   exact Rat.intCast_inj.1 e
  subst ha;refine⟨by constructor<;>intro h9<;>grind,by constructor<;>intro h9<;>grind,by simp[hx]⟩
 .have:=p1 hx
  rw[h1,h2,h];refine⟨by grind,by grind,⟨fun e=>?_,fun e=>by grind⟩⟩;have:(0:Rat)<((a:Int):Rat):=by rw[h];exact this
  have:=h1.2 this;omega
def uDE{m w:Nat}{A:Nat->Nat->Rat}{E:List Nat}{l out:List FR}(hm:m<=62)(hv:v<w)(hl:∀ r∈l,okRw w r)(hk:k=E.length+1)(hR:Rep m w A E l)(h:jB l v k=some out):Rep m w A (v::E) out:=by
 obtain⟨m1,m2⟩:=uPN h;intro y hy;rcases FM.step hy with⟨h1,h2⟩|⟨z1,z2,c,h1,h2,p1,p2,hc,he⟩
 .obtain⟨r,hr,s,hs⟩:=hR y h1
  exact⟨r,m1 r hr ((Qb hs.pos (hs.eq v hv)).2.2.2 h2),s,hs⟩
 .obtain⟨r1,hr1,s1,q1⟩:=hR z1 h1
  obtain⟨r2,hr2,s2,q2⟩:=hR z2 h2;have a1:=(Qb q1.pos (q1.eq v hv)).1.2 p1;have a2:=(Qb q2.pos (q2.eq v hv)).2.1.2 p2
  have hbit:∀ i,(r1.fm ||| r2.fm).testBit i=decide (y i≠0):=fun i=>by
   rw[Nat.testBit_or,q1.bit,q2.bit,he i];have n1:=h1.1.1 i;have n2:=h2.1.1 i;have g1:0<=- col m A z2 v*z1 i:=qV (by grind) n1;have g2:0<=col m A z1 v*z2 i:=qV (by grind) n2;by_cases e1:z1 i=0
   .by_cases e2:z2 i=0
    .rw[e1,e2];simp;grind
    .have:0<col m A z1 v*z2 i:=nY p1 (by grind)
     have:=nY hc (show 0< - col m A z2 v*z1 i+col m A z1 v*z2 i by grind);rw[sJ e2,gZ,eq_comm,tC]
     grind
   .have:0< - col m A z2 v*z1 i:=nY (by grind) (by grind)
    have:=nY hc (show 0< - col m A z2 v*z1 i+col m A z1 v*z2 i by grind);rw[sJ e1,gY,eq_comm,tC]
    grind
  have hcnt:=uH2 (m:=m) zom hy.1.2.1 hbit;have hkoh:=uTN hy;have hg:iC r1 r2 v k:=⟨a1,a2,by rw[hcnt,hk];simpa using hkoh⟩;obtain⟨b1,b2⟩:=m2 r1 hr1 r2 hr2 hg;obtain⟨e,e1,e2⟩:=Kg b1;have hlen:(wW r1 r2 v).length=w:=by simp[wW,(hl r1 hr1).len]
  have hep:(0:Rat)<(e:Rat):=by exact_mod_cast e1
  have hne:(e:Rat)≠0:=by grind
  have hcn:c≠0:=by grind
  refine⟨_,b2,s1*s2/(c*e),⟨?_,fun j hj=>?_,hbit⟩⟩
  .rw[Rat.div_def]
   exact nY (nY q1.pos q2.pos) (Cg.2 (nY hc hep))
  .have h3:=e2 j zom
   have h4:(wW r1 r2 v)[j]! = r1.c[j]!*(0-r2.c[v]!)+r2.c[j]!*r1.c[v]! := by
    rw[zS _ j zom];simp only[wW,vS,oQ]
   rw[h4]at h3
   have h5:(((qG r1 r2 v).c[j]! : Int):Rat)*(e:Rat)=s1*col m A z1 j*(0-s2*col m A z2 v)+s2*col m A z2 j*(s1*col m A z1 v):=by
    rw[<- q1.eq j hj,<- q2.eq v hv,<- q2.eq j hj,<- q1.eq v hv];have:=zV (fun z:Int=>(z:Rat)) h3;simp only[Jb,Rat.intCast_add,NR]at this;exact this
   have h6:col m A y j=c*(- col m A z2 v*col m A z1 j+col m A z1 v*col m A z2 j):=by
    have ey:y=fun i=>c*(- col m A z2 v*z1 i+col m A z1 v*z2 i):=funext he
    rw[ey,jF,jE,jF,jF]
   have h7:(((qG r1 r2 v).c[j]! : Int):Rat)*(e:Rat)*c=s1*s2*col m A y j:=by
    rw[h5,h6];grind
   have h8:c*(e:Rat)≠0:=fun e0=>by rcases Ja.1 e0 with h|h;exact hcn h;exact hne h
   have h9:s1*s2/(c*e)*(c*e)=s1*s2:=Ad h8
   have h10:((((qG r1 r2 v).c[j]! : Int):Rat)-s1*s2/(c*e)*col m A y j)*(c*e)=0:=by
    have:((((qG r1 r2 v).c[j]! : Int):Rat)-s1*s2/(c*e)*col m A y j)*(c*e)=(((qG r1 r2 v).c[j]! : Int):Rat)*(e:Rat)*c-(s1*s2/(c*e)*(c*e))*col m A y j:=by grind
    rw[this,h9,h7];grind
   rcases Ja.1 h10 with h|h
   .grind
   .exact absurd h h8
open FM
variable {l:List FR}
def uRS{α:Type}[Inhabited α]{l:List α}{i:Nat}(h:i<l.length):l[i]! ∈ l:=by rw[zS l i h];exact wA h
def AB(l0:List FR)(i j:Nat):Rat:=((l0[i]!.c[j]! : Int):Rat)
def YO(i:Nat)(f:Nat->Rat):∀ (S:List Nat),S.Nodup->i∈S->(∀ j,j≠i->f j=0)->ls S f=f i
 |[],_,h,_=>by cases h
 | a::S,hn,h,h0=>by
   rw[iE];obtain⟨n1,n2⟩:=mU.1 hn;by_cases e:a=i
   .subst e
    rw[LI fun j hj=>h0 j fun e=>n1 (by rw[<- e];exact hj)];grind
   .rw[h0 a e,YO i f S n2 (by rcases yI.1 h with h|h;exact absurd h.symm e;exact h) h0];grind
def uDF{w:Nat}{l0:List FR}(hfm:∀ i,i<l0.length->l0[i]!.fm=2^i):Rep l0.length w (AB l0) [] l0:=by
 intro y hy;obtain⟨i,hi⟩:=hy.2.1;have him:i<l0.length:=IZ hy.1 hi;have hp:=LJ hy.1 hi;have hz:qR l0.length (AB l0) [] (fun j=>if j=i then 1 else 0):=⟨fun j=>by dsimp only;split<;>decide,fun j hj=>by dsimp only;rw[zB zom],fun j hj=>by cases hj⟩
 have hs:=hy.2.2 _ hz ⟨i,by rw[zE rfl];decide⟩ (fun j hj=>by
  by_cases e:j=i
  .rw[e];exact hi
  .rw[zB e]at hj;exact absurd rfl hj)
 have h0:∀ j,j≠i->y j=0:=fun j hj=>jP.1 fun e=>by
  have:=hs j e;dsimp only at this;rw[zB hj]at this;exact this rfl
 refine⟨l0[i]!,uRS him,(y i)⁻¹,⟨Cg.2 hp,fun j _=>?_,fun j=>?_⟩⟩
 .unfold col
  rw[YO i _ _ JZ (yN.2 him) fun j hj=>by rw[h0 j hj];grind];have:(y i)⁻¹*y i=1:=Rat.inv_mul_cancel _ (by grind);have e:(y i)⁻¹*(y i*AB l0 i j)=(y i)⁻¹*y i*AB l0 i j:=by grind
  rw[e,this];unfold AB;grind
 .rw[hfm i him,Nat.testBit_two_pow]
  by_cases e:i=j
  .subst e;rw[sJ rfl,eq_comm,tC];exact hi
  .rw[qL e,eq_comm,CQ]
   exact fun h=>h (h0 j (y9 e))
def YP {n w:Nat} {l0:List FR} (hl:∀ r∈l0,okRw w r) (hm:l0.length<=62) (hnw:n<=w) (hfm:∀ i,i<l0.length->l0[i]!.fm=2^i):∀ k,k<=n->∀ s,feI n l0 k=some s->∃ E:List Nat,E.length=k/\(∀ j∈E,j<n)/\Rep l0.length w (AB l0) E s.l
 |0,_,s,h=>by cases h;exact⟨[],rfl,fun j hj=>(by cases hj),uDF hfm⟩
 | k + 1, hk,s,h=>by
   unfold feI at h;cases hp:feI n l0 k with
   |none=>rw[hp]at h;cases h
   | some s0 =>
     rw[hp]at h;obtain⟨E,e1,e2,e3⟩:=YP hl hm hnw hfm k zom s0 hp;have hP:=FB hl hnw k zom s0 hp;obtain⟨b1,_⟩:=K3 s0.l s0.done n;dsimp only at h;unfold feS at h;cases hb:l9 s0.l s0.done n with
     |none=>rw[hb]at h;cases h
     | some b =>
       rw[hb]at h;dsimp only at h;have hbn:=(b1 b hb).1
       split at h
       .cases h
       .cases hE:jB s0.l b (k+1) with
        |none=>rw[hE]at h;cases h
        | some l' =>
          rw[hE]at h;cases h
          refine⟨b::E,by simp[e1],fun j hj=>?_,uDE hm zom hP.rw zom e3 hE⟩;rcases yI.1 hj with rfl|hj
          .exact hbn
          .exact e2 j hj
def YQ{m w n:Nat}{A:Nat->Nat->Rat}{E:List Nat}  (hw:n+1<w)(hR:Rep m w A E l){t:Rat}(ht:∀ r∈l,0<=((r.c[n]! : Int):Rat)*t+((r.c[n+1]! : Int):Rat)){y:Nat->Rat}(hy:qR m A E y):0<=col m A y n*t+col m A y (n+1):=by
 refine LK (Q:=fun y=>0<=col m A y n*t+col m A y (n+1)) (fun y h0=>?_) (fun a b ha hb=>?_) (fun c a hc ha=>?_) _ y (zX _) hy fun z hz _=>?_
 .have e:∀ j,col m A y j=0:=fun j=>by unfold col;exact LI fun i _=>by rw[h0 i];grind
  rw[e,e];grind
 .try dsimp only at ha hb ⊢
  rw[jE,jE];grind
 .try dsimp only at ha ⊢
  rw[jF,jF];have:=qV (nX hc) ha
  grind
 .obtain⟨r,hr,s,hs⟩:=hR z hz
  have h1:=ht r hr;rw[hs.eq n zom,hs.eq (n+1) hw]at h1
  try dsimp only
  refine mX.1 fun h2=>?_
  have:=nY hs.pos (show 0< - (col m A z n*t+col m A z (n+1)) by grind)
  grind
def Qc{a c:Int}(h:a≠0):(a:Rat)*enV a c+(c:Rat)=0:=by
 unfold enV;by_cases ha:0<a
 .rw[zE ha,GR]
  have e:((a.natAbs:Nat):Rat)=(a:Rat):=by
   have h1:((a.natAbs:Nat):Int)=a:=zom
   have h2:(((a.natAbs:Nat):Int):Rat)=((a:Int):Rat):=by rw[h1]
   exact h2
  rw[e];have hp:=bC ha;have h4:(a:Rat)*(((0-c:Int):Rat)/(a:Rat))=((0-c:Int):Rat):=by rw[Jd];exact Ad (fun e=>by rw[e]at hp;exact absurd hp zdd)
  rw[h4,NR];grind
 .rw[zB ha,GR]
  have e:((a.natAbs:Nat):Rat)=- (a:Rat):=by
   have:((a.natAbs:Nat):Int)=- a:=zom
   have h2:(((a.natAbs:Nat):Int):Rat)=((- a:Int):Rat):=by rw[this]
   rw[Rat.intCast_neg]at h2;exact h2
  rw[e]
  have hp:(0:Rat)< - (a:Rat):=by
   have:=bC (a:=-a) zom
   rwa [Rat.intCast_neg]at this
  have h4:- (a:Rat)*((c:Rat) / - (a:Rat))=(c:Rat):=by rw[Jd];exact Ad (fun e=>by rw[e]at hp;exact absurd hp zdd)
  grind
structure EnF(l:List FR)(n i:Nat)(s:EnS):Prop where
 up:∀ j,j<i->0<l[j]!.c[n]! -> s.low=true/\enV l[j]!.c[n]! l[j]!.c[n+1]! <= s.least
 dn:∀ j,j<i->l[j]!.c[n]! < 0->s.high=true/\s.most<=enV l[j]!.c[n]! l[j]!.c[n+1]!
 zr:∀ j,j<i->l[j]!.c[n]! = 0->0<=l[j]!.c[n+1]!
def uGG  {n i:Nat}{s:EnS}(h:EnF l n i s)(h0:¬ (l[i]!.c[n]! = 0/\l[i]!.c[n+1]! < 0)):EnF l n (i+1) (enS s l[i]!.c[n]! l[i]!.c[n+1]!):=by
 generalize ha:l[i]!.c[n]! = a at *
 generalize hc:l[i]!.c[n+1]! = c at *
 unfold enS;by_cases e0:a=0
 .rw[zE e0]
  refine⟨fun j hj hp=>?_,fun j hj hp=>?_,fun j hj hp=>?_⟩
  .by_cases e:j=i
   .subst e;omega
   .exact h.up j zom hp
  .by_cases e:j=i
   .subst e;omega
   .exact h.dn j zom hp
  .by_cases e:j=i
   .subst e;omega
   .exact h.zr j zom hp
 rw[zB e0];by_cases e1:0<a
 .rw [zE e1]
  refine⟨fun j hj hp=>⟨rfl,?_⟩,fun j hj hp=>?_,fun j hj hp=>?_⟩
  .dsimp only
   by_cases e:j=i
   .subst e
    rw[ha,hc]
    split
    .exact nE
    .rename_i hn
     exact mX.1 fun e=>hn (zC e)
   .obtain⟨g1,g2⟩:=h.up j zom hp
    split
    .rename_i hn
     rcases hn with hn|hn
     .rw[g1]at hn;cases hn
     .exact Cf g2 (nX hn)
    .exact g2
  .by_cases e:j=i
   .subst e;omega
   .exact h.dn j zom hp
  .by_cases e:j=i
   .subst e;omega
   .exact h.zr j zom hp
 .rw [zB e1]
  refine⟨fun j hj hp=>?_,fun j hj hp=>⟨rfl,?_⟩,fun j hj hp=>?_⟩
  .by_cases e:j=i
   .subst e;omega
   .exact h.up j zom hp
  .dsimp only
   by_cases e:j=i
   .subst e
    rw[ha,hc]
    split
    .exact nE
    .rename_i hn
     exact mX.1 fun e=>hn (zC e)
   .obtain⟨g1,g2⟩:=h.dn j zom hp
    split
    .rename_i hn
     rcases hn with hn|hn
     .rw[g1]at hn;cases hn
     .exact Cf (nX hn) g2
    .exact g2
  .by_cases e:j=i
   .subst e;omega
   .exact h.zr j zom hp
def Qd{l:List FR}{n:Nat}:∀ i,i<=l.length->∀ s,enI l n i=some s->EnF l n i s
 |0,_,s,_=>⟨fun j hj=>by omega,fun j hj=>by omega,fun j hj=>by omega⟩
 | i + 1,hi,s,h=>by
   unfold enI at h;cases hp:enI l n i with
   |none=>rw[hp]at h;cases h
   | some c =>
     rw[hp]at h;dsimp only at h
     split at h
     .cases h
     .rename_i h0
      rw[<- Ak h];exact uGG (Qd i zom c hp) h0
def uUL  {n:Nat}(t:Rat)(h:(rE l n).1=1/\t=(rE l n).2):∀ r∈l,0<=((r.c[n]! : Int):Rat)*t+((r.c[n+1]! : Int):Rat):=by
 unfold rE enR at h;cases he:enI l n l.length with
 |none=>rw[he]at h;exact absurd h.1 zdd
 | some s =>
   rw[he]at h;have hF:=Qd l.length (zX _) s he;dsimp only at h
   split at h
   .exact absurd h.1 zdd
   .rename_i h1
    split at h
    .exact absurd h.1 zdd
    .rename_i h2
     intro r hr;obtain⟨j,hj,rfl⟩:=uE hr;have u:=hF.up j hj;have d:=hF.dn j hj;have z:=hF.zr j hj;rw[zS l j hj]at u d z;obtain⟨_,ht⟩:=h;generalize l[j].c[n]! = a at *
     generalize l[j].c[n+1]! = c at *
     have hlow:s.low=true:=by cases hs:s.low;exact absurd hs h2;rfl
     rcases Ai a 0 with ha|ha|ha
     .obtain⟨g1,g2⟩:=d ha
      have h3:s.least<=s.most:=mX.1 fun e=>h1 ⟨hlow,g1,e⟩
      have hm:=Qc (c:=c) (show a≠0 by omega);have h4:t<=enV a c:=by rw[ht];exact Cf h3 g2
      have hp:(0:Rat)< - (a:Rat):=by
       have:=bC (a:=-a) zom
       rwa [Rat.intCast_neg]at this
      have:=qV (nX hp) (show 0<=enV a c-t by grind)
      grind
     .have h5:=z ha
      subst ha;have:(0:Rat)<=(c:Rat):=by exact_mod_cast h5
      grind
     .obtain⟨g1,g2⟩:=u ha
      have hm:=Qc (c:=c) (show a≠0 by omega);have h4:enV a c<=t:=by rw[ht];exact g2
      have:=qV (nX (bC ha)) (show 0<=t-enV a c by grind)
      grind
open FM
def uPI{l:List FR}{n:Nat}(h:(rE l n).1=3):∃ T:Rat,∀ t,t<=T->∀ r∈l,0<=((r.c[n]! : Int):Rat)*t+((r.c[n+1]! : Int):Rat):=by
 unfold rE enR at h;cases he:enI l n l.length with
 |none=>rw[he]at h;exact absurd h zdd
 | some s =>
   rw[he]at h;have hF:=Qd l.length (zX _) s he;dsimp only at h
   split at h
   .exact absurd h zdd
   .split at h
    .rename_i h2
     refine⟨s.most,fun t ht r hr=>?_⟩;obtain⟨j,hj,rfl⟩:=uE hr;have u:=hF.up j hj;have d:=hF.dn j hj;have z:=hF.zr j hj;rw[zS l j hj]at u d z;generalize l[j].c[n]! = a at *
     generalize l[j].c[n+1]! = c at *
     rcases Ai a 0 with ha|ha|ha
     .obtain⟨g1,g2⟩:=d ha
      have hm:=Qc (c:=c) (show a≠0 by omega);have h4:t<=enV a c:=Cf ht g2
      have hp:(0:Rat)< - (a:Rat):=by
       have:=bC (a:=-a) zom
       rwa [Rat.intCast_neg]at this
      have:=qV (nX hp) (show 0<=enV a c-t by grind)
      grind
     .have h5:=z ha
      subst ha;have:(0:Rat)<=(c:Rat):=by exact_mod_cast h5
      grind
     .have:=(u ha).1
      rw[h2]at this;cases this
    .exact absurd (show(1:Int)=3 from h) zdd
def uUK(l:List FR)(n:Nat):(rE l n).1=0\/(rE l n).1=1\/(rE l n).1=2\/(rE l n).1=3:=by
 unfold rE enR
 split
 .exact zC (zC (zF rfl))
 .split
  .exact zC (zC (zF rfl))
  .split
   .exact zC (zC (zC rfl))
   .exact zC (zF rfl)
def YR(A:List QF)(n:Nat):(uD A n).1=0\/(uD A n).1=1\/(uD A n).1=2\/(uD A n).1=3:=by
 unfold uD
 split
 .unfold feV
  split
  .exact zF rfl
  .exact uUK _ _
 .exact zF rfl
def gJ(A:List QF)(n:Nat)(u:Nat->Rat)(j:Nat):Rat:=ls (List.range A.length) (fun i=>u i*(frX A[i]! (n+1))[j]!)
def vSL{A:List QF}{n:Nat}{u:Nat->Rat}(h0:∀ i,0<=u i)(hz:∀ j,j<n->gJ A n u j=0):((uD A n).1=1->0<=gJ A n u n*(uD A n).2+gJ A n u (n+1))/\((uD A n).1=3->∃ T:Rat,∀ t,t<=T->0<=gJ A n u n*t+gJ A n u (n+1)):=by
 unfold uD
 split
 .rename_i hc
  obtain⟨h62,hB⟩:=hc
  have hden:∀ i,i<A.length->∃ s:Rat,0<s/\∀ j,j<n+2->(((rw0 A n A.length)[i]!.c[j]! : Int):Rat)=s*(frX A[i]! (n+1))[j]! := fun i hi=>by
   obtain⟨g1,g2,s,hs,g3⟩:=Pw (hB i hi);refine⟨s,hs,fun j hj=>?_⟩
   have e:(rw0 A n A.length)[i]!.c=(rD (frX A[i]! (n+1))).1:=by
    rw[zS _ i (by rw[K4];exact hi)];unfold rw0;rw[vS,oQ]
   rw[e];exact g3 j (by rw[iA];exact hj)
  have hfm:∀ i,i<(rw0 A n A.length).length->(rw0 A n A.length)[i]!.fm=2^i:=fun i hi=>by
   have hi2:i<A.length:=by rw[K4]at hi;exact hi
   have e:(rw0 A n A.length)[i]?=some ⟨(rD (frX A[i]! (n+1))).1,2^i⟩:=by
    unfold rw0;rw[uF,List.getElem?_range hi2];rfl
   rw[zS _ i hi,Ak ((wN hi).symm.trans e)]
  have hl:=K5 hB h62;have hlen:=K4 A n A.length;generalize rw0 A n A.length=l0 at *
  let sc:Nat->Rat:=fun i=>if h:i<A.length then Classical.choose (hden i h) else 1
  have hsc:∀ i,i<A.length->0<sc i/\∀ j,j<n+2->((l0[i]!.c[j]! : Int):Rat)=sc i*(frX A[i]! (n+1))[j]! := fun i hi=>by
   show 0<(if h:i<A.length then Classical.choose (hden i h) else 1)/\∀ j,j<n+2->_=(if h:i<A.length then Classical.choose (hden i h) else 1)*_
   rw[dif_pos hi];exact M6 (hden i hi)
  let y:Nat->Rat:=fun i=>if i<A.length then u i*(sc i)⁻¹ else 0
  have hy:∀ i,i<A.length->y i=u i*(sc i)⁻¹:=fun i hi=>zE hi
  have hcol:∀ j,j<n+2->col l0.length (AB l0) y j=gJ A n u j:=fun j hj=>by
   unfold col gJ;rw[hlen];refine AA fun i hi=>?_
   have hi:=yN.1 hi;obtain⟨p1,p2⟩:=hsc i hi;rw[hy i hi];unfold AB;rw[p2 j hj];have:(sc i)⁻¹*sc i=1:=Rat.inv_mul_cancel _ (by grind);have e:u i*(sc i)⁻¹*(sc i*(frX A[i]! (n+1))[j]!)=u i*((sc i)⁻¹*sc i)*(frX A[i]! (n+1))[j]! := by grind
   rw[e,this];grind
  have hcone:∀ E:List Nat,(∀ j∈E,j<n)->qR l0.length (AB l0) E y:=fun E hE=>⟨fun i=>by
   by_cases hi:i<A.length
   .rw[hy i hi]
    exact qV (h0 i) (nX (Cg.2 (hsc i hi).1))
   .show 0<=(if i<A.length then u i*(sc i)⁻¹ else 0)
    rw[zB hi];exact nE,fun i hi=>zB zom,fun j hj=>by rw[hcol j (by have:=hE j hj;omega)];exact hz j (hE j hj)⟩
  unfold feV;cases hf:feI n l0 n with
  |none=>exact⟨fun h=>absurd (show(0:Int)=1 from h) zdd,fun h=>absurd (show(0:Int)=3 from h) zdd⟩
  | some s =>
    dsimp only;obtain⟨E,e1,e2,e3⟩:=YP hl zom zom hfm n (zX _) s hf;have hC:=hcone E e2;refine⟨fun h1=>?_,fun h3=>?_⟩
    .have:=YQ (n:=n) zom e3 (uUL _ ⟨h1,rfl⟩) hC
     rwa [hcol n zom,hcol (n+1) zom]at this
    .obtain⟨T,hT⟩:=uPI h3
     exact⟨T,fun t ht=>by
      have:=YQ (n:=n) zom e3 (hT t ht) hC
      rwa [hcol n zom,hcol (n+1) zom]at this⟩
 .exact⟨fun h=>absurd h zdd,fun h=>absurd h zdd⟩
open FM
def eD(m j:Nat):List Rat:=(List.range m).map fun i=>if i=j then 1 else 0
def YS(l:List QT)(j:Nat):∀ m,nP l (fun i=>if i=j then 1 else 0) m=if j<m then cf l j else 0
 |0=>rfl
 | m + 1=>by
   simp only[nP];rw[YS l j m];by_cases h1:j<m
   .rw[zE h1,zB (show ¬ m=j by omega),zE (show j<m+1 by omega)];grind
   .by_cases h2:m=j
    .subst h2;rw[zB h1,zE rfl,zE (nC _)];grind
    .rw[zB h1,zB h2,zB (show ¬ j<m+1 by omega)];grind
def LL{f:QF}{m j:Nat}(hf:∀ t∈f.ts,0<=t.1/\t.1<(m:Int))(hj:j<m):Bg f (eD m j)=cf f.ts j:=by
 rw[WR,<- QR (y:=fun i=>if i=j then 1 else 0) (m:=m) (fun i hi=>by
  unfold eD
  rw[zS _ i (by simpa using hi),vS,oQ]) f.ts hf,YS,zE hj]
def YT(m:Nat)(g:Nat->Rat):ls (List.range (m+1)) g=g 0+ls (List.range m) (fun i=>g (i+1)):=by
 rw[UA,iE]
 congr 1
 unfold ls;rw[qC];rfl
end Go.PI
namespace Go.PI.SX
variable {l:List Nat}{i v x:Nat}
def YU   (h:l.Nodup)(hx:x∉l):(l.set i x).Nodup:=by
 rw[List.Nodup,F8]at *
 intro a b ha hb hab;rw[kL,kL];rw[Am]at ha hb;have h1:∀ k (hk:k<l.length),l[k]≠x:=fun k hk e=>hx (e ▸ wA hk)
 split<;>split
 .omega
 .exact(h1 b hb).symm
 .exact h1 a ha
 .exact h a b ha hb hab
def LM   (h:l.Nodup)(hi:i<l.length)(hx:x≠l[i]!):l[i]! ∉ l.set i x:=by
 intro hm;obtain⟨j,hj,e⟩:=uE hm;rw[Am]at hj;rw[kL]at e
 split at e
 .exact hx e
 .rename_i hne
  rw[<- gp hj]at e;exact hne (nodup_get h hj hi e).symm
def YV   (hv:v∈l)(hne:v≠l[i]!):v∈l.set i x:=by
 obtain⟨j,hj,rfl⟩:=mem_ix hv;have:i≠j:=fun e=>hne (by rw[e])
 rw[gp hj,<- CW this (a:=x) (by simpa using hj)];exact wA _
section
variable {T:Tab} {r e:Nat}
def Wf.nsn(W:Wf T):T.ns.Nodup:=(iK.1 W.nd).2.1
def Wf.bsn(W:Wf T):T.bs.Nodup:=(iK.1 W.nd).1
def Wf.dis(W:Wf T)  (h:v∈T.bs)(h':v∈T.ns):False:=(iK.1 W.nd).2.2 v h v h' rfl
def uOF{f l:List Rat}:(vC e f l).length=l.length:=by simp[vC]
def Df{l:List Rat}:(x9 e l).length=l.length:=by simp[x9]
def AC(W:Wf T)  (hi:i<T.bs.length):(zY T r e).fs[i]! = if r=i then x9 e T.fs[r]! else vC e (x9 e T.fs[r]!) T.fs[i]! := by
 unfold zY;dsimp only;rw[sN (by simpa [W.fl]using hi),tH (by rw[W.fl];exact hi)]
def YW(W:Wf T)(hr:r<T.bs.length)(he:e<T.ns.length):Wf (zY T r e):=by
 have hb:=x6 hr;have hn:=x6 he;refine⟨by simp[zY,W.fl],fun i hi=>?_,by simp[zY,vC,W.ol],?_⟩
 .have hi':i<T.bs.length:=by simpa [zY]using hi
  rw[AC W hi']
  split
  .rw[Df,W.ll r hr];simp[zY]
  .rw[uOF,W.ll i hi'];simp[zY]
 .refine iK.2 ⟨YU W.bsn fun h=>W.dis h hn,YU W.nsn fun h=>W.dis hb h,fun a ha b hb' heq=>?_⟩
  subst heq;rcases bR ha with h1|h1<;>rcases bR hb' with h2|h2
  .exact W.dis h1 h2
  .subst h2;exact LM W.bsn hr (fun h=>W.dis hb (h ▸ hn)) ha
  .subst h1;exact LM W.nsn he (fun h=>W.dis (h ▸ hb) hn) hb'
  .exact W.dis hb (h2 ▸ h1 ▸ hn)
def map_set{z:Nat->Rat}   : (l.set e v).map z=(l.map z).set e (z v):=by simp
def Qe(W:Wf T)(hr:r<T.bs.length)(he:e<T.ns.length)(ha:T.fs[r]![e]! ≠ 0){z:Nat->Rat} :
 z T.ns[e]! = dt (x9 e T.fs[r]!) ((T.ns.set e T.bs[r]!).map z)↔z T.bs[r]! = dt T.fs[r]! (T.ns.map z):=by
 have hl:=W.ll r hr;rw[map_set,uUQ (by rw[Am,z6];exact hl) (by simpa using he) ha,Bp (by simpa using he) (by rw[z6];exact hl),sN (by simpa using he),zE rfl,tH he];constructor
 .intro h
  have:T.fs[r]![e]!*z T.ns[e]! = z T.bs[r]!-(dt T.fs[r]! (T.ns.map z)+T.fs[r]![e]!*(z T.bs[r]!-z T.ns[e]!)-T.fs[r]![e]!*z T.bs[r]!):=by
   rw (occs:=.pos [1]) [h];grind
  grind
 .intro h;grind
def Qf(W:Wf T)(he:e<T.ns.length){l f:List Rat}(hl:l.length=T.ns.length+1)(hf:f.length=T.ns.length+1){z:Nat->Rat}(h:z T.ns[e]! = dt f ((T.ns.set e T.bs[r]!).map z)) :
 dt (vC e f l) ((T.ns.set e T.bs[r]!).map z)=dt l (T.ns.map z):=by
 have hz:dt f ((T.ns.map z).set e (z T.bs[r]!))=z T.ns[e]! := by rw[<- map_set];exact h.symm
 rw[map_set,uUP (by simp[hl]) (by simp[hf]) (by simpa using he),hz,Bp (by simpa using he) (by simp[hl]),sN (by simpa using he),zE rfl,tH he];grind
def Br  (hi:i<T.bs.length):(zY T r e).bs[i]! = if r=i then T.ns[e]! else T.bs[i]! := by
 unfold zY;dsimp only;rw[sN hi]
def Qg(W:Wf T)(hr:r<T.bs.length)(he:e<T.ns.length)(ha:T.fs[r]![e]! ≠ 0){z:Nat->Rat}:Sol (zY T r e) z↔Sol T z:=by
 have hlen:(zY T r e).bs.length=T.bs.length:=by simp[zY]
 have hns:(zY T r e).ns=T.ns.set e T.bs[r]! := rfl;have hfl:(x9 e T.fs[r]!).length=T.ns.length+1:=by rw[Df,W.ll r hr]
 constructor
 .intro h
  have h0:=h r zom;rw[Br hr,zE rfl,AC W hr,zE rfl,hns]at h0;intro i hi;by_cases hri:r=i
  .subst hri;exact(Qe W hr he ha).1 h0
  .have h1:=h i zom
   rw[Br hi,zB hri,AC W hi,zB hri,hns,Qf W he (W.ll i hi) hfl h0]at h1;exact h1
 .intro h
  have h0:=(Qe W hr he ha).2 (h r hr);intro i hi;have hi':i<T.bs.length:=zom
  rw[Br hi',AC W hi',hns];by_cases hri:r=i
  .subst hri;rw[zE rfl,zE rfl];exact h0
  .rw[zB hri,zB hri,Qf W he (W.ll i hi') hfl h0];exact h i hi'
def uDN(W:Wf T)(hr:r<T.bs.length)(he:e<T.ns.length)(ha:T.fs[r]![e]! ≠ 0){z:Nat->Rat}(hs:Sol T z){l:List Rat}(hl:l.length=T.ns.length+1) :
 dt (vC e (x9 e T.fs[r]!) l) ((zY T r e).ns.map z)=dt l (T.ns.map z) :=
 Qf W he hl (by rw[Df,W.ll r hr]) ((Qe W hr he ha).2 (hs r hr))
def YX(W:Wf T)(hr:r<T.bs.length)(he:e<T.ns.length)  : v∈(zY T r e).bs↔v=T.ns[e]! \/ v∈T.bs/\v≠T.bs[r]! := by
 have hb:=x6 hr;have hn:=x6 he;unfold zY;dsimp only;constructor
 .intro h
  rcases bR h with h1|h1
  .exact zC ⟨h1,fun h2=>by subst h2;exact LM W.bsn hr (fun h3=>W.dis hb (h3 ▸ hn)) h⟩
  .exact zF h1
 .rintro(rfl|⟨h1,h2⟩)
  .rw[gp he];exact List.mem_set hr _
  .exact YV h1 h2
def LN(W:Wf T)(hr:r<T.bs.length)(he:e<T.ns.length)  : v∈(zY T r e).ns↔v=T.bs[r]! \/ v∈T.ns/\v≠T.ns[e]! := by
 have hb:=x6 hr;have hn:=x6 he;unfold zY;dsimp only;constructor
 .intro h
  rcases bR h with h1|h1
  .exact zC ⟨h1,fun h2=>by subst h2;exact LM W.nsn he (fun h3=>W.dis (h3 ▸ hb) hn) h⟩
  .exact zF h1
 .rintro(rfl|⟨h1,h2⟩)
  .rw[gp hr];exact List.mem_set he _
  .exact YV h1 h2
def ptF(T:Tab)(w:List Rat)(v:Nat):Rat:=if v∈T.ns then w[T.ns.idxOf v]! else if v∈T.bs then dt T.fs[T.bs.idxOf v]! w else 0
def Qh  (h:l.Nodup)  (hi:i<l.length):l.idxOf l[i]! = i:=by rw[gp hi];exact h.idxOf_getElem i hi
def Ia(W:Wf T){w:List Rat}{j:Nat}(hj:j<T.ns.length):ptF T w T.ns[j]! = w[j]! := by
 unfold ptF;rw[zE (x6 hj),Qh W.nsn hj]
def Qi(W:Wf T){w:List Rat}  (hi:i<T.bs.length):ptF T w T.bs[i]! = dt T.fs[i]! w:=by
 unfold ptF;rw[zB fun h=>W.dis (x6 hi) h,zE (x6 hi),Qh W.bsn hi]
def Ib(W:Wf T){w:List Rat}(hw:w.length=T.ns.length):T.ns.map (ptF T w)=w:=by
 apply vE (by simp[hw]);intro j h1 h2;rw[vS,<- gp (by simpa using h1),Ia W (by simpa using h1),gp h2]
def LO(W:Wf T){w:List Rat}(hw:w.length=T.ns.length):Sol T (ptF T w):=fun i hi=>by rw[Qi W hi,Ib W hw]
def bpF(T:Tab):Nat->Rat:=ptF T (List.replicate T.ns.length 0)
def bF(W:Wf T):Sol T (bpF T):=LO W zsm
def Qj(W:Wf T):T.ns.map (bpF T)=List.replicate T.ns.length 0:=Ib W zsm
def bG(W:Wf T)  (hv:v∈T.ns):bpF T v=0:=by
 obtain⟨j,hj,rfl⟩:=mem_ix hv;unfold bpF;rw[Ia W hj,gp (by simpa using hj)];simp
def Ic(W:Wf T)  (hi:i<T.bs.length):bpF T T.bs[i]! = T.fs[i]![T.ns.length]! := by
 unfold bpF;rw[Qi W hi,iY (W.ll i hi)]
end
variable {v:Nat}
def Ent(fr:Nat->Bool)(T:Tab)(l:List Rat)(e:Nat):Prop :=
 e<T.ns.length/\fr T.ns[e]! = false/\l[e]! < 0/\∀ j,j<T.ns.length->fr T.ns[j]! = false->l[j]! < 0->T.ns[e]! <= T.ns[j]!
def xK(T:Tab)(e i:Nat):Rat:=T.fs[i]![T.ns.length]! / - T.fs[i]![e]!
def Lev(fr:Nat->Bool)(T:Tab)(e r:Nat):Prop :=
 r<T.bs.length/\fr T.bs[r]! = false/\T.fs[r]![e]! < 0/\∀ i,i<T.bs.length->fr T.bs[i]! = false->T.fs[i]![e]! < 0->xK T e r<=xK T e i/\(xK T e r=xK T e i->T.bs[r]! <= T.bs[i]!)
def Lin(obj:(Nat->Rat)->Rat)(T:Tab)(l:List Rat):Prop:=l.length=T.ns.length+1/\∀ z,Sol T z->obj z=dt l (T.ns.map z)
structure Stp(fr:Nat->Bool)(obj:(Nat->Rat)->Rat)(T T':Tab)(l:List Rat)(e r:Nat):Prop where
 lin:Lin obj T l
 ent:Ent fr T l e
 lev:Lev fr T e r
 eq:T'=zY T r e
def Fea(fr:Nat->Bool)(T:Tab):Prop:=∀ i,i<T.bs.length->fr T.bs[i]! = false->0<=T.fs[i]![T.ns.length]!
section
variable {fr:Nat->Bool} {obj:(Nat->Rat)->Rat} {T T':Tab} {l:List Rat} {e r:Nat}
def Stp.wf(S:Stp fr obj T T' l e r)(W:Wf T):Wf T':=by rw[S.eq];exact YW W S.lev.1 S.ent.1
def Stp.ne(S:Stp fr obj T T' l e r):T.fs[r]![e]! ≠ 0:=fun h=>by have:=S.lev.2.2.1;rw[h]at this;exact absurd this (by grind)
def Stp.sol(S:Stp fr obj T T' l e r)(W:Wf T){z:Nat->Rat}:Sol T' z↔Sol T z:=by rw[S.eq];exact Qg W S.lev.1 S.ent.1 S.ne
def Stp.mb(S:Stp fr obj T T' l e r)(W:Wf T)  : v∈T'.bs↔v=T.ns[e]! \/ v∈T.bs/\v≠T.bs[r]! := by rw[S.eq];exact YX W S.lev.1 S.ent.1
def Stp.mn(S:Stp fr obj T T' l e r)(W:Wf T)  : v∈T'.ns↔v=T.bs[r]! \/ v∈T.ns/\v≠T.ns[e]! := by rw[S.eq];exact LN W S.lev.1 S.ent.1
def Stp.th(S:Stp fr obj T T' l e r)(F:Fea fr T):0<=xK T e r:=by
 unfold xK;have h1:=F r S.lev.1 S.lev.2.1;have h2:=S.lev.2.2.1;rw[Rat.div_def];exact qV h1 (nX (Cg.2 (by grind)))
def Stp.fea(S:Stp fr obj T T' l e r)(W:Wf T)(F:Fea fr T):Fea fr T':=by
 intro i hi hf;rw[S.eq]at hi hf ⊢;have hi':i<T.bs.length:=by simpa [zY]using hi
 have hn:(zY T r e).ns.length=T.ns.length:=by simp[zY]
 have he:=S.ent.1;have ha:=S.lev.2.2.1;have hr:=S.lev.1;have hlr:=W.ll r hr
 have hth:(x9 e T.fs[r]!)[T.ns.length]! = xK T e r:=by
  unfold x9 xK;rw[oD zom,zB zom];grind
 rw[hn,AC W hi'];rw[Br hi']at hf
 split
 .rw[hth];exact S.th F
 .rename_i hri
  rw[zB hri]at hf;unfold vC;rw[oD (by rw[W.ll i hi'];omega),zB zom,hth];have hc:=F i hi' hf;have ht:=S.th F;by_cases hs:T.fs[i]![e]! < 0
  .have h1:=(S.lev.2.2.2 i hi' hf hs).1
   have h2:xK T e r * - T.fs[i]![e]! <= T.fs[i]![T.ns.length]! := by
    have h3:=Ta h1 (show 0<=- T.fs[i]![e]! by grind);have h4:xK T e i * - T.fs[i]![e]! = T.fs[i]![T.ns.length]! := by unfold xK;grind
    rwa [h4]at h3
   grind
  .have h3:=qV (show 0<=T.fs[i]![e]! by grind) ht
   grind
def Stp.ov0(S:Stp fr obj T T' l e r)(W:Wf T):obj (bpF T)=l[T.ns.length]! := by rw[S.lin.2 _ (bF W),Qj W,iY S.lin.1]
def Stp.bp'(S:Stp fr obj T T' l e r)(W:Wf T):T.ns.map (bpF T')=(List.replicate T.ns.length 0).set e (xK T e r):=by
 have W':=S.wf W;apply vE zsm;intro j h1 h2;have hj:j<T.ns.length:=by simpa using h1
 rw[vS,kL,<- gp hj]
 split
 .rename_i h;subst h
  have h3:T.ns[e]! = T'.bs[r]! := by rw[S.eq,Br S.lev.1,zE rfl]
  have h4:r<T'.bs.length:=by rw[S.eq];simpa [zY]using S.lev.1
  have hlr:=W.ll r S.lev.1;rw[h3,Ic W' h4,S.eq,AC W S.lev.1,zE rfl];have hn:(zY T r e).ns.length=T.ns.length:=by simp[zY]
  have he:=S.ent.1;rw[hn];unfold x9 xK;rw[oD zom,zB zom];grind
 .rename_i h
  rw[nA];exact bG W' ((S.mn W).2 (zC ⟨x6 hj,fun h5=>h (nodup_get W.nsn hj S.ent.1 h5).symm⟩))
def Stp.ov(S:Stp fr obj T T' l e r)(W:Wf T):obj (bpF T')=obj (bpF T)+l[e]!*xK T e r:=by
 have h:=S.lin.2 _ ((S.sol W).1 (bF (S.wf W)));have he:=S.ent.1;rw[h,S.bp' W,S.ov0 W,Bp (by simpa using he) (by simp[S.lin.1]),iY S.lin.1,gp (by simpa using he:e<(List.replicate T.ns.length (0:Rat)).length)];simp only[nA];grind
def Stp.le(S:Stp fr obj T T' l e r)(W:Wf T)(F:Fea fr T):obj (bpF T')<=obj (bpF T):=by
 rw[S.ov W];have h1:=S.ent.2.2.1;have h2:=qV (show 0<=- l[e]! by grind) (S.th F)
 grind
def YY{z z':Nat->Rat}(h:Sol T z)(h':Sol T z')(hn:∀ v∈T.ns,z v=z' v)  (hv:v∈T.bs):z v=z' v:=by
 obtain⟨i,hi,rfl⟩:=mem_ix hv;rw[h i hi,h' i hi,rL hn]
def Stp.stay(S:Stp fr obj T T' l e r)(W:Wf T)(F:Fea fr T)(h:obj (bpF T')=obj (bpF T)):xK T e r=0/\∀ v,bpF T' v=bpF T v:=by
 have h1:=S.ent.2.2.1
 have h0:xK T e r=0:=by
  have h2:=S.ov W;have h3:l[e]!*xK T e r=0:=by grind
  rcases Ja.1 h3 with h4|h4
  .exact absurd h4 (by grind)
  .exact h4
 refine⟨h0,fun v=>?_⟩;have W':=S.wf W
 have hn:∀ v∈T.ns,bpF T' v=bpF T v:=fun v hv=>by
  obtain⟨j,hj,rfl⟩:=mem_ix hv;have h5:(T.ns.map (bpF T'))[j]! = ((List.replicate T.ns.length 0).set e (xK T e r))[j]! := by rw[S.bp' W]
  rw[tH hj,h0,sN (by simpa using hj)]at h5;rw[h5,bG W hv]
  split
  .rfl
  .rw[gp (by simpa using hj:j<(List.replicate T.ns.length (0:Rat)).length)];simp
 by_cases h6:v∈T.ns
 .exact hn v h6
 .by_cases h7:v∈T.bs
  .exact YY ((S.sol W).1 (bF W')) (bF W) hn h7
  .have h8:v∉T'.ns:=fun h9=>by
    rcases(S.mn W).1 h9 with h|h
    .exact h7 (h ▸ x6 S.lev.1)
    .exact h6 h.1
   have h9:v∉T'.bs:=fun h9=>by
    rcases(S.mb W).1 h9 with h|h
    .exact h6 (h ▸ x6 S.ent.1)
    .exact h7 h.1
   unfold bpF ptF;rw[zB h8,zB h9,zB h6,zB h7]
end
structure Run(fr:Nat->Bool)(obj:(Nat->Rat)->Rat)(f:Nat->Tab)(lq:Nat->List Rat)(eq rq:Nat->Nat)(k:Nat):Prop where
 wf:Wf (f 0)
 fea:Fea fr (f 0)
 stp:∀ i,i<k->Stp fr obj (f i) (f (i+1)) (lq i) (eq i) (rq i)
section
variable {fr:Nat->Bool} {obj:(Nat->Rat)->Rat} {f:Nat->Tab} {lq:Nat->List Rat} {eq rq:Nat->Nat} {k:Nat}
def Run.w(R:Run fr obj f lq eq rq k):∀ {i:Nat},i<=k->Wf (f i)/\Fea fr (f i)/\∀ z,Sol (f i) z↔Sol (f 0) z
 |0,_=>⟨R.wf,R.fea,fun _=>Au⟩
 | i+1,h=>by
   obtain⟨h1,h2,h3⟩:=R.w (i:=i) zom;have S:=R.stp i zom;exact⟨S.wf h1,S.fea h1 h2,fun z=>(S.sol h1).trans (h3 z)⟩
def Run.mono(R:Run fr obj f lq eq rq k){i:Nat}:∀ {j:Nat},i<=j->j<=k->obj (bpF (f j))<=obj (bpF (f i))
 | j,h,hj=>by
   by_cases e:i=j
   .subst e;exact nE
   .obtain⟨j,rfl⟩:∃ m,j=m+1:=⟨j-1,zom⟩
    obtain⟨h1,h2,_⟩:=R.w (i:=j) zom;exact Cf ((R.stp j zom).le h1 h2) (R.mono zom zom)
def Run.left(R:Run fr obj f lq eq rq k){a:Nat}(h:v∈(f a).bs):∀ {b:Nat},a<=b->b<=k->v∉(f b).bs->∃ p,a<=p/\p<b/\(f p).bs[rq p]! = v
 | b,hab,hb,hn=>by
   by_cases e:a=b
   .subst e;exact absurd h hn
   .obtain⟨b,rfl⟩:∃ m,b=m+1:=⟨b-1,zom⟩
    by_cases hv:v∈(f b).bs
    .refine⟨b,zom,zom,kJ fun hc=>hn ?_⟩
     exact((R.stp b zom).mb (R.w zom).1).2 (zC ⟨hv,fun e=>hc e.symm⟩)
    .obtain⟨p,h1,h2,h3⟩:=R.left h zom zom hv
     exact⟨p,h1,zom,h3⟩
def Run.come(R:Run fr obj f lq eq rq k){a:Nat}(h:v∉(f a).bs):∀ {b:Nat},a<=b->b<=k->v∈(f b).bs->∃ p,a<=p/\p<b/\(f p).ns[eq p]! = v
 | b, hab,hb,hn=>by
   by_cases e:a=b
   .subst e;exact absurd hn h
   .obtain⟨b,rfl⟩:∃ m,b=m+1:=⟨b-1,zom⟩
    by_cases hv:v∈(f b).bs
    .obtain⟨p,h1,h2,h3⟩:=R.come h zom zom hv
     exact⟨p,h1,zom,h3⟩
    .rcases((R.stp b zom).mb (R.w zom).1).1 hn with h1|h1
     .exact⟨b,zom,zom,h1.symm⟩
     .exact absurd h1.1 hv
def Run.all(R:Run fr obj f lq eq rq k)  : ∀ {i:Nat},i<=k->((v∈(f i).bs\/v∈(f i).ns)↔(v∈(f 0).bs\/v∈(f 0).ns))
 |0,_=>Au
 | i + 1,h=>by
   have S:=R.stp i zom;have W:=(R.w (i:=i) zom).1;have hb:=x6 S.lev.1;have hn:=x6 S.ent.1;rw[<- R.all (i:=i) zom,S.mb W,S.mn W];generalize (f i).ns[eq i]! = s at hn;generalize (f i).bs[rq i]! = t at hb;by_cases h1:v=s
   .subst h1;simp[hn]
   .by_cases h2:v=t
    .subst h2;simp[hb]
    .simp[h1,h2]
def YZ{g:Nat->Nat}{i:Nat}:∀ {j:Nat},i<j->∃ q,i<=q/\q<j/\∀ p,i<=p->p<j->g p<=g q
 | j + 1,h=>by
   by_cases e:i=j
   .subst e;exact⟨i,zom,zom,fun p h1 h2=>by rw[show p=i by omega];exact zX _⟩
   .obtain⟨q,h1,h2,h3⟩:=YZ (g:=g) (i:=i) (j:=j) zom
    by_cases hq:g q<=g j
    .refine⟨j,zom,zom,fun p h4 h5=>?_⟩
     by_cases hp:p=j
     .rw[hp];exact zX _
     .exact wS (h3 p h4 zom) hq
    .refine⟨q,h1,zom,fun p h4 h5=>?_⟩
     by_cases hp:p=j
     .rw[hp];omega
     .exact h3 p h4 zom
def Run.bland(R:Run fr obj f lq eq rq k){i j:Nat}(hij:i<j)(hj:j<=k)(hs:∀ v,v∈(f i).ns↔v∈(f j).ns):False:=by
 have nb:∀ {a v:Nat},a<=k->v∈(f a).ns->v∉(f a).bs:=fun ha h h'=>(R.w ha).1.dis h' h
 have sb:∀ v,v∈(f i).bs↔v∈(f j).bs:=fun v=>by
  have h1:=R.all (v:=v) (i:=i) zom;have h2:=R.all (v:=v) (i:=j) hj;have h3:=hs v;have h4:=@nb i v zom;have h5:=@nb j v hj
  grind
 have Wi:=(R.w (i:=i) zom).1;have Wj:=(R.w hj).1
 have hbp:∀ v,bpF (f i) v=bpF (f j) v:=fun v=>by
  have hn:∀ v∈(f i).ns,bpF (f i) v=bpF (f j) v:=fun v hv=>by rw[bG Wi hv,bG Wj ((hs v).1 hv)]
  by_cases h1:v∈(f i).ns
  .exact hn v h1
  .by_cases h2:v∈(f i).bs
   .exact YY (bF Wi) (((R.w (i:=i) zom).2.2 _).2 (((R.w hj).2.2 _).1 (bF Wj))) hn h2
   .have h3:v∉(f j).ns:=fun h=>h1 ((hs v).2 h)
    have h4:v∉(f j).bs:=fun h=>h2 ((sb v).2 h)
    unfold bpF ptF;rw[zB h1,zB h2,zB h3,zB h4]
 have hov:obj (bpF (f i))=obj (bpF (f j)):=by rw[funext hbp]
 have cst:∀ {p:Nat},i<=p->p<=j->obj (bpF (f p))=obj (bpF (f i)):=fun h1 h2 =>
  Rat.le_antisymm (R.mono h1 zom) (by rw[hov];exact R.mono h2 hj)
 have stay:∀ {p:Nat},i<=p->p<j->xK (f p) (eq p) (rq p)=0/\∀ v,bpF (f (p+1)) v=bpF (f p) v:=fun {p} h1 h2 =>
  (R.stp p zom).stay (R.w zom).1 (R.w zom).2.1 (by rw[cst zom zom,cst h1 zom])
 have same:∀ {p:Nat},i<=p->p<=j->∀ v,bpF (f p) v=bpF (f i) v:=by
  intro p h1 h2 v
  induction p with
  | zero => have:i=0:=zom
            rw[this]
  | succ p ih =>
    by_cases h:i=p+1
    .rw[h]
    .rw[(stay zom zom).2 v];exact ih zom zom
 obtain⟨q,hq1,hq2,hmax⟩:=YZ (g:=fun p=>(f p).ns[eq p]!) hij;have Sq:=R.stp q zom;have Wq:=(R.w (i:=q) zom).1;have htn:(f q).ns[eq q]! ∈ (f q).ns:=x6 Sq.ent.1;have htb:(f q).ns[eq q]! ∈ (f (q+1)).bs:=(Sq.mb Wq).2 (zF rfl)
 obtain⟨p,hp1,hp2,hpt⟩:∃ p,i<=p/\p<j/\(f p).bs[rq p]! = (f q).ns[eq q]! := by
  by_cases h:(f q).ns[eq q]! ∈ (f i).bs
  .obtain⟨p,h1,h2,h3⟩:=R.left h hq1 zom (nb zom htn)
   exact⟨p,h1,zom,h3⟩
  .obtain⟨p,h1,h2,h3⟩:=R.left htb (show q+1<=j by omega) hj fun h'=>h ((sb _).2 h')
   exact⟨p,zom,h2,h3⟩
 have Sp:=R.stp p zom;have Wp:=(R.w (i:=p) zom).1;have hw:((List.replicate (f p).ns.length (0:Rat)).set (eq p) 1).length=(f p).ns.length:=by simp
 have hz:=LO Wp hw;generalize hzz:ptF (f p) ((List.replicate (f p).ns.length (0:Rat)).set (eq p) 1)=z at hz;have hzn:(f p).ns.map z=(List.replicate (f p).ns.length (0:Rat)).set (eq p) 1:=by rw[<- hzz];exact Ib Wp hw
 have hzj:∀ {a:Nat},a<(f p).ns.length->z (f p).ns[a]! = if eq p=a then 1 else 0:=fun {a} ha=>by
  rw[<- hzz,Ia Wp ha,sN (by simpa using ha)]
  split
  .rfl
  .rw[gp (by simpa using ha:a<(List.replicate (f p).ns.length (0:Rat)).length)];simp
 have hzb:∀ {a:Nat},a<(f p).bs.length->z (f p).bs[a]! = (f p).fs[a]![(f p).ns.length]! + (f p).fs[a]![eq p]! := fun {a} ha=>by
  have he:=Sp.ent.1;rw[hz a ha,hzn,Bp (by simpa using he) (by simp only[jO];exact Wp.ll a ha),iY (Wp.ll a ha),gp (by simpa using he:eq p<(List.replicate (f p).ns.length (0:Rat)).length)];simp only[nA];grind
 have o1:obj z=(lq p)[(f p).ns.length]! + (lq p)[eq p]! := by
  have he:=Sp.ent.1;rw[Sp.lin.2 _ hz,hzn,Bp (by simpa using he) (by simp[Sp.lin.1]),iY Sp.lin.1,gp (by simpa using he:eq p<(List.replicate (f p).ns.length (0:Rat)).length)];simp only[nA];grind
 have o2:=Sq.lin.2 z (((R.w (i:=q) zom).2.2 _).2 (((R.w (i:=p) zom).2.2 _).1 hz));have o3:(lq p)[(f p).ns.length]! = (lq q)[(f q).ns.length]! := by rw[<- Sp.ov0 Wp,<- Sq.ov0 Wq,cst hp1 zom,cst hq1 zom]
 have hneg:=Sp.ent.2.2.1;have o4:dt (lq q) ((f q).ns.map z)<(lq q)[((f q).ns.map z).length]! := by rw[<- o2,o1,o3,z6];grind
 obtain⟨a,ha,hlt⟩:=Wx (by simp[Sq.lin.1]) o4;have ha':a<(f q).ns.length:=by simpa using ha
 rw[tH ha']at hlt;have hvn:(f q).ns[a]! ∈ (f q).ns:=x6 ha';have vall:=(R.all (v:=(f q).ns[a]!) (i:=p) zom).2 ((R.all (i:=q) zom).1 (zC hvn));have tb:(f q).ns[eq q]! ∈ (f p).bs:=hpt ▸ x6 Sp.lev.1;rcases vall with hvb|hvp
 .obtain⟨c,hc1,hc2,hc3⟩:∃ c,i<=c/\c<j/\(f c).ns[eq c]! = (f q).ns[a]! := by
   have hnq:(f q).ns[a]! ∉ (f q).bs:=nb zom hvn;by_cases h:q<=p
   .obtain⟨c,h1,h2,h3⟩:=R.come hnq h zom hvb
    exact⟨c,zom,zom,h3⟩
   .by_cases h':(f q).ns[a]! ∈ (f j).bs
    .obtain⟨c,h1,h2,h3⟩:=R.come hnq (show q<=j by omega) hj h'
     exact⟨c,zom,h2,h3⟩
    .obtain⟨c,h1,h2,h3⟩:=R.come (fun h2=>h' ((sb _).1 h2)) hp1 zom hvb
     exact⟨c,h1,zom,h3⟩
  have hfr:fr (f q).ns[a]! = false:=hc3 ▸ (R.stp c zom).ent.2.1;have hle:(f q).ns[a]! <= (f q).ns[eq q]! := by have:=hmax c hc1 hc2;rw[hc3]at this;exact this
  obtain⟨b,hb,hbv⟩:=mem_ix hvb
  have h0:(f p).fs[b]![(f p).ns.length]! = 0:=by
   rw[<- Ic Wp hb,hbv,same hp1 zom,<- same hq1 zom,bG Wq hvn]
  rw[<- hbv,hzb hb,h0]at hlt;by_cases hs1:(lq q)[a]! < 0
  .have h1:=Sq.ent.2.2.2 a ha' hfr hs1
   have h2:b=rq p:=nodup_get Wp.bsn hb Sp.lev.1 (by rw[hbv,hpt];omega);have h3:=Sp.lev.2.2.1;rw[h2]at hlt;have:=nY (show 0< - (lq q)[a]! by grind) (show 0< - (f p).fs[rq p]![eq p]! by grind)
   grind
  .have h4:(f p).fs[b]![eq p]! < 0:=by
    apply kJ;intro h5;have:=qV (show 0<=(lq q)[a]! by grind) (show 0<=(f p).fs[b]![eq p]! by grind)
    grind
   have h6:=(Sp.lev.2.2.2 b hb (by rw[hbv];exact hfr) h4).2 (by rw[(stay hp1 hp2).1];unfold xK;rw[h0];grind);rw[hpt,hbv]at h6;have h7:a=eq q:=nodup_get Wq.nsn ha' Sq.ent.1 zom;rw[h7]at hs1;exact hs1 Sq.ent.2.2.1
 .obtain⟨b,hb,hbv⟩:=mem_ix hvp
  rw[<- hbv,hzj hb]at hlt;by_cases h:eq p=b
  .rw[zE h]at hlt
   have h1:(f q).ns[a]! = (f p).ns[eq p]! := by rw[<- hbv,h]
   have h2:=Sq.ent.2.2.2 a ha' (by rw[h1];exact Sp.ent.2.1) (by grind);have h3:(f p).ns[eq p]! <= (f q).ns[eq q]! := hmax p hp1 hp2;have h4:(f q).ns[eq q]! = (f q).ns[a]! := by omega
   exact Wp.dis (h4 ▸ tb) hvp
  .rw[zB h]at hlt;exact absurd hlt (by grind)
end
def chF:Nat->Nat->Nat
 |_,0=>1
 |0,_+1=>0
 |n+1,k+1=>chF n k+chF n (k+1)
def sbF:List Nat->Nat->List (List Nat)
 |_,0=>[[]]
 |[],_+1=>[]
 |a::l,k+1=>(sbF l k).map (a::·)++sbF l (k+1)
def Qk:∀ (l:List Nat) (k:Nat),(sbF l k).length=chF l.length k
 |[],0=>rfl
 |_::_,0=>rfl
 |[],_+1=>rfl
 |_::l,k+1=>by simp[sbF,chF,Qk l k,Qk l (k+1)]
def Ql{p:Nat->Bool}:∀ {l:List Nat} {k:Nat},(l.filter p).length=k->l.filter p∈sbF l k
 |[],0,_=>by simp[sbF]
 |[],_+1,h=>by simp at h
 | a :: l, k, h=>by
   by_cases ha:p a=true
   .rw[Mx ha]at h ⊢
    obtain⟨k,rfl⟩:∃ m,k=m+1:=⟨k-1,by simp at h;omega⟩;exact sV _ (zW.2 ⟨_,Ql (by simpa using h),rfl⟩)
   .rw[My ha]at h ⊢
    match k,h with
    | 0, h => have:l.filter p=[]:=vZ.1 h
              rw[this];simp[sbF]
    |k+1,h=>exact pJ _ (Ql h)
def eF{α:Type}{g:Nat->α}{k:Nat}(h:∀ i j,i<j->j<k->g i≠g j):((List.range k).map g).Nodup:=by
 rw[List.Nodup,F8];intro a b ha hb hab;simp only[vS,oQ];exact h a b hab (by simpa using hb)
section
variable {fr:Nat->Bool} {obj:(Nat->Rat)->Rat} {f:Nat->Tab} {lq:Nat->List Rat} {eq rq:Nat->Nat} {k:Nat}
def tL(V:List Nat)(T:Tab):List Nat:=V.filter fun v=>T.ns.contains v
def Run.free(R:Run fr obj f lq eq rq k){v:Nat}(hv:fr v=true):∀ {i:Nat},i<=k->(v∈(f i).ns↔v∈(f 0).ns)
 |0,_=>Au
 | i + 1,h=>by
   have S:=R.stp i zom;rw[<- R.free hv (i:=i) zom,S.mn (R.w zom).1];have h1:=S.lev.2.1;have h2:=S.ent.2.1;constructor
   .rintro(rfl|h)
    .rw[hv]at h1;cases h1
    .exact h.1
   .exact fun h=>zC ⟨h,fun e=>by rw[<- e,hv]at h2;cases h2⟩
def Run.card(R:Run fr obj f lq eq rq k){V:List Nat}(hV:V.Nodup)(hin:∀ v,fr v=false->(v∈(f 0).bs\/v∈(f 0).ns)->v∈V)(hfr:∀ v∈V,fr v=false) :
 ∀ {i:Nat},i<=k->(tL V (f i)).length=(tL V (f 0)).length
 |0,_=>rfl
 | i + 1,h=>by
   have S:=R.stp i zom;have W:=(R.w (i:=i) zom).1;rw[<- R.card hV hin hfr (i:=i) zom];have hb:=x6 S.lev.1;have hn:=x6 S.ent.1;have hbV:(f i).bs[rq i]! ∈ V:=hin _ S.lev.2.1 ((R.all zom).1 (zF hb));have hnV:(f i).ns[eq i]! ∈ V:=hin _ S.ent.2.1 ((R.all zom).1 (zC hn));have hne:(f i).bs[rq i]! ≠ (f i).ns[eq i]! := fun e=>W.dis hb (e ▸ hn)
   have hbn:(f i).bs[rq i]! ∉ (f i).ns:=fun h=>W.dis hb h
   have mn:∀ v,v∈(f (i+1)).ns↔v=(f i).bs[rq i]! \/ v∈(f i).ns/\v≠(f i).ns[eq i]! := fun v=>S.mn W
   clear S;generalize (f i).bs[rq i]! = t at *
   generalize (f i).ns[eq i]! = s at *
   have n1:(tL V (f i)).Nodup:=hV.filter _;have n2:(tL V (f (i+1))).Nodup:=hV.filter _;have m1:∀ v,v∈tL V (f i)↔v∈V/\v∈(f i).ns:=fun v=>by simp[tL]
   have m2:∀ v,v∈tL V (f (i+1))↔v∈V/\v∈(f (i+1)).ns:=fun v=>by simp[tL]
   have e1:s∈tL V (f i):=(m1 s).2 ⟨hnV,hn⟩
   have a1:(tL V (f (i+1))).length<=(t::(tL V (f i)).erase s).length:=n2.length_le_of_subset fun v hv=>by
    rw[m2,mn]at hv;rcases hv.2 with h3|h3
    .simp[h3]
    .exact xN _ ((n1.mem_erase_iff).2 ⟨h3.2,(m1 v).2 ⟨hv.1,h3.1⟩⟩)
   have a2:(t::(tL V (f i)).erase s).length<=(tL V (f (i+1))).length:=by
    refine Tc (mU.2 ⟨fun h4=>hbn ((m1 t).1 ((n1.mem_erase_iff).1 h4).2).2,n1.erase _⟩) fun v hv=>?_
    rw[m2,mn];rcases yI.1 hv with rfl|h4
    .exact⟨hbV,zF rfl⟩
    .have h5:=(n1.mem_erase_iff).1 h4
     have h6:=(m1 v).1 h5.2;exact⟨h6.1,zC ⟨h6.2,h5.1⟩⟩
   rw[List.length_cons,F9 e1]at a1 a2;have:0<(tL V (f i)).length:=M4 e1;omega
def Run.few(R:Run fr obj f lq eq rq k){V:List Nat}(hV:V.Nodup)(hin:∀ v,fr v=false->(v∈(f 0).bs\/v∈(f 0).ns)->v∈V)(hfr:∀ v∈V,fr v=false) :
 k+1<=chF V.length (tL V (f 0)).length:=by
 rw[<- Qk]
 have hn:((List.range (k+1)).map fun i=>tL V (f i)).Nodup:=eF fun i j hij hj heq=>by
  refine R.bland hij zom fun v=>?_
  by_cases hv:fr v=true
  .exact(R.free hv zom).trans (R.free hv zom).symm
  .have hv':fr v=false:=by simpa using hv
   have h1:v∈tL V (f i)↔v∈tL V (f j):=by rw[heq]
   simp only[tL,gT,List.contains_iff_mem]at h1;constructor
   .intro h;exact(h1.1 ⟨hin v hv' ((R.all zom).1 (zC h)),h⟩).2
   .intro h;exact(h1.2 ⟨hin v hv' ((R.all zom).1 (zC h)),h⟩).2
 have:=hn.length_le_of_subset (l₂:=sbF V (tL V (f 0)).length) fun x hx=>by
  obtain⟨i,hi,rfl⟩:=zW.1 hx;exact Ql (R.card hV hin hfr (by simp at hi;omega))
 simpa using this
end
variable {r j e:Nat}
def bH(P:Rat->Prop)(T:Tab):Prop:=(∀ i,i<T.bs.length->∀ j,j<T.ns.length+1->P T.fs[i]![j]!)/\∀ j,j<T.ns.length+1->P T.ob[j]!
structure Lvl(P:Nat->Rat->Prop):Prop where
 z:∀ i,P i 0
 o:∀ i,P i 1
 n:∀ i x,P i x->P i (-x)
 s:∀ i x,P i x->P (i+1) x
 c:∀ i x l c a,P i x->P i l->P i c->P i a->a≠0->P (i+1) (x+l*(c/a))
structure Same(obj:(Nat->Rat)->Rat)(T0 T:Tab):Prop where
 w0:Wf T0
 w:Wf T
 bl:T0.bs.length=T.bs.length
 nl:T0.ns.length=T.ns.length
 sol:∀ z,Sol T0 z↔Sol T z
 all:∀ v,(v∈T0.bs\/v∈T0.ns)↔(v∈T.bs\/v∈T.ns)
 l0:Lin obj T0 T0.ob
 l:Lin obj T T.ob
def uMM{obj:(Nat->Rat)->Rat}{T:Tab}  (W:Wf T)(hr:r<T.bs.length)(he:e<T.ns.length)(ha:T.fs[r]![e]! ≠ 0)(h:Lin obj T T.ob):Lin obj (zY T r e) (zY T r e).ob:=by
 refine⟨by simp[zY,vC,h.1],fun z hz=>?_⟩;have hz':=(Qg W hr he ha).1 hz;rw[h.2 z hz'];exact(uDN W hr he ha hz' h.1).symm
def uPH{P:Nat->Rat->Prop}(L:Lvl P){i n:Nat}{l:List Rat}(hl:l.length=n)(ha:l[e]! ≠ 0)(he:e<n)(h:∀ j,j<n->P i l[j]!)  (hj:j<n):∃ c,P i c/\(x9 e l)[j]! = c/l[e]! := by
 unfold x9;rw[oD zom]
 split
 .exact⟨1,L.o i,rfl⟩
 .exact⟨_,L.n i _ (h j hj),rfl⟩
def uPG{P:Nat->Rat->Prop}(L:Lvl P){T:Tab}{i:Nat}(W:Wf T)(hr:r<T.bs.length)(he:e<T.ns.length)(ha:T.fs[r]![e]! ≠ 0)(h:bH (P i) T):bH (P (i+1)) (zY T r e):=by
 have hn:(zY T r e).ns.length=T.ns.length:=by simp[zY]
 have hf:=fun j (hj:j<T.ns.length+1)=>uPH L (W.ll r hr) ha zom (h.1 r hr) hj
 have pa:=h.1 r hr e zom
 have sub:∀ l:List Rat,l.length=T.ns.length+1->(∀ j,j<T.ns.length+1->P i l[j]!)->∀ j,j<T.ns.length+1->P (i+1) (vC e (x9 e T.fs[r]!) l)[j]! := fun l hl hp j hj=>by
  obtain⟨c,hc,ec⟩:=hf j hj;unfold vC;rw[oD zom,ec];refine L.c i _ _ _ _ ?_ (hp e zom) hc pa ha
  split
  .exact L.z i
  .exact hp j hj
 refine⟨fun k hk j hj=>?_,fun j hj=>?_⟩
 .have hk':k<T.bs.length:=by simpa [zY]using hk
  rw[hn]at hj;rw[AC W hk']
  split
  .obtain⟨c,hc,ec⟩:=hf j hj
   rw[ec];have:=L.c i 0 1 c _ (L.z i) (L.o i) hc pa ha;have e1:(0:Rat)+1*(c/T.fs[r]![e]!)=c/T.fs[r]![e]! := by grind
   rwa [e1]at this
  .exact sub _ (W.ll k hk') (h.1 k hk') j hj
 .rw[hn]at hj
  exact sub _ W.ol h.2 j hj
def Same.piv{obj:(Nat->Rat)->Rat}{T0 T:Tab}  (S:Same obj T0 T)(hr:r<T0.bs.length)(he:e<T0.ns.length)(ha:T0.fs[r]![e]! ≠ 0):Same obj (zY T0 r e) T:=by
 refine⟨YW S.w0 hr he,S.w,by simp[zY,S.bl],by simp[zY,S.nl],fun z=>(Qg S.w0 hr he ha).trans (S.sol z),fun v=>?_,uMM S.w0 hr he ha S.l0,S.l⟩;rw[<- S.all v,YX S.w0 hr he,LN S.w0 hr he];have hb:=x6 hr;have hn:=x6 he;generalize T0.ns[e]! = s at hn;generalize T0.bs[r]! = t at hb;by_cases h1:v=s
 .subst h1;simp[hn]
 .by_cases h2:v=t
  .subst h2;simp[hb]
  .simp[h1,h2]
def unF(T:Tab)(j:Nat):Nat->Rat:=ptF T ((List.replicate T.ns.length 0).set j 1)
def Qm{T:Tab}(W:Wf T)(j:Nat):Sol T (unF T j):=LO W zsm
def LP{T:Tab}(W:Wf T){a:Nat}(ha:a<T.ns.length):unF T j T.ns[a]! = if j=a then 1 else 0:=by
 unfold unF;rw[Ia W ha,sN (by simpa using ha)]
 split
 .rfl
 .rw[gp (by simpa using ha:a<(List.replicate T.ns.length (0:Rat)).length)];simp
def Ya{n:Nat}{l:List Rat}(hl:l.length=n+1)(hj:j<n):dt l ((List.replicate n 0).set j 1)=l[n]! + l[j]! := by
 rw[Bp (by simpa using hj) (by simpa using hl),iY hl,gp (by simpa using hj:j<(List.replicate n (0:Rat)).length)];simp only[nA];grind
def Qn:∀ {l w w':List Rat},w.length=w'.length->(∀ j,j<w.length->l[j]! = 0\/w[j]! = w'[j]!)->dt l w=dt l w'
 |[],_,_,_,_=>rfl
 |_::_,[],[],_,_=>rfl
 |_::_,[],_::_,h,_=>by simp at h
 |_::_,_::_,[],h,_=>by simp at h
 | a::l,y::w,y'::w',h,hh=>by
   rw[mN,mN,Qn (by simpa using h) fun j hj=>by simpa using hh (j+1) (by simpa using hj)];rcases hh 0 zsm with h0|h0
   .simp only[bS]at h0;rw[h0];grind
   .simp only[bS]at h0;rw[h0]
def Same.eqn{obj:(Nat->Rat)->Rat}{T0 T:Tab}(S:Same obj T0 T)(hn:∀ v∈T.ns,v∈T0.ns){P:Rat->Prop}(h:bH P T0):bH P T:=by
 have hn':∀ v,v∈T0.ns->v∈T.ns:=fun v hv=>kJ fun hc=>by
  have:=S.w.nsn.length_le_of_subset (l₂:=T0.ns.erase v) fun x hx=>(S.w0.nsn.mem_erase_iff).2 ⟨fun e=>hc (e ▸ hx),hn x hx⟩
  rw[F9 hv,S.nl]at this;have:=M4 hv;rw[S.nl]at this;omega
 have hb:∀ v,v∈T.bs->v∈T0.bs:=fun v hv=>by
  rcases(S.all v).2 (zF hv) with h1|h1
  .exact h1
  .exact(S.w.dis hv (hn' v h1)).elim
 have mz:T0.ns.map (bpF T)=List.replicate T0.ns.length 0:=by
  apply vE zsm;intro j h1 h2;rw[vS,nA];exact bG S.w (hn' _ (wA _))
 have mu:∀ j,j<T.ns.length->∃ a,a<T0.ns.length/\T0.ns.map (unF T j)=(List.replicate T0.ns.length 0).set a 1:=fun j hj=>by
  obtain⟨a,ha,ea⟩:=mem_ix (hn _ (x6 hj));refine⟨a,ha,vE zsm fun c h1 h2=>?_⟩;have hc:c<T0.ns.length:=by simpa using h1
  obtain⟨d,hd,ed⟩:=mem_ix (hn' _ (x6 hc));rw[vS,<- gp hc,<- ed,LP S.w hd,kL,nA];by_cases h3:a=c
  .subst h3;rw[zE rfl,zE (nodup_get S.w.nsn hj hd (by rw[ed,ea]))]
  .rw[zB h3,zB fun h4=>h3 (nodup_get S.w0.nsn ha hc (by rw[ea,<- ed,h4]))]
 have key:∀ (l l0:List Rat),l.length=T.ns.length+1->l0.length=T.ns.length+1->(∀ z,Sol T z->dt l (T.ns.map z)=dt l0 (T0.ns.map z))->(∀ j,j<T0.ns.length+1->P l0[j]!)->∀ j,j<T.ns.length+1->P l[j]! := by
  intro l l0 hl hl0 hz hp j hj;have b0:=hz _ (bF S.w);rw[Qj S.w,mz,iY hl,iY (by rw[S.nl];exact hl0)]at b0;by_cases h1:j=T.ns.length
  .rw[h1,b0];exact hp _ zom
  .have hj':j<T.ns.length:=zom
   obtain⟨a,ha,ea⟩:=mu j hj';have b1:=hz _ (Qm S.w j);rw[ea,Ya (by rw[S.nl];exact hl0) ha,<- b0]at b1;have e2:T.ns.map (unF T j)=(List.replicate T.ns.length 0).set j 1:=Ib S.w zsm;rw[e2,Ya hl hj']at b1;have:l[j]! = l0[a]! := by grind
   rw[this];exact hp _ zom
 refine⟨fun i hi=>?_,?_⟩
 .obtain⟨k,hk,ek⟩:=mem_ix (hb _ (x6 hi))
  refine key _ _ (S.w.ll i hi) (by rw[S.w0.ll k hk,S.nl]) (fun z hz=>?_) (h.1 k hk);rw[<- hz i hi,<- ((S.sol z).2 hz) k hk,ek]
 .exact key _ _ S.w.ol (by rw[S.w0.ol,S.nl]) (fun z hz=>by rw[<- S.l.2 z hz,<- S.l0.2 z ((S.sol z).2 hz)]) h.2
def Same.size{obj:(Nat->Rat)->Rat}{T:Tab}:∀ (d:Nat) {P:Nat->Rat->Prop} {T0:Tab},Lvl P->Same obj T0 T->(T.ns.filter fun v=>!T0.ns.contains v).length<=d->bH (P 0) T0->bH (P d) T:=by
 intro d
 induction d with
 | zero =>
   intro P T0 L S hd h;refine S.eqn (fun v hv=>kJ fun hc=>?_) h;have:v∈T.ns.filter fun v=>!T0.ns.contains v:=gT.2 ⟨hv,by simpa using hc⟩
   have:=M4 this;omega
 | succ d ih =>
   intro P T0 L S hd h;have L':Lvl fun i=>P (i+1):=⟨fun i=>L.z _,fun i=>L.o _,fun i=>L.n _,fun i=>L.s _,fun i=>L.c _⟩
   by_cases hall:∀ v∈T.ns,v∈T0.ns
   .have h1:=S.eqn hall h
    have:∀ x k,P 0 x->P k x:=fun x k hx=>by
     induction k with
     |zero=>exact hx
     |succ k ihk=>exact L.s _ _ ihk
    exact⟨fun i hi j hj=>this _ _ (h1.1 i hi j hj),fun j hj=>this _ _ (h1.2 j hj)⟩
   .simp only[JR]at hall
    obtain⟨v,hv,hv0⟩:=hall
    have hvb:v∈T0.bs:=by
     rcases(S.all v).2 (zC hv) with h1|h1
     .exact h1
     .exact absurd h1 hv0
    obtain⟨r,hr,er⟩:=mem_ix hvb;obtain⟨jv,hjv,ejv⟩:=mem_ix hv
    obtain⟨e,he,hne,hu⟩:∃ e,e<T0.ns.length/\T0.fs[r]![e]! ≠ 0/\T0.ns[e]! ∉ T.ns:=by
     apply kJ;intro hc;have h1:=((S.sol _).2 (Qm S.w jv)) r hr;have h0:=((S.sol _).2 (bF S.w)) r hr;rw[er,<- ejv,LP S.w hjv,zE rfl]at h1;rw[er,bG S.w hv]at h0
     have:dt T0.fs[r]! (T0.ns.map (unF T jv))=dt T0.fs[r]! (T0.ns.map (bpF T)):=by
      refine Qn zsm fun j hj=>?_
      have hj':j<T0.ns.length:=by simpa using hj
      by_cases h2:T0.fs[r]![j]! = 0
      .exact zF h2
      .refine zC ?_
       have h3:T0.ns[j]! ∈ T.ns:=kJ fun h4=>hc ⟨j,hj',h2,h4⟩
       rw[tH hj',tH hj',bG S.w h3];obtain⟨a,ha,ea⟩:=mem_ix h3;rw[<- ea,LP S.w ha,zB fun h5=>hv0 ?_];rw[<- ejv,h5,ea];exact x6 hj'
     rw[<- h1,<- h0]at this;exact absurd this (by grind)
    refine ih L' (S.piv hr he hne) ?_ (uPG L S.w0 hr he hne h);have n1:(T.ns.filter fun v=>!T0.ns.contains v).Nodup:=S.w.nsn.filter _;have n2:(T.ns.filter fun v=>!(zY T0 r e).ns.contains v).Nodup:=S.w.nsn.filter _;have hm:v∈T.ns.filter fun v=>!T0.ns.contains v:=gT.2 ⟨hv,by simpa using hv0⟩
    have:=n2.length_le_of_subset (l₂:=(T.ns.filter fun v=>!T0.ns.contains v).erase v) fun x hx=>by
     have hx':=gT.1 hx;have h3:x∉(zY T0 r e).ns:=by simpa using hx'.2
     rw[LN S.w0 hr he,er]at h3;refine(n1.mem_erase_iff).2 ⟨fun h4=>h3 (zF h4),gT.2 ⟨hx'.1,?_⟩⟩;have:x∉T0.ns:=fun h4=>h3 (zC ⟨h4,fun h5=>hu (h5 ▸ hx'.1)⟩)
     simpa using this
    rw[F9 hm]at this;omega
def bsF(can:Nat->Bool)(lt:Nat->Nat->Prop)[∀ a b,Decidable (lt a b)]:Nat->Option Nat
 |0=>none
 | k+1=>if can k then(match bsF can lt k with
   |none=>some k
   |some b=>if lt k b then some k else some b) else bsF can lt k
def AJ {can:Nat->Bool} {lt:Nat->Nat->Prop} [∀ a b,Decidable (lt a b)] (hi:∀ a,¬ lt a a) (ht:∀ a b c,lt a b->lt b c->lt a c):∀ k,
 (bsF can lt k=none->∀ j,j<k->can j=false)/\∀ r,bsF can lt k=some r->r<k/\can r=true/\∀ j,j<k->can j=true->¬ lt j r
 |0=>⟨fun _ j h=>by omega,fun r h=>by cases h⟩
 | k + 1 => by
   obtain⟨i1,i2⟩:=AJ hi ht k;unfold bsF;by_cases hc:can k=true
   .rw [zE hc]
    cases h:bsF can lt k with
    | none =>
      refine⟨fun h=>(by cases h),fun r hr=>?_⟩;cases hr
      refine⟨zom,hc,fun j hj hcj=>?_⟩;by_cases e:j=k
      .rw[e];exact hi k
      .rw[i1 h j zom]at hcj;cases hcj
    | some b =>
      obtain⟨h1,h2,h3⟩:=i2 b h;dsimp only;refine⟨fun h=>?_,fun r hr=>?_⟩
      .split at h<;>cases h
      .split at hr
       .rename_i hlt
        cases hr
        refine⟨zom,hc,fun j hj hcj hl=>?_⟩;by_cases e:j=k
        .rw[e]at hl;exact hi k hl
        .exact h3 j zom hcj (ht _ _ _ hl hlt)
       .rename_i hlt
        cases hr
        refine⟨zom,h2,fun j hj hcj=>?_⟩;by_cases e:j=k
        .rw[e];exact hlt
        .exact h3 j zom hcj
   .rw[zB hc]
    refine⟨fun h j hj=>?_,fun r hr=>?_⟩
    .by_cases e:j=k
     .rw[e];simpa using hc
     .exact i1 h j zom
    .obtain⟨h1,h2,h3⟩:=i2 r hr
     refine⟨zom,h2,fun j hj hcj=>?_⟩;by_cases e:j=k
     .rw[e]at hcj;exact absurd hcj hc
     .exact h3 j zom hcj
variable {k e j:Nat}
def wX(n:Nat)(ns:List Nat)(l:List Rat):Nat->Option Nat:=bsF (fun j=>decide (n<=ns[j]!)&&decide (l[j]! < 0)) fun j b=>ns[j]! < ns[b]!
def vV(n:Nat)(T:Tab)(e:Nat):Nat->Option Nat:=bsF (fun i=>decide (n<=T.bs[i]!)&&decide (T.fs[i]![e]! < 0)) fun i b=>xK T e i<xK T e b\/xK T e i=xK T e b/\T.bs[i]! < T.bs[b]!
def u6(n:Nat)(T:Tab):Nat->Option Nat:=bsF (fun i=>decide (n<=T.bs[i]!)&&decide (T.fs[i]![T.ns.length]! < 0)) fun i b=>T.fs[i]![T.ns.length]! < T.fs[b]![T.ns.length]!
def Bs(n:Nat)(T:Tab)(e:Nat):Option Nat:=(List.range T.bs.length).find? fun r=>decide (n<=T.bs[r]!)&&decide (T.fs[r]![e]! ≠ 0)
def eG(n:Nat)(T:Tab)(e:Nat):Tab:=match Bs n T e with
 |none=>T
 |some r=>zY T r e
def yT(n:Nat)(T:Tab):Nat->Tab
 |0=>T
 |k+1=>eG n (yT n T k) k
def xL(n:Nat)(ln:Tab->List Rat):Nat->Tab->Tab×Option Nat
 |0,T=>(T,none)
 | k + 1,T=>match wX n T.ns (ln T) T.ns.length with
   |none=>(T,none)
   | some e=>match vV n T e T.bs.length with
     |none=>(T,some e)
     |some r=>xL n ln k (zY T r e)
def frB(n v:Nat):Bool:=decide (v<n)
def andT{p q:Prop}[Decidable p][Decidable q]:(decide p&&decide q)=true↔p/\q:=by simp
def andF{p q:Prop}[Decidable p][Decidable q]:(decide p&&decide q)=false↔(p->¬ q):=by simp
def frF{n v:Nat}:frB n v=false↔n<=v:=by simp[frB]
def Yb{n:Nat}{ns:List Nat}{l:List Rat}(h:wX n ns l k=none)  (hj:j<k)(hn:n<=ns[j]!):0<=l[j]! := by
 have:=andF.1 ((AJ (lt:=fun j b=>ns[j]! < ns[b]!) (fun a=>dH _) (fun a b c=>Nat.lt_trans) k).1 h j hj) hn
 grind
def LQ{T:Tab}{n:Nat}{l:List Rat}(h:wX n T.ns l T.ns.length=some e):Ent (frB n) T l e:=by
 obtain⟨h1,h2,h3⟩:=(AJ (lt:=fun j b=>T.ns[j]! < T.ns[b]!) (fun a=>dH _) (fun a b c=>Nat.lt_trans) _).2 e h;have h2:=andT.1 h2;refine⟨h1,frF.2 h2.1,h2.2,fun j hj hf hl=>?_⟩;have:=h3 j hj (andT.2 ⟨frF.1 hf,hl⟩);omega
def FI(T:Tab)(e:Nat):(∀ a,¬ (xK T e a<xK T e a\/xK T e a=xK T e a/\T.bs[a]! < T.bs[a]!))/\∀ a b c,(xK T e a<xK T e b\/xK T e a=xK T e b/\T.bs[a]! < T.bs[b]!)->(xK T e b<xK T e c\/xK T e b=xK T e c/\T.bs[b]! < T.bs[c]!)->(xK T e a<xK T e c\/xK T e a=xK T e c/\T.bs[a]! < T.bs[c]!):=by
 refine⟨fun a h=>?_,fun a b c h1 h2=>?_⟩
 .rcases h with h|⟨_,h⟩
  .exact absurd h (by grind)
  .omega
 .rcases h1 with h1|⟨h1,g1⟩<;>rcases h2 with h2|⟨h2,g2⟩
  .exact zF (by grind)
  .exact zF (by grind)
  .exact zF (by grind)
  .exact zC ⟨by grind,zom⟩
def Yc{n:Nat}{T:Tab}(h:vV n T e k=none)  (hj:j<k)(hn:n<=T.bs[j]!):0<=T.fs[j]![e]! := by
 have:=andF.1 ((AJ (FI T e).1 (FI T e).2 k).1 h j hj) hn
 grind
def Yd{T:Tab}{n r:Nat}(h:vV n T e T.bs.length=some r):Lev (frB n) T e r:=by
 obtain⟨h1,h2,h3⟩:=(AJ (FI T e).1 (FI T e).2 _).2 r h;have h2:=andT.1 h2;refine⟨h1,frF.2 h2.1,h2.2,fun j hj hf hl=>?_⟩;have:=h3 j hj (andT.2 ⟨frF.1 hf,hl⟩);have g1:¬ xK T e j<xK T e r:=fun h=>this (zF h)
 exact⟨by grind,fun e=>kJ fun h5=>this (zC ⟨e.symm,zom⟩)⟩
def FJ(T:Tab):(∀ a:Nat,¬ T.fs[a]![T.ns.length]! < T.fs[a]![T.ns.length]!)/\∀ a b c:Nat,T.fs[a]![T.ns.length]! < T.fs[b]![T.ns.length]! -> T.fs[b]![T.ns.length]! < T.fs[c]![T.ns.length]! -> T.fs[a]![T.ns.length]! < T.fs[c]![T.ns.length]! :=
 ⟨fun a=>by grind,fun a b c=>by grind⟩
def Ye{n:Nat}{T:Tab}(h:u6 n T k=none)  (hj:j<k)(hn:n<=T.bs[j]!):0<=T.fs[j]![T.ns.length]! := by
 have:=andF.1 ((AJ (FJ T).1 (FJ T).2 k).1 h j hj) hn
 grind
def Qo{T:Tab}{n r:Nat}(h:u6 n T T.bs.length=some r):r<T.bs.length/\n<=T.bs[r]! /\ T.fs[r]![T.ns.length]! < 0/\∀ j,j<T.bs.length->n<=T.bs[j]! -> T.fs[r]![T.ns.length]! <= T.fs[j]![T.ns.length]! := by
 obtain⟨h1,h2,h3⟩:=(AJ (FJ T).1 (FJ T).2 _).2 r h;have h2:=andT.1 h2;refine⟨h1,h2.1,h2.2,fun j hj hn=>?_⟩;by_cases hc:T.fs[j]![T.ns.length]! < 0
 .have:=h3 j hj (andT.2 ⟨hn,hc⟩);grind
 .grind
section
variable {n:Nat} {T T0:Tab} {r e i j:Nat}
def Yf(W:Wf T)(hr:r<T.bs.length)(hj:j<T.ns.length+1)(hje:j≠e)(h0:T.fs[r]![j]! = 0)(hi:i<T.bs.length):(zY T r e).fs[i]![j]! = if r=i then 0 else T.fs[i]![j]! := by
 have hlr:=W.ll r hr;have hf:(x9 e T.fs[r]!)[j]! = 0:=by unfold x9;rw[oD zom,zB hje,h0];grind
 rw[AC W hi]
 split
 .exact hf
 .unfold vC;rw[oD (by rw[W.ll i hi];omega),zB hje,hf];grind
def uSR(W:Wf T)(hr:r<T.bs.length)(hj:j<T.ns.length+1)(hje:j≠e)(h0:T.fs[r]![j]! = 0):(zY T r e).ob[j]! = T.ob[j]! := by
 have hlr:=W.ll r hr;have hf:(x9 e T.fs[r]!)[j]! = 0:=by unfold x9;rw[oD zom,zB hje,h0];grind
 show(vC e (x9 e T.fs[r]!) T.ob)[j]! = _
 unfold vC;rw[oD (by rw[W.ol];omega),zB hje,hf];grind
def Yg(hj:j<T.ns.length):(zY T r e).ns[j]! = if e=j then T.bs[r]! else T.ns[j]! := by unfold zY;dsimp only;rw[sN hj]
def Zc(n k:Nat)(T:Tab):Prop:=∀ j,j<k->j<T.ns.length->T.ns[j]! < n->∀ r,r<T.bs.length->n<=T.bs[r]! -> T.fs[r]![j]! = 0
def Zc.piv{k:Nat}(Z:Zc n k T)(W:Wf T)(hr:r<T.bs.length)(hn:n<=T.bs[r]!):Zc n k (zY T r e)/\(e=k->Zc n (k+1) (zY T r e)):=by
 have one:∀ j,j<T.ns.length->(j<k\/j=e)->(zY T r e).ns[j]! < n->∀ i,i<T.bs.length->n<=(zY T r e).bs[i]! -> (zY T r e).fs[i]![j]! = 0:=by
  intro j hj hjk hv i hi hb;rw[Yg hj]at hv;by_cases hje:e=j
  .rw[zE hje]at hv;omega
  .rw[zB hje]at hv
   have hjk':j<k:=zom
   have h0:=Z j hjk' hj hv r hr hn;rw[Yf W hr zom (y9 hje) h0 hi]
   split
   .rfl
   .rename_i hri
    rw[Br hi,zB hri]at hb;exact Z j hjk' hj hv i hi hb
 have hn':(zY T r e).ns.length=T.ns.length:=by simp[zY]
 have hb':(zY T r e).bs.length=T.bs.length:=by simp[zY]
 refine⟨fun j hj h1 h2 i hi=>one j zom (zF hj) h2 i zom,fun h j hj h1 h2 i hi=>one j zom ?_ h2 i zom⟩;by_cases h3:j=e
 .exact zC h3
 .exact zF zom
def Same.symm{obj:(Nat->Rat)->Rat}(S:Same obj T0 T):Same obj T T0:=⟨S.w,S.w0,S.bl.symm,S.nl.symm,fun z=>(S.sol z).symm,fun v=>(S.all v).symm,S.l,S.l0⟩
def Same.step{obj:(Nat->Rat)->Rat}(S:Same obj T0 T)(hr:r<T.bs.length)(he:e<T.ns.length)(ha:T.fs[r]![e]! ≠ 0):Same obj T0 (zY T r e):=(S.symm.piv hr he ha).symm
def Yh{obj:(Nat->Rat)->Rat}(S:Same obj T0 T)(k:Nat)(hk:k<=T.ns.length):Same obj T0 (yT n T k)/\Zc n k (yT n T k)/\(yT n T k).ns.length=T.ns.length/\(yT n T k).bs.length=T.bs.length/\(yT n T k).pv<=T.pv+k:=by
 induction k with
 |zero=>exact⟨S,fun j hj=>by omega,rfl,rfl,zX _⟩
 | succ k ih =>
   obtain⟨S',Z,h1,h2,h3⟩:=ih zom;rw[show yT n T (k+1)=eG n (yT n T k) k from rfl];generalize yT n T k=U at *
   unfold eG Bs;cases h:(List.range U.bs.length).find? fun r=>decide (n<=U.bs[r]!)&&decide (U.fs[r]![k]! ≠ 0) with
   | none =>
     refine⟨S',fun j hj hl hv r hr hb=>?_,h1,h2,by show U.pv<=_;omega⟩;by_cases hjk:j<k
     .exact Z j hjk hl hv r hr hb
     .have:j=k:=zom
      rw[this];have:=CZ.1 h r (yN.2 hr);apply kJ;intro hne;exact this (andT.2 ⟨hb,hne⟩)
   | some r =>
     have hr:r<U.bs.length:=yN.1 (Mv h);have hp:=NS h;have hp:=andT.1 hp;exact⟨S'.step hr zom hp.2,(Z.piv S'.w hr hp.1).2 rfl,by simp[zY,h1],by simp[zY,h2],by simp[zY];omega⟩
end
def uN6 {n:Nat} {ln:Tab->List Rat} {obj:(Nat->Rat)->Rat} {I:Tab->Prop} (hI:∀ T,I T->Wf T/\Lin obj T (ln T)) (hs:∀ T e r,I T->Ent (frB n) T (ln T) e->Lev (frB n) T e r->I (zY T r e)) :
 ∀ (K:Nat) (T:Tab),I T->Fea (frB n) T->∃ k f lq eq rq,Run (frB n) obj f lq eq rq k/\f 0=T/\I (f k)/\Fea (frB n) (f k)/\(xL n ln K T).1=f k/\k<=K/\(f k).pv=T.pv+k /\
   (k<K->match (xL n ln K T).2 with
     |none=>wX n (f k).ns (ln (f k)) (f k).ns.length=none
     |some e=>wX n (f k).ns (ln (f k)) (f k).ns.length=some e/\vV n (f k) e (f k).bs.length=none):=by
 intro K
 induction K with
 |zero=>exact fun T h F=>⟨0,fun _=>T,fun _=>[],fun _=>0,fun _=>0,⟨(hI T h).1,F,fun i hi=>by omega⟩,rfl,h,F,rfl,zX _,rfl,fun h=>by omega⟩
 | succ K ih =>
   intro T h F
   have triv:∀ o,xL n ln (K+1) T=(T,o)->(match o with
    |none=>wX n T.ns (ln T) T.ns.length=none
    |some e=>wX n T.ns (ln T) T.ns.length=some e/\vV n T e T.bs.length=none)->∃ k f lq eq rq,Run (frB n) obj f lq eq rq k/\f 0=T/\I (f k)/\Fea (frB n) (f k)/\(xL n ln (K+1) T).1=f k/\k<=K+1/\(f k).pv=T.pv+k /\
    (k<K+1->match (xL n ln (K+1) T).2 with
      |none=>wX n (f k).ns (ln (f k)) (f k).ns.length=none
      |some e=>wX n (f k).ns (ln (f k)) (f k).ns.length=some e/\vV n (f k) e (f k).bs.length=none):=by
    intro o ho hend;refine⟨0,fun _=>T,fun _=>[],fun _=>0,fun _=>0,⟨(hI T h).1,F,fun i hi=>by omega⟩,rfl,h,F,by rw[ho],zom,rfl,fun _=>?_⟩;rw[ho];exact hend
   cases he:wX n T.ns (ln T) T.ns.length with
   |none=>exact triv none (by unfold xL;rw[he]) he
   | some e =>
     cases hl:vV n T e T.bs.length with
     |none=>exact triv (some e) (by unfold xL;rw[he];dsimp only;rw[hl]) ⟨he,hl⟩
     | some r =>
       have E:=LQ he;have L:=Yd hl;have S:Stp (frB n) obj T (zY T r e) (ln T) e r:=⟨(hI T h).2,E,L,rfl⟩;obtain⟨k,f,lq,eq,rq,R,h0,h1,h2,h3,h4,h5,h6⟩:=ih (zY T r e) (hs T e r h E L) (S.fea (hI T h).1 F);have hm:xL n ln (K+1) T=xL n ln K (zY T r e):=by rw[xL,he];dsimp only;rw[hl]
       refine⟨k+1,fun i=>match i with|0=>T|i+1=>f i,fun i=>match i with|0=>ln T|i+1=>lq i,fun i=>match i with|0=>e|i+1=>eq i,fun i=>match i with|0=>r|i+1=>rq i,
        ⟨(hI T h).1,F,fun i hi=>?_⟩,rfl,h1,h2,by rw[hm];exact h3,zom,by show(f k).pv=_;rw[h5];simp[zY];omega,fun hk=>by rw[hm];exact h6 zom⟩
       match i with
       |0=>dsimp only;rw[h0];exact S
       |i+1=>exact R.stp i zom
def Yi{n:Nat}{ln:Tab->List Rat}{obj:(Nat->Rat)->Rat}{I:Tab->Prop}(hI:∀ T,I T->Wf T/\Lin obj T (ln T))(hs:∀ T e r,I T->Ent (frB n) T (ln T) e->Lev (frB n) T e r->I (zY T r e))
 {K B M:Nat} {T:Tab} (h:I T) (F:Fea (frB n) T) (hV:∀ v,(v∈T.bs\/v∈T.ns)->v<n+M) (hB:chF M (tL ((List.range M).map (n+·)) T).length<=B) (hK:B<=K) :
 I (xL n ln K T).1/\Fea (frB n) (xL n ln K T).1/\(xL n ln K T).1.pv<T.pv+B/\(match (xL n ln K T).2 with
  |none=>wX n (xL n ln K T).1.ns (ln (xL n ln K T).1) (xL n ln K T).1.ns.length=none
  |some e=>wX n (xL n ln K T).1.ns (ln (xL n ln K T).1) (xL n ln K T).1.ns.length=some e/\vV n (xL n ln K T).1 e (xL n ln K T).1.bs.length=none):=by
 obtain⟨k,f,lq,eq,rq,R,h0,h1,h2,h3,h4,h5,h6⟩:=uN6 hI hs K T h F;subst h0;have nd:((List.range M).map (n+·)).Nodup:=eF fun i j hij _=>by omega
 have:=R.few nd (fun v hv hm=>by
  have h7:=hV v hm;have h8:=frF.1 hv
  exact zW.2 ⟨v-n,yN.2 zom,zom⟩) (fun v hv=>by
  obtain⟨x,_,rfl⟩:=zW.1 hv
  exact frF.2 zom)
 simp only[z6,Ca]at this;have hk:k<K:=zom
 rw[h3];exact⟨h1,h2,zom,h6 hk⟩
variable {B:List Nat}{k:Nat}
def vO(l:List Rat)(k:Nat)(x:Rat):List Rat:=l.take k++x::l.drop k
def ins_len{l:List Rat}  {x:Rat}(h:l.length=k+1):(vO l k x).length=k+2:=by simp[vO,h]
def Qp{l:List Rat}{j:Nat}{x:Rat}(h:l.length=k+1)(hj:j<k+2):(vO l k x)[j]! = if j<k then l[j]! else if j=k then x else l[k]! := by
 rw[gp (by rw[ins_len h];exact hj)];unfold vO;by_cases h1:j<k
 .rw[zE h1,iJ yE,GM,gp zom]
 .rw[zB h1,iI yE]
  have e:(l.take k).length=k:=by simp;omega
  by_cases h2:j=k
  .subst h2;rw[zE rfl];simp only[e,EK,List.getElem_cons_zero]
  .rw[zB h2]
   have:j=k+1:=zom
   subst this;simp only[e,GA,List.getElem_cons_succ,JY];rw[gp zom];rfl
def Ie:∀ {k:Nat} {l w:List Rat} {x y:Rat},l.length=k+1->w.length=k->dt (vO l k x) (w++[y])=dt l w+x*y
 |0,[a],[],x,y,_,_=>by simp only[vO,List.take_zero,EJ,List.nil_append,mN,Kv];grind
 | k+1,a::l,b::w,x,y,h,h'=>by
   have ih:=Ie (k:=k) (l:=l) (w:=w) (x:=x) (y:=y) (by simpa using h) (by simpa using h');simp only[vO,List.take_succ_cons,List.drop_succ_cons,List.cons_append,mN]at ih ⊢;rw[ih];grind
def Yj:∀ {c:Nat} {l w:List Rat},c<w.length->l.length=w.length+1->dt l w=dt (l.eraseIdx c) (w.eraseIdx c)+l[c]!*w[c]!
 |_,[],_,_,h=>by simp at h
 |c,_::_,[],h,_=>by simp at h
 |0,a::l,b::w,_,_=>by simp only[List.eraseIdx_cons_zero,mN,bS];grind
 | c+1,a::l,b::w,h,h'=>by
   simp only[List.eraseIdx_cons_succ,mN,Ab];rw[Yj (c:=c) (by simpa using h) (by simpa using h')];grind
def set0(n:Nat)(A:List (List Rat))(c:List Rat):Tab:=⟨n,(List.range A.length).map (n+·),List.range n,A,c,0⟩
def obF(n:Nat)(c:List Rat)(z:Nat->Rat):Rat:=dt c ((List.range n).map z)
def xB(n:Nat)(T:Tab):Tab :=
 { T with ns:=T.ns++[n+T.bs.length],fs:=(List.range T.bs.length).map fun r=>vO T.fs[r]! T.ns.length (if n<=T.bs[r]! then 1 else 0),ob:=vO T.ob T.ns.length 0 }
def ax0(n:Nat)(A:List (List Rat))(c:List Rat)(B:List Nat):Tab :=
 ⟨n,(List.range A.length).map (n+·),List.range n++[n+A.length],(List.range A.length).map fun i=>vO A[i]! n (if n+i∈B then 1 else 0),vO c n 0,0⟩
def uR{m i:Nat}{α:Type}[Inhabited α]{f:Nat->α}(h:i<m):((List.range m).map f)[i]! = f i:=by rw[gp (by simpa using h)];simp
section
variable {n:Nat} {A:List (List Rat)} {c:List Rat}
structure Okp(n:Nat)(A:List (List Rat))(c:List Rat):Prop where
 a:∀ i,i<A.length->A[i]!.length=n+1
 c:c.length=n+1
def Yk(n m:Nat):((List.range m).map (n+·)).Nodup:=eF fun i j hij _=>by omega
def Qq(h:Okp n A c):Wf (set0 n A c):=by
 refine⟨by simp[set0],fun i hi=>?_,by simp[set0,h.c],?_⟩
 .have:i<A.length:=by simpa [set0]using hi
  simp only[set0,Ca];exact h.a i this
 .refine iK.2 ⟨Yk _ _,JZ,fun a ha b hb=>?_⟩
  obtain⟨x,_,rfl⟩:=zW.1 ha;have:=yN.1 hb;omega
def Qr(h:Okp n A c):Same (obF n c) (set0 n A c) (set0 n A c) :=
 have l:Lin (obF n c) (set0 n A c) (set0 n A c).ob:=⟨by simp[set0,h.c],fun _ _=>rfl⟩
 ⟨Qq h,Qq h,rfl,rfl,fun _=>Au,fun _=>Au,l,l⟩
def set0_sol{z:Nat->Rat}:Sol (set0 n A c) z↔∀ i,i<A.length->z (n+i)=dt A[i]! ((List.range n).map z):=by
 constructor
 .intro h i hi
  have:=h i (by simpa [set0]using hi);simp only[set0]at this;rw[uR hi]at this;exact this
 .intro h i hi
  have hi:i<A.length:=by simpa [set0]using hi
  simp only[set0];rw[uR hi];exact h i hi
def Qs(h:Okp n A c)  {z:Nat->Rat}:Sol (ax0 n A c B) z↔∀ i,i<A.length->z (n+i)=dt A[i]! ((List.range n).map z)+(if n+i∈B then 1 else 0)*z (n+A.length):=by
 have e:∀ i,i<A.length->dt (vO A[i]! n (if n+i∈B then 1 else 0)) ((List.range n++[n+A.length]).map z)=dt A[i]! ((List.range n).map z)+(if n+i∈B then 1 else 0)*z (n+A.length):=fun i hi=>by
  rw[wB,uW,kO,Ie (h.a i hi) zsm]
 constructor
 .intro hs i hi
  have:=hs i (by simpa [ax0]using hi);simp only[ax0]at this;rw[uR hi,uR hi,e i hi]at this;exact this
 .intro hs i hi
  have hi:i<A.length:=by simpa [ax0]using hi
  simp only[ax0];rw[uR hi,uR hi,e i hi];exact hs i hi
def Yl(h:Okp n A c)  : Wf (ax0 n A c B):=by
 refine⟨by simp[ax0],fun i hi=>?_,?_,?_⟩
 .have:i<A.length:=by simpa [ax0]using hi
  simp only[ax0];rw[uR this,ins_len (h.a i this)];simp
 .simp only[ax0];rw[ins_len h.c];simp
 .refine iK.2 ⟨Yk _ _,iK.2 ⟨JZ,zsm,fun a ha b hb=>?_⟩,fun a ha b hb=>?_⟩
  .have:=yN.1 ha;simp at hb;omega
  .obtain⟨x,hx,rfl⟩:=zW.1 ha
   have:=yN.1 hx;rcases y8.1 hb with h1|h1
   .have:=yN.1 h1;omega
   .have:=yG.1 h1;omega
def Ig{T:Tab}(S:Same (obF n c) (set0 n A c) T){v:Nat}(hv:v∈T.bs\/v∈T.ns):v<n+A.length:=by
 rcases(S.all v).2 hv with h|h
 .obtain⟨x,hx,rfl⟩:=zW.1 h
  have:=yN.1 hx;omega
 .have:=yN.1 h;omega
def LR{T:Tab}(S:Same (obF n c) (set0 n A c) T):T.bs.length=A.length/\T.ns.length=n:=⟨by rw[<- S.bl];simp[set0],by rw[<- S.nl];simp[set0]⟩
def Ym(h:Okp n A c){T:Tab}(S:Same (obF n c) (set0 n A c) T):Same (obF n c) (ax0 n A c T.bs) (xB n T):=by
 obtain⟨hb,hn⟩:=LR S;have hax:∀ v,v∈T.bs\/v∈T.ns->v≠n+A.length:=fun v hv=>by have:=Ig S hv;omega
 have sh:∀ z:Nat->Rat,∃ z':Nat->Rat,(∀ v,z' v=if v∈T.bs/\n<=v then z v-z (n+A.length) else z v):=fun z=>⟨_,fun _=>rfl⟩
 have ens:∀ {z z':Nat->Rat},(∀ v,z' v=if v∈T.bs/\n<=v then z v-z (n+A.length) else z v)->T.ns.map z'=T.ns.map z:=fun h'=>rL fun v hv=>by rw[h' v,zB fun h=>S.w.dis h.1 hv]
 have ern:∀ {z z':Nat->Rat},(∀ v,z' v=if v∈T.bs/\n<=v then z v-z (n+A.length) else z v)->(List.range n).map z'=(List.range n).map z:=fun h'=>rL fun v hv=>by
  have:=yN.1 hv;rw[h' v,zB fun h=>by omega]
 have esol:∀ {z z':Nat->Rat},(∀ v,z' v=if v∈T.bs/\n<=v then z v-z (n+A.length) else z v)->(Sol (xB n T) z↔Sol T z'):=fun {z z'} h'=>by
  have row:∀ i,i<T.bs.length->dt (xB n T).fs[i]! ((xB n T).ns.map z)=dt T.fs[i]! (T.ns.map z)+(if n<=T.bs[i]! then 1 else 0)*z (n+A.length):=fun i hi=>by
   simp only[xB];rw[uR hi,wB,uW,kO,Ie (S.w.ll i hi) zsm,hb]
  constructor<;>intro hs i hi
  .have:=hs i hi
   rw[row i hi]at this;have e1:(xB n T).bs[i]! = T.bs[i]! := rfl;rw[e1]at this;rw[ens h',h' T.bs[i]!];by_cases hf:n<=T.bs[i]!
   .rw[zE ⟨x6 hi,hf⟩,this,zE hf];grind
   .rw[zB fun h=>hf h.2,this,zB hf];grind
  .have hi':i<T.bs.length:=hi
   have:=hs i hi';rw[row i hi'];show z T.bs[i]! = _
   rw[ens h',h' T.bs[i]!]at this;by_cases hf:n<=T.bs[i]!
   .rw[zE ⟨x6 hi',hf⟩]at this;rw[zE hf,<- this];grind
   .rw[zB fun h=>hf h.2]at this;rw[zB hf,<- this];grind
 have wf:Wf (xB n T):=by
  refine⟨by simp[xB],fun i hi=>?_,?_,?_⟩
  .have hi':i<T.bs.length:=hi
   simp only[xB];rw[uR hi',ins_len (S.w.ll i hi')];simp
  .simp only[xB];rw[ins_len S.w.ol];simp
  .simp only[xB]
   rw[<- tV];refine iK.2 ⟨S.w.nd,zsm,fun a ha b hb'=>?_⟩;simp at hb';rw[hb',hb];exact hax a (y8.1 ha)
 have lin:∀ l T' (hT':T'=xB n T),Lin (obF n c) T l->Lin (obF n c) T' (vO l T.ns.length 0):=fun l T' hT' hl=>by
  subst hT';refine⟨by rw[ins_len hl.1];simp[xB],fun z hz=>?_⟩;obtain⟨z',h'⟩:=sh z;have:=hl.2 z' ((esol h').1 hz);unfold obF at this ⊢;rw[ern h',ens h']at this;simp only[xB];rw[this,wB,uW,kO,Ie hl.1 zsm];grind
 refine⟨Yl h,wf,by simp[ax0,xB,hb],by simp[ax0,xB,hn],fun z=>?_,fun v=>?_,⟨?_,fun z _=>?_⟩,lin _ _ rfl S.l⟩
 .obtain⟨z',h'⟩:=sh z
  rw[esol h',<- S.sol z',set0_sol,Qs h,ern h'];constructor
  .intro hs i hi
   have:=hs i hi;rw[h' (n+i)]at *
   by_cases hm:n+i∈T.bs
   .rw[zE hm]at this;rw[zE ⟨hm,zom⟩,this];grind
   .rw[zB hm]at this;rw[zB fun h=>hm h.1,this];grind
  .intro hs i hi
   have:=hs i hi;rw[h' (n+i)]at this;by_cases hm:n+i∈T.bs
   .rw[zE ⟨hm,zom⟩]at this;rw[zE hm,<- this];grind
   .rw[zB fun h=>hm h.1]at this;rw[zB hm,<- this];grind
 .have:=S.all v
  simp only[set0]at this;simp only[ax0,xB,y8,yG,hb];rw[<- or_assoc,<- or_assoc,this]
 .simp only[ax0];rw[ins_len h.c];simp
 .simp only[ax0,obF]
  rw[wB,uW,kO,Ie h.c zsm];grind
def uI(T:Tab)(k:Nat):Tab:={ T with ns:=T.ns.eraseIdx k,fs:=T.fs.map (·.eraseIdx k),ob:=T.ob.eraseIdx k }
def Yn{α:Type}[Inhabited α]{l:List α}{j:Nat}(hk:k<l.length)(hj:j+1<l.length):(l.eraseIdx k)[j]! = if j<k then l[j]! else l[j+1]! := by
 rw[gp (by rw[jN hk];omega),List.getElem_eraseIdx]
 split
 .rw[gp zom]
 .rw[gp hj]
def Yo{α β:Type}{f:α->β}:∀ (l:List α) (k:Nat),(l.map f).eraseIdx k=(l.eraseIdx k).map f
 |[],_=>rfl
 |_::_,0=>rfl
 |a::l,k+1=>by simp[Yo l k]
def Qu{l:List Nat}{v:Nat}(h:l.Nodup)(hk:k<l.length):v∈l.eraseIdx k↔v∈l/\v≠l[k]! := by
 have e:l.eraseIdx k=l.erase l[k]! := by
  rw[gp hk,List.erase_eq_eraseIdx_of_idxOf (h.idxOf_getElem k hk)]
 rw[e,h.mem_erase_iff];exact⟨fun⟨a,b⟩=>⟨b,a⟩,fun⟨a,b⟩=>⟨b,a⟩⟩
def uGP(h:Okp n A c){T:Tab}   (S:Same (obF n c) (ax0 n A c B) T)(hk:k<T.ns.length)(hv:T.ns[k]! = n+A.length):Same (obF n c) (set0 n A c) (uI T k):=by
 have hn:T.ns.length=n+1:=by rw[<- S.nl];simp[ax0]
 have hb:T.bs.length=A.length:=by rw[<- S.bl];simp[ax0]
 have hnb:n+A.length∉T.bs:=fun hm=>S.w.dis hm (hv ▸ x6 hk)
 have sh:∀ z:Nat->Rat,∃ z':Nat->Rat,(∀ v,z' v=if v=n+A.length then 0 else z v):=fun z=>⟨_,fun _=>rfl⟩
 have line:∀ {z z':Nat->Rat} (l:List Rat),(∀ v,z' v=if v=n+A.length then 0 else z v)->l.length=T.ns.length+1->dt (l.eraseIdx k) ((T.ns.eraseIdx k).map z)=dt l (T.ns.map z'):=fun {z z'} l h' hl=>by
  rw[Yj (l:=l) (w:=T.ns.map z') (c:=k) (by simpa using hk) (by simpa using hl),tH hk,hv,h' (n+A.length),zE rfl]
  have:(T.ns.map z').eraseIdx k=(T.ns.eraseIdx k).map z:=by
   rw[Yo];refine rL fun v hm=>?_
   rw[h' v,zB fun e=>((Qu S.w.nsn hk).1 hm).2 (by rw[hv];exact e)]
  rw[this];grind
 have esol:∀ {z z':Nat->Rat},(∀ v,z' v=if v=n+A.length then 0 else z v)->(Sol (uI T k) z↔Sol T z'):=fun {z z'} h'=>by
  have row:∀ i,i<T.bs.length->dt (uI T k).fs[i]! ((uI T k).ns.map z)=dt T.fs[i]! (T.ns.map z'):=fun i hi=>by
   simp only[uI];rw[tH (by rw[S.w.fl];exact hi),line _ h' (S.w.ll i hi)]
  have hz:∀ i,i<T.bs.length->z' T.bs[i]! = z T.bs[i]! := fun i hi=>by
   have hne:T.bs[i]! ≠ n+A.length:=fun e=>hnb (e ▸ x6 hi)
   rw[h',zB hne]
  constructor<;>intro hs i hi
  .have:=hs i hi
   rw[row i hi]at this;rw[hz i hi];exact this
  .have:=hs i hi
   rw[hz i hi]at this;rw[row i hi];exact this
 have ern:∀ {z z':Nat->Rat},(∀ v,z' v=if v=n+A.length then 0 else z v)->(List.range n).map z'=(List.range n).map z:=fun h'=>rL fun v hv=>by
  have:=yN.1 hv;rw[h' v,zB zom]
 have ob:∀ {z z':Nat->Rat},(∀ v,z' v=if v=n+A.length then 0 else z v)->obF n c z'=obF n c z:=fun h'=>by unfold obF;rw[ern h']
 have wf:Wf (uI T k):=by
  refine⟨by simp[uI,S.w.fl],fun i hi=>?_,?_,?_⟩
  .have hi':i<T.bs.length:=hi
   simp only[uI];rw[tH (by rw[S.w.fl];exact hi'),jN (by rw[S.w.ll i hi'];omega),jN hk,S.w.ll i hi'];omega
  .simp only[uI]
   rw[jN (by rw[S.w.ol];omega),jN hk,S.w.ol];omega
  .refine iK.2 ⟨S.w.bsn,S.w.nsn.sublist (List.eraseIdx_sublist ..),fun a ha b hb' e=>?_⟩
   subst e;exact S.w.dis ha ((Qu S.w.nsn hk).1 hb').1
 refine⟨Qq h,wf,by simp[set0,uI,hb],?_,fun z=>?_,fun v=>?_,(Qr h).l,⟨?_,fun z hz=>?_⟩⟩
 .simp only[set0,uI,Ca];rw[jN hk,hn];omega
 .obtain⟨z',h'⟩:=sh z
  rw[esol h',<- S.sol z',set0_sol,Qs h,ern h'];have e:∀ i,i<A.length->z' (n+i)=z (n+i):=fun i hi=>by rw[h',zB zom]
  constructor<;>intro hs i hi
  .rw[e i hi,hs i hi,h' (n+A.length),zE rfl];grind
  .have:=hs i hi
   rw[e i hi,h' (n+A.length),zE rfl]at this;rw[this];grind
 .have:=S.all v
  simp only[ax0,y8,yG]at this;simp only[set0,uI];rw[Qu S.w.nsn hk,hv];constructor
  .intro h1
   have hne:v≠n+A.length:=by
    rcases h1 with h1|h1
    .obtain⟨x,hx,rfl⟩:=zW.1 h1
     have:=yN.1 hx;omega
    .have:=yN.1 h1;omega
   rcases h1 with h1|h1
   .rcases this.1 (zF h1) with h2|h2
    .exact zF h2
    .exact zC ⟨h2,hne⟩
   .rcases this.1 (zC (zF h1)) with h2|h2
    .exact zF h2
    .exact zC ⟨h2,hne⟩
  .rintro(h1|⟨h1,hne⟩)
   .have hne:v≠n+A.length:=fun e=>hnb (e ▸ h1)
    rcases this.2 (zF h1) with h2|h2|h2
    .exact zF h2
    .exact zC h2
    .exact absurd h2 hne
   .rcases this.2 (zC h1) with h2|h2|h2
    .exact zF h2
    .exact zC h2
    .exact absurd h2 hne
 .simp only[uI]
  rw[jN (by rw[S.w.ol];omega),jN hk,S.w.ol];omega
 .obtain⟨z',h'⟩:=sh z
  rw[<- ob h',S.l.2 z' ((esol h').1 hz)];simp only[uI];rw[line _ h' S.w.ol]
end
variable {v:Nat}{x:List Rat}{e:Nat}
def Bt:Nat:=65537
def sG(n:Nat)(ln:Tab->List Rat)(T:Tab):Tab×Option Nat:=xL n ln (Bt-T.pv) T
def xD(x:Nat)(T:Tab):List Rat:=if x∈T.bs then T.fs[T.bs.idxOf x]! else(List.replicate (T.ns.length+1) 0).set (T.ns.idxOf x) 1
def Bu(T:Tab)(r:Nat):Option Nat:=(List.range T.ns.length).find? fun e=>decide (T.fs[r]![e]! ≠ 0)
def uJ(x:Nat)(T:Tab):Tab:=if x∈T.bs then zY T (T.bs.idxOf x) ((Bu T (T.bs.idxOf x)).getD 0) else T
def tN(n m:Nat)(ns:List Nat)(l:List Rat):List Rat:=(List.range m).map fun i=>if n+i∈ns then l[ns.idxOf (n+i)]! else 0
def u7(n:Nat)(T:Tab):List Rat:=(List.range n).map (bpF T)
def mO(n:Nat)(T:Tab)(e:Nat)(by':Rat):List Rat:=(List.range n).map fun v=>if T.ns[e]! = v then by' else if v∈T.bs then by'*T.fs[T.bs.idxOf v]![e]! else 0
def nR(n:Nat)(T:Tab):Sum (List Rat×Tab) Tab:=match u6 n T T.bs.length with
 |none=>.inr T
 | some w =>
   let x:=n+T.bs.length
   let U:=(sG n (xD x) (zY (xB n T) w T.ns.length)).1
   if 0<(xD x U)[U.ns.length]! then .inl (tN n T.bs.length U.ns (xD x U),U)
   else .inr (uI (uJ x U) ((uJ x U).ns.idxOf x))
inductive Out where
 |inf (y:List Rat) (pv:Nat)
 |unb (x d:List Rat) (pv:Nat)
 |opt (v:Rat) (x y:List Rat) (bs:List Nat) (pv:Nat)
def iF(n:Nat)(T:Tab):Option Nat:=(List.range T.ns.length).find? fun e=>decide (T.ns[e]! < n)&&decide (T.ob[e]! ≠ 0)
def AK(x:Rat):Rat:=if x<0 then -1 else if 0<x then 1 else 0
def solF(n:Nat)(A:List (List Rat))(c:List Rat):Out:=match nR n (yT n (set0 n A c) n) with
 |.inl (y,U)=>.inf y U.pv
 | .inr T=>match iF n T with
   |some e=>.unb (u7 n T) (mO n T e (- AK T.ob[e]!)) T.pv
   | none=>match sG n (·.ob) T with
     |(U,some e)=>.unb (u7 n U) (mO n U e 1) U.pv
     |(U,none)=>.opt U.ob[U.ns.length]! (u7 n U) (tN n T.bs.length U.ns U.ob) U.bs U.pv
section
variable {n:Nat} {A:List (List Rat)} {c:List Rat}
def sm(f:Nat->Rat):Nat->Rat
 |0=>0
 |m+1=>sm f m+f m
def Yp{f g h:Nat->Rat}:∀ m,(∀ i,i<m->h i=f i+g i)->sm h m=sm f m+sm g m
 |0,_=>by simp only[sm];grind
 |m+1,hh=>by simp only[sm];rw[Yp m fun i hi=>hh i zom,hh m zom];grind
def Ih{f:Nat->Rat}:∀ m,(∀ i,i<m->f i=0)->sm f m=0
 |0,_=>rfl
 |m+1,hh=>by simp only[sm];rw[Ih m fun i hi=>hh i zom,hh m zom];grind
def Yq{f:Nat->Rat}{k:Nat}:∀ m,k<m->(∀ i,i<m->i≠k->f i=0)->sm f m=f k
 | m+1,hk,hh=>by
   simp only[sm];by_cases h:k=m
   .subst h;rw[Ih k fun i hi=>hh i zom zom];grind
   .rw[Yq m zom fun i hi=>hh i zom,hh m zom (y9 h)];grind
def uTV{w:Nat}{l:List Nat}(h:v≠w):(v::l).idxOf w=l.idxOf w+1:=by rw[List.idxOf_cons,show(v == w)=false by simpa using h];rfl
def Qv{m:Nat}{z:Nat->Rat}:∀ (ns:List Nat) (l:List Rat),l.length=ns.length+1->ns.Nodup->(∀ v∈ns,v<n+m)->(∀ j,j<ns.length->ns[j]! < n->l[j]! = 0) ->
 dt l (ns.map z)=sm (fun i=>(if n+i∈ns then l[ns.idxOf (n+i)]! else 0)*z (n+i)) m+l[ns.length]!
 | [],[a],_,_,_,_=>by
   rw[Ih m fun i hi=>by rw[zB zsm];grind];simp only[kO,Kv,List.length_nil,bS];grind
 | v :: ns,a::l,hl,hd,hv,h0=>by
   have hd':=mU.1 hd
   have ih:=Qv (m:=m) (z:=z) ns l (by simpa using hl) hd'.2 (fun v hv'=>hv v (xN _ hv')) fun j hj hn=>by
    have:=h0 (j+1) (by simpa using hj) (by simpa using hn)
    simpa using this
   rw[uW,mN,ih]
   have e1:∀ i,i<m->(if n+i∈v::ns then(a::l)[(v::ns).idxOf (n+i)]! else 0)*z (n+i)=(if v=n+i then a*z v else 0)+(if n+i∈ns then l[ns.idxOf (n+i)]! else 0)*z (n+i):=fun i hi=>by
    by_cases h:v=n+i
    .rw[zE h,zE (by simp[h]),zB (by rw[<- h];exact hd'.1),<- h,List.idxOf_cons_self,bS];grind
    .rw[zB h]
     by_cases h2:n+i∈ns
     .rw[zE (xN _ h2),zE h2,uTV h,Ab];grind
     .rw[zB (by simp[h2,y9 h]),zB h2];grind
   rw[Yp m e1]
   have e2:sm (fun i=>if v=n+i then a*z v else 0) m=a*z v:=by
    by_cases hvn:v<n
    .have ha:a=0:=by simpa using h0 0 zsm (by simpa using hvn)
     rw[Ih m fun i hi=>by rw[zB zom],ha];grind
    .have:=hv v zsm
     rw[Yq (k:=v-n) m zom fun i hi hne=>by rw[zB zom]];rw[zE zom]
   rw[e2];simp only[List.length_cons,Ab];grind
def AL(n:Nat)(A:List (List Rat))(x:List Rat)(v:Nat):Rat:=if v<n then x[v]! else if v<n+A.length then dt A[v-n]! x else 0
def Qw  (hx:x.length=n):(List.range n).map (AL n A x)=x:=by
 apply vE (by simp[hx]);intro j h1 h2;have:j<n:=by simpa using h1
 simp only[vS,oQ];unfold AL;rw[zE this,gp h2]
def LS  {i:Nat}(hi:i<A.length):AL n A x (n+i)=dt A[i]! x:=by
 unfold AL;rw[zB zom,zE zom,GA]
def uPD  (hx:x.length=n):Sol (set0 n A c) (AL n A x):=set0_sol.2 fun i hi=>by rw[LS hi,Qw hx]
def Bv(n:Nat)(A:List (List Rat))(c:List Rat):Out->Prop
 |.inf y _=>y.length=A.length/\(∀ i,i<A.length->0<=y[i]!)/\∃ k:Rat,0<k/\∀ x:List Rat,x.length=n->sm (fun i=>y[i]!*dt A[i]! x) A.length=- k
 |.unb x d _=>x.length=n/\d.length=n/\∀ k:Rat,∃ x:List Rat,x.length=n/\(∀ i,i<A.length->0<=dt A[i]! x)/\dt c x<k
 |.opt v x y _ _=>x.length=n/\(∀ i,i<A.length->0<=dt A[i]! x)/\dt c x=v/\y.length=A.length/\(∀ i,i<A.length->0<=y[i]!)/\∀ x:List Rat,x.length=n->dt c x=v+sm (fun i=>y[i]!*dt A[i]! x) A.length
def I1(n:Nat)(A:List (List Rat))(c:List Rat)(B:List Nat)(T:Tab):Prop:=Same (obF n c) (ax0 n A c B) T/\Zc n (n+1) T
def I0(n:Nat)(A:List (List Rat))(c:List Rat)(T:Tab):Prop:=Same (obF n c) (set0 n A c) T/\Zc n n T
def I2(n:Nat)(A:List (List Rat))(c:List Rat)(T:Tab):Prop:=I0 n A c T/\∀ j,j<T.ns.length->T.ns[j]! < n->T.ob[j]! = 0
variable {B:List Nat} {T U:Tab}
def FK(h:I1 n A c B U):U.ns.length=n+1/\U.bs.length=A.length:=⟨by rw[<- h.1.nl];simp[ax0],by rw[<- h.1.bl];simp[ax0]⟩
def Ii(h:I1 n A c B U):n+A.length∈U.bs\/n+A.length∈U.ns:=(h.1.all _).1 (zC (by simp[ax0]))
def Qx(h:I1 n A c B U)  (hv:v∈U.bs\/v∈U.ns):v<n+(A.length+1):=by
 rcases(h.1.all v).2 hv with h1|h1
 .obtain⟨x,hx,rfl⟩:=zW.1 h1
  have:=yN.1 hx;omega
 .rcases y8.1 h1 with h2|h2
  .have:=yN.1 h2;omega
  .have:=yG.1 h2;omega
def oI{l:List Nat}  (h:v∈l):l.idxOf v<l.length/\l[l.idxOf v]! = v:=by
 have h1:=Tg h;exact⟨h1,by rw[gp h1];exact List.getElem_idxOf h1⟩
def Qy(h:I1 n A c B U):Lin (fun z=>z (n+A.length)) U (xD (n+A.length) U):=by
 unfold xD;by_cases hb:n+A.length∈U.bs
 .obtain⟨h1,h2⟩:=oI hb
  rw[zE hb];exact⟨h.1.w.ll _ h1,fun z hz=>by have:=hz _ h1;rw[h2]at this;exact this⟩
 .have hn:=(Ii h).resolve_left hb
  obtain⟨h1,h2⟩:=oI hn;rw[zB hb];exact⟨zsm,fun z hz=>by rw[IB zsm h1,tH h1,h2];grind⟩
def Yr(h:I1 n A c B U){l:List Rat}{r:Nat}(E:Ent (frB n) U l e)(L:Lev (frB n) U e r):I1 n A c B (zY U r e) :=
 ⟨h.1.step L.1 E.1 (fun h0=>by have:=L.2.2.1;rw[h0]at this;exact absurd this (by grind)),(h.2.piv h.1.w L.1 (frF.1 L.2.1)).1⟩
def Dg(h:I0 n A c U):U.ns.length=n/\U.bs.length=A.length:=⟨(LR h.1).2,(LR h.1).1⟩
def Yt(h:I2 n A c U){l:List Rat}{r:Nat}(E:Ent (frB n) U l e)(L:Lev (frB n) U e r):I2 n A c (zY U r e):=by
 have hr:=frF.1 L.2.1;refine⟨⟨h.1.1.step L.1 E.1 (fun h0=>by have:=L.2.2.1;rw[h0]at this;exact absurd this (by grind)),(h.1.2.piv h.1.1.w L.1 hr).1⟩,fun j hj hn=>?_⟩;have hj':j<U.ns.length:=by simpa [zY]using hj
 rw[Yg hj']at hn;by_cases hje:e=j
 .rw[zE hje]at hn;omega
 .rw[zB hje]at hn
  rw[uSR h.1.1.w L.1 zom (y9 hje) (h.1.2 j (by have:=(Dg h.1).1;omega) hj' hn _ L.1 hr)];exact h.2 j hj' hn
def uTP{V:List Nat}(hV:V.Nodup):(tL V T).length<=T.ns.length:=Tc (hV.filter _) fun v hv=>by
 have:=(gT.1 hv).2
 simpa using this
def key_le'{M:Nat}:(tL ((List.range M).map (n+·)) T).length<=T.ns.length:=uTP (eF fun i j hij _=>by omega)
def LU(h:Okp n A c)(I:I0 n A c T){w:Nat}(hw:u6 n T T.bs.length=some w):I1 n A c T.bs (zY (xB n T) w T.ns.length)/\Fea (frB n) (zY (xB n T) w T.ns.length):=by
 obtain⟨hl,hb⟩:=Dg I;obtain⟨h1,h2,h3,h4⟩:=Qo hw;have S:=Ym h I.1;have fs:∀ i,i<T.bs.length->(xB n T).fs[i]! = vO T.fs[i]! T.ns.length (if n<=T.bs[i]! then 1 else 0):=fun i hi=>by simp only[xB];rw[uR hi]
 have ent:∀ i,i<T.bs.length->∀ j,j<T.ns.length+2->(xB n T).fs[i]![j]! = if j<T.ns.length then T.fs[i]![j]! else if j=T.ns.length then(if n<=T.bs[i]! then 1 else 0) else T.fs[i]![T.ns.length]! := fun i hi j hj=>by
  rw[fs i hi,Qp (I.1.w.ll i hi) hj]
 have ew:(xB n T).fs[w]![T.ns.length]! = 1:=by rw[ent w h1 _ zom,zB zom,zE rfl,zE h2]
 have hnl:(xB n T).ns.length=T.ns.length+1:=by simp[xB]
 have Z:Zc n (n+1) (xB n T):=fun j hj hjl hv r hr hbr=>by
  have hr':r<T.bs.length:=hr;have hbr':n<=T.bs[r]! := hbr
  have hns:(xB n T).ns[j]! = if j<T.ns.length then T.ns[j]! else n+T.bs.length:=by
   simp only[xB];rw[gp yE]
   split
   .rename_i h5;rw[iJ h5,gp h5]
   .rename_i h5;rw[iI zom];simp
  rw[hns]at hv;by_cases h5:j<T.ns.length
  .rw[zE h5]at hv
   rw[ent r hr' j zom,zE h5];exact I.2 j zom h5 hv r hr' hbr'
  .rw[zB h5]at hv;omega
 refine⟨⟨S.step h1 zom (by rw[ew];grind),(Z.piv S.w h1 h2).1⟩,fun i hi hf=>?_⟩;have hi':i<T.bs.length:=by simpa [zY,xB]using hi
 have hpl:(zY (xB n T) w T.ns.length).ns.length=T.ns.length+1:=by simp[zY,xB]
 rw[hpl,AC S.w hi']
 have hfw:(x9 T.ns.length (xB n T).fs[w]!)[T.ns.length+1]! = - T.fs[w]![T.ns.length]! := by
  unfold x9;have hlw:=S.w.ll w h1;rw[oD zom,zB zom,ew,ent w h1 _ zom,zB zom,zB zom];grind
 split
 .rw[hfw];grind
 .rename_i hwi
  have hli:=S.w.ll i hi'
  have hbi:n<=T.bs[i]! := by
   have h5:=frF.1 hf;rw[Br (T:=xB n T) hi',zB hwi]at h5;exact h5
  have h6:=h4 i hi' hbi;unfold vC;rw[oD zom,zB zom,hfw,ent i hi' _ zom,ent i hi' _ zom,zB zom,zB zom,zB zom,zE rfl,zE hbi];grind
def Qz(h:Okp n A c)(I:I1 n A c B T)(F:Fea (frB n) T){b:Nat}(hB:∀ k,k<=n+1->chF (A.length+1) k<=b)(hK:b<=Bt-T.pv) :
 I1 n A c B (sG n (xD (n+A.length)) T).1/\Fea (frB n) (sG n (xD (n+A.length)) T).1/\(sG n (xD (n+A.length)) T).1.pv<T.pv+b /\
 wX n (sG n (xD (n+A.length)) T).1.ns (xD (n+A.length) (sG n (xD (n+A.length)) T).1) (sG n (xD (n+A.length)) T).1.ns.length=none:=by
 obtain⟨h1,h2,h3,h4⟩:=Yi (n:=n) (ln:=xD (n+A.length)) (I:=I1 n A c B) (fun T h=>⟨h.1.w,Qy h⟩) (fun T e r h E L=>Yr h E L) (M:=A.length+1) (K:=Bt-T.pv) I F (fun v hv=>Qx I hv) (hB _ (by have:=(FK I).1;have:=@key_le' n T (A.length+1);omega)) hK;unfold sG;generalize xL n (xD (n+A.length)) (Bt-T.pv) T=p at *
 obtain⟨U,o⟩:=p;refine⟨h1,h2,h3,?_⟩;cases o with
 |none=>exact h4
 | some e =>
   exfalso;have E:=LQ h4.1;have hL:=h4.2;simp only at E hL h1;by_cases hb:n+A.length∈U.bs
   .obtain⟨g1,g2⟩:=oI hb
    have g3:=Yc hL g1 (by rw[g2];omega);have g4:=E.2.2.1;unfold xD at g4;rw[zE hb]at g4
    grind
   .have g4:=E.2.2.1
    unfold xD at g4;have g5:=E.1;rw[zB hb,sN yE]at g4
    split at g4
    .exact absurd g4 (by grind)
    .rw[gp (by simp;omega:e<(List.replicate (U.ns.length+1) (0:Rat)).length)]at g4
     simp at g4
def uQ4(h:Okp n A c)(I:I1 n A c B U)(he:wX n U.ns (xD (n+A.length) U) U.ns.length=none)(hv:0<(xD (n+A.length) U)[U.ns.length]!)(pv:Nat):Bv n A c (.inf (tN n A.length U.ns (xD (n+A.length) U)) pv):=by
 obtain⟨hl,hbl⟩:=FK I
 have hb:n+A.length∈U.bs:=kJ fun hb=>by
  have h1:=oI ((Ii I).resolve_left hb);unfold xD at hv;rw[zB hb,sN zsm,zB zom,gp (by simp:U.ns.length<(List.replicate (U.ns.length+1) (0:Rat)).length)]at hv;simp at hv
 have L:=Qy I
 have hz:∀ j,j<U.ns.length->U.ns[j]! < n->(xD (n+A.length) U)[j]! = 0:=fun j hj hn=>by
  obtain⟨h1,h2⟩:=oI hb;unfold xD;rw[zE hb];exact I.2 j zom hj hn _ h1 (by rw[h2];omega)
 have hlt:∀ v∈U.ns,v<n+A.length:=fun v hv'=>by
  have h1:=Qx I (zC hv');have:v≠n+A.length:=fun e=>I.1.w.dis hb (e ▸ hv')
  omega
 refine⟨by simp[tN],fun i hi=>?_,_,hv,fun x hx=>?_⟩
 .unfold tN
  rw[uR hi]
  split
  .rename_i hm
   obtain⟨h1,h2⟩:=oI hm;exact Yb he h1 (by rw[h2];omega)
  .exact nE
 .have hs:Sol (ax0 n A c B) fun v=>if v=n+A.length then 0 else AL n A x v:=(Qs h).2 fun i hi=>by
   rw[zB zom,LS hi,zE rfl]
   have:((List.range n).map fun v=>if v=n+A.length then 0 else AL n A x v)=(List.range n).map (AL n A x):=rL fun v hv=>by
    have:=yN.1 hv;rw[zB zom]
   rw[this,Qw hx];grind
  have h1:=L.2 _ ((I.1.sol _).1 hs);dsimp only at h1;rw[zE rfl,Qv (m:=A.length) _ _ L.1 I.1.w.nsn hlt hz]at h1
  have h2:sm (fun i=>(tN n A.length U.ns (xD (n+A.length) U))[i]!*dt A[i]! x) A.length=sm (fun i=>(if n+i∈U.ns then(xD (n+A.length) U)[U.ns.idxOf (n+i)]! else 0)*(if n+i=n+A.length then 0 else AL n A x (n+i))) A.length:=by
   have cong:∀ (f g:Nat->Rat) m,(∀ i,i<m->f i=g i)->sm f m=sm g m:=fun f g m hh=>by
    induction m with
    |zero=>rfl
    |succ m ih=>simp only[sm];rw[ih fun i hi=>hh i zom,hh m zom]
   refine cong _ _ _ fun i hi=>?_
   unfold tN;rw[uR hi,zB (by omega:¬ n+i=n+A.length),LS hi]
  rw[h2];grind
def Q3(h:Okp n A c)(I:I1 n A c B U)(F:Fea (frB n) U)(hv:¬ 0<(xD (n+A.length) U)[U.ns.length]!) :
 I1 n A c B (uJ (n+A.length) U)/\Fea (frB n) (uJ (n+A.length) U)/\n+A.length∈(uJ (n+A.length) U).ns/\(uJ (n+A.length) U).pv<=U.pv+1 /\
  ∀ r,n+A.length∈U.bs->r=U.bs.idxOf (n+A.length)->∃ e,Bu U r=some e/\r<U.bs.length/\e<U.ns.length/\U.fs[r]![e]! ≠ 0:=by
 unfold uJ;by_cases hb:n+A.length∈U.bs
 .obtain⟨h1,h2⟩:=oI hb
  rw[zE hb];have hv':¬ 0<U.fs[U.bs.idxOf (n+A.length)]![U.ns.length]! := by unfold xD at hv;rw[zE hb]at hv;exact hv
  generalize U.bs.idxOf (n+A.length)=r at *
  have h0:U.fs[r]![U.ns.length]! = 0:=by
   have:=F r h1 (frF.2 zom);grind
  have hex:∃ e,Bu U r=some e/\e<U.ns.length/\U.fs[r]![e]! ≠ 0:=by
   unfold Bu;cases hf:(List.range U.ns.length).find? fun e=>decide (U.fs[r]![e]! ≠ 0) with
   | some e =>
     have g1:=NS hf;exact⟨e,rfl,yN.1 (Mv hf),by simpa using g1⟩
   | none =>
     exfalso
     have hall:∀ e,e<U.ns.length->U.fs[r]![e]! = 0:=fun e he=>by
      have:=CZ.1 hf e (yN.2 he)
      simpa only[tC,ne_eq,Decidable.not_not]using this
     have w0:=Yl h (B:=B);have hn:(ax0 n A c B).ns[n]! = n+A.length:=by simp only[ax0];rw[gp zsm];simp
     have hnl:n<(ax0 n A c B).ns.length:=by simp[ax0]
     have hs:=(I.1.sol _).1 (Qm w0 n);have e1:=hs r h1;have e2:=LP w0 (j:=n) hnl;rw[hn,zE rfl]at e2;rw[h2,e2]at e1;have e3:dt U.fs[r]! (U.ns.map (unF (ax0 n A c B) n))=dt U.fs[r]! (List.replicate U.ns.length 0):=Qn zsm fun j hj=>zF (hall j (by simpa using hj))
     rw[e3,iY (I.1.w.ll r h1),h0]at e1;exact absurd e1 (by grind)
  obtain⟨e,he1,he2,he3⟩:=hex;rw[he1,Option.getD_some];refine⟨⟨I.1.step h1 he2 he3,(I.2.piv I.1.w h1 zom).1⟩,fun i hi hf=>?_,?_,by simp[zY],fun r' _ hr'=>by rw[hr'];exact⟨e,he1,h1,he2,he3⟩⟩
  .have hi':i<U.bs.length:=by simpa [zY]using hi
   have hpl:(zY U r e).ns.length=U.ns.length:=by simp[zY]
   rw[hpl,Yf I.1.w h1 zom zom h0 hi']
   split
   .exact nE
   .rename_i hri
    rw[Br hi',zB hri]at hf;exact F i hi' hf
  .exact(LN I.1.w h1 he2).2 (zF h2.symm)
 .rw[zB hb]
  exact⟨I,F,(Ii I).resolve_left hb,zom,fun r hb'=>absurd hb' hb⟩
def Yu(h:Okp n A c)(I:I1 n A c B U)(F:Fea (frB n) U)(hx:n+A.length∈U.ns):I0 n A c (uI U (U.ns.idxOf (n+A.length)))/\Fea (frB n) (uI U (U.ns.idxOf (n+A.length))):=by
 obtain⟨h1,h2⟩:=oI hx;obtain⟨hl,hb⟩:=FK I;generalize U.ns.idxOf (n+A.length)=k at *
 have hdl:(uI U k).ns.length=n:=by simp only[uI];rw[jN h1];omega
 have row:∀ i,i<U.bs.length->∀ j,j<n+1->(uI U k).fs[i]![j]! = if j<k then U.fs[i]![j]! else U.fs[i]![j+1]! := fun i hi j hj=>by
  have hli:=I.1.w.ll i hi;simp only[uI];rw[tH (by rw[I.1.w.fl];exact hi),Yn zom zom]
 refine⟨⟨uGP h I.1 h1 h2,fun j hj hjl hv r hr hbr=>?_⟩,fun i hi hf=>?_⟩
 .have hr':r<U.bs.length:=hr
  have hns:(uI U k).ns[j]! = if j<k then U.ns[j]! else U.ns[j+1]! := by simp only[uI];rw[Yn h1 zom]
  rw[hns]at hv;rw[row r hr' j zom]
  split
  .rename_i h5;rw[zE h5]at hv;exact I.2 j zom zom hv r hr' hbr
  .rename_i h5;rw[zB h5]at hv;exact I.2 (j+1) zom zom hv r hr' hbr
 .have hi':i<U.bs.length:=hi
  rw[hdl,row i hi' n zom,zB zom,<- hl];exact F i hi' hf
def Yv(I:I0 n A c T)(F:Fea (frB n) T){z:Nat->Rat}(hz:Sol T z)(hn:∀ v∈T.ns,n<=v->0<=z v)(hb:∀ i,i<T.bs.length->n<=T.bs[i]! -> 0<=z T.bs[i]!):∀ i,i<A.length->0<=dt A[i]! ((List.range n).map z):=fun i hi=>by
 rw[<- set0_sol.1 ((I.1.sol z).2 hz) i hi];have:n+i∈(set0 n A c).bs:=zW.2 ⟨i,yN.2 hi,rfl⟩;rcases(I.1.all _).1 (zF this) with h1|h1
 .obtain⟨j,hj,ej⟩:=mem_ix h1
  rw[<- ej];exact hb j hj zom
 .exact hn _ h1 zom
def uUB(I:I0 n A c T)(F:Fea (frB n) T):∀ i,i<A.length->0<=dt A[i]! (u7 n T) :=
 Yv I F (bF I.1.w) (fun v hv _=>by rw[bG I.1.w hv];exact nE) fun i hi hn=>by rw[Ic I.1.w hi];exact F i hi (frF.2 hn)
def Yw(I:I0 n A c T)(F:Fea (frB n) T)  {s:Rat}(he:e<T.ns.length)(hs:T.ob[e]!*s<0)(hn:n<=T.ns[e]! -> 0<=s)(hc:∀ i,i<T.bs.length->n<=T.bs[i]! -> 0<=T.fs[i]![e]!*s)(d:List Rat)(hd:d.length=n)(pv:Nat):Bv n A c (.unb (u7 n T) d pv):=by
 refine⟨by simp[u7],hd,fun k=>?_⟩
 obtain⟨t,ht0,ht⟩:∃ t:Rat,0<=t/\T.ob[T.ns.length]! + T.ob[e]!*(t*s)<k:=by
  by_cases hk:T.ob[T.ns.length]! < k
  .exact⟨0,nE,by grind⟩
  .have hp:0< - (T.ob[e]!*s):=by grind
   refine⟨(T.ob[T.ns.length]!-k+1) / - (T.ob[e]!*s),by rw[Rat.div_def];exact qV (by grind) (nX (Cg.2 hp)),?_⟩;have:T.ob[e]!*((T.ob[T.ns.length]!-k+1) / - (T.ob[e]!*s)*s)=- (T.ob[T.ns.length]!-k+1):=by grind
   rw[this];grind
 have hw:((List.replicate T.ns.length (0:Rat)).set e (t*s)).length=T.ns.length:=by simp
 have hz:=LO I.1.w hw;have hzn:=Ib I.1.w hw
 have dl:∀ l:List Rat,l.length=T.ns.length+1->dt l ((List.replicate T.ns.length (0:Rat)).set e (t*s))=l[T.ns.length]! + l[e]!*(t*s):=fun l hl=>by
  rw[Bp (by simpa using he) (by simpa using hl),iY hl,gp (by simpa using he:e<(List.replicate T.ns.length (0:Rat)).length)];simp only[nA];grind
 refine⟨(List.range n).map (ptF T ((List.replicate T.ns.length (0:Rat)).set e (t*s))),zsm,Yv I F hz (fun v hv hnv=>?_) fun i hi hni=>?_,?_⟩
 .obtain⟨j,hj,rfl⟩:=mem_ix hv
  rw[Ia I.1.w hj,sN (by simpa using hj)]
  split
  .rename_i hej;subst hej;exact qV ht0 (hn hnv)
  .rw[gp (by simpa using hj:j<(List.replicate T.ns.length (0:Rat)).length)];simp only[nA];exact nE
 .rw[Qi I.1.w hi,dl _ (I.1.w.ll i hi)]
  have h1:=F i hi (frF.2 hni);have h2:=qV ht0 (hc i hi hni)
  grind
 .have h1:=I.1.l.2 _ hz
  unfold obF at h1;rw[h1,hzn,dl _ I.1.w.ol];exact ht
def uSY(I:I2 n A c T)(F:Fea (frB n) T)(he:wX n T.ns T.ob T.ns.length=none)(bs:List Nat)(pv:Nat):Bv n A c (.opt T.ob[T.ns.length]! (u7 n T) (tN n A.length T.ns T.ob) bs pv):=by
 have W:=I.1.1.w;refine⟨by simp[u7],uUB I.1 F,?_,by simp[tN],fun i hi=>?_,fun x hx=>?_⟩
 .have h1:=I.1.1.l.2 _ (bF W)
  unfold obF at h1;unfold u7;rw[h1,Qj W,iY W.ol]
 .unfold tN
  rw[uR hi]
  split
  .rename_i hm
   obtain⟨h1,h2⟩:=oI hm;exact Yb he h1 (by rw[h2];omega)
  .exact nE
 .have h1:=I.1.1.l.2 _ ((I.1.1.sol _).1 (uPD hx))
  unfold obF at h1;rw[Qw hx,Qv (m:=A.length) _ _ W.ol W.nsn (fun v hv=>Ig I.1.1 (zC hv)) I.2]at h1;rw[h1]
  have cong:∀ (f g:Nat->Rat) m,(∀ i,i<m->f i=g i)->sm f m=sm g m:=fun f g m hh=>by
   induction m with
   |zero=>rfl
   |succ m ih=>simp only[sm];rw[ih fun i hi=>hh i zom,hh m zom]
  rw[cong (fun i=>(tN n A.length T.ns T.ob)[i]!*dt A[i]! x) _ A.length fun i hi=>by unfold tN;rw[uR hi,<- LS (n:=n) (x:=x) hi]]
  grind
def uR3(h:Okp n A c)(hn:n<=100)(hB:∀ M k,M<=A.length+1->k<=n+1->chF M k<=31824):Bv n A c (solF n A c):=by
 obtain⟨hS,hZ,_,_,hpv⟩:=Yh (n:=n) (Qr h) n (by simp[set0]);have I:I0 n A c (yT n (set0 n A c) n):=⟨hS,hZ⟩;have hpv:(yT n (set0 n A c) n).pv<=n:=by simpa [set0]using hpv
 unfold solF;generalize yT n (set0 n A c) n=T at *
 have two:∀ T,I0 n A c T->Fea (frB n) T->T.pv<=31824+110->Bv n A c (match iF n T with
  |some e=>.unb (u7 n T) (mO n T e (- AK T.ob[e]!)) T.pv
  | none=>match sG n (·.ob) T with
    |(U,some e)=>.unb (u7 n U) (mO n U e 1) U.pv
    |(U,none)=>.opt U.ob[U.ns.length]! (u7 n U) (tN n T.bs.length U.ns U.ob) U.bs U.pv):=by
  intro T I F hp;obtain⟨hl,hb⟩:=Dg I;cases hf:iF n T with
  | some e =>
    have h1:e<T.ns.length:=yN.1 (Mv hf);have h2:=NS hf;obtain⟨h3,h4⟩:=andT.1 h2;refine Yw I F (s:=- AK T.ob[e]!) h1 ?_ (fun h5=>by omega) (fun i hi hni=>by rw[I.2 e zom h1 h3 i hi hni];grind) _ (by simp[mO]) _;unfold AK
    split
    .grind
    .split<;>grind
  | none =>
    have I':I2 n A c T:=⟨I,fun j hj hnj=>by
     have:=CZ.1 hf j (yN.2 hj);apply kJ;intro hne
     exact this (andT.2 ⟨hnj,hne⟩)⟩
    have hk:(tL ((List.range A.length).map (n+·)) T).length<=n+1:=by have:=@key_le' n T A.length;omega
    obtain⟨g1,g2,g3,g4⟩:=Yi (n:=n) (ln:=(·.ob)) (obj:=obF n c) (I:=I2 n A c) (fun T h=>⟨h.1.1.w,h.1.1.l⟩) (fun T e r h E L=>Yt h E L) (M:=A.length) (K:=Bt-T.pv) I' F (fun v hv=>Ig I.1 hv) (hB _ _ zom hk) (by unfold Bt;omega);dsimp only;unfold sG;generalize xL n (·.ob) (Bt-T.pv) T=p at *
    obtain⟨U,o⟩:=p;cases o with
    |none=>dsimp only at *;rw[hb];exact uSY g1 g2 g4 _ _
    | some e =>
      dsimp only at *
      have E:=LQ g4.1;exact Yw g1.1 g2 (s:=1) E.1 (by have:=E.2.2.1;grind) (fun _=>by grind) (fun i hi hni=>by have:=Yc g4.2 hi hni;grind) _ (by simp[mO]) _
 unfold nR;obtain⟨hl,hb⟩:=Dg I;cases hw:u6 n T T.bs.length with
 |none=>exact two T I (fun i hi hf=>Ye hw hi (frF.1 hf)) zom
 | some w =>
   obtain⟨I1',F1⟩:=LU h I hw;have hp1:(zY (xB n T) w T.ns.length).pv=T.pv+1:=rfl;generalize hT2:zY (xB n T) w T.ns.length=T2 at *
   obtain⟨g1,g2,g3,g4⟩:=Qz h I1' F1 (b:=31824) (fun k hk=>hB _ k zom zom) (by unfold Bt;omega);dsimp only;rw[hb,hT2];generalize (sG n (xD (n+A.length)) T2).1=U at *
   by_cases hv:0<(xD (n+A.length) U)[U.ns.length]!
   .rw[zE hv];exact uQ4 h g1 g4 hv _
   .rw[zB hv]
    obtain⟨k1,k2,k3,k4,_⟩:=Q3 h g1 g2 hv;obtain⟨m1,m2⟩:=Yu h k1 k2 k3;have hpd:∀ k,(uI (uJ (n+A.length) U) k).pv=(uJ (n+A.length) U).pv:=fun _=>rfl
    exact two _ m1 m2 (by rw[hpd];omega)
end
end Go.PI.SX
namespace Go.PI
open FM SX
variable {j:Nat}
section
variable {n:Nat} {R:List QF} {O:QF}
def Bw(m:Nat)(g:Nat->Rat):ls (List.range m) g=sm g m:=by
 induction m with
 |zero=>rfl
 |succ m ih=>rw[kM,ls,wB,List.sum_append];simp only[sm,uW,kO];rw[show((List.range m).map g).sum=ls (List.range m) g from rfl,ih];simp[List.sum_cons];grind
def uCU  (h:j<n):eD (n+1) j=eD n j++[0]:=by
 unfold eD;rw[kM,wB,uW,kO,zB (by omega:¬ n=j)]
def uUI(f:QF)(x:List Rat):evQ f x=f.c+Bg f x:=by unfold Bg;rw[mK,mK];grind
def Yx{f:QF}(h:okF n f)  (hj:j<n):cf f.ts j=evQ f (eD n j)-f.c:=by
 rw[<- LL (fun t ht=>by have:=h.2 t ht;omega:∀ t∈f.ts,0<=t.1/\t.1<((n+1:Nat):Int)) (by omega:j<n+1),uCU hj];have e:=Ew (x:=eD n j) (y:=[0]) (n:=n) (by simp[eD]) h;rw[uUI]at e;rw[<- e];grind
def Yy{f:QF}(h:okF n f):evQ f (List.replicate n 0)=f.c:=by
 rw[mK]
 have : ∀ l:List QT,dot (List.replicate n 0) l=0:=fun l=>by
  induction l with
  |nil=>rfl
  | cons t l ih =>
    simp only[dot,ih]
    have e:(List.replicate n (0:Rat))[t.1.toNat]! = 0:=by
     by_cases hl:t.1.toNat<n
     .rw[gp (by simpa using hl)];simp
     .rw[getElem!_neg _ _ (by simpa using hl)];rfl
    rw[e];grind
 rw[this];grind
def uGL{u:Nat->Rat}{al b:Rat}(hR:∀ f∈R,okF n f)(hO:okF n O)(hal:0<=al)(hu:∀ i,i<R.length->0<=u i)
 (hid:∀ x:List Rat,x.length=n->al*evQ O x=b+sm (fun i=>u i*evQ R[i]! x) R.length) {V:Int×Rat} (hV:V=uD ([yA (yK n) O (-1),yA zeroQ (yA (yK n) O (-1)) (-1)]++R) n) :
 (V.1=1->b<=al*V.2)/\(V.1=3->∃ T:Rat,∀ t,t<=T->b<=al*t):=by
 let w:Nat->Rat:=fun i=>match i with
  |0=>al
  |1=>0
  |i+2=>if i<R.length then u i else 0
 have hw:∀ i,0<=w i:=fun i=>by
  match i with
  |0=>exact hal
  |1=>exact nE
  | i+2 =>
    show 0<=(if i<R.length then u i else 0)
    split
    .rename_i h1;exact hu i h1
    .exact nE
 have hfr:∀ j,gJ ([yA (yK n) O (-1),yA zeroQ (yA (yK n) O (-1)) (-1)]++R) n w j=al*(frX (yA (yK n) O (-1)) (n+1))[j]! + sm (fun i=>u i*(frX R[i]! (n+1))[j]!) R.length:=fun j=>by
  unfold gJ;rw[show([yA (yK n) O (-1),yA zeroQ (yA (yK n) O (-1)) (-1)]++R).length=R.length+1+1 by simp,YT,YT,<- Bw];have e0:w 0=al:=rfl;have e1:w (0+1)=0:=rfl;rw[e0,e1]
  have e2:ls (List.range R.length) (fun i=>w (i+1+1)*(frX ([yA (yK n) O (-1),yA zeroQ (yA (yK n) O (-1)) (-1)]++R)[i+1+1]! (n+1))[j]!)=ls (List.range R.length) (fun i=>u i*(frX R[i]! (n+1))[j]!):=AA fun i hi=>by
   have hi:=yN.1 hi;have e3:w (i+1+1)=u i:=zE hi;rw[e3];rfl
  rw[e2,show([yA (yK n) O (-1),yA zeroQ (yA (yK n) O (-1)) (-1)]++R)[0]! = yA (yK n) O (-1) from rfl]
  grind
 have hTv:∀ t∈(yA (yK n) O (-1)).ts,0<=t.1/\t.1<((n+1:Nat):Int):=fun t ht=>by
  rcases pW _ _ _ _ (zX _) t ht with⟨p,hp,e⟩|⟨p,hp,e⟩
  .rw[yG.1 hp]at e
   dsimp only at e;omega
  .have:=hO.2 p hp;omega
 have hvv:∀ t∈(yK n).ts,0<=t.1/\t.1<((n+1:Nat):Int):=fun t ht=>by
  rw[yG.1 ht];dsimp only;omega
 have hOv:∀ t∈O.ts,0<=t.1/\t.1<((n+1:Nat):Int):=fun t ht=>by have:=hO.2 t ht;omega
 have hget:∀ i,i<R.length->okF n R[i]! := fun i hi=>hR _ (by rw[gp hi];exact wA hi)
 have hc0:al*O.c=b+sm (fun i=>u i*R[i]!.c) R.length:=by
  have:=hid (List.replicate n 0) zsm;rw[Yy hO]at this;rw[this];congr 1;rw[<- Bw,<- Bw];exact AA fun i hi=>by rw[Yy (hget i (yN.1 hi))]
 have hT:∀ j,j<n+1->cf (yA (yK n) O (-1)).ts j=(if j=n then 1 else 0)-cf O.ts j:=fun j hj=>by
  rw[<- LL hTv hj,vSV,LL hvv hj,LL hOv hj]
  have e5:cf (yK n).ts j=if j=n then 1 else 0:=by
   simp only[yK,cf];by_cases h:j=n
   .subst h;simp;grind
   .rw[zB h,zB zom];grind
  rw[e5];grind
 have hout:∀ f,okF n f->cf f.ts n=0:=fun f hf=>cJ fun q hq=>by have:=hf.2 q hq;omega
 have hcl:∀ j,j<n->gJ ([yA (yK n) O (-1),yA zeroQ (yA (yK n) O (-1)) (-1)]++R) n w j=0:=fun j hj=>by
  rw[hfr,l8 zom,zE zom,hT j zom,zB zom,Yx hO hj];have h1:=hid (eD n j) (by simp[eD])
  have h2:sm (fun i=>u i*(frX R[i]! (n+1))[j]!) R.length=sm (fun i=>u i*evQ R[i]! (eD n j)) R.length+(-1)*sm (fun i=>u i*R[i]!.c) R.length:=by
   rw[<- Bw,<- Bw,<- Bw,<- QX,<- QW];refine AA fun i hi=>?_
   rw[l8 zom,zE zom,Yx (hget i (yN.1 hi)) hj];grind
  rw[h2];grind
 have hn:gJ ([yA (yK n) O (-1),yA zeroQ (yA (yK n) O (-1)) (-1)]++R) n w n=al:=by
  rw[hfr,l8 zom,zE zom,hT n zom,zE rfl,hout O hO]
  have:sm (fun i=>u i*(frX R[i]! (n+1))[n]!) R.length=0:=Ih _ fun i hi=>by
   rw[l8 zom,zE zom,hout _ (hget i hi)];grind
  rw[this];grind
 have hcc:gJ ([yA (yK n) O (-1),yA zeroQ (yA (yK n) O (-1)) (-1)]++R) n w (n+1)=- b:=by
  rw[hfr,l8 zom,zB zom]
  have e4:sm (fun i=>u i*(frX R[i]! (n+1))[n+1]!) R.length=sm (fun i=>u i*R[i]!.c) R.length:=by
   rw[<- Bw,<- Bw];exact AA fun i _=>by rw[l8 zom,zB zom]
  rw[e4];have:(yA (yK n) O (-1)).c=0+O.c*(-1):=rfl;rw[this];grind
 obtain⟨g1,g3⟩:=vSL hw hcl;rw[hn,hcc,<- hV]at g1;rw[hn,hcc,<- hV]at g3;exact⟨fun h=>by have:=g1 h;grind,fun h=>by obtain⟨T,hT⟩:=g3 h;exact⟨T,fun t ht=>by have:=hT t ht;grind⟩⟩
end
def gK(a:Int)(v u:QF):List QF:=if a=2 then [v,yA zeroQ u (-1),yA zeroQ v (-1)] else [yA v u (-1),u,yA u v (-1)]
def lpQ(q:QryL)(n:Nat)(p:List Int):List QF:=rF q.r++(List.range (usQ q).length).flatMap fun j=>gK p[j]! (yK ((n+j:Nat):Int)) (usQ q)[j]!
section
variable {q:QryL} {kg n:Nat} {p:List Int}
def LW{X:List Rat}{v:Nat}:evQ (yK (v:Int)) X=X[v]! := by
 rw[mK];simp only[yK,dot,Int.toNat_natCast];grind
def uCT  (hj:j<(usQ q).length){f:QF}(hf:f∈gK p[j]! (yK ((n+j:Nat):Int)) (usQ q)[j]!):f∈lpQ q n p :=
 pJ _ (Ce.2 ⟨j,yN.2 hj,hf⟩)
def Q4(h:smQ q kg)(hn:q.g.ins=(n:Int))(hp:∀ j,j<(usQ q).length->p[j]! = 1\/p[j]! = 2){X:List Rat}(hX:X.length=n+(usQ q).length)(hr:∀ f∈lpQ q n p,0<=evQ f X) :
 inQ q (X.take n)/\AgN (usQ q) (X.take n) p (usQ q).length/\X=vlQ q (X.take n):=by
 have hu:=h.us hn;have hxl:(X.take n).length=n:=by simp;omega
 have vals:∀ j,j<=(usQ q).length->X.take (n+j)=vB (usQ q) (X.take n) j/\AgN (usQ q) (X.take n) p j:=by
  intro j
  induction j with
  |zero=>exact fun _=>⟨by rw[Kj];rfl,fun i hi=>by omega⟩
  | succ j ih =>
    intro hj;obtain⟨i1,i2⟩:=ih zom;have hok:=(hu.2.2 j zom).2
    have hev:evQ (usQ q)[j]! X=evQ (usQ q)[j]! (vB (usQ q) (X.take n) j):=by
     rw[<- i1];have:=Ew (x:=X.take (n+j)) (y:=X.drop (n+j)) (n:=((n+j:Nat):Int)) yE hok
     rwa [Ac]at this
    have hv:evQ (yK ((n+j:Nat):Int)) X=X[n+j]! := LW
    have both:X[n+j]! = fQ 0 (evQ (usQ q)[j]! (vB (usQ q) (X.take n) j))/\Agree (phase (evQ (usQ q)[j]! (vB (usQ q) (X.take n) j))) p[j]! := by
     have g:∀ f∈gK p[j]! (yK ((n+j:Nat):Int)) (usQ q)[j]!,0<=evQ f X:=fun f hf=>hr f (uCT zom hf)
     rcases hp j zom with e|e
     .rw[e]at g ⊢
      unfold gK at g;rw[zB zdd]at g;have g1:=g _ (tT ..);have g2:=g _ (xN _ (tT ..));have g3:=g _ (xN _ (xN _ (tT ..)));rw[j5,hv,hev]at g1 g3;rw[hev]at g2;refine⟨?_,agree_on.2 g2⟩;unfold fQ;split<;>grind
     .rw[e]at g ⊢
      unfold gK at g;rw[zE rfl]at g;have g1:=g _ (tT ..);have g2:=g _ (xN _ (tT ..));have g3:=g _ (xN _ (xN _ (tT ..)));rw[hv]at g1;rw[j5,aR,hev]at g2;rw[j5,aR,hv]at g3;have g4:evQ (usQ q)[j]! (vB (usQ q) (X.take n) j)<=0:=by grind
      refine⟨?_,agree_off.2 g4⟩;unfold fQ;split<;>grind
    refine⟨?_,fun i hi=>?_⟩
    .rw[Hu zom,<- both.1,<- i1,show n+(j+1)=n+j+1 by omega,tO zom,gp zom]
    .by_cases e:i=j
     .subst e;rw[Hv zom];exact both.2
     .exact i2 i zom
 obtain⟨n1,n2,n3,n4⟩:=h.nn hn
 have hbx:∀ f∈rF q.r,0<=evQ f (X.take n):=fun f hf=>by
  have:=hr f (sV _ hf);have e:=Ew (x:=X.take n) (y:=X.drop n) (n:=(n:Int)) yE (De h hn f hf).2;rw[Ac]at e
  rwa [e]at this
 obtain⟨v1,v2⟩:=vals _ (zX _);refine⟨⟨by rw[hxl,hn],fun i hi=>?_,fun i hi=>hbx _ (pJ _ (zW.2 ⟨_,by rw[gp hi];exact wA hi,rfl⟩))⟩,v2,by unfold vlQ;rw[<- v1,uT zom]⟩;have b1:∀ f∈[yA (yK i) ⟨[],qv q.r.lo[i]!⟩ (-1),yA ⟨[],qv q.r.hi[i]!⟩ (yK i) (-1)],0<=evQ f (X.take n):=fun f hf=>hbx f (sV _ (Ce.2 ⟨i,yN.2 zom,hf⟩))
 have b2:=b1 _ (tT ..);have b3:=b1 _ (xN _ (tT ..));rw[j5,LW,PY rfl]at b2 b3;exact⟨by grind,by grind⟩
def Q5{f:Nat->Rat}(a:Nat):∀ b,sm f (a+b)=sm f a+sm (fun i=>f (a+i)) b
 |0=>by simp only[sm,Nat.add_zero];grind
 |b+1=>by rw[<- uV];simp only[sm];rw[Q5 a b];grind
def Q6{f g:Nat->Rat}:∀ m,(∀ i,i<m->f i=g i)->sm f m=sm g m
 |0,_=>rfl
 |m+1,hh=>by simp only[sm];rw[Q6 m fun i hi=>hh i zom,hh m zom]
def Yz{f:Nat->Rat}:∀ m,sm f (3*m)=sm (fun j=>f (3*j)+f (3*j+1)+f (3*j+2)) m
 |0=>rfl
 | m+1=>by
   rw[show 3*(m+1)=3*m+1+1+1 by omega];simp only[sm];rw[Yz m];grind
def Q7(a:Int)(v u:QF):(gK a v u).length=3:=by unfold gK;split<;>rfl
def LX(g:Nat->List QF)(h:∀ j,(g j).length=3):∀ m,((List.range m).flatMap g).length=3*m
 |0=>rfl
 |m+1=>by rw[kM,CX,xR,LX g h m];simp[h];omega
def flat_get(g:Nat->List QF)(h:∀ j,(g j).length=3){j k:Nat}(hk:k<3):∀ m,j<m->((List.range m).flatMap g)[3*j+k]! = (g j)[k]!
 | m+1,hj=>by
   rw[kM,CX];have hl:=LX g h m;by_cases e:j=m
   .subst e
    rw[gp (by simp[hl,h];omega),iI zom,gp (by rw[h];omega)];simp[hl]
   .rw[gp (by simp[hl,h];omega),iJ zom,<- gp zom,flat_get g h hk m zom]
def LY:(lpQ q n p).length=(rF q.r).length+3*(usQ q).length:=by
 unfold lpQ;rw[xR,LX _ fun j=>Q7 _ _ _]
def uOC{i:Nat}(hi:i<(rF q.r).length):(lpQ q n p)[i]! = (rF q.r)[i]! := by
 rw[gp (by rw[LY];omega),gp hi];unfold lpQ;rw[iJ hi]
def uOB{k:Nat}(hj:j<(usQ q).length)(hk:k<3):(lpQ q n p)[(rF q.r).length+(3*j+k)]! = (gK p[j]! (yK ((n+j:Nat):Int)) (usQ q)[j]!)[k]! := by
 rw[gp (by rw[LY];omega)];unfold lpQ;rw[iI zom];simp only[GA];rw[<- gp (by rw[LX _ fun j=>Q7 _ _ _];omega),flat_get _ (fun j=>Q7 _ _ _) hk _ hj]
def kD(q:QryL)(n:Nat)(p:List Int)(x:List Rat):List Rat:=(xA (usQ q) n p (usQ q).length).map fun f=>evQ f x
def Y0{us:List QF}:∀ (d j:Nat),∃ t,xA us n p (j+d)=xA us n p j++t
 |0,j=>⟨[],zsm⟩
 | d+1,j=>by
   obtain⟨t,e⟩:=Y0 (us:=us) d j
   exact ⟨t ++ _, by rw[show j+(d+1)=j+d+1 by omega];conv=>lhs;unfold xA
                     rw[e,tV]⟩
def Q8{x:List Rat}  (hj:j<=(usQ q).length):∃ t,kD q n p x=(xA (usQ q) n p j).map (fun f=>evQ f x)++t:=by
 obtain⟨t,e⟩:=Y0 (us:=usQ q) (n:=n) (p:=p) ((usQ q).length-j) j;rw[show j+((usQ q).length-j)=(usQ q).length by omega]at e;exact⟨t.map fun f=>evQ f x,by unfold kD;rw[e,wB]⟩
def uTJ(h:smQ q kg)(hn:q.g.ins=(n:Int))(hp:∀ j,j<(usQ q).length->p[j]! = 1\/p[j]! = 2){x:List Rat}(hx:x.length=n) :
 (∀ f,okF n f->evQ f (kD q n p x)=evQ f x)/\∀ j,j<(usQ q).length->∀ k,k<3->evQ (gK p[j]! (yK ((n+j:Nat):Int)) (usQ q)[j]!)[k]! (kD q n p x)=if k=1 then evQ (nN (usQ q) n p j) x else 0:=by
 have hu:=h.us hn
 have h0:(xA (usQ q) n p 0).map (fun f=>evQ f x)=x:=by
  simp only[xA,lY,qC];refine vE (by simp[hx]) fun i h1 h2=>?_
  have h3:i<n:=by simpa using h1
  simp only[vS,oQ,Function.comp];have:=LW (X:=x) (v:=i);unfold yK at this;rw[this,gp h2]
 refine⟨fun f hf=>?_,fun j hj k hk=>?_⟩
 .obtain⟨t,e⟩:=Q8 (q:=q) (n:=n) (p:=p) (x:=x) (j:=0) zom
  rw[e,h0];exact Ew zom hf
 .have hl:=mM (usQ q) n p j
  obtain⟨t,e⟩:=Q8 (q:=q) (n:=n) (p:=p) (x:=x) (j:=j) zom
  have hev:evQ (usQ q)[j]! (kD q n p x)=evQ (vQ (usQ q)[j]! (xA (usQ q) n p j)) x:=by
   rw[Hz (by rw[hl];exact(hu.2.2 j hj).2),e];exact Ew (n:=((n+j:Nat):Int)) (by simp[hl]) (hu.2.2 j hj).2
  have hv:evQ (yK ((n+j:Nat):Int)) (kD q n p x)=if p[j]! = 2 then 0 else evQ (vQ (usQ q)[j]! (xA (usQ q) n p j)) x:=by
   obtain⟨t,e⟩:=Q8 (q:=q) (n:=n) (p:=p) (x:=x) (j:=j+1) zom;rw[LW,e];have hl2:((xA (usQ q) n p j).map fun f=>evQ f x).length=n+j:=by simp[hl]
   conv=>lhs;unfold xA
   rw[wB,uW,kO,tV,gp (by simp only[xR,hl2,List.length_singleton];omega),iI zom];simp only[hl2,EK,List.singleton_append,List.getElem_cons_zero]
   split
   .exact aR x
   .rfl
  have key:∀ (a b c:QF) (r:Rat),evQ a (kD q n p x)=0->evQ b (kD q n p x)=r->evQ c (kD q n p x)=0->evQ ([a,b,c][k]!) (kD q n p x)=if k=1 then r else 0:=fun a b c r h1 h2 h3=>by
   match k,hk with
   |0,_=>exact h1
   |1,_=>exact h2
   |2,_=>exact h3
  unfold gK nN;rcases hp j hj with e1|e1
  .rw[e1]at hv ⊢
   have c1:¬ (1:Int)=2:=by decide
   rw[zB c1]at hv;rw[zB c1,zB c1];refine key _ _ _ _ ?_ hev ?_
   .rw[j5,hv,hev];grind
   .rw[j5,hv,hev];grind
  .rw[e1]at hv ⊢
   rw[zE rfl]at hv;rw[zE rfl,zE rfl];refine key _ _ _ _ hv ?_ ?_
   .rw[j5,j5,aR,aR,hev]
   .rw[j5,aR,hv];grind
end
def ixA{α:Type}(p:α->Bool)(l:List α):Int:=if l.any p then(l.findIdx p:Nat) else -1
section
variable {α:Type} {p:α->Bool} {l:List α}
def Y3:decide (ixA p l>=0)=l.any p:=by
 unfold ixA;split
 .rename_i h;rw[h];simp
 .rename_i h;simp at h;simp;exact h
def Y4:-1<=ixA p l/\ixA p l<=l.length:=by
 unfold ixA;split
 .have:=UC (p:=p) (xs:=l);omega
 .omega
end
section
variable {α:Type} [Inhabited α] {p:α->Bool} {l:List α}
def Bx{i:Nat}(hi:i<l.length):l[i]! ∈ l:=by rw[zS l i hi];exact wA hi
def Y1{i:Nat}(hi:i<l.length)(h:p l[i]! = true)(hb:∀ j,j<i->p l[j]! = false):(i:Int)=ixA p l:=by
 have h1:l.any p=true:=EF.2 ⟨_,Bx hi,h⟩;have h2:l.findIdx p=i:=(List.findIdx_eq hi).2 ⟨by rw[zS l i hi]at h;exact h,fun j hj=>by have:=hb j hj;rw[zS l j zom]at this;exact this⟩;unfold ixA;rw[zE h1,h2]
def Y2(hb:∀ j,j<l.length->p l[j]! = false):-1=ixA p l:=by
 have h1:¬ l.any p=true:=fun e=>by
  obtain⟨x,hx,e⟩:=EF.1 e;obtain⟨j,hj,rfl⟩:=uE hx;have:=hb j hj;rw[zS l j hj,e]at this;cases this
 unfold ixA;rw[zB h1]
end
noncomputable def Dh(S:ScpL)(k j:Int)(d:DecL):Bool:=decide (d.kind=k)&&decide (d.index=j)&&dB (Bm S.q d)
noncomputable def rG(S:ScpL)(k j:Int):Bool:=S.path.any (Dh S k j)
def uFm(S:ScpL)(r:RowL):QF :=
 let v:=yK (S.q.g.ins+r.index)
 let p:=S.q.g.units[r.index.toNat]!.Q
 if r.kind=5 then v else if r.kind=6 then Kl v p else if r.kind=7 then yA p zeroQ 1 else if r.kind=8 then Kl p v else if r.kind=9 then Ph p (-1) else Ph v (-1)
def uAv(S:ScpL)(r:RowL):Prop:=r.lo=0/\r.hi=0/\5<=r.kind/\r.kind<=10/\0<=r.index/\r.index<S.q.g.units.length/\(r.kind=7\/r.kind=8->rG S 1 r.index=true)/\(r.kind=9\/r.kind=10->rG S 2 r.index=true)
def Y5{f:QF}(hf:Srt f.ts):yA f zeroQ 1=f:=by
 refine uSK (aN hf WX) hf (fun v=>?_) ?_
 .rw[uG6 hf WX,uPX];grind
 .rw[uQT];simp[zeroQ];grind
def inF(S:ScpL)(r:RowL):QF :=
 if r.kind=1 then Kl (yK r.index) (bA (qv S.q.r.lo[r.index.toNat]!)) else if r.kind=2 then Kl (bA (qv S.q.r.hi[r.index.toNat]!)) (yK r.index) else S.q.r.rows[r.index.toNat]!.Q
def Q9(S:ScpL)(r:RowL):Prop:=r.lo=0/\r.hi=0/\0<=r.index/\(r.kind=1/\r.index<S.q.r.lo.length\/r.kind=2/\r.index<S.q.r.hi.length\/r.kind=3/\r.index<S.q.r.rows.length)
def fmS(S:ScpL)(r:RowL):QF:=if r.kind<=3 then inF S r else uFm S r
def LZ(S:ScpL)(r:RowL):Prop:=Q9 S r\/uAv S r
noncomputable def unS(S:ScpL)(j:Nat):List RowL:=if rG S 1 j then [⟨6,j,0,0⟩,⟨7,j,0,0⟩,⟨8,j,0,0⟩] else [⟨5,j,0,0⟩,⟨9,j,0,0⟩,⟨10,j,0,0⟩]
def loS(i:Nat):List RowL:=[⟨1,i,0,0⟩,⟨2,i,0,0⟩]
def poS(i:Nat):RowL:=⟨3,i,0,0⟩
noncomputable def kE(S:ScpL):List RowL:=(List.range S.q.g.ins.toNat).flatMap loS++((List.range S.q.r.rows.length).map poS++(List.range S.q.g.units.length).flatMap (unS S))
def La(S:ScpL):Prop:=∀ j:Nat,j<S.q.g.units.length->(rG S 2 j=!rG S 1 j)
def RA{k:Nat}{q:Rat}(h:sz k q):szF k (bA q):=⟨h,fun p hp=>by cases hp⟩
def RB{k:Nat}{r:RatL}(h:okQ k r)(hk:1<=k):sz k (qv r):=kT h.1 h.2.1 h.2.2 hk
variable {l:List MultL}
def Lb(x y:Int):Int:=if x<y then -1 else if x > y then 1 else 0
def orI:List Int->Int
 |[]=>0
 |x::l=>if x=0 then orI l else x
def RE(a b:RowL):Int:=orI [Lb a.kind b.kind,Lb a.index b.index,Lb a.lo b.lo,Lb a.hi b.hi]
def ltM(a b:MultL):Bool:=decide (RE a.row b.row<0)
def uDW{l:List Int}{n:Nat}(h:n<l.length)(h0:l[n]! = 0):orI (l.drop n)=orI (l.drop (n+1)):=by
 rw[kI h];rw[zS l n h]at h0
 conv=>lhs;unfold orI
 exact zE h0
def uMO{l:List Int}{n:Nat}(h:n<l.length)(h0:¬ l[n]! = 0):orI (l.drop n)=l[n]! := by
 rw[kI h,zS l n h];rw[zS l n h]at h0;unfold orI;rw[zB h0]
def nS(r:RowL):List MultL->Rat->Rat×List MultL
 |[],x=>(x,[])
 |m::l,x=>if m.row=r then nS r l (x+qv m.coef) else(x,m::l)
def bI:Nat->List MultL->List MultL->List MultL
 |0,_,O=>O
 |_+1,[],O=>O
 |k+1,m::l,O=>bI k (nS m.row (m::l) 0).2 (if 0<(nS m.row (m::l) 0).1 then O++[⟨m.row,cr (nS m.row (m::l) 0).1⟩] else O)
def vT9{r:RowL}  {j:Nat}{x:Rat}(h:j<l.length)(e:l[j]!.row=r):nS r (l.drop j) x=nS r (l.drop (j+1)) (x+qv l[j]!.coef):=by
 rw[kI h,zS l j h];rw[zS l j h]at e
 conv=>lhs;unfold nS
 rw[zE e]
def vT8{r:RowL}  {j:Nat}{x:Rat}(h:j<l.length->¬ l[j]!.row=r):nS r (l.drop j) x=(x,l.drop j):=by
 by_cases hj:j<l.length
 .have h:=h hj
  rw[kI hj];rw[zS l j hj]at h;unfold nS;rw[zB h]
 .rw[bT zom];rfl
def uAZ{k:Nat}{O:List MultL}{i:Nat}(h:i<l.length):bI (k+1) (l.drop i) O=bI k (nS l[i]!.row (l.drop i) 0).2 (if 0<(nS l[i]!.row (l.drop i) 0).1 then O++[⟨l[i]!.row,cr (nS l[i]!.row (l.drop i) 0).1⟩] else O):=by
 rw[zS l i h]
 conv=>lhs;rw[kI h]
 conv=>lhs;unfold bI
 rw[<- kI h]
def uGW{k:Nat}{O:List MultL}{i:Nat}(h:l.length<=i):bI k (l.drop i) O=O:=by
 rw[bT h];cases k<;>rfl
noncomputable def FL(l:List MultL):List MultL×Int:=if l.any (fun m=>decide (xQ (qv m.coef)<0)) then([],1) else(bI l.length (qF ltM l.length l) [],0)
def jG(A:List RowL)(d:List RatL):List MultL:=(List.range d.length).map fun i=>⟨A[i]!,d[i]!⟩
def Y6{A:List RowL}{d:List RatL}:(jG A d).length=d.length:=by simp[jG]
def uCN{A:List RowL}{d:List RatL}{m:MultL}(h:m∈jG A d):m.coef∈d:=by
 obtain⟨i,hi,rfl⟩:=zW.1 h;exact Bx (yN.1 hi)
def AO(s:SolL)(pf:List MultL):PV :=
 if s.status=1 then .agg [.int .i64 1,.bool s.value.neg,zQ s.value.num,zQ s.value.den,.imm (s.point.map zR),.imm (pf.map vH)]
 else if s.status=2 then .agg [.int .i64 2,.bool false,.imm [],.imm [],.imm [],.imm (pf.map vH)]
 else .agg [.int .i64 s.status,.bool false,.imm [],.imm [],.imm [],.imm []]
open Go.RowKit
variable {α:Type}{s:St}{N r:Nat}
def Lc(L:List (Nat×Blk))(N:Nat)(r:Nat):Bool:=Nat.ble N r||L.any fun p=>Nat.beq p.1 r
def mix  (L:List (Nat×Blk))(N:Nat)(h1 h:Nat->α):Nat->α:=fun r=>match Lc L N r with
 |true=>h1 r
 |false=>h r
def mixB_iff{L:List (Nat×Blk)}  : Lc L N r=true↔N<=r\/r∈L.map (·.1):=by
 unfold Lc;simp only[kN,rM,EF,zW];constructor
 .rintro(h|⟨p,hp,e⟩)
  .exact zF h
  .exact zC ⟨p,hp,CR e⟩
 .rintro(h|⟨p,hp,rfl⟩)
  .exact zF h
  .exact zC ⟨p,hp,zsm⟩
def oJ  {L:List (Nat×Blk)}  {h1 h:Nat->α}(e:N<=r\/r∈L.map (·.1)):mix L N h1 h r=h1 r:=by unfold mix;rw[mixB_iff.2 e]
def bJ  {L:List (Nat×Blk)}  {h1 h:Nat->α}(e:¬ (N<=r\/r∈L.map (·.1))):mix L N h1 h r=h r:=by
 unfold mix;cases hb:Lc L N r with
 |true=>exact absurd (mixB_iff.1 hb) e
 |false=>rfl
def Bz(s:St):Hp:=fun r=>match s.z r with
 |true=>none
 |false=>s.h r
def uDX   {b:Blk}(h:Bz s r=some b):s.h r=some b/\s.z r=false:=by
 unfold Bz at h
 split at h
 .cases h
 .rename_i e;exact⟨h,e⟩
def B0   (h:s.z r=false):Bz s r=s.h r:=by unfold Bz;rw[h]
section
variable {P:Program} {G:Gl}
def Ld{f:FuncId}{args:List PV}{L:List (Nat×Blk)}  {t0:Tm}{K:PV->St->Prop}(hF:FnH P G f args K ⟨t0,lsH L,fun _=>false,N⟩)  (hnx:s.nx=N)(hnd:(L.map (·.1)).Nodup)(hL:∀ p∈L,s.h p.1=some p.2/\s.z p.1=false/\p.1<N)
 (h0:∀ p∈L,0<p.1):FnH P G f args (fun pv s'=>∃ s1,K pv s1/\s'.h=mix L N (Bz s1) s.h/\s'.z=mix L N (fun _=>false) s.z/\N<=s1.nx/\s'.nx=s1.nx) s:=by
 subst hnx;refine⟨hF.1,fun E w A κ vs hn0 hκ0 hA0 hw1 H hfr hargs=>?_⟩;let N:=s.nx
 let rs:List Nat:=L.map (·.1)
 have hmem:∀ r∈rs,∃ b,(r,b)∈L:=fun r hr=>by
  obtain⟨p,hp,rfl⟩:=zW.1 hr;exact⟨p.2,hp⟩
 have inRs:∀ {r b},(r,b)∈L->r∈rs:=fun hp=>zW.2 ⟨_,hp,rfl⟩
 let ex:Nat->Prop:=fun b'=>∃ r sz cap,r∈rs/\κ r=some (b',sz,cap)/\cap≠0
 have hex:∀ b',ex b'->¬ A b'/\¬ E.K b'/\E.B<=b':=by
  rintro b' ⟨r,sz,cap,hr,hκ,hc0⟩
  obtain⟨b,hp⟩:=hmem r hr;obtain⟨h1,h2,_⟩:=hL _ hp;obtain⟨m,cap',g1,_,_,g4⟩:=H.blk r _ h1 (by rw[hκ];simp);rw[hκ]at g1;cases g1;have ho:=H.kp.own r _ b' _ cap h1 hκ hc0 h2;rcases g4.resolve_left hc0 with⟨_,e1,e6,_⟩|⟨c,ty,⟨e1,_⟩,e2,e3,e4,e5,e6,e7⟩<;>exact⟨e6 h2,ho,e1⟩
 let K':Nat->Prop:=fun b=>b<w.heap.size/\¬ ex b
 let Es:Env:={ w0:=E.w0,w1:=w,B:=E.B,A0:=A,n0:=N,κ0:=κ,K:=K',Z:=fun b=>K' b/\¬ A b,kw:=w }
 have hL0:∀ r b,lsH L r=some b->(r,b)∈L/\s.h r=some b/\s.z r=false/\r<N:=fun r b hb=>by
  have hp:=Js hb;exact⟨hp,hL _ hp⟩
 have Hs:HR Es G w A κ (lsH L) (fun _=>false):=by
  refine⟨H.bel,H.hB,H.alt,fun b hb=>hb,fun b hb=>zF hb,fun _ _ _=>rfl,fun r hr=>rfl,H.glob,H.klt,⟨fun r b m sz cap hr hκ hc hz'=>?_,Below.refl _ _,fun b hb=>⟨hb.1,rfl⟩,fun b hb=>hb⟩,fun r0 b hr hκ=>?_,fun r r' b b' m m' s s' c c' hne hr hr' hk hk' hc hc'=>?_⟩
  .exact fun hK=>hK.2 ⟨_,sz,cap,inRs (hL0 r b hr).1,hκ,hc⟩
  .obtain⟨hp,h1,h2,hj⟩:=hL0 r0 b hr
   have:=H.blk _ _ h1 hκ;rw[h2]at this;exact this
  .exact H.excl _ _ _ _ m m' s s' c c' hne (hL0 r b hr).2.1 (hL0 r' b' hr').2.1 hk hk' hc hc'
 have hfresh:jT N κ (lsH L) (fun _=>false):=fun r hr =>
  ⟨Ui fun p hp e=>by have:=(hL p hp).2.2;omega,rfl,(hfr r hr).2.2⟩
 refine(hF.2 Es w _ _ vs rfl rfl rfl rfl Hs hfresh hargs).mono fun e w' ⟨v,pv,A',κ',s1,h1,h2,h3,h3',h5,hK⟩=>?_
 have hb0:Below 0 w w':=h2.kp.kb;have hpres:∀ b,b<w.heap.size->¬ ex b->w'.heap[b]?=w.heap[b]?:=fun b hb hx=>(h2.kp.kk b ⟨hb,hx⟩).2
 have hA':∀ b,A b->A' b:=h2.a0
 have hnew:∀ b,A' b->A b\/w.heap.size<=b\/ex b:=fun b hb=>by
  rcases nD b w.heap.size with hlt|hge
  .by_cases hx:ex b
   .exact zC (zC hx)
   .by_cases hA:A b
    .exact zF hA
    .exact absurd hb (h2.kp.zk b ⟨⟨hlt,hx⟩,hA⟩).2
  .exact zC (zF hge)
 let hd:Hp:=fun r=>if r∈rs then none else s.h r
 have hds':∀ r b,hd r=some b->r∉rs/\s.h r=some b:=fun r b hb=>by
  simp only[hd]at hb
  split at hb
  .cases hb
  .rename_i hn;exact⟨hn,hb⟩
 have Hd:HR E G w A κ hd s.z:=H.less fun r b hb=>(hds' r b hb).2
 have hexk:∀ r b m s c,hd r=some b->κ r=some (m,s,c)->c≠0->¬ ex m:=by
  rintro r b m s c hr hκ hc ⟨r',sz,cap,hr',hκ',hc'⟩
  obtain⟨g1,g2⟩:=hds' r b hr;obtain⟨b',hp⟩:=hmem r' hr';exact H.excl r r' _ _ m m s sz c cap (fun e=>g1 (by rw[e];exact hr')) g2 (hL _ hp).1 hκ hκ' hc hc' rfl
 have Hw:=Hd.stepW hb0 h2.bel (ex:=ex) hpres hex hexk hA' hnew h2.alt;have hk0:∀ r,r<N->κ' r=κ r:=fun r hr=>h2.k0 r hr
 have up:∀ r x,κ r=some x->κ' r=some x:=fun r x e=>by
  by_cases hr:r<N
  .rw[hk0 r hr];exact e
  .rw[(hfr r zom).2.2]at e;cases e
 have ltN:∀ r b,hd r=some b->r<N:=fun r b hb=>by
  apply kJ;intro hr;have:=(hds' r b hb).2;rw[(hfr r (by show s.nx<=r;have:¬ r<s.nx:=hr;omega)).1]at this;cases this
 have get:∀ r b,mix L N (Bz s1) s.h r=some b->((N<=r\/r∈rs)/\s1.h r=some b/\s1.z r=false/\mix L N (fun _=>false) s.z r=false)\/(¬ (N<=r\/r∈rs)/\hd r=some b/\mix L N (fun _=>false) s.z r=s.z r):=fun r b hb=>by
  by_cases hr:N<=r\/r∈rs
  .rw[oJ hr]at hb;obtain⟨g1,g2⟩:=uDX hb;exact zF ⟨hr,g1,g2,oJ hr⟩
  .rw[bJ hr]at hb
   refine zC ⟨hr,?_,bJ hr⟩;show(if r∈rs then none else s.h r)=some b
   rw[zB fun h=>hr (zC h)];exact hb
 have lie:∀ r b m sz cap,s1.h r=some b->κ' r=some (m,sz,cap)->cap≠0->s1.z r=false->w.heap.size<=m\/ex m:=fun r b m sz cap hb hκ hc hz=>by
  rcases nD m w.heap.size with hlt|hge
  .by_cases hx:ex m
   .exact zC hx
   .exact absurd ⟨hlt,hx⟩ (h2.kp.own r b m sz cap hb hκ hc hz)
  .exact zF hge
 have hcell:∀ b o,A b->w'.cell? ⟨b,o,none⟩=w.cell? ⟨b,o,none⟩:=fun b o hA=>cell?_of_heap (hpres b (H.alt b hA) fun hx=>(hex b hx).1 hA) o
 have out:∀ r b m sz cap,hd r=some b->κ r=some (m,sz,cap)->cap≠0->m<w.heap.size/\¬ ex m:=fun r b m sz cap hb hκ hc=>by
  refine⟨?_,hexk r b m sz cap hb hκ hc⟩;rcases H.klt r m sz cap hκ with h|h
  .exact absurd h hc
  .exact h
 refine⟨v,pv,A',κ',⟨s1.t,mix L N (Bz s1) s.h,mix L N (fun _=>false) s.z,s1.nx⟩,h1,?_,?_,h3',h5,s1,hK,rfl,rfl,h3',rfl⟩
 .refine⟨h2.bel,h2.hB,h2.alt,fun b hb=>hA' b (H.a0 b hb),fun b hb=>?_,fun b o hb=>?_,fun r hr=>by rw[hk0 r (by show r<s.nx;omega)];exact H.k0 r hr,h2.glob,h2.klt,
   ⟨fun r b m sz cap hr hκ hc hz=>?_,H.kp.kb.trans hb0,fun b hb=>?_,fun b hb=>?_⟩,fun r b hr hκ=>?_,fun r r' b b' m m' q q' c c' hne hr hr' hk hk' hc hc'=>?_⟩
  .rcases h2.a1 b hb with h|h
   .exact H.a1 b h
   .exact zC h
  .rw[hcell b o (H.a0 b hb)];exact H.acell b o hb
  .rcases get r b hr with⟨_,g1,g3,g2⟩|⟨_,g1,g2⟩
   .rcases lie r b m sz cap g1 hκ hc g3 with h|h
    .exact fun hK=>by have:=(H.kp.kk m hK).1;omega
    .exact(hex m h).2.1
   .have hz:mix L N (fun _=>false) s.z r=false:=hz;rw[g2]at hz
    exact Hw.kp.own r b m sz cap g1 (by rw[<- hk0 r (ltN r b g1)];exact hκ) hc hz
  .exact Hw.kp.kk b hb
  .exact Hw.kp.zk b hb
  .rcases get r b hr with⟨_,g1,g3,g2⟩|⟨_,g1,g2⟩
   .have:=h2.blk r b g1 hκ
    rw[g3,<- g2]at this;exact this
   .have:=Hw.blk r b g1 (by rw[<- hk0 r (ltN r b g1)];exact hκ)
    rw[<- g2]at this;exact this.to (fun _ _ _ _ _ _ hv=>hv.mono (fun _ h=>h) (fun _ _ _=>rfl) up) (hk0 r (ltN r b g1))
  .have both:∀ {r r' b b' m m' q q' c c'},s1.h r=some b->s1.z r=false->hd r'=some b'->κ' r=some (m,q,c)->κ' r'=some (m',q',c')->c≠0->c'≠0->m≠m':=by
    intro r r' b b' m m' q q' c c' g1 g2 g1' hk hk' hc hc' e;subst e;obtain⟨o1,o2⟩:=out r' b' m q' c' g1' (by rw[<- hk0 r' (ltN r' b' g1')];exact hk') hc';rcases lie r b m q c g1 hk hc g2 with h|h
    .omega
    .exact o2 h
   rcases get r b hr with⟨_,g1,g2,_⟩|⟨_,g1,_⟩
   .rcases get r' b' hr' with⟨_,g1',_,_⟩|⟨_,g1',_⟩
    .exact h2.excl r r' b b' m m' q q' c c' hne g1 g1' hk hk' hc hc'
    .exact both g1 g2 g1' hk hk' hc hc'
   .rcases get r' b' hr' with⟨_,g1',g2',_⟩|⟨_,g1',_⟩
    .exact(both g1' g2' g1 hk' hk hc' hc).symm
    .exact Hw.excl r r' b b' m m' q q' c c' hne g1 g1' (by rw[<- hk0 r (ltN r b g1)];exact hk) (by rw[<- hk0 r' (ltN r' b' g1')];exact hk') hc hc'
 .intro r hr
  obtain⟨g1,g2,g3⟩:=h3 r hr;have:N<=r\/r∈rs:=zF (wS h3' hr);exact⟨by show mix L N (Bz s1) s.h r=none;rw[oJ this,B0 g2];exact g1,by show mix L N (fun _=>false) s.z r=false;rw[oJ this],g3⟩
end
open Go.RowKit
variable {s:St}
def uTW{H1 H2:List (Nat×Blk)}{j:Nat}(h:∀ q∈H1,q.1≠j):hv (H1++H2) j=hv H2 j:=by
 induction H1 with
 |nil=>rfl
 | cons p H1 ih =>
   obtain⟨k,b⟩:=p;rw[List.cons_append]
   conv=>lhs;unfold hv
   have e:Nat.beq j k=false:=by rw[vL];have:=h (k,b) zsm;simp;exact fun e=>this e.symm
   rw[e];exact ih fun q hq=>h q (xN _ hq)
section
variable {P:Program} {T:Ti} {G:Gl} {n0:Nat}
def Ij{ρ:Nat->Nat}{k:Nat}{Z:List Nat}{h:Hp}{z:Fz}{H2:List (Nat×Blk)}:∀ {H1:List (Nat×Blk)},uP ρ k Z H1 h z->uP ρ k Z H2 h z->uP ρ k Z (H1++H2) h z
 |[],_,h2=>h2
 |(_,_)::_,h1,h2=>⟨h1.1,Ij h1.2 h2⟩
def KeptF(n0:Nat)(s:St)(L:List (Nat×PV))(H:List (Nat×Blk))(Z:List Nat)(k:Nat):Prop :=
 ∃ (ρ:Nat->Nat) (KS:List Nat) (TS:List (Nat×PV)) (HS:List (Nat×List PV)),(BX s.h KS/\fzT KS s.h s.t TS/\fzH KS s.h HS)/\okV ρ k L (dW s.t TS)/\uP ρ k Z H (q7 s.h HS) (fs s.z KS)/\(∀ p∈H,∀ q∈H,p.1≠q.1->ρ p.1≠ρ q.1)/\∀ r,r<n0->ρ r=r
def Y7{ρ:Nat->Nat}{k:Nat}{Z:List Nat}{h:Hp}{z:Fz}:∀ {l:List (Nat×Blk)},uP ρ k Z l h z->∀ q∈l,Eg ρ k Z q.1 q.2 h z
 | (_,_)::_,hl,q,hq=>by
   rcases yI.1 hq with rfl|hq
   .exact hl.1
   .exact Y7 hl.2 q hq
def Y8{ρ:Nat->Nat}{k:Nat}{t:Tm}:∀ {l:List (Nat×PV)},okV ρ k l t->∀ p∈l,rn ρ k 3 p.2 (t p.1)
 | (_,_)::_,hl,p,hp=>by
   rcases yI.1 hp with rfl|hp
   .exact hl.1
   .exact Y8 hl.2 p hp
def KeptF.le  {L:List (Nat×PV)}{H:List (Nat×Blk)}{Z:List Nat}{k:Nat}(hk:n0<=k)(hZ:∀ r∈Z,r<k)(h:KeptF n0 s L H Z k):LeS G n0 s ⟨sl L,hl H,zl Z,k⟩:=by
 obtain⟨ρ,KS,TS,HS,⟨h1,h2,h3⟩,h4,h5,h6,h7⟩:=h;rw[OM]at h5;refine(Vg h1 h2 h3).trans (N9 ρ hk h7 (Y8 h4) (fun q hq=>?_) hZ h6);obtain⟨g1,g2,⟨b,g3,g4⟩,g5⟩:=Y7 h5 q hq;exact⟨g1,g2,b,g3,g4,by rw[<- Cy];exact g5⟩
def RF(hT:∀ i x,T i=some x->zK P i=x){c:Code}{Q:Exit->St->Prop}  {ι:Type}(N:List (Np×Nat×Bool))(L:ι->List (Nat×PV))(H:ι->List (Nat×Blk))(Z:List Nat)(k:Nat)(Inv:ι->Prop)(μ:ι->Nat)(i0:ι)(h0:Inv i0)(hk:n0<=k)(hZ:∀ r∈Z,r<k)
 (hN:DL s N) (hs:KeptF n0 (Bo s N) (L i0) (H i0) Z k)
 (round:∀ i,Inv i->VC P T G n0 c (nG (fun s'=>∃ i',(Inv i'/\μ i'<μ i)/\KeptF n0 s' (L i') (H i') Z k) Q) ⟨sv (L i),hv (H i),zv Z,k⟩) :
 kR P G (FnC P G) (FnH P G) (LeS G,n0) c Q s:=by
 unfold kR;refine Gs L H (fun _=>Z) k Inv μ i0 h0 (E9 hN (hs.le hk hZ)) fun i hi=>?_
 have:=round i hi;rw[BV,Cx,Cy]at this
 exact fM hT (fun e s h=>by
  cases e<;>first|(obtain⟨i',⟨h1,h2⟩,h3⟩:=h;exact⟨i',h1,h2,h3.le hk hZ⟩)|exact h) this
def bK{K:St->Prop}{Q:Exit->St->Prop}  (N:List (Np×Nat×Bool))(L:List (Nat×PV))(H:List (Nat×Blk))(Z:List Nat)(k:Nat)(hk:n0<=k)(hZ:∀ r∈Z,r<k)(hN:DL s N)(hs:KeptF n0 (Bo s N) L H Z k)
 (h:K ⟨sv L,hv H,zv Z,k⟩):tX (LeS G,n0) K Q .normal s:=VV (E9 hN (hs.le hk hZ)) (by rw[<- BV,<- Cx,<- Cy];exact h)
end
end Go.PI
