/-
  Splits: plain. What is taken out leaves an accepted tree.
-/
import Derived.Test.YtbelmkceegmdjaaGreatDoorCSB
import Derived.Test.YtbelmkceegmdjaaGreatDoorCTN
set_option linter.unusedVariables false
set_option linter.unusedSimpArgs false
set_option linter.unnecessarySimpa false
set_option maxHeartbeats 0
namespace Go.PI.Tryz
open Go.Proofs Go.PI
def vCF:ScpL->NodeL->List DecL->ScpL
 | S,_,[]=>S
 | S,n,d::p=>match vBX n d with
   | some i=>vCF (vCX S n d) n.kids[i]! p
   | none=>S
theorem zNG{S:ScpL}{n:NodeL}(h:vBE S n=none):vDA S n:=by
 refine rCH fun hr=>?_
 rw[zDH hr]at h; cases h
theorem zEL{n:NodeL}{d:Nat}(h0:n.kids.length≠0)(hf:vBH d n=true):n.kids.length=2/\d≠0/\vBH (d - 1) n.kids[0]! = true/\vBH (d - 1) n.kids[1]! = true/\1<=n.split.kind/\n.split.kind<=4:=by
 have hfo:=hf;rw[zA2 h0]at hfo;simp only[rAQ,rAX]at hfo;have h5:=hfo.1.1;unfold vBV at h5;obtain⟨e1,e2,e3,_⟩:=rB2 h5;have hfk:=zCO e1 (d:=d);rw[hf]at hfk;have hfk:=hfk.symm;simp only[rAQ]at hfk;exact⟨e1,hfo.1.2,hfk.2.1,hfk.2.2,e2,e3⟩
theorem vXT{n:NodeL}{d:Nat}{e:DecL}{i:Nat}(hf:vBH d n=true)(h:vBX n e=some i):n.kids.length≠0/\((i=0/\e=n.split)\/(i=1/\e=opp n.split)):=by
 obtain⟨h1,h2⟩:=zCT h;have h0:n.kids.length≠0:=by omega
 refine⟨h0,?_⟩;obtain⟨e1,_⟩:=zEL h0 hf;rcases rCZ i 1 with hi | hi
 .obtain rfl:i=0:=by omega
  exact rAW ⟨rfl,by rw[<- h2]; rfl⟩
 .obtain rfl:i=1:=by omega
  exact rAZ ⟨rfl,by rw[<- h2]; rfl⟩
theorem set0{α:Type}{a b:α}(k:α):([a,b]:List α).set 0 k=[k,b]:=rfl
theorem set1{α:Type}{a b:α}(k:α):([a,b]:List α).set 1 k=[a,k]:=rfl
theorem vH1{S:ScpL}{n:NodeL}{d:Nat}(h0:n.kids.length≠0)(hf:vBH d n=true)(hb:vBE S n=none):vBE (vCX S n n.split) n.kids[0]! = none/\vBE (vCX S n (opp n.split)) n.kids[1]! = none:=by
 obtain⟨e1,_⟩:=zEL h0 hf;rw[zCC (zNG hb) (zG8 e1)]at hb;cases h1:vBE (vCX S n n.split) n.kids[0]! with
 | some p=>rw[h1]at hb; cases hb
 | none=>rw[h1]at hb; exact⟨rfl,hb⟩
theorem zLH{w:NodeL}:∀ (p:List DecL) (n:NodeL) (S:ScpL) (d:Nat) (n':NodeL),vBH d n=true->vBE S n=none->vCO w n p=some n'->vBE S n'=vBE (vCF S n p) w
 | [],n,S,d,n',_,_,h=>by
   simp only[vCO,rBU]at h;subst h; rfl
 | e :: p,n,S,d,n',hf,hb,h=>by
   simp only[vCO]at h;cases hk:vBX n e with
   | none=>rw[hk]at h; cases h
   | some i =>
     rw[hk]at h;simp only[rBI]at h;obtain⟨k',h1,h2⟩:=h;obtain⟨h0,hi⟩:=vXT hf hk;obtain⟨e1,e2,f0,f1,_⟩:=zEL h0 hf;obtain⟨b0,b1⟩:=vH1 h0 hf hb;have hr:=zNG hb
     have hr':vDA S n':=by
      rw[<- h2];refine⟨hr.1,?_⟩;have h3:=hr.2;rw[rAN h0]at h3;rw[rAN (show ¬ (vB0 n i k').kids.length=0 by show ¬ (n.kids.set i k').length=0; rw[rE1]; exact h0)];exact h3
     have hsc:vCF S n (e::p)=vCF (vCX S n e) n.kids[i]! p:=by simp only[vCF,hk]
     rw[hsc];rcases hi with⟨rfl,he⟩ | ⟨rfl,he⟩
     .have hkids:n'.kids=[k',n.kids[1]!]:=by
       rw[<- h2]; show n.kids.set 0 k'=_
       conv=>lhs; rw[zG8 e1]
       exact set0 k'
      have hs:n'.split=n.split:=by rw[<- h2]; rfl
      have hkS:∀ x,vCX S n' x=vCX S n x:=fun x=>by rw[<- h2]; rfl
      have ih:=zLH p n.kids[0]! (vCX S n n.split) (d - 1) k' f0 b0 h1;rw[zCC hr' hkids,hs,hkS,hkS,ih,he];have e5:vBE (vCX S n (vTN n.split)) n.kids[1]! = none:=b1;rw[e5];cases vBE (vCF (vCX S n n.split) n.kids[0]! p) w<;>rfl
     .have hkids:n'.kids=[n.kids[0]!,k']:=by
       rw[<- h2]; show n.kids.set 1 k'=_
       conv=>lhs; rw[zG8 e1]
       exact set1 k'
      have hs:n'.split=n.split:=by rw[<- h2]; rfl
      have hkS:∀ x,vCX S n' x=vCX S n x:=fun x=>by rw[<- h2]; rfl
      have ih:=zLH p n.kids[1]! (vCX S n (opp n.split)) (d - 1) k' f1 b1 h1;rw[zCC hr' hkids,hs,hkS,hkS,b0,he];exact ih
theorem vG0:∀ (p:List DecL) (n:NodeL) (S:ScpL) (d:Nat) (m:NodeL),vBH d n=true->vBE S n=none->vCA S->atF n p=some m->vCA (vCF S n p)/\vBE (vCF S n p) m=none/\(vCF S n p).q=S.q
 | [],n,S,d,m,_,hb,hS,h=>by
   simp only[atF,rBU]at h;subst h; exact⟨hS,hb,rfl⟩
 | e :: p,n,S,d,m,hf,hb,hS,h=>by
   simp only[atF]at h;cases hk:vBX n e with
   | none=>rw[hk]at h; cases h
   | some i =>
     rw[hk]at h;obtain⟨h0,hi⟩:=vXT hf hk;obtain⟨e1,e2,f0,f1,_⟩:=zEL h0 hf;obtain⟨b0,b1⟩:=vH1 h0 hf hb;have hfit:vF7 S.q n.split:=by have:=(zNG hb).2; rw[rAN h0]at this; exact this
     have hsc:vCF S n (e::p)=vCF (vCX S n e) n.kids[i]! p:=by simp only[vCF,hk]
     rw[hsc];rcases hi with⟨rfl,rfl⟩ | ⟨rfl,rfl⟩
     .exact vG0 p n.kids[0]! _ (d - 1) m f0 b0 (Go.PI.ok_kid hS hfit) h
     .exact vG0 p n.kids[1]! _ (d - 1) m f1 b1 (Go.PI.ok_kid hS (vYW hfit)) h
def vHY:NodeL->List DecL->List LemL
 | n,[]=>n.lemmas
 | n,d::p=>n.lemmas++(match vBX n d with
   | some i=>vHY n.kids[i]! p
   | none=>[])
theorem vPY:∀ (p:List DecL) (n m:NodeL),atF n p=some m->m.lemmas.length<=(vHY n p).length
 | [],n,m,h=>by simp only[atF,rBU]at h; subst h; exact rAO _
 | e :: p,n,m,h=>by
   simp only[atF]at h;cases hk:vBX n e with
   | none=>rw[hk]at h; cases h
   | some i =>
     rw[hk]at h;have:=vPY p _ m h;simp only[vHY,hk,rAU]; omega
theorem vOS:∀ (p:List DecL) (n:NodeL) (S:ScpL) (m:NodeL),atF n p=some m->vCF S n p=⟨S.q,S.path++p,S.lems++(vHY n p).take ((vHY n p).length - m.lemmas.length)⟩
 | [],n,S,m,h=>by
   simp only[atF,rBU]at h;subst h;simp[vCF,vHY]
 | e :: p,n,S,m,h=>by
   simp only[atF]at h;cases hk:vBX n e with
   | none=>rw[hk]at h; cases h
   | some i =>
     rw[hk]at h;have h1:=vOS p n.kids[i]! (vCX S n e) m h;have h2:=vPY p _ m h;simp only[vCF,vHY,hk];rw[h1];simp only[vCX,rBG,List.cons_append,List.nil_append,rAU];rw[List.take_append,rBO (l:=n.lemmas) zom,show n.lemmas.length+(vHY n.kids[i]! p).length - m.lemmas.length - n.lemmas.length=(vHY n.kids[i]! p).length - m.lemmas.length by omega]
theorem uK3:∀ (k:Nat) (n:NodeL) (d:Nat) (p:List DecL) (m:NodeL),SizeOf.sizeOf n<k->vBH d n=true->(p,m)∈n.all->atF n p=some m:=by
 intro k
 induction k with
 | zero=>intro n d p m h; omega
 | succ k ih =>
   intro n d p m hk hf hm;by_cases h0:n.kids.length=0
   .rw[n.all_eq,h0,n.upto_zero]at hm
    cases rBL.1 hm
    rfl
   .obtain⟨e1,e2,f0,f1,k1,k4⟩:=zEL h0 hf
    have hne:=vV7 k1 k4;rw[n.all_eq,e1,n.upto_succ zom,n.upto_succ zom,n.upto_zero]at hm;have s0:=NodeL.sizeOf_kid (get_mem (l:=n.kids) (show 0<n.kids.length by omega));have s1:=NodeL.sizeOf_kid (get_mem (l:=n.kids) (show 1<n.kids.length by omega));have c0:vCD n 0=n.split:=rfl;have c1:vCD n 1=opp n.split:=rfl;rcases rAY.1 hm with hm | hm
    .rcases rAY.1 hm with hm | hm
     .cases rBL.1 hm; rfl
     .obtain⟨q,hq,e⟩:=rA5.1 hm
      cases e
      have:=ih _ (d - 1) q.1 q.2 zom f0 hq;simp only[atF,zIJ (show 0<n.kids.length by omega) rfl];exact this
    .obtain⟨q,hq,e⟩:=rA5.1 hm
     cases e
     have:=ih _ (d - 1) q.1 q.2 zom f1 hq
     have hn:vBX n (vCD n 1)=some 1:=by
      unfold vBX;rw[e1,c1];have e0:¬ vCD n 0=opp n.split:=by rw[c0]; exact fun e=>hne e.symm
      simp[rE0,e0,c1]
     simp only[atF,hn];exact this
theorem vKT:∀ (k:Nat) (n:NodeL) (d e:Nat),SizeOf.sizeOf n<k->d<=e->vBH d n=true->vBH e n=true:=by
 intro k
 induction k with
 | zero=>intro n d e h; omega
 | succ k ih =>
   intro n d e hk hde hf;by_cases h0:n.kids.length=0
   .rw[zBT h0]at hf ⊢; exact hf
   .obtain⟨e1,e2,f0,f1,k1,k4⟩:=zEL h0 hf
    have s0:=NodeL.sizeOf_kid (get_mem (l:=n.kids) (show 0<n.kids.length by omega));have s1:=NodeL.sizeOf_kid (get_mem (l:=n.kids) (show 1<n.kids.length by omega));rw[zCO e1]at hf ⊢;simp only[rAQ,rAX]at hf ⊢;exact⟨⟨hf.1.1,zom⟩,ih _ _ _ zom zom f0,ih _ _ _ zom zom f1⟩
theorem vIE:∀ (k:Nat) (n:NodeL),SizeOf.sizeOf n<k->n.cnt=n.tot fun _=>1:=by
 intro k
 induction k with
 | zero=>intro n h; omega
 | succ k ih =>
   intro n h;rw[NodeL.cnt_eq,NodeL.tot_eq]
   congr 2
   exact rBH fun x hx=>ih x (by have:=NodeL.sizeOf_kid hx; omega)
theorem vUX{α:Type}[Inhabited α](f:α->Nat):∀ (l:List α) (i:Nat) (x:α),i<l.length->((l.set i x).map f).sum+f l[i]! = (l.map f).sum+f x
 | a::l,0,x,_=>by
   simp only[List.set_cons_zero,rBJ,List.sum_cons];have:(a::l)[0]! = a:=rfl;rw[this]; omega
 | a::l,i+1,x,h=>by
   have:=vUX f l i x (by simpa using h);simp only[List.set_cons_succ,rBJ,List.sum_cons]
   have e:(a::l)[i+1]! = l[i]! := by
    rw[rAS (a::l) (i+1) h,rAS l i (by simpa using h)]; rfl
   rw[e]; omega
theorem vLV{w:NodeL}{f:NodeL->Nat}(hf:∀ x i k,f (vB0 x i k)=f x):∀ (p:List DecL) (n n' m:NodeL),atF n p=some m->vCO w n p=some n'->n'.tot f+m.tot f=n.tot f+w.tot f
 | [],n,n',m,hm,h=>by
   simp only[vCO,rBU]at h;simp only[atF,rBU]at hm;subst h hm; omega
 | x :: p,n,n',m,hm,h=>by
   simp only[vCO]at h;simp only[atF]at hm;cases hk:vBX n x with
   | none=>rw[hk]at h; cases h
   | some i =>
     rw[hk]at h hm;simp only[rBI]at h;obtain⟨k',h1,h2⟩:=h;have ih:=vLV hf p _ k' m hm h1;have hl:=(zCT hk).1;rw[<- h2,NodeL.tot_eq f (vB0 n i k'),hf,NodeL.tot_eq f n];have:=vUX (NodeL.tot f) n.kids i k' hl;show f n+((n.kids.set i k').map (NodeL.tot f)).sum+_=_
     omega
theorem NodeZ.more{P V v:Nat}:∀ (k:Nat) (n:NodeL) (c c':Nat),SizeOf.sizeOf n<k->c<=c'->NodeZ P V v c n->NodeZ P V v c' n:=by
 intro k
 induction k with
 | zero=>intro n c c' h; omega
 | succ k ih =>
   intro n c c' hk hc h;exact .mk v c' n h.val (by have:=h.num; omega) h.lem h.spl h.prf fun x hx=>ih x _ _ (by have:=NodeL.sizeOf_kid hx; omega) zom (h.kid x hx)
theorem zNH{w n m:NodeL}{p:List DecL}(h:atF n p=some m):∃ n',vCO w n p=some n':=by
 have:=vN7 w p n;rw[h]at this;cases hr:vCO w n p with
 | some n'=>exact⟨n',rfl⟩
 | none=>rw[hr]at this; cases this
theorem uJ9(f:RowL->RowL):∀ (k:Nat) (n:NodeL),SizeOf.sizeOf n<k->(vCL f n).cnt=n.cnt:=by
 intro k
 induction k with
 | zero=>intro n h; omega
 | succ k ih =>
   intro n h;rw[NodeL.cnt_eq,NodeL.cnt_eq n,zEX];show 1+((n.kids.map (vCL f)).map NodeL.cnt).sum=_
   rw[rB7]
   congr 2
   exact rBH fun x hx=>ih x (by have:=NodeL.sizeOf_kid hx; omega)
theorem zDW(f:RowL->RowL)(n:NodeL):(vCL f n).kids=n.kids.map (vCL f):=by rw[zEX]; rfl
theorem zE3(f:RowL->RowL)(n:NodeL):(vCL f n).lemmas=n.lemmas.map (vDB f):=by rw[zEX]; rfl
theorem zK4(f:RowL->RowL)(n:NodeL):(vCL f n).split=n.split:=by rw[zEX]; rfl
theorem vZA(f:RowL->RowL)(n:NodeL):(vCL f n).empty=n.empty:=by rw[zEX]; rfl
theorem zK5(f:RowL->RowL)(n:NodeL):(vCL f n).proof=vBL f n.proof:=by rw[zEX]; rfl
theorem uD7(f:RowL->RowL):∀ (k:Nat) (n:NodeL) (d:Nat),SizeOf.sizeOf n<k->vBH d (vCL f n)=vBH d n:=by
 intro k
 induction k with
 | zero=>intro n d h; omega
 | succ k ih =>
   intro n d h;have hl:(vCL f n).kids.length=n.kids.length:=by rw[zDW,rAM]
   by_cases h0:n.kids.length=0
   .rw[zBT h0,zBT zom]; unfold vEE; rw[zK4]
   .rw[zA2 h0,zA2 zom]
    congr 1
    .congr 1
     unfold vBV;rw[hl,zK4,vZA,zK5];simp[vBL]
    .rw[zDW,List.all_map,rA1,rBF,rBF]
     have e:∀ x∈n.kids,vBH (d - 1) (vCL f x)=vBH (d - 1) x:=fun x hx=>ih x _ (by have:=NodeL.sizeOf_kid hx; omega)
     exact⟨fun g x hx=>by have:=g x hx; rw[<- e x hx]; exact this,fun g x hx=>by have:=g x hx; rw[<- e x hx]at this; exact this⟩
theorem vYT{n m:NodeL}(h1:n.kids=m.kids)(h2:n.split=m.split)(h3:n.empty=m.empty)(h4:n.proof.length=m.proof.length)(d:Nat):vBH d n=vBH d m:=by
 by_cases h0:n.kids.length=0
 .rw[zBT h0,zBT (by rw[<- h1]; exact h0)]; unfold vEE; rw[h2]
 .rw[zA2 h0,zA2 (by rw[<- h1]; exact h0)]
  unfold vBV;rw[h1,h2,h3,h4]
theorem zKS{n:NodeL}{d i:Nat}(hf:vBH d n=true)(hi:i<n.kids.length):vBH (d - 1) n.kids[i]! = true:=by
 rw[zA2 zom]at hf;simp only[rAQ,rBF]at hf;exact hf.2 _ (get_mem hi)
theorem zH1{n:NodeL}{d i:Nat}{p:Int}(hf:vBH d n=true)(hi:i<n.kids.length):vBH d (vBY n i p)=true:=by
 rw[vYT (n:=vBY n i p) (m:=vCL (vCV (-1) p) n.kids[i]!) rfl rfl rfl rfl,uD7 _ _ _ _ (rAL _)];exact vKT _ _ _ _ (rAL _) zom (zKS hf hi)
theorem uEG{n m:NodeL}(h1:n.kids=m.kids):n.cnt=m.cnt:=by rw[NodeL.cnt_eq,NodeL.cnt_eq m,h1]
theorem zC3{n:NodeL}{i:Nat}(hi:i<n.kids.length):n.kids[i]!.cnt<n.cnt:=by
 rw[NodeL.cnt_eq n];have:=zFF (f:=NodeL.cnt) (get_mem hi);omega
theorem zCI{n:NodeL}{i:Nat}{p:Int}(hi:i<n.kids.length):(vBY n i p).cnt<n.cnt:=by
 rw[uEG (n:=vBY n i p) (m:=vCL (vCV (-1) p) n.kids[i]!) rfl,uJ9 _ _ _ (rAL _)];exact zC3 hi
theorem uLS(f:RowL->RowL):∀ (k:Nat) (n:NodeL),SizeOf.sizeOf n<k->(vCL f n).wt=n.wt:=by
 intro k
 induction k with
 | zero=>intro n h; omega
 | succ k ih =>
   intro n h;rw[NodeL.wt_eq,n.wt_eq,zDW,zE3,zK5,rB7,rB7];have e1:n.kids.map (NodeL.wt∘vCL f)=n.kids.map NodeL.wt:=rBH fun x hx=>ih x (by have:=NodeL.sizeOf_kid hx; omega)
   have e2:n.lemmas.map (vCN∘vDB f)=n.lemmas.map vCN:=rBH fun x hx=>by simp[vCN,vDB,vBL]
   rw[e1,e2];simp[vBL]
theorem vTR{n:NodeL}{i:Nat}(hi:i<n.kids.length):1+(n.lemmas.map vCN).sum+n.kids[i]!.wt<=n.wt:=by
 rw[n.wt_eq];have:=zFF (f:=NodeL.wt) (get_mem hi);omega
theorem vGM{n:NodeL}{i:Nat}{p:Int}(hi:i<n.kids.length):(vBY n i p).wt<n.wt:=by
 have h1:=vTR hi;have h2:=uLS (vCV (-1) p) _ n.kids[i]! (rAL _);rw[NodeL.wt_eq]at h2
 have h3:(vBY n i p).wt=1+((n.lemmas++(vCL (vCV (-1) p) n.kids[i]!).lemmas).map vCN).sum+(vCL (vCV (-1) p) n.kids[i]!).proof.length+((vCL (vCV (-1) p) n.kids[i]!).kids.map NodeL.wt).sum:=by
  rw[NodeL.wt_eq]; rfl
 rw[rBB,rDC]at h3;omega
def vDT(S:ScpL)(n:NodeL)(i:Nat):ScpL:=vCX S n (vCD n i)
noncomputable def vD4(S:ScpL)(n:NodeL)(i:Nat):Bool:=!onN n.kids[i]! S.path.length && (vBE S (vBY n i S.path.length)).isNone
noncomputable def vB7(S:ScpL)(n:NodeL):Option Nat:=(List.range n.kids.length).find? (vD4 S n)
theorem zBG{S:ScpL}{n:NodeL}{i:Nat}(h:vB7 S n=some i):i<n.kids.length/\vD4 S n i=true:=by
 unfold vB7 at h;have h1:=rGJ h;have h2:=List.find?_some h;simp at h1;exact⟨h1,h2⟩
theorem vKX{S:ScpL}{n:NodeL}{i:Nat}(hi:i<n.kids.length)(h:vD4 S n i=true)(hb:∀ j,j<i->vD4 S n j=false):vB7 S n=some i:=by
 unfold vB7;rw[List.find?_eq_some_iff_getElem];refine⟨h,i,by simpa using hi,zsm,fun j hj=>?_⟩;simp only[rDY];rw[hb j hj]; rfl
theorem zOR{S:ScpL}{n:NodeL}(hb:∀ j,j<n.kids.length->vD4 S n j=false):vB7 S n=none:=by
 unfold vB7;rw[rFB];intro j hj;simp at hj;rw[hb j hj]; simp
noncomputable def uG5:Nat->ScpL->NodeL->NodeL
 | 0,_,n=>n
 | f+1,S,n=>match vB7 S n with
   | some i=>uG5 f S (vBY n i S.path.length)
   | none=>.mk n.lemmas n.split ((List.range n.kids.length).map fun i=>uG5 f (vDT S n i) n.kids[i]!) n.empty n.proof
noncomputable def vCH(S:ScpL)(n:NodeL):NodeL:=uG5 n.cnt S n
theorem zJU:∀ (f g:Nat) (S:ScpL) (n:NodeL),n.cnt<=f->n.cnt<=g->uG5 f S n=uG5 g S n
 | 0,g,S,n,h,_=>by have:=zF9 n; omega
 | f+1,0,S,n,_,h=>by have:=zF9 n; omega
 | f + 1,g+1,S,n,hf,hg=>by
   unfold uG5;cases h:vB7 S n with
   | some i =>
     have:=zCI (p:=S.path.length) (zBG h).1;exact zJU f g _ _ zom zom
   | none =>
     dsimp only
     congr 1
     refine rBH fun i hi=>?_
     simp at hi;have:=zC3 hi;exact zJU f g _ _ zom zom
theorem vUH(S:ScpL)(n:NodeL):vCH S n=match vB7 S n with
 | some i=>vCH S (vBY n i S.path.length)
 | none=>.mk n.lemmas n.split ((List.range n.kids.length).map fun i=>vCH (vDT S n i) n.kids[i]!) n.empty n.proof:=by
 unfold vCH;have hc:=zF9 n;obtain⟨m,hm⟩:∃ m,n.cnt=m+1:=⟨n.cnt - 1,zom⟩;rw[hm]
 conv=>lhs; unfold uG5
 cases h:vB7 S n with
 | some i =>
   have:=zCI (p:=S.path.length) (zBG h).1;exact zJU _ _ _ _ zom (rAO _)
 | none =>
   dsimp only
   congr 1
   refine rBH fun i hi=>?_
   simp at hi;have:=zC3 hi;exact zJU _ _ _ _ zom (rAO _)
theorem zCE{S:ScpL}{n:NodeL}{i:Nat}(h:vB7 S n=some i):vCH S n=vCH S (vBY n i S.path.length):=by
 rw[vUH,h]
theorem zCF{S:ScpL}{n:NodeL}(h:vB7 S n=none):vCH S n=.mk n.lemmas n.split ((List.range n.kids.length).map fun i=>vCH (vDT S n i) n.kids[i]!) n.empty n.proof:=by
 rw[vUH,h]
theorem zJT{S:ScpL}{n:NodeL}(h:n.kids.length=0):vCH S n=n:=by
 rw[zCF (zOR fun j hj=>by omega),h];have:n.kids=[]:=rA2.1 h;cases n
 simp_all [NodeL.lemmas,NodeL.split,NodeL.kids,NodeL.empty,NodeL.proof]
inductive Tok:NodeL->Prop
 | mk (n:NodeL) (h1:∀ m∈n.lemmas,m.value.sm/\vCY m.proof/\vCP m.proof) (h2:n.split.sm) (h3:vCY n.proof/\vCP n.proof) (h4:n.kids.length<2097152) (h5:∀ k∈n.kids,Tok k):Tok n
theorem Tok.lem{n:NodeL}(h:Tok n):∀ m∈n.lemmas,m.value.sm/\vCY m.proof/\vCP m.proof:=by cases h; assumption
theorem Tok.spl{n:NodeL}(h:Tok n):n.split.sm:=by cases h; assumption
theorem Tok.prf{n:NodeL}(h:Tok n):vCY n.proof/\vCP n.proof:=by cases h; assumption
theorem Tok.kn{n:NodeL}(h:Tok n):n.kids.length<2097152:=by cases h; assumption
theorem Tok.kid{n:NodeL}(h:Tok n):∀ k∈n.kids,Tok k:=by cases h; assumption
theorem zJS{P V v:Nat}:∀ (k:Nat) (n:NodeL) (c:Nat),SizeOf.sizeOf n<k->c<=1048576->NodeZ P V v c n->Tok n->n.Sm/\NodeRg n:=by
 intro k
 induction k with
 | zero=>intro n c h; omega
 | succ k ih =>
   intro n c hk hc hz ht;have hl:=hz.num;have hkid:=fun x hx=>ih x _ (by have:=NodeL.sizeOf_kid hx; omega) zom (hz.kid x hx) (ht.kid x hx)
   exact⟨.mk n ⟨zom,fun m hm=>⟨(ht.lem m hm).1,(ht.lem m hm).2.2⟩⟩ ht.spl ht.kn (fun x hx=>(hkid x hx).1) ht.prf.2,
    .mk n zom (fun m hm=>(ht.lem m hm).2.1) ht.prf.1 ht.kn (fun x hx=>(hkid x hx).2)⟩
theorem uL4:∀ (k:Nat) (n:NodeL),SizeOf.sizeOf n<k->n.Sm->NodeRg n->Tok n:=by
 intro k
 induction k with
 | zero=>intro n h; omega
 | succ k ih =>
   intro n hk hs hr;exact .mk n (fun m hm=>⟨(hs.lems.2 m hm).1,hr.lem m hm,(hs.lems.2 m hm).2⟩) hs.dec ⟨hr.prf,hs.prf⟩ hr.kn fun x hx=>ih x (by have:=NodeL.sizeOf_kid hx; omega) (hs.kid hx) (hr.kid x hx)
theorem vOY{p:Int}(h0:0<=p){l:List MultL}(h:vCY l/\vCP l):vCY (vBL (vCV (-1) p) l)/\vCP (vBL (vCV (-1) p) l):=by
 obtain⟨⟨h1,h2⟩,h3,h4⟩:=h;refine⟨⟨by simpa [vBL]using h1,fun m hm=>?_⟩,by simpa [vBL]using h3,fun m hm=>?_⟩
 .obtain⟨x,hx,rfl⟩:=rA5.1 hm
  obtain⟨g1,g2,g3⟩:=h2 x hx;refine⟨g1,?_⟩;show -9223372036854775808<=(if 0<=p/\x.row.kind=4 then vDR x.row.index p else x.row.index)/\(if 0<=p/\x.row.kind=4 then vDR x.row.index p else x.row.index)<9223372036854775808
  unfold vDR
  split
  .split<;>omega
  .omega
 .obtain⟨x,hx,rfl⟩:=rA5.1 hm
  exact h4 x hx
theorem uG3{p:Int}(h0:0<=p):∀ (k:Nat) (n:NodeL),SizeOf.sizeOf n<k->Tok n->Tok (vCL (vCV (-1) p) n):=by
 intro k
 induction k with
 | zero=>intro n h; omega
 | succ k ih =>
   intro n hk h;refine .mk _ (fun m hm=>?_) (by rw[zK4]; exact h.spl) (by rw[zK5]; exact vOY h0 h.prf) (by rw[zDW,rAM]; exact h.kn) fun x hx=>?_
   .rw[zE3]at hm
    obtain⟨y,hy,rfl⟩:=rA5.1 hm;exact⟨(h.lem y hy).1,vOY h0 (h.lem y hy).2⟩
   .rw[zDW]at hx
    obtain⟨y,hy,rfl⟩:=rA5.1 hx;exact ih y (by have:=NodeL.sizeOf_kid hy; omega) (h.kid y hy)
theorem zND{n:NodeL}{i:Nat}{p:Int}(h0:0<=p)(hi:i<n.kids.length)(h:Tok n):Tok (vBY n i p):=by
 have hk:=uG3 h0 _ _ (rAL _) (h.kid _ (get_mem hi));refine .mk _ (fun m hm=>?_) hk.spl hk.prf hk.kn hk.kid;rcases rAY.1 hm with hm | hm
 .exact h.lem m hm
 .exact hk.lem m hm
theorem zNS{P V:Nat}{f:RowL->RowL}{l:List MultL}(h:vNT P V l):vNT P V (vBL f l):=by
 obtain⟨⟨h1,h2⟩,h3⟩:=h;have e1:(vBL f l).length=l.length:=by simp[vBL]
 have e2:vEQ (vBL f l)=vEQ l:=by unfold vEQ vBL; rw[rB7]; rfl
 refine⟨⟨zom,fun m hm=>?_⟩,by rw[e1,e2]; exact h3⟩;obtain⟨x,hx,rfl⟩:=rA5.1 hm;exact h2 x hx
theorem vXS{f:RowL->RowL}{P V v:Nat}:∀ (k:Nat) (n:NodeL) (c:Nat),SizeOf.sizeOf n<k->NodeZ P V v c n->NodeZ P V v c (vCL f n):=by
 intro k
 induction k with
 | zero=>intro n c h; omega
 | succ k ih =>
   intro n c hk h;refine .mk v c _ (fun m hm=>?_) (by rw[zE3,rAM]; exact h.num) (fun m hm=>?_) (by rw[zK4]; exact h.spl) (by rw[zK5]; exact zNS h.prf) fun x hx=>?_
   .rw[zE3]at hm
    obtain⟨y,hy,rfl⟩:=rA5.1 hm;exact h.val y hy
   .rw[zE3]at hm
    obtain⟨y,hy,rfl⟩:=rA5.1 hm;exact⟨(h.lem y hy).1,zNS (h.lem y hy).2⟩
   .rw[zDW]at hx
    obtain⟨y,hy,rfl⟩:=rA5.1 hx;rw[zE3,rAM];exact ih y _ (by have:=NodeL.sizeOf_kid hy; omega) (h.kid y hy)
theorem zII{n:NodeL}{i:Nat}{p:Int}{P V v c:Nat}(hi:i<n.kids.length)(h:NodeZ P V v c n):NodeZ P V v c (vBY n i p):=by
 have hk:=vXS (f:=vCV (-1) p) _ _ _ (rAL _) (h.kid _ (get_mem hi));have h1:=h.num;have h2:=hk.num;have el:(vBY n i p).lemmas.length=n.lemmas.length+(vCL (vCV (-1) p) n.kids[i]!).lemmas.length:=rAU;refine .mk v c _ (fun m hm=>?_) zom (fun m hm=>?_) hk.spl hk.prf fun x hx=>?_
 .rcases rAY.1 hm with hm | hm
  .exact h.val m hm
  .exact hk.val m hm
 .rcases rAY.1 hm with hm | hm
  .exact h.lem m hm
  .exact hk.lem m hm
 .have:=hk.kid x hx
  rw[el,<- Nat.sub_sub];exact this
theorem uAD:∀ (p q:List DecL) (n:NodeL),atF n (p++q)=(atF n p).bind fun m=>atF m q
 | [],q,n=>by simp[atF]
 | d::p,q,n=>by
   simp only[List.cons_append,atF];cases vBX n d with
   | none=>rfl
   | some i=>exact uAD p q _
theorem zKG(n:NodeL)(i:Nat)(k:NodeL)(d:DecL):vBX (vB0 n i k) d=vBX n d:=by
 unfold vBX;have e1:(vB0 n i k).kids.length=n.kids.length:=rE1;have e2:∀ j,vCD (vB0 n i k) j=vCD n j:=fun j=>rfl
 simp only[e1,e2]
theorem vUY{n:NodeL}{i:Nat}{k:NodeL}(h:i<n.kids.length):(vB0 n i k).kids[i]! = k:=by
 show(n.kids.set i k)[i]! = k
 rw[rAS _ i (by simpa using h)]
 simp
theorem uL8{n:NodeL}{i j:Nat}{k:NodeL}(hne:i≠j)(h:j<n.kids.length):(vB0 n i k).kids[j]! = n.kids[j]! := by
 show(n.kids.set i k)[j]! = _
 rw[rAS _ j (by simpa using h),rAS _ j h,List.getElem_set_ne hne]
theorem set_set{n:NodeL}{i:Nat}{k k':NodeL}:vB0 (vB0 n i k) i k'=vB0 n i k':=by
 show NodeL.mk _ _ ((n.kids.set i k).set i k') _ _=NodeL.mk _ _ (n.kids.set i k') _ _
 rw[List.set_set]; rfl
theorem zJ1{w n n':NodeL}{d:DecL}{p:List DecL}(h:vCO w n (d::p)=some n'):∃ i k',vBX n d=some i/\vCO w n.kids[i]! p=some k'/\n'=vB0 n i k':=by
 simp only[vCO]at h;cases hk:vBX n d with
 | none=>rw[hk]at h; cases h
 | some i =>
   rw[hk]at h;simp only[rBI]at h;obtain⟨k',h1,h2⟩:=h;exact⟨i,k',rfl,h1,h2.symm⟩
theorem zNI{w n k':NodeL}{d:DecL}{p:List DecL}{i:Nat}(hk:vBX n d=some i)(h:vCO w n.kids[i]! p=some k'):vCO w n (d::p)=some (vB0 n i k'):=by
 simp only[vCO,hk,h,Option.map_some]
theorem vMC{v w:NodeL}:∀ (p:List DecL) (n n':NodeL),vCO v n p=some n'->vCO w n' p=vCO w n p
 | [],n,n',h=>rfl
 | d :: p,n,n',h=>by
   obtain⟨i,k',h1,h2,rfl⟩:=zJ1 h;have hl:=(zCT h1).1;simp only[vCO,zKG,h1];rw[vUY hl,vMC p _ _ h2];cases vCO w n.kids[i]! p with
   | none=>rfl
   | some k2 =>
     simp only[Option.map_some];rw[set_set]
theorem uAC{w:NodeL}:∀ (p:List DecL) (n n':NodeL),vCO w n p=some n'->atF n' p=some w
 | [],n,n',h=>by simp only[vCO,rBU]at h; subst h; rfl
 | d::p,n,n',h=>by
   obtain⟨i,k',h1,h2,rfl⟩:=zJ1 h;simp only[atF,zKG,h1];rw[vUY (zCT h1).1];exact uAC p _ _ h2
theorem vO4:∀ (p:List DecL) (n m:NodeL),atF n p=some m->vCO m n p=some n
 | [],n,m,h=>by simp only[atF,rBU]at h; subst h; rfl
 | d :: p,n,m,h=>by
   simp only[atF]at h;cases hk:vBX n d with
   | none=>rw[hk]at h; cases h
   | some i =>
     rw[hk]at h;have ih:=vO4 p _ m h;have hl:=(zCT hk).1;rw[zNI hk ih]
     congr 1
     unfold vB0
     have:n.kids.set i n.kids[i]! = n.kids:=by
      rw[rAS n.kids i hl]; exact List.set_getElem_self hl
     rw[this];cases n; rfl
theorem vMD{w:NodeL}:∀ (p q:List DecL) (n m m' n':NodeL),atF n p=some m->vCO w m q=some m'->vCO m' n p=some n'->vCO w n (p++q)=some n'
 | [],q,n,m,m',n',h1,h2,h3=>by
   simp only[atF,rBU]at h1;simp only[vCO,rBU]at h3;subst h1 h3; exact h2
 | d::p,q,n,m,m',n',h1,h2,h3=>by
   obtain⟨i,k',g1,g2,rfl⟩:=zJ1 h3;simp only[atF,g1]at h1;rw[List.cons_append];exact zNI g1 (vMD p q _ m m' k' h1 h2 g2)
theorem zN9{w:NodeL}:∀ (p:List DecL) (n n':NodeL) (S:ScpL),vCO w n p=some n'->vCF S n' p=vCF S n p
 | [],n,n',S,h=>rfl
 | d::p,n,n',S,h=>by
   obtain⟨i,k',h1,h2,rfl⟩:=zJ1 h;simp only[vCF,zKG,h1];rw[vUY (zCT h1).1];exact zN9 p _ _ _ h2
theorem zJZ:∀ (p:List DecL) (n m:NodeL) (S:ScpL) (d:DecL) (i:Nat),atF n p=some m->vBX m d=some i->vCF S n (p++[d])=vCX (vCF S n p) m d
 | [],n,m,S,d,i,h,hn=>by
   simp only[atF,rBU]at h;subst h;simp only[List.nil_append,vCF,hn]
 | e :: p,n,m,S,d,i,h,hn=>by
   simp only[atF]at h;cases hk:vBX n e with
   | none=>rw[hk]at h; cases h
   | some j =>
     rw[hk]at h;simp only[List.cons_append,vCF,hk];exact zJZ p _ m _ d i h hn
theorem uGU{n m:NodeL}{p:List DecL}{d:DecL}{i:Nat}(h:atF n p=some m)(hn:vBX m d=some i):atF n (p++[d])=some m.kids[i]! := by
 rw[uAD,h];simp only[Option.bind_some,atF,hn]
theorem vH3{H:Nat->NodeL->Prop}{nx:Nat->NodeL->Nat}(hk:∀ c n k,H c n->k∈n.kids->H (nx c n) k)(hs:∀ c n i k,H c n->i<n.kids.length->H (nx c n) k->H c (vB0 n i k)){w x:NodeL}(hw:∀ c,H c x->H c w) :
 ∀ (p:List DecL) (n n':NodeL) (c:Nat),H c n->atF n p=some x->vCO w n p=some n'->H c n'
 | [],n,n',c,h,h1,h2=>by
   simp only[atF,rBU]at h1;simp only[vCO,rBU]at h2;subst h1 h2; exact hw c h
 | d::p,n,n',c,h,h1,h2=>by
   obtain⟨i,k',g1,g2,rfl⟩:=zJ1 h2;simp only[atF,g1]at h1;have hl:=(zCT g1).1;exact hs c n i k' h hl (vH3 hk hs hw p _ k' _ (hk c n _ h (get_mem hl)) h1 g2)
theorem zMU{H:Nat->NodeL->Prop}{nx:Nat->NodeL->Nat}(hk:∀ c n k,H c n->k∈n.kids->H (nx c n) k){x:NodeL}:∀ (p:List DecL) (n:NodeL) (c:Nat),H c n->atF n p=some x->∃ c',H c' x
 | [],n,c,h,h1=>by simp only[atF,rBU]at h1; subst h1; exact⟨c,h⟩
 | d :: p,n,c,h,h1=>by
   simp only[atF]at h1;cases hn:vBX n d with
   | none=>rw[hn]at h1; cases h1
   | some i =>
     rw[hn]at h1;exact zMU hk p _ _ (hk c n _ h (get_mem (zCT hn).1)) h1
theorem zQF{w x n n':NodeL}{p:List DecL}{P V v c:Nat}(hw:∀ c,NodeZ P V v c x->NodeZ P V v c w)(h:NodeZ P V v c n)(h1:atF n p=some x)(h2:vCO w n p=some n'):NodeZ P V v c n':=by
 refine vH3 (H:=fun c n=>NodeZ P V v c n) (nx:=fun c n=>c - n.lemmas.length) (fun c n k h hk=>h.kid k hk) (fun c n i k h hi hk=>?_) hw p n n' c h h1 h2;refine .mk v c _ h.val h.num h.lem h.spl h.prf fun y hy=>?_
 rcases rCU hy with hy | rfl
 .exact h.kid y hy
 .exact hk
theorem vT5{w x n n':NodeL}{p:List DecL}(hw:Tok x->Tok w)(h:Tok n)(h1:atF n p=some x)(h2:vCO w n p=some n'):Tok n':=by
 refine vH3 (H:=fun _ n=>Tok n) (nx:=fun c n=>c) (fun c n k h hk=>h.kid k hk) (fun c n i k h hi hk=>?_) (fun _=>hw) p n n' 0 h h1 h2;refine .mk _ h.lem h.spl h.prf (by show(n.kids.set i k).length<_; rw[rE1]; exact h.kn) fun y hy=>?_
 rcases rCU hy with hy | rfl
 .exact h.kid y hy
 .exact hk
theorem vKS{w x n n':NodeL}{p:List DecL}{d:Nat}(hw:∀ d,vBH d x=true->vBH d w=true)(h:vBH d n=true)(h1:atF n p=some x)(h2:vCO w n p=some n'):vBH d n'=true:=by
 refine vH3 (H:=fun d n=>vBH d n=true) (nx:=fun c n=>c - 1) (fun c n k h hk=>?_) (fun c n i k h hi hk=>?_) hw p n n' d h h1 h2
 .have h0:n.kids.length≠0:=by have:=List.length_pos_of_mem hk; omega
  rw[zA2 h0]at h;simp only[rAQ,rBF]at h;exact h.2 k hk
 .have h0:n.kids.length≠0:=by omega
  have e1:(vB0 n i k).kids.length=n.kids.length:=rE1;rw[zA2 h0]at h;rw[zA2 zom];have e2:vBV (vB0 n i k)=vBV n:=by unfold vBV; simp only[e1]; rfl
  rw[e2];simp only[rAQ,rBF]at h ⊢;refine⟨h.1,fun y hy=>?_⟩;rcases rCU hy with hy | rfl
  .exact h.2 y hy
  .exact hk
theorem vY6{w x n n':NodeL}{p:List DecL}(h1:atF n p=some x)(h2:vCO w n p=some n'):n'.cnt+x.cnt=n.cnt+w.cnt:=by
 have g3:=vLV (f:=fun _=>1) (fun _ _ _=>rfl) p n n' x h1 h2;rw[<- vIE _ n' (rAL _),<- vIE _ n (rAL _),<- vIE _ w (rAL _),<- vIE _ x (rAL _)]at g3;exact g3
def wtF(n:NodeL):Nat:=1+(n.lemmas.map vCN).sum+n.proof.length
theorem zPP:∀ (k:Nat) (n:NodeL),SizeOf.sizeOf n<k->n.wt=n.tot wtF:=by
 intro k
 induction k with
 | zero=>intro n h; omega
 | succ k ih =>
   intro n h;rw[n.wt_eq,NodeL.tot_eq]
   congr 2
   exact rBH fun x hx=>ih x (by have:=NodeL.sizeOf_kid hx; omega)
theorem uLR{w x n n':NodeL}{p:List DecL}(h1:atF n p=some x)(h2:vCO w n p=some n'):n'.wt+x.wt=n.wt+w.wt:=by
 have g3:=vLV (f:=wtF) (fun _ _ _=>rfl) p n n' x h1 h2;rw[<- zPP _ n' (rAL _),<- zPP _ n (rAL _),<- zPP _ w (rAL _),<- zPP _ x (rAL _)]at g3;exact g3
theorem uLT:∀ (p:List DecL) (n x:NodeL),atF n p=some x->x.wt<=n.wt
 | [],n,x,h=>by simp only[atF,rBU]at h; subst h; exact rAO _
 | d :: p,n,x,h=>by
   simp only[atF]at h;cases hk:vBX n d with
   | none=>rw[hk]at h; cases h
   | some i =>
     rw[hk]at h;have h1:=uLT p _ x h;have h2:=vTR (zCT hk).1;omega
theorem vGU:∀ (f:Nat) (n:NodeL) (S:ScpL),n.cnt<f->(vCH S n).cnt<=n.cnt:=by
 intro f
 induction f with
 | zero=>intro n S h; omega
 | succ f ih =>
   intro n S hf;cases h:vB7 S n with
   | some i =>
     rw[zCE h];have h1:=zCI (p:=S.path.length) (zBG h).1;have h2:=ih _ S (by omega:(vBY n i S.path.length).cnt<f);omega
   | none =>
     rw[zCF h,NodeL.cnt_eq,NodeL.cnt_eq n];show 1+(((List.range n.kids.length).map fun i=>vCH (vDT S n i) n.kids[i]!).map NodeL.cnt).sum<=_
     have e:n.kids.map NodeL.cnt=(List.range n.kids.length).map fun i=>n.kids[i]!.cnt:=by
      refine rDA zsm fun i h1 h2=>?_
      simp only[rAM]at h1;rw[rDF,rDF,rDY,rAS n.kids i h1]
     rw[e,rB7]
     have:∀ l:List Nat,(∀ i∈l,i<n.kids.length)->(l.map (NodeL.cnt∘fun i=>vCH (vDT S n i) n.kids[i]!)).sum<=(l.map fun i=>n.kids[i]!.cnt).sum:=by
      intro l
      induction l with
      | nil=>intro _; exact rAO _
      | cons a l ihl =>
        intro hl;have ha:=hl a zsm;have h1:=zC3 ha;have h2:=ih n.kids[a]! (vDT S n a) zom;have h3:=ihl fun i hi=>hl i (rA8 _ hi)
        simp only[rBJ,List.sum_cons,Function.comp_apply];omega
     have:=this (List.range n.kids.length) fun i hi=>by simpa using hi
     omega
theorem zPZ:∀ (f:Nat) (n:NodeL) (S:ScpL),n.cnt<f->(vCH S n).wt<=n.wt:=by
 intro f
 induction f with
 | zero=>intro n S h; omega
 | succ f ih =>
   intro n S hf;cases h:vB7 S n with
   | some i =>
     rw[zCE h];have h1:=zCI (p:=S.path.length) (zBG h).1;have h3:=vGM (p:=S.path.length) (zBG h).1;have h2:=ih _ S (by omega:(vBY n i S.path.length).cnt<f);omega
   | none =>
     rw[zCF h,NodeL.wt_eq,n.wt_eq];show 1+(n.lemmas.map vCN).sum+n.proof.length+(((List.range n.kids.length).map fun i=>vCH (vDT S n i) n.kids[i]!).map NodeL.wt).sum<=_
     have e:n.kids.map NodeL.wt=(List.range n.kids.length).map fun i=>n.kids[i]!.wt:=by
      refine rDA zsm fun i h1 h2=>?_
      simp only[rAM]at h1;rw[rDF,rDF,rDY,rAS n.kids i h1]
     rw[e,rB7]
     have:∀ l:List Nat,(∀ i∈l,i<n.kids.length)->(l.map (NodeL.wt∘fun i=>vCH (vDT S n i) n.kids[i]!)).sum<=(l.map fun i=>n.kids[i]!.wt).sum:=by
      intro l
      induction l with
      | nil=>intro _; exact rAO _
      | cons a l ihl =>
        intro hl;have ha:=hl a zsm;have h1:=zC3 ha;have h2:=ih n.kids[a]! (vDT S n a) zom;have h3:=ihl fun i hi=>hl i (rA8 _ hi)
        simp only[rBJ,List.sum_cons,Function.comp_apply];omega
     have:=this (List.range n.kids.length) fun i hi=>by simpa using hi
     omega
theorem vOL:∀ (f:Nat) (n:NodeL) (S:ScpL) (d:Nat),n.cnt<f->vBH d n=true->vBH d (vCH S n)=true:=by
 intro f
 induction f with
 | zero=>intro n S d h; omega
 | succ f ih =>
   intro n S d hf hn;cases h:vB7 S n with
   | some i =>
     rw[zCE h];have hi:=(zBG h).1;have h1:=zCI (p:=S.path.length) hi;exact ih _ S d zom (zH1 hn hi)
   | none =>
     by_cases h0:n.kids.length=0
     .rw[zJT h0]; exact hn
     .rw[zCF h]
      have hl:(NodeL.mk n.lemmas n.split ((List.range n.kids.length).map fun i=>vCH (vDT S n i) n.kids[i]!) n.empty n.proof).kids.length=n.kids.length:=by
       show((List.range n.kids.length).map _).length=_
       simp
      have hn':=hn;rw[zA2 h0]at hn';rw[zA2 zom];simp only[rAQ,rBF]at hn' ⊢;refine⟨⟨?_,hn'.1.2⟩,fun y hy=>?_⟩
      .have:=hn'.1.1
       unfold vBV at this ⊢;rw[hl]; exact this
      .obtain⟨i,hi,rfl⟩:=rA5.1 (show y∈(List.range n.kids.length).map _ from hy)
       have hi':i<n.kids.length:=by simpa using hi
       have h1:=zC3 hi';exact ih _ _ _ zom (zKS hn hi')
theorem vUG:∀ (f:Nat) (n:NodeL) (S:ScpL),n.cnt<f->Tok n->Tok (vCH S n):=by
 intro f
 induction f with
 | zero=>intro n S h; omega
 | succ f ih =>
   intro n S hf hn;cases h:vB7 S n with
   | some i =>
     rw[zCE h];have hi:=(zBG h).1;have h1:=zCI (p:=S.path.length) hi;exact ih _ S zom (zND zom hi hn)
   | none =>
     rw[zCF h];refine .mk _ hn.lem hn.spl hn.prf (by show((List.range n.kids.length).map _).length<_; simpa using hn.kn) fun y hy=>?_
     obtain⟨i,hi,rfl⟩:=rA5.1 (show y∈(List.range n.kids.length).map _ from hy);have hi':i<n.kids.length:=by simpa using hi
     have h1:=zC3 hi';exact ih _ _ zom (hn.kid _ (get_mem hi'))
theorem vJF{P V v:Nat}:∀ (f:Nat) (n:NodeL) (S:ScpL) (c:Nat),n.cnt<f->NodeZ P V v c n->NodeZ P V v c (vCH S n):=by
 intro f
 induction f with
 | zero=>intro n S c h; omega
 | succ f ih =>
   intro n S c hf hn;cases h:vB7 S n with
   | some i =>
     rw[zCE h];have hi:=(zBG h).1;have h1:=zCI (p:=S.path.length) hi;exact ih _ S c zom (zII hi hn)
   | none =>
     rw[zCF h];refine .mk v c _ hn.val hn.num hn.lem hn.spl hn.prf fun y hy=>?_
     obtain⟨i,hi,rfl⟩:=rA5.1 (show y∈(List.range n.kids.length).map _ from hy);have hi':i<n.kids.length:=by simpa using hi
     have h1:=zC3 hi';exact ih _ _ _ zom (hn.kid _ (get_mem hi'))
theorem vRP{S:ScpL}{n m:NodeL}(h1:n.lemmas=m.lemmas)(h2:n.kids.length=m.kids.length)(h3:n.split=m.split)(h4:n.empty=m.empty)(h5:n.proof=m.proof):vDA S n↔vDA S m:=by
 unfold vDA;rw[h1,h2,h3,h4,h5]
theorem vXW{α:Type}(g:Nat->α):(List.range 2).map g=[g 0,g 1]:=rfl
theorem vJG:∀ (f:Nat) (n:NodeL) (S:ScpL) (d:Nat),n.cnt<f->vBH d n=true->vBE S n=none->vBE S (vCH S n)=none:=by
 intro f
 induction f with
 | zero=>intro n S d h; omega
 | succ f ih =>
   intro n S d hf hn hb;cases h:vB7 S n with
   | some i =>
     rw[zCE h];obtain⟨hi,hg⟩:=zBG h;have h1:=zCI (p:=S.path.length) hi;unfold vD4 at hg;simp only[rAQ,rGH]at hg;exact ih _ S d zom (zH1 hn hi) hg.2
   | none =>
     by_cases h0:n.kids.length=0
     .rw[zJT h0]; exact hb
     .obtain⟨e1,e2,f0,f1,_⟩:=zEL h0 hn
      obtain⟨b0,b1⟩:=vH1 h0 hn hb;have c0:=zC3 (n:=n) (i:=0) zom;have c1:=zC3 (n:=n) (i:=1) zom;have g0:=ih n.kids[0]! (vDT S n 0) (d - 1) zom f0 b0;have g1:=ih n.kids[1]! (vDT S n 1) (d - 1) zom f1 b1;rw[zCF h,e1,vXW];have hr:vDA S (.mk n.lemmas n.split [vCH (vDT S n 0) n.kids[0]!,vCH (vDT S n 1) n.kids[1]!] n.empty n.proof):=(vRP (n:=.mk n.lemmas n.split [vCH (vDT S n 0) n.kids[0]!,vCH (vDT S n 1) n.kids[1]!] n.empty n.proof) (m:=n) rfl (by rw[e1]; rfl) rfl rfl rfl).2 (zNG hb);rw[zCC hr rfl];have g0':vBE (vCX S (.mk n.lemmas n.split [vCH (vDT S n 0) n.kids[0]!,vCH (vDT S n 1) n.kids[1]!] n.empty n.proof) n.split) (vCH (vDT S n 0) n.kids[0]!)=none:=g0;have g1':vBE (vCX S (.mk n.lemmas n.split [vCH (vDT S n 0) n.kids[0]!,vCH (vDT S n 1) n.kids[1]!] n.empty n.proof) (vTN n.split)) (vCH (vDT S n 1) n.kids[1]!)=none:=g1;show(match vBE (vCX S _ n.split) _ with | some p=>some p | none=>vBE (vCX S _ (vTN n.split)) _)=none
      rw[g0'];exact g1'
structure AccT(q:QryL)(P V v:Nat)(n:NodeL):Prop where
 val:n.valid=true
 va:VaQ q
 bel:vBE ⟨q,[],[]⟩ n=none
 z:NodeZ P V v 1048576 n
 tok:Tok n
 wt:n.wt<=1048576
theorem zB1{n:NodeL}(h:n.valid=true):vBH 2048 n=true/\n.cnt<=65536:=by
 unfold NodeL.valid at h;simp only[rAQ,rAX]at h; exact h
theorem zE9{n:NodeL}(h1:vBH 2048 n=true)(h2:n.cnt<=65536):n.valid=true:=by
 unfold NodeL.valid;rw[h1]
 simpa using h2
theorem zNB{n x:NodeL}{p:List DecL}(h:n.valid=true)(h1:atF n p=some x):x.valid=true:=by
 obtain⟨_,h⟩:=zMU (H:=fun _ n=>n.valid=true) (nx:=fun c _=>c) (fun c n k h hk=>by
  obtain⟨g1,g2⟩:=zB1 h;obtain⟨i,hi,rfl⟩:=rBD hk;have e:=rAS n.kids i hi;rw[<- e];have:=zC3 hi
  exact zE9 (vKT _ _ _ _ (rAL _) zom (zKS g1 hi)) zom) p n 0 h h1
 exact h
theorem at_len:∀ (p:List DecL) (n x:NodeL) (d:Nat),vBH d n=true->atF n p=some x->p.length<=d
 | [],n,x,d,_,_=>rA9 _
 | e :: p,n,x,d,h,h1=>by
   simp only[atF]at h1;cases hk:vBX n e with
   | none=>rw[hk]at h1; cases h1
   | some i =>
     rw[hk]at h1;have hl:=(zCT hk).1;obtain⟨e1,e2,_⟩:=zEL zom h;have:=at_len p _ x (d - 1) (zKS h hl) h1;simp only[List.length_cons]; omega
theorem uAL{q:QryL}{P V v:Nat}{n x w n':NodeL}{p:List DecL}(h:AccT q P V v n)(h1:atF n p=some x)(h2:vCO w n p=some n')(hf:∀ d,vBH d x=true->vBH d w=true)(hc:w.cnt<=x.cnt)(hw:w.wt<=x.wt)(hz:∀ c,NodeZ P V v c x->NodeZ P V v c w)(ht:Tok x->Tok w)(hb:vBE (vCF ⟨q,[],[]⟩ n p) w=none):AccT q P V v n':=by
 obtain⟨g1,g2⟩:=zB1 h.val;have hc2:=vY6 h1 h2;exact⟨zE9 (vKS hf g1 h1 h2) zom,h.va,by rw[zLH p n _ 2048 n' g1 h.bel h2]; exact hb,zQF hz h.z h1 h2,vT5 ht h.tok h1 h2,by have:=uLR h1 h2; have:=h.wt; omega⟩
theorem zQK{q:QryL}{P V v:Nat}{n x:NodeL}{p:List DecL}{i:Nat}(h:AccT q P V v n)(h1:atF n p=some x)(hi:i<x.kids.length) :
 ∃ n',vCO (vBY x i p.length) n p=some n'/\vE9 (vBY x i p.length) n p=(n',0)/\n'.valid=true/\NodeZ P V v 1048576 n'/\Tok n'/\n'.cnt<n.cnt/\(vBY x i p.length).valid=true/\NodeZ P V v 1048576 (vBY x i p.length)/\Tok (vBY x i p.length) /\
   vCK q n'=(match vBE (vCF ⟨q,[],[]⟩ n p) (vBY x i p.length) with | none=>([],0) | some p=>(p,12)):=by
 obtain⟨g1,g2⟩:=zB1 h.val;obtain⟨n',hr⟩:=zNH (w:=vBY x i p.length) h1;have hxv:=zNB h.val h1;obtain⟨x1,x2⟩:=zB1 hxv;have hcl:=zCI (p:=p.length) hi;have hc2:=vY6 h1 hr;have hv':n'.valid=true:=zE9 (vKS (fun d hd=>zH1 hd hi) g1 h1 hr) zom;have hwv:(vBY x i p.length).valid=true:=zE9 (zH1 x1 hi) zom;obtain⟨_,hxt⟩:=zMU (H:=fun _ n=>Tok n) (nx:=fun c _=>c) (fun c n k h hk=>h.kid k hk) p n 0 h.tok h1;obtain⟨_,hxz⟩:=zMU (H:=fun _ n=>NodeZ P V v 1048576 n) (nx:=fun c _=>c) (fun c n k h hk=>(h.kid k hk).more _ _ _ _ (rAL _) zom) p n 0 h.z h1;refine⟨n',hr,?_,hv',zQF (fun c hc=>zII hi hc) h.z h1 hr,vT5 (fun ht=>zND zom hi ht) h.tok h1 hr,zom,hwv,zII hi hxz,zND zom hi hxt,?_⟩
 .unfold vE9
  rw[h.val,hwv,hr];simp[hv']
 .unfold vCK
  rw[rAV ⟨hv',h.va⟩,zLH p n _ 2048 n' g1 h.bel hr];cases vBE (vCF ⟨q,[],[]⟩ n p) (vBY x i p.length)<;>rfl
theorem vOR{q:QryL}{n x:NodeL}{p:List DecL}(h1:atF n p=some x):(vCF ⟨q,[],[]⟩ n p).path=p:=by
 rw[vOS p n _ x h1]; simp
theorem uFA{q:QryL}{P V v:Nat}{n x n':NodeL}{p:List DecL}{i:Nat}(h:AccT q P V v n)(h1:atF n p=some x)(hi:i<x.kids.length)(hr:vCO (vBY x i p.length) n p=some n')(hb:vBE (vCF ⟨q,[],[]⟩ n p) (vBY x i p.length)=none):AccT q P V v n':=by
 have hcl:=zCI (p:=p.length) hi;exact uAL h h1 hr (fun d hd=>zH1 hd hi) zom (rEF (vGM hi)) (fun c hc=>zII hi hc) (fun ht=>zND zom hi ht) hb
theorem vPS{n:NodeL}(hv:n.valid=true){i:Nat}(hi:i<n.kids.length):vBX n (vCD n i)=some i:=by
 obtain⟨g1,_⟩:=zB1 hv;obtain⟨e1,e2,_,_,k1,k4⟩:=zEL zom g1;have hne:=vV7 k1 k4;rcases rCZ i 1 with h | h
 .obtain rfl:i=0:=by omega
  exact zIJ zom rfl
 .obtain rfl:i=1:=by omega
  unfold vBX;have c1:vCD n 1=opp n.split:=rfl;have c0:vCD n 0=n.split:=rfl;rw[e1];have e0:¬ vCD n 0=vCD n 1:=by rw[c0,c1]; exact fun e=>hne e.symm
  simp[rE0,e0]
theorem uBT{q:QryL}{P V v:Nat}{n x:NodeL}{p:List DecL}(h:AccT q P V v n)(h1:atF n p=some x)(hk:x.kids.length=2)(hno:vB7 (vCF ⟨q,[],[]⟩ n p) x=none) :
 ∃ n1 n2,vCO (vCH (vCF ⟨q,[],[]⟩ n (p++[vCD x 0])) x.kids[0]!) n (p++[vCD x 0])=some n1/\AccT q P V v n1/\atF n (p++[vCD x 0])=some x.kids[0]! /\ atF n1 (p++[vCD x 1])=some x.kids[1]! /\
   vCO (vCH (vCF ⟨q,[],[]⟩ n1 (p++[vCD x 1])) x.kids[1]!) n1 (p++[vCD x 1])=some n2/\vCO (vCH (vCF ⟨q,[],[]⟩ n p) x) n p=some n2:=by
 have hxv:=zNB h.val h1;have hn0:=vPS hxv (i:=0) zom;have hn1:=vPS hxv (i:=1) zom;have a0:=uGU h1 hn0;have s0:=zJZ p n x ⟨q,[],[]⟩ _ _ h1 hn0;have s1:=zJZ p n x ⟨q,[],[]⟩ _ _ h1 hn1;obtain⟨S,hS⟩:∃ S,vCF ⟨q,[],[]⟩ n p=S:=⟨_,rfl⟩;obtain⟨k0,hk0⟩:∃ k,vCH (vDT S x 0) x.kids[0]! = k:=⟨_,rfl⟩;obtain⟨k1,hk1⟩:∃ k,vCH (vDT S x 1) x.kids[1]! = k:=⟨_,rfl⟩;rw[hS]at hno;rw[s0,hS];show ∃ n1 n2,vCO (vCH (vDT S x 0) x.kids[0]!) n _=some n1/\_
 rw[hk0];obtain⟨n1,hr1⟩:=zNH (w:=vB0 x 0 k0) h1;have hr1':vCO k0 n (p++[vCD x 0])=some n1:=vMD p _ n x _ n1 h1 (zNI hn0 rfl) hr1;obtain⟨x1,x2⟩:=zB1 hxv;have hb:=(vG0 p n ⟨q,[],[]⟩ 2048 x (zB1 h.val).1 h.bel ⟨h.va,fun d hd=>by cases hd⟩ h1).2.1;rw[hS]at hb;have hkb:=(vH1 zom x1 hb).1
 have acc1:AccT q P V v n1:=by
  refine uAL h a0 hr1' (fun d hd=>?_) ?_ ?_ (fun c hc=>?_) (fun ht=>?_) ?_
  .rw[<- hk0]; exact vOL _ _ _ _ (rAL _) hd
  .rw[<- hk0]; exact vGU _ _ _ (rAL _)
  .rw[<- hk0]; exact zPZ _ _ _ (rAL _)
  .rw[<- hk0]; exact vJF _ _ _ _ (rAL _) hc
  .rw[<- hk0]; exact vUG _ _ _ (rAL _) ht
  .rw[s0,hS,<- hk0]
   exact vJG _ _ _ _ (rAL _) (zKS x1 zom) hkb
 have a1:atF n1 p=some (vB0 x 0 k0):=uAC p n n1 hr1;have hn1':vBX (vB0 x 0 k0) (vCD x 1)=some 1:=by rw[zKG]; exact hn1
 have a2:=uGU a1 hn1';rw[uL8 zdd zom]at a2;have s2:=zJZ p n1 _ ⟨q,[],[]⟩ _ _ a1 hn1';rw[zN9 p n n1 _ hr1,hS]at s2;obtain⟨n2,hr2⟩:=zNH (w:=vB0 (vB0 x 0 k0) 1 k1) a1;have hr2':vCO k1 n1 (p++[vCD x 1])=some n2:=vMD p _ n1 _ _ n2 a1 (zNI hn1' rfl) hr2;refine⟨n1,n2,hr1',acc1,a0,a2,?_,?_⟩
 .rw[s2]
  show vCO (vCH (vDT S x 1) x.kids[1]!) n1 _=_
  rw[hk1]; exact hr2'
 .rw[zCF hno,hk,vXW,hk0,hk1,<- vMC p n n1 hr1]
  have e:vB0 (vB0 x 0 k0) 1 k1=.mk x.lemmas x.split [k0,k1] x.empty x.proof:=by
   show NodeL.mk _ _ ((x.kids.set 0 k0).set 1 k1) _ _=_
   have:=zG8 hk;generalize x.kids[0]! = a at *
   generalize x.kids[1]! = b at *
   rw[this]; rfl
  rw[<- e]; exact hr2
end Go.PI.Tryz
