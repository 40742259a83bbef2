/-
  Splits: plain. What is taken out leaves an accepted tree.
-/
import Derived.Test.YtbelmkceegmdjaaGreatDoorKSB
import Derived.Test.YtbelmkceegmdjaaGreatDoorKTN
set_option linter.unusedVariables false
set_option linter.unusedSimpArgs false
set_option linter.unnecessarySimpa false
set_option maxHeartbeats 0
namespace Go.PI.Tryz
open Go.Proofs Go.PI
def vCH:ScpL->NodeL->List DecL->ScpL
 | S,_,[]=>S
 | S,n,d::p=>match vB9 n d with
   | some i=>vCH (vCU S n d) n.kids[i]! p
   | none=>S
theorem zFT{S:ScpL}{n:NodeL}(h:vBE S n=none):vCJ S n:=by
 refine rCG fun hr=>?_
 rw[zDB hr]at h; cases h
theorem zD5{n:NodeL}{d:Nat}(h0:n.kids.length≠0)(hf:vBH d n=true):n.kids.length=2/\d≠0/\vBH (d - 1) n.kids[0]! = true/\vBH (d - 1) n.kids[1]! = true/\1<=n.split.kind/\n.split.kind<=4:=by
 have hfo:=hf;rw[zA1 h0]at hfo;simp only[rAO,rAY]at hfo;have h5:=hfo.1.1;unfold vBX at h5;obtain⟨e1,e2,e3,_⟩:=rCD h5;have hfk:=zCV e1 (d:=d);rw[hf]at hfk;have hfk:=hfk.symm;simp only[rAO]at hfk;exact⟨e1,hfo.1.2,hfk.2.1,hfk.2.2,e2,e3⟩
theorem vXS{n:NodeL}{d:Nat}{e:DecL}{i:Nat}(hf:vBH d n=true)(h:vB9 n e=some i):n.kids.length≠0/\((i=0/\e=n.split)\/(i=1/\e=opp n.split)):=by
 obtain⟨h1,h2⟩:=zDD h;have h0:n.kids.length≠0:=by omega
 refine⟨h0,?_⟩;obtain⟨e1,_⟩:=zD5 h0 hf;rcases rCP i 1 with hi | hi
 .obtain rfl:i=0:=by omega
  exact rAW ⟨rfl,by rw[<- h2]; rfl⟩
 .obtain rfl:i=1:=by omega
  exact rA0 ⟨rfl,by rw[<- h2]; rfl⟩
theorem set0{α:Type}{a b:α}(k:α):([a,b]:List α).set 0 k=[k,b]:=rfl
theorem set1{α:Type}{a b:α}(k:α):([a,b]:List α).set 1 k=[a,k]:=rfl
theorem zNZ{S:ScpL}{n:NodeL}{d:Nat}(h0:n.kids.length≠0)(hf:vBH d n=true)(hb:vBE S n=none):vBE (vCU S n n.split) n.kids[0]! = none/\vBE (vCU S n (opp n.split)) n.kids[1]! = none:=by
 obtain⟨e1,_⟩:=zD5 h0 hf;rw[zCC (zFT hb) (zG8 e1)]at hb;cases h1:vBE (vCU S n n.split) n.kids[0]! with
 | some p=>rw[h1]at hb; cases hb
 | none=>rw[h1]at hb; exact⟨rfl,hb⟩
theorem zK3{w:NodeL}:∀ (p:List DecL) (n:NodeL) (S:ScpL) (d:Nat) (n':NodeL),vBH d n=true->vBE S n=none->vCY w n p=some n'->vBE S n'=vBE (vCH S n p) w
 | [],n,S,d,n',_,_,h=>by
   simp only[vCY,rBS]at h;subst h; rfl
 | e :: p,n,S,d,n',hf,hb,h=>by
   simp only[vCY]at h;cases hk:vB9 n e with
   | none=>rw[hk]at h; cases h
   | some i =>
     rw[hk]at h;simp only[rBJ]at h;obtain⟨k',h1,h2⟩:=h;obtain⟨h0,hi⟩:=vXS hf hk;obtain⟨e1,e2,f0,f1,_⟩:=zD5 h0 hf;obtain⟨b0,b1⟩:=zNZ h0 hf hb;have hr:=zFT hb
     have hr':vCJ S n':=by
      rw[<- h2];refine⟨hr.1,?_⟩;have h3:=hr.2;rw[rAM h0]at h3;rw[rAM (show ¬ (vB2 n i k').kids.length=0 by show ¬ (n.kids.set i k').length=0; rw[rEW]; exact h0)];exact h3
     have hsc:vCH S n (e::p)=vCH (vCU S n e) n.kids[i]! p:=by simp only[vCH,hk]
     rw[hsc];rcases hi with⟨rfl,he⟩ | ⟨rfl,he⟩
     .have hkids:n'.kids=[k',n.kids[1]!]:=by
       rw[<- h2]; show n.kids.set 0 k'=_
       conv=>lhs; rw[zG8 e1]
       exact set0 k'
      have hs:n'.split=n.split:=by rw[<- h2]; rfl
      have hkS:∀ x,vCU S n' x=vCU S n x:=fun x=>by rw[<- h2]; rfl
      have ih:=zK3 p n.kids[0]! (vCU S n n.split) (d - 1) k' f0 b0 h1;rw[zCC hr' hkids,hs,hkS,hkS,ih,he];have e5:vBE (vCU S n (vTN n.split)) n.kids[1]! = none:=b1;rw[e5];cases vBE (vCH (vCU S n n.split) n.kids[0]! p) w<;>rfl
     .have hkids:n'.kids=[n.kids[0]!,k']:=by
       rw[<- h2]; show n.kids.set 1 k'=_
       conv=>lhs; rw[zG8 e1]
       exact set1 k'
      have hs:n'.split=n.split:=by rw[<- h2]; rfl
      have hkS:∀ x,vCU S n' x=vCU S n x:=fun x=>by rw[<- h2]; rfl
      have ih:=zK3 p n.kids[1]! (vCU S n (opp n.split)) (d - 1) k' f1 b1 h1;rw[zCC hr' hkids,hs,hkS,hkS,b0,he];exact ih
theorem vGT:∀ (p:List DecL) (n:NodeL) (S:ScpL) (d:Nat) (m:NodeL),vBH d n=true->vBE S n=none->vB6 S->atF n p=some m->vB6 (vCH S n p)/\vBE (vCH S n p) m=none/\(vCH S n p).q=S.q
 | [],n,S,d,m,_,hb,hS,h=>by
   simp only[atF,rBS]at h;subst h; exact⟨hS,hb,rfl⟩
 | e :: p,n,S,d,m,hf,hb,hS,h=>by
   simp only[atF]at h;cases hk:vB9 n e with
   | none=>rw[hk]at h; cases h
   | some i =>
     rw[hk]at h;obtain⟨h0,hi⟩:=vXS hf hk;obtain⟨e1,e2,f0,f1,_⟩:=zD5 h0 hf;obtain⟨b0,b1⟩:=zNZ h0 hf hb;have hfit:vFH S.q n.split:=by have:=(zFT hb).2; rw[rAM h0]at this; exact this
     have hsc:vCH S n (e::p)=vCH (vCU S n e) n.kids[i]! p:=by simp only[vCH,hk]
     rw[hsc];rcases hi with⟨rfl,rfl⟩ | ⟨rfl,rfl⟩
     .exact vGT p n.kids[0]! _ (d - 1) m f0 b0 (Go.PI.ok_kid hS hfit) h
     .exact vGT p n.kids[1]! _ (d - 1) m f1 b1 (Go.PI.ok_kid hS (vP1 hfit)) h
def vHU:NodeL->List DecL->List LemL
 | n,[]=>n.lemmas
 | n,d::p=>n.lemmas++(match vB9 n d with
   | some i=>vHU n.kids[i]! p
   | none=>[])
theorem vPN:∀ (p:List DecL) (n m:NodeL),atF n p=some m->m.lemmas.length<=(vHU n p).length
 | [],n,m,h=>by simp only[atF,rBS]at h; subst h; exact rAR _
 | e :: p,n,m,h=>by
   simp only[atF]at h;cases hk:vB9 n e with
   | none=>rw[hk]at h; cases h
   | some i =>
     rw[hk]at h;have:=vPN p _ m h;simp only[vHU,hk,rAV]; omega
theorem vN8:∀ (p:List DecL) (n:NodeL) (S:ScpL) (m:NodeL),atF n p=some m->vCH S n p=⟨S.q,S.path++p,S.lems++(vHU n p).take ((vHU n p).length - m.lemmas.length)⟩
 | [],n,S,m,h=>by
   simp only[atF,rBS]at h;subst h;simp[vCH,vHU]
 | e :: p,n,S,m,h=>by
   simp only[atF]at h;cases hk:vB9 n e with
   | none=>rw[hk]at h; cases h
   | some i =>
     rw[hk]at h;have h1:=vN8 p n.kids[i]! (vCU S n e) m h;have h2:=vPN p _ m h;simp only[vCH,vHU,hk];rw[h1];simp only[vCU,rBB,List.cons_append,List.nil_append,rAV];rw[List.take_append,rBR (l:=n.lemmas) zom,show n.lemmas.length+(vHU n.kids[i]! p).length - m.lemmas.length - n.lemmas.length=(vHU n.kids[i]! p).length - m.lemmas.length by omega]
theorem vKM:∀ (k:Nat) (n:NodeL) (d e:Nat),SizeOf.sizeOf n<k->d<=e->vBH d n=true->vBH e n=true:=by
 intro k
 induction k with
 | zero=>intro n d e h; omega
 | succ k ih =>
   intro n d e hk hde hf;by_cases h0:n.kids.length=0
   .rw[zBI h0]at hf ⊢; exact hf
   .obtain⟨e1,e2,f0,f1,k1,k4⟩:=zD5 h0 hf
    have s0:=NodeL.sizeOf_kid (get_mem (l:=n.kids) (show 0<n.kids.length by omega));have s1:=NodeL.sizeOf_kid (get_mem (l:=n.kids) (show 1<n.kids.length by omega));rw[zCV e1]at hf ⊢;simp only[rAO,rAY]at hf ⊢;exact⟨⟨hf.1.1,zom⟩,ih _ _ _ zom zom f0,ih _ _ _ zom zom f1⟩
theorem vH8:∀ (k:Nat) (n:NodeL),SizeOf.sizeOf n<k->n.cnt=n.tot fun _=>1:=by
 intro k
 induction k with
 | zero=>intro n h; omega
 | succ k ih =>
   intro n h;rw[NodeL.cnt_eq,NodeL.tot_eq]
   congr 2
   exact rBH fun x hx=>ih x (by have:=NodeL.sizeOf_kid hx; omega)
theorem vUU{α:Type}[Inhabited α](f:α->Nat):∀ (l:List α) (i:Nat) (x:α),i<l.length->((l.set i x).map f).sum+f l[i]! = (l.map f).sum+f x
 | a::l,0,x,_=>by
   simp only[List.set_cons_zero,rBM,List.sum_cons];have:(a::l)[0]! = a:=rfl;rw[this]; omega
 | a::l,i+1,x,h=>by
   have:=vUU f l i x (by simpa using h);simp only[List.set_cons_succ,rBM,List.sum_cons]
   have e:(a::l)[i+1]! = l[i]! := by
    rw[rAT (a::l) (i+1) h,rAT l i (by simpa using h)]; rfl
   rw[e]; omega
theorem vLP{w:NodeL}{f:NodeL->Nat}(hf:∀ x i k,f (vB2 x i k)=f x):∀ (p:List DecL) (n n' m:NodeL),atF n p=some m->vCY w n p=some n'->n'.tot f+m.tot f=n.tot f+w.tot f
 | [],n,n',m,hm,h=>by
   simp only[vCY,rBS]at h;simp only[atF,rBS]at hm;subst h hm; omega
 | x :: p,n,n',m,hm,h=>by
   simp only[vCY]at h;simp only[atF]at hm;cases hk:vB9 n x with
   | none=>rw[hk]at h; cases h
   | some i =>
     rw[hk]at h hm;simp only[rBJ]at h;obtain⟨k',h1,h2⟩:=h;have ih:=vLP hf p _ k' m hm h1;have hl:=(zDD hk).1;rw[<- h2,NodeL.tot_eq f (vB2 n i k'),hf,NodeL.tot_eq f n];have:=vUU (NodeL.tot f) n.kids i k' hl;show f n+((n.kids.set i k').map (NodeL.tot f)).sum+_=_
     omega
theorem NodeZ.more{P V v:Nat}:∀ (k:Nat) (n:NodeL) (c c':Nat),SizeOf.sizeOf n<k->c<=c'->NodeZ P V v c n->NodeZ P V v c' n:=by
 intro k
 induction k with
 | zero=>intro n c c' h; omega
 | succ k ih =>
   intro n c c' hk hc h;exact .mk v c' n h.val (by have:=h.num; omega) h.lem h.spl h.prf fun x hx=>ih x _ _ (by have:=NodeL.sizeOf_kid hx; omega) zom (h.kid x hx)
theorem zMV{w n m:NodeL}{p:List DecL}(h:atF n p=some m):∃ n',vCY w n p=some n':=by
 have:=vZ9 w p n;rw[h]at this;cases hr:vCY w n p with
 | some n'=>exact⟨n',rfl⟩
 | none=>rw[hr]at this; cases this
theorem uKH(f:RowL->RowL):∀ (k:Nat) (n:NodeL),SizeOf.sizeOf n<k->(vCO f n).cnt=n.cnt:=by
 intro k
 induction k with
 | zero=>intro n h; omega
 | succ k ih =>
   intro n h;rw[NodeL.cnt_eq,NodeL.cnt_eq n,zEV];show 1+((n.kids.map (vCO f)).map NodeL.cnt).sum=_
   rw[rCQ]
   congr 2
   exact rBH fun x hx=>ih x (by have:=NodeL.sizeOf_kid hx; omega)
theorem zIM(f:RowL->RowL)(n:NodeL):(vCO f n).kids=n.kids.map (vCO f):=by rw[zEV]; rfl
theorem zG4(f:RowL->RowL)(n:NodeL):(vCO f n).lemmas=n.lemmas.map (vC1 f):=by rw[zEV]; rfl
theorem zKS(f:RowL->RowL)(n:NodeL):(vCO f n).split=n.split:=by rw[zEV]; rfl
theorem vY4(f:RowL->RowL)(n:NodeL):(vCO f n).empty=n.empty:=by rw[zEV]; rfl
theorem zKT(f:RowL->RowL)(n:NodeL):(vCO f n).proof=vBL f n.proof:=by rw[zEV]; rfl
theorem uEC(f:RowL->RowL):∀ (k:Nat) (n:NodeL) (d:Nat),SizeOf.sizeOf n<k->vBH d (vCO f n)=vBH d n:=by
 intro k
 induction k with
 | zero=>intro n d h; omega
 | succ k ih =>
   intro n d h;have hl:(vCO f n).kids.length=n.kids.length:=by rw[zIM,rAN]
   by_cases h0:n.kids.length=0
   .rw[zBI h0,zBI zom]; unfold vED; rw[zKS]
   .rw[zA1 h0,zA1 zom]
    congr 1
    .congr 1
     unfold vBX;rw[hl,zKS,vY4,zKT];simp[vBL]
    .rw[zIM,List.all_map,rA1,rBG,rBG]
     have e:∀ x∈n.kids,vBH (d - 1) (vCO f x)=vBH (d - 1) x:=fun x hx=>ih x _ (by have:=NodeL.sizeOf_kid hx; omega)
     exact⟨fun g x hx=>by have:=g x hx; rw[<- e x hx]; exact this,fun g x hx=>by have:=g x hx; rw[<- e x hx]at this; exact this⟩
theorem vYO{n m:NodeL}(h1:n.kids=m.kids)(h2:n.split=m.split)(h3:n.empty=m.empty)(h4:n.proof.length=m.proof.length)(d:Nat):vBH d n=vBH d m:=by
 by_cases h0:n.kids.length=0
 .rw[zBI h0,zBI (by rw[<- h1]; exact h0)]; unfold vED; rw[h2]
 .rw[zA1 h0,zA1 (by rw[<- h1]; exact h0)]
  unfold vBX;rw[h1,h2,h3,h4]
theorem zIJ{n:NodeL}{d i:Nat}(hf:vBH d n=true)(hi:i<n.kids.length):vBH (d - 1) n.kids[i]! = true:=by
 rw[zA1 zom]at hf;simp only[rAO,rBG]at hf;exact hf.2 _ (get_mem hi)
theorem zGP{n:NodeL}{d i:Nat}{p:Int}(hf:vBH d n=true)(hi:i<n.kids.length):vBH d (vBZ n i p)=true:=by
 rw[vYO (n:=vBZ n i p) (m:=vCO (vCM (-1) p) n.kids[i]!) rfl rfl rfl rfl,uEC _ _ _ _ (rAL _)];exact vKM _ _ _ _ (rAL _) zom (zIJ hf hi)
theorem uEK{n m:NodeL}(h1:n.kids=m.kids):n.cnt=m.cnt:=by rw[NodeL.cnt_eq,NodeL.cnt_eq m,h1]
theorem zDU{n:NodeL}{i:Nat}(hi:i<n.kids.length):n.kids[i]!.cnt<n.cnt:=by
 rw[NodeL.cnt_eq n];have:=zF0 (f:=NodeL.cnt) (get_mem hi);omega
theorem zDF{n:NodeL}{i:Nat}{p:Int}(hi:i<n.kids.length):(vBZ n i p).cnt<n.cnt:=by
 rw[uEK (n:=vBZ n i p) (m:=vCO (vCM (-1) p) n.kids[i]!) rfl,uKH _ _ _ (rAL _)];exact zDU hi
theorem uLW(f:RowL->RowL):∀ (k:Nat) (n:NodeL),SizeOf.sizeOf n<k->(vCO f n).wt=n.wt:=by
 intro k
 induction k with
 | zero=>intro n h; omega
 | succ k ih =>
   intro n h;rw[NodeL.wt_eq,n.wt_eq,zIM,zG4,zKT,rCQ,rCQ];have e1:n.kids.map (NodeL.wt∘vCO f)=n.kids.map NodeL.wt:=rBH fun x hx=>ih x (by have:=NodeL.sizeOf_kid hx; omega)
   have e2:n.lemmas.map (vCD∘vC1 f)=n.lemmas.map vCD:=rBH fun x hx=>by simp[vCD,vC1,vBL]
   rw[e1,e2];simp[vBL]
theorem vTR{n:NodeL}{i:Nat}(hi:i<n.kids.length):1+(n.lemmas.map vCD).sum+n.kids[i]!.wt<=n.wt:=by
 rw[n.wt_eq];have:=zF0 (f:=NodeL.wt) (get_mem hi);omega
theorem vLH{n:NodeL}{i:Nat}{p:Int}(hi:i<n.kids.length):(vBZ n i p).wt<n.wt:=by
 have h1:=vTR hi;have h2:=uLW (vCM (-1) p) _ n.kids[i]! (rAL _);rw[NodeL.wt_eq]at h2
 have h3:(vBZ n i p).wt=1+((n.lemmas++(vCO (vCM (-1) p) n.kids[i]!).lemmas).map vCD).sum+(vCO (vCM (-1) p) n.kids[i]!).proof.length+((vCO (vCM (-1) p) n.kids[i]!).kids.map NodeL.wt).sum:=by
  rw[NodeL.wt_eq]; rfl
 rw[rBE,rED]at h3;omega
def vD2(S:ScpL)(n:NodeL)(i:Nat):ScpL:=vCU S n (vC6 n i)
noncomputable def vDI(S:ScpL)(n:NodeL)(i:Nat):Bool:=!onN n.kids[i]! S.path.length && (vBE S (vBZ n i S.path.length)).isNone
noncomputable def vCL(S:ScpL)(n:NodeL):Option Nat:=(List.range n.kids.length).find? (vDI S n)
theorem zB3{S:ScpL}{n:NodeL}{i:Nat}(h:vCL S n=some i):i<n.kids.length/\vDI S n i=true:=by
 unfold vCL at h;have h1:=rGF h;have h2:=List.find?_some h;simp at h1;exact⟨h1,h2⟩
theorem zKI{S:ScpL}{n:NodeL}{i:Nat}(hi:i<n.kids.length)(h:vDI S n i=true)(hb:∀ j,j<i->vDI S n j=false):vCL S n=some i:=by
 unfold vCL;rw[List.find?_eq_some_iff_getElem];refine⟨h,i,by simpa using hi,zsm,fun j hj=>?_⟩;simp only[rE4];rw[hb j hj]; rfl
theorem zJA{S:ScpL}{n:NodeL}(hb:∀ j,j<n.kids.length->vDI S n j=false):vCL S n=none:=by
 unfold vCL;rw[List.find?_eq_none];intro j hj;simp at hj;rw[hb j hj]; simp
noncomputable def uHA:Nat->ScpL->NodeL->NodeL
 | 0,_,n=>n
 | f+1,S,n=>match vCL S n with
   | some i=>uHA f S (vBZ n i S.path.length)
   | none=>.mk n.lemmas n.split ((List.range n.kids.length).map fun i=>uHA f (vD2 S n i) n.kids[i]!) n.empty n.proof
noncomputable def vCS(S:ScpL)(n:NodeL):NodeL:=uHA n.cnt S n
theorem zJL:∀ (f g:Nat) (S:ScpL) (n:NodeL),n.cnt<=f->n.cnt<=g->uHA f S n=uHA g S n
 | 0,g,S,n,h,_=>by have:=zF5 n; omega
 | f+1,0,S,n,_,h=>by have:=zF5 n; omega
 | f + 1,g+1,S,n,hf,hg=>by
   unfold uHA;cases h:vCL S n with
   | some i =>
     have:=zDF (p:=S.path.length) (zB3 h).1;exact zJL f g _ _ zom zom
   | none =>
     dsimp only
     congr 1
     refine rBH fun i hi=>?_
     simp at hi;have:=zDU hi;exact zJL f g _ _ zom zom
theorem vUI(S:ScpL)(n:NodeL):vCS S n=match vCL S n with
 | some i=>vCS S (vBZ n i S.path.length)
 | none=>.mk n.lemmas n.split ((List.range n.kids.length).map fun i=>vCS (vD2 S n i) n.kids[i]!) n.empty n.proof:=by
 unfold vCS;have hc:=zF5 n;obtain⟨m,hm⟩:∃ m,n.cnt=m+1:=⟨n.cnt - 1,zom⟩;rw[hm]
 conv=>lhs; unfold uHA
 cases h:vCL S n with
 | some i =>
   have:=zDF (p:=S.path.length) (zB3 h).1;exact zJL _ _ _ _ zom (rAR _)
 | none =>
   dsimp only
   congr 1
   refine rBH fun i hi=>?_
   simp at hi;have:=zDU hi;exact zJL _ _ _ _ zom (rAR _)
theorem zC4{S:ScpL}{n:NodeL}{i:Nat}(h:vCL S n=some i):vCS S n=vCS S (vBZ n i S.path.length):=by
 rw[vUI,h]
theorem zDJ{S:ScpL}{n:NodeL}(h:vCL S n=none):vCS S n=.mk n.lemmas n.split ((List.range n.kids.length).map fun i=>vCS (vD2 S n i) n.kids[i]!) n.empty n.proof:=by
 rw[vUI,h]
theorem zE8{S:ScpL}{n:NodeL}(h:n.kids.length=0):vCS S n=n:=by
 rw[zDJ (zJA fun j hj=>by omega),h];have:n.kids=[]:=rAZ.1 h;cases n
 simp_all [NodeL.lemmas,NodeL.split,NodeL.kids,NodeL.empty,NodeL.proof]
inductive Tok:NodeL->Prop
 | mk (n:NodeL) (h1:∀ m∈n.lemmas,m.value.sm/\vCX m.proof/\vCK m.proof) (h2:n.split.sm) (h3:vCX n.proof/\vCK n.proof) (h4:n.kids.length<2097152) (h5:∀ k∈n.kids,Tok k):Tok n
theorem Tok.lem{n:NodeL}(h:Tok n):∀ m∈n.lemmas,m.value.sm/\vCX m.proof/\vCK m.proof:=by cases h; assumption
theorem Tok.spl{n:NodeL}(h:Tok n):n.split.sm:=by cases h; assumption
theorem Tok.prf{n:NodeL}(h:Tok n):vCX n.proof/\vCK n.proof:=by cases h; assumption
theorem Tok.kn{n:NodeL}(h:Tok n):n.kids.length<2097152:=by cases h; assumption
theorem Tok.kid{n:NodeL}(h:Tok n):∀ k∈n.kids,Tok k:=by cases h; assumption
theorem zL3{P V v:Nat}:∀ (k:Nat) (n:NodeL) (c:Nat),SizeOf.sizeOf n<k->c<=1048576->NodeZ P V v c n->Tok n->n.Sm/\NodeRg n:=by
 intro k
 induction k with
 | zero=>intro n c h; omega
 | succ k ih =>
   intro n c hk hc hz ht;have hl:=hz.num;have hkid:=fun x hx=>ih x _ (by have:=NodeL.sizeOf_kid hx; omega) zom (hz.kid x hx) (ht.kid x hx)
   exact⟨.mk n ⟨zom,fun m hm=>⟨(ht.lem m hm).1,(ht.lem m hm).2.2⟩⟩ ht.spl ht.kn (fun x hx=>(hkid x hx).1) ht.prf.2,
    .mk n zom (fun m hm=>(ht.lem m hm).2.1) ht.prf.1 ht.kn (fun x hx=>(hkid x hx).2)⟩
theorem uFL:∀ (k:Nat) (n:NodeL),SizeOf.sizeOf n<k->n.Sm->NodeRg n->Tok n:=by
 intro k
 induction k with
 | zero=>intro n h; omega
 | succ k ih =>
   intro n hk hs hr;exact .mk n (fun m hm=>⟨(hs.lems.2 m hm).1,hr.lem m hm,(hs.lems.2 m hm).2⟩) hs.dec ⟨hr.prf,hs.prf⟩ hr.kn fun x hx=>ih x (by have:=NodeL.sizeOf_kid hx; omega) (hs.kid hx) (hr.kid x hx)
theorem vOE{p:Int}(h0:0<=p){l:List MultL}(h:vCX l/\vCK l):vCX (vBL (vCM (-1) p) l)/\vCK (vBL (vCM (-1) p) l):=by
 obtain⟨⟨h1,h2⟩,h3,h4⟩:=h;refine⟨⟨by simpa [vBL]using h1,fun m hm=>?_⟩,by simpa [vBL]using h3,fun m hm=>?_⟩
 .obtain⟨x,hx,rfl⟩:=rA5.1 hm
  obtain⟨g1,g2,g3⟩:=h2 x hx;refine⟨g1,?_⟩;show -9223372036854775808<=(if 0<=p/\x.row.kind=4 then vDP x.row.index p else x.row.index)/\(if 0<=p/\x.row.kind=4 then vDP x.row.index p else x.row.index)<9223372036854775808
  unfold vDP
  split
  .split<;>omega
  .omega
 .obtain⟨x,hx,rfl⟩:=rA5.1 hm
  exact h4 x hx
theorem uG8{p:Int}(h0:0<=p):∀ (k:Nat) (n:NodeL),SizeOf.sizeOf n<k->Tok n->Tok (vCO (vCM (-1) p) n):=by
 intro k
 induction k with
 | zero=>intro n h; omega
 | succ k ih =>
   intro n hk h;refine .mk _ (fun m hm=>?_) (by rw[zKS]; exact h.spl) (by rw[zKT]; exact vOE h0 h.prf) (by rw[zIM,rAN]; exact h.kn) fun x hx=>?_
   .rw[zG4]at hm
    obtain⟨y,hy,rfl⟩:=rA5.1 hm;exact⟨(h.lem y hy).1,vOE h0 (h.lem y hy).2⟩
   .rw[zIM]at hx
    obtain⟨y,hy,rfl⟩:=rA5.1 hx;exact ih y (by have:=NodeL.sizeOf_kid hy; omega) (h.kid y hy)
theorem zJK{n:NodeL}{i:Nat}{p:Int}(h0:0<=p)(hi:i<n.kids.length)(h:Tok n):Tok (vBZ n i p):=by
 have hk:=uG8 h0 _ _ (rAL _) (h.kid _ (get_mem hi));refine .mk _ (fun m hm=>?_) hk.spl hk.prf hk.kn hk.kid;rcases rAX.1 hm with hm | hm
 .exact h.lem m hm
 .exact hk.lem m hm
theorem zM7{P V:Nat}{f:RowL->RowL}{l:List MultL}(h:vKY P V l):vKY P V (vBL f l):=by
 obtain⟨⟨h1,h2⟩,h3⟩:=h;have e1:(vBL f l).length=l.length:=by simp[vBL]
 have e2:vEM (vBL f l)=vEM l:=by unfold vEM vBL; rw[rCQ]; rfl
 refine⟨⟨zom,fun m hm=>?_⟩,by rw[e1,e2]; exact h3⟩;obtain⟨x,hx,rfl⟩:=rA5.1 hm;exact h2 x hx
theorem vXR{f:RowL->RowL}{P V v:Nat}:∀ (k:Nat) (n:NodeL) (c:Nat),SizeOf.sizeOf n<k->NodeZ P V v c n->NodeZ P V v c (vCO f n):=by
 intro k
 induction k with
 | zero=>intro n c h; omega
 | succ k ih =>
   intro n c hk h;refine .mk v c _ (fun m hm=>?_) (by rw[zG4,rAN]; exact h.num) (fun m hm=>?_) (by rw[zKS]; exact h.spl) (by rw[zKT]; exact zM7 h.prf) fun x hx=>?_
   .rw[zG4]at hm
    obtain⟨y,hy,rfl⟩:=rA5.1 hm;exact h.val y hy
   .rw[zG4]at hm
    obtain⟨y,hy,rfl⟩:=rA5.1 hm;exact⟨(h.lem y hy).1,zM7 (h.lem y hy).2⟩
   .rw[zIM]at hx
    obtain⟨y,hy,rfl⟩:=rA5.1 hx;rw[zG4,rAN];exact ih y _ (by have:=NodeL.sizeOf_kid hy; omega) (h.kid y hy)
theorem zGK{n:NodeL}{i:Nat}{p:Int}{P V v c:Nat}(hi:i<n.kids.length)(h:NodeZ P V v c n):NodeZ P V v c (vBZ n i p):=by
 have hk:=vXR (f:=vCM (-1) p) _ _ _ (rAL _) (h.kid _ (get_mem hi));have h1:=h.num;have h2:=hk.num;have el:(vBZ n i p).lemmas.length=n.lemmas.length+(vCO (vCM (-1) p) n.kids[i]!).lemmas.length:=rAV;refine .mk v c _ (fun m hm=>?_) zom (fun m hm=>?_) hk.spl hk.prf fun x hx=>?_
 .rcases rAX.1 hm with hm | hm
  .exact h.val m hm
  .exact hk.val m hm
 .rcases rAX.1 hm with hm | hm
  .exact h.lem m hm
  .exact hk.lem m hm
 .have:=hk.kid x hx
  rw[el,<- Nat.sub_sub];exact this
theorem uAA:∀ (p q:List DecL) (n:NodeL),atF n (p++q)=(atF n p).bind fun m=>atF m q
 | [],q,n=>by simp[atF]
 | d::p,q,n=>by
   simp only[List.cons_append,atF];cases vB9 n d with
   | none=>rfl
   | some i=>exact uAA p q _
theorem zJ7(n:NodeL)(i:Nat)(k:NodeL)(d:DecL):vB9 (vB2 n i k) d=vB9 n d:=by
 unfold vB9;have e1:(vB2 n i k).kids.length=n.kids.length:=rEW;have e2:∀ j,vC6 (vB2 n i k) j=vC6 n j:=fun j=>rfl
 simp only[e1,e2]
theorem vUV{n:NodeL}{i:Nat}{k:NodeL}(h:i<n.kids.length):(vB2 n i k).kids[i]! = k:=by
 show(n.kids.set i k)[i]! = k
 rw[rAT _ i (by simpa using h)]
 simp
theorem uMA{n:NodeL}{i j:Nat}{k:NodeL}(hne:i≠j)(h:j<n.kids.length):(vB2 n i k).kids[j]! = n.kids[j]! := by
 show(n.kids.set i k)[j]! = _
 rw[rAT _ j (by simpa using h),rAT _ j h,List.getElem_set_ne hne]
theorem set_set{n:NodeL}{i:Nat}{k k':NodeL}:vB2 (vB2 n i k) i k'=vB2 n i k':=by
 show NodeL.mk _ _ ((n.kids.set i k).set i k') _ _=NodeL.mk _ _ (n.kids.set i k') _ _
 rw[List.set_set]; rfl
theorem zJT{w n n':NodeL}{d:DecL}{p:List DecL}(h:vCY w n (d::p)=some n'):∃ i k',vB9 n d=some i/\vCY w n.kids[i]! p=some k'/\n'=vB2 n i k':=by
 simp only[vCY]at h;cases hk:vB9 n d with
 | none=>rw[hk]at h; cases h
 | some i =>
   rw[hk]at h;simp only[rBJ]at h;obtain⟨k',h1,h2⟩:=h;exact⟨i,k',rfl,h1,h2.symm⟩
theorem zMW{w n k':NodeL}{d:DecL}{p:List DecL}{i:Nat}(hk:vB9 n d=some i)(h:vCY w n.kids[i]! p=some k'):vCY w n (d::p)=some (vB2 n i k'):=by
 simp only[vCY,hk,h,Option.map_some]
theorem vL4{v w:NodeL}:∀ (p:List DecL) (n n':NodeL),vCY v n p=some n'->vCY w n' p=vCY w n p
 | [],n,n',h=>rfl
 | d :: p,n,n',h=>by
   obtain⟨i,k',h1,h2,rfl⟩:=zJT h;have hl:=(zDD h1).1;simp only[vCY,zJ7,h1];rw[vUV hl,vL4 p _ _ h2];cases vCY w n.kids[i]! p with
   | none=>rfl
   | some k2 =>
     simp only[Option.map_some];rw[set_set]
theorem vZ8{w:NodeL}:∀ (p:List DecL) (n n':NodeL),vCY w n p=some n'->atF n' p=some w
 | [],n,n',h=>by simp only[vCY,rBS]at h; subst h; rfl
 | d::p,n,n',h=>by
   obtain⟨i,k',h1,h2,rfl⟩:=zJT h;simp only[atF,zJ7,h1];rw[vUV (zDD h1).1];exact vZ8 p _ _ h2
theorem vOL:∀ (p:List DecL) (n m:NodeL),atF n p=some m->vCY m n p=some n
 | [],n,m,h=>by simp only[atF,rBS]at h; subst h; rfl
 | d :: p,n,m,h=>by
   simp only[atF]at h;cases hk:vB9 n d with
   | none=>rw[hk]at h; cases h
   | some i =>
     rw[hk]at h;have ih:=vOL p _ m h;have hl:=(zDD hk).1;rw[zMW hk ih]
     congr 1
     unfold vB2
     have:n.kids.set i n.kids[i]! = n.kids:=by
      rw[rAT n.kids i hl]; exact List.set_getElem_self hl
     rw[this];cases n; rfl
theorem vL5{w:NodeL}:∀ (p q:List DecL) (n m m' n':NodeL),atF n p=some m->vCY w m q=some m'->vCY m' n p=some n'->vCY w n (p++q)=some n'
 | [],q,n,m,m',n',h1,h2,h3=>by
   simp only[atF,rBS]at h1;simp only[vCY,rBS]at h3;subst h1 h3; exact h2
 | d::p,q,n,m,m',n',h1,h2,h3=>by
   obtain⟨i,k',g1,g2,rfl⟩:=zJT h3;simp only[atF,g1]at h1;rw[List.cons_append];exact zMW g1 (vL5 p q _ m m' k' h1 h2 g2)
theorem zNL{w:NodeL}:∀ (p:List DecL) (n n':NodeL) (S:ScpL),vCY w n p=some n'->vCH S n' p=vCH S n p
 | [],n,n',S,h=>rfl
 | d::p,n,n',S,h=>by
   obtain⟨i,k',h1,h2,rfl⟩:=zJT h;simp only[vCH,zJ7,h1];rw[vUV (zDD h1).1];exact zNL p _ _ _ h2
theorem zJQ:∀ (p:List DecL) (n m:NodeL) (S:ScpL) (d:DecL) (i:Nat),atF n p=some m->vB9 m d=some i->vCH S n (p++[d])=vCU (vCH S n p) m d
 | [],n,m,S,d,i,h,hn=>by
   simp only[atF,rBS]at h;subst h;simp only[List.nil_append,vCH,hn]
 | e :: p,n,m,S,d,i,h,hn=>by
   simp only[atF]at h;cases hk:vB9 n e with
   | none=>rw[hk]at h; cases h
   | some j =>
     rw[hk]at h;simp only[List.cons_append,vCH,hk];exact zJQ p _ m _ d i h hn
theorem uGY{n m:NodeL}{p:List DecL}{d:DecL}{i:Nat}(h:atF n p=some m)(hn:vB9 m d=some i):atF n (p++[d])=some m.kids[i]! := by
 rw[uAA,h];simp only[Option.bind_some,atF,hn]
theorem vHX{H:Nat->NodeL->Prop}{nx:Nat->NodeL->Nat}(hk:∀ c n k,H c n->k∈n.kids->H (nx c n) k)(hs:∀ c n i k,H c n->i<n.kids.length->H (nx c n) k->H c (vB2 n i k)){w x:NodeL}(hw:∀ c,H c x->H c w) :
 ∀ (p:List DecL) (n n':NodeL) (c:Nat),H c n->atF n p=some x->vCY w n p=some n'->H c n'
 | [],n,n',c,h,h1,h2=>by
   simp only[atF,rBS]at h1;simp only[vCY,rBS]at h2;subst h1 h2; exact hw c h
 | d::p,n,n',c,h,h1,h2=>by
   obtain⟨i,k',g1,g2,rfl⟩:=zJT h2;simp only[atF,g1]at h1;have hl:=(zDD g1).1;exact hs c n i k' h hl (vHX hk hs hw p _ k' _ (hk c n _ h (get_mem hl)) h1 g2)
theorem zPU{H:Nat->NodeL->Prop}{nx:Nat->NodeL->Nat}(hk:∀ c n k,H c n->k∈n.kids->H (nx c n) k){x:NodeL}:∀ (p:List DecL) (n:NodeL) (c:Nat),H c n->atF n p=some x->∃ c',H c' x
 | [],n,c,h,h1=>by simp only[atF,rBS]at h1; subst h1; exact⟨c,h⟩
 | d :: p,n,c,h,h1=>by
   simp only[atF]at h1;cases hn:vB9 n d with
   | none=>rw[hn]at h1; cases h1
   | some i =>
     rw[hn]at h1;exact zPU hk p _ _ (hk c n _ h (get_mem (zDD hn).1)) h1
theorem zPL{w x n n':NodeL}{p:List DecL}{P V v c:Nat}(hw:∀ c,NodeZ P V v c x->NodeZ P V v c w)(h:NodeZ P V v c n)(h1:atF n p=some x)(h2:vCY w n p=some n'):NodeZ P V v c n':=by
 refine vHX (H:=fun c n=>NodeZ P V v c n) (nx:=fun c n=>c - n.lemmas.length) (fun c n k h hk=>h.kid k hk) (fun c n i k h hi hk=>?_) hw p n n' c h h1 h2;refine .mk v c _ h.val h.num h.lem h.spl h.prf fun y hy=>?_
 rcases rCU hy with hy | rfl
 .exact h.kid y hy
 .exact hk
theorem vT5{w x n n':NodeL}{p:List DecL}(hw:Tok x->Tok w)(h:Tok n)(h1:atF n p=some x)(h2:vCY w n p=some n'):Tok n':=by
 refine vHX (H:=fun _ n=>Tok n) (nx:=fun c n=>c) (fun c n k h hk=>h.kid k hk) (fun c n i k h hi hk=>?_) (fun _=>hw) p n n' 0 h h1 h2;refine .mk _ h.lem h.spl h.prf (by show(n.kids.set i k).length<_; rw[rEW]; exact h.kn) fun y hy=>?_
 rcases rCU hy with hy | rfl
 .exact h.kid y hy
 .exact hk
theorem vKL{w x n n':NodeL}{p:List DecL}{d:Nat}(hw:∀ d,vBH d x=true->vBH d w=true)(h:vBH d n=true)(h1:atF n p=some x)(h2:vCY w n p=some n'):vBH d n'=true:=by
 refine vHX (H:=fun d n=>vBH d n=true) (nx:=fun c n=>c - 1) (fun c n k h hk=>?_) (fun c n i k h hi hk=>?_) hw p n n' d h h1 h2
 .have h0:n.kids.length≠0:=by have:=List.length_pos_of_mem hk; omega
  rw[zA1 h0]at h;simp only[rAO,rBG]at h;exact h.2 k hk
 .have h0:n.kids.length≠0:=by omega
  have e1:(vB2 n i k).kids.length=n.kids.length:=rEW;rw[zA1 h0]at h;rw[zA1 zom];have e2:vBX (vB2 n i k)=vBX n:=by unfold vBX; simp only[e1]; rfl
  rw[e2];simp only[rAO,rBG]at h ⊢;refine⟨h.1,fun y hy=>?_⟩;rcases rCU hy with hy | rfl
  .exact h.2 y hy
  .exact hk
theorem vY0{w x n n':NodeL}{p:List DecL}(h1:atF n p=some x)(h2:vCY w n p=some n'):n'.cnt+x.cnt=n.cnt+w.cnt:=by
 have g3:=vLP (f:=fun _=>1) (fun _ _ _=>rfl) p n n' x h1 h2;rw[<- vH8 _ n' (rAL _),<- vH8 _ n (rAL _),<- vH8 _ w (rAL _),<- vH8 _ x (rAL _)]at g3;exact g3
def wtF(n:NodeL):Nat:=1+(n.lemmas.map vCD).sum+n.proof.length
theorem vNV:∀ (k:Nat) (n:NodeL),SizeOf.sizeOf n<k->n.wt=n.tot wtF:=by
 intro k
 induction k with
 | zero=>intro n h; omega
 | succ k ih =>
   intro n h;rw[n.wt_eq,NodeL.tot_eq]
   congr 2
   exact rBH fun x hx=>ih x (by have:=NodeL.sizeOf_kid hx; omega)
theorem uLV{w x n n':NodeL}{p:List DecL}(h1:atF n p=some x)(h2:vCY w n p=some n'):n'.wt+x.wt=n.wt+w.wt:=by
 have g3:=vLP (f:=wtF) (fun _ _ _=>rfl) p n n' x h1 h2;rw[<- vNV _ n' (rAL _),<- vNV _ n (rAL _),<- vNV _ w (rAL _),<- vNV _ x (rAL _)]at g3;exact g3
theorem uLX:∀ (p:List DecL) (n x:NodeL),atF n p=some x->x.wt<=n.wt
 | [],n,x,h=>by simp only[atF,rBS]at h; subst h; exact rAR _
 | d :: p,n,x,h=>by
   simp only[atF]at h;cases hk:vB9 n d with
   | none=>rw[hk]at h; cases h
   | some i =>
     rw[hk]at h;have h1:=uLX p _ x h;have h2:=vTR (zDD hk).1;omega
theorem vUH:∀ (f:Nat) (n:NodeL) (S:ScpL),n.cnt<f->(vCS S n).cnt<=n.cnt:=by
 intro f
 induction f with
 | zero=>intro n S h; omega
 | succ f ih =>
   intro n S hf;cases h:vCL S n with
   | some i =>
     rw[zC4 h];have h1:=zDF (p:=S.path.length) (zB3 h).1;have h2:=ih _ S (by omega:(vBZ n i S.path.length).cnt<f);omega
   | none =>
     rw[zDJ h,NodeL.cnt_eq,NodeL.cnt_eq n];show 1+(((List.range n.kids.length).map fun i=>vCS (vD2 S n i) n.kids[i]!).map NodeL.cnt).sum<=_
     have e:n.kids.map NodeL.cnt=(List.range n.kids.length).map fun i=>n.kids[i]!.cnt:=by
      refine rDS zsm fun i h1 h2=>?_
      simp only[rAN]at h1;rw[rD4,rD4,rE4,rAT n.kids i h1]
     rw[e,rCQ]
     have:∀ l:List Nat,(∀ i∈l,i<n.kids.length)->(l.map (NodeL.cnt∘fun i=>vCS (vD2 S n i) n.kids[i]!)).sum<=(l.map fun i=>n.kids[i]!.cnt).sum:=by
      intro l
      induction l with
      | nil=>intro _; exact rAR _
      | cons a l ihl =>
        intro hl;have ha:=hl a zsm;have h1:=zDU ha;have h2:=ih n.kids[a]! (vD2 S n a) zom;have h3:=ihl fun i hi=>hl i (rBC _ hi)
        simp only[rBM,List.sum_cons,Function.comp_apply];omega
     have:=this (List.range n.kids.length) fun i hi=>by simpa using hi
     omega
theorem vI4:∀ (f:Nat) (n:NodeL) (S:ScpL),n.cnt<f->(vCS S n).wt<=n.wt:=by
 intro f
 induction f with
 | zero=>intro n S h; omega
 | succ f ih =>
   intro n S hf;cases h:vCL S n with
   | some i =>
     rw[zC4 h];have h1:=zDF (p:=S.path.length) (zB3 h).1;have h3:=vLH (p:=S.path.length) (zB3 h).1;have h2:=ih _ S (by omega:(vBZ n i S.path.length).cnt<f);omega
   | none =>
     rw[zDJ h,NodeL.wt_eq,n.wt_eq];show 1+(n.lemmas.map vCD).sum+n.proof.length+(((List.range n.kids.length).map fun i=>vCS (vD2 S n i) n.kids[i]!).map NodeL.wt).sum<=_
     have e:n.kids.map NodeL.wt=(List.range n.kids.length).map fun i=>n.kids[i]!.wt:=by
      refine rDS zsm fun i h1 h2=>?_
      simp only[rAN]at h1;rw[rD4,rD4,rE4,rAT n.kids i h1]
     rw[e,rCQ]
     have:∀ l:List Nat,(∀ i∈l,i<n.kids.length)->(l.map (NodeL.wt∘fun i=>vCS (vD2 S n i) n.kids[i]!)).sum<=(l.map fun i=>n.kids[i]!.wt).sum:=by
      intro l
      induction l with
      | nil=>intro _; exact rAR _
      | cons a l ihl =>
        intro hl;have ha:=hl a zsm;have h1:=zDU ha;have h2:=ih n.kids[a]! (vD2 S n a) zom;have h3:=ihl fun i hi=>hl i (rBC _ hi)
        simp only[rBM,List.sum_cons,Function.comp_apply];omega
     have:=this (List.range n.kids.length) fun i hi=>by simpa using hi
     omega
theorem vN4:∀ (f:Nat) (n:NodeL) (S:ScpL) (d:Nat),n.cnt<f->vBH d n=true->vBH d (vCS S n)=true:=by
 intro f
 induction f with
 | zero=>intro n S d h; omega
 | succ f ih =>
   intro n S d hf hn;cases h:vCL S n with
   | some i =>
     rw[zC4 h];have hi:=(zB3 h).1;have h1:=zDF (p:=S.path.length) hi;exact ih _ S d zom (zGP hn hi)
   | none =>
     by_cases h0:n.kids.length=0
     .rw[zE8 h0]; exact hn
     .rw[zDJ h]
      have hl:(NodeL.mk n.lemmas n.split ((List.range n.kids.length).map fun i=>vCS (vD2 S n i) n.kids[i]!) n.empty n.proof).kids.length=n.kids.length:=by
       show((List.range n.kids.length).map _).length=_
       simp
      have hn':=hn;rw[zA1 h0]at hn';rw[zA1 zom];simp only[rAO,rBG]at hn' ⊢;refine⟨⟨?_,hn'.1.2⟩,fun y hy=>?_⟩
      .have:=hn'.1.1
       unfold vBX at this ⊢;rw[hl]; exact this
      .obtain⟨i,hi,rfl⟩:=rA5.1 (show y∈(List.range n.kids.length).map _ from hy)
       have hi':i<n.kids.length:=by simpa using hi
       have h1:=zDU hi';exact ih _ _ _ zom (zIJ hn hi')
theorem vUG:∀ (f:Nat) (n:NodeL) (S:ScpL),n.cnt<f->Tok n->Tok (vCS S n):=by
 intro f
 induction f with
 | zero=>intro n S h; omega
 | succ f ih =>
   intro n S hf hn;cases h:vCL S n with
   | some i =>
     rw[zC4 h];have hi:=(zB3 h).1;have h1:=zDF (p:=S.path.length) hi;exact ih _ S zom (zJK zom hi hn)
   | none =>
     rw[zDJ h];refine .mk _ hn.lem hn.spl hn.prf (by show((List.range n.kids.length).map _).length<_; simpa using hn.kn) fun y hy=>?_
     obtain⟨i,hi,rfl⟩:=rA5.1 (show y∈(List.range n.kids.length).map _ from hy);have hi':i<n.kids.length:=by simpa using hi
     have h1:=zDU hi';exact ih _ _ zom (hn.kid _ (get_mem hi'))
theorem vI5{P V v:Nat}:∀ (f:Nat) (n:NodeL) (S:ScpL) (c:Nat),n.cnt<f->NodeZ P V v c n->NodeZ P V v c (vCS S n):=by
 intro f
 induction f with
 | zero=>intro n S c h; omega
 | succ f ih =>
   intro n S c hf hn;cases h:vCL S n with
   | some i =>
     rw[zC4 h];have hi:=(zB3 h).1;have h1:=zDF (p:=S.path.length) hi;exact ih _ S c zom (zGK hi hn)
   | none =>
     rw[zDJ h];refine .mk v c _ hn.val hn.num hn.lem hn.spl hn.prf fun y hy=>?_
     obtain⟨i,hi,rfl⟩:=rA5.1 (show y∈(List.range n.kids.length).map _ from hy);have hi':i<n.kids.length:=by simpa using hi
     have h1:=zDU hi';exact ih _ _ _ zom (hn.kid _ (get_mem hi'))
theorem vRM{S:ScpL}{n m:NodeL}(h1:n.lemmas=m.lemmas)(h2:n.kids.length=m.kids.length)(h3:n.split=m.split)(h4:n.empty=m.empty)(h5:n.proof=m.proof):vCJ S n↔vCJ S m:=by
 unfold vCJ;rw[h1,h2,h3,h4,h5]
theorem vXW{α:Type}(g:Nat->α):(List.range 2).map g=[g 0,g 1]:=rfl
theorem vI6:∀ (f:Nat) (n:NodeL) (S:ScpL) (d:Nat),n.cnt<f->vBH d n=true->vBE S n=none->vBE S (vCS S n)=none:=by
 intro f
 induction f with
 | zero=>intro n S d h; omega
 | succ f ih =>
   intro n S d hf hn hb;cases h:vCL S n with
   | some i =>
     rw[zC4 h];obtain⟨hi,hg⟩:=zB3 h;have h1:=zDF (p:=S.path.length) hi;unfold vDI at hg;simp only[rAO,rGD]at hg;exact ih _ S d zom (zGP hn hi) hg.2
   | none =>
     by_cases h0:n.kids.length=0
     .rw[zE8 h0]; exact hb
     .obtain⟨e1,e2,f0,f1,_⟩:=zD5 h0 hn
      obtain⟨b0,b1⟩:=zNZ h0 hn hb;have c0:=zDU (n:=n) (i:=0) zom;have c1:=zDU (n:=n) (i:=1) zom;have g0:=ih n.kids[0]! (vD2 S n 0) (d - 1) zom f0 b0;have g1:=ih n.kids[1]! (vD2 S n 1) (d - 1) zom f1 b1;rw[zDJ h,e1,vXW];have hr:vCJ S (.mk n.lemmas n.split [vCS (vD2 S n 0) n.kids[0]!,vCS (vD2 S n 1) n.kids[1]!] n.empty n.proof):=(vRM (n:=.mk n.lemmas n.split [vCS (vD2 S n 0) n.kids[0]!,vCS (vD2 S n 1) n.kids[1]!] n.empty n.proof) (m:=n) rfl (by rw[e1]; rfl) rfl rfl rfl).2 (zFT hb);rw[zCC hr rfl];have g0':vBE (vCU S (.mk n.lemmas n.split [vCS (vD2 S n 0) n.kids[0]!,vCS (vD2 S n 1) n.kids[1]!] n.empty n.proof) n.split) (vCS (vD2 S n 0) n.kids[0]!)=none:=g0;have g1':vBE (vCU S (.mk n.lemmas n.split [vCS (vD2 S n 0) n.kids[0]!,vCS (vD2 S n 1) n.kids[1]!] n.empty n.proof) (vTN n.split)) (vCS (vD2 S n 1) n.kids[1]!)=none:=g1;show(match vBE (vCU S _ n.split) _ with | some p=>some p | none=>vBE (vCU S _ (vTN n.split)) _)=none
      rw[g0'];exact g1'
structure AccT(q:QryL)(P V v:Nat)(n:NodeL):Prop where
 val:n.valid=true
 va:VaQ q
 bel:vBE ⟨q,[],[]⟩ n=none
 z:NodeZ P V v 1048576 n
 tok:Tok n
 wt:n.wt<=1048576
theorem zBS{n:NodeL}(h:n.valid=true):vBH 2048 n=true/\n.cnt<=65536:=by
 unfold NodeL.valid at h;simp only[rAO,rAY]at h; exact h
theorem zEA{n:NodeL}(h1:vBH 2048 n=true)(h2:n.cnt<=65536):n.valid=true:=by
 unfold NodeL.valid;rw[h1]
 simpa using h2
theorem zMR{n x:NodeL}{p:List DecL}(h:n.valid=true)(h1:atF n p=some x):x.valid=true:=by
 obtain⟨_,h⟩:=zPU (H:=fun _ n=>n.valid=true) (nx:=fun c _=>c) (fun c n k h hk=>by
  obtain⟨g1,g2⟩:=zBS h;obtain⟨i,hi,rfl⟩:=rA8 hk;have e:=rAT n.kids i hi;rw[<- e];have:=zDU hi
  exact zEA (vKM _ _ _ _ (rAL _) zom (zIJ g1 hi)) zom) p n 0 h h1
 exact h
theorem at_len:∀ (p:List DecL) (n x:NodeL) (d:Nat),vBH d n=true->atF n p=some x->p.length<=d
 | [],n,x,d,_,_=>rA7 _
 | e :: p,n,x,d,h,h1=>by
   simp only[atF]at h1;cases hk:vB9 n e with
   | none=>rw[hk]at h1; cases h1
   | some i =>
     rw[hk]at h1;have hl:=(zDD hk).1;obtain⟨e1,e2,_⟩:=zD5 zom h;have:=at_len p _ x (d - 1) (zIJ h hl) h1;simp only[List.length_cons]; omega
theorem uAI{q:QryL}{P V v:Nat}{n x w n':NodeL}{p:List DecL}(h:AccT q P V v n)(h1:atF n p=some x)(h2:vCY w n p=some n')(hf:∀ d,vBH d x=true->vBH d w=true)(hc:w.cnt<=x.cnt)(hw:w.wt<=x.wt)(hz:∀ c,NodeZ P V v c x->NodeZ P V v c w)(ht:Tok x->Tok w)(hb:vBE (vCH ⟨q,[],[]⟩ n p) w=none):AccT q P V v n':=by
 obtain⟨g1,g2⟩:=zBS h.val;have hc2:=vY0 h1 h2;exact⟨zEA (vKL hf g1 h1 h2) zom,h.va,by rw[zK3 p n _ 2048 n' g1 h.bel h2]; exact hb,zPL hz h.z h1 h2,vT5 ht h.tok h1 h2,by have:=uLV h1 h2; have:=h.wt; omega⟩
theorem vSU{q:QryL}{P V v:Nat}{n x:NodeL}{p:List DecL}{i:Nat}(h:AccT q P V v n)(h1:atF n p=some x)(hi:i<x.kids.length) :
 ∃ n',vCY (vBZ x i p.length) n p=some n'/\vOM (vBZ x i p.length) n p=(n',0)/\n'.valid=true/\NodeZ P V v 1048576 n'/\Tok n'/\n'.cnt<n.cnt/\(vBZ x i p.length).valid=true/\NodeZ P V v 1048576 (vBZ x i p.length)/\Tok (vBZ x i p.length) /\
   vCF q n'=(match vBE (vCH ⟨q,[],[]⟩ n p) (vBZ x i p.length) with | none=>([],0) | some p=>(p,12)):=by
 obtain⟨g1,g2⟩:=zBS h.val;obtain⟨n',hr⟩:=zMV (w:=vBZ x i p.length) h1;have hxv:=zMR h.val h1;obtain⟨x1,x2⟩:=zBS hxv;have hcl:=zDF (p:=p.length) hi;have hc2:=vY0 h1 hr;have hv':n'.valid=true:=zEA (vKL (fun d hd=>zGP hd hi) g1 h1 hr) zom;have hwv:(vBZ x i p.length).valid=true:=zEA (zGP x1 hi) zom;obtain⟨_,hxt⟩:=zPU (H:=fun _ n=>Tok n) (nx:=fun c _=>c) (fun c n k h hk=>h.kid k hk) p n 0 h.tok h1;obtain⟨_,hxz⟩:=zPU (H:=fun _ n=>NodeZ P V v 1048576 n) (nx:=fun c _=>c) (fun c n k h hk=>(h.kid k hk).more _ _ _ _ (rAL _) zom) p n 0 h.z h1;refine⟨n',hr,?_,hv',zPL (fun c hc=>zGK hi hc) h.z h1 hr,vT5 (fun ht=>zJK zom hi ht) h.tok h1 hr,zom,hwv,zGK hi hxz,zJK zom hi hxt,?_⟩
 .unfold vOM
  rw[h.val,hwv,hr];simp[hv']
 .unfold vCF
  rw[rAU ⟨hv',h.va⟩,zK3 p n _ 2048 n' g1 h.bel hr];cases vBE (vCH ⟨q,[],[]⟩ n p) (vBZ x i p.length)<;>rfl
theorem uBL{q:QryL}{n x:NodeL}{p:List DecL}(h1:atF n p=some x):(vCH ⟨q,[],[]⟩ n p).path=p:=by
 rw[vN8 p n _ x h1]; simp
theorem uFD{q:QryL}{P V v:Nat}{n x n':NodeL}{p:List DecL}{i:Nat}(h:AccT q P V v n)(h1:atF n p=some x)(hi:i<x.kids.length)(hr:vCY (vBZ x i p.length) n p=some n')(hb:vBE (vCH ⟨q,[],[]⟩ n p) (vBZ x i p.length)=none):AccT q P V v n':=by
 have hcl:=zDF (p:=p.length) hi;exact uAI h h1 hr (fun d hd=>zGP hd hi) zom (rD9 (vLH hi)) (fun c hc=>zGK hi hc) (fun ht=>zJK zom hi ht) hb
theorem vPH{n:NodeL}(hv:n.valid=true){i:Nat}(hi:i<n.kids.length):vB9 n (vC6 n i)=some i:=by
 obtain⟨g1,_⟩:=zBS hv;obtain⟨e1,e2,_,_,k1,k4⟩:=zD5 zom g1;have hne:=uMU k1 k4;rcases rCP i 1 with h | h
 .obtain rfl:i=0:=by omega
  exact vSR zom rfl
 .obtain rfl:i=1:=by omega
  unfold vB9;have c1:vC6 n 1=opp n.split:=rfl;have c0:vC6 n 0=n.split:=rfl;rw[e1];have e0:¬ vC6 n 0=vC6 n 1:=by rw[c0,c1]; exact fun e=>hne e.symm
  simp[rF5,e0]
theorem uBU{q:QryL}{P V v:Nat}{n x:NodeL}{p:List DecL}(h:AccT q P V v n)(h1:atF n p=some x)(hk:x.kids.length=2)(hno:vCL (vCH ⟨q,[],[]⟩ n p) x=none) :
 ∃ n1 n2,vCY (vCS (vCH ⟨q,[],[]⟩ n (p++[vC6 x 0])) x.kids[0]!) n (p++[vC6 x 0])=some n1/\AccT q P V v n1/\atF n (p++[vC6 x 0])=some x.kids[0]! /\ atF n1 (p++[vC6 x 1])=some x.kids[1]! /\
   vCY (vCS (vCH ⟨q,[],[]⟩ n1 (p++[vC6 x 1])) x.kids[1]!) n1 (p++[vC6 x 1])=some n2/\vCY (vCS (vCH ⟨q,[],[]⟩ n p) x) n p=some n2:=by
 have hxv:=zMR h.val h1;have hn0:=vPH hxv (i:=0) zom;have hn1:=vPH hxv (i:=1) zom;have a0:=uGY h1 hn0;have s0:=zJQ p n x ⟨q,[],[]⟩ _ _ h1 hn0;have s1:=zJQ p n x ⟨q,[],[]⟩ _ _ h1 hn1;obtain⟨S,hS⟩:∃ S,vCH ⟨q,[],[]⟩ n p=S:=⟨_,rfl⟩;obtain⟨k0,hk0⟩:∃ k,vCS (vD2 S x 0) x.kids[0]! = k:=⟨_,rfl⟩;obtain⟨k1,hk1⟩:∃ k,vCS (vD2 S x 1) x.kids[1]! = k:=⟨_,rfl⟩;rw[hS]at hno;rw[s0,hS];show ∃ n1 n2,vCY (vCS (vD2 S x 0) x.kids[0]!) n _=some n1/\_
 rw[hk0];obtain⟨n1,hr1⟩:=zMV (w:=vB2 x 0 k0) h1;have hr1':vCY k0 n (p++[vC6 x 0])=some n1:=vL5 p _ n x _ n1 h1 (zMW hn0 rfl) hr1;obtain⟨x1,x2⟩:=zBS hxv;have hb:=(vGT p n ⟨q,[],[]⟩ 2048 x (zBS h.val).1 h.bel ⟨h.va,fun d hd=>by cases hd⟩ h1).2.1;rw[hS]at hb;have hkb:=(zNZ zom x1 hb).1
 have acc1:AccT q P V v n1:=by
  refine uAI h a0 hr1' (fun d hd=>?_) ?_ ?_ (fun c hc=>?_) (fun ht=>?_) ?_
  .rw[<- hk0]; exact vN4 _ _ _ _ (rAL _) hd
  .rw[<- hk0]; exact vUH _ _ _ (rAL _)
  .rw[<- hk0]; exact vI4 _ _ _ (rAL _)
  .rw[<- hk0]; exact vI5 _ _ _ _ (rAL _) hc
  .rw[<- hk0]; exact vUG _ _ _ (rAL _) ht
  .rw[s0,hS,<- hk0]
   exact vI6 _ _ _ _ (rAL _) (zIJ x1 zom) hkb
 have a1:atF n1 p=some (vB2 x 0 k0):=vZ8 p n n1 hr1;have hn1':vB9 (vB2 x 0 k0) (vC6 x 1)=some 1:=by rw[zJ7]; exact hn1
 have a2:=uGY a1 hn1';rw[uMA zdd zom]at a2;have s2:=zJQ p n1 _ ⟨q,[],[]⟩ _ _ a1 hn1';rw[zNL p n n1 _ hr1,hS]at s2;obtain⟨n2,hr2⟩:=zMV (w:=vB2 (vB2 x 0 k0) 1 k1) a1;have hr2':vCY k1 n1 (p++[vC6 x 1])=some n2:=vL5 p _ n1 _ _ n2 a1 (zMW hn1' rfl) hr2;refine⟨n1,n2,hr1',acc1,a0,a2,?_,?_⟩
 .rw[s2]
  show vCY (vCS (vD2 S x 1) x.kids[1]!) n1 _=_
  rw[hk1]; exact hr2'
 .rw[zDJ hno,hk,vXW,hk0,hk1,<- vL4 p n n1 hr1]
  have e:vB2 (vB2 x 0 k0) 1 k1=.mk x.lemmas x.split [k0,k1] x.empty x.proof:=by
   show NodeL.mk _ _ ((x.kids.set 0 k0).set 1 k1) _ _=_
   have:=zG8 hk;generalize x.kids[0]! = a at *
   generalize x.kids[1]! = b at *
   rw[this]; rfl
  rw[<- e]; exact hr2
end Go.PI.Tryz
