/-
  Splits: plain. What is taken out leaves an accepted tree.
-/
import Derived.Test.YtbelmkceegmdjaaGreatDoorJSB
import Derived.Test.YtbelmkceegmdjaaGreatDoorJTN
set_option linter.unusedVariables false
set_option linter.unusedSimpArgs false
set_option linter.unnecessarySimpa false
set_option maxHeartbeats 0
namespace Go.PI.Tryz
open Go.Proofs Go.PI
def vCF:ScpL->NodeL->List DecL->ScpL
 | S,_,[]=>S
 | S,n,d::p=>match vBX n d with
   | some i=>vCF (vCR S n d) n.kids[i]! p
   | none=>S
theorem zJQ{S:ScpL}{n:NodeL}(h:vBE S n=none):vC6 S n:=by
 refine rCG fun hr=>?_
 rw[zDB hr]at h; cases h
theorem zD6{n:NodeL}{d:Nat}(h0:n.kids.length≠0)(hf:vBG d n=true):n.kids.length=2/\d≠0/\vBG (d - 1) n.kids[0]! = true/\vBG (d - 1) n.kids[1]! = true/\1<=n.split.kind/\n.split.kind<=4:=by
 have hfo:=hf;rw[zA1 h0]at hfo;simp only[rAO,rAX]at hfo;have h5:=hfo.1.1;unfold vBV at h5;obtain⟨e1,e2,e3,_⟩:=rB3 h5;have hfk:=zCM e1 (d:=d);rw[hf]at hfk;have hfk:=hfk.symm;simp only[rAO]at hfk;exact⟨e1,hfo.1.2,hfk.2.1,hfk.2.2,e2,e3⟩
theorem vXK{n:NodeL}{d:Nat}{e:DecL}{i:Nat}(hf:vBG d n=true)(h:vBX n e=some i):n.kids.length≠0/\((i=0/\e=n.split)\/(i=1/\e=opp n.split)):=by
 obtain⟨h1,h2⟩:=zC0 h;have h0:n.kids.length≠0:=by omega
 refine⟨h0,?_⟩;obtain⟨e1,_⟩:=zD6 h0 hf;rcases rCQ i 1 with hi | hi
 .obtain rfl:i=0:=by omega
  exact rAW ⟨rfl,by rw[<- h2]; rfl⟩
 .obtain rfl:i=1:=by omega
  exact rAY ⟨rfl,by rw[<- h2]; rfl⟩
theorem set0{α:Type}{a b:α}(k:α):([a,b]:List α).set 0 k=[k,b]:=rfl
theorem set1{α:Type}{a b:α}(k:α):([a,b]:List α).set 1 k=[a,k]:=rfl
theorem zOB{S:ScpL}{n:NodeL}{d:Nat}(h0:n.kids.length≠0)(hf:vBG d n=true)(hb:vBE S n=none):vBE (vCR S n n.split) n.kids[0]! = none/\vBE (vCR S n (opp n.split)) n.kids[1]! = none:=by
 obtain⟨e1,_⟩:=zD6 h0 hf;rw[zCD (zJQ hb) (zG6 e1)]at hb;cases h1:vBE (vCR S n n.split) n.kids[0]! with
 | some p=>rw[h1]at hb; cases hb
 | none=>rw[h1]at hb; exact⟨rfl,hb⟩
theorem zK3{w:NodeL}:∀ (p:List DecL) (n:NodeL) (S:ScpL) (d:Nat) (n':NodeL),vBG d n=true->vBE S n=none->vCG w n p=some n'->vBE S n'=vBE (vCF S n p) w
 | [],n,S,d,n',_,_,h=>by
   simp only[vCG,rBT]at h;subst h; rfl
 | e :: p,n,S,d,n',hf,hb,h=>by
   simp only[vCG]at h;cases hk:vBX n e with
   | none=>rw[hk]at h; cases h
   | some i =>
     rw[hk]at h;simp only[rBH]at h;obtain⟨k',h1,h2⟩:=h;obtain⟨h0,hi⟩:=vXK hf hk;obtain⟨e1,e2,f0,f1,_⟩:=zD6 h0 hf;obtain⟨b0,b1⟩:=zOB h0 hf hb;have hr:=zJQ hb
     have hr':vC6 S n':=by
      rw[<- h2];refine⟨hr.1,?_⟩;have h3:=hr.2;rw[rAN h0]at h3;rw[rAN (show ¬ (vBY n i k').kids.length=0 by show ¬ (n.kids.set i k').length=0; rw[rEX]; exact h0)];exact h3
     have hsc:vCF S n (e::p)=vCF (vCR S n e) n.kids[i]! p:=by simp only[vCF,hk]
     rw[hsc];rcases hi with⟨rfl,he⟩ | ⟨rfl,he⟩
     .have hkids:n'.kids=[k',n.kids[1]!]:=by
       rw[<- h2]; show n.kids.set 0 k'=_
       conv=>lhs; rw[zG6 e1]
       exact set0 k'
      have hs:n'.split=n.split:=by rw[<- h2]; rfl
      have hkS:∀ x,vCR S n' x=vCR S n x:=fun x=>by rw[<- h2]; rfl
      have ih:=zK3 p n.kids[0]! (vCR S n n.split) (d - 1) k' f0 b0 h1;rw[zCD hr' hkids,hs,hkS,hkS,ih,he];have e5:vBE (vCR S n (vTJ n.split)) n.kids[1]! = none:=b1;rw[e5];cases vBE (vCF (vCR S n n.split) n.kids[0]! p) w<;>rfl
     .have hkids:n'.kids=[n.kids[0]!,k']:=by
       rw[<- h2]; show n.kids.set 1 k'=_
       conv=>lhs; rw[zG6 e1]
       exact set1 k'
      have hs:n'.split=n.split:=by rw[<- h2]; rfl
      have hkS:∀ x,vCR S n' x=vCR S n x:=fun x=>by rw[<- h2]; rfl
      have ih:=zK3 p n.kids[1]! (vCR S n (opp n.split)) (d - 1) k' f1 b1 h1;rw[zCD hr' hkids,hs,hkS,hkS,b0,he];exact ih
theorem vGV:∀ (p:List DecL) (n:NodeL) (S:ScpL) (d:Nat) (m:NodeL),vBG d n=true->vBE S n=none->vB7 S->atF n p=some m->vB7 (vCF S n p)/\vBE (vCF S n p) m=none/\(vCF S n p).q=S.q
 | [],n,S,d,m,_,hb,hS,h=>by
   simp only[atF,rBT]at h;subst h; exact⟨hS,hb,rfl⟩
 | e :: p,n,S,d,m,hf,hb,hS,h=>by
   simp only[atF]at h;cases hk:vBX n e with
   | none=>rw[hk]at h; cases h
   | some i =>
     rw[hk]at h;obtain⟨h0,hi⟩:=vXK hf hk;obtain⟨e1,e2,f0,f1,_⟩:=zD6 h0 hf;obtain⟨b0,b1⟩:=zOB h0 hf hb;have hfit:vFL S.q n.split:=by have:=(zJQ hb).2; rw[rAN h0]at this; exact this
     have hsc:vCF S n (e::p)=vCF (vCR S n e) n.kids[i]! p:=by simp only[vCF,hk]
     rw[hsc];rcases hi with⟨rfl,rfl⟩ | ⟨rfl,rfl⟩
     .exact vGV p n.kids[0]! _ (d - 1) m f0 b0 (Go.PI.ok_kid hS hfit) h
     .exact vGV p n.kids[1]! _ (d - 1) m f1 b1 (Go.PI.ok_kid hS (vP3 hfit)) h
def vHU:NodeL->List DecL->List LemL
 | n,[]=>n.lemmas
 | n,d::p=>n.lemmas++(match vBX n d with
   | some i=>vHU n.kids[i]! p
   | none=>[])
theorem vPP:∀ (p:List DecL) (n m:NodeL),atF n p=some m->m.lemmas.length<=(vHU n p).length
 | [],n,m,h=>by simp only[atF,rBT]at h; subst h; exact rAR _
 | e :: p,n,m,h=>by
   simp only[atF]at h;cases hk:vBX n e with
   | none=>rw[hk]at h; cases h
   | some i =>
     rw[hk]at h;have:=vPP p _ m h;simp only[vHU,hk,rAU]; omega
theorem vOK:∀ (p:List DecL) (n:NodeL) (S:ScpL) (m:NodeL),atF n p=some m->vCF S n p=⟨S.q,S.path++p,S.lems++(vHU n p).take ((vHU n p).length - m.lemmas.length)⟩
 | [],n,S,m,h=>by
   simp only[atF,rBT]at h;subst h;simp[vCF,vHU]
 | e :: p,n,S,m,h=>by
   simp only[atF]at h;cases hk:vBX n e with
   | none=>rw[hk]at h; cases h
   | some i =>
     rw[hk]at h;have h1:=vOK p n.kids[i]! (vCR S n e) m h;have h2:=vPP p _ m h;simp only[vCF,vHU,hk];rw[h1];simp only[vCR,rBG,List.cons_append,List.nil_append,rAU];rw[List.take_append,rBO (l:=n.lemmas) zom,show n.lemmas.length+(vHU n.kids[i]! p).length - m.lemmas.length - n.lemmas.length=(vHU n.kids[i]! p).length - m.lemmas.length by omega]
theorem vKN:∀ (k:Nat) (n:NodeL) (d e:Nat),SizeOf.sizeOf n<k->d<=e->vBG d n=true->vBG e n=true:=by
 intro k
 induction k with
 | zero=>intro n d e h; omega
 | succ k ih =>
   intro n d e hk hde hf;by_cases h0:n.kids.length=0
   .rw[zBS h0]at hf ⊢; exact hf
   .obtain⟨e1,e2,f0,f1,k1,k4⟩:=zD6 h0 hf
    have s0:=NodeL.sizeOf_kid (get_mem (l:=n.kids) (show 0<n.kids.length by omega));have s1:=NodeL.sizeOf_kid (get_mem (l:=n.kids) (show 1<n.kids.length by omega));rw[zCM e1]at hf ⊢;simp only[rAO,rAX]at hf ⊢;exact⟨⟨hf.1.1,zom⟩,ih _ _ _ zom zom f0,ih _ _ _ zom zom f1⟩
theorem vH8:∀ (k:Nat) (n:NodeL),SizeOf.sizeOf n<k->n.cnt=n.tot fun _=>1:=by
 intro k
 induction k with
 | zero=>intro n h; omega
 | succ k ih =>
   intro n h;rw[NodeL.cnt_eq,NodeL.tot_eq]
   congr 2
   exact rBJ fun x hx=>ih x (by have:=NodeL.sizeOf_kid hx; omega)
theorem vUP{α:Type}[Inhabited α](f:α->Nat):∀ (l:List α) (i:Nat) (x:α),i<l.length->((l.set i x).map f).sum+f l[i]! = (l.map f).sum+f x
 | a::l,0,x,_=>by
   simp only[List.set_cons_zero,rBN,List.sum_cons];have:(a::l)[0]! = a:=rfl;rw[this]; omega
 | a::l,i+1,x,h=>by
   have:=vUP f l i x (by simpa using h);simp only[List.set_cons_succ,rBN,List.sum_cons]
   have e:(a::l)[i+1]! = l[i]! := by
    rw[rAT (a::l) (i+1) h,rAT l i (by simpa using h)]; rfl
   rw[e]; omega
theorem vLS{w:NodeL}{f:NodeL->Nat}(hf:∀ x i k,f (vBY x i k)=f x):∀ (p:List DecL) (n n' m:NodeL),atF n p=some m->vCG w n p=some n'->n'.tot f+m.tot f=n.tot f+w.tot f
 | [],n,n',m,hm,h=>by
   simp only[vCG,rBT]at h;simp only[atF,rBT]at hm;subst h hm; omega
 | x :: p,n,n',m,hm,h=>by
   simp only[vCG]at h;simp only[atF]at hm;cases hk:vBX n x with
   | none=>rw[hk]at h; cases h
   | some i =>
     rw[hk]at h hm;simp only[rBH]at h;obtain⟨k',h1,h2⟩:=h;have ih:=vLS hf p _ k' m hm h1;have hl:=(zC0 hk).1;rw[<- h2,NodeL.tot_eq f (vBY n i k'),hf,NodeL.tot_eq f n];have:=vUP (NodeL.tot f) n.kids i k' hl;show f n+((n.kids.set i k').map (NodeL.tot f)).sum+_=_
     omega
theorem NodeZ.more{P V v:Nat}:∀ (k:Nat) (n:NodeL) (c c':Nat),SizeOf.sizeOf n<k->c<=c'->NodeZ P V v c n->NodeZ P V v c' n:=by
 intro k
 induction k with
 | zero=>intro n c c' h; omega
 | succ k ih =>
   intro n c c' hk hc h;exact .mk v c' n h.val (by have:=h.num; omega) h.lem h.spl h.prf fun x hx=>ih x _ _ (by have:=NodeL.sizeOf_kid hx; omega) zom (h.kid x hx)
theorem zMY{w n m:NodeL}{p:List DecL}(h:atF n p=some m):∃ n',vCG w n p=some n':=by
 have:=vN1 w p n;rw[h]at this;cases hr:vCG w n p with
 | some n'=>exact⟨n',rfl⟩
 | none=>rw[hr]at this; cases this
theorem uJT(f:RowL->RowL):∀ (k:Nat) (n:NodeL),SizeOf.sizeOf n<k->(vCV f n).cnt=n.cnt:=by
 intro k
 induction k with
 | zero=>intro n h; omega
 | succ k ih =>
   intro n h;rw[NodeL.cnt_eq,NodeL.cnt_eq n,zEU];show 1+((n.kids.map (vCV f)).map NodeL.cnt).sum=_
   rw[rCO]
   congr 2
   exact rBJ fun x hx=>ih x (by have:=NodeL.sizeOf_kid hx; omega)
theorem zII(f:RowL->RowL)(n:NodeL):(vCV f n).kids=n.kids.map (vCV f):=by rw[zEU]; rfl
theorem zG2(f:RowL->RowL)(n:NodeL):(vCV f n).lemmas=n.lemmas.map (vC7 f):=by rw[zEU]; rfl
theorem zKR(f:RowL->RowL)(n:NodeL):(vCV f n).split=n.split:=by rw[zEU]; rfl
theorem vYX(f:RowL->RowL)(n:NodeL):(vCV f n).empty=n.empty:=by rw[zEU]; rfl
theorem zKS(f:RowL->RowL)(n:NodeL):(vCV f n).proof=vBL f n.proof:=by rw[zEU]; rfl
theorem uDS(f:RowL->RowL):∀ (k:Nat) (n:NodeL) (d:Nat),SizeOf.sizeOf n<k->vBG d (vCV f n)=vBG d n:=by
 intro k
 induction k with
 | zero=>intro n d h; omega
 | succ k ih =>
   intro n d h;have hl:(vCV f n).kids.length=n.kids.length:=by rw[zII,rAM]
   by_cases h0:n.kids.length=0
   .rw[zBS h0,zBS zom]; unfold vED; rw[zKR]
   .rw[zA1 h0,zA1 zom]
    congr 1
    .congr 1
     unfold vBV;rw[hl,zKR,vYX,zKS];simp[vBL]
    .rw[zII,List.all_map,rA0,rBF,rBF]
     have e:∀ x∈n.kids,vBG (d - 1) (vCV f x)=vBG (d - 1) x:=fun x hx=>ih x _ (by have:=NodeL.sizeOf_kid hx; omega)
     exact⟨fun g x hx=>by have:=g x hx; rw[<- e x hx]; exact this,fun g x hx=>by have:=g x hx; rw[<- e x hx]at this; exact this⟩
theorem vYH{n m:NodeL}(h1:n.kids=m.kids)(h2:n.split=m.split)(h3:n.empty=m.empty)(h4:n.proof.length=m.proof.length)(d:Nat):vBG d n=vBG d m:=by
 by_cases h0:n.kids.length=0
 .rw[zBS h0,zBS (by rw[<- h1]; exact h0)]; unfold vED; rw[h2]
 .rw[zA1 h0,zA1 (by rw[<- h1]; exact h0)]
  unfold vBV;rw[h1,h2,h3,h4]
theorem zID{n:NodeL}{d i:Nat}(hf:vBG d n=true)(hi:i<n.kids.length):vBG (d - 1) n.kids[i]! = true:=by
 rw[zA1 zom]at hf;simp only[rAO,rBF]at hf;exact hf.2 _ (get_mem hi)
theorem zGO{n:NodeL}{d i:Nat}{p:Int}(hf:vBG d n=true)(hi:i<n.kids.length):vBG d (vB4 n i p)=true:=by
 rw[vYH (n:=vB4 n i p) (m:=vCV (vCY (-1) p) n.kids[i]!) rfl rfl rfl rfl,uDS _ _ _ _ (rAL _)];exact vKN _ _ _ _ (rAL _) zom (zID hf hi)
theorem uD1{n m:NodeL}(h1:n.kids=m.kids):n.cnt=m.cnt:=by rw[NodeL.cnt_eq,NodeL.cnt_eq m,h1]
theorem zDX{n:NodeL}{i:Nat}(hi:i<n.kids.length):n.kids[i]!.cnt<n.cnt:=by
 rw[NodeL.cnt_eq n];have:=zGX (f:=NodeL.cnt) (get_mem hi);omega
theorem zDF{n:NodeL}{i:Nat}{p:Int}(hi:i<n.kids.length):(vB4 n i p).cnt<n.cnt:=by
 rw[uD1 (n:=vB4 n i p) (m:=vCV (vCY (-1) p) n.kids[i]!) rfl,uJT _ _ _ (rAL _)];exact zDX hi
theorem uLD(f:RowL->RowL):∀ (k:Nat) (n:NodeL),SizeOf.sizeOf n<k->(vCV f n).wt=n.wt:=by
 intro k
 induction k with
 | zero=>intro n h; omega
 | succ k ih =>
   intro n h;rw[NodeL.wt_eq,n.wt_eq,zII,zG2,zKS,rCO,rCO];have e1:n.kids.map (NodeL.wt∘vCV f)=n.kids.map NodeL.wt:=rBJ fun x hx=>ih x (by have:=NodeL.sizeOf_kid hx; omega)
   have e2:n.lemmas.map (vCH∘vC7 f)=n.lemmas.map vCH:=rBJ fun x hx=>by simp[vCH,vC7,vBL]
   rw[e1,e2];simp[vBL]
theorem vTO{n:NodeL}{i:Nat}(hi:i<n.kids.length):1+(n.lemmas.map vCH).sum+n.kids[i]!.wt<=n.wt:=by
 rw[n.wt_eq];have:=zGX (f:=NodeL.wt) (get_mem hi);omega
theorem vLJ{n:NodeL}{i:Nat}{p:Int}(hi:i<n.kids.length):(vB4 n i p).wt<n.wt:=by
 have h1:=vTO hi;have h2:=uLD (vCY (-1) p) _ n.kids[i]! (rAL _);rw[NodeL.wt_eq]at h2
 have h3:(vB4 n i p).wt=1+((n.lemmas++(vCV (vCY (-1) p) n.kids[i]!).lemmas).map vCH).sum+(vCV (vCY (-1) p) n.kids[i]!).proof.length+((vCV (vCY (-1) p) n.kids[i]!).kids.map NodeL.wt).sum:=by
  rw[NodeL.wt_eq]; rfl
 rw[rBD,rEV]at h3;omega
def vD2(S:ScpL)(n:NodeL)(i:Nat):ScpL:=vCR S n (vCI n i)
noncomputable def vDM(S:ScpL)(n:NodeL)(i:Nat):Bool:=!onN n.kids[i]! S.path.length && (vBE S (vB4 n i S.path.length)).isNone
noncomputable def vCP(S:ScpL)(n:NodeL):Option Nat:=(List.range n.kids.length).find? (vDM S n)
theorem zB4{S:ScpL}{n:NodeL}{i:Nat}(h:vCP S n=some i):i<n.kids.length/\vDM S n i=true:=by
 unfold vCP at h;have h1:=rGG h;have h2:=List.find?_some h;simp at h1;exact⟨h1,h2⟩
theorem zOF{S:ScpL}{n:NodeL}{i:Nat}(hi:i<n.kids.length)(h:vDM S n i=true)(hb:∀ j,j<i->vDM S n j=false):vCP S n=some i:=by
 unfold vCP;rw[List.find?_eq_some_iff_getElem];refine⟨h,i,by simpa using hi,zsm,fun j hj=>?_⟩;simp only[rE6];rw[hb j hj]; rfl
theorem zI5{S:ScpL}{n:NodeL}(hb:∀ j,j<n.kids.length->vDM S n j=false):vCP S n=none:=by
 unfold vCP;rw[rFR];intro j hj;simp at hj;rw[hb j hj]; simp
noncomputable def uGP:Nat->ScpL->NodeL->NodeL
 | 0,_,n=>n
 | f+1,S,n=>match vCP S n with
   | some i=>uGP f S (vB4 n i S.path.length)
   | none=>.mk n.lemmas n.split ((List.range n.kids.length).map fun i=>uGP f (vD2 S n i) n.kids[i]!) n.empty n.proof
noncomputable def vCS(S:ScpL)(n:NodeL):NodeL:=uGP n.cnt S n
theorem zJJ:∀ (f g:Nat) (S:ScpL) (n:NodeL),n.cnt<=f->n.cnt<=g->uGP f S n=uGP g S n
 | 0,g,S,n,h,_=>by have:=zF3 n; omega
 | f+1,0,S,n,_,h=>by have:=zF3 n; omega
 | f + 1,g+1,S,n,hf,hg=>by
   unfold uGP;cases h:vCP S n with
   | some i =>
     have:=zDF (p:=S.path.length) (zB4 h).1;exact zJJ f g _ _ zom zom
   | none =>
     dsimp only
     congr 1
     refine rBJ fun i hi=>?_
     simp at hi;have:=zDX hi;exact zJJ f g _ _ zom zom
theorem vUD(S:ScpL)(n:NodeL):vCS S n=match vCP S n with
 | some i=>vCS S (vB4 n i S.path.length)
 | none=>.mk n.lemmas n.split ((List.range n.kids.length).map fun i=>vCS (vD2 S n i) n.kids[i]!) n.empty n.proof:=by
 unfold vCS;have hc:=zF3 n;obtain⟨m,hm⟩:∃ m,n.cnt=m+1:=⟨n.cnt - 1,zom⟩;rw[hm]
 conv=>lhs; unfold uGP
 cases h:vCP S n with
 | some i =>
   have:=zDF (p:=S.path.length) (zB4 h).1;exact zJJ _ _ _ _ zom (rAR _)
 | none =>
   dsimp only
   congr 1
   refine rBJ fun i hi=>?_
   simp at hi;have:=zDX hi;exact zJJ _ _ _ _ zom (rAR _)
theorem zDK{S:ScpL}{n:NodeL}{i:Nat}(h:vCP S n=some i):vCS S n=vCS S (vB4 n i S.path.length):=by
 rw[vUD,h]
theorem zDL{S:ScpL}{n:NodeL}(h:vCP S n=none):vCS S n=.mk n.lemmas n.split ((List.range n.kids.length).map fun i=>vCS (vD2 S n i) n.kids[i]!) n.empty n.proof:=by
 rw[vUD,h]
theorem zJI{S:ScpL}{n:NodeL}(h:n.kids.length=0):vCS S n=n:=by
 rw[zDL (zI5 fun j hj=>by omega),h];have:n.kids=[]:=rA1.1 h;cases n
 simp_all [NodeL.lemmas,NodeL.split,NodeL.kids,NodeL.empty,NodeL.proof]
inductive Tok:NodeL->Prop
 | mk (n:NodeL) (h1:∀ m∈n.lemmas,m.value.sm/\vCT m.proof/\vCK m.proof) (h2:n.split.sm) (h3:vCT n.proof/\vCK n.proof) (h4:n.kids.length<2097152) (h5:∀ k∈n.kids,Tok k):Tok n
theorem Tok.lem{n:NodeL}(h:Tok n):∀ m∈n.lemmas,m.value.sm/\vCT m.proof/\vCK m.proof:=by cases h; assumption
theorem Tok.spl{n:NodeL}(h:Tok n):n.split.sm:=by cases h; assumption
theorem Tok.prf{n:NodeL}(h:Tok n):vCT n.proof/\vCK n.proof:=by cases h; assumption
theorem Tok.kn{n:NodeL}(h:Tok n):n.kids.length<2097152:=by cases h; assumption
theorem Tok.kid{n:NodeL}(h:Tok n):∀ k∈n.kids,Tok k:=by cases h; assumption
theorem zJG{P V v:Nat}:∀ (k:Nat) (n:NodeL) (c:Nat),SizeOf.sizeOf n<k->c<=1048576->NodeZ P V v c n->Tok n->n.Sm/\NodeRg n:=by
 intro k
 induction k with
 | zero=>intro n c h; omega
 | succ k ih =>
   intro n c hk hc hz ht;have hl:=hz.num;have hkid:=fun x hx=>ih x _ (by have:=NodeL.sizeOf_kid hx; omega) zom (hz.kid x hx) (ht.kid x hx)
   exact⟨.mk n ⟨zom,fun m hm=>⟨(ht.lem m hm).1,(ht.lem m hm).2.2⟩⟩ ht.spl ht.kn (fun x hx=>(hkid x hx).1) ht.prf.2,
    .mk n zom (fun m hm=>(ht.lem m hm).2.1) ht.prf.1 ht.kn (fun x hx=>(hkid x hx).2)⟩
theorem uLP:∀ (k:Nat) (n:NodeL),SizeOf.sizeOf n<k->n.Sm->NodeRg n->Tok n:=by
 intro k
 induction k with
 | zero=>intro n h; omega
 | succ k ih =>
   intro n hk hs hr;exact .mk n (fun m hm=>⟨(hs.lems.2 m hm).1,hr.lem m hm,(hs.lems.2 m hm).2⟩) hs.dec ⟨hr.prf,hs.prf⟩ hr.kn fun x hx=>ih x (by have:=NodeL.sizeOf_kid hx; omega) (hs.kid hx) (hr.kid x hx)
theorem vOQ{p:Int}(h0:0<=p){l:List MultL}(h:vCT l/\vCK l):vCT (vBL (vCY (-1) p) l)/\vCK (vBL (vCY (-1) p) l):=by
 obtain⟨⟨h1,h2⟩,h3,h4⟩:=h;refine⟨⟨by simpa [vBL]using h1,fun m hm=>?_⟩,by simpa [vBL]using h3,fun m hm=>?_⟩
 .obtain⟨x,hx,rfl⟩:=rA5.1 hm
  obtain⟨g1,g2,g3⟩:=h2 x hx;refine⟨g1,?_⟩;show -9223372036854775808<=(if 0<=p/\x.row.kind=4 then vDQ x.row.index p else x.row.index)/\(if 0<=p/\x.row.kind=4 then vDQ x.row.index p else x.row.index)<9223372036854775808
  unfold vDQ
  split
  .split<;>omega
  .omega
 .obtain⟨x,hx,rfl⟩:=rA5.1 hm
  exact h4 x hx
theorem uGM{p:Int}(h0:0<=p):∀ (k:Nat) (n:NodeL),SizeOf.sizeOf n<k->Tok n->Tok (vCV (vCY (-1) p) n):=by
 intro k
 induction k with
 | zero=>intro n h; omega
 | succ k ih =>
   intro n hk h;refine .mk _ (fun m hm=>?_) (by rw[zKR]; exact h.spl) (by rw[zKS]; exact vOQ h0 h.prf) (by rw[zII,rAM]; exact h.kn) fun x hx=>?_
   .rw[zG2]at hm
    obtain⟨y,hy,rfl⟩:=rA5.1 hm;exact⟨(h.lem y hy).1,vOQ h0 (h.lem y hy).2⟩
   .rw[zII]at hx
    obtain⟨y,hy,rfl⟩:=rA5.1 hx;exact ih y (by have:=NodeL.sizeOf_kid hy; omega) (h.kid y hy)
theorem zJH{n:NodeL}{i:Nat}{p:Int}(h0:0<=p)(hi:i<n.kids.length)(h:Tok n):Tok (vB4 n i p):=by
 have hk:=uGM h0 _ _ (rAL _) (h.kid _ (get_mem hi));refine .mk _ (fun m hm=>?_) hk.spl hk.prf hk.kn hk.kid;rcases rAZ.1 hm with hm | hm
 .exact h.lem m hm
 .exact hk.lem m hm
theorem zNB{P V:Nat}{f:RowL->RowL}{l:List MultL}(h:vNM P V l):vNM P V (vBL f l):=by
 obtain⟨⟨h1,h2⟩,h3⟩:=h;have e1:(vBL f l).length=l.length:=by simp[vBL]
 have e2:vEQ (vBL f l)=vEQ l:=by unfold vEQ vBL; rw[rCO]; rfl
 refine⟨⟨zom,fun m hm=>?_⟩,by rw[e1,e2]; exact h3⟩;obtain⟨x,hx,rfl⟩:=rA5.1 hm;exact h2 x hx
theorem vXJ{f:RowL->RowL}{P V v:Nat}:∀ (k:Nat) (n:NodeL) (c:Nat),SizeOf.sizeOf n<k->NodeZ P V v c n->NodeZ P V v c (vCV f n):=by
 intro k
 induction k with
 | zero=>intro n c h; omega
 | succ k ih =>
   intro n c hk h;refine .mk v c _ (fun m hm=>?_) (by rw[zG2,rAM]; exact h.num) (fun m hm=>?_) (by rw[zKR]; exact h.spl) (by rw[zKS]; exact zNB h.prf) fun x hx=>?_
   .rw[zG2]at hm
    obtain⟨y,hy,rfl⟩:=rA5.1 hm;exact h.val y hy
   .rw[zG2]at hm
    obtain⟨y,hy,rfl⟩:=rA5.1 hm;exact⟨(h.lem y hy).1,zNB (h.lem y hy).2⟩
   .rw[zII]at hx
    obtain⟨y,hy,rfl⟩:=rA5.1 hx;rw[zG2,rAM];exact ih y _ (by have:=NodeL.sizeOf_kid hy; omega) (h.kid y hy)
theorem zGJ{n:NodeL}{i:Nat}{p:Int}{P V v c:Nat}(hi:i<n.kids.length)(h:NodeZ P V v c n):NodeZ P V v c (vB4 n i p):=by
 have hk:=vXJ (f:=vCY (-1) p) _ _ _ (rAL _) (h.kid _ (get_mem hi));have h1:=h.num;have h2:=hk.num;have el:(vB4 n i p).lemmas.length=n.lemmas.length+(vCV (vCY (-1) p) n.kids[i]!).lemmas.length:=rAU;refine .mk v c _ (fun m hm=>?_) zom (fun m hm=>?_) hk.spl hk.prf fun x hx=>?_
 .rcases rAZ.1 hm with hm | hm
  .exact h.val m hm
  .exact hk.val m hm
 .rcases rAZ.1 hm with hm | hm
  .exact h.lem m hm
  .exact hk.lem m hm
 .have:=hk.kid x hx
  rw[el,<- Nat.sub_sub];exact this
theorem vZ0:∀ (p q:List DecL) (n:NodeL),atF n (p++q)=(atF n p).bind fun m=>atF m q
 | [],q,n=>by simp[atF]
 | d::p,q,n=>by
   simp only[List.cons_append,atF];cases vBX n d with
   | none=>rfl
   | some i=>exact vZ0 p q _
theorem zJ6(n:NodeL)(i:Nat)(k:NodeL)(d:DecL):vBX (vBY n i k) d=vBX n d:=by
 unfold vBX;have e1:(vBY n i k).kids.length=n.kids.length:=rEX;have e2:∀ j,vCI (vBY n i k) j=vCI n j:=fun j=>rfl
 simp only[e1,e2]
theorem vUQ{n:NodeL}{i:Nat}{k:NodeL}(h:i<n.kids.length):(vBY n i k).kids[i]! = k:=by
 show(n.kids.set i k)[i]! = k
 rw[rAT _ i (by simpa using h)]
 simp
theorem uLT{n:NodeL}{i j:Nat}{k:NodeL}(hne:i≠j)(h:j<n.kids.length):(vBY n i k).kids[j]! = n.kids[j]! := by
 show(n.kids.set i k)[j]! = _
 rw[rAT _ j (by simpa using h),rAT _ j h,List.getElem_set_ne hne]
theorem set_set{n:NodeL}{i:Nat}{k k':NodeL}:vBY (vBY n i k) i k'=vBY n i k':=by
 show NodeL.mk _ _ ((n.kids.set i k).set i k') _ _=NodeL.mk _ _ (n.kids.set i k') _ _
 rw[List.set_set]; rfl
theorem zJR{w n n':NodeL}{d:DecL}{p:List DecL}(h:vCG w n (d::p)=some n'):∃ i k',vBX n d=some i/\vCG w n.kids[i]! p=some k'/\n'=vBY n i k':=by
 simp only[vCG]at h;cases hk:vBX n d with
 | none=>rw[hk]at h; cases h
 | some i =>
   rw[hk]at h;simp only[rBH]at h;obtain⟨k',h1,h2⟩:=h;exact⟨i,k',rfl,h1,h2.symm⟩
theorem zMZ{w n k':NodeL}{d:DecL}{p:List DecL}{i:Nat}(hk:vBX n d=some i)(h:vCG w n.kids[i]! p=some k'):vCG w n (d::p)=some (vBY n i k'):=by
 simp only[vCG,hk,h,Option.map_some]
theorem vL8{v w:NodeL}:∀ (p:List DecL) (n n':NodeL),vCG v n p=some n'->vCG w n' p=vCG w n p
 | [],n,n',h=>rfl
 | d :: p,n,n',h=>by
   obtain⟨i,k',h1,h2,rfl⟩:=zJR h;have hl:=(zC0 h1).1;simp only[vCG,zJ6,h1];rw[vUQ hl,vL8 p _ _ h2];cases vCG w n.kids[i]! p with
   | none=>rfl
   | some k2 =>
     simp only[Option.map_some];rw[set_set]
theorem vZZ{w:NodeL}:∀ (p:List DecL) (n n':NodeL),vCG w n p=some n'->atF n' p=some w
 | [],n,n',h=>by simp only[vCG,rBT]at h; subst h; rfl
 | d::p,n,n',h=>by
   obtain⟨i,k',h1,h2,rfl⟩:=zJR h;simp only[atF,zJ6,h1];rw[vUQ (zC0 h1).1];exact vZZ p _ _ h2
theorem vOW:∀ (p:List DecL) (n m:NodeL),atF n p=some m->vCG m n p=some n
 | [],n,m,h=>by simp only[atF,rBT]at h; subst h; rfl
 | d :: p,n,m,h=>by
   simp only[atF]at h;cases hk:vBX n d with
   | none=>rw[hk]at h; cases h
   | some i =>
     rw[hk]at h;have ih:=vOW p _ m h;have hl:=(zC0 hk).1;rw[zMZ hk ih]
     congr 1
     unfold vBY
     have:n.kids.set i n.kids[i]! = n.kids:=by
      rw[rAT n.kids i hl]; exact List.set_getElem_self hl
     rw[this];cases n; rfl
theorem vL9{w:NodeL}:∀ (p q:List DecL) (n m m' n':NodeL),atF n p=some m->vCG w m q=some m'->vCG m' n p=some n'->vCG w n (p++q)=some n'
 | [],q,n,m,m',n',h1,h2,h3=>by
   simp only[atF,rBT]at h1;simp only[vCG,rBT]at h3;subst h1 h3; exact h2
 | d::p,q,n,m,m',n',h1,h2,h3=>by
   obtain⟨i,k',g1,g2,rfl⟩:=zJR h3;simp only[atF,g1]at h1;rw[List.cons_append];exact zMZ g1 (vL9 p q _ m m' k' h1 h2 g2)
theorem zNW{w:NodeL}:∀ (p:List DecL) (n n':NodeL) (S:ScpL),vCG w n p=some n'->vCF S n' p=vCF S n p
 | [],n,n',S,h=>rfl
 | d::p,n,n',S,h=>by
   obtain⟨i,k',h1,h2,rfl⟩:=zJR h;simp only[vCF,zJ6,h1];rw[vUQ (zC0 h1).1];exact zNW p _ _ _ h2
theorem zJO:∀ (p:List DecL) (n m:NodeL) (S:ScpL) (d:DecL) (i:Nat),atF n p=some m->vBX m d=some i->vCF S n (p++[d])=vCR (vCF S n p) m d
 | [],n,m,S,d,i,h,hn=>by
   simp only[atF,rBT]at h;subst h;simp only[List.nil_append,vCF,hn]
 | e :: p,n,m,S,d,i,h,hn=>by
   simp only[atF]at h;cases hk:vBX n e with
   | none=>rw[hk]at h; cases h
   | some j =>
     rw[hk]at h;simp only[List.cons_append,vCF,hk];exact zJO p _ m _ d i h hn
theorem uGE{n m:NodeL}{p:List DecL}{d:DecL}{i:Nat}(h:atF n p=some m)(hn:vBX m d=some i):atF n (p++[d])=some m.kids[i]! := by
 rw[vZ0,h];simp only[Option.bind_some,atF,hn]
theorem vHY{H:Nat->NodeL->Prop}{nx:Nat->NodeL->Nat}(hk:∀ c n k,H c n->k∈n.kids->H (nx c n) k)(hs:∀ c n i k,H c n->i<n.kids.length->H (nx c n) k->H c (vBY n i k)){w x:NodeL}(hw:∀ c,H c x->H c w) :
 ∀ (p:List DecL) (n n':NodeL) (c:Nat),H c n->atF n p=some x->vCG w n p=some n'->H c n'
 | [],n,n',c,h,h1,h2=>by
   simp only[atF,rBT]at h1;simp only[vCG,rBT]at h2;subst h1 h2; exact hw c h
 | d::p,n,n',c,h,h1,h2=>by
   obtain⟨i,k',g1,g2,rfl⟩:=zJR h2;simp only[atF,g1]at h1;have hl:=(zC0 g1).1;exact hs c n i k' h hl (vHY hk hs hw p _ k' _ (hk c n _ h (get_mem hl)) h1 g2)
theorem zP8{H:Nat->NodeL->Prop}{nx:Nat->NodeL->Nat}(hk:∀ c n k,H c n->k∈n.kids->H (nx c n) k){x:NodeL}:∀ (p:List DecL) (n:NodeL) (c:Nat),H c n->atF n p=some x->∃ c',H c' x
 | [],n,c,h,h1=>by simp only[atF,rBT]at h1; subst h1; exact⟨c,h⟩
 | d :: p,n,c,h,h1=>by
   simp only[atF]at h1;cases hn:vBX n d with
   | none=>rw[hn]at h1; cases h1
   | some i =>
     rw[hn]at h1;exact zP8 hk p _ _ (hk c n _ h (get_mem (zC0 hn).1)) h1
theorem zP1{w x n n':NodeL}{p:List DecL}{P V v c:Nat}(hw:∀ c,NodeZ P V v c x->NodeZ P V v c w)(h:NodeZ P V v c n)(h1:atF n p=some x)(h2:vCG w n p=some n'):NodeZ P V v c n':=by
 refine vHY (H:=fun c n=>NodeZ P V v c n) (nx:=fun c n=>c - n.lemmas.length) (fun c n k h hk=>h.kid k hk) (fun c n i k h hi hk=>?_) hw p n n' c h h1 h2;refine .mk v c _ h.val h.num h.lem h.spl h.prf fun y hy=>?_
 rcases rCU hy with hy | rfl
 .exact h.kid y hy
 .exact hk
theorem vT1{w x n n':NodeL}{p:List DecL}(hw:Tok x->Tok w)(h:Tok n)(h1:atF n p=some x)(h2:vCG w n p=some n'):Tok n':=by
 refine vHY (H:=fun _ n=>Tok n) (nx:=fun c n=>c) (fun c n k h hk=>h.kid k hk) (fun c n i k h hi hk=>?_) (fun _=>hw) p n n' 0 h h1 h2;refine .mk _ h.lem h.spl h.prf (by show(n.kids.set i k).length<_; rw[rEX]; exact h.kn) fun y hy=>?_
 rcases rCU hy with hy | rfl
 .exact h.kid y hy
 .exact hk
theorem vKM{w x n n':NodeL}{p:List DecL}{d:Nat}(hw:∀ d,vBG d x=true->vBG d w=true)(h:vBG d n=true)(h1:atF n p=some x)(h2:vCG w n p=some n'):vBG d n'=true:=by
 refine vHY (H:=fun d n=>vBG d n=true) (nx:=fun c n=>c - 1) (fun c n k h hk=>?_) (fun c n i k h hi hk=>?_) hw p n n' d h h1 h2
 .have h0:n.kids.length≠0:=by have:=List.length_pos_of_mem hk; omega
  rw[zA1 h0]at h;simp only[rAO,rBF]at h;exact h.2 k hk
 .have h0:n.kids.length≠0:=by omega
  have e1:(vBY n i k).kids.length=n.kids.length:=rEX;rw[zA1 h0]at h;rw[zA1 zom];have e2:vBV (vBY n i k)=vBV n:=by unfold vBV; simp only[e1]; rfl
  rw[e2];simp only[rAO,rBF]at h ⊢;refine⟨h.1,fun y hy=>?_⟩;rcases rCU hy with hy | rfl
  .exact h.2 y hy
  .exact hk
theorem vYT{w x n n':NodeL}{p:List DecL}(h1:atF n p=some x)(h2:vCG w n p=some n'):n'.cnt+x.cnt=n.cnt+w.cnt:=by
 have g3:=vLS (f:=fun _=>1) (fun _ _ _=>rfl) p n n' x h1 h2;rw[<- vH8 _ n' (rAL _),<- vH8 _ n (rAL _),<- vH8 _ w (rAL _),<- vH8 _ x (rAL _)]at g3;exact g3
def wtF(n:NodeL):Nat:=1+(n.lemmas.map vCH).sum+n.proof.length
theorem vN5:∀ (k:Nat) (n:NodeL),SizeOf.sizeOf n<k->n.wt=n.tot wtF:=by
 intro k
 induction k with
 | zero=>intro n h; omega
 | succ k ih =>
   intro n h;rw[n.wt_eq,NodeL.tot_eq]
   congr 2
   exact rBJ fun x hx=>ih x (by have:=NodeL.sizeOf_kid hx; omega)
theorem uLC{w x n n':NodeL}{p:List DecL}(h1:atF n p=some x)(h2:vCG w n p=some n'):n'.wt+x.wt=n.wt+w.wt:=by
 have g3:=vLS (f:=wtF) (fun _ _ _=>rfl) p n n' x h1 h2;rw[<- vN5 _ n' (rAL _),<- vN5 _ n (rAL _),<- vN5 _ w (rAL _),<- vN5 _ x (rAL _)]at g3;exact g3
theorem uLE:∀ (p:List DecL) (n x:NodeL),atF n p=some x->x.wt<=n.wt
 | [],n,x,h=>by simp only[atF,rBT]at h; subst h; exact rAR _
 | d :: p,n,x,h=>by
   simp only[atF]at h;cases hk:vBX n d with
   | none=>rw[hk]at h; cases h
   | some i =>
     rw[hk]at h;have h1:=uLE p _ x h;have h2:=vTO (zC0 hk).1;omega
theorem vUC:∀ (f:Nat) (n:NodeL) (S:ScpL),n.cnt<f->(vCS S n).cnt<=n.cnt:=by
 intro f
 induction f with
 | zero=>intro n S h; omega
 | succ f ih =>
   intro n S hf;cases h:vCP S n with
   | some i =>
     rw[zDK h];have h1:=zDF (p:=S.path.length) (zB4 h).1;have h2:=ih _ S (by omega:(vB4 n i S.path.length).cnt<f);omega
   | none =>
     rw[zDL h,NodeL.cnt_eq,NodeL.cnt_eq n];show 1+(((List.range n.kids.length).map fun i=>vCS (vD2 S n i) n.kids[i]!).map NodeL.cnt).sum<=_
     have e:n.kids.map NodeL.cnt=(List.range n.kids.length).map fun i=>n.kids[i]!.cnt:=by
      refine rDS zsm fun i h1 h2=>?_
      simp only[rAM]at h1;rw[rD5,rD5,rE6,rAT n.kids i h1]
     rw[e,rCO]
     have:∀ l:List Nat,(∀ i∈l,i<n.kids.length)->(l.map (NodeL.cnt∘fun i=>vCS (vD2 S n i) n.kids[i]!)).sum<=(l.map fun i=>n.kids[i]!.cnt).sum:=by
      intro l
      induction l with
      | nil=>intro _; exact rAR _
      | cons a l ihl =>
        intro hl;have ha:=hl a zsm;have h1:=zDX ha;have h2:=ih n.kids[a]! (vD2 S n a) zom;have h3:=ihl fun i hi=>hl i (rBC _ hi)
        simp only[rBN,List.sum_cons,Function.comp_apply];omega
     have:=this (List.range n.kids.length) fun i hi=>by simpa using hi
     omega
theorem vI5:∀ (f:Nat) (n:NodeL) (S:ScpL),n.cnt<f->(vCS S n).wt<=n.wt:=by
 intro f
 induction f with
 | zero=>intro n S h; omega
 | succ f ih =>
   intro n S hf;cases h:vCP S n with
   | some i =>
     rw[zDK h];have h1:=zDF (p:=S.path.length) (zB4 h).1;have h3:=vLJ (p:=S.path.length) (zB4 h).1;have h2:=ih _ S (by omega:(vB4 n i S.path.length).cnt<f);omega
   | none =>
     rw[zDL h,NodeL.wt_eq,n.wt_eq];show 1+(n.lemmas.map vCH).sum+n.proof.length+(((List.range n.kids.length).map fun i=>vCS (vD2 S n i) n.kids[i]!).map NodeL.wt).sum<=_
     have e:n.kids.map NodeL.wt=(List.range n.kids.length).map fun i=>n.kids[i]!.wt:=by
      refine rDS zsm fun i h1 h2=>?_
      simp only[rAM]at h1;rw[rD5,rD5,rE6,rAT n.kids i h1]
     rw[e,rCO]
     have:∀ l:List Nat,(∀ i∈l,i<n.kids.length)->(l.map (NodeL.wt∘fun i=>vCS (vD2 S n i) n.kids[i]!)).sum<=(l.map fun i=>n.kids[i]!.wt).sum:=by
      intro l
      induction l with
      | nil=>intro _; exact rAR _
      | cons a l ihl =>
        intro hl;have ha:=hl a zsm;have h1:=zDX ha;have h2:=ih n.kids[a]! (vD2 S n a) zom;have h3:=ihl fun i hi=>hl i (rBC _ hi)
        simp only[rBN,List.sum_cons,Function.comp_apply];omega
     have:=this (List.range n.kids.length) fun i hi=>by simpa using hi
     omega
theorem vOF:∀ (f:Nat) (n:NodeL) (S:ScpL) (d:Nat),n.cnt<f->vBG d n=true->vBG d (vCS S n)=true:=by
 intro f
 induction f with
 | zero=>intro n S d h; omega
 | succ f ih =>
   intro n S d hf hn;cases h:vCP S n with
   | some i =>
     rw[zDK h];have hi:=(zB4 h).1;have h1:=zDF (p:=S.path.length) hi;exact ih _ S d zom (zGO hn hi)
   | none =>
     by_cases h0:n.kids.length=0
     .rw[zJI h0]; exact hn
     .rw[zDL h]
      have hl:(NodeL.mk n.lemmas n.split ((List.range n.kids.length).map fun i=>vCS (vD2 S n i) n.kids[i]!) n.empty n.proof).kids.length=n.kids.length:=by
       show((List.range n.kids.length).map _).length=_
       simp
      have hn':=hn;rw[zA1 h0]at hn';rw[zA1 zom];simp only[rAO,rBF]at hn' ⊢;refine⟨⟨?_,hn'.1.2⟩,fun y hy=>?_⟩
      .have:=hn'.1.1
       unfold vBV at this ⊢;rw[hl]; exact this
      .obtain⟨i,hi,rfl⟩:=rA5.1 (show y∈(List.range n.kids.length).map _ from hy)
       have hi':i<n.kids.length:=by simpa using hi
       have h1:=zDX hi';exact ih _ _ _ zom (zID hn hi')
theorem vLY:∀ (f:Nat) (n:NodeL) (S:ScpL),n.cnt<f->Tok n->Tok (vCS S n):=by
 intro f
 induction f with
 | zero=>intro n S h; omega
 | succ f ih =>
   intro n S hf hn;cases h:vCP S n with
   | some i =>
     rw[zDK h];have hi:=(zB4 h).1;have h1:=zDF (p:=S.path.length) hi;exact ih _ S zom (zJH zom hi hn)
   | none =>
     rw[zDL h];refine .mk _ hn.lem hn.spl hn.prf (by show((List.range n.kids.length).map _).length<_; simpa using hn.kn) fun y hy=>?_
     obtain⟨i,hi,rfl⟩:=rA5.1 (show y∈(List.range n.kids.length).map _ from hy);have hi':i<n.kids.length:=by simpa using hi
     have h1:=zDX hi';exact ih _ _ zom (hn.kid _ (get_mem hi'))
theorem zNS{P V v:Nat}:∀ (f:Nat) (n:NodeL) (S:ScpL) (c:Nat),n.cnt<f->NodeZ P V v c n->NodeZ P V v c (vCS S n):=by
 intro f
 induction f with
 | zero=>intro n S c h; omega
 | succ f ih =>
   intro n S c hf hn;cases h:vCP S n with
   | some i =>
     rw[zDK h];have hi:=(zB4 h).1;have h1:=zDF (p:=S.path.length) hi;exact ih _ S c zom (zGJ hi hn)
   | none =>
     rw[zDL h];refine .mk v c _ hn.val hn.num hn.lem hn.spl hn.prf fun y hy=>?_
     obtain⟨i,hi,rfl⟩:=rA5.1 (show y∈(List.range n.kids.length).map _ from hy);have hi':i<n.kids.length:=by simpa using hi
     have h1:=zDX hi';exact ih _ _ _ zom (hn.kid _ (get_mem hi'))
theorem vRK{S:ScpL}{n m:NodeL}(h1:n.lemmas=m.lemmas)(h2:n.kids.length=m.kids.length)(h3:n.split=m.split)(h4:n.empty=m.empty)(h5:n.proof=m.proof):vC6 S n↔vC6 S m:=by
 unfold vC6;rw[h1,h2,h3,h4,h5]
theorem vXN{α:Type}(g:Nat->α):(List.range 2).map g=[g 0,g 1]:=rfl
theorem vI6:∀ (f:Nat) (n:NodeL) (S:ScpL) (d:Nat),n.cnt<f->vBG d n=true->vBE S n=none->vBE S (vCS S n)=none:=by
 intro f
 induction f with
 | zero=>intro n S d h; omega
 | succ f ih =>
   intro n S d hf hn hb;cases h:vCP S n with
   | some i =>
     rw[zDK h];obtain⟨hi,hg⟩:=zB4 h;have h1:=zDF (p:=S.path.length) hi;unfold vDM at hg;simp only[rAO,rGE]at hg;exact ih _ S d zom (zGO hn hi) hg.2
   | none =>
     by_cases h0:n.kids.length=0
     .rw[zJI h0]; exact hb
     .obtain⟨e1,e2,f0,f1,_⟩:=zD6 h0 hn
      obtain⟨b0,b1⟩:=zOB h0 hn hb;have c0:=zDX (n:=n) (i:=0) zom;have c1:=zDX (n:=n) (i:=1) zom;have g0:=ih n.kids[0]! (vD2 S n 0) (d - 1) zom f0 b0;have g1:=ih n.kids[1]! (vD2 S n 1) (d - 1) zom f1 b1;rw[zDL h,e1,vXN];have hr:vC6 S (.mk n.lemmas n.split [vCS (vD2 S n 0) n.kids[0]!,vCS (vD2 S n 1) n.kids[1]!] n.empty n.proof):=(vRK (n:=.mk n.lemmas n.split [vCS (vD2 S n 0) n.kids[0]!,vCS (vD2 S n 1) n.kids[1]!] n.empty n.proof) (m:=n) rfl (by rw[e1]; rfl) rfl rfl rfl).2 (zJQ hb);rw[zCD hr rfl];have g0':vBE (vCR S (.mk n.lemmas n.split [vCS (vD2 S n 0) n.kids[0]!,vCS (vD2 S n 1) n.kids[1]!] n.empty n.proof) n.split) (vCS (vD2 S n 0) n.kids[0]!)=none:=g0;have g1':vBE (vCR S (.mk n.lemmas n.split [vCS (vD2 S n 0) n.kids[0]!,vCS (vD2 S n 1) n.kids[1]!] n.empty n.proof) (vTJ n.split)) (vCS (vD2 S n 1) n.kids[1]!)=none:=g1;show(match vBE (vCR S _ n.split) _ with | some p=>some p | none=>vBE (vCR S _ (vTJ n.split)) _)=none
      rw[g0'];exact g1'
structure AccT(q:QryL)(P V v:Nat)(n:NodeL):Prop where
 val:n.valid=true
 va:VaQ q
 bel:vBE ⟨q,[],[]⟩ n=none
 z:NodeZ P V v 1048576 n
 tok:Tok n
 wt:n.wt<=1048576
theorem zB0{n:NodeL}(h:n.valid=true):vBG 2048 n=true/\n.cnt<=65536:=by
 unfold NodeL.valid at h;simp only[rAO,rAX]at h; exact h
theorem zE5{n:NodeL}(h1:vBG 2048 n=true)(h2:n.cnt<=65536):n.valid=true:=by
 unfold NodeL.valid;rw[h1]
 simpa using h2
theorem zMU{n x:NodeL}{p:List DecL}(h:n.valid=true)(h1:atF n p=some x):x.valid=true:=by
 obtain⟨_,h⟩:=zP8 (H:=fun _ n=>n.valid=true) (nx:=fun c _=>c) (fun c n k h hk=>by
  obtain⟨g1,g2⟩:=zB0 h;obtain⟨i,hi,rfl⟩:=rBB hk;have e:=rAT n.kids i hi;rw[<- e];have:=zDX hi
  exact zE5 (vKN _ _ _ _ (rAL _) zom (zID g1 hi)) zom) p n 0 h h1
 exact h
theorem at_len:∀ (p:List DecL) (n x:NodeL) (d:Nat),vBG d n=true->atF n p=some x->p.length<=d
 | [],n,x,d,_,_=>rA8 _
 | e :: p,n,x,d,h,h1=>by
   simp only[atF]at h1;cases hk:vBX n e with
   | none=>rw[hk]at h1; cases h1
   | some i =>
     rw[hk]at h1;have hl:=(zC0 hk).1;obtain⟨e1,e2,_⟩:=zD6 zom h;have:=at_len p _ x (d - 1) (zID h hl) h1;simp only[List.length_cons]; omega
theorem vZ7{q:QryL}{P V v:Nat}{n x w n':NodeL}{p:List DecL}(h:AccT q P V v n)(h1:atF n p=some x)(h2:vCG w n p=some n')(hf:∀ d,vBG d x=true->vBG d w=true)(hc:w.cnt<=x.cnt)(hw:w.wt<=x.wt)(hz:∀ c,NodeZ P V v c x->NodeZ P V v c w)(ht:Tok x->Tok w)(hb:vBE (vCF ⟨q,[],[]⟩ n p) w=none):AccT q P V v n':=by
 obtain⟨g1,g2⟩:=zB0 h.val;have hc2:=vYT h1 h2;exact⟨zE5 (vKM hf g1 h1 h2) zom,h.va,by rw[zK3 p n _ 2048 n' g1 h.bel h2]; exact hb,zP1 hz h.z h1 h2,vT1 ht h.tok h1 h2,by have:=uLC h1 h2; have:=h.wt; omega⟩
theorem vSS{q:QryL}{P V v:Nat}{n x:NodeL}{p:List DecL}{i:Nat}(h:AccT q P V v n)(h1:atF n p=some x)(hi:i<x.kids.length) :
 ∃ n',vCG (vB4 x i p.length) n p=some n'/\vEG (vB4 x i p.length) n p=(n',0)/\n'.valid=true/\NodeZ P V v 1048576 n'/\Tok n'/\n'.cnt<n.cnt/\(vB4 x i p.length).valid=true/\NodeZ P V v 1048576 (vB4 x i p.length)/\Tok (vB4 x i p.length) /\
   vCJ q n'=(match vBE (vCF ⟨q,[],[]⟩ n p) (vB4 x i p.length) with | none=>([],0) | some p=>(p,12)):=by
 obtain⟨g1,g2⟩:=zB0 h.val;obtain⟨n',hr⟩:=zMY (w:=vB4 x i p.length) h1;have hxv:=zMU h.val h1;obtain⟨x1,x2⟩:=zB0 hxv;have hcl:=zDF (p:=p.length) hi;have hc2:=vYT h1 hr;have hv':n'.valid=true:=zE5 (vKM (fun d hd=>zGO hd hi) g1 h1 hr) zom;have hwv:(vB4 x i p.length).valid=true:=zE5 (zGO x1 hi) zom;obtain⟨_,hxt⟩:=zP8 (H:=fun _ n=>Tok n) (nx:=fun c _=>c) (fun c n k h hk=>h.kid k hk) p n 0 h.tok h1;obtain⟨_,hxz⟩:=zP8 (H:=fun _ n=>NodeZ P V v 1048576 n) (nx:=fun c _=>c) (fun c n k h hk=>(h.kid k hk).more _ _ _ _ (rAL _) zom) p n 0 h.z h1;refine⟨n',hr,?_,hv',zP1 (fun c hc=>zGJ hi hc) h.z h1 hr,vT1 (fun ht=>zJH zom hi ht) h.tok h1 hr,zom,hwv,zGJ hi hxz,zJH zom hi hxt,?_⟩
 .unfold vEG
  rw[h.val,hwv,hr];simp[hv']
 .unfold vCJ
  rw[rAV ⟨hv',h.va⟩,zK3 p n _ 2048 n' g1 h.bel hr];cases vBE (vCF ⟨q,[],[]⟩ n p) (vB4 x i p.length)<;>rfl
theorem uA8{q:QryL}{n x:NodeL}{p:List DecL}(h1:atF n p=some x):(vCF ⟨q,[],[]⟩ n p).path=p:=by
 rw[vOK p n _ x h1]; simp
theorem uEU{q:QryL}{P V v:Nat}{n x n':NodeL}{p:List DecL}{i:Nat}(h:AccT q P V v n)(h1:atF n p=some x)(hi:i<x.kids.length)(hr:vCG (vB4 x i p.length) n p=some n')(hb:vBE (vCF ⟨q,[],[]⟩ n p) (vB4 x i p.length)=none):AccT q P V v n':=by
 have hcl:=zDF (p:=p.length) hi;exact vZ7 h h1 hr (fun d hd=>zGO hd hi) zom (rEA (vLJ hi)) (fun c hc=>zGJ hi hc) (fun ht=>zJH zom hi ht) hb
theorem vPJ{n:NodeL}(hv:n.valid=true){i:Nat}(hi:i<n.kids.length):vBX n (vCI n i)=some i:=by
 obtain⟨g1,_⟩:=zB0 hv;obtain⟨e1,e2,_,_,k1,k4⟩:=zD6 zom g1;have hne:=uFF k1 k4;rcases rCQ i 1 with h | h
 .obtain rfl:i=0:=by omega
  exact zLM zom rfl
 .obtain rfl:i=1:=by omega
  unfold vBX;have c1:vCI n 1=opp n.split:=rfl;have c0:vCI n 0=n.split:=rfl;rw[e1];have e0:¬ vCI n 0=vCI n 1:=by rw[c0,c1]; exact fun e=>hne e.symm
  simp[rEW,e0]
theorem uBG{q:QryL}{P V v:Nat}{n x:NodeL}{p:List DecL}(h:AccT q P V v n)(h1:atF n p=some x)(hk:x.kids.length=2)(hno:vCP (vCF ⟨q,[],[]⟩ n p) x=none) :
 ∃ n1 n2,vCG (vCS (vCF ⟨q,[],[]⟩ n (p++[vCI x 0])) x.kids[0]!) n (p++[vCI x 0])=some n1/\AccT q P V v n1/\atF n (p++[vCI x 0])=some x.kids[0]! /\ atF n1 (p++[vCI x 1])=some x.kids[1]! /\
   vCG (vCS (vCF ⟨q,[],[]⟩ n1 (p++[vCI x 1])) x.kids[1]!) n1 (p++[vCI x 1])=some n2/\vCG (vCS (vCF ⟨q,[],[]⟩ n p) x) n p=some n2:=by
 have hxv:=zMU h.val h1;have hn0:=vPJ hxv (i:=0) zom;have hn1:=vPJ hxv (i:=1) zom;have a0:=uGE h1 hn0;have s0:=zJO p n x ⟨q,[],[]⟩ _ _ h1 hn0;have s1:=zJO p n x ⟨q,[],[]⟩ _ _ h1 hn1;obtain⟨S,hS⟩:∃ S,vCF ⟨q,[],[]⟩ n p=S:=⟨_,rfl⟩;obtain⟨k0,hk0⟩:∃ k,vCS (vD2 S x 0) x.kids[0]! = k:=⟨_,rfl⟩;obtain⟨k1,hk1⟩:∃ k,vCS (vD2 S x 1) x.kids[1]! = k:=⟨_,rfl⟩;rw[hS]at hno;rw[s0,hS];show ∃ n1 n2,vCG (vCS (vD2 S x 0) x.kids[0]!) n _=some n1/\_
 rw[hk0];obtain⟨n1,hr1⟩:=zMY (w:=vBY x 0 k0) h1;have hr1':vCG k0 n (p++[vCI x 0])=some n1:=vL9 p _ n x _ n1 h1 (zMZ hn0 rfl) hr1;obtain⟨x1,x2⟩:=zB0 hxv;have hb:=(vGV p n ⟨q,[],[]⟩ 2048 x (zB0 h.val).1 h.bel ⟨h.va,fun d hd=>by cases hd⟩ h1).2.1;rw[hS]at hb;have hkb:=(zOB zom x1 hb).1
 have acc1:AccT q P V v n1:=by
  refine vZ7 h a0 hr1' (fun d hd=>?_) ?_ ?_ (fun c hc=>?_) (fun ht=>?_) ?_
  .rw[<- hk0]; exact vOF _ _ _ _ (rAL _) hd
  .rw[<- hk0]; exact vUC _ _ _ (rAL _)
  .rw[<- hk0]; exact vI5 _ _ _ (rAL _)
  .rw[<- hk0]; exact zNS _ _ _ _ (rAL _) hc
  .rw[<- hk0]; exact vLY _ _ _ (rAL _) ht
  .rw[s0,hS,<- hk0]
   exact vI6 _ _ _ _ (rAL _) (zID x1 zom) hkb
 have a1:atF n1 p=some (vBY x 0 k0):=vZZ p n n1 hr1;have hn1':vBX (vBY x 0 k0) (vCI x 1)=some 1:=by rw[zJ6]; exact hn1
 have a2:=uGE a1 hn1';rw[uLT zdd zom]at a2;have s2:=zJO p n1 _ ⟨q,[],[]⟩ _ _ a1 hn1';rw[zNW p n n1 _ hr1,hS]at s2;obtain⟨n2,hr2⟩:=zMY (w:=vBY (vBY x 0 k0) 1 k1) a1;have hr2':vCG k1 n1 (p++[vCI x 1])=some n2:=vL9 p _ n1 _ _ n2 a1 (zMZ hn1' rfl) hr2;refine⟨n1,n2,hr1',acc1,a0,a2,?_,?_⟩
 .rw[s2]
  show vCG (vCS (vD2 S x 1) x.kids[1]!) n1 _=_
  rw[hk1]; exact hr2'
 .rw[zDL hno,hk,vXN,hk0,hk1,<- vL8 p n n1 hr1]
  have e:vBY (vBY x 0 k0) 1 k1=.mk x.lemmas x.split [k0,k1] x.empty x.proof:=by
   show NodeL.mk _ _ ((x.kids.set 0 k0).set 1 k1) _ _=_
   have:=zG6 hk;generalize x.kids[0]! = a at *
   generalize x.kids[1]! = b at *
   rw[this]; rfl
  rw[<- e]; exact hr2
end Go.PI.Tryz
