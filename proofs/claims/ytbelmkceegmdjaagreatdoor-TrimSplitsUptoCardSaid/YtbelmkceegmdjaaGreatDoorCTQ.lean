/-
  Splits: plain. What is taken out leaves an accepted tree.
-/
import Derived.Test.YtbelmkceegmdjaaGreatDoorCSB
import Derived.Test.YtbelmkceegmdjaaGreatDoorCTR
import Derived.Test.YtbelmkceegmdjaaGreatDoorCTN
set_option linter.unusedVariables false
set_option linter.unusedSimpArgs false
set_option linter.unnecessarySimpa false
set_option maxHeartbeats 0
namespace Go.PI.Tryz
open Go.Proofs Go.PI
def vCA:ScpL→NodeL→List DecL→ScpL
 | S,_,[]=>S
 | S,n,d::p=>match vB4 n d with
   | some i=>vCA (vCN S n d) n.kids[i]! p
   | none=>S
theorem zJE{S:ScpL}{n:NodeL}(h:vBE S n=none):vC7 S n:=by
 refine Classical.byContradiction fun hr=>?_
 rw[zDP hr]at h; cases h
theorem zD0{n:NodeL}{d:Nat}(h0:n.kids.length≠0)(hf:vBH d n=true):n.kids.length=2∧d≠0∧vBH (d - 1) n.kids[0]! = true∧vBH (d - 1) n.kids[1]! = true∧1≤n.split.kind∧n.split.kind≤4:=by
 have hfo:=hf;rw[zA3 h0]at hfo;simp only[Bool.and_eq_true,decide_eq_true_eq]at hfo;have h5:=hfo.1.1;unfold vBU at h5;obtain⟨e1,e2,e3,_⟩:=of_decide_eq_true h5;have hfk:=zDA e1 (d:=d);rw[hf]at hfk;have hfk:=hfk.symm;simp only[Bool.and_eq_true]at hfk;exact⟨e1,hfo.1.2,hfk.2.1,hfk.2.2,e2,e3⟩
theorem vVO{n:NodeL}{d:Nat}{e:DecL}{i:Nat}(hf:vBH d n=true)(h:vB4 n e=some i):n.kids.length≠0∧((i=0∧e=n.split)∨(i=1∧e=opp n.split)):=by
 obtain⟨h1,h2⟩:=zC9 h;have h0:n.kids.length≠0:=by omega
 refine⟨h0,?_⟩;obtain⟨e1,_⟩:=zD0 h0 hf;rcases Nat.lt_or_ge i 1 with hi | hi
 ·obtain rfl:i=0:=by omega
  exact Or.inl ⟨rfl,by rw[← h2]; rfl⟩
 ·obtain rfl:i=1:=by omega
  exact Or.inr ⟨rfl,by rw[← h2]; rfl⟩
theorem set0{α:Type}{a b:α}(k:α):([a,b]:List α).set 0 k=[k,b]:=rfl
theorem set1{α:Type}{a b:α}(k:α):([a,b]:List α).set 1 k=[a,k]:=rfl
theorem zNB{S:ScpL}{n:NodeL}{d:Nat}(h0:n.kids.length≠0)(hf:vBH d n=true)(hb:vBE S n=none):vBE (vCN S n n.split) n.kids[0]! = none∧vBE (vCN S n (opp n.split)) n.kids[1]! = none:=by
 obtain⟨e1,_⟩:=zD0 h0 hf;rw[zCS (zJE hb) (zG3 e1)]at hb;cases h1:vBE (vCN S n n.split) n.kids[0]! with
 | some p=>rw[h1]at hb; cases hb
 | none=>rw[h1]at hb; exact⟨rfl,hb⟩
theorem zKJ{w:NodeL}:∀ (p:List DecL) (n:NodeL) (S:ScpL) (d:Nat) (n':NodeL),vBH d n=true→vBE S n=none→vCF w n p=some n'→vBE S n'=vBE (vCA S n p) w
 | [],n,S,d,n',_,_,h=>by
   simp only[vCF,Option.some.injEq]at h;subst h; rfl
 | e :: p,n,S,d,n',hf,hb,h=>by
   simp only[vCF]at h;cases hk:vB4 n e with
   | none=>rw[hk]at h; cases h
   | some i =>
     rw[hk]at h;simp only[Option.map_eq_some_iff]at h;obtain⟨k',h1,h2⟩:=h;obtain⟨h0,hi⟩:=vVO hf hk;obtain⟨e1,e2,f0,f1,_⟩:=zD0 h0 hf;obtain⟨b0,b1⟩:=zNB h0 hf hb;have hr:=zJE hb
     have hr':vC7 S n':=by
      rw[← h2];refine⟨hr.1,?_⟩;have h3:=hr.2;rw[if_neg h0]at h3;rw[if_neg (show ¬ (vBX n i k').kids.length=0 by show ¬ (n.kids.set i k').length=0; rw[List.length_set]; exact h0)];exact h3
     have hsc:vCA S n (e::p)=vCA (vCN S n e) n.kids[i]! p:=by simp only[vCA,hk]
     rw[hsc];rcases hi with⟨rfl,he⟩ | ⟨rfl,he⟩
     ·have hkids:n'.kids=[k',n.kids[1]!]:=by
       rw[← h2]; show n.kids.set 0 k'=_
       conv=>lhs; rw[zG3 e1]
       exact set0 k'
      have hs:n'.split=n.split:=by rw[← h2]; rfl
      have hkS:∀ x,vCN S n' x=vCN S n x:=fun x=>by rw[← h2]; rfl
      have ih:=zKJ p n.kids[0]! (vCN S n n.split) (d - 1) k' f0 b0 h1;rw[zCS hr' hkids,hs,hkS,hkS,ih,he];have e5:vBE (vCN S n (vZL n.split)) n.kids[1]! = none:=b1;rw[e5];cases vBE (vCA (vCN S n n.split) n.kids[0]! p) w<;>rfl
     ·have hkids:n'.kids=[n.kids[0]!,k']:=by
       rw[← h2]; show n.kids.set 1 k'=_
       conv=>lhs; rw[zG3 e1]
       exact set1 k'
      have hs:n'.split=n.split:=by rw[← h2]; rfl
      have hkS:∀ x,vCN S n' x=vCN S n x:=fun x=>by rw[← h2]; rfl
      have ih:=zKJ p n.kids[1]! (vCN S n (opp n.split)) (d - 1) k' f1 b1 h1;rw[zCS hr' hkids,hs,hkS,hkS,b0,he];exact ih
theorem vGD:∀ (p:List DecL) (n:NodeL) (S:ScpL) (d:Nat) (m:NodeL),vBH d n=true→vBE S n=none→vB0 S→atF n p=some m→vB0 (vCA S n p)∧vBE (vCA S n p) m=none∧(vCA S n p).q=S.q
 | [],n,S,d,m,_,hb,hS,h=>by
   simp only[atF,Option.some.injEq]at h;subst h; exact⟨hS,hb,rfl⟩
 | e :: p,n,S,d,m,hf,hb,hS,h=>by
   simp only[atF]at h;cases hk:vB4 n e with
   | none=>rw[hk]at h; cases h
   | some i =>
     rw[hk]at h;obtain⟨h0,hi⟩:=vVO hf hk;obtain⟨e1,e2,f0,f1,_⟩:=zD0 h0 hf;obtain⟨b0,b1⟩:=zNB h0 hf hb;have hfit:vE8 S.q n.split:=by have:=(zJE hb).2; rw[if_neg h0]at this; exact this
     have hsc:vCA S n (e::p)=vCA (vCN S n e) n.kids[i]! p:=by simp only[vCA,hk]
     rw[hsc];rcases hi with⟨rfl,rfl⟩ | ⟨rfl,rfl⟩
     ·exact vGD p n.kids[0]! _ (d - 1) m f0 b0 (Go.PI.ok_kid hS hfit) h
     ·exact vGD p n.kids[1]! _ (d - 1) m f1 b1 (Go.PI.ok_kid hS (vOF hfit)) h
def vG8:NodeL→List DecL→List LemL
 | n,[]=>n.lemmas
 | n,d::p=>n.lemmas++(match vB4 n d with
   | some i=>vG8 n.kids[i]! p
   | none=>[])
theorem vN2:∀ (p:List DecL) (n m:NodeL),atF n p=some m→m.lemmas.length≤(vG8 n p).length
 | [],n,m,h=>by simp only[atF,Option.some.injEq]at h; subst h; exact Nat.le_refl _
 | e :: p,n,m,h=>by
   simp only[atF]at h;cases hk:vB4 n e with
   | none=>rw[hk]at h; cases h
   | some i =>
     rw[hk]at h;have:=vN2 p _ m h;simp only[vG8,hk,List.length_append]; omega
theorem vM5:∀ (p:List DecL) (n:NodeL) (S:ScpL) (m:NodeL),atF n p=some m→vCA S n p=⟨S.q,S.path++p,S.lems++(vG8 n p).take ((vG8 n p).length - m.lemmas.length)⟩
 | [],n,S,m,h=>by
   simp only[atF,Option.some.injEq]at h;subst h;simp[vCA,vG8]
 | e :: p,n,S,m,h=>by
   simp only[atF]at h;cases hk:vB4 n e with
   | none=>rw[hk]at h; cases h
   | some i =>
     rw[hk]at h;have h1:=vM5 p n.kids[i]! (vCN S n e) m h;have h2:=vN2 p _ m h;simp only[vCA,vG8,hk];rw[h1];simp only[vCN,List.append_assoc,List.cons_append,List.nil_append,List.length_append];rw[List.take_append,List.take_of_length_le (l:=n.lemmas) zom,show n.lemmas.length+(vG8 n.kids[i]! p).length - m.lemmas.length - n.lemmas.length=(vG8 n.kids[i]! p).length - m.lemmas.length by omega]
theorem vJN:∀ (k:Nat) (n:NodeL) (d e:Nat),SizeOf.sizeOf n<k→d≤e→vBH d n=true→vBH e n=true:=by
 intro k
 induction k with
 | zero=>intro n d e h; omega
 | succ k ih =>
   intro n d e hk hde hf;by_cases h0:n.kids.length=0
   ·rw[zB8 h0]at hf ⊢; exact hf
   ·obtain⟨e1,e2,f0,f1,k1,k4⟩:=zD0 h0 hf
    have s0:=NodeL.sizeOf_kid (get_mem (l:=n.kids) (show 0<n.kids.length by omega));have s1:=NodeL.sizeOf_kid (get_mem (l:=n.kids) (show 1<n.kids.length by omega));rw[zDA e1]at hf ⊢;simp only[Bool.and_eq_true,decide_eq_true_eq]at hf ⊢;exact⟨⟨hf.1.1,zom⟩,ih _ _ _ zom zom f0,ih _ _ _ zom zom f1⟩
theorem vHK:∀ (k:Nat) (n:NodeL),SizeOf.sizeOf n<k→n.cnt=n.tot fun _=>1:=by
 intro k
 induction k with
 | zero=>intro n h; omega
 | succ k ih =>
   intro n h;rw[NodeL.cnt_eq,NodeL.tot_eq]
   congr 2
   exact List.map_congr_left fun x hx=>ih x (by have:=NodeL.sizeOf_kid hx; omega)
theorem vS0{α:Type}[Inhabited α](f:α→Nat):∀ (l:List α) (i:Nat) (x:α),i<l.length→((l.set i x).map f).sum+f l[i]! = (l.map f).sum+f x
 | a::l,0,x,_=>by
   simp only[List.set_cons_zero,List.map_cons,List.sum_cons];have:(a::l)[0]! = a:=rfl;rw[this]; omega
 | a::l,i+1,x,h=>by
   have:=vS0 f l i x (by simpa using h);simp only[List.set_cons_succ,List.map_cons,List.sum_cons]
   have e:(a::l)[i+1]! = l[i]! := by
    rw[getElem!_pos (a::l) (i+1) h,getElem!_pos l i (by simpa using h)]; rfl
   rw[e]; omega
theorem vKP{w:NodeL}{f:NodeL→Nat}(hf:∀ x i k,f (vBX x i k)=f x):∀ (p:List DecL) (n n' m:NodeL),atF n p=some m→vCF w n p=some n'→n'.tot f+m.tot f=n.tot f+w.tot f
 | [],n,n',m,hm,h=>by
   simp only[vCF,Option.some.injEq]at h;simp only[atF,Option.some.injEq]at hm;subst h hm; omega
 | x :: p,n,n',m,hm,h=>by
   simp only[vCF]at h;simp only[atF]at hm;cases hk:vB4 n x with
   | none=>rw[hk]at h; cases h
   | some i =>
     rw[hk]at h hm;simp only[Option.map_eq_some_iff]at h;obtain⟨k',h1,h2⟩:=h;have ih:=vKP hf p _ k' m hm h1;have hl:=(zC9 hk).1;rw[← h2,NodeL.tot_eq f (vBX n i k'),hf,NodeL.tot_eq f n];have:=vS0 (NodeL.tot f) n.kids i k' hl;show f n+((n.kids.set i k').map (NodeL.tot f)).sum+_=_
     omega
theorem NodeZ.more{P V v:Nat}:∀ (k:Nat) (n:NodeL) (c c':Nat),SizeOf.sizeOf n<k→c≤c'→NodeZ P V v c n→NodeZ P V v c' n:=by
 intro k
 induction k with
 | zero=>intro n c c' h; omega
 | succ k ih =>
   intro n c c' hk hc h;exact .mk v c' n h.val (by have:=h.num; omega) h.lem h.spl h.prf fun x hx=>ih x _ _ (by have:=NodeL.sizeOf_kid hx; omega) zom (h.kid x hx)
theorem zL8{w n m:NodeL}{p:List DecL}(h:atF n p=some m):∃ n',vCF w n p=some n':=by
 have:=vXT w p n;rw[h]at this;cases hr:vCF w n p with
 | some n'=>exact⟨n',rfl⟩
 | none=>rw[hr]at this; cases this
theorem uHC(f:RowL→RowL):∀ (k:Nat) (n:NodeL),SizeOf.sizeOf n<k→(vCM f n).cnt=n.cnt:=by
 intro k
 induction k with
 | zero=>intro n h; omega
 | succ k ih =>
   intro n h;rw[NodeL.cnt_eq,NodeL.cnt_eq n,zFT];show 1+((n.kids.map (vCM f)).map NodeL.cnt).sum=_
   rw[List.map_map]
   congr 2
   exact List.map_congr_left fun x hx=>ih x (by have:=NodeL.sizeOf_kid hx; omega)
theorem zIB(f:RowL→RowL)(n:NodeL):(vCM f n).kids=n.kids.map (vCM f):=by rw[zFT]; rfl
theorem zGS(f:RowL→RowL)(n:NodeL):(vCM f n).lemmas=n.lemmas.map (vDJ f):=by rw[zFT]; rfl
theorem zJ8(f:RowL→RowL)(n:NodeL):(vCM f n).split=n.split:=by rw[zFT]; rfl
theorem vWR(f:RowL→RowL)(n:NodeL):(vCM f n).empty=n.empty:=by rw[zFT]; rfl
theorem zJ9(f:RowL→RowL)(n:NodeL):(vCM f n).proof=vBS f n.proof:=by rw[zFT]; rfl
theorem uBM(f:RowL→RowL):∀ (k:Nat) (n:NodeL) (d:Nat),SizeOf.sizeOf n<k→vBH d (vCM f n)=vBH d n:=by
 intro k
 induction k with
 | zero=>intro n d h; omega
 | succ k ih =>
   intro n d h;have hl:(vCM f n).kids.length=n.kids.length:=by rw[zIB,List.length_map]
   by_cases h0:n.kids.length=0
   ·rw[zB8 h0,zB8 zom]; unfold vEH; rw[zJ8]
   ·rw[zA3 h0,zA3 zom]
    congr 1
    ·congr 1
     unfold vBU;rw[hl,zJ8,vWR,zJ9];simp[vBS]
    ·rw[zIB,List.all_map,Bool.eq_iff_iff,List.all_eq_true,List.all_eq_true]
     have e:∀ x∈n.kids,vBH (d - 1) (vCM f x)=vBH (d - 1) x:=fun x hx=>ih x _ (by have:=NodeL.sizeOf_kid hx; omega)
     exact⟨fun g x hx=>by have:=g x hx; rw[← e x hx]; exact this,fun g x hx=>by have:=g x hx; rw[← e x hx]at this; exact this⟩
theorem vWE{n m:NodeL}(h1:n.kids=m.kids)(h2:n.split=m.split)(h3:n.empty=m.empty)(h4:n.proof.length=m.proof.length)(d:Nat):vBH d n=vBH d m:=by
 by_cases h0:n.kids.length=0
 ·rw[zB8 h0,zB8 (by rw[← h1]; exact h0)]; unfold vEH; rw[h2]
 ·rw[zA3 h0,zA3 (by rw[← h1]; exact h0)]
  unfold vBU;rw[h1,h2,h3,h4]
theorem zH7{n:NodeL}{d i:Nat}(hf:vBH d n=true)(hi:i<n.kids.length):vBH (d - 1) n.kids[i]! = true:=by
 rw[zA3 zom]at hf;simp only[Bool.and_eq_true,List.all_eq_true]at hf;exact hf.2 _ (get_mem hi)
theorem zGE{n:NodeL}{d i:Nat}{p:Int}(hf:vBH d n=true)(hi:i<n.kids.length):vBH d (vBY n i p)=true:=by
 rw[vWE (n:=vBY n i p) (m:=vCM (vCL (-1) p) n.kids[i]!) rfl rfl rfl rfl,uBM _ _ _ _ (Nat.lt_succ_self _)];exact vJN _ _ _ _ (Nat.lt_succ_self _) zom (zH7 hf hi)
theorem uBT{n m:NodeL}(h1:n.kids=m.kids):n.cnt=m.cnt:=by rw[NodeL.cnt_eq,NodeL.cnt_eq m,h1]
theorem zD4{n:NodeL}{i:Nat}(hi:i<n.kids.length):n.kids[i]!.cnt<n.cnt:=by
 rw[NodeL.cnt_eq n];have:=zGN (f:=NodeL.cnt) (get_mem hi);omega
theorem zDL{n:NodeL}{i:Nat}{p:Int}(hi:i<n.kids.length):(vBY n i p).cnt<n.cnt:=by
 rw[uBT (n:=vBY n i p) (m:=vCM (vCL (-1) p) n.kids[i]!) rfl,uHC _ _ _ (Nat.lt_succ_self _)];exact zD4 hi
theorem uIQ(f:RowL→RowL):∀ (k:Nat) (n:NodeL),SizeOf.sizeOf n<k→(vCM f n).wt=n.wt:=by
 intro k
 induction k with
 | zero=>intro n h; omega
 | succ k ih =>
   intro n h;rw[NodeL.wt_eq,n.wt_eq,zIB,zGS,zJ9,List.map_map,List.map_map];have e1:n.kids.map (NodeL.wt∘vCM f)=n.kids.map NodeL.wt:=List.map_congr_left fun x hx=>ih x (by have:=NodeL.sizeOf_kid hx; omega)
   have e2:n.lemmas.map (vDO∘vDJ f)=n.lemmas.map vDO:=List.map_congr_left fun x hx=>by simp[vDO,vDJ,vBS]
   rw[e1,e2];simp[vBS]
theorem vRY{n:NodeL}{i:Nat}(hi:i<n.kids.length):1+(n.lemmas.map vDO).sum+n.kids[i]!.wt≤n.wt:=by
 rw[n.wt_eq];have:=zGN (f:=NodeL.wt) (get_mem hi);omega
theorem vRX{n:NodeL}{i:Nat}{p:Int}(hi:i<n.kids.length):(vBY n i p).wt<n.wt:=by
 have h1:=vRY hi;have h2:=uIQ (vCL (-1) p) _ n.kids[i]! (Nat.lt_succ_self _);rw[NodeL.wt_eq]at h2
 have h3:(vBY n i p).wt=1+((n.lemmas++(vCM (vCL (-1) p) n.kids[i]!).lemmas).map vDO).sum+(vCM (vCL (-1) p) n.kids[i]!).proof.length+((vCM (vCL (-1) p) n.kids[i]!).kids.map NodeL.wt).sum:=by
  rw[NodeL.wt_eq]; rfl
 rw[List.map_append,List.sum_append]at h3;omega
def vDX(S:ScpL)(n:NodeL)(i:Nat):ScpL:=vCN S n (vCR n i)
noncomputable def vDB(S:ScpL)(n:NodeL)(i:Nat):Bool:=!onN n.kids[i]! S.path.length && (vBE S (vBY n i S.path.length)).isNone
noncomputable def vCI(S:ScpL)(n:NodeL):Option Nat:=(List.range n.kids.length).find? (vDB S n)
theorem zCN{S:ScpL}{n:NodeL}{i:Nat}(h:vCI S n=some i):i<n.kids.length∧vDB S n i=true:=by
 unfold vCI at h;have h1:=List.mem_of_find?_eq_some h;have h2:=List.find?_some h;simp at h1;exact⟨h1,h2⟩
theorem zNG{S:ScpL}{n:NodeL}{i:Nat}(hi:i<n.kids.length)(h:vDB S n i=true)(hb:∀ j,j<i→vDB S n j=false):vCI S n=some i:=by
 unfold vCI;rw[List.find?_eq_some_iff_getElem];refine⟨h,i,by simpa using hi,zsm,fun j hj=>?_⟩;simp only[List.getElem_range];rw[hb j hj]; rfl
theorem zIV{S:ScpL}{n:NodeL}(hb:∀ j,j<n.kids.length→vDB S n j=false):vCI S n=none:=by
 unfold vCI;rw[List.find?_eq_none];intro j hj;simp at hj;rw[hb j hj]; simp
noncomputable def uED:Nat→ScpL→NodeL→NodeL
 | 0,_,n=>n
 | f+1,S,n=>match vCI S n with
   | some i=>uED f S (vBY n i S.path.length)
   | none=>.mk n.lemmas n.split ((List.range n.kids.length).map fun i=>uED f (vDX S n i) n.kids[i]!) n.empty n.proof
noncomputable def vCW(S:ScpL)(n:NodeL):NodeL:=uED n.cnt S n
theorem zI8:∀ (f g:Nat) (S:ScpL) (n:NodeL),n.cnt≤f→n.cnt≤g→uED f S n=uED g S n
 | 0,g,S,n,h,_=>by have:=zFS n; omega
 | f+1,0,S,n,_,h=>by have:=zFS n; omega
 | f + 1,g+1,S,n,hf,hg=>by
   unfold uED;cases h:vCI S n with
   | some i =>
     have:=zDL (p:=S.path.length) (zCN h).1;exact zI8 f g _ _ zom zom
   | none =>
     dsimp only
     congr 1
     refine List.map_congr_left fun i hi=>?_
     simp at hi;have:=zD4 hi;exact zI8 f g _ _ zom zom
theorem vSO(S:ScpL)(n:NodeL):vCW S n=match vCI S n with
 | some i=>vCW S (vBY n i S.path.length)
 | none=>.mk n.lemmas n.split ((List.range n.kids.length).map fun i=>vCW (vDX S n i) n.kids[i]!) n.empty n.proof:=by
 unfold vCW;have hc:=zFS n;obtain⟨m,hm⟩:∃ m,n.cnt=m+1:=⟨n.cnt - 1,zom⟩;rw[hm]
 conv=>lhs; unfold uED
 cases h:vCI S n with
 | some i =>
   have:=zDL (p:=S.path.length) (zCN h).1;exact zI8 _ _ _ _ zom (Nat.le_refl _)
 | none =>
   dsimp only
   congr 1
   refine List.map_congr_left fun i hi=>?_
   simp at hi;have:=zD4 hi;exact zI8 _ _ _ _ zom (Nat.le_refl _)
theorem zDV{S:ScpL}{n:NodeL}{i:Nat}(h:vCI S n=some i):vCW S n=vCW S (vBY n i S.path.length):=by
 rw[vSO,h]
theorem zDW{S:ScpL}{n:NodeL}(h:vCI S n=none):vCW S n=.mk n.lemmas n.split ((List.range n.kids.length).map fun i=>vCW (vDX S n i) n.kids[i]!) n.empty n.proof:=by
 rw[vSO,h]
theorem zI7{S:ScpL}{n:NodeL}(h:n.kids.length=0):vCW S n=n:=by
 rw[zDW (zIV fun j hj=>by omega),h];have:n.kids=[]:=List.length_eq_zero_iff.1 h;cases n
 simp_all [NodeL.lemmas,NodeL.split,NodeL.kids,NodeL.empty,NodeL.proof]
inductive Tok:NodeL→Prop
 | mk (n:NodeL) (h1:∀ m∈n.lemmas,m.value.sm∧vC4 m.proof∧vC6 m.proof) (h2:n.split.sm) (h3:vC4 n.proof∧vC6 n.proof) (h4:n.kids.length<2097152) (h5:∀ k∈n.kids,Tok k):Tok n
theorem Tok.lem{n:NodeL}(h:Tok n):∀ m∈n.lemmas,m.value.sm∧vC4 m.proof∧vC6 m.proof:=by cases h; assumption
theorem Tok.spl{n:NodeL}(h:Tok n):n.split.sm:=by cases h; assumption
theorem Tok.prf{n:NodeL}(h:Tok n):vC4 n.proof∧vC6 n.proof:=by cases h; assumption
theorem Tok.kn{n:NodeL}(h:Tok n):n.kids.length<2097152:=by cases h; assumption
theorem Tok.kid{n:NodeL}(h:Tok n):∀ k∈n.kids,Tok k:=by cases h; assumption
theorem zI5{P V v:Nat}:∀ (k:Nat) (n:NodeL) (c:Nat),SizeOf.sizeOf n<k→c≤1048576→NodeZ P V v c n→Tok n→n.Sm∧NodeRg n:=by
 intro k
 induction k with
 | zero=>intro n c h; omega
 | succ k ih =>
   intro n c hk hc hz ht;have hl:=hz.num;have hkid:=fun x hx=>ih x _ (by have:=NodeL.sizeOf_kid hx; omega) zom (hz.kid x hx) (ht.kid x hx)
   exact⟨.mk n ⟨zom,fun m hm=>⟨(ht.lem m hm).1,(ht.lem m hm).2.2⟩⟩ ht.spl ht.kn (fun x hx=>(hkid x hx).1) ht.prf.2,
    .mk n zom (fun m hm=>(ht.lem m hm).2.1) ht.prf.1 ht.kn (fun x hx=>(hkid x hx).2)⟩
theorem uI1:∀ (k:Nat) (n:NodeL),SizeOf.sizeOf n<k→n.Sm→NodeRg n→Tok n:=by
 intro k
 induction k with
 | zero=>intro n h; omega
 | succ k ih =>
   intro n hk hs hr;exact .mk n (fun m hm=>⟨(hs.lems.2 m hm).1,hr.lem m hm,(hs.lems.2 m hm).2⟩) hs.dec ⟨hr.prf,hs.prf⟩ hr.kn fun x hx=>ih x (by have:=NodeL.sizeOf_kid hx; omega) (hs.kid hx) (hr.kid x hx)
theorem vM9{p:Int}(h0:0≤p){l:List MultL}(h:vC4 l∧vC6 l):vC4 (vBS (vCL (-1) p) l)∧vC6 (vBS (vCL (-1) p) l):=by
 obtain⟨⟨h1,h2⟩,h3,h4⟩:=h;refine⟨⟨by simpa [vBS]using h1,fun m hm=>?_⟩,by simpa [vBS]using h3,fun m hm=>?_⟩
 ·obtain⟨x,hx,rfl⟩:=List.mem_map.1 hm
  obtain⟨g1,g2,g3⟩:=h2 x hx;refine⟨g1,?_⟩;show -9223372036854775808≤(if 0≤p∧x.row.kind=4 then vDT x.row.index p else x.row.index)∧(if 0≤p∧x.row.kind=4 then vDT x.row.index p else x.row.index)<9223372036854775808
  unfold vDT
  split
  ·split<;>omega
  ·omega
 ·obtain⟨x,hx,rfl⟩:=List.mem_map.1 hm
  exact h4 x hx
theorem uD9{p:Int}(h0:0≤p):∀ (k:Nat) (n:NodeL),SizeOf.sizeOf n<k→Tok n→Tok (vCM (vCL (-1) p) n):=by
 intro k
 induction k with
 | zero=>intro n h; omega
 | succ k ih =>
   intro n hk h;refine .mk _ (fun m hm=>?_) (by rw[zJ8]; exact h.spl) (by rw[zJ9]; exact vM9 h0 h.prf) (by rw[zIB,List.length_map]; exact h.kn) fun x hx=>?_
   ·rw[zGS]at hm
    obtain⟨y,hy,rfl⟩:=List.mem_map.1 hm;exact⟨(h.lem y hy).1,vM9 h0 (h.lem y hy).2⟩
   ·rw[zIB]at hx
    obtain⟨y,hy,rfl⟩:=List.mem_map.1 hx;exact ih y (by have:=NodeL.sizeOf_kid hy; omega) (h.kid y hy)
theorem zI6{n:NodeL}{i:Nat}{p:Int}(h0:0≤p)(hi:i<n.kids.length)(h:Tok n):Tok (vBY n i p):=by
 have hk:=uD9 h0 _ _ (Nat.lt_succ_self _) (h.kid _ (get_mem hi));refine .mk _ (fun m hm=>?_) hk.spl hk.prf hk.kn hk.kid;rcases List.mem_append.1 hm with hm | hm
 ·exact h.lem m hm
 ·exact hk.lem m hm
theorem vOK{P V:Nat}{f:RowL→RowL}{l:List MultL}(h:vMC P V l):vMC P V (vBS f l):=by
 obtain⟨⟨h1,h2⟩,h3⟩:=h;have e1:(vBS f l).length=l.length:=by simp[vBS]
 have e2:vEC (vBS f l)=vEC l:=by unfold vEC vBS; rw[List.map_map]; rfl
 refine⟨⟨zom,fun m hm=>?_⟩,by rw[e1,e2]; exact h3⟩;obtain⟨x,hx,rfl⟩:=List.mem_map.1 hm;exact h2 x hx
theorem vVN{f:RowL→RowL}{P V v:Nat}:∀ (k:Nat) (n:NodeL) (c:Nat),SizeOf.sizeOf n<k→NodeZ P V v c n→NodeZ P V v c (vCM f n):=by
 intro k
 induction k with
 | zero=>intro n c h; omega
 | succ k ih =>
   intro n c hk h;refine .mk v c _ (fun m hm=>?_) (by rw[zGS,List.length_map]; exact h.num) (fun m hm=>?_) (by rw[zJ8]; exact h.spl) (by rw[zJ9]; exact vOK h.prf) fun x hx=>?_
   ·rw[zGS]at hm
    obtain⟨y,hy,rfl⟩:=List.mem_map.1 hm;exact h.val y hy
   ·rw[zGS]at hm
    obtain⟨y,hy,rfl⟩:=List.mem_map.1 hm;exact⟨(h.lem y hy).1,vOK (h.lem y hy).2⟩
   ·rw[zIB]at hx
    obtain⟨y,hy,rfl⟩:=List.mem_map.1 hx;rw[zGS,List.length_map];exact ih y _ (by have:=NodeL.sizeOf_kid hy; omega) (h.kid y hy)
theorem zF9{n:NodeL}{i:Nat}{p:Int}{P V v c:Nat}(hi:i<n.kids.length)(h:NodeZ P V v c n):NodeZ P V v c (vBY n i p):=by
 have hk:=vVN (f:=vCL (-1) p) _ _ _ (Nat.lt_succ_self _) (h.kid _ (get_mem hi));have h1:=h.num;have h2:=hk.num;have el:(vBY n i p).lemmas.length=n.lemmas.length+(vCM (vCL (-1) p) n.kids[i]!).lemmas.length:=List.length_append;refine .mk v c _ (fun m hm=>?_) zom (fun m hm=>?_) hk.spl hk.prf fun x hx=>?_
 ·rcases List.mem_append.1 hm with hm | hm
  ·exact h.val m hm
  ·exact hk.val m hm
 ·rcases List.mem_append.1 hm with hm | hm
  ·exact h.lem m hm
  ·exact hk.lem m hm
 ·have:=hk.kid x hx
  rw[el,← Nat.sub_sub];exact this
theorem vXU:∀ (p q:List DecL) (n:NodeL),atF n (p++q)=(atF n p).bind fun m=>atF m q
 | [],q,n=>by simp[atF]
 | d::p,q,n=>by
   simp only[List.cons_append,atF];cases vB4 n d with
   | none=>rfl
   | some i=>exact vXU p q _
theorem zJT(n:NodeL)(i:Nat)(k:NodeL)(d:DecL):vB4 (vBX n i k) d=vB4 n d:=by
 unfold vB4;have e1:(vBX n i k).kids.length=n.kids.length:=List.length_set;have e2:∀ j,vCR (vBX n i k) j=vCR n j:=fun j=>rfl
 simp only[e1,e2]
theorem vS1{n:NodeL}{i:Nat}{k:NodeL}(h:i<n.kids.length):(vBX n i k).kids[i]! = k:=by
 show(n.kids.set i k)[i]! = k
 rw[getElem!_pos _ i (by simpa using h)]
 simp
theorem uI5{n:NodeL}{i j:Nat}{k:NodeL}(hne:i≠j)(h:j<n.kids.length):(vBX n i k).kids[j]! = n.kids[j]! := by
 show(n.kids.set i k)[j]! = _
 rw[getElem!_pos _ j (by simpa using h),getElem!_pos _ j h,List.getElem_set_ne hne]
theorem set_set{n:NodeL}{i:Nat}{k k':NodeL}:vBX (vBX n i k) i k'=vBX n i k':=by
 show NodeL.mk _ _ ((n.kids.set i k).set i k') _ _=NodeL.mk _ _ (n.kids.set i k') _ _
 rw[List.set_set]; rfl
theorem zJF{w n n':NodeL}{d:DecL}{p:List DecL}(h:vCF w n (d::p)=some n'):∃ i k',vB4 n d=some i∧vCF w n.kids[i]! p=some k'∧n'=vBX n i k':=by
 simp only[vCF]at h;cases hk:vB4 n d with
 | none=>rw[hk]at h; cases h
 | some i =>
   rw[hk]at h;simp only[Option.map_eq_some_iff]at h;obtain⟨k',h1,h2⟩:=h;exact⟨i,k',rfl,h1,h2.symm⟩
theorem zL9{w n k':NodeL}{d:DecL}{p:List DecL}{i:Nat}(hk:vB4 n d=some i)(h:vCF w n.kids[i]! p=some k'):vCF w n (d::p)=some (vBX n i k'):=by
 simp only[vCF,hk,h,Option.map_some]
theorem vK4{v w:NodeL}:∀ (p:List DecL) (n n':NodeL),vCF v n p=some n'→vCF w n' p=vCF w n p
 | [],n,n',h=>rfl
 | d :: p,n,n',h=>by
   obtain⟨i,k',h1,h2,rfl⟩:=zJF h;have hl:=(zC9 h1).1;simp only[vCF,zJT,h1];rw[vS1 hl,vK4 p _ _ h2];cases vCF w n.kids[i]! p with
   | none=>rfl
   | some k2 =>
     simp only[Option.map_some];rw[set_set]
theorem vXR{w:NodeL}:∀ (p:List DecL) (n n':NodeL),vCF w n p=some n'→atF n' p=some w
 | [],n,n',h=>by simp only[vCF,Option.some.injEq]at h; subst h; rfl
 | d::p,n,n',h=>by
   obtain⟨i,k',h1,h2,rfl⟩:=zJF h;simp only[atF,zJT,h1];rw[vS1 (zC9 h1).1];exact vXR p _ _ h2
theorem vNE:∀ (p:List DecL) (n m:NodeL),atF n p=some m→vCF m n p=some n
 | [],n,m,h=>by simp only[atF,Option.some.injEq]at h; subst h; rfl
 | d :: p,n,m,h=>by
   simp only[atF]at h;cases hk:vB4 n d with
   | none=>rw[hk]at h; cases h
   | some i =>
     rw[hk]at h;have ih:=vNE p _ m h;have hl:=(zC9 hk).1;rw[zL9 hk ih]
     congr 1
     unfold vBX
     have:n.kids.set i n.kids[i]! = n.kids:=by
      rw[getElem!_pos n.kids i hl]; exact List.set_getElem_self hl
     rw[this];cases n; rfl
theorem vK5{w:NodeL}:∀ (p q:List DecL) (n m m' n':NodeL),atF n p=some m→vCF w m q=some m'→vCF m' n p=some n'→vCF w n (p++q)=some n'
 | [],q,n,m,m',n',h1,h2,h3=>by
   simp only[atF,Option.some.injEq]at h1;simp only[vCF,Option.some.injEq]at h3;subst h1 h3; exact h2
 | d::p,q,n,m,m',n',h1,h2,h3=>by
   obtain⟨i,k',g1,g2,rfl⟩:=zJF h3;simp only[atF,g1]at h1;rw[List.cons_append];exact zL9 g1 (vK5 p q _ m m' k' h1 h2 g2)
theorem zMX{w:NodeL}:∀ (p:List DecL) (n n':NodeL) (S:ScpL),vCF w n p=some n'→vCA S n' p=vCA S n p
 | [],n,n',S,h=>rfl
 | d::p,n,n',S,h=>by
   obtain⟨i,k',h1,h2,rfl⟩:=zJF h;simp only[vCA,zJT,h1];rw[vS1 (zC9 h1).1];exact zMX p _ _ _ h2
theorem zJC:∀ (p:List DecL) (n m:NodeL) (S:ScpL) (d:DecL) (i:Nat),atF n p=some m→vB4 m d=some i→vCA S n (p++[d])=vCN (vCA S n p) m d
 | [],n,m,S,d,i,h,hn=>by
   simp only[atF,Option.some.injEq]at h;subst h;simp only[List.nil_append,vCA,hn]
 | e :: p,n,m,S,d,i,h,hn=>by
   simp only[atF]at h;cases hk:vB4 n e with
   | none=>rw[hk]at h; cases h
   | some j =>
     rw[hk]at h;simp only[List.cons_append,vCA,hk];exact zJC p _ m _ d i h hn
theorem uD1{n m:NodeL}{p:List DecL}{d:DecL}{i:Nat}(h:atF n p=some m)(hn:vB4 m d=some i):atF n (p++[d])=some m.kids[i]! := by
 rw[vXU,h];simp only[Option.bind_some,atF,hn]
theorem vHA{H:Nat→NodeL→Prop}{nx:Nat→NodeL→Nat}(hk:∀ c n k,H c n→k∈n.kids→H (nx c n) k)(hs:∀ c n i k,H c n→i<n.kids.length→H (nx c n) k→H c (vBX n i k)){w x:NodeL}(hw:∀ c,H c x→H c w) :
 ∀ (p:List DecL) (n n':NodeL) (c:Nat),H c n→atF n p=some x→vCF w n p=some n'→H c n'
 | [],n,n',c,h,h1,h2=>by
   simp only[atF,Option.some.injEq]at h1;simp only[vCF,Option.some.injEq]at h2;subst h1 h2; exact hw c h
 | d::p,n,n',c,h,h1,h2=>by
   obtain⟨i,k',g1,g2,rfl⟩:=zJF h2;simp only[atF,g1]at h1;have hl:=(zC9 g1).1;exact hs c n i k' h hl (vHA hk hs hw p _ k' _ (hk c n _ h (get_mem hl)) h1 g2)
theorem zOZ{H:Nat→NodeL→Prop}{nx:Nat→NodeL→Nat}(hk:∀ c n k,H c n→k∈n.kids→H (nx c n) k){x:NodeL}:∀ (p:List DecL) (n:NodeL) (c:Nat),H c n→atF n p=some x→∃ c',H c' x
 | [],n,c,h,h1=>by simp only[atF,Option.some.injEq]at h1; subst h1; exact⟨c,h⟩
 | d :: p,n,c,h,h1=>by
   simp only[atF]at h1;cases hn:vB4 n d with
   | none=>rw[hn]at h1; cases h1
   | some i =>
     rw[hn]at h1;exact zOZ hk p _ _ (hk c n _ h (get_mem (zC9 hn).1)) h1
theorem zOR{w x n n':NodeL}{p:List DecL}{P V v c:Nat}(hw:∀ c,NodeZ P V v c x→NodeZ P V v c w)(h:NodeZ P V v c n)(h1:atF n p=some x)(h2:vCF w n p=some n'):NodeZ P V v c n':=by
 refine vHA (H:=fun c n=>NodeZ P V v c n) (nx:=fun c n=>c - n.lemmas.length) (fun c n k h hk=>h.kid k hk) (fun c n i k h hi hk=>?_) hw p n n' c h h1 h2;refine .mk v c _ h.val h.num h.lem h.spl h.prf fun y hy=>?_
 rcases List.mem_or_eq_of_mem_set hy with hy | rfl
 ·exact h.kid y hy
 ·exact hk
theorem vSB{w x n n':NodeL}{p:List DecL}(hw:Tok x→Tok w)(h:Tok n)(h1:atF n p=some x)(h2:vCF w n p=some n'):Tok n':=by
 refine vHA (H:=fun _ n=>Tok n) (nx:=fun c n=>c) (fun c n k h hk=>h.kid k hk) (fun c n i k h hi hk=>?_) (fun _=>hw) p n n' 0 h h1 h2;refine .mk _ h.lem h.spl h.prf (by show(n.kids.set i k).length<_; rw[List.length_set]; exact h.kn) fun y hy=>?_
 rcases List.mem_or_eq_of_mem_set hy with hy | rfl
 ·exact h.kid y hy
 ·exact hk
theorem vJM{w x n n':NodeL}{p:List DecL}{d:Nat}(hw:∀ d,vBH d x=true→vBH d w=true)(h:vBH d n=true)(h1:atF n p=some x)(h2:vCF w n p=some n'):vBH d n'=true:=by
 refine vHA (H:=fun d n=>vBH d n=true) (nx:=fun c n=>c - 1) (fun c n k h hk=>?_) (fun c n i k h hi hk=>?_) hw p n n' d h h1 h2
 ·have h0:n.kids.length≠0:=by have:=List.length_pos_of_mem hk; omega
  rw[zA3 h0]at h;simp only[Bool.and_eq_true,List.all_eq_true]at h;exact h.2 k hk
 ·have h0:n.kids.length≠0:=by omega
  have e1:(vBX n i k).kids.length=n.kids.length:=List.length_set;rw[zA3 h0]at h;rw[zA3 zom];have e2:vBU (vBX n i k)=vBU n:=by unfold vBU; simp only[e1]; rfl
  rw[e2];simp only[Bool.and_eq_true,List.all_eq_true]at h ⊢;refine⟨h.1,fun y hy=>?_⟩;rcases List.mem_or_eq_of_mem_set hy with hy | rfl
  ·exact h.2 y hy
  ·exact hk
theorem vWN{w x n n':NodeL}{p:List DecL}(h1:atF n p=some x)(h2:vCF w n p=some n'):n'.cnt+x.cnt=n.cnt+w.cnt:=by
 have g3:=vKP (f:=fun _=>1) (fun _ _ _=>rfl) p n n' x h1 h2;rw[← vHK _ n' (Nat.lt_succ_self _),← vHK _ n (Nat.lt_succ_self _),← vHK _ w (Nat.lt_succ_self _),← vHK _ x (Nat.lt_succ_self _)]at g3;exact g3
def wtF(n:NodeL):Nat:=1+(n.lemmas.map vDO).sum+n.proof.length
theorem vMS:∀ (k:Nat) (n:NodeL),SizeOf.sizeOf n<k→n.wt=n.tot wtF:=by
 intro k
 induction k with
 | zero=>intro n h; omega
 | succ k ih =>
   intro n h;rw[n.wt_eq,NodeL.tot_eq]
   congr 2
   exact List.map_congr_left fun x hx=>ih x (by have:=NodeL.sizeOf_kid hx; omega)
theorem uIP{w x n n':NodeL}{p:List DecL}(h1:atF n p=some x)(h2:vCF w n p=some n'):n'.wt+x.wt=n.wt+w.wt:=by
 have g3:=vKP (f:=wtF) (fun _ _ _=>rfl) p n n' x h1 h2;rw[← vMS _ n' (Nat.lt_succ_self _),← vMS _ n (Nat.lt_succ_self _),← vMS _ w (Nat.lt_succ_self _),← vMS _ x (Nat.lt_succ_self _)]at g3;exact g3
theorem uIR:∀ (p:List DecL) (n x:NodeL),atF n p=some x→x.wt≤n.wt
 | [],n,x,h=>by simp only[atF,Option.some.injEq]at h; subst h; exact Nat.le_refl _
 | d :: p,n,x,h=>by
   simp only[atF]at h;cases hk:vB4 n d with
   | none=>rw[hk]at h; cases h
   | some i =>
     rw[hk]at h;have h1:=uIR p _ x h;have h2:=vRY (zC9 hk).1;omega
theorem uEA:∀ (f:Nat) (n:NodeL) (S:ScpL),n.cnt<f→(vCW S n).cnt≤n.cnt:=by
 intro f
 induction f with
 | zero=>intro n S h; omega
 | succ f ih =>
   intro n S hf;cases h:vCI S n with
   | some i =>
     rw[zDV h];have h1:=zDL (p:=S.path.length) (zCN h).1;have h2:=ih _ S (by omega:(vBY n i S.path.length).cnt<f);omega
   | none =>
     rw[zDW h,NodeL.cnt_eq,NodeL.cnt_eq n];show 1+(((List.range n.kids.length).map fun i=>vCW (vDX S n i) n.kids[i]!).map NodeL.cnt).sum≤_
     have e:n.kids.map NodeL.cnt=(List.range n.kids.length).map fun i=>n.kids[i]!.cnt:=by
      refine List.ext_getElem zsm fun i h1 h2=>?_
      simp only[List.length_map]at h1;rw[List.getElem_map,List.getElem_map,List.getElem_range,getElem!_pos n.kids i h1]
     rw[e,List.map_map]
     have:∀ l:List Nat,(∀ i∈l,i<n.kids.length)→(l.map (NodeL.cnt∘fun i=>vCW (vDX S n i) n.kids[i]!)).sum≤(l.map fun i=>n.kids[i]!.cnt).sum:=by
      intro l
      induction l with
      | nil=>intro _; exact Nat.le_refl _
      | cons a l ihl =>
        intro hl;have ha:=hl a zsm;have h1:=zD4 ha;have h2:=ih n.kids[a]! (vDX S n a) zom;have h3:=ihl fun i hi=>hl i (List.mem_cons_of_mem _ hi)
        simp only[List.map_cons,List.sum_cons,Function.comp_apply];omega
     have:=this (List.range n.kids.length) fun i hi=>by simpa using hi
     omega
theorem uIZ:∀ (f:Nat) (n:NodeL) (S:ScpL),n.cnt<f→(vCW S n).wt≤n.wt:=by
 intro f
 induction f with
 | zero=>intro n S h; omega
 | succ f ih =>
   intro n S hf;cases h:vCI S n with
   | some i =>
     rw[zDV h];have h1:=zDL (p:=S.path.length) (zCN h).1;have h3:=vRX (p:=S.path.length) (zCN h).1;have h2:=ih _ S (by omega:(vBY n i S.path.length).cnt<f);omega
   | none =>
     rw[zDW h,NodeL.wt_eq,n.wt_eq];show 1+(n.lemmas.map vDO).sum+n.proof.length+(((List.range n.kids.length).map fun i=>vCW (vDX S n i) n.kids[i]!).map NodeL.wt).sum≤_
     have e:n.kids.map NodeL.wt=(List.range n.kids.length).map fun i=>n.kids[i]!.wt:=by
      refine List.ext_getElem zsm fun i h1 h2=>?_
      simp only[List.length_map]at h1;rw[List.getElem_map,List.getElem_map,List.getElem_range,getElem!_pos n.kids i h1]
     rw[e,List.map_map]
     have:∀ l:List Nat,(∀ i∈l,i<n.kids.length)→(l.map (NodeL.wt∘fun i=>vCW (vDX S n i) n.kids[i]!)).sum≤(l.map fun i=>n.kids[i]!.wt).sum:=by
      intro l
      induction l with
      | nil=>intro _; exact Nat.le_refl _
      | cons a l ihl =>
        intro hl;have ha:=hl a zsm;have h1:=zD4 ha;have h2:=ih n.kids[a]! (vDX S n a) zom;have h3:=ihl fun i hi=>hl i (List.mem_cons_of_mem _ hi)
        simp only[List.map_cons,List.sum_cons,Function.comp_apply];omega
     have:=this (List.range n.kids.length) fun i hi=>by simpa using hi
     omega
theorem vYT:∀ (f:Nat) (n:NodeL) (S:ScpL) (d:Nat),n.cnt<f→vBH d n=true→vBH d (vCW S n)=true:=by
 intro f
 induction f with
 | zero=>intro n S d h; omega
 | succ f ih =>
   intro n S d hf hn;cases h:vCI S n with
   | some i =>
     rw[zDV h];have hi:=(zCN h).1;have h1:=zDL (p:=S.path.length) hi;exact ih _ S d zom (zGE hn hi)
   | none =>
     by_cases h0:n.kids.length=0
     ·rw[zI7 h0]; exact hn
     ·rw[zDW h]
      have hl:(NodeL.mk n.lemmas n.split ((List.range n.kids.length).map fun i=>vCW (vDX S n i) n.kids[i]!) n.empty n.proof).kids.length=n.kids.length:=by
       show((List.range n.kids.length).map _).length=_
       simp
      have hn':=hn;rw[zA3 h0]at hn';rw[zA3 zom];simp only[Bool.and_eq_true,List.all_eq_true]at hn' ⊢;refine⟨⟨?_,hn'.1.2⟩,fun y hy=>?_⟩
      ·have:=hn'.1.1
       unfold vBU at this ⊢;rw[hl]; exact this
      ·obtain⟨i,hi,rfl⟩:=List.mem_map.1 (show y∈(List.range n.kids.length).map _ from hy)
       have hi':i<n.kids.length:=by simpa using hi
       have h1:=zD4 hi';exact ih _ _ _ zom (zH7 hn hi')
theorem vSM:∀ (f:Nat) (n:NodeL) (S:ScpL),n.cnt<f→Tok n→Tok (vCW S n):=by
 intro f
 induction f with
 | zero=>intro n S h; omega
 | succ f ih =>
   intro n S hf hn;cases h:vCI S n with
   | some i =>
     rw[zDV h];have hi:=(zCN h).1;have h1:=zDL (p:=S.path.length) hi;exact ih _ S zom (zI6 zom hi hn)
   | none =>
     rw[zDW h];refine .mk _ hn.lem hn.spl hn.prf (by show((List.range n.kids.length).map _).length<_; simpa using hn.kn) fun y hy=>?_
     obtain⟨i,hi,rfl⟩:=List.mem_map.1 (show y∈(List.range n.kids.length).map _ from hy);have hi':i<n.kids.length:=by simpa using hi
     have h1:=zD4 hi';exact ih _ _ zom (hn.kid _ (get_mem hi'))
theorem vIF{P V v:Nat}:∀ (f:Nat) (n:NodeL) (S:ScpL) (c:Nat),n.cnt<f→NodeZ P V v c n→NodeZ P V v c (vCW S n):=by
 intro f
 induction f with
 | zero=>intro n S c h; omega
 | succ f ih =>
   intro n S c hf hn;cases h:vCI S n with
   | some i =>
     rw[zDV h];have hi:=(zCN h).1;have h1:=zDL (p:=S.path.length) hi;exact ih _ S c zom (zF9 hi hn)
   | none =>
     rw[zDW h];refine .mk v c _ hn.val hn.num hn.lem hn.spl hn.prf fun y hy=>?_
     obtain⟨i,hi,rfl⟩:=List.mem_map.1 (show y∈(List.range n.kids.length).map _ from hy);have hi':i<n.kids.length:=by simpa using hi
     have h1:=zD4 hi';exact ih _ _ _ zom (hn.kid _ (get_mem hi'))
theorem vPV{S:ScpL}{n m:NodeL}(h1:n.lemmas=m.lemmas)(h2:n.kids.length=m.kids.length)(h3:n.split=m.split)(h4:n.empty=m.empty)(h5:n.proof=m.proof):vC7 S n↔vC7 S m:=by
 unfold vC7;rw[h1,h2,h3,h4,h5]
theorem vVR{α:Type}(g:Nat→α):(List.range 2).map g=[g 0,g 1]:=rfl
theorem vSN:∀ (f:Nat) (n:NodeL) (S:ScpL) (d:Nat),n.cnt<f→vBH d n=true→vBE S n=none→vBE S (vCW S n)=none:=by
 intro f
 induction f with
 | zero=>intro n S d h; omega
 | succ f ih =>
   intro n S d hf hn hb;cases h:vCI S n with
   | some i =>
     rw[zDV h];obtain⟨hi,hg⟩:=zCN h;have h1:=zDL (p:=S.path.length) hi;unfold vDB at hg;simp only[Bool.and_eq_true,Option.isNone_iff_eq_none]at hg;exact ih _ S d zom (zGE hn hi) hg.2
   | none =>
     by_cases h0:n.kids.length=0
     ·rw[zI7 h0]; exact hb
     ·obtain⟨e1,e2,f0,f1,_⟩:=zD0 h0 hn
      obtain⟨b0,b1⟩:=zNB h0 hn hb;have c0:=zD4 (n:=n) (i:=0) zom;have c1:=zD4 (n:=n) (i:=1) zom;have g0:=ih n.kids[0]! (vDX S n 0) (d - 1) zom f0 b0;have g1:=ih n.kids[1]! (vDX S n 1) (d - 1) zom f1 b1;rw[zDW h,e1,vVR];have hr:vC7 S (.mk n.lemmas n.split [vCW (vDX S n 0) n.kids[0]!,vCW (vDX S n 1) n.kids[1]!] n.empty n.proof):=(vPV (n:=.mk n.lemmas n.split [vCW (vDX S n 0) n.kids[0]!,vCW (vDX S n 1) n.kids[1]!] n.empty n.proof) (m:=n) rfl (by rw[e1]; rfl) rfl rfl rfl).2 (zJE hb);rw[zCS hr rfl];have g0':vBE (vCN S (.mk n.lemmas n.split [vCW (vDX S n 0) n.kids[0]!,vCW (vDX S n 1) n.kids[1]!] n.empty n.proof) n.split) (vCW (vDX S n 0) n.kids[0]!)=none:=g0;have g1':vBE (vCN S (.mk n.lemmas n.split [vCW (vDX S n 0) n.kids[0]!,vCW (vDX S n 1) n.kids[1]!] n.empty n.proof) (vZL n.split)) (vCW (vDX S n 1) n.kids[1]!)=none:=g1;show(match vBE (vCN S _ n.split) _ with | some p=>some p | none=>vBE (vCN S _ (vZL n.split)) _)=none
      rw[g0'];exact g1'
structure AccT(q:QryL)(P V v:Nat)(n:NodeL):Prop where
 val:n.valid=true
 va:VaQ q
 bel:vBE ⟨q,[],[]⟩ n=none
 z:NodeZ P V v 1048576 n
 tok:Tok n
 wt:n.wt≤1048576
theorem zCD{n:NodeL}(h:n.valid=true):vBH 2048 n=true∧n.cnt≤65536:=by
 unfold NodeL.valid at h;simp only[Bool.and_eq_true,decide_eq_true_eq]at h; exact h
theorem zH6{n:NodeL}(h1:vBH 2048 n=true)(h2:n.cnt≤65536):n.valid=true:=by
 unfold NodeL.valid;rw[h1]
 simpa using h2
theorem zL4{n x:NodeL}{p:List DecL}(h:n.valid=true)(h1:atF n p=some x):x.valid=true:=by
 obtain⟨_,h⟩:=zOZ (H:=fun _ n=>n.valid=true) (nx:=fun c _=>c) (fun c n k h hk=>by
  obtain⟨g1,g2⟩:=zCD h;obtain⟨i,hi,rfl⟩:=List.getElem_of_mem hk;have e:=getElem!_pos n.kids i hi;rw[← e];have:=zD4 hi
  exact zH6 (vJN _ _ _ _ (Nat.lt_succ_self _) zom (zH7 g1 hi)) zom) p n 0 h h1
 exact h
theorem at_len:∀ (p:List DecL) (n x:NodeL) (d:Nat),vBH d n=true→atF n p=some x→p.length≤d
 | [],n,x,d,_,_=>Nat.zero_le _
 | e :: p,n,x,d,h,h1=>by
   simp only[atF]at h1;cases hk:vB4 n e with
   | none=>rw[hk]at h1; cases h1
   | some i =>
     rw[hk]at h1;have hl:=(zC9 hk).1;obtain⟨e1,e2,_⟩:=zD0 zom h;have:=at_len p _ x (d - 1) (zH7 h hl) h1;simp only[List.length_cons]; omega
theorem vX1{q:QryL}{P V v:Nat}{n x w n':NodeL}{p:List DecL}(h:AccT q P V v n)(h1:atF n p=some x)(h2:vCF w n p=some n')(hf:∀ d,vBH d x=true→vBH d w=true)(hc:w.cnt≤x.cnt)(hw:w.wt≤x.wt)(hz:∀ c,NodeZ P V v c x→NodeZ P V v c w)(ht:Tok x→Tok w)(hb:vBE (vCA ⟨q,[],[]⟩ n p) w=none):AccT q P V v n':=by
 obtain⟨g1,g2⟩:=zCD h.val;have hc2:=vWN h1 h2;exact⟨zH6 (vJM hf g1 h1 h2) zom,h.va,by rw[zKJ p n _ 2048 n' g1 h.bel h2]; exact hb,zOR hz h.z h1 h2,vSB ht h.tok h1 h2,by have:=uIP h1 h2; have:=h.wt; omega⟩
theorem vQ1{q:QryL}{P V v:Nat}{n x:NodeL}{p:List DecL}{i:Nat}(h:AccT q P V v n)(h1:atF n p=some x)(hi:i<x.kids.length) :
 ∃ n',vCF (vBY x i p.length) n p=some n'∧vNF (vBY x i p.length) n p=(n',0)∧n'.valid=true∧NodeZ P V v 1048576 n'∧Tok n'∧n'.cnt<n.cnt∧(vBY x i p.length).valid=true∧NodeZ P V v 1048576 (vBY x i p.length)∧Tok (vBY x i p.length) ∧
   vCV q n'=(match vBE (vCA ⟨q,[],[]⟩ n p) (vBY x i p.length) with | none=>([],0) | some p=>(p,12)):=by
 obtain⟨g1,g2⟩:=zCD h.val;obtain⟨n',hr⟩:=zL8 (w:=vBY x i p.length) h1;have hxv:=zL4 h.val h1;obtain⟨x1,x2⟩:=zCD hxv;have hcl:=zDL (p:=p.length) hi;have hc2:=vWN h1 hr;have hv':n'.valid=true:=zH6 (vJM (fun d hd=>zGE hd hi) g1 h1 hr) zom;have hwv:(vBY x i p.length).valid=true:=zH6 (zGE x1 hi) zom;obtain⟨_,hxt⟩:=zOZ (H:=fun _ n=>Tok n) (nx:=fun c _=>c) (fun c n k h hk=>h.kid k hk) p n 0 h.tok h1;obtain⟨_,hxz⟩:=zOZ (H:=fun _ n=>NodeZ P V v 1048576 n) (nx:=fun c _=>c) (fun c n k h hk=>(h.kid k hk).more _ _ _ _ (Nat.lt_succ_self _) zom) p n 0 h.z h1;refine⟨n',hr,?_,hv',zOR (fun c hc=>zF9 hi hc) h.z h1 hr,vSB (fun ht=>zI6 zom hi ht) h.tok h1 hr,zom,hwv,zF9 hi hxz,zI6 zom hi hxt,?_⟩
 ·unfold vNF
  rw[h.val,hwv,hr];simp[hv']
 ·unfold vCV
  rw[if_pos ⟨hv',h.va⟩,zKJ p n _ 2048 n' g1 h.bel hr];cases vBE (vCA ⟨q,[],[]⟩ n p) (vBY x i p.length)<;>rfl
theorem vY0{q:QryL}{n x:NodeL}{p:List DecL}(h1:atF n p=some x):(vCA ⟨q,[],[]⟩ n p).path=p:=by
 rw[vM5 p n _ x h1]; simp
theorem uCH{q:QryL}{P V v:Nat}{n x n':NodeL}{p:List DecL}{i:Nat}(h:AccT q P V v n)(h1:atF n p=some x)(hi:i<x.kids.length)(hr:vCF (vBY x i p.length) n p=some n')(hb:vBE (vCA ⟨q,[],[]⟩ n p) (vBY x i p.length)=none):AccT q P V v n':=by
 have hcl:=zDL (p:=p.length) hi;exact vX1 h h1 hr (fun d hd=>zGE hd hi) zom (Nat.le_of_lt (vRX hi)) (fun c hc=>zF9 hi hc) (fun ht=>zI6 zom hi ht) hb
theorem vNY{n:NodeL}(hv:n.valid=true){i:Nat}(hi:i<n.kids.length):vB4 n (vCR n i)=some i:=by
 obtain⟨g1,_⟩:=zCD hv;obtain⟨e1,e2,_,_,k1,k4⟩:=zD0 zom g1;have hne:=uJP k1 k4;rcases Nat.lt_or_ge i 1 with h | h
 ·obtain rfl:i=0:=by omega
  exact vQY zom rfl
 ·obtain rfl:i=1:=by omega
  unfold vB4;have c1:vCR n 1=opp n.split:=rfl;have c0:vCR n 0=n.split:=rfl;rw[e1];have e0:¬ vCR n 0=vCR n 1:=by rw[c0,c1]; exact fun e=>hne e.symm
  simp[List.range_succ,e0]
theorem vY9{q:QryL}{P V v:Nat}{n x:NodeL}{p:List DecL}(h:AccT q P V v n)(h1:atF n p=some x)(hk:x.kids.length=2)(hno:vCI (vCA ⟨q,[],[]⟩ n p) x=none) :
 ∃ n1 n2,vCF (vCW (vCA ⟨q,[],[]⟩ n (p++[vCR x 0])) x.kids[0]!) n (p++[vCR x 0])=some n1∧AccT q P V v n1∧atF n (p++[vCR x 0])=some x.kids[0]! ∧ atF n1 (p++[vCR x 1])=some x.kids[1]! ∧
   vCF (vCW (vCA ⟨q,[],[]⟩ n1 (p++[vCR x 1])) x.kids[1]!) n1 (p++[vCR x 1])=some n2∧vCF (vCW (vCA ⟨q,[],[]⟩ n p) x) n p=some n2:=by
 have hxv:=zL4 h.val h1;have hn0:=vNY hxv (i:=0) zom;have hn1:=vNY hxv (i:=1) zom;have a0:=uD1 h1 hn0;have s0:=zJC p n x ⟨q,[],[]⟩ _ _ h1 hn0;have s1:=zJC p n x ⟨q,[],[]⟩ _ _ h1 hn1;obtain⟨S,hS⟩:∃ S,vCA ⟨q,[],[]⟩ n p=S:=⟨_,rfl⟩;obtain⟨k0,hk0⟩:∃ k,vCW (vDX S x 0) x.kids[0]! = k:=⟨_,rfl⟩;obtain⟨k1,hk1⟩:∃ k,vCW (vDX S x 1) x.kids[1]! = k:=⟨_,rfl⟩;rw[hS]at hno;rw[s0,hS];show ∃ n1 n2,vCF (vCW (vDX S x 0) x.kids[0]!) n _=some n1∧_
 rw[hk0];obtain⟨n1,hr1⟩:=zL8 (w:=vBX x 0 k0) h1;have hr1':vCF k0 n (p++[vCR x 0])=some n1:=vK5 p _ n x _ n1 h1 (zL9 hn0 rfl) hr1;obtain⟨x1,x2⟩:=zCD hxv;have hb:=(vGD p n ⟨q,[],[]⟩ 2048 x (zCD h.val).1 h.bel ⟨h.va,fun d hd=>by cases hd⟩ h1).2.1;rw[hS]at hb;have hkb:=(zNB zom x1 hb).1
 have acc1:AccT q P V v n1:=by
  refine vX1 h a0 hr1' (fun d hd=>?_) ?_ ?_ (fun c hc=>?_) (fun ht=>?_) ?_
  ·rw[← hk0]; exact vYT _ _ _ _ (Nat.lt_succ_self _) hd
  ·rw[← hk0]; exact uEA _ _ _ (Nat.lt_succ_self _)
  ·rw[← hk0]; exact uIZ _ _ _ (Nat.lt_succ_self _)
  ·rw[← hk0]; exact vIF _ _ _ _ (Nat.lt_succ_self _) hc
  ·rw[← hk0]; exact vSM _ _ _ (Nat.lt_succ_self _) ht
  ·rw[s0,hS,← hk0]
   exact vSN _ _ _ _ (Nat.lt_succ_self _) (zH7 x1 zom) hkb
 have a1:atF n1 p=some (vBX x 0 k0):=vXR p n n1 hr1;have hn1':vB4 (vBX x 0 k0) (vCR x 1)=some 1:=by rw[zJT]; exact hn1
 have a2:=uD1 a1 hn1';rw[uI5 zdd zom]at a2;have s2:=zJC p n1 _ ⟨q,[],[]⟩ _ _ a1 hn1';rw[zMX p n n1 _ hr1,hS]at s2;obtain⟨n2,hr2⟩:=zL8 (w:=vBX (vBX x 0 k0) 1 k1) a1;have hr2':vCF k1 n1 (p++[vCR x 1])=some n2:=vK5 p _ n1 _ _ n2 a1 (zL9 hn1' rfl) hr2;refine⟨n1,n2,hr1',acc1,a0,a2,?_,?_⟩
 ·rw[s2]
  show vCF (vCW (vDX S x 1) x.kids[1]!) n1 _=_
  rw[hk1]; exact hr2'
 ·rw[zDW hno,hk,vVR,hk0,hk1,← vK4 p n n1 hr1]
  have e:vBX (vBX x 0 k0) 1 k1=.mk x.lemmas x.split [k0,k1] x.empty x.proof:=by
   show NodeL.mk _ _ ((x.kids.set 0 k0).set 1 k1) _ _=_
   have:=zG3 hk;generalize x.kids[0]! = a at *
   generalize x.kids[1]! = b at *
   rw[this]; rfl
  rw[← e]; exact hr2
end Go.PI.Tryz
