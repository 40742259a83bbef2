/-
  The rows of a part whose path decides each unit.
-/
import Derived.Test.YtcbepncdbgaohaaGreatDoorCA5
import Derived.Test.YtcbepncdbgaohaaGreatDoorCC1
set_option linter.all false
set_option maxHeartbeats 0
namespace Go.PI.Tryz
open Go.Proofs Go.PI Go.Proofs.Tryz
def uBT(x:Int):Fn 219 [.int .i64 x] (.data (.bool false)):=by
 refine fnV (mkO func219 ntmps219 results219) ?_;exact zL rfl zsm
def MH(x y:Int):Fn 166 [.int .i64 x,.int .i64 y] (.data (.int .i64 (vD x y))):=by
 have c1:=uBT x;have c2:=uBT y;refine fnV (mkO func166 ntmps166 results166) ?_;refine cvd c1 ?_;refine zT c2 rfl ?_
 (refine gob ?_ ?_<;>intro h;rotate_left;refine gob ?_ ?_<;>intro h;rotate_right)
 all_goals refine zL rfl (zV (PV.int .i64) ?_)
 all_goals unfold vD
 .rw[zE xU]
 .rw[zB xU,zE xU]
 .rw[zB xU,zB xU]
def uQQ(l:List Int)(hl:l.length<=1048576):Fn 165 [.imm (l.map (.int .i64))] (.data (.int .i64 (orI l))):=by
 refine fnV (mkO func165 ntmps165 results165) ?_;refine rU hT (fun n:Nat=>[(3,.int .i64 0),(6,.imm (l.map (.int .i64))),(7,.int .i64 l.length),(8,.int .i64 n)]) (fun n=>n<=l.length/\orI (l.drop n)=orI l) (fun n=>l.length-n) 0 ⟨zom,rfl⟩ ?_ ?_
 .exact⟨zD,zM,zG rfl zsm,zD,zA⟩
 intro n ⟨hn,he⟩;by_cases hi:n<l.length
 .have e1:=uDW hi
  have e2:=uMO hi;rw[he]at e1 e2
  (refine gob ?_ ?_<;>intro h;refine gob ?_ ?_<;>intro h)
  all_goals try omega
  .exact zL rfl (zV (PV.int .i64) (e2 xU).symm)
  .exact⟨n+1,⟨⟨zom,(e1 qJ).symm⟩,zbo⟩,zD,zM,zD,zD,zA⟩
 .have hn0:n=l.length:=zom
  subst hn0;have e0:orI l=0:=by rw[<- he,List.drop_length];rfl
  (refine gob ?_ ?_<;>intro h;refine gob ?_ ?_<;>intro h)
  all_goals try omega
  exact zL rfl (by rw[e0])
def uVI(a b:RowL):Fn 92 [uH a,uH b] (.data (.int .i64 (RE a b))):=by
 have c1:=MH a.kind b.kind;have c2:=MH a.index b.index;have c3:=MH a.lo b.lo;have c4:=MH a.hi b.hi;have co:=uQQ [vD a.kind b.kind,vD a.index b.index,vD a.lo b.lo,vD a.hi b.hi] zsm;refine yJ zU hT (mkO func92 ntmps92 results92) (by simp[uH]) (sts ?_);refine cvd c1 ?_;refine cvd c2 ?_;refine cvd c3 ?_;refine cvd c4 ?_;refine cvd co ?_;exact yD
def uQU(a b:MultL):Fn 91 [vH a,vH b] (.data (.int .i64 (RE a.row b.row))):=by
 have cc:=uVI a.row b.row;refine yJ zU hT (mkO func91 ntmps91 results91) (by simp[vH]) (sts ?_);refine cvd cc ?_;exact yD
def uQV(m:MultL)(hm:okQ 2000000000 m.coef):Fn 88 [vH m] (.data (.bool (decide (xQ (qv m.coef)<0)))):=by
 have cs:=r9 m.coef hm.1 (by have:=hm.2;omega);refine yJ zU hT (mkO func88 ntmps88 results88) (by simp[vH]) (sts ?_);refine cvd cs ?_;exact yD
def uVA(l:List MultL)(p:MultL->Bool)(g:FuncId)(hl:l.length<=1048576)(hp:∀ f∈l,Fn g [vH f] (.data (.bool (p f)))):Fn 163 [.imm (l.map vH),.func (.func g) [] []] (.data (.int .i64 (ixA p l))):=by
 refine fnV (mkO func163 ntmps163 results163) ?_;refine rU hT (fun n:Nat=>[(0,.imm (l.map vH)),(1,.func (.func g) [] []),(7,.int .i64 l.length),(8,.int .i64 n)]) (fun n=>n<=l.length/\∀ j,j<n->p l[j]! = false) (fun n=>l.length-n) 0 ⟨zom,fun j hj=>by omega⟩ ?_ ?_
 .exact⟨zM,cW rfl,zG rfl zsm,zD,zA⟩
 intro n ⟨hn,he⟩;by_cases hi:n<l.length
 .have cc:=hp l[n]! (Bx hi)
  refine gob ?_ ?_<;>intro h
  .refine zT cc rfl ?_
   refine gob ?_ ?_<;>intro h
   .exact zL rfl (zV (PV.int .i64) (Y1 hi h he))
   .exact⟨n+1,⟨⟨zom,fun j hj=>IA (p:=fun j=>p l[j]! = false) he (by simpa using h) hj⟩,zom⟩,zM,cW rfl,zD,zG rfl zom,zA⟩
  all_goals (exfalso;omega)
 ·refine gob ?_ ?_<;>intro h
  all_goals try omega
  exact zL rfl (zV (PV.int .i64) (Y2 fun j hj=>he j zom))
def uVB(l:List MultL)(p:MultL->Bool)(g:FuncId)(hl:l.length<=1048576)(hp:∀ f∈l,Fn g [vH f] (.data (.bool (p f)))):Fn 87 [.imm (l.map vH),.func (.func g) [] []] (.data (.bool (l.any p))):=by
 have cc:=uVA l p g hl hp;have hg:=Y4 (p:=p) (l:=l);refine fnV (mkO func87 ntmps87 results87) ?_;refine cvd cc ?_;exact zL rfl (zV PV.bool Y3)
def R6{hb:Hp}{j:Nat}(m:MultL):frz hb (j+2) (vH m)=some (vH m,[]):=rfl
def rJ(l:List MultL):∀ e∈l.map vH,nr 3 e=true/\e≠.any:=yZ fun _=>⟨rfl,by simp[vH]⟩
def uHS(l:List MultL)(hl:l.length<=1048576):Fn 89 [.imm (l.map vH)] (.fresh (l.map vH) 7 true):=by
 refine dV zU hT (mkO func89 ntmps89 results89) zsm ?_
 (repeat' (first|refine stp ?_|(with_reducible refine brr ?_ ?_<;>intro h)|(with_reducible refine Gz ?_ ?_<;>intro h)|with_reducible refine G3 ?_ ?_));all_goals try (conv=>whnf)
 .subst h;exact KF
 all_goals refine dU rfl rfl ?_ rfl (BM (fun x=>R6 x) _)
 all_goals simp
abbrev rwM(l:List MultL):Blk:=⟨l.map vH,7,true⟩
def Fr(l:List MultL):∀ e∈l.map vH,nr 3 e=true:=fun e he=>(rJ l e he).1
def uHR(l:List MultL)(hl:l.length<=1048576):Fn 217 [.own 0 0 l.length,.int .i64 0,.int .i64 l.length,.func (.func 91) [] []] (.wrt (rwM l) (.tup []) (rwM (qF ltM l.length l))):=by
 refine iQ zU hT (mkO func217 ntmps217 results217) zsm (sts ?_)
 refine xG hT (fun(i:Nat)=>[(0,.own 0 0 l.length),(1,.int .i64 0),(2,.int .i64 l.length),(3,.func (.func 91) [] []),(8,.int .i64 (i+1:Nat))]) (fun i=>[(0,rwM (qF ltM (i+1) l))]) [] 1
  (fun i=>i=0\/i+1<=l.length) (fun i=>l.length-i) 0 (zF rfl) zdd zsm ?_ ?_
 .exact⟨[0],[],[],[],ttt,⟨zI zdd rfl rfl,zD,zD,cW rfl,zD,zA⟩,⟨zH zdd rfl rfl (rJ _) rfl,zA⟩,zO⟩
 intro i i1;by_cases hi:i+1<l.length
 ·refine gob ?_ ?_<;>intro h
  all_goals try omega
  refine xG hT (fun((j,C):Nat×List MultL)=>[(0,.own 0 0 l.length),(1,.int .i64 0),(2,.int .i64 l.length),(3,.func (.func 91) [] []),(8,.int .i64 (i+1:Nat)),(9,.int .i64 j)]) (fun(j,C)=>[(0,rwM C)]) [] 1
   (fun(j,C)=>j<=i+1/\C.length=l.length/\bB ltM j C=qF ltM (i+1+1) l) (fun(j,C)=>j) (i+1,qF ltM (i+1) l) ⟨zX _,Kw _ _,rfl⟩ zdd zsm ?_ ?_
  .exact⟨[0],[],[],[],ttt,⟨zI zdd rfl rfl,zD,zD,cW rfl,zD,zD,zA⟩,⟨zH zdd rfl rfl (rJ _) rfl,zA⟩,zO⟩
  intro(j,C) ⟨j1,j2,j3⟩;dsimp only at j1 j2 j3 ⊢;by_cases hj:0<j
  .have cc:=uQU C[j]! C[j-1]!
   refine gob ?_ ?_<;>intro h
   all_goals try omega
   refine yB j zom zom (sts ?_);refine yB (j-1) zom zom (sts ?_);refine zT cc rfl ?_
   refine gob ?_ ?_<;>intro h
   .refine yB (j-1) zom zom ?_
    refine sts ?_;refine yB j zom zom (sts ?_);refine yB j zom zom (sts ?_);refine Vr (x:=C[j-1]!) (j-1) zom zom zom (sts ?_)
    have ej:bB ltM (j-1) (DN C j)=qF ltM (i+1+1) l:=by
     rw[<- j3];obtain⟨m,rfl⟩:∃ m,j=m+1:=⟨j-1,zom⟩
     conv=>rhs;unfold bB
     rw[zE (by unfold ltM;rw[tC];exact h)];rfl
    exact⟨(j-1,DN C j),⟨⟨by show j-1<=i+1;omega,by rw[Py];exact j2,ej⟩,by show j-1<j;omega⟩,[0],[],[],[],ttt,⟨zI zdd rfl rfl,zD,zD,cW rfl,zD,zG rfl zom,zA⟩,⟨zH zdd rfl (by show((List.map vH C).set (0+((j:Int)).toNat) (vH C[j-1]!)).set (0+((j:Int)-1).toNat) (vH C[j]!)=_;rw[show 0+((j:Int)).toNat=j by omega,show 0+((j:Int)-1).toNat=j-1 by omega,<- Ga,<- Ga];rfl) (rJ _) rfl,zA⟩,zO⟩
   .have ej:C=qF ltM (i+1+1) l:=by
     rw[<- j3];obtain⟨m,rfl⟩:∃ m,j=m+1:=⟨j-1,zom⟩
     conv=>rhs;unfold bB
     rw[zB (by unfold ltM;rw[tC];exact h)]
    subst ej;exact⟨i+1,⟨zC zom,zbo⟩,[0],[],[],[],ttt,⟨zI zdd rfl rfl,zD,zD,cW rfl,zG rfl zom,zA⟩,⟨zH zdd rfl rfl (rJ _) rfl,zA⟩,zO⟩
  .have j0:j=0:=zom
   subst j0;have ej:C=qF ltM (i+1+1) l:=j3;subst ej;refine sts ?_
   all_goals try omega
   exact⟨i+1,⟨zC zom,zbo⟩,[0],[],[],[],ttt,⟨zI zdd rfl rfl,zD,zD,cW rfl,zG rfl zom,zA⟩,⟨zH zdd rfl rfl (rJ _) rfl,zA⟩,zO⟩
 .have el:qF ltM (i+1) l=qF ltM l.length l:=by
   rcases i1 with e|e
   .subst e
    rcases nD 0 l.length with h0|h0
    .rw[show l.length=0+1 by omega]
    .rw[show l.length=0 by omega];rfl
   .rw[show l.length=i+1 by omega]
  rw[el]
  refine gob ?_ ?_<;>intro h
  all_goals try omega
  exact qZ rfl rfl rfl rfl rfl (Fr _)
def uQS(l:List MultL)(hl:l.length<20):Fn 164 [.own 0 0 l.length,.int .i64 l.length,.func (.func 91) [] []] (.wrt (rwM l) (.tup []) (rwM (qF ltM l.length l))):=by
 have cs:=uHR l zom;refine iQ zU hT (mkO func164 ntmps164 results164) zsm (sts ?_)
 all_goals try omega
 refine xG hT (fun(i:Nat)=>[(0,.own 0 0 l.length),(1,.int .i64 l.length),(2,.func (.func 91) [] []),(6,.int .i64 20),(7,.int .i64 0),(8,.int .i64 20)]) (fun i=>[(0,rwM l)]) [] 1
  (fun i=>True) (fun i=>0) 0 trivial zdd zsm ?_ ?_
 .exact⟨[0],[],[],[],ttt,⟨zI zdd rfl rfl,zD,cW rfl,zD,zD,zD,zA⟩,⟨zH zdd rfl rfl (rJ _) rfl,zA⟩,zO⟩
 intro i i1
 refine gob ?_ ?_<;>intro h
 all_goals try omega
 refine tG (r:=0) cs rfl rfl rfl rfl (Fr _) (sts ?_)
 refine xG hT (fun(i:Nat)=>[(0,.own 0 0 l.length),(1,.int .i64 l.length),(6,.int .i64 20)]) (fun i=>[(0,rwM (qF ltM l.length l))]) [] 1
  (fun i=>True) (fun i=>0) 0 trivial zdd zsm ?_ ?_
 .exact⟨[0],[],[],[],ttt,⟨zI zdd rfl rfl,zD,zD,zA⟩,⟨zH zdd rfl rfl (rJ _) rfl,zA⟩,zO⟩
 intro i i1
 refine gob ?_ ?_<;>intro h
 all_goals try omega
 exact qZ rfl rfl rfl rfl rfl (Fr _)
def uHQ(l:List MultL)(hl:l.length<20):Fn 90 [.own 0 0 l.length,.func (.func 91) [] []] (.wrt (rwM l) (.tup []) (rwM (qF ltM l.length l))):=by
 have cs:=uQS l hl;refine iQ zU hT (mkO func90 ntmps90 results90) zsm (sts ?_);refine tG (r:=0) cs rfl rfl rfl rfl (Fr _) (sts ?_);exact qZ rfl rfl rfl rfl rfl (Fr _)
def zNM:FO 30 f30 [.tmp 2,.tmp 3] 57:=mkO func30 ntmps30 results30
def vS3(l:List MultL)(hl:l.length<20)(K:Nat)(hK:K<=20000000)(hs:∀ m∈l,okQ 20000000 m.coef/\sz K (qv m.coef)):Fn 30 [.imm (l.map vH)] (.data (.tup [.imm ((FL l).1.map vH),.int .i64 (FL l).2])):=by
 have c1:=uVB l (fun m=>decide (xQ (qv m.coef)<0)) 88 zom (fun m hm=>uQV m (Bf zdd (hs m hm).1));have c2:=uHS l zom;have c3:=uHQ l hl;rw[show PV.own 0 0 l.length=PV.own 0 0 (l.map vH).length by rw[z6]]at c3;unfold FL;cases hb:l.any (fun m=>decide (xQ (qv m.coef)<0)) with
 | true =>
   rw[hb]at c1;rw[zE rfl];refine fnV zNM ?_;refine cvd c1 ?_;exact yD
 | false =>
   rw[hb]at c1;rw[zB zdd];have hSl:=Kw (lt:=ltM) l.length l;have hSm:∀ m∈qF ltM l.length l,m∈l:=fun m hm=>W5 _ _ (zX _) m hm
   obtain⟨R,hR⟩:∃ R,bI l.length (qF ltM l.length l) []=R:=⟨_,rfl⟩;rw[hR];have hR0:bI l.length ((qF ltM l.length l).drop 0) []=R:=hR;clear hR;refine fnV zNM ?_;refine cvd c1 ?_;refine BS c2 rfl (sts ?_);refine tG (r:=5) c3 rfl rfl rfl rfl (Fr _) ?_;generalize qF ltM l.length l=S at *
   have hlm:(l.map vH).length=S.length:=by rw[z6,hSl]
   generalize hn:l.length=n at *
   clear c1 c2 c3;refine sts ?_
   refine iB hT [(.sl 5,7,true)] (fun((i,k,O):Nat×Nat×List MultL)=>[(4,.own 0 0 n),(5,.own 1 0 O.length),(6,.int .i64 i)]) (fun(i,k,O)=>[(0,rwM S),(1,rwM O)]) [] 2
    (fun(i,k,O)=>i<=n/\bI k (S.drop i) O=R/\n-i<=k/\O.length<=i) (fun(i,k,O)=>n-i) (0,n,[]) ⟨z8 _,hR0,zom,zX _⟩ zdd zsm ⟨rfl,zA⟩ ?_ ?_
   .exact⟨[5,_],[],[],[],ttt,⟨zI zdd rfl zom,zI zdd rfl rfl,zG rfl rfl,zA⟩,⟨zH zdd rfl rfl (rJ _) rfl,zH zdd rfl rfl (rJ []) rfl,zA⟩,zO⟩
   intro(i,k,O) ⟨i1,i2,i3,i4⟩;dsimp only at i1 i2 i3 i4 ⊢;by_cases hi:i<n
   .have rest:∀ j x,i<=j->j<=n->nS S[i]!.row (S.drop j) x=nS S[i]!.row (S.drop i) 0->(j<n->¬ S[j]!.row=S[i]!.row)->i<j/\∃ k',k=k'+1/\bI k' (S.drop j) (if 0<x then O++[⟨S[i]!.row,cr x⟩] else O)=R:=fun j x h1 h2 h3 h4=>by
     have hlt:i<j:=by
      rcases nD i j with h|h
      .exact h
      .have:j=i:=zom
       subst this;exact(h4 hi rfl).elim
     obtain⟨k',rfl⟩:∃ k',k=k'+1:=⟨k-1,zom⟩;refine⟨hlt,k',rfl,?_⟩;rw[<- i2,uAZ zom,<- h3,vT8 (fun e=>h4 zom)]
    refine gob ?_ ?_<;>intro h
    all_goals try omega
    refine yB i zom zom (sts ?_)
    refine xG hT (fun((j,x):Nat×Rat)=>[(4,.own 0 0 n),(5,.own 1 0 O.length),(6,.int .i64 j),(7,.ptr 2 0 0),(8,.ptr 3 0 0)]) (fun(j,x)=>[(0,rwM S),(1,rwM O),(2,⟨[uH S[i]!.row],4,true⟩),(3,⟨[zR (cr x)],3,true⟩)]) [] 4
     (fun(j,x)=>i<=j/\j<=n/\nS S[i]!.row (S.drop j) x=nS S[i]!.row (S.drop i) 0/\sz ((j-i)*(K+1)+1) x) (fun(j,x)=>n-j) (i,0) ⟨zX _,i1,rfl,by show sz ((i-i)*(K+1)+1) 0;rw[EK,Ao];exact pX (z:=0) zdd⟩ zdd zsm ?_ ?_
    .exact⟨[0,1,12,13],[],[],[(13,[zR (cr 0)])],⟨zA,zA,⟨⟨_,6,_,rfl,rfl,rfl⟩,zA⟩⟩,⟨zI zdd rfl rfl,zI zdd rfl rfl,zG rfl rfl,apx,apx,zA⟩,⟨zH zdd rfl rfl (rJ _) rfl,zH zdd rfl rfl (rJ _) rfl,bbx,bbx,zA⟩,zO⟩
    intro(j,x) ⟨j1,j2,j3,j4⟩;dsimp only at j1 j2 j3 j4 ⊢;by_cases hj:j<n
    ·refine gob ?_ ?_<;>intro h
     all_goals try omega
     refine yB j zom zom ?_
     refine gob ?_ ?_<;>intro h
     .have er:S[j]!.row=S[i]!.row:=by
       rename_i h
       obtain⟨h1,h2,h3,h4⟩:=h;generalize S[j]!.row=a at *
       generalize S[i]!.row=b at *
       cases a;cases b;simp_all
      have hmj:=hs _ (hSm _ (Bx (l:=S) (show j<S.length by omega)));have e1:=vT9 (x:=x) (show j<S.length by omega) er;have hx:=kW j4
      have hK2:(j-i)*(K+1)+1<=500000000:=by
       have:(j-i)*(K+1)<=20*(K+1):=vK _ zom;omega
      have ca:=Bq (cr x) S[j]!.coef hx.1 hmj.1.1 (by have:=hx.2;omega) (by have:=hx.2;omega) (by have:=hmj.1.2;omega) (by have:=hmj.1.2;omega);rw[yC]at ca;refine yB j zom zom (sts ?_);refine cvd ca ?_;exact⟨(j+1,x+qv S[j]!.coef),⟨⟨by show i<=j+1;omega,by show j+1<=n;omega,by show nS S[i]!.row (S.drop (j+1)) (x+qv S[j]!.coef)=_;rw[<- e1,j3],by show sz ((j+1-i)*(K+1)+1) _;rw[show(j+1-i)*(K+1)+1=((j-i)*(K+1)+1)+K+1 by rw[show j+1-i=(j-i)+1 by omega,w6];omega];exact pU j4 hmj.2⟩,zbo⟩,[0,1,2,3],[],[],[],ttt,⟨zI zdd rfl rfl,zI zdd rfl rfl,zD,apx,apx,zA⟩,⟨zH zdd rfl rfl (rJ _) rfl,zH zdd rfl rfl (rJ _) rfl,bbx,bbx,zA⟩,zO⟩
     .have er:¬ S[j]!.row=S[i]!.row:=by
       rename_i h
       intro e;rw[e]at h;simp at h
      have fin:=rest j x j1 j2 j3 (fun _=>er);have hx:=kW j4
      have hK2:(j-i)*(K+1)+1<=500000000:=by
       have:(j-i)*(K+1)<=20*(K+1):=vK _ zom;omega
      have cs:=r9 (cr x) hx.1 (by have:=hx.2;omega);rw[yC]at cs;refine zT cs rfl ?_
      refine gob ?_ ?_<;>intro h
      .obtain⟨f1,k',f2,f3⟩:=fin
       rw[zE (sgnQ_pos.1 xU)]at f3;exact⟨(j,k',O++[⟨S[i]!.row,cr x⟩]),⟨⟨j2,f3,by show n-j<=k';omega,by show(O++[_]).length<=j;simp;omega⟩,by show n-j<n-i;omega⟩,[0,_],[],[],[],ttt,⟨zI zdd rfl rfl,zI zdd rfl zsm,zG rfl rfl,zA⟩,⟨zH zdd rfl rfl (rJ _) rfl,zH zdd rfl (by rw[wB];rfl) (rJ _) rfl,zA⟩,zO⟩
      .obtain⟨f1,k',f2,f3⟩:=fin
       rw[zB (fun e=>by have:=sgnQ_pos.2 e;omega)]at f3;exact⟨(j,k',O),⟨⟨j2,f3,by show n-j<=k';omega,by show O.length<=j;omega⟩,by show n-j<n-i;omega⟩,[0,1],[],[],[],ttt,⟨zI zdd rfl rfl,zI zdd rfl rfl,zD,zA⟩,⟨zH zdd rfl rfl (rJ _) rfl,zH zdd rfl rfl (rJ _) rfl,zA⟩,zO⟩
    .have fin:=rest j x j1 j2 j3 (fun e=>absurd e hj)
     have hx:=kW j4
     have hK2:(j-i)*(K+1)+1<=500000000:=by
      have:(j-i)*(K+1)<=20*(K+1):=vK _ zom;omega
     have cs:=r9 (cr x) hx.1 (by have:=hx.2;omega);rw[yC]at cs
     refine gob ?_ ?_<;>intro h
     all_goals try omega
     refine zT cs rfl ?_
     refine gob ?_ ?_<;>intro h
     .obtain⟨f1,k',f2,f3⟩:=fin
      rw[zE (sgnQ_pos.1 xU)]at f3;exact⟨(j,k',O++[⟨S[i]!.row,cr x⟩]),⟨⟨j2,f3,by show n-j<=k';omega,by show(O++[_]).length<=j;simp;omega⟩,by show n-j<n-i;omega⟩,[0,_],[],[],[],ttt,⟨zI zdd rfl rfl,zI zdd rfl zsm,zG rfl rfl,zA⟩,⟨zH zdd rfl rfl (rJ _) rfl,zH zdd rfl (by rw[wB];rfl) (rJ _) rfl,zA⟩,zO⟩
     .obtain⟨f1,k',f2,f3⟩:=fin
      rw[zB (fun e=>by have:=sgnQ_pos.2 e;omega)]at f3;exact⟨(j,k',O),⟨⟨j2,f3,by show n-j<=k';omega,by show O.length<=j;omega⟩,by show n-j<n-i;omega⟩,[0,1],[],[],[],ttt,⟨zI zdd rfl rfl,zI zdd rfl rfl,zD,zA⟩,⟨zH zdd rfl rfl (rJ _) rfl,zH zdd rfl rfl (rJ _) rfl,zA⟩,zO⟩
   .have e0:O=R:=by rw[<- i2,uGW zom]
    subst e0
    refine gob ?_ ?_<;>intro h
    all_goals try omega
    exact zL (Cz (yL (xP (f:=vH) (l:=O) rfl rfl rfl fun x=>R6 x) (yL rfl rfl))) rfl
def uAD(v:Int):zP (yK v)=.agg [.imm [uY (v,1)],.bool false,.imm [],.imm []]:=by unfold zP yK;rw[nL];rfl
def R7(v:Int):Fn 210 [.int .i64 v] (.data (zP (yK v))):=by
 have c1:=bE 1 zdd;rw[show((1:Int):Rat)=1 by rfl]at c1;rw[uAD];refine fnV (mkO func210 ntmps210 results210) ?_;refine cvd c1 ?_;exact yD
def R8(c:RatL)(k:Nat)(hc:okQ k c)(hk:k<=950000000):Fn 211 [zR c] (.data (zP (bA (qv c)))):=by
 have c1:=bD c hc.1 (by have:=hc.2;omega) (by have:=hc.2;omega);refine yJ zU hT (mkO func211 ntmps211 results211) (by simp[zR]) (sts ?_);refine cvd c1 ?_;exact yD
def vQT(f:QF)(k:Nat)(hf:szF k f)(hk:k<=900000000)(hl:f.ts.length<=1048576):Fn 212 [zP f] (.data (zP (Ph f (-1)))):=by
 have c1:=bE (-1) zdd;rw[show(((-1:Int)):Rat)=-1 by rfl]at c1;have c2:=Xm f (-1) k 1 hf (pX (z:=-1) zdd) zom hl;refine yJ zU hT (mkO func212 ntmps212 results212) (by simp[zP]) (sts ?_);refine cvd c1 ?_;refine cvd c2 ?_;exact yD
def uP1(c:RatL)(h1:c.num.length<=950000000)(h2:c.den.length<=950000000):Fn 104 [zR c] (.data (.bool (dB (Km c)))):=by
 refine yJ zU hT (mkO func104 ntmps104 results104) (by simp[zR]) ?_
 (refine gob ?_ ?_<;>intro h;rotate_left;refine gob ?_ ?_<;>intro h;rotate_right)
 all_goals
  refine zL rfl (zV PV.bool ?_);rw[mW,dB_true];unfold Km
  simp_all
def R9(r:RowL):Fn 209 [uH r] (.data (.bool (decide (r.lo=0/\r.hi=0)))):=by
 refine yJ zU hT (mkO func209 ntmps209 results209) (by simp[uH]) ?_
 refine gob ?_ ?_<;>intro h
 all_goals
  refine zL rfl (zV PV.bool ?_);rw[mW]
  simp_all
def SA(q:QryL)(d:DecL)(hu:q.g.units.length<=1048576)(hd:okQ 950000000 d.rat):Fn 37 [kZ q,tZ d] (.data (.bool (dB (Bm q d)))):=by
 have cv:=IK d.rat hd.1 (by have:=hd.2;omega) (by have:=hd.2;omega);have l2:=hd.2.1;have l3:=hd.2.2;have cz:=uP1 d.rat l2 l3;have bad:¬ Bm q d->false=dB (Bm q d):=aO;refine yJ zU hT (mkO func37 ntmps37 results37) (by simp[kZ,tZ]) ?_
 (refine gob ?_ ?_<;>intro h;refine gob ?_ ?_<;>intro h;refine gob ?_ ?_<;>intro h;rotate_left 3;refine gob ?_ ?_<;>intro h;refine gob ?_ ?_<;>intro h;refine gob ?_ ?_<;>intro h;rotate_left 3;refine gob ?_ ?_<;>intro h;refine gob ?_ ?_<;>intro h;refine gob ?_ ?_<;>intro h;rotate_left 3;refine gob ?_ ?_<;>intro h;refine gob ?_ ?_<;>intro h;refine gob ?_ ?_<;>intro h;rotate_right 3;rotate_right 3;rotate_right 3)
 all_goals try (refine zL rfl (zV PV.bool (bad fun e=>?_));rcases e with⟨e1,e2,e3,e4⟩|⟨e1,e2,e3,e4⟩<;>first|omega|(simp_all;done))
 all_goals first
  | (have hk:d.kind=3\/d.kind=4:=zom
     refine cvd cv ?_;refine zL rfl (zV PV.bool ?_);rw[mW,dB_true,tC]
     exact⟨fun e=>zC ⟨zom,zom,zom,e⟩,fun e=>by rcases e with⟨e1,_⟩|⟨_,_,_,e4⟩;(exfalso;omega);exact e4⟩)
  | (refine cvd cz ?_
     refine zL rfl (zV PV.bool ?_);rw[mW,dB_true,dB_true]
     exact⟨fun e=>zF ⟨zom,zom,zom,e⟩,fun e=>by rcases e with⟨_,_,_,e4⟩|⟨e1,_⟩;exact e4;(exfalso;omega)⟩)
def uQD(S:ScpL)(k j:Int)(d:DecL)(hu:S.q.g.units.length<=1048576)(hd:okQ 950000000 d.rat):Fn 227 [tZ d,.cptr (.int .i64 k) 0,.cptr (.int .i64 j) 0,.cptr (xY S) 0] (.data (.bool (Dh S k j d))):=by
 have cf:=SA S.q d hu hd;refine yJ zU hT (mkO func227 ntmps227 results227) (by simp[tZ]) ?_
 (refine gob ?_ ?_<;>intro h;refine gob ?_ ?_<;>intro h)
 all_goals first
  | (refine zL rfl (zV PV.bool ?_)
     unfold Dh
     simp_all
     done)
  | (refine cvd cf ?_
     refine zL rfl (zV PV.bool ?_);unfold Dh
     simp_all)
def uP8(l:List DecL)(p:DecL->Bool)(g:FuncId)(c d e:PV)(hl:l.length<=1048576)(hp:∀ f∈l,Fn g [tZ f,.cptr c 0,.cptr d 0,.cptr e 0] (.data (.bool (p f)))):Fn 103 [.imm (l.map tZ),.func (.func g) [] [.cptr c 0,.cptr d 0,.cptr e 0]] (.data (.int .i64 (ixA p l))):=by
 refine fnV (mkO func103 ntmps103 results103) ?_;refine rU hT (fun n:Nat=>[(0,.imm (l.map tZ)),(1,.func (.func g) [] [.cptr c 0,.cptr d 0,.cptr e 0]),(7,.int .i64 l.length),(8,.int .i64 n)]) (fun n=>n<=l.length/\∀ j,j<n->p l[j]! = false) (fun n=>l.length-n) 0 ⟨zom,fun j hj=>by omega⟩ ?_ ?_
 .exact⟨zM,WN rfl,zG rfl zsm,zD,zA⟩
 intro n ⟨hn,he⟩;by_cases hi:n<l.length
 .have cc:=hp l[n]! (Bx hi)
  refine gob ?_ ?_<;>intro h
  .refine zT cc rfl ?_
   refine gob ?_ ?_<;>intro h
   .exact zL rfl (zV (PV.int .i64) (Y1 hi h he))
   .exact⟨n+1,⟨⟨zom,fun j hj=>CB (p:=fun j=>p l[j]! = false) he (by simpa using h) hj⟩,zom⟩,zM,WN rfl,zD,zG rfl zom,zA⟩
  all_goals (exfalso;omega)
 ·refine gob ?_ ?_<;>intro h
  all_goals try omega
  exact zL rfl (zV (PV.int .i64) (Y2 fun j hj=>he j zom))
def uBD(l:List DecL)(p:DecL->Bool)(g:FuncId)(c d e:PV)(hl:l.length<=1048576)(hp:∀ f∈l,Fn g [tZ f,.cptr c 0,.cptr d 0,.cptr e 0] (.data (.bool (p f)))):Fn 35 [.imm (l.map tZ),.func (.func g) [] [.cptr c 0,.cptr d 0,.cptr e 0]] (.data (.bool (l.any p))):=by
 have cc:=uP8 l p g c d e hl hp;have hg:=Y4 (p:=p) (l:=l);refine fnV (mkO func35 ntmps35 results35) ?_;refine cvd cc ?_;exact zL rfl (zV PV.bool Y3)
structure PrtH(S:ScpL):Prop where
 u:S.q.g.units.length<=1048576
 p:S.path.length<=1048576
 d:∀ d∈S.path,okQ 900000000 d.rat
def Fs(S:ScpL)(k j:Int)(H:PrtH S):Fn 173 [xY S,.int .i64 k,.int .i64 j] (.data (.bool (rG S k j))):=by
 have cc:=uBD S.path (Dh S k j) 227 (.int .i64 k) (.int .i64 j) (xY S) H.p (fun d hd=>uQD S k j d H.u (Bf zdd (H.d d hd)));refine yJ zU hT (mkO func173 ntmps173 results173) (by simp[xY]) (sts ?_);refine cvd cc ?_;exact yD
def uKL(S:ScpL)(n j:Int)(up:Bool)(h0:n=0):Fn 213 [xY S,.int .i64 n,.int .i64 j,.bool up] (.data (.tup [zR ⟨false,[],[]⟩,.bool false])):=by
 refine yJ zU hT (mkO func213 ntmps213 results213) (by simp[xY]) ?_
 (refine gob ?_ ?_<;>intro h;rotate_left;refine gob ?_ ?_<;>intro h;rotate_right)
 all_goals try omega
 exact yD
abbrev uJ6(S:ScpL)(r:RowL)(v:QF)(p:AffL):PV:=.agg [.int .i64 S.q.g.ins,.imm (S.q.g.units.map x8),.imm (S.q.g.outs.map x8),.imm (S.q.r.lo.map zR),.imm (S.q.r.hi.map zR),.imm (S.q.r.rows.map x8),.imm (S.q.goal.terms.map mI),.bool S.q.goal.const.neg,zQ S.q.goal.const.num,zQ S.q.goal.const.den,.imm (S.path.map tZ),.imm (S.lems.map O5),
 .int .i64 r.kind,.int .i64 r.index,.int .i64 r.lo,.int .i64 r.hi,.imm (v.ts.map uY),.bool (cr v.c).neg,zQ (cr v.c).num,zQ (cr v.c).den,.imm (p.terms.map mI),.bool p.const.neg,zQ p.const.num,zQ p.const.den,.bool false,.imm [],.imm [],.bool false,.imm [],.imm [],.bool false,.bool false]
def uXM(S:ScpL)(r:RowL)(v:QF)(p:AffL)(H:PrtH S)(h1:r.lo=0)(h2:r.hi=0):Fn 214 [uJ6 S r v p] (.data (.bool (rG S 1 r.index))):=by
 have cc:=Fs S 1 r.index H;refine yJ zU hT (mkO func214 ntmps214 results214) zsm ?_
 (refine gob ?_ ?_<;>intro h;refine gob ?_ ?_<;>intro h)
 all_goals try contradiction
 refine zT cc rfl ?_
 refine gob ?_ ?_<;>intro h
 all_goals refine zL rfl (zV PV.bool ?_)
 all_goals simp_all
def uU0(S:ScpL)(r:RowL)(v:QF)(p:AffL)(H:PrtH S)(h1:r.lo=0)(h2:r.hi=0):Fn 215 [uJ6 S r v p] (.data (.bool (rG S 2 r.index))):=by
 have cc:=Fs S 2 r.index H;refine yJ zU hT (mkO func215 ntmps215 results215) zsm ?_
 (refine gob ?_ ?_<;>intro h;refine gob ?_ ?_<;>intro h)
 all_goals try contradiction
 refine zT cc rfl ?_
 refine gob ?_ ?_<;>intro h
 all_goals refine zL rfl (zV PV.bool ?_)
 all_goals simp_all
def uP3(S:ScpL)(r:RowL)(H:PrtH S)(hq:smQ S.q 199)(ha:uAv S r):Fn 162 [xY S,uH r] (.data (.tup [zP (uFm S r),.bool true])):=by
 obtain⟨h1,h2,h3,h4,h5,h6,h7,h8⟩:=ha;have hj:r.index.toNat<S.q.g.units.length:=zom
 have hni:=hq.va.1.1;have hnu:=hq.un;have hpu:=Hh (hq.va.1.2.2.2.1 _ hj);have hpa:=hq.g.1.2 _ (Bx hj);have szp:=jZ hpa zdd;have lp:S.q.g.units[r.index.toNat]!.Q.ts.length<=1048576:=by rw[fR];exact hpa.2.2
 have szv:=Bj (S.q.g.ins+r.index);have lv:(yK (S.q.g.ins+r.index)).ts.length<=1048576:=by simp[yK]
 have cv:=R7 (S.q.g.ins+r.index);have cl:=uKL S r.lo r.index false h1;have cu:=uKL S r.hi r.index true h2;have cp:=R9 r;have con:=uXM S r (yK (S.q.g.ins+r.index)) S.q.g.units[r.index.toNat]! H h1 h2;have cof:=uU0 S r (yK (S.q.g.ins+r.index)) S.q.g.units[r.index.toNat]! H h1 h2;have c6:=FE _ _ 1 199 szv szp zom lv lp;have c7:=QK _ zeroQ 199 1 szp (cQ 1 zdd) zom lp (by simp[zeroQ]);have c8:=FE _ _ 199 1 szp szv zom lp lv;have c9:=vQT _ 199 szp zom lp;have c10:=vQT _ 1 szv zom lv;rw[<- hpu]at c6 c7 c8 c9;rw[Er]at c7;have res:uFm S r=uFm S r:=rfl
 conv at res=>lhs;unfold uFm
 dsimp only at res;have key:∀ X,X=uFm S r->PV.tup [zP X,.bool true]=.tup [zP (uFm S r),.bool true]:=fun X e=>by rw[e]
 rw[sJ (show r.lo=0/\r.hi=0 from⟨h1,h2⟩)]at cp;generalize yK (S.q.g.ins+r.index)=v at *
 refine yJ zU hT (mkO func162 ntmps162 results162) (by simp[xY,uH]) ?_
 (refine gob ?_ ?_<;>intro h;rotate_left;refine gob ?_ ?_<;>intro h;rotate_right)
 all_goals try omega
 refine cvd cv ?_;refine wP (j:=r.index.toNat) (show r.index=_ by omega) hj (sts ?_);refine cvd cl ?_;refine zT cu rfl ?_
 (refine gob ?_ ?_<;>intro h;rotate_left;refine gob ?_ ?_<;>intro h;rotate_left;refine gob ?_ ?_<;>intro h;rotate_left;refine gob ?_ ?_<;>intro h;rotate_left;refine gob ?_ ?_<;>intro h;rotate_left;refine gob ?_ ?_<;>intro h;rotate_left;refine gob ?_ ?_<;>intro h;refine gob ?_ ?_<;>intro h;refine gob ?_ ?_<;>intro h;rotate_left 2;refine gob ?_ ?_<;>intro h;rotate_right 2;rotate_left 4;refine gob ?_ ?_<;>intro h;refine gob ?_ ?_<;>intro h;rotate_left 2;refine gob ?_ ?_<;>intro h;rotate_right 2;rotate_right 4;rotate_right;rotate_right;rotate_right;rotate_right;rotate_right;rotate_right)
 all_goals try omega
 .refine cvd cp ?_
  exact zL rfl (key _ (by rw[<- res,zE zom]))
 .refine cvd cp ?_
  refine cvd c6 ?_;exact zL rfl (key _ (by rw[<- res,zB zom,zE zom];rfl))
 .rw[h7 zom]at con
  refine cvd con ?_;refine cvd c7 ?_;exact zL rfl (key _ (by rw[<- res,zB zom,zB zom,zE zom]))
 .rw[h7 zom]at con
  refine cvd con ?_;refine cvd c8 ?_;exact zL rfl (key _ (by rw[<- res,zB zom,zB zom,zB zom,zE zom];rfl))
 .rw[h8 zom]at cof
  refine cvd cof ?_;refine cvd c9 ?_;exact zL rfl (key _ (by rw[<- res,zB zom,zB zom,zB zom,zB zom,zE zom]))
 .rw[h8 zom]at cof
  refine cvd cof ?_;refine cvd c10 ?_;exact zL rfl (key _ (by rw[<- res,zB zom,zB zom,zB zom,zB zom,zB zom]))
def gN(x:List Rat):∀ e∈x.map yF,nr 3 e=true/\e≠.any:=yZ fun x=>⟨rfl,by simp[yF,zR]⟩
def uL1(x:List Rat):∀ e∈x.map yF,nr 3 e=true:=fun e he=>(gN x e he).1
abbrev SB(x:List Rat):Blk:=⟨x.map yF,3,true⟩
def uHU(f:QF)(x:List Rat)(k kx:Nat)(hf:szF k f)(hx:∀ q∈x,sz kx q)(hv:∀ p∈f.ts,0<=p.1/\p.1<x.length)(hk:k+f.ts.length*(k+kx+1)+k+kx<=949999990)(hl:f.ts.length<=1048576)(hxl:x.length<=1048576):Fn 101 [zP f,.own 0 0 x.length] (.wrt (SB x) (.tup [zR (cr (evQ f x)),.int .i64 0]) (SB x)):=by
 refine iQ zU hT Xn (by simp[zP]) (sts ?_)
 refine xG hT (fun((i,y):Nat×Rat)=>[(1,.own 0 0 x.length),(4,.ptr 1 0 0),(6,.ptr 2 0 0),(12,.imm (f.ts.map uY)),(13,.int .i64 f.ts.length),(14,.int .i64 i)])
  (fun(_,y)=>[(0,SB x),(1,⟨[.agg [.bool false,.nilsl,.nilsl]],3,true⟩),(2,⟨[zR (cr y)],3,true⟩)]) [] 3
  (fun(i,y)=>i<=f.ts.length/\y=ev1 x (f.ts.take i) f.c/\sz (k+i*(k+kx+1)) y) (fun(i,_)=>f.ts.length-i) (0,f.c) ⟨z8 _,rfl,by simpa using hf.1⟩ zdd zsm ?_ ?_
 .exact⟨[_,_],[],[],[],ttt,⟨zI zdd rfl rfl,(apy rfl),(apy rfl),xI rfl rfl,zG rfl zsm,zG rfl rfl,zA⟩,
   ⟨zH zdd rfl rfl (gN x) rfl,bbx,bbx,zA⟩,zO⟩
 intro⟨i,y⟩ ⟨i1,i2,i3⟩;by_cases hi:i<f.ts.length
 .have hmem:f.ts[i]! ∈ f.ts:=by rw[zS f.ts i hi];exact wA hi
  have hvi:=hv _ hmem;have hp:=hf.2 _ hmem;have hj:f.ts[i]!.1.toNat<x.length:=zom
  have hxm:x[f.ts[i]!.1.toNat]! ∈ x:=by rw[zS x _ hj];exact wA hj
  have hxi:=hx _ hxm;have hm:=q9 hp hxi;have hmul:(i+1)*(k+kx+1)<=f.ts.length*(k+kx+1):=vK _ zom;rw[w6]at hmul;have l1:=yO hp;have l2:=yO hxi;have l3:=yO hm;have l4:=yO i3;have cm:=gD (cr f.ts[i]!.2) (cr x[f.ts[i]!.1.toNat]!) (yH _) (yH _) zom zom zom zom;rw[yC,yC]at cm;have ca:=Bq (cr y) (cr (f.ts[i]!.2*x[f.ts[i]!.1.toNat]!)) (yH _) (yH _) zom zom zom zom;rw[yC,yC]at ca;have hsz:=xV (show k+i*(k+kx+1)+(k+kx)+1<=k+(i+1)*(k+kx+1) by rw[w6];omega) (pU i3 hm);have hy:ev1 x (f.ts.take (i+1)) f.c=y+f.ts[i]!.2*x[f.ts[i]!.1.toNat]! := by rw[WB x f.ts f.c i hi,i2]
  (refine gob ?_ ?_<;>intro h;refine gob ?_ ?_<;>intro h;rotate_left;refine gob ?_ ?_<;>intro h;rotate_right)
  .exact absurd h (show ¬ f.ts[i]!.1<0 by omega)
  .exact absurd h (show ¬ f.ts[i]!.1>=(x.length:Int) by omega)
  .refine yB f.ts[i]!.1.toNat (z7 _) hj ?_
   refine sts ?_;refine cvd cm ?_;refine cvd ca ?_
   exact⟨(i+1,y+f.ts[i]!.2*x[f.ts[i]!.1.toNat]!),⟨⟨zom,hy.symm,hsz⟩,zbo⟩,[1,2],[],[],[],ttt,⟨zI zdd rfl rfl,apx,apx,zM,zD,zG rfl zom,zA⟩,
    ⟨zH zdd rfl rfl (gN x) rfl,bbx,bbx,zA⟩,zO⟩
  .exact absurd (show(i:Int)<f.ts.length by omega) h
 .have hmul:i*(k+kx+1)<=f.ts.length*(k+kx+1):=vK _ zom
  have e:y=evQ f x:=by rw[i2,uT zom];rfl
  have l4:=yO i3;have cc:=bD (cr y) (yH _) zom zom;rw[yC]at cc
  (refine gob ?_ ?_<;>intro h;refine gob ?_ ?_<;>intro h;rotate_left;refine gob ?_ ?_<;>intro h;rotate_right)
  all_goals try omega
  refine cvd cc ?_;subst e;exact qZ rfl rfl rfl rfl rfl (uL1 x)
def uB9{l:List AffL}{n:Int}:l.any (fun f=>!kU f n)=false↔∀ j,j<l.length->uQ l[j]! n:=by
 rw[NP];constructor
 .intro e j hj
  have:=e _ (nT hj);exact validB_true.1 (by simpa using this)
 .intro e f hf
  obtain⟨j,hj,rfl⟩:=uE hf;have:=validB_true.2 (e j hj);rw[zS l j hj]at this;simp[this]
def uXQ(f:AffL)(n:Int)(hf:okA 2147483596 f):Fn 226 [x8 f,.cptr (.int .i64 n) 0] (.data (.bool (!kU f n))):=by
 have cc:=DY f n hf;refine fnV (mkO func226 ntmps226 results226) ?_;refine cvd cc ?_;exact yD
def uXP(l:List AffL)(n:Int)(hl:Kh 950000000 l):Fn 171 [.imm (l.map x8),.int .i64 n] (.data (.bool (dB (Y9 l n)))):=by
 have cc:=RG l (fun f=>!kU f n) 226 (.int .i64 n) hl.1 (fun f hf=>uXQ f n (qP zdd (hl.2 f hf)));refine fnV (mkO func171 ntmps171 results171) ?_;refine cvd cc ?_;refine zL rfl (zV PV.bool ?_);rw[mW,dB_true,bV,uB9];exact Au
def SC(g:GraL)(hg:j6 950000000 g):Fn 94 [sD g] (.data (.bool (dB (VaG g)))):=by
 obtain⟨hu,ho⟩:=hg;have no:¬ VaG g->false=dB (VaG g):=aO;have l1:=hu.1;have l2:=ho.1;have cc:=uXP g.outs (g.ins+g.units.length) ho;refine yJ zU hT (mkO func94 ntmps94 results94) (by simp[sD]) ?_
 (refine gob ?_ ?_<;>intro h;rotate_left;refine gob ?_ ?_<;>intro h;rotate_left;refine gob ?_ ?_<;>intro h;rotate_left;refine gob ?_ ?_<;>intro h;rotate_left;refine gob ?_ ?_<;>intro h;rotate_right;rotate_right;rotate_right;rotate_right)
 .exact zL rfl (zV PV.bool (no fun e=>by have:=e.1.1;omega))
 .exact zL rfl (zV PV.bool (no fun e=>by have:=e.1.2;omega))
 .exact zL rfl (zV PV.bool (no fun e=>by have:=e.2.1;omega))
 .exact zL rfl (zV PV.bool (no fun e=>by have:=e.2.2.1.1;omega))
 .exact zL rfl (zV PV.bool (no fun e=>by have:=e.2.2.1.2;omega))
 .have h0:(1<=g.ins/\g.ins<=256)/\g.units.length<=1024/\(1<=g.outs.length/\g.outs.length<=256):=⟨⟨zom,zom⟩,zom,zom,zom⟩
  obtain⟨h1,h2,h3⟩:=h0
  refine xG hT (fun(i:Nat)=>[(1,.ptr 0 0 0),(32,.imm (g.units.map x8)),(33,.int .i64 g.units.length),(34,.int .i64 i)]) (fun _=>[(0,⟨[sD g],3,true⟩)]) [] 1
   (fun i=>i<=g.units.length/\∀ j,j<i->uQ g.units[j]! (g.ins+j)) (fun i=>g.units.length-i) 0 ⟨z8 _,fun j h=>zom⟩ zdd zsm ?_ ?_
  .exact⟨[0],[],[],[],ttt,⟨apx,zM,zG rfl zsm,zD,zA⟩,⟨bbx,zA⟩,zO⟩
  intro i ⟨i1,i2⟩;by_cases hi:i<g.units.length
  .have c1:=DY g.units[i]! (g.ins+i) (qP zdd (hu.2 _ (nT hi)))
   refine gob ?_ ?_<;>intro h
   .refine zT c1 rfl ?_
    refine gob ?_ ?_<;>intro h
    .exact⟨i+1,⟨⟨zom,fun j hj=>CB (p:=fun(j:Nat)=>uQ g.units[j]! (g.ins+j)) i2 (validB_true.1 xU) hj⟩,zbo⟩,[0],[],[],[],ttt,⟨apx,zM,zD,zD,zA⟩,⟨bbx,zA⟩,zO⟩
    .exact zL rfl (zV PV.bool (no fun e=>by have:=validB_true.2 (e.2.2.2.1 i hi);simp_all))
   all_goals (exfalso;omega)
  ·refine gob ?_ ?_<;>intro h
   all_goals try omega
   rw[z6];refine cvd cc ?_;refine zL rfl (zV PV.bool ?_);rw[mW,dB_true,dB_true];exact⟨fun e=>⟨h1,h2,h3,fun j hj=>i2 j zom,e⟩,fun e=>e.2.2.2.2⟩
def SD(g:GraL):g.us.length=g.units.length:=by simp[GraL.us]
def Ft{g:GraL}{j:Nat}(h:j<g.units.length):g.us[j]! = g.units[j]!.Q:=by
 unfold GraL.us;rw[zS _ j (by simpa using h),zS g.units j h];simp
def MI{f:AffL}{n:Int}(h:uQ f n):zP f.Q=x8 f:=by rw[C9,PU h]
def uVR{l:List Rat}{j:Nat}{q:Rat}(h:j<l.length)(e:l[j]! = q):(l.take j).map yF++[zR (cr q)]=(l.take (j+1)).map yF:=by
 rw[tO h,wB,<- zS l j h,e];rfl
def vRP{l:List RatL}{i:Nat}(h:i<l.length):((l.take i).map qv).map yF++[zR (cr (qv l[i]!))]=((l.take (i+1)).map qv).map yF:=by
 rw[tO h,wB,wB,zS l i h];rfl
def uFD{k:Nat}:okQ k ⟨false,[],[]⟩:=⟨⟨by simp[okN],by simp[okN]⟩,z8 _,z8 _⟩
def uVF(g:GraL)(x:List RatL)(k K:Nat)(hg:j6 k g)(hk:k<=950000000)(hk1:1<=k)(hK1:1<=K)(hv:VaG g)(hx:cT 950000000 x)(hl:(x.length:Int)=g.ins)(hK:∀ j,j<g.units.length->(∀ q∈vB g.us (x.map qv) j,sz K q)/\sz K (uS g.us (x.map qv))[j]!)(hb:∀ f∈g.units,k+f.terms.length*(k+K+1)+k+K<=949999990):Fn 102 [sD g,.imm (x.map zR)] (.data (.tup [.imm ((vB g.us (x.map qv) g.us.length).map yF),.imm ((uS g.us (x.map qv)).map yF),.int .i64 0])):=by
 have cv:=SC g ⟨⟨hg.1.1,fun f hf=>qP hk (hg.1.2 f hf)⟩,⟨hg.2.1,fun f hf=>qP hk (hg.2.2 f hf)⟩⟩;rw[dB_true.2 hv]at cv;have l1:=hx.1;have l2:=hg.1.1;have lu:=SD g;have hn:=hv.2.1;have hx2:x.length<=256:=by have:=hv.1.2;omega
 refine yJ zU hT (mkO func102 ntmps102 results102) (by simp[sD]) (sts ?_);refine zT cv rfl ?_
 refine gob ?_ ?_<;>intro h
 .exfalso;omega
 refine iB hT [(.sl 4,3,true),(.sl 5,3,true)] (fun(i:Nat)=>[(2,.ptr 0 0 0),(4,.own 1 0 i),(5,.own 2 0 0),(23,.imm (x.map zR)),(24,.int .i64 x.length),(25,.int .i64 i)]) (fun i=>[(0,⟨[sD g],3,true⟩),(1,⟨((x.take i).map qv).map yF,3,true⟩),(2,⟨[],3,true⟩)]) [] 3
  (fun i=>i<=x.length) (fun i=>x.length-i) 0 (z8 _) zdd zsm ⟨rfl,rfl,zA⟩ ?_ ?_
 .exact⟨[0,_,_],[],[],[],ttt,⟨(apy rfl),zI zdd rfl rfl,zI zdd rfl rfl,xI rfl rfl,zG rfl zsm,zG rfl rfl,zA⟩,
   ⟨bbx,zH zdd rfl rfl (gN []) rfl,zH zdd rfl rfl (gN []) rfl,zA⟩,zO⟩
 intro i i1;have hlen:((x.take i).map qv).length=i:=by rw[z6,wG];omega
 by_cases hi:i<x.length
 .have q1:=cV hx hi
  have cc:=bD x[i]! q1.1 (by have:=q1.2;omega) (by have:=q1.2;omega)
  refine gob ?_ ?_<;>intro h
  .refine cvd cc ?_
   exact⟨i+1,⟨zom,zbo⟩,[0,_,2],[],[],[],ttt,⟨(apy rfl),zI zdd rfl rfl,zI zdd rfl rfl,xI rfl rfl,zG rfl rfl,zG rfl rfl,zA⟩,
    ⟨bbx,zH zdd rfl (vRP hi) (gN _) rfl,zH zdd rfl rfl (gN []) rfl,zA⟩,zO⟩
  all_goals (exfalso;omega)
 .have e0:(x.take i).map qv=vB g.us (x.map qv) 0:=by rw[Kj,uT zom]
  refine gob ?_ ?_<;>intro h
  all_goals try omega
  refine xG hT (fun(j:Nat)=>[(2,.ptr 0 0 0),(4,.own 1 0 (x.length+j)),(5,.own 2 0 j),(36,.imm (g.units.map x8)),(37,.int .i64 g.units.length),(38,.int .i64 j)]) (fun j=>[(0,⟨[sD g],3,true⟩),(1,⟨(vB g.us (x.map qv) j).map yF,3,true⟩),(2,⟨((uS g.us (x.map qv)).take j).map yF,3,true⟩)]) [] 3
   (fun j=>j<=g.units.length) (fun j=>g.units.length-j) 0 (z8 _) zdd zsm ?_ ?_
  .exact⟨[0,1,2],[],[],[],ttt,⟨apx,zI zdd rfl zom,zI zdd rfl rfl,zM,zG rfl zsm,zD,zA⟩,
    ⟨bbx,zH zdd rfl (zV (List.map yF) e0) (gN _) rfl,zH zdd rfl rfl (gN []) rfl,zA⟩,zO⟩
  intro j j1;have hvl:(vB g.us (x.map qv) j).length=x.length+j:=by rw[PZ j zom,z6]
  have hp2:=Ex g.us (x.map qv);have hpl:((uS g.us (x.map qv)).take j).length=j:=by rw[wG,Ex];omega
  by_cases hj:j<g.units.length
  .have hvu:=hv.2.2.2.1 j hj
   have hmem:=nT hj;have hou:=hg.1.2 _ hmem;have hb1:=hb _ hmem;obtain⟨hs1,hs2⟩:=hK j hj;have hvr:∀ p∈g.units[j]!.Q.ts,0<=p.1/\p.1<((vB g.us (x.map qv) j).length:Nat):=fun p hp=>by have:=(p8 hvu).2 p hp;omega
   have ce:=uHU g.units[j]!.Q (vB g.us (x.map qv) j) k K (jZ hou hk1) hs1 hvr (by rw[fR];exact hb1) (by rw[fR];exact hou.2.2) zom;rw[MI hvu,hvl]at ce;have hp:(uS g.us (x.map qv))[j]! = evQ g.units[j]!.Q (vB g.us (x.map qv) j):=by rw[Hv zom,Ft hj]
   rw[hp]at hs2;have l3:=yO hs2;have cx:=uU6 ⟨false,[],[]⟩ (cr (evQ g.units[j]!.Q (vB g.us (x.map qv) j))) K uFD (kW hs2) zom;rw[yC,show qv ⟨false,[],[]⟩=0 by rfl]at cx
   have hvs:(vB g.us (x.map qv) j).map yF++[zR (cr (fQ 0 (evQ g.units[j]!.Q (vB g.us (x.map qv) j))))]=(vB g.us (x.map qv) (j+1)).map yF:=by
    rw[Hu zom,wB,Ft hj];rfl
   have hps:=uVR (l:=uS g.us (x.map qv)) (j:=j) (by rw[Ex];omega) hp
   refine gob ?_ ?_<;>intro h
   .refine tG (r:=1) ce rfl rfl rfl rfl (rT (gN _)) ?_
    refine sts ?_;refine cvd cx ?_
    exact⟨j+1,⟨zom,zbo⟩,[0,_,_],[],[],[],ttt,⟨(apy rfl),zI zdd rfl rfl,zI zdd rfl rfl,xI rfl rfl,zG rfl rfl,zG rfl rfl,zA⟩,
     ⟨bbx,zH zdd rfl hvs (gN _) rfl,zH zdd rfl hps (gN _) rfl,zA⟩,zO⟩
   all_goals (exfalso;omega)
  .have ej:j=g.us.length:=zom
   have hp2:=Ex g.us (x.map qv);have et:(uS g.us (x.map qv)).take j=uS g.us (x.map qv):=uT (by rw[Ex];omega)
   refine gob ?_ ?_<;>intro h
   all_goals try omega
   exact zL (Cz (yL (xP rfl rfl zom fun q=>KI (cr q)) (yL (xP rfl rfl zom fun q=>KI (cr q)) rfl))) (by rw[et,ej])
def uVG(g:GraL)(x:List RatL)(k K:Nat)(hg:j6 k g)(hk:k<=950000000)(hk1:1<=k)(hK1:1<=K)(hv:VaG g)(hx:cT 950000000 x)(hl:(x.length:Int)=g.ins)(hK:∀ j,j<g.units.length->(∀ q∈vB g.us (x.map qv) j,sz K q)/\sz K (uS g.us (x.map qv))[j]!)(hb:∀ f∈g.units,k+f.terms.length*(k+K+1)+k+K<=949999990):Fn 34 [sD g,.imm (x.map zR)] (.data (.tup [.imm ((uS g.us (x.map qv)).map yF),.int .i64 0])):=by
 have cc:=uVF g x k K hg hk hk1 hK1 hv hx hl hK hb;refine yJ zU hT (mkO func34 ntmps34 results34) (by simp[sD]) (sts ?_);refine cvd cc ?_;exact yD
def vH7{ys:List Rat}{i:Nat}(h:i<ys.length):(ys.take i).map yF++[zR (cr ys[i]!)]=(ys.take (i+1)).map yF:=by
 rw[tO h,wB,zS ys i h];rfl
def uU4(f:AffL)(n:Int)(hf:okA 2147483596 f):Fn 172 [x8 f,.cptr (.int .i64 n) 0] (.data (.bool (!kU f n))):=by
 have cc:=DY f n hf;refine fnV (mkO func172 ntmps172 results172) ?_;refine cvd cc ?_;exact yD
def vKJ(r:RegL)(n:Int)(hr:aP 950000000 r):Fn 95 [kX r,.int .i64 n] (.data (.bool (dB (VaR r n)))):=by
 obtain⟨hlo,hhi,hrw,hrl⟩:=hr;have no:¬ VaR r n->false=dB (VaR r n):=aO;have l1:=hlo.1;have l2:=hhi.1;have cc:=RG r.rows (fun f=>!kU f n) 172 (.int .i64 n) hrl (fun f hf=>uU4 f n (qP zdd (hrw f hf)));refine yJ zU hT (mkO func95 ntmps95 results95) (by simp[kX]) ?_
 (refine gob ?_ ?_<;>intro h;rotate_left;refine gob ?_ ?_<;>intro h;rotate_left;refine gob ?_ ?_<;>intro h;rotate_left;refine gob ?_ ?_<;>intro h;rotate_left;refine gob ?_ ?_<;>intro h;rotate_right;rotate_right;rotate_right;rotate_right)
 .exact zL rfl (zV PV.bool (no fun e=>by have:=e.1.1;omega))
 .exact zL rfl (zV PV.bool (no fun e=>by have:=e.1.2;omega))
 .exact zL rfl (zV PV.bool (no fun e=>by have:=e.2.1;omega))
 .exact zL rfl (zV PV.bool (no fun e=>by have:=e.2.2.1;omega))
 .exact zL rfl (zV PV.bool (no fun e=>by have:=e.2.2.2.1;omega))
 .have h0:(1<=n/\n<=256)/\(r.lo.length:Int)=n/\(r.hi.length:Int)=n/\r.rows.length<=256:=⟨⟨zom,zom⟩,zom,zom,zom⟩
  obtain⟨h1,h2,h3,h4⟩:=h0
  refine xG hT (fun(i:Nat)=>[(2,.ptr 0 0 0),(3,.ptr 1 0 0),(34,.imm (r.lo.map zR)),(35,.int .i64 r.lo.length),(36,.int .i64 i)]) (fun _=>[(0,⟨[kX r],3,true⟩),(1,⟨[.int .i64 n],1,false⟩)]) [] 2
   (fun i=>i<=r.lo.length/\∀ j,j<i->Hj r j) (fun i=>r.lo.length-i) 0 ⟨z8 _,fun j h=>zom⟩ zdd zsm ?_ ?_
  .exact⟨[0,1],[],[],[],ttt,⟨apx,apx,zM,zG rfl zsm,zD,zA⟩,⟨bbx,bbx,zA⟩,zO⟩
  intro i ⟨i1,i2⟩;by_cases hi:i<r.lo.length
  .have hi2:i<r.hi.length:=zom
   have q1:=cV hlo hi;have q2:=cV hhi hi2;have c1:=IK r.lo[i]! q1.1 (by have:=q1.2;omega) (by have:=q1.2;omega);have c2:=IK r.hi[i]! q2.1 (by have:=q2.2;omega) (by have:=q2.2;omega);have c3:=DX r.lo[i]! r.hi[i]! q1.1 q2.1 (by have:=q1.2;omega) (by have:=q1.2;omega) (by have:=q2.2;omega) (by have:=q2.2;omega);have hb:¬ Hj r i->¬ VaR r n:=fun h e=>h (e.2.2.2.2.1 i hi)
   refine gob ?_ ?_<;>intro h
   .refine zT c1 rfl ?_
    refine gob ?_ ?_<;>intro h
    rotate_left
    .exact zL rfl (zV PV.bool (no (hb fun e=>h e.1)))
    .refine zT c2 rfl ?_
     refine gob ?_ ?_<;>intro h
     rotate_left
     .exact zL rfl (zV PV.bool (no (hb fun e=>h e.2.1)))
     .refine zT c3 rfl ?_
      refine gob ?_ ?_<;>intro h
      .exact zL rfl (zV PV.bool (no (hb fun e=>by have:=sgn_le.2 e.2.2;omega)))
      .exact⟨i+1,⟨⟨zom,fun j hj=>CB (p:=fun j=>Hj r j) i2 ⟨by assumption,by assumption,sgn_le.1 zom⟩ hj⟩,zbo⟩,[0,1],[],[],[],ttt,⟨apx,apx,zM,zD,zD,zA⟩,⟨bbx,bbx,zA⟩,zO⟩
   all_goals (exfalso;omega)
  ·refine gob ?_ ?_<;>intro h
   all_goals try omega
   refine cvd cc ?_;refine zL rfl (zV PV.bool ?_)
   have hv:r.rows.any (fun f=>!kU f n)=false↔∀ j,j<r.rows.length->uQ r.rows[j]! n:=by
    rw[NP];constructor
    .intro e j hj
     have:=e _ (nT hj);exact validB_true.1 (by simpa using this)
    .intro e f hf
     obtain⟨j,hj,rfl⟩:=uE hf;have:=validB_true.2 (e j hj);rw[zS r.rows j hj]at this;simp[this]
   rw[mW,dB_true,bV,hv];exact⟨fun e=>⟨h1,h2,h3,h4,fun j hj=>i2 j zom,e⟩,fun e=>e.2.2.2.2.2⟩
def uQO(r:RegL)(hr:aP 950000000 r):Fn 98 [kX r] (.data (.bool (dB (VaO r)))):=by
 have cc:=vKJ r r.lo.length hr;have l1:=hr.1.1;refine yJ zU hT (mkO func98 ntmps98 results98) (by simp[kX]) (sts ?_);refine zT cc (by simp;rfl) ?_;refine sts ?_;exact yD
structure okQr(q:QryL):Prop where
 g:j6 950000000 q.g
 r:aP 950000000 q.r
 goal:okA 950000000 q.goal
def Fu(q:QryL)(hq:okQr q):Fn 31 [kZ q] (.data (.bool (dB (VaQ q)))):=by
 have cv:=SC q.g hq.g;have cr':=vKJ q.r q.g.ins hq.r;have l1:=hq.g.1.1;have cl:=DY q.goal (q.g.ins+q.g.units.length) (qP zom hq.goal);refine yJ zU hT (mkO func31 ntmps31 results31) (by simp[kZ]) (sts ?_);refine zT cv rfl ?_
 refine gob ?_ ?_<;>intro h
 rotate_left
 .have hv:¬ VaG q.g:=dB_false.1 xU
  exact zL rfl (zV PV.bool (aO fun e=>hv e.1))
 have hv:VaG q.g:=dB_true.1 xU;have h1:=hv.1;refine zT cr' rfl ?_
 refine gob ?_ ?_<;>intro h
 rotate_left
 .have hw:¬ VaR q.r q.g.ins:=dB_false.1 xU
  exact zL rfl (zV PV.bool (aO fun e=>hw e.2.1))
 have hw:VaR q.r q.g.ins:=dB_true.1 xU;rw[z6];refine cvd cl ?_;refine zL rfl (zV PV.bool ?_);rw[mW,validB_true,dB_true];exact⟨fun h=>⟨hv,hw,h⟩,fun h=>h.2.2⟩
def vWO:FO 160 f160 [.cell 4 36,.tmp 5] 124:=mkO func160 ntmps160 results160
def uU1(S:ScpL)(r:RowL)(H:PrtH S)(hq:smQ S.q 199)(ha:Q9 S r):Fn 160 [xY S,uH r] (.data (.tup [zP (inF S r),.bool true])):=by
 obtain⟨h1,h2,h3,ha⟩:=ha;have cp:=R9 r;rw[sJ (show r.lo=0/\r.hi=0 from⟨h1,h2⟩)]at cp;have cv:=R7 r.index;have l1:=hq.r.1.1;have l2:=hq.r.2.1.1;have l3:=hq.r.2.2.2;have hu:=H.u;have hpl:=H.p;have key:∀ X,inF S r=X->PV.tup [zP X,.bool true]=.tup [zP (inF S r),.bool true]:=fun X e=>by rw[e]
 refine yJ zU hT vWO (by simp[xY,uH]) (sts ?_)
 all_goals try omega
 refine zT cp rfl ?_
 (refine gob ?_ ?_<;>intro h;rotate_left;refine gob ?_ ?_<;>intro h;refine gob ?_ ?_<;>intro h;rotate_left;refine gob ?_ ?_<;>intro h;refine gob ?_ ?_<;>intro h;rotate_left;refine gob ?_ ?_<;>intro h;refine gob ?_ ?_<;>intro h;rotate_left;refine gob ?_ ?_<;>intro h;refine gob ?_ ?_<;>intro h;rotate_right;rotate_left 4;refine gob ?_ ?_<;>intro h;refine gob ?_ ?_<;>intro h;rotate_right 4;rotate_right;rotate_left 8;refine gob ?_ ?_<;>intro h;refine gob ?_ ?_<;>intro h;rotate_left;refine gob ?_ ?_<;>intro h;refine gob ?_ ?_<;>intro h;rotate_right;rotate_left 4;refine gob ?_ ?_<;>intro h;refine gob ?_ ?_<;>intro h;rotate_right 4;rotate_right 8;rotate_right;rotate_left 16;refine gob ?_ ?_<;>intro h;refine gob ?_ ?_<;>intro h;rotate_left;refine gob ?_ ?_<;>intro h;refine gob ?_ ?_<;>intro h;rotate_left;refine gob ?_ ?_<;>intro h;refine gob ?_ ?_<;>intro h;rotate_right;rotate_left 4;refine gob ?_ ?_<;>intro h;refine gob ?_ ?_<;>intro h;rotate_right 4;rotate_right;rotate_left 8;refine gob ?_ ?_<;>intro h;refine gob ?_ ?_<;>intro h;rotate_left;refine gob ?_ ?_<;>intro h;refine gob ?_ ?_<;>intro h;rotate_right;rotate_left 4;refine gob ?_ ?_<;>intro h;refine gob ?_ ?_<;>intro h;rotate_right 4;rotate_right 8;rotate_right 16;rotate_right)
 all_goals try omega
 .have hj:r.index.toNat<S.q.r.lo.length:=zom
  have ho:=cV hq.r.1 hj;have cn:=R8 _ 60 ho zom;have cs:=FE (yK r.index) (bA (qv S.q.r.lo[r.index.toNat]!)) 1 60 (Bj _) (RA (RB ho zdd)) zom (by simp[yK]) (by simp[bA]);refine cvd cv ?_;refine wP (j:=r.index.toNat) (show r.index=_ by omega) hj (sts ?_);refine cvd cn ?_;refine cvd cs ?_;exact zL rfl (key _ (by unfold inF;rw[zE zom];rfl))
 .have hj:r.index.toNat<S.q.r.hi.length:=zom
  have ho:=cV hq.r.2.1 hj;have cn:=R8 _ 60 ho zom;have cs:=FE (bA (qv S.q.r.hi[r.index.toNat]!)) (yK r.index) 60 1 (RA (RB ho zdd)) (Bj _) zom (by simp[bA]) (by simp[yK]);refine wP (j:=r.index.toNat) (show r.index=_ by omega) hj (sts ?_);refine cvd cn ?_;refine cvd cv ?_;refine cvd cs ?_;exact zL rfl (key _ (by unfold inF;rw[zB zom,zE zom];rfl))
 .have hj:r.index.toNat<S.q.r.rows.length:=zom
  have hva:=hq.va.2.1.2.2.2.2.2 _ hj;have hpa:=vX1 hq.r hj;have szp:=jZ hpa zdd;have lp:S.q.r.rows[r.index.toNat]!.Q.ts.length<=1048576:=by rw[fR];exact hpa.2.2
  have ca:=QK _ zeroQ 60 1 szp (cQ 1 zdd) zom lp (by simp[zeroQ]);rw[Er,Y5 (p8 hva).1,<- Hh hva]at ca;refine wP (j:=r.index.toNat) (show r.index=_ by omega) hj (sts ?_);refine cvd ca ?_;refine zL rfl ?_;rw[show inF S r=S.q.r.rows[r.index.toNat]!.Q by unfold inF;rw[zB zom,zB zom],<- Hh hva];rfl
def uU2(S:ScpL)(r:RowL)(H:PrtH S)(h1:r.lo=0)(h2:r.hi=0)(h3:r.kind=4)(h4:0<=r.index)(h5:r.index<S.path.length)(h6:S.path[r.index.toNat]!.kind=1\/S.path[r.index.toNat]!.kind=2):Fn 160 [xY S,uH r] (.data (.tup [zP zeroQ,.bool false])):=by
 have cp:=R9 r;rw[sJ (show r.lo=0/\r.hi=0 from⟨h1,h2⟩)]at cp;have hu:=H.u;have hpl:=H.p;have hj:r.index.toNat<S.path.length:=zom
 have hd2:=H.d _ (Bx hj);have hd:=Bf (show 900000000<=950000000 by decide) hd2;have cf:=SA S.q S.path[r.index.toNat]! hu hd;have cv:=R7 S.path[r.index.toNat]!.index;have cn:=R8 _ 950000000 hd zom;rw[Er];refine yJ zU hT vWO (by simp[xY,uH]) (sts ?_)
 all_goals try omega
 refine zT cp rfl ?_
 (refine gob ?_ ?_<;>intro h;rotate_left;refine gob ?_ ?_<;>intro h;refine gob ?_ ?_<;>intro h;rotate_left;refine gob ?_ ?_<;>intro h;refine gob ?_ ?_<;>intro h;rotate_left;refine gob ?_ ?_<;>intro h;refine gob ?_ ?_<;>intro h;rotate_left;refine gob ?_ ?_<;>intro h;refine gob ?_ ?_<;>intro h;rotate_right;rotate_left 4;refine gob ?_ ?_<;>intro h;refine gob ?_ ?_<;>intro h;rotate_right 4;rotate_right;rotate_left 8;refine gob ?_ ?_<;>intro h;refine gob ?_ ?_<;>intro h;rotate_left;refine gob ?_ ?_<;>intro h;refine gob ?_ ?_<;>intro h;rotate_right;rotate_left 4;refine gob ?_ ?_<;>intro h;refine gob ?_ ?_<;>intro h;rotate_right 4;rotate_right 8;rotate_right;rotate_left 16;refine gob ?_ ?_<;>intro h;refine gob ?_ ?_<;>intro h;rotate_left;refine gob ?_ ?_<;>intro h;refine gob ?_ ?_<;>intro h;rotate_left;refine gob ?_ ?_<;>intro h;refine gob ?_ ?_<;>intro h;rotate_right;rotate_left 4;refine gob ?_ ?_<;>intro h;refine gob ?_ ?_<;>intro h;rotate_right 4;rotate_right;rotate_left 8;refine gob ?_ ?_<;>intro h;refine gob ?_ ?_<;>intro h;rotate_left;refine gob ?_ ?_<;>intro h;refine gob ?_ ?_<;>intro h;rotate_right;rotate_left 4;refine gob ?_ ?_<;>intro h;refine gob ?_ ?_<;>intro h;rotate_right 4;rotate_right 8;rotate_right 16;rotate_right)
 all_goals try omega
 refine wP (j:=r.index.toNat) (show r.index=_ by omega) hj (sts ?_);refine zT cf rfl ?_
 refine gob ?_ ?_<;>intro h
 rotate_left
 .exact yD
 refine wP (j:=r.index.toNat) (show r.index=_ by omega) hj (sts ?_);refine cvd cv ?_;refine cvd cn ?_;have cs:=FE (yK S.path[r.index.toNat]!.index) (bA (qv S.path[r.index.toNat]!.rat)) 1 900000000 (Bj _) (RA (RB hd2 zdd)) zom (by simp[yK]) (by simp[bA]);refine zT cs rfl ?_
 (refine gob ?_ ?_<;>intro h;rotate_left;refine gob ?_ ?_<;>intro h;rotate_right)
 all_goals try omega
 exact yD
def Fv{q:QryL}{k:Nat}(h:smQ q 199):okQr q:=⟨⟨⟨h.g.1.1,fun f hf=>qP zdd (h.g.1.2 f hf)⟩,⟨h.g.2.1,fun f hf=>qP zdd (h.g.2.2 f hf)⟩⟩,PW zdd h.r,qP zdd h.goal⟩
def uP9(S:ScpL)(r:RowL)(H:PrtH S)(hq:smQ S.q 199)(ha:LZ S r):Fn 86 [xY S,uH r] (.data (.tup [zP (fmS S r),.bool true])):=by
 have cv:=Fu S.q (Fv (k:=0) hq);rw[<- fP hq.va]at cv;have ci:=fun h=>uU1 S r H hq h
 have cu:=fun h=>uP3 S r H hq h
 have hk:r.kind=1\/r.kind=2\/r.kind=3\/r.kind=5\/r.kind=6\/r.kind=7\/r.kind=8\/r.kind=9\/r.kind=10:=by
  rcases ha with h|h
  .obtain⟨_,_,_,h|h|h⟩:=h<;>omega
  .obtain⟨_,_,h3,h4,_⟩:=h;omega
 have h1:r.kind<=3->Q9 S r:=fun h=>ha.resolve_right fun e=>by have:=e.2.2.1;omega
 have h2:3<r.kind->uAv S r:=fun h=>ha.resolve_left fun e=>by obtain⟨_,_,_,e|e|e⟩:=e<;>omega
 have e1:r.kind<=3->fmS S r=inF S r:=fun h=>zE h
 have e2:3<r.kind->fmS S r=uFm S r:=fun h=>zB zom
 obtain⟨k,i,l,h⟩:=r;dsimp only at *
 have hc:∃ g f,(k=1\/k=2\/k=3->g=160)/\(5<=k->g=162)/\Fn g [xY S,uH ⟨k,i,l,h⟩] (.data (.tup [zP f,.bool true]))/\fmS S ⟨k,i,l,h⟩=f:=by
  by_cases h0:k<=3
  .exact⟨_,_,fun _=>rfl,fun e=>by omega,ci (h1 h0),e1 h0⟩
  .exact⟨_,_,fun e=>by omega,fun _=>rfl,cu (h2 zom),e2 zom⟩
 clear ci cu h1 h2 e1 e2 ha;obtain⟨g,f,g1,g2,cg,ef⟩:=hc;rw[ef];rcases hk with rfl|rfl|rfl|rfl|rfl|rfl|rfl|rfl|rfl
 all_goals first|(have e:=g1 zdd;subst e;clear g1 g2)|(have e:=g2 zdd;subst e;clear g1 g2)
 all_goals
  refine yJ zU hT (mkO func86 ntmps86 results86) (by simp[xY,uH]) (sts ?_);refine cvd cv ?_;refine cvd cg ?_;exact yD
def uBE(S:ScpL)(j:Int)(hl:S.lems=[]):Fn 96 [xY S,.int .i64 j] (.data (.tup [.int .i64 0,.int .i64 0])):=by
 have e:S.lems.map O5=[]:=by rw[hl];rfl
 unfold xY;rw[e];refine fnV (mkO func96 ntmps96 results96) ?_;refine rU hT (fun _:Nat=>[(6,.int .i64 0),(7,.int .i64 0),(12,.int .i64 0),(13,.int .i64 0)]) (fun _=>True) (fun _=>0) 0 trivial ?_ ?_
 .exact⟨zD,zD,zD,zD,zA⟩
 intro n _;refine sts ?_;exact yD
def uKJ(S:ScpL)(j lo hi:Int)(H:PrtH S)(h1:lo=0)(h2:hi=0):Fn 97 [xY S,.int .i64 j,.int .i64 lo,.int .i64 hi] (.data (.tup [.bool (rG S 1 j),.bool (rG S 2 j)])):=by
 have c1:=Fs S 1 j H;have c2:=Fs S 2 j H;refine yJ zU hT (mkO func97 ntmps97 results97) (by simp[xY]) (sts ?_);refine zT c1 rfl ?_
 (refine gob ?_ ?_<;>intro h;rotate_left;refine gob ?_ ?_<;>intro h;rotate_right)
 all_goals try omega
 all_goals refine zT c2 rfl ?_
 all_goals (refine gob ?_ ?_<;>intro h;rotate_left;refine gob ?_ ?_<;>intro h;rotate_right)
 all_goals try omega
 all_goals refine zL rfl ?_
 all_goals simp only[*]
end Go.PI.Tryz
