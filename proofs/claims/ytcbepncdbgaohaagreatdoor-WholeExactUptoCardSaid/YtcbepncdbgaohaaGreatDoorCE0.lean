/-
  Forms of the reference: Add and Sub of sorted forms, whose coefficients grow but once.
-/
import Derived.Test.YtcbepncdbgaohaaGreatDoorCC1
set_option linter.all false
set_option maxHeartbeats 0
namespace Go.PI.Tryz
open Go.Proofs Go.PI Go.Proofs.Tryz
def zPJ:FO 155 f155 [.tmp 2,.tmp 3] 20:=mkO func155 ntmps155 results155
def vKE(xs:List Int)(hx:okN xs)(hl:xs.length<2147483648):Fn 155 [zQ xs] (.data (.tup [.int .i64 (smN xs).1,.bool (smN xs).2])):=by
 unfold smN;by_cases h0:xs=[]
 .subst h0
  refine yJ zU hT zPJ (by simp[zQ]) (sts ?_);exact yD
 .rw[zB h0]
  have h1:0<xs.length:=CV.2 h0;have hb:=hx xs[0]! (get_mem h1);refine yJ zU hT zPJ (by simp[zQ]) ?_
  (refine gob ?_ ?_<;>intro h;rotate_left;refine gob ?_ ?_<;>intro h;rotate_right)
  all_goals try omega
  .exact zL rfl (by simp[show xs.length=1 by omega])
  .exact zL rfl (by simp[show ¬ xs.length=1 by omega])
def uBU(a b:Nat)(ha:a<9223372036854775808)(hb:b<9223372036854775808):Fn 156 [.int .i64 a,.int .i64 b] (.data (.int .i64 (Nat.gcd a b:Nat))):=by
 refine fnV (mkO func156 ntmps156 results156) ?_;refine rU hT (fun((x,y):Nat×Nat)=>[(0,.int .i64 x),(1,.int .i64 y)]) (fun(x,y)=>Nat.gcd x y=Nat.gcd a b/\x<9223372036854775808/\y<9223372036854775808) (fun(_,y)=>y) (a,b) ⟨rfl,ha,hb⟩ ?_ ?_
 .exact⟨zD,zD,zA⟩
 intro⟨x,y⟩ ⟨i1,i2,i3⟩;by_cases hy:y=0
 .subst hy
  rw[JU]at i1;rw[<- i1];refine sts ?_
  all_goals try omega
  exact yD
 .have e:((x:Int).tmod (y:Int))=((x%y:Nat):Int):=by rw[D8 zom];omega
  have hlt:=nZ x (show 0<y by omega);have hg:Nat.gcd y (x%y)=Nat.gcd a b:=by rw[<- i1,Je x y,Nat.gcd_rec y x,Je]
  refine gob ?_ ?_<;>intro h
  all_goals try omega
  exact⟨(y,x%y),⟨⟨hg,zom,zom⟩,hlt⟩,zD,zG rfl e,zA⟩
abbrev nV(c:List Int):Blk:=⟨c.map (.int .i64),1,false⟩
def vJ(l:List Int):∀ e∈l.map (PV.int .i64),nr 3 e=true/\e≠.any:=yZ fun _=>⟨rfl,zsm⟩
def I7(l:List Int):∀ e∈l.map (PV.int .i64),nr 3 e=true:=fun e he=>(vJ l e he).1
def vVJ{c:List Int}{i:Nat}(h:i<c.length)(hd:¬ 1<gcD c):rC c i=rC c (i+1):=by
 rw[<- PR h,show pE (gcD c) c[i]! = c[i]! by unfold pE;rw[zB hd]];have h1:i<(rC c i).length:=by rw[DC c zom];exact h
 have h2:=WG h;rw[zS _ i h1]at h2;rw[<- h2];exact(List.set_getElem_self h1).symm
def zP6(c:List Int)(hc:∀ x∈c,x.natAbs<=4611686018427387904)(hl:c.length<=1000000):Fn 157 [.own 0 0 c.length] (.wrt (nV c) (.bool (qO c)) (nV (rY c))):=by
 have hd:=PP hc c.length (zX _);have hdd:gcD c=gcI c c.length:=rfl;refine iQ zU hT (mkO func157 ntmps157 results157) zsm (sts ?_)
 refine xG hT (fun(i:Nat)=>[(0,.own 0 0 c.length),(3,.int .i64 (gcI c i)),(4,.int .i64 i)]) (fun i=>[(0,nV c)]) [] 1
  (fun i=>i<=c.length) (fun i=>c.length-i) 0 (z8 _) zdd zsm ?_ ?_
 .exact⟨[],[],[],[],ttt,⟨zI zdd rfl rfl,zD,zD,zA⟩,⟨zH zdd rfl rfl (vJ c) rfl,zA⟩,zO⟩
 intro i i1;by_cases hi:i<c.length
 .have hx:=hc c[i]! (get_mem hi)
  have hg:=PP hc i zom;have cg:=uBU c[i]!.natAbs (gcI c i) zom zom;rw[<- PO hi]at cg;have hm:(if 0-c[i]! > c[i]! then 0-c[i]! else c[i]!)=(c[i]!.natAbs:Int):=by split<;>omega
  refine gob ?_ ?_<;>intro h
  all_goals try omega
  refine yB i (z7 _) hi (sts ?_);refine yB i (z7 _) hi (sts ?_);rw[hm];refine cvd cg ?_;exact⟨i+1,⟨zom,zbo⟩,[],[],[],[],ttt,⟨zI zdd rfl rfl,zD,zD,zA⟩,⟨zH zdd rfl rfl (vJ c) rfl,zA⟩,zO⟩
 have ei:i=c.length:=zom
 rw[ei,<- hdd]
 refine gob ?_ ?_<;>intro h
 all_goals try omega
 refine xG hT (fun(i:Nat)=>[(0,.own 0 0 c.length),(3,.int .i64 (gcD c)),(5,.int .i64 i)]) (fun i=>[(0,nV (rC c i))]) [] 1
  (fun i=>i<=c.length/\i<=pY (gcD c) c) (fun i=>c.length-i) 0 ⟨z8 _,z8 _⟩ zdd zsm ?_ ?_
 .exact⟨[],[],[],[],ttt,⟨zI zdd rfl rfl,zD,zD,zA⟩,⟨zH zdd rfl (by rw[vVI]) (vJ _) rfl,zA⟩,zO⟩
 intro i ⟨i1,i2⟩;have hil:=DC c i1;by_cases hi:i<c.length
 .have hx:=hc c[i]! (get_mem hi)
  have hgt:=WG hi;have hgn:=uL7 hi;have hln:=DC c (i:=i+1) zom;have hdv:=uPQ (d:=gcD c) (x:=c[i]!) (B:=4611686018427387904) zom
  have hok:i<pY (gcD c) c↔okG (pE (gcD c) c[i]!):=by
   constructor
   .exact PQ _ c i
   .intro h
    refine Nat.lt_of_le_of_ne i2 fun e=>?_
    have:=WF (gcD c) c zom;rw[<- e]at this;exact this h
  have hred:¬ i<pY (gcD c) c->rY c=rC c (i+1)/\qO c=false:=fun h=>by
   have e:pY (gcD c) c=i:=zom
   exact⟨by unfold rY;rw[e,GV zom],qL zom⟩
  unfold okG at hok;by_cases hg:1<gcD c
  .have hdr:pE (gcD c) c[i]! = c[i]!.tdiv (gcD c):=by unfold pE;rw[zE hg]
   have hst:=PR hi;rw[hdr]at hst hgn hdv hok;refine sus ?_
   all_goals try omega
   refine wR ?_;(repeat' (first|refine stu ?_|with_reducible(refine brr ?_ ?_<;>intro h)));all_goals try(conv=>whnf)
   (refine wR ?_;refine sus ?_)
   refine wR ?_;(repeat' (first|refine stu ?_|with_reducible(refine brr ?_ ?_<;>intro h)));all_goals try(conv=>whnf)
   all_goals try omega
   refine yB i (z7 _) zom ?_;rw[hgt];refine sus ?_;refine yB i (z7 _) zom (sus ?_)
   refine fU [] [(0,.own 0 0 c.length),(3,.int .i64 (gcD c)),(5,.int .i64 i)] [(0,nV (rC c (i+1)))] [] 1 zdd zsm trivial
    ⟨[],[],[],[],ttt,⟨zI zdd rfl rfl,zD,zD,zA⟩,⟨zH zdd rfl (by rw[<- hst];exact x5 (z7 _) rfl) (vJ _) rfl,zA⟩,zO⟩ ?_
   refine sus ?_
   all_goals try omega
   refine yB i (z7 _) zom ?_;rw[hgn]
   (repeat' (first|refine stu ?_|with_reducible(refine brr ?_ ?_<;>intro h)));all_goals try(conv=>whnf)
   ·(refine wR ?_;refine sus ?_)
    obtain⟨e1,e2⟩:=hred zom;rw[e1,e2];refine sts ?_;exact qZ rfl rfl rfl rfl rfl (I7 _)
   refine yB i (z7 _) zom ?_;rw[hgn];refine sus ?_;refine wR ?_;(repeat' (first|refine stu ?_|with_reducible(refine brr ?_ ?_<;>intro h)));all_goals try(conv=>whnf)
   .obtain⟨e1,e2⟩:=hred zom
    rw[e1,e2];refine sts ?_;exact qZ rfl rfl rfl rfl rfl (I7 _)
   (refine wR ?_;refine sus ?_)
   exact⟨i+1,⟨⟨zom,zom⟩,zbo⟩,[],[],[],[],ttt,⟨zI zdd rfl rfl,zD,zD,zA⟩,⟨zH zdd rfl rfl (vJ _) rfl,zA⟩,zO⟩
  .have hdr:pE (gcD c) c[i]! = c[i]! := by unfold pE;rw[zB hg]
   have hst:=vVJ hi hg;rw[hdr]at hgn hdv hok;refine sus ?_
   all_goals try omega
   refine wR ?_;(repeat' (first|refine stu ?_|with_reducible(refine brr ?_ ?_<;>intro h)));all_goals try(conv=>whnf)
   (refine wR ?_;refine sus ?_)
   refine wR ?_;(repeat' (first|refine stu ?_|with_reducible(refine brr ?_ ?_<;>intro h)));all_goals try(conv=>whnf)
   all_goals try omega
   refine fU [] [(0,.own 0 0 c.length),(3,.int .i64 (gcD c)),(5,.int .i64 i)] [(0,nV (rC c (i+1)))] [] 1 zdd zsm trivial
    ⟨[],[],[],[],ttt,⟨zI zdd rfl rfl,zD,zD,zA⟩,⟨zH zdd rfl (zV (List.map (PV.int .i64)) hst) (vJ _) rfl,zA⟩,zO⟩ ?_
   refine sus ?_
   all_goals try omega
   refine yB i (z7 _) zom ?_;rw[hgn]
   (repeat' (first|refine stu ?_|with_reducible(refine brr ?_ ?_<;>intro h)));all_goals try(conv=>whnf)
   ·(refine wR ?_;refine sus ?_)
    obtain⟨e1,e2⟩:=hred zom;rw[e1,e2];refine sts ?_;exact qZ rfl rfl rfl rfl rfl (I7 _)
   refine yB i (z7 _) zom ?_;rw[hgn];refine sus ?_;refine wR ?_;(repeat' (first|refine stu ?_|with_reducible(refine brr ?_ ?_<;>intro h)));all_goals try(conv=>whnf)
   .obtain⟨e1,e2⟩:=hred zom
    rw[e1,e2];refine sts ?_;exact qZ rfl rfl rfl rfl rfl (I7 _)
   (refine wR ?_;refine sus ?_)
   exact⟨i+1,⟨⟨zom,zom⟩,zbo⟩,[],[],[],[],ttt,⟨zI zdd rfl rfl,zD,zD,zA⟩,⟨zH zdd rfl rfl (vJ _) rfl,zA⟩,zO⟩
 have ei2:i=c.length:=zom
 have hk:pY (gcD c) c=c.length:=by have:=WE (gcD c) c;omega
 have e1:rY c=rC c i:=by unfold rY;rw[hk,ei2,Nat.min_eq_right zom]
 have e2:qO c=true:=sJ hk;rw[e1,e2]
 (refine gob ?_ ?_<;>intro h;refine gob ?_ ?_<;>intro h)
 all_goals try omega
 exact qZ rfl rfl rfl rfl rfl (I7 _)
def uH1(x:Nat)(hx:x<18446744073709551616):Fn 158 [.int .u64 x] (.data (.int .i64 (DD x:Nat))):=by
 have h64:x<2^64:=hx;refine fnV (mkO func158 ntmps158 results158) ?_;refine rU hT (fun((k,y,s):Nat×Nat×Nat)=>[(0,.int .u64 y),(3,.int .i64 s)]) (fun(k,y,s)=>s+k<=64/\y<2^k/\s+lW k y=DD x) (fun(k,_,_)=>k) (64,x,0) ⟨zX _,h64,z7 _⟩ ?_ ?_
 .exact⟨zD,zD,zA⟩
 intro⟨k,y,s⟩ ⟨i0,i1,i2⟩;by_cases hy:y=0
 .subst hy
  have e:lW k 0=0:=by cases k<;>simp[lW]
  rw[<- i2,e];refine sts ?_
  all_goals try omega
  exact yD
 .have hk:k≠0:=by rintro rfl;simp at i1;omega
  obtain⟨k,rfl⟩:=Nat.exists_eq_succ_of_ne_zero hk;have e2:lW (k+1) y=y%2+lW k (y/2):=by simp[lW,hy]
  have hb:=PT k (y/2);have i1':y/2<2^k:=by rw[Nat.pow_succ]at i1;omega
  have hyl:y<18446744073709551616:=w9 i1 (show 2^(k+1)<=2^64 from bU zdd zom);rw[e2]at i2;have e3:((y:Int).tmod 2)=((y%2:Nat):Int):=by rw[D8 zom];omega
  have e4:((y:Int).tdiv 2)=((y/2:Nat):Int):=by rw[D9 zom];omega
  refine gob ?_ ?_<;>intro h
  all_goals try omega
  exact⟨(k,y/2,s+y%2),⟨⟨zom,i1',zom⟩,nC _⟩,zG rfl e4,zG rfl (by rw[e3];omega),zA⟩
def uBK(f:QF)(v:Int)(k:Nat)(hf:szF k f)(hk:k<=2147483596)(hs:f.ts.Pairwise (fun p q=>p.1<q.1))(hl:f.ts.length<=1048576):Fn 154 [zP f,.int .i64 v] (.data (zR (cr (cf f.ts v)))):=by
 refine yJ zU hT (mkO func154 ntmps154 results154) (by simp[zP]) (sts ?_)
 refine xG hT (fun(i:Nat)=>[(1,.int .i64 v),(2,.ptr 1 0 0),(4,.ptr 0 0 0),(5,.int .i64 i)])
  (fun _=>[(0,⟨[.agg [.bool false,.nilsl,.nilsl]],3,true⟩),(1,⟨[zP f],4,true⟩)]) [] 2
  (fun i=>i<=f.ts.length/\∀ j,j<i->f.ts[j]!.1≠v) (fun i=>f.ts.length-i) 0 ⟨z8 _,fun j h=>by omega⟩ zdd zsm ?_ ?_
 .exact⟨[_,_],[],[],[],ttt,⟨zG rfl rfl,(apy rfl),(apy rfl),zG rfl rfl,zA⟩,⟨bbx,bbx,zA⟩,zO⟩
 intro i ⟨i1,i2⟩;by_cases hi:i<f.ts.length
 .have hm:=get_mem hi
  by_cases e:f.ts[i]!.1=v
  .rw[Pp hs hm e]
   (refine gob ?_ ?_<;>intro h;refine gob ?_ ?_<;>intro h)
   all_goals try omega
   all_goals try exact absurd e xU
   exact yD
  ·(refine gob ?_ ?_<;>intro h;refine gob ?_ ?_<;>intro h)
   all_goals try omega
   all_goals try exact absurd xU e
   exact⟨i+1,⟨⟨zom,fun j hj=>IA (p:=fun j=>f.ts[j]!.1≠v) i2 e hj⟩,zbo⟩,[0,1],[],[],[],ttt,⟨zD,apx,apx,zD,zA⟩,⟨bbx,bbx,zA⟩,zO⟩
 .have e:cf f.ts v=0:=Kt fun p hp=>by
   obtain⟨j,hj,rfl⟩:=uE hp;have:=i2 j zom
   rwa [zS f.ts j hj]at this
  rw[e,nL]
  (refine gob ?_ ?_<;>intro h;refine gob ?_ ?_<;>intro h)
  all_goals try omega
  exact yD
set_option maxHeartbeats 2000000
def uBV (f:QF) (vars k:Nat) (hf:szF k f) (hk:k<=900000000) (hs:f.ts.Pairwise (fun p q=>p.1<q.1)) (hl:f.ts.length<=1048576) (hv:vars<=1000) (hk1:1<=k):Fn 80 [zP f,.int .i64 vars] (.data (.tup [encI (rD (frX f vars)).1,.bool (rD (frX f vars)).2])):=by
 have hxl:=iA f vars;have hxg:∀ i,i<vars+1->(frX f vars)[i]! = if i<vars then cf f.ts i else f.c:=fun i hi=>l8 hi
 have hxs:∀ i,i<vars+1->sz k (frX f vars)[i]! := fun i hi=>by
  rw[hxg i hi];split
  .exact Go.PI.cf_sz hk1 hs hf.2
  .exact hf.1
 have no1:¬ H9 (frX f vars)->rD (frX f vars)=([],false):=fun h=>by unfold rD;rw[zB (fun e=>h e.1)]
 have no2:¬ E0 (frX f vars) (frX f vars).length->rD (frX f vars)=([],false):=fun h=>by unfold rD;rw[zB (fun e=>h e.2)]
 have yes:H9 (frX f vars)/\E0 (frX f vars) (frX f vars).length->rD (frX f vars)=(rY (meL (frX f vars)),qO (meL (frX f vars))):=fun h=>by unfold rD;rw[zE h]
 generalize frX f vars=xs at *
 generalize rD xs=DV at *
 have hn0:List.replicate xs.length (0:Int)=nuI xs 0:=(Pu _ _ _).symm;have hd0:List.replicate xs.length (0:Int)=deI xs 0:=(Pu _ _ _).symm;refine yJ zU hT (mkO func80 ntmps80 results80) (by simp[zP]) (sts ?_)
 all_goals try omega
 refine xG hT (fun(i:Nat)=>[(1,.int .i64 vars),(2,.ptr 0 0 0),(6,.own 1 0 xs.length),(7,.own 2 0 xs.length),(8,.int .i64 i)]) (fun i=>[(0,⟨[zP f],4,true⟩),(1,nV (nuI xs i)),(2,nV (deI xs i))]) [] 3
  (fun i=>i<=xs.length/\∀ j,j<i->okX xs[j]!) (fun i=>xs.length-i) 0 ⟨z8 _,fun j h=>by omega⟩ zdd zsm ?_ ?_
 .exact⟨[0,5,9],[],[],[],ttt,⟨zD,apx,zI zdd rfl zom,zI zdd rfl zom,zD,zA⟩,⟨bbx,zH zdd rfl (by rw[<- hn0,hxl];simp[List.replicate_succ]) (vJ _) rfl,zH zdd rfl (by rw[<- hd0,hxl];simp[List.replicate_succ]) (vJ _) rfl,zA⟩,zO⟩
 intro i ⟨i1,i2⟩;have hnl:=Wn xs i;have hdl:=Ku xs i;by_cases hi:i<xs.length
 .have hX:=hxg i zom
  have hXs:=hxs i zom;have hnu:=uN2 hi;have hde:=uPT hi;have hno:¬ okX xs[i]! -> DV=([],false):=fun h=>no1 fun e=>h (e i hi)
  have hst:okX xs[i]! -> ∀ j,j<i+1->okX xs[j]! := fun h j hj=>IA (p:=fun j=>okX xs[j]!) i2 h hj
  generalize xs[i]! = X at *
  have lX:=yO hXs;have okr:=yH X;have s1:=vKE (cr X).num okr.1 zom;have s2:=vKE (cr X).den okr.2 zom;obtain⟨a1,a2⟩:=uR6 X;obtain⟨b1,b2⟩:=uR7 X;have hxn:=uUV X;rcases hm1:smN (cr X).num with⟨N,NB⟩
  rcases hm2:smN (cr X).den with⟨D,DB⟩
  rw[hm1]at a1 a2 s1;rw[hm2]at b1 b2 s2;dsimp only at a1 a2 b1 b2 s1 s2;by_cases hv2:i<vars
  .have d1:=uBK f i k hf zom hs hl
   rw[zE hv2]at hX;rw[<- hX]at d1;refine sus ?_;refine wR ?_;(repeat' (first|refine stu ?_|with_reducible(refine brr ?_ ?_<;>intro h)));all_goals try(conv=>whnf)
   all_goals try omega
   (refine wR ?_;refine sus ?_)
   (refine wR ?_;refine sus ?_)
   all_goals try omega
   refine wR ?_;(repeat' (first|refine stu ?_|with_reducible(refine brr ?_ ?_<;>intro h)));all_goals try(conv=>whnf)
   all_goals try omega
   refine zT d1 rfl (sus ?_)
   refine fU [] [(1,.int .i64 vars),(2,.ptr 0 0 0),(6,.own 1 0 xs.length),(7,.own 2 0 xs.length),(8,.int .i64 i),(9,.ptr 3 0 0)] [(0,⟨[zP f],4,true⟩),(1,nV (nuI xs i)),(2,nV (deI xs i)),(3,⟨[zR (cr X)],3,true⟩)] [] 4 zdd zsm trivial
    ⟨[0,1,2,8],[],[],[],ttt,⟨zD,apx,zI zdd rfl rfl,zI zdd rfl rfl,zD,apx,zA⟩,⟨bbx,zH zdd rfl rfl (vJ _) rfl,zH zdd rfl rfl (vJ _) rfl,bbx,zA⟩,zO⟩ ?_
   cases NB with
   | false =>
     have hne:¬ okX X:=fun e=>absurd (a1.2 e.1) zdd
     rw[hno hne];refine sts ?_;refine cvd s1 ?_;refine cvd s2 ?_;exact yD
   | true =>
     cases DB with
     | false =>
       have hne:¬ okX X:=fun e=>absurd (b1.2 e.2) zdd
       rw[hno hne];refine sts ?_;refine cvd s1 ?_;refine cvd s2 ?_;exact yD
     | true =>
       have ho:okX X:=⟨a1.1 rfl,b1.1 rfl⟩;have e1:=a2 ho.1;have e2:=b2 ho.2;have hb1:=ho.1;refine sts ?_;refine cvd s1 ?_;refine zT s2 rfl ?_
       refine gob ?_ ?_<;>intro h
       .have hxn2:X.num=0-N:=by
         have h9:=(by assumption:(cr X).neg=true);rw[hxn]at h9;have:=mS h9;omega
        refine yB i (z7 _) zom (sts ?_);refine yB i (z7 _) zom (sts ?_);exact⟨i+1,⟨⟨zom,hst ho⟩,zbo⟩,[0,1,2],[],[],[],ttt,⟨zD,apx,zI zdd rfl rfl,zI zdd rfl rfl,zD,zA⟩,⟨bbx,zH zdd rfl (by rw[<- hnu,hxn2];exact x5 (z7 _) rfl) (vJ _) rfl,zH zdd rfl (by rw[<- hde,<- e2];exact x5 (z7 _) rfl) (vJ _) rfl,zA⟩,zO⟩
       .have hxn2:X.num=N:=by
         have h9:=(by assumption:(cr X).neg=false);rw[hxn]at h9;have:=GJ h9;omega
        refine yB i (z7 _) zom (sts ?_);refine yB i (z7 _) zom (sts ?_);exact⟨i+1,⟨⟨zom,hst ho⟩,zbo⟩,[0,1,2],[],[],[],ttt,⟨zD,apx,zI zdd rfl rfl,zI zdd rfl rfl,zD,zA⟩,⟨bbx,zH zdd rfl (by rw[<- hnu,hxn2];exact x5 (z7 _) rfl) (vJ _) rfl,zH zdd rfl (by rw[<- hde,<- e2];exact x5 (z7 _) rfl) (vJ _) rfl,zA⟩,zO⟩
  .rw [zB hv2]at hX
   refine sus ?_;refine wR ?_;(repeat' (first|refine stu ?_|with_reducible(refine brr ?_ ?_<;>intro h)));all_goals try(conv=>whnf)
   all_goals try omega
   (refine wR ?_;refine sus ?_)
   (refine wR ?_;refine sus ?_)
   all_goals try omega
   refine wR ?_;(repeat' (first|refine stu ?_|with_reducible(refine brr ?_ ?_<;>intro h)));all_goals try(conv=>whnf)
   all_goals try omega
   refine fU [] [(1,.int .i64 vars),(2,.ptr 0 0 0),(6,.own 1 0 xs.length),(7,.own 2 0 xs.length),(8,.int .i64 i),(9,.ptr 3 0 0)] [(0,⟨[zP f],4,true⟩),(1,nV (nuI xs i)),(2,nV (deI xs i)),(3,⟨[zR (cr X)],3,true⟩)] [] 4 zdd zsm trivial
    ⟨[0,1,2,8],[],[],[],ttt,⟨zD,apx,zI zdd rfl rfl,zI zdd rfl rfl,zD,apx,zA⟩,⟨bbx,zH zdd rfl rfl (vJ _) rfl,zH zdd rfl rfl (vJ _) rfl,vN zdd rfl (by rw[hX];rfl) rfl rfl rfl,zA⟩,zO⟩ ?_
   cases NB with
   | false =>
     have hne:¬ okX X:=fun e=>absurd (a1.2 e.1) zdd
     rw[hno hne];refine sts ?_;refine cvd s1 ?_;refine cvd s2 ?_;exact yD
   | true =>
     cases DB with
     | false =>
       have hne:¬ okX X:=fun e=>absurd (b1.2 e.2) zdd
       rw[hno hne];refine sts ?_;refine cvd s1 ?_;refine cvd s2 ?_;exact yD
     | true =>
       have ho:okX X:=⟨a1.1 rfl,b1.1 rfl⟩;have e1:=a2 ho.1;have e2:=b2 ho.2;have hb1:=ho.1;refine sts ?_;refine cvd s1 ?_;refine zT s2 rfl ?_
       refine gob ?_ ?_<;>intro h
       .have hxn2:X.num=0-N:=by
         have h9:=(by assumption:(cr X).neg=true);rw[hxn]at h9;have:=mS h9;omega
        refine yB i (z7 _) zom (sts ?_);refine yB i (z7 _) zom (sts ?_);exact⟨i+1,⟨⟨zom,hst ho⟩,zbo⟩,[0,1,2],[],[],[],ttt,⟨zD,apx,zI zdd rfl rfl,zI zdd rfl rfl,zD,zA⟩,⟨bbx,zH zdd rfl (by rw[<- hnu,hxn2];exact x5 (z7 _) rfl) (vJ _) rfl,zH zdd rfl (by rw[<- hde,<- e2];exact x5 (z7 _) rfl) (vJ _) rfl,zA⟩,zO⟩
       .have hxn2:X.num=N:=by
         have h9:=(by assumption:(cr X).neg=false);rw[hxn]at h9;have:=GJ h9;omega
        refine yB i (z7 _) zom (sts ?_);refine yB i (z7 _) zom (sts ?_);exact⟨i+1,⟨⟨zom,hst ho⟩,zbo⟩,[0,1,2],[],[],[],ttt,⟨zD,apx,zI zdd rfl rfl,zI zdd rfl rfl,zD,zA⟩,⟨bbx,zH zdd rfl (by rw[<- hnu,hxn2];exact x5 (z7 _) rfl) (vJ _) rfl,zH zdd rfl (by rw[<- hde,<- e2];exact x5 (z7 _) rfl) (vJ _) rfl,zA⟩,zO⟩
 have ei:i=xs.length:=zom
 have hall:H9 xs:=fun j hj=>i2 j zom
 rw[ei]
 (refine gob ?_ ?_<;>intro h;refine gob ?_ ?_<;>intro h)
 all_goals try omega
 refine xG hT (fun(i:Nat)=>[(1,.int .i64 vars),(6,.own 1 0 xs.length),(7,.own 2 0 xs.length),(14,.int .i64 (laI xs i)),(15,.int .i64 i)]) (fun i=>[(1,nV (nuI xs xs.length)),(2,nV (deI xs xs.length))]) [] 3
  (fun i=>i<=xs.length/\E0 xs i) (fun i=>xs.length-i) 0 ⟨z8 _,fun j h=>by omega⟩ zdd zsm ?_ ?_
 .exact⟨[0,1,2],[],[],[],ttt,⟨zD,zI zdd rfl rfl,zI zdd rfl rfl,zD,zD,zA⟩,⟨zH zdd rfl rfl (vJ _) rfl,zH zdd rfl rfl (vJ _) rfl,zA⟩,zO⟩
 intro i ⟨i1,i2⟩;have hnl:=Wn xs xs.length;have hdl:=Ku xs xs.length;by_cases hi:i<xs.length
 .have hdg:=Wo hi
  have hd:=(hall i hi).2;have hdp:=xs[i]!.den_pos;have hla:=Wt i2;have hlp:=Pv xs i;have hll:=uTL xs i;have hmul:laI xs i*xs[i]!.den<=1073741824*1073741824:=gW hla hd;have cg:=uBU (laI xs i) xs[i]!.den zom zom;have hgp:0<Nat.gcd (laI xs i) xs[i]!.den:=Ty _ hlp
  have eq1:((laI xs i:Int).tdiv (Nat.gcd (laI xs i) xs[i]!.den:Nat))=((laI xs i/Nat.gcd (laI xs i) xs[i]!.den:Nat):Int):=by
   rw[D9 zom];exact_mod_cast rfl
  have eq2:((laI xs i/Nat.gcd (laI xs i) xs[i]!.den:Nat):Int)*(xs[i]!.den:Int)=(laI xs (i+1):Int):=by
   show _=((laI xs i/Nat.gcd (laI xs i) xs[i]!.den*xs[i]!.den:Nat):Int)
   rw[Int.natCast_mul]
  have hno:¬ laI xs (i+1)<=1073741824->DV=([],false):=fun h=>no2 fun e=>h (e i hi)
  have hst:laI xs (i+1)<=1073741824->E0 xs (i+1):=fun h j hj=>IA (p:=fun j=>laI xs (j+1)<=1073741824) i2 h hj
  generalize Nat.gcd (laI xs i) xs[i]!.den=gg at *
  have hqb:=Tu (laI xs i:Int) (gg:Int)
  refine gob ?_ ?_<;>intro h
  all_goals try omega
  refine yB i (z7 _) zom ?_;rw[hdg];refine sts ?_;refine cvd cg ?_
  all_goals try omega
  refine yB i (z7 _) zom ?_;rw[hdg,eq1]
  refine gob ?_ ?_<;>intro h
  .rw[hno zom]
   exact yD
  .exact⟨i+1,⟨⟨zom,hst zom⟩,zbo⟩,[0,1,2],[],[],[],ttt,⟨zD,zI zdd rfl rfl,zI zdd rfl rfl,zG rfl eq2,zD,zA⟩,⟨zH zdd rfl rfl (vJ _) rfl,zH zdd rfl rfl (vJ _) rfl,zA⟩,zO⟩
 have ei:i=xs.length:=zom
 rw[ei]at i2 ⊢;have hla:=Wt i2;have hsz:=uW5 hall hla
 refine gob ?_ ?_<;>intro h
 all_goals try omega
 refine xG hT (fun(i:Nat)=>[(1,.int .i64 vars),(6,.own 1 0 xs.length),(7,.own 2 0 xs.length),(14,.int .i64 (laI xs xs.length)),(16,.int .i64 i)]) (fun i=>[(1,nV (meI xs i)),(2,nV (deI xs xs.length))]) [] 3
  (fun i=>i<=xs.length) (fun i=>xs.length-i) 0 (z8 _) zdd zsm ?_ ?_
 .exact⟨[0,1,2],[],[],[],ttt,⟨zD,zI zdd rfl rfl,zI zdd rfl rfl,zD,zD,zA⟩,⟨zH zdd rfl (by rw[uFF]) (vJ _) rfl,zH zdd rfl rfl (vJ _) rfl,zA⟩,zO⟩
 intro i i1;have hml:=E5 xs i;have hdl:=Ku xs xs.length;by_cases hi:i<xs.length
 .have hdg:=Wo hi
  have hmg:=uOA hi;have hms:=uN9 hi;have hdp:=xs[i]!.den_pos;have hnb:=(hall i hi).1
  have eq1:((laI xs xs.length:Int).tdiv (xs[i]!.den:Int))=((laI xs xs.length/xs[i]!.den:Nat):Int):=by
   rw[D9 zom];exact_mod_cast rfl
  have hqb:laI xs xs.length/xs[i]!.den<=1073741824:=wS (gS _ _) hla
  have hpb:(xs[i]!.num*((laI xs xs.length/xs[i]!.den:Nat):Int)).natAbs<=1073741824*1073741824:=by
   rw[dG,Int.natAbs_natCast];exact gW hnb hqb
  generalize laI xs xs.length/xs[i]!.den=qq at *
  refine gob ?_ ?_<;>intro h
  all_goals try omega
  refine yB i (z7 _) zom ?_;rw[hmg];refine sts ?_;refine yB i (z7 _) zom ?_;rw[hdg];refine sts ?_
  all_goals try omega
  rw[eq1];refine sts ?_;refine yB i (z7 _) zom (sts ?_);exact⟨i+1,⟨zom,zbo⟩,[0,1,2],[],[],[],ttt,⟨zD,zI zdd rfl rfl,zI zdd rfl rfl,zD,zD,zA⟩,⟨zH zdd rfl (by rw[<- hms];exact x5 (z7 _) rfl) (vJ _) rfl,zH zdd rfl rfl (vJ _) rfl,zA⟩,zO⟩
 have ei:i=xs.length:=zom
 rw[ei,show meI xs xs.length=meL xs from rfl];have hml2:(meL xs).length=xs.length:=E5 xs _;have cr':=zP6 (meL xs) (fun x hx=>wS (hsz _ (zX _) x hx) zdd) zom;rw[hml2]at cr';have hrl:(rY (meL xs)).length=xs.length:=by rw[Ke];exact hml2
 rw[yes ⟨hall,i2⟩]
 refine gob ?_ ?_<;>intro h
 all_goals try omega
 refine tG (r:=1) cr' rfl rfl rfl rfl (rT (vJ _)) (sts ?_);exact zL (Cz (yL (xP rfl rfl hrl.symm fun _=>rfl) rfl)) rfl
set_option maxHeartbeats 2000000
def uBN(l:List FR)(v m:Nat)(hl:l.length<=1000000)(hr:∀ r∈l,okRw m r)(hv:v<m):Fn 81 [.imm (l.map qN),.int .i64 v] (.data (.int .i64 (nO l v:Nat))):=by
 refine fnV (mkO func81 ntmps81 results81) ?_;refine rU hT (fun(i:Nat)=>[(0,.imm (l.map qN)),(1,.int .i64 v),(5,.int .i64 (upI l v i)),(6,.int .i64 (dnI l v i)),(7,.int .i64 i)]) (fun i=>i<=l.length) (fun i=>l.length-i) 0 (z8 _) ?_ ?_
 .exact⟨zM,zD,zD,zD,zD,zA⟩
 intro i i1;have hu:=uRW l v i;have hd:=P8 l v i;by_cases hi:i<l.length
 .have ho:=hr l[i]! (get_mem hi)
  have hcl:=ho.len;have hus:=P6 (v:=v) hi;have hds:=P7 (v:=v) hi;by_cases h1:0<l[i]!.c[v]!
  .rw[zE h1]at hus
   rw[zB zom]at hds
   (refine gob ?_ ?_<;>intro h;refine gob ?_ ?_<;>intro h;refine gob ?_ ?_<;>intro h;rotate_left 2;refine gob ?_ ?_<;>intro h;rotate_right 2)
   all_goals try omega
   exact⟨i+1,⟨zom,zbo⟩,zM,zD,zG rfl (by rw[hus];rfl),zG rfl (by rw[hds]),zD,zA⟩
  .rw[zB h1]at hus
   by_cases h2:l[i]!.c[v]! < 0
   .rw[zE h2]at hds
    (refine gob ?_ ?_<;>intro h;refine gob ?_ ?_<;>intro h;refine gob ?_ ?_<;>intro h;rotate_left 2;refine gob ?_ ?_<;>intro h;rotate_right 2)
    all_goals try omega
    exact⟨i+1,⟨zom,zbo⟩,zM,zD,zG rfl (by rw[hus]),zG rfl (by rw[hds];rfl),zD,zA⟩
   .rw[zB h2]at hds
    (refine gob ?_ ?_<;>intro h;refine gob ?_ ?_<;>intro h;refine gob ?_ ?_<;>intro h;rotate_left 2;refine gob ?_ ?_<;>intro h;rotate_right 2)
    all_goals try omega
    exact⟨i+1,⟨zom,zbo⟩,zM,zD,zG rfl (by rw[hus]),zG rfl (by rw[hds]),zD,zA⟩
 .have ei:i=l.length:=zom
  subst ei;have hm:upI l v l.length*dnI l v l.length<=1000000*1000000:=gW zom zom;unfold nO
  (refine gob ?_ ?_<;>intro h;refine gob ?_ ?_<;>intro h;refine gob ?_ ?_<;>intro h;rotate_left 2;refine gob ?_ ?_<;>intro h;rotate_right 2)
  all_goals try omega
  exact zL rfl (by rw[Int.natCast_mul])
abbrev I8(l:List FR):Blk:=⟨l.map qN,2,true⟩
def jM(l:List FR):∀ e∈l.map qN,nr 3 e=true/\e≠.any:=yZ fun _=>⟨rfl,by simp[qN]⟩
def Sn{h:Hp}{n:Nat}(r:FR):frz h (n+2) (qN r)=some (qN r,[]):=rfl
def uH0 (l:List FR) (v k m:Nat) (hl:l.length<=1000000) (hr:∀ r∈l,okRw m r) (hv:v<m) (hk:k<=1000) (hm:m<=1000) (hp:nO l v<=20000):Fn 82 [.imm (l.map qN),.int .i64 v,.int .i64 k] (.data (match jB l v k with|some out=>.tup [.imm (out.map qN),.bool true]|none=>.tup [.imm [],.bool false])):=by
 refine fnV (mkO func82 ntmps82 results82) ?_
 refine iB hT [(.sl 8,2,true)] (fun(i:Nat)=>[(0,.imm (l.map qN)),(1,.int .i64 v),(2,.int .i64 k),(8,.own 0 0 (jA l v i).length),(9,.int .i64 i)]) (fun i=>[(0,I8 (jA l v i))]) [] 1
  (fun i=>i<=l.length) (fun i=>l.length-i) 0 (z8 _) zdd zsm ⟨rfl,zA⟩ ?_ ?_
 .exact⟨[_],[],[],[],ttt,⟨xI rfl rfl,zG rfl rfl,zG rfl rfl,zI zdd rfl rfl,zG rfl rfl,zA⟩,⟨zH zdd rfl rfl (jM []) rfl,zA⟩,zO⟩
 intro i i1;have hz:=W9 l v i;by_cases hi:i<l.length
 .have ho:=hr l[i]! (get_mem hi)
  have hcl:=ho.len;have hzs:=vTK (v:=v) hi;by_cases h0:l[i]!.c[v]! = 0
  .rw[zE h0]at hzs
   (refine gob ?_ ?_<;>intro h;refine gob ?_ ?_<;>intro h)
   all_goals try omega
   exact⟨i+1,⟨zom,zbo⟩,[_],[],[],[],ttt,⟨xI rfl rfl,zG rfl rfl,zG rfl rfl,zI zdd rfl (by rw[hzs];simp),zG rfl rfl,zA⟩,⟨zH zdd rfl (by rw[hzs,wB];rfl) (jM _) rfl,zA⟩,zO⟩
  .rw[zB h0]at hzs
   (refine gob ?_ ?_<;>intro h;refine gob ?_ ?_<;>intro h)
   all_goals try omega
   exact⟨i+1,⟨zom,zbo⟩,[0],[],[],[],ttt,⟨zM,zD,zD,zI zdd rfl (by rw[hzs]),zD,zA⟩,⟨zH zdd rfl (by rw[hzs]) (jM _) rfl,zA⟩,zO⟩
 have ei:i=l.length:=zom
 rw[ei]at hz ⊢
 have hZo:∀ r∈jA l v l.length,okRw m r:=fun r h=>by
  unfold jA at h;exact hr r (pK (gT.1 h).1)
 have hE:jB l v k=elI v k l (some (jA l v l.length)) l.length:=rfl;generalize jA l v l.length=Z at *
 generalize jB l v k=E at *
 (refine gob ?_ ?_<;>intro h;refine gob ?_ ?_<;>intro h)
 all_goals try omega
 refine xG hT (fun((i,O):Nat×List FR)=>[(0,.imm (l.map qN)),(1,.int .i64 v),(2,.int .i64 k),(8,.own 0 0 O.length),(10,.int .i64 i)]) (fun(_,O)=>[(0,I8 O)]) [] 1
  (fun(i,O)=>i<=l.length/\elI v k l (some Z) i=some O/\(∀ r∈O,okRw m r)/\O.length<=l.length+upI l v i*dnI l v l.length) (fun(i,_)=>l.length-i) (0,Z) ⟨z8 _,rfl,hZo,zom⟩ zdd zsm ?_ ?_
 .exact⟨[0],[],[],[],ttt,⟨zM,zD,zD,zI zdd rfl rfl,zD,zA⟩,⟨zH zdd rfl rfl (jM _) rfl,zA⟩,zO⟩
 intro⟨i,O⟩ ⟨i1,i2,i3,i4⟩;have hup:upI l v i*dnI l v l.length<=20000:=wS (vK _ (XA l v i1 (zX _))) hp;by_cases hi:i<l.length
 .have ha:=hr l[i]! (get_mem hi)
  have hal:=ha.len;have hus:=P6 (v:=v) hi;have hup2:upI l v (i+1)*dnI l v l.length<=20000:=wS (vK _ (XA l v zom (zX _))) hp;have hsuc:=W7 (v:=v) (k:=k) (o:=some Z) hi;rw[i2]at hsuc;have hstop:elI v k l (some Z) (i+1)=none->E=none:=fun h=>by rw[hE];exact uGJ h zom
  rw[hsuc]at hstop
  have hdm:∀ j,j<=l.length->(if 0<l[i]!.c[v]! then dnI l v j else 0)<=1000000:=fun j hj=>by
   have:=P8 l v j
   split<;>omega
  refine gob ?_ ?_<;>intro h
  all_goals try omega
  refine xG hT (fun((j,Q):Nat×List FR)=>[(0,.imm (l.map qN)),(1,.int .i64 v),(2,.int .i64 k),(8,.own 0 0 Q.length),(10,.int .i64 i),(11,.int .i64 j)]) (fun(_,Q)=>[(0,I8 Q)]) [] 1
   (fun(j,Q)=>j<=l.length/\elJ v k l l[i]! (some O) j=some Q/\(∀ r∈Q,okRw m r)/\Q.length<=l.length+upI l v i*dnI l v l.length+(if 0<l[i]!.c[v]! then dnI l v j else 0)) (fun(j,_)=>l.length-j) (0,O) ⟨z8 _,rfl,i3,zom⟩ zdd zsm ?_ ?_
  .exact⟨[0],[],[],[],ttt,⟨zM,zD,zD,zI zdd rfl rfl,zD,zD,zA⟩,⟨zH zdd rfl rfl (jM _) rfl,zA⟩,zO⟩
  intro⟨j,Q⟩ ⟨j1,j2,j3,j4⟩;have hdj:=hdm j j1;by_cases hj:j<l.length
  .have hb:=hr l[j]! (get_mem hj)
   have hbl:=hb.len;have hds:=P7 (v:=v) hj;have hjs:=W6 (v:=v) (k:=k) (a:=l[i]!) (o:=some O) hj;rw[j2]at hjs;have hlen:=fun out h=>XB (v:=v) (k:=k) (O:=Q) (a:=l[i]!) (b:=l[j]!) (out:=out) h
   have hbits:=uH1 (l[i]!.fm ||| l[j]!.fm) (by have:=NL (x:=l[i]!.fm) (y:=l[j]!.fm) (n:=62) ha.fm hb.fm;omega);have hor:=uH3 (a:=l[i]!.fm) (b:=l[j]!.fm) (by have:=ha.fm;omega) (by have:=hb.fm;omega);have hbn:DD (l[i]!.fm ||| l[j]!.fm)<=64:=PT _ _
   have hmono:(if 0<l[i]!.c[v]! then dnI l v j else 0)<=(if 0<l[i]!.c[v]! then dnI l v (j+1) else 0):=by
    rw[hds];split<;>(try split)<;>omega
   by_cases hg:iC l[i]! l[j]! v k
   .obtain⟨g1,g2,g3⟩:=id hg
    have hsz:=uUY ha hb hv;have hcm:(wW l[i]! l[j]! v).length=m:=by unfold wW;rw[z6,Ca];exact hal
    have hz0:List.replicate m (0:Int)=aT l[i]! l[j]! v 0:=by rw[<- hal];exact(Pu _ _ _).symm
    have hbv:=ha.at hv;have hcv:=hb.at hv;have hok:=fun h=>XC (v:=v) ha hb h
    (refine gob ?_ ?_<;>intro h;refine gob ?_ ?_<;>intro h;rotate_left;refine gob ?_ ?_<;>intro h;rotate_right)
    all_goals try omega
    rw[hor];refine zT hbits rfl ?_
    refine gob ?_ ?_<;>intro h
    all_goals try omega
    refine xG hT (fun(n:Nat)=>[(0,.imm (l.map qN)),(1,.int .i64 v),(2,.int .i64 k),(8,.own 0 0 Q.length),(10,.int .i64 i),(11,.int .i64 j),(12,.own 1 0 m),(13,.int .i64 n)]) (fun n=>[(0,I8 Q),(1,nV (aT l[i]! l[j]! v n))]) [] 2
     (fun n=>n<=m) (fun n=>m-n) 0 (z8 _) zdd zsm ?_ ?_
    .exact⟨[0,48],[],[],[],ttt,⟨zM,zD,zD,zI zdd rfl rfl,zD,zD,zI zdd rfl (by rw[z6,hal];omega),zD,zA⟩,⟨zH zdd rfl rfl (jM _) rfl,zH zdd rfl (by rw[<- hz0];exact aM (f:=PV.int .i64) (x:=(0:Int)) (by rw[z6,hal];omega)) (vJ _) rfl,zA⟩,zO⟩
    intro n n1;have hcl:=uG3 l[i]! l[j]! v n;by_cases hn:n<m
    .have m1:=Kz (ha.at hn) (P9 hcv)
     have m2:=Kz (hb.at hn) hbv;have hset:=uG2 (a:=l[i]!) (b:=l[j]!) (v:=v) (i:=n) zom;have o1:=P9 hcv;unfold okG at o1
     refine gob ?_ ?_<;>intro h
     all_goals try omega
     refine yB n (z7 _) zom (sts ?_);exact⟨n+1,⟨zom,zbo⟩,[0,1],[],[],[],ttt,⟨zM,zD,zD,zI zdd rfl rfl,zD,zD,zI zdd rfl rfl,zD,zA⟩,⟨zH zdd rfl rfl (jM _) rfl,zH zdd rfl (by rw[<- hset];exact x5 (z7 _) rfl) (vJ _) rfl,zA⟩,zO⟩
    have en:n=m:=zom
    rw[en,show aT l[i]! l[j]! v m=wW l[i]! l[j]! v by rw[<- hal];exact uG4 _ _ _];have cr':=zP6 (wW l[i]! l[j]! v) hsz zom;rw[hcm]at cr';have hrl:(rY (wW l[i]! l[j]! v)).length=m:=by rw[Ke];exact hcm
    cases hB:qO (wW l[i]! l[j]! v) with
    | false =>
      have hsn:elS v k (some Q) l[i]! l[j]! = none:=by unfold elS;dsimp only;rw[zE hg,hB,zB zdd]
      rw[hsn]at hjs;rw[hstop (uGI hjs zom)];rw[hB]at cr'
      refine gob ?_ ?_<;>intro h
      all_goals try omega
      refine tG (r:=1) cr' rfl rfl rfl rfl (rT (vJ _)) (sts ?_);exact yD
    | true =>
      have hsn:elS v k (some Q) l[i]! l[j]! = some (Q++[qG l[i]! l[j]! v]):=by unfold elS;dsimp only;rw[zE hg,zE hB]
      rw[hsn]at hjs;have hl2:=hlen _ hsn;rw[zE ⟨g1,g2⟩]at hl2;have hds2:=hds;rw[zE g2]at hds2;rw[zE g1]at j4;have hdj2:=P8 l v j;rw[hB]at cr'
      refine gob ?_ ?_<;>intro h
      all_goals try omega
      refine tG (r:=1) cr' rfl rfl rfl rfl (rT (vJ _)) (sts ?_)
      exact⟨(j+1,Q++[qG l[i]! l[j]! v]),⟨⟨zom,hjs,fun r hr'=>by
       rcases y8.1 hr' with h|h
       .exact j3 r h
       .rw[yG.1 h];exact hok hB,by rw[zE g1,hds2];omega⟩,zbo⟩,[24],[1],[],[(24,Q.map qN++[.agg [.imm ((rY (wW l[i]! l[j]! v)).map (.int .i64)),.int .u64 (tF .or .u64 l[i]!.fm l[j]!.fm)]])],⟨⟨⟨_,rfl⟩,zA⟩,zA,⟨⟨_,6,_,rfl,Wv (lJ (yL (xP rfl rfl hrl.symm fun _=>rfl) rfl)) (Wu Sn _),rfl⟩,zA⟩⟩,⟨xI rfl rfl,zG rfl rfl,zG rfl rfl,zI zdd rfl zsm,zG rfl rfl,zG rfl rfl,zA⟩,⟨zH zdd rfl (by rw[hor,wB];rfl) (jM _) rfl,zA⟩,zO⟩
   .have hsk:elS v k (some Q) l[i]! l[j]! = some Q:=by unfold elS;dsimp only;rw[zB hg]
    rw[hsk]at hjs;by_cases h1:l[i]!.c[v]! <= 0
    ·(refine gob ?_ ?_<;>intro h;refine gob ?_ ?_<;>intro h;rotate_left;refine gob ?_ ?_<;>intro h;rotate_right)
     all_goals try omega
     exact⟨(j+1,Q),⟨⟨zom,hjs,j3,zom⟩,zbo⟩,[0],[],[],[],ttt,⟨zM,zD,zD,zI zdd rfl rfl,zD,zD,zA⟩,⟨zH zdd rfl rfl (jM _) rfl,zA⟩,zO⟩
    .by_cases h2:0<=l[j]!.c[v]!
     ·(refine gob ?_ ?_<;>intro h;refine gob ?_ ?_<;>intro h;rotate_left;refine gob ?_ ?_<;>intro h;rotate_right)
      all_goals try omega
      exact⟨(j+1,Q),⟨⟨zom,hjs,j3,zom⟩,zbo⟩,[0],[],[],[],ttt,⟨zM,zD,zD,zI zdd rfl rfl,zD,zD,zA⟩,⟨zH zdd rfl rfl (jM _) rfl,zA⟩,zO⟩
     .have h3:¬ DD (l[i]!.fm ||| l[j]!.fm)<=k+1:=fun e=>hg ⟨zom,zom,e⟩
      (refine gob ?_ ?_<;>intro h;refine gob ?_ ?_<;>intro h;rotate_left;refine gob ?_ ?_<;>intro h;rotate_right)
      all_goals try omega
      rw[hor];refine zT hbits rfl ?_
      refine gob ?_ ?_<;>intro h
      all_goals try omega
      exact⟨(j+1,Q),⟨⟨zom,hjs,j3,zom⟩,zbo⟩,[0],[],[],[],ttt,⟨zM,zD,zD,zI zdd rfl rfl,zD,zD,zA⟩,⟨zH zdd rfl rfl (jM _) rfl,zA⟩,zO⟩
  .have ej:j=l.length:=zom
   rw[ej]at j2 j4;rw[j2]at hsuc
   have hfin:upI l v i*dnI l v l.length+(if 0<l[i]!.c[v]! then dnI l v l.length else 0)<=upI l v (i+1)*dnI l v l.length:=by
    rw[hus];split
    .rw[w6,Ch];omega
    .omega
   (refine gob ?_ ?_<;>intro h;refine gob ?_ ?_<;>intro h;rotate_left;refine gob ?_ ?_<;>intro h;rotate_right)
   all_goals try omega
   exact⟨(i+1,Q),⟨⟨zom,hsuc,j3,zom⟩,zbo⟩,[0],[],[],[],ttt,⟨zM,zD,zD,zI zdd rfl rfl,zD,zA⟩,⟨zH zdd rfl rfl (jM _) rfl,zA⟩,zO⟩
 .have ei:i=l.length:=zom
  rw[ei]at i2;rw[hE,i2]
  refine gob ?_ ?_<;>intro h
  all_goals try omega
  exact zL (Cz (yL (xP rfl rfl rfl Sn) rfl)) rfl
set_option maxHeartbeats 2000000
def uBG(x y:Int)(hx:-9223372036854775807<=x/\x<9223372036854775808)(hy:-9223372036854775807<=y/\y<0):Fn 159 [.int .i64 x,.int .i64 y] (.data (.tup [zR (cr (mkRat (-x) y.natAbs)),.int .i64 0])):=by
 have hle:x.natAbs<pw 2:=by rw[xX,xX,q8];omega
 have hle2:y.natAbs<pw 2:=by rw[xX,xX,q8];omega
 have hl:=sW hle;have hl2:=sW hle2;have cm:=Xz (cz x) (cz y) (yP _) (yP _) (by show nv (zJ _)≠0;rw[yR];omega) (by show(zJ _).length<_;omega) (by show(zJ _).length<_;omega)
 have es:mkRat (sg ((cz x).neg != (cz y).neg) (nv (cz x).mag)) (nv (cz y).mag)=mkRat (-x) y.natAbs:=by
  rw[show(cz y).neg=true by unfold cz;simp;omega,show nv (cz y).mag=y.natAbs from yR _,show nv (cz x).mag=x.natAbs from yR _]
  congr 1
  have hn:(cz x).neg=decide (x<0):=rfl;rw[hn];unfold sg;by_cases h:x<0
  .simp[h];omega
  .simp[h];omega
 rw[es]at cm;refine fnV (mkO func159 ntmps159 results159) ?_;refine cvd (IR x zom) ?_;refine cvd (IR y zom) ?_;refine cvd cm ?_;exact yD
def uHZ(l:List FR)(n m:Nat)(hl:l.length<=1000000)(hr:∀ r∈l,okRw m r)(hn:n+1<m)(hm:m<=1000):Fn 83 [.imm (l.map qN),.int .i64 n] (.data (.tup [.int .i64 (rE l n).1,zR (cr (rE l n).2)])):=by
 refine fnV (mkO func83 ntmps83 results83) ?_
 refine xG hT (fun((i,s):Nat×EnS)=>[(0,.imm (l.map qN)),(1,.int .i64 n),(5,.ptr 0 0 0),(6,.bool s.low),(7,.bool s.high),(8,.ptr 1 0 0),(9,.ptr 2 0 0),(10,.int .i64 i)]) (fun(_,s)=>[(0,⟨[.agg [.bool false,.nilsl,.nilsl]],3,true⟩),(1,⟨[zR (cr s.least)],3,true⟩),(2,⟨[zR (cr s.most)],3,true⟩)]) [] 3
  (fun(i,s)=>i<=l.length/\enI l n i=some s/\sz 2 s.least/\sz 2 s.most) (fun(i,_)=>l.length-i) (0,⟨false,false,0,0⟩) ⟨z8 _,rfl,iX zdd,iX zdd⟩ zdd zsm ?_ ?_
 .exact⟨[1,4,5],[],[],[(4,[zR (cr 0)]),(5,[zR (cr 0)])],⟨zA,zA,⟨⟨_,6,_,rfl,rfl,rfl⟩,⟨_,6,_,rfl,rfl,rfl⟩,zA⟩⟩,⟨xI rfl rfl,zG rfl rfl,apx,wU rfl rfl,wU rfl rfl,apx,apx,zG rfl rfl,zA⟩,⟨bbx,bbx,bbx,zA⟩,zO⟩
 intro⟨i,⟨low,high,L,M⟩⟩ ⟨i1,i2,z1,z2⟩;dsimp only at z1 z2;by_cases hi:i<l.length
 .have ho:=hr l[i]! (get_mem hi)
  have hol:=ho.len;have ga:=ho.at (i:=n) zom;have gc:=ho.at (i:=n+1) hn
  have hst:enI l n (i+1)=if l[i]!.c[n]! = 0/\l[i]!.c[n+1]! < 0 then none else some (enS ⟨low,high,L,M⟩ l[i]!.c[n]! l[i]!.c[n+1]!):=by
   conv=>lhs;unfold enI
   rw[i2]
  have hz:=XI ga gc (s:=⟨low,high,L,M⟩) ⟨z1,z2⟩;have hnone:enI l n (i+1)=none->rE l n=(2,0):=fun h=>by unfold rE;rw[XF h _ zom];rfl
  have hco:∀ x:FR,(x.c[n+1]! : Int)=x.c[n+1]! := fun _=>rfl
  have hvz:=fun h0=>XH ga gc h0
  have hfp:0<l[i]!.c[n]! -> mkRat (0-l[i]!.c[n+1]!) l[i]!.c[n]!.natAbs=enV l[i]!.c[n]! l[i]!.c[n+1]! := fun h=>by unfold enV;rw[zE h]
  have hfn:l[i]!.c[n]! < 0->mkRat (-(0-l[i]!.c[n+1]!)) l[i]!.c[n]!.natAbs=enV l[i]!.c[n]! l[i]!.c[n+1]! := fun h=>by unfold enV;rw[zB zom,show -(0-l[i]!.c[n+1]!)=l[i]!.c[n+1]! by omega]
  have hes:enS ⟨low,high,L,M⟩ l[i]!.c[n]! l[i]!.c[n+1]! = if l[i]!.c[n]! = 0 then⟨low,high,L,M⟩ else if 0<l[i]!.c[n]! then⟨true,high,if low=false\/L<enV l[i]!.c[n]! l[i]!.c[n+1]! then enV l[i]!.c[n]! l[i]!.c[n+1]! else L,M⟩ else⟨low,true,L,if high=false\/enV l[i]!.c[n]! l[i]!.c[n+1]! < M then enV l[i]!.c[n]! l[i]!.c[n+1]! else M⟩:=rfl
  rw[hes]at hst hz;unfold okG at ga gc;by_cases h0:l[i]!.c[n]! = 0
  .by_cases hc:l[i]!.c[n+1]! < 0
   .rw[zE ⟨h0,hc⟩]at hst
    rw[hnone hst]
    (refine gob ?_ ?_<;>intro h;rotate_left;refine gob ?_ ?_<;>intro h;refine gob ?_ ?_<;>intro h;rotate_left;refine gob ?_ ?_<;>intro h;rotate_right;rotate_left 3;refine gob ?_ ?_<;>intro h;rotate_right 3;rotate_right)
    all_goals try omega
    refine wP (j:=n+1) zom zom ?_
    (refine gob ?_ ?_<;>intro h;refine gob ?_ ?_<;>intro h)
    all_goals try omega
    exact zL rfl (by rw[nL];rfl)
   .rw[zB (fun e=>hc e.2),zE h0]at hst
    rw[zE h0]at hz;have hen:=hst
    (refine gob ?_ ?_<;>intro h;rotate_left;refine gob ?_ ?_<;>intro h;refine gob ?_ ?_<;>intro h;rotate_left;refine gob ?_ ?_<;>intro h;rotate_right;rotate_left 3;refine gob ?_ ?_<;>intro h;rotate_right 3;rotate_right)
    all_goals try omega
    refine wP (j:=n+1) zom zom ?_
    (refine gob ?_ ?_<;>intro h;refine gob ?_ ?_<;>intro h)
    all_goals try omega
    exact⟨(i+1,⟨low,high,L,M⟩),⟨⟨zom,hen,by first|exact hz.1|exact z1,by first|exact hz.2|exact z2⟩,zbo⟩,[0,1,2],[],[],[],ttt,⟨zM,zD,apx,wU rfl rfl,wU rfl rfl,apx,apx,zD,zA⟩,⟨bbx,bbx,bbx,zA⟩,zO⟩
  .rw [zB (fun e=>h0 e.1),zB h0]at hst
   rw[zB h0]at hz;have hvs:=hvz h0;have lv:=yO hvs;have lL:=yO z1;have lM:=yO z2;by_cases hp:0<l[i]!.c[n]!
   .rw [zE hp]at hst hz
    have d1:=X0 (0-l[i]!.c[n+1]!) l[i]!.c[n]! zom zom;rw[hfp hp]at d1;have d2:=IX (cr (enV l[i]!.c[n]! l[i]!.c[n+1]!)) (cr L) (yH _) (yH _) zom zom zom zom;rw[yC,yC]at d2;generalize enV l[i]!.c[n]! l[i]!.c[n+1]! = V at *
    have hD:xQ (V-L) > 0↔L<V:=⟨fun h=>by have:=sgnQ_pos.1 h;grind,fun h=>sgnQ_pos.2 (by grind)⟩;cases low with
    | false =>
      rw[zE (zF rfl)]at hst hz;have hen:=hst
      refine gob ?_ ?_<;>intro h
      all_goals try omega
      refine wP (j:=n+1) zom zom ?_
      (refine gob ?_ ?_<;>intro h;refine gob ?_ ?_<;>intro h)
      all_goals try omega
      refine zT d1 rfl ?_
      (refine gob ?_ ?_<;>intro h;rotate_left;refine gob ?_ ?_<;>intro h;rotate_right)
      all_goals try omega
      exact⟨(i+1,⟨true,high,V,M⟩),⟨⟨zom,hen,by first|exact hz.1|exact z1,by first|exact hz.2|exact z2⟩,zbo⟩,[0,1,2],[],[],[],ttt,⟨zM,zD,apx,wU rfl rfl,wU rfl rfl,apx,apx,zD,zA⟩,⟨bbx,bbx,bbx,zA⟩,zO⟩
    | true =>
      by_cases hlt:L<V
      .rw[zE (zC hlt)]at hst hz
       have hen:=hst;have hD2:=hD.2 hlt;clear hD;generalize xQ (V-L)=D at *
       (refine gob ?_ ?_<;>intro h;rotate_left;refine gob ?_ ?_<;>intro h;rotate_right)
       all_goals try omega
       refine wP (j:=n+1) zom zom ?_
       (refine gob ?_ ?_<;>intro h;refine gob ?_ ?_<;>intro h)
       all_goals try omega
       refine zT d1 rfl ?_
       (refine gob ?_ ?_<;>intro h;rotate_left;refine gob ?_ ?_<;>intro h;rotate_right)
       all_goals try omega
       refine zT d2 rfl ?_
       refine gob ?_ ?_<;>intro h
       all_goals try omega
       exact⟨(i+1,⟨true,high,V,M⟩),⟨⟨zom,hen,by first|exact hz.1|exact z1,by first|exact hz.2|exact z2⟩,zbo⟩,[0,1,2],[],[],[],ttt,⟨zM,zD,apx,wU rfl rfl,wU rfl rfl,apx,apx,zD,zA⟩,⟨bbx,bbx,bbx,zA⟩,zO⟩
      .rw[zB (by rintro(h|h);cases h;exact hlt h)]at hst hz
       have hen:=hst;have hD2:¬ xQ (V-L) > 0:=fun h=>hlt (hD.1 h)
       clear hD;generalize xQ (V-L)=D at *
       (refine gob ?_ ?_<;>intro h;rotate_left;refine gob ?_ ?_<;>intro h;rotate_right)
       all_goals try omega
       refine wP (j:=n+1) zom zom ?_
       (refine gob ?_ ?_<;>intro h;refine gob ?_ ?_<;>intro h)
       all_goals try omega
       refine zT d1 rfl ?_
       (refine gob ?_ ?_<;>intro h;rotate_left;refine gob ?_ ?_<;>intro h;rotate_right)
       all_goals try omega
       refine zT d2 rfl ?_
       refine gob ?_ ?_<;>intro h
       all_goals try omega
       exact⟨(i+1,⟨true,high,L,M⟩),⟨⟨zom,hen,by first|exact hz.1|exact z1,by first|exact hz.2|exact z2⟩,zbo⟩,[0,1,2],[],[],[],ttt,⟨zM,zD,apx,wU rfl rfl,wU rfl rfl,apx,apx,zD,zA⟩,⟨bbx,bbx,bbx,zA⟩,zO⟩
   .rw [zB hp]at hst hz
    have d1:=uBG (0-l[i]!.c[n+1]!) l[i]!.c[n]! zom zom;rw[hfn zom]at d1;have d2:=IX (cr (enV l[i]!.c[n]! l[i]!.c[n+1]!)) (cr M) (yH _) (yH _) zom zom zom zom;rw[yC,yC]at d2;generalize enV l[i]!.c[n]! l[i]!.c[n+1]! = V at *
    have hD:xQ (V-M)<0↔V<M:=⟨fun h=>by have:=sgnQ_neg.1 h;grind,fun h=>sgnQ_neg.2 (by grind)⟩;cases high with
    | false =>
      rw[zE (zF rfl)]at hst hz;have hen:=hst
      (refine gob ?_ ?_<;>intro h;rotate_left;refine gob ?_ ?_<;>intro h;refine gob ?_ ?_<;>intro h;rotate_left 2;refine gob ?_ ?_<;>intro h;rotate_right 2;rotate_right)
      all_goals try omega
      refine wP (j:=n+1) zom zom ?_
      (refine gob ?_ ?_<;>intro h;refine gob ?_ ?_<;>intro h)
      all_goals try omega
      refine zT d1 rfl ?_
      (refine gob ?_ ?_<;>intro h;refine gob ?_ ?_<;>intro h)
      all_goals try omega
      exact⟨(i+1,⟨low,true,L,V⟩),⟨⟨zom,hen,by first|exact hz.1|exact z1,by first|exact hz.2|exact z2⟩,zbo⟩,[0,1,2],[],[],[],ttt,⟨zM,zD,apx,wU rfl rfl,wU rfl rfl,apx,apx,zD,zA⟩,⟨bbx,bbx,bbx,zA⟩,zO⟩
    | true =>
      by_cases hlt:V<M
      .rw[zE (zC hlt)]at hst hz
       have hen:=hst;have hD2:=hD.2 hlt;clear hD;generalize xQ (V-M)=D at *
       (refine gob ?_ ?_<;>intro h;rotate_left;refine gob ?_ ?_<;>intro h;rotate_left;refine gob ?_ ?_<;>intro h;rotate_right;rotate_right)
       all_goals try omega
       refine wP (j:=n+1) zom zom ?_
       (refine gob ?_ ?_<;>intro h;refine gob ?_ ?_<;>intro h)
       all_goals try omega
       refine zT d1 rfl ?_
       (refine gob ?_ ?_<;>intro h;refine gob ?_ ?_<;>intro h)
       all_goals try omega
       refine zT d2 rfl ?_
       refine gob ?_ ?_<;>intro h
       all_goals try omega
       exact⟨(i+1,⟨low,true,L,V⟩),⟨⟨zom,hen,by first|exact hz.1|exact z1,by first|exact hz.2|exact z2⟩,zbo⟩,[0,1,2],[],[],[],ttt,⟨zM,zD,apx,wU rfl rfl,wU rfl rfl,apx,apx,zD,zA⟩,⟨bbx,bbx,bbx,zA⟩,zO⟩
      .rw[zB (by rintro(h|h);cases h;exact hlt h)]at hst hz
       have hen:=hst;have hD2:¬ xQ (V-M)<0:=fun h=>hlt (hD.1 h)
       clear hD;generalize xQ (V-M)=D at *
       (refine gob ?_ ?_<;>intro h;rotate_left;refine gob ?_ ?_<;>intro h;rotate_left;refine gob ?_ ?_<;>intro h;rotate_right;rotate_right)
       all_goals try omega
       refine wP (j:=n+1) zom zom ?_
       (refine gob ?_ ?_<;>intro h;refine gob ?_ ?_<;>intro h)
       all_goals try omega
       refine zT d1 rfl ?_
       (refine gob ?_ ?_<;>intro h;refine gob ?_ ?_<;>intro h)
       all_goals try omega
       refine zT d2 rfl ?_
       refine gob ?_ ?_<;>intro h
       all_goals try omega
       exact⟨(i+1,⟨low,true,L,M⟩),⟨⟨zom,hen,by first|exact hz.1|exact z1,by first|exact hz.2|exact z2⟩,zbo⟩,[0,1,2],[],[],[],ttt,⟨zM,zD,apx,wU rfl rfl,wU rfl rfl,apx,apx,zD,zA⟩,⟨bbx,bbx,bbx,zA⟩,zO⟩
 .have ei:i=l.length:=zom
  have hv:rE l n=enR (some ⟨low,high,L,M⟩):=by unfold rE;rw[<- ei,i2]
  have he:enR (some ⟨low,high,L,M⟩)=if low=true/\high=true/\M<L then(2,0) else if low=false then(3,0) else(1,L):=rfl
  have lL:=yO z1;have lM:=yO z2;have d2:=IX (cr M) (cr L) (yH _) (yH _) zom zom zom zom;rw[yC,yC]at d2;have hD:xQ (M-L)<0↔M<L:=⟨fun h=>by have:=sgnQ_neg.1 h;grind,fun h=>sgnQ_neg.2 (by grind)⟩;rw[hv,he];cases low with
  | false =>
    rw[zB (by rintro⟨h,_⟩;cases h),zE rfl]
    (refine gob ?_ ?_<;>intro h;refine gob ?_ ?_<;>intro h;refine gob ?_ ?_<;>intro h)
    all_goals try omega
    exact zL rfl (by rw[nL];rfl)
  | true =>
    cases high with
    | false =>
      rw[zB (by rintro⟨_,h,_⟩;cases h),zB zdd]
      (refine gob ?_ ?_<;>intro h;refine gob ?_ ?_<;>intro h;refine gob ?_ ?_<;>intro h)
      all_goals try omega
      exact yD
    | true =>
      by_cases hlt:M<L
      .rw[zE ⟨rfl,rfl,hlt⟩]
       have hD2:=hD.2 hlt;clear hD;generalize xQ (M-L)=D at *
       (refine gob ?_ ?_<;>intro h;refine gob ?_ ?_<;>intro h;refine gob ?_ ?_<;>intro h)
       all_goals try omega
       refine zT d2 rfl ?_
       refine gob ?_ ?_<;>intro h
       all_goals try omega
       exact zL rfl (by rw[nL];rfl)
      .rw[zB (fun h=>hlt h.2.2),zB zdd]
       have hD2:¬ xQ (M-L)<0:=fun h=>hlt (hD.1 h)
       clear hD;generalize xQ (M-L)=D at *
       (refine gob ?_ ?_<;>intro h;refine gob ?_ ?_<;>intro h;refine gob ?_ ?_<;>intro h)
       all_goals try omega
       refine zT d2 rfl ?_
       refine gob ?_ ?_<;>intro h
       all_goals try omega
       exact yD
def Sr:∀ {l:List QT} {p:QT},Srt l->p∈l->cf l p.1=p.2
 | q::l,p,h,hp=>by
   have h':=srt_cons.1 h;simp only[cf];rcases yI.1 hp with rfl|hp
   .rw[zE rfl,cJ (fun r hr=>by have:=h'.1 r hr;omega)];grind
   .have:=h'.1 p hp
    rw[zB zom,Sr h'.2.2 hp];grind
def Su{k:Nat}:∀ {l:List QT} (v:Int),Srt l->(∀ p∈l,sz k p.2)->1<=k->sz k (cf l v)
 |[],v,_,_,hk=>xV hk (cQ 1 zdd).1
 | q::l,v,h,hl,hk=>by
   have h':=srt_cons.1 h;by_cases e:v=q.1
   .rw[e,Sr h (tT ..)];exact hl q (tT ..)
   .have ih:=Su v h'.2.2 (fun p hp=>hl p (xN _ hp)) hk
    have e2:cf (q::l) v=cf l v:=by simp only[cf];rw[zB (fun x=>e x.symm)];grind
    rw[e2];exact ih
def uCV{l:List QT}(h:Srt l)(i:Nat):Srt (l.take i):=⟨h.1.sublist (NM _ _),fun p hp=>h.2 p (pK hp)⟩
def uH7{l g:List QT}{kf kg:Nat}(hl:Srt l)(hg:Srt g)(h1:∀ p∈l,sz kf p.2)(h2:∀ p∈g,sz kg p.2)(hkf:1<=kf)(hkg:1<=kg):∀ p∈addL l g,sz (kf+kg+1) p.2:=fun p hp=>by
 obtain⟨h3,h4⟩:=PN (g:=g) hl;rw[<- Sr h3 hp,h4];exact pU (Su _ hl h1 hkf) (Su _ hg h2 hkg)
def uQP(f g:QF)(kf kg:Nat)(hf:szF kf f)(hg:szF kg g)(hsf:Srt f.ts)(hsg:Srt g.ts)(hkf:1<=kf)(hkg:1<=kg)(hk:kf+kg+10<=949999980)(hl:f.ts.length+g.ts.length<=2097140):Fn 42 [zP f,zP g] (.data (zP (Be f g))):=by
 have lf:=yO hf.1;have lg:=yO hg.1;have hs0:=pU hf.1 hg.1;have ca:=aY (cr f.c) (cr g.c) (yH _) (yH _) zom zom zom zom;rw[yC,yC]at ca;unfold Be;obtain⟨C,hC⟩:∃ C,f.c+g.c=C:=⟨_,rfl⟩;rw[hC]at ca hs0;rw[hC];refine yJ zU hT (mkO func42 ntmps42 results42) (by simp[zP]) (sts ?_);refine cvd ca ?_
 refine xG hT (fun((i,l):Nat×List QT)=>[(3,.ptr 0 0 0),(4,.ptr 1 0 0),(5,.ptr 2 0 0),(6,.int .i64 i)])
  (fun(i,l)=>[(0,⟨[zP g],4,true⟩),(1,⟨[IP],4,true⟩),(2,⟨[zP ⟨l,C⟩],4,true⟩)]) [] 3
  (fun(i,l)=>l=addL f.ts (g.ts.take i)/\i<=g.ts.length/\l.length<=f.ts.length+i)
  (fun(i,_)=>g.ts.length-i) (0,f.ts) ⟨rfl,z8 _,zX _⟩ zdd zsm ?_ ?_
 .exact⟨[_,_,_],[],[],[],ttt,⟨(apy rfl),(apy rfl),(apy rfl),zG rfl rfl,zA⟩,
   ⟨bbx,bbx,bbx,zA⟩,zO⟩
 intro⟨i,l⟩ ⟨i1,i2,i3⟩;by_cases hi:i<g.ts.length
 .have hp:=hg.2 g.ts[i]! (by rw[zS g.ts i hi];exact wA hi)
  have i4:∀ p∈l,sz (kf+kg+1) p.2:=by rw[i1];exact uH7 hsf (uCV hsg i) hf.2 (fun p hp=>hg.2 p (pK hp)) hkf hkg
  have cp:=ZB ⟨l,C⟩ g.ts[i]!.1 g.ts[i]!.2 (kf+kg+1) kg ⟨xV zom hs0,i4⟩ hp zom (by show l.length<=_;omega);have hln:=RH (v:=g.ts[i]!.1) (c:=g.ts[i]!.2) (l:=l) (d:=false)
  have hn:wZ g.ts[i]!.1 g.ts[i]!.2 l false=addL f.ts (g.ts.take (i+1)):=by
   rw[i1];unfold addL;rw[tO hi,dF,zS g.ts i hi];rfl
  simp only[JX,tE]at hln
  refine gob ?_ ?_<;>intro h
  .refine cvd cp ?_
   exact⟨(i+1,wZ g.ts[i]!.1 g.ts[i]!.2 l false),⟨⟨hn,zom,zom⟩,zbo⟩,[0,1,2],[],[],[],ttt,
    ⟨apx,apx,apx,zG rfl zom,zA⟩,
    ⟨bbx,bbx,bbx,zA⟩,zO⟩
  all_goals (exfalso;omega)
 .rw[uT zom]at i1
  subst i1
  refine gob ?_ ?_<;>intro h
  all_goals try omega
  exact zL (lJ (yL (xP rfl zsm zsm (fun x=>DZ x)) rfl)) rfl
def Sv(f g:QF)(kf kg:Nat)(hf:szF kf f)(hg:szF kg g)(hsf:Srt f.ts)(hsg:Srt g.ts)(hkf:1<=kf)(hk:kf+kg+11<=949999980)(hl:f.ts.length+g.ts.length<=2097140):Fn 14 [zP f,zP g] (.data (zP (Be f (rB g (-1))))):=by
 have co:=Db (-1) zdd;rw[show((-1:Int):Rat)=-1 by rfl]at co;have h1:sz 1 (-1:Rat):=pX (z:=-1) zdd;have cs:=FN g (-1) kg 1 hg h1 zom zom;have hln:=Lg (c:=(-1:Rat)) (l:=g.ts);have ca:=uQP f (rB g (-1)) kf (kg+1) hf (RJ hg h1) hsf (He _ hsg).1 hkf zom zom (by show _+(rA _ _).length<=_;omega);refine yJ zU hT (mkO func14 ntmps14 results14) (by simp[zP]) (sts ?_);refine cvd co ?_;refine cvd cs ?_;refine cvd ca ?_;exact yD
end Go.PI.Tryz
