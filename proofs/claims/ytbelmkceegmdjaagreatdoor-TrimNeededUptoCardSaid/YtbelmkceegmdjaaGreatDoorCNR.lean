/-
  The reference's natural numbers: Gcd.
-/
import Derived.Test.YtbelmkceegmdjaaGreatDoorCNA
set_option linter.unusedVariables false
set_option linter.unusedSimpArgs false
set_option maxHeartbeats 0
namespace Go.PI.Tryz
open Go.Proofs Go.PI
theorem vWK:FO 123 Tryz.f123 [.tmp 2] 23:=mkO Tryz.func123 Tryz.ntmps123 Tryz.results123
theorem zC8(xs:List Int)(ho:okN xs)(hl:xs.length<2147483648):Fn 123 [vBK xs] (.data (vBK (vBG (nv xs)))):=by
 refine zAM vBC hT vWK zsm ?_;refine sts ?_;refine zA6 hT (fun n:Nat=>[(0,vBK xs),(3,.int .i64 n)]) (fun n=>n<=xs.length/\∀ j,n<=j->j<xs.length->xs[j]! = 0) (fun n=>n) xs.length ⟨rAO _,fun j h1 h2=>by omega⟩ ?_ ?_
 .exact⟨rAJ,zAC rfl zsm,rGW⟩
 .intro n ⟨hn,hz⟩
  refine gob ?_ ?_<;>intro h
  .refine zA7 (j:=n - 1) zom zom ?_
   refine gob ?_ ?_<;>intro h
   .refine⟨n - 1,⟨⟨zom,fun j h1 h2=>?_⟩,zom⟩,rAJ,zAC rfl zom,rGW⟩
    by_cases e:j=n - 1
    .subst e; assumption
    .exact hz j zom h2
   .refine zB2 (l':=xs.take n) zsm ?_
    refine sts ?_;refine zAB (zAI (f:=PV.int .u32) (l:=xs.take n) rfl rfl zsm (fun x=>zB8 x)) ?_;rw[zJP ho hn hz (rAZ h)]
  .have h0:n=0:=by omega
   subst h0;refine zB2 (l':=[]) zsm ?_;refine sts ?_;refine zAB (zAI (f:=PV.int .u32) (l:=[]) rfl rfl zsm (fun x=>zB8 x)) ?_;rw[<- zJP ho hn hz (rAW rfl)]; rfl
theorem vWL:FO 204 Tryz.f204 [.tmp 4] 13:=mkO Tryz.func204 Tryz.ntmps204 Tryz.results204
theorem zG5(xs:List Int)(i:Int)(ho:okN xs)(hi:0<=i)(hl:xs.length<2147483648):Fn 204 [vBK xs,.int .i64 i] (.data (.int .u32 (lb xs i.toNat))):=by
 obtain⟨j,rfl⟩:=Int.eq_ofNat_of_zero_le hi;refine zAM vBC hT vWL zsm ?_
 refine gob ?_ ?_<;>intro h
 .refine zAB rfl ?_
  rw[<- zBF zom ho]; rfl
 .refine zAB rfl ?_
  rw[show((j:Int)).toNat=j from rfl,zHX zom]; rfl
theorem uIE:FO 90 Tryz.f90 [.tmp 2] 10:=mkO Tryz.func90 Tryz.ntmps90 Tryz.results90
theorem vQQ(n:Nat)(hn:n<18446744073709551616):Fn 90 [.int .u64 n] (.data (vBK (vBG n))):=by
 refine zAM vBC hT uIE zsm ?_;refine sts ?_;refine zCY ?_;refine sts ?_;rw[zDN];refine sts ?_;have hv:nv [(n:Int) % 4294967296,(n:Int) / 4294967296]=n:=by simp only[nv]; omega
 have cm:=zC8 [(n:Int) % 4294967296,(n:Int) / 4294967296] (by intro x hx; simp only[rA7,rCX,rE7]at hx; omega) zsm;rw[hv]at cm;refine zAA cm rfl ?_;refine sts ?_;exact rGX
theorem uCM:FO 210 Tryz.f210 [.tmp 4] 30:=mkO Tryz.func210 Tryz.ntmps210 Tryz.results210
theorem vZN(xs ys:List Int)(hx:okN xs)(hy:okN ys)(hl:xs.length<2147483648)(hl2:ys.length<2147483648):Fn 210 [vBK xs,vBK ys] (.data (.int .i64 (vEK (nv xs) (nv ys)))):=by
 refine zAM vBC hT uCM zsm ?_;refine sts ?_;obtain⟨M,hM⟩:∃ M,max xs.length ys.length=M:=⟨_,rfl⟩;refine zA6 hT (fun n:Nat=>[(0,vBK xs),(1,vBK ys),(5,.int .i64 ((n:Int) - 1))]) (fun n=>n<=2147483648/\nt xs n=nt ys n) (fun n=>n) M ⟨zom,by rw[zEW zom,zEW zom]⟩ ?_ ?_
 .exact⟨rAJ,rAJ,zAC rfl (by simp only[rAM]; split<;>omega),rGW⟩
 intro n ⟨hn,hnt⟩;have hsa:=zDD hx (n - 1);have hsb:=zDD hy (n - 1)
 refine gob ?_ ?_<;>intro h
 .have cl1:=zG5 xs ((n:Int) - 1) hx zom hl
  have cl2:=zG5 ys ((n:Int) - 1) hy zom hl2;have hn1:((n:Int) - 1).toNat=n - 1:=by omega
  have h0:n - 1+1=n:=by omega
  rw[hn1]at cl1 cl2;rw[h0]at hsa hsb;refine zAA cl1 rfl ?_;refine sts ?_;refine zAA cl2 rfl ?_
  refine gob ?_ ?_<;>intro h
  .have:=zKF hx hy (i:=n - 1) (by rw[h0]; exact hnt) (rAZ (by rw[h0]; exact hsa)) (rAZ (by rw[h0]; exact hsb)) zom
   refine zAB rfl ?_;unfold vEK;rw[rAV zom]
  refine zAA cl1 rfl ?_;refine sts ?_;refine zAA cl2 rfl ?_
  refine gob ?_ ?_<;>intro h
  .have:=zKF hy hx (i:=n - 1) (by rw[h0]; exact hnt.symm) (rAZ (by rw[h0]; exact hsb)) (rAZ (by rw[h0]; exact hsa)) zom
   refine zAB rfl ?_;unfold vEK;rw[rAN zom,rAV zom]
  .exact⟨n - 1,⟨⟨zom,zom⟩,zom⟩,rAJ,rAJ,zAC rfl zom,rGW⟩
 .have h0:n=0:=by omega
  subst h0;rw[zHT,zHT]at hnt;refine zAB rfl ?_;unfold vEK;rw[rAN zom,rAN zom]
theorem vWJ:FO 91 Tryz.f91 [.tmp 4] 26:=mkO Tryz.func91 Tryz.ntmps91 Tryz.results91
theorem vQP(xs ys:List Int)(hl:xs.length<2147483648)(hl2:ys.length<2147483648):Fn 91 [vBK xs,vBK ys] (.data (.bool (decide (xs=ys)))):=by
 refine zAM vBC hT vWJ zsm ?_
 refine gob ?_ ?_<;>intro h
 .refine zAB rfl ?_
  rw[rBC (fun e=>by subst e; exact h rfl)]
 .have hlen:xs.length=ys.length:=by omega
  refine zA6 hT (fun n:Nat=>[(0,vBK xs),(1,vBK ys),(5,.int .i64 n)]) (fun n=>n<=xs.length/\∀ j,j<n->xs[j]! = ys[j]!) (fun n=>xs.length - n) 0 ⟨zom,fun j hj=>by omega⟩ ?_ ?_
  .exact⟨rAJ,rAJ,rAI,rGW⟩
  intro n ⟨hn,he⟩
  (repeat' (first|refine stp ?_|with_reducible(refine brr ?_ ?_<;>intro h)));all_goals try(conv=>whnf)
  .refine zAB rfl ?_
   rw[rBC (fun e=>by subst e; exact h rfl)]
  .exact⟨n+1,⟨⟨zom,fun j hj=>by
    rcases rCZ j n with q | q
    .exact he j q
    .obtain rfl:j=n:=by omega
     exact h⟩,zom⟩,rAJ,rAJ,zAC rfl zom,rGW⟩
  .refine zAB rfl ?_
   rw[rB4];refine rDA hlen fun j h1 h2=>?_
   have:=he j zom;rw[rAS xs j h1,rAS ys j h2]at this;exact this
def uNG(j:Nat)(O:List Int):Nat×PV:=match O with
 | []=>(j,.nilsl)
 | _::_=>(j,.own 0 0 O.length)
def vFM(O:List Int):List (Nat×Blk):=match O with
 | []=>[]
 | x::l=>[(0,⟨(x::l).map (.int .u32),1,false⟩)]
theorem uM2(y:Nat):nv [(y:Int)]=y:=by simp[nv]
theorem zL5{O:List Int}{i y:Nat}(h:O.length=i):nv (O++[(y:Int)])=nv O+pw i * y:=by rw[zHR,h,uM2]
theorem zNW{O xs ys:List Int}{i c c' y:Nat}(h:O.length=i)(i5:nv O+pw i * c=nk xs i+nk ys i)(e:c+(lb xs i+lb ys i)=c' * 4294967296+y) :
 nv (O++[(y:Int)])+pw (i+1) * c'=nk xs (i+1)+nk ys (i+1):=by
 rw[zL5 h,zBC,zBC,zBB]
 have:pw i * c+pw i * lb xs i+pw i * lb ys i=4294967296 * pw i * c'+pw i * y:=by
  rw[<- rBA,<- rBA,rBN 4294967296,rBQ,<- rBA]
  congr 1
  omega
 omega
theorem zDT{O:List Int}{y:Nat}(h:okN O)(hy:y<4294967296):okN (O++[(y:Int)]):=okN_append.2 ⟨h,fun x hx=>by rw[rBL.1 hx]; omega⟩
theorem uCN:FO 205 Tryz.f205 [.tmp 4] 44:=mkO Tryz.func205 Tryz.ntmps205 Tryz.results205
theorem vZO(xs ys:List Int)(hx:okN xs)(hy:okN ys)(hl:xs.length<2147483647)(hl2:ys.length<2147483647):Fn 205 [vBK xs,vBK ys] (.data (vBK (vBG (nv xs+nv ys)))):=by
 refine zAM vBC hT uCN zsm ?_;refine sts ?_
 refine zAO hT (fun((i,O,c):Nat×List Int×Nat)=>[(0,vBK xs),(1,vBK ys),uNG 5 O,(6,.int .u64 c),(7,.int .i64 i)]) (fun(_,O,_)=>vFM O) [] 1
  (fun(i,O,c)=>O.length=i/\i<=2147483646/\okN O/\c<2/\nv O+pw i * c=nk xs i+nk ys i) (fun(i,_,_)=>2147483648 - i) (0,[],0) ⟨rfl,zom,zEC,zom,by rw[zB4,zB4]; rfl⟩ zdd zsm ?_ ?_
 .exact⟨[],[],[],[],ttt,⟨rAJ,rAJ,vIP rfl,rAI,rAI,rGW⟩,rGW,by simp[vFM]⟩
 intro⟨i,O,c⟩ ⟨i1,i2,i3,i4,i5⟩;have cl1:=zG5 xs (i:Int) hx zom zom;have cl2:=zG5 ys (i:Int) hy zom zom;rw[show((i:Int)).toNat=i from rfl]at cl1 cl2;have b1:=zC2 hx i;have b2:=zC2 hy i;rcases O with _ | ⟨o,O⟩
 ·(repeat' (first|refine stp ?_|with_reducible(refine brr ?_ ?_<;>intro h)));all_goals try(conv=>whnf)
  .refine zAA cl1 rfl ?_
   refine sts ?_;refine zAA cl2 rfl ?_;refine sts ?_;obtain⟨c',y,e1,e2⟩:∃ c' y,c+(lb xs i+lb ys i)=c' * 4294967296+y/\y<4294967296:=⟨(c+(lb xs i+lb ys i)) / 4294967296,(c+(lb xs i+lb ys i)) % 4294967296,zom,zom⟩;have hst:=zNW i1 i5 e1;refine zCY ?_;rw[show((c:Int)+((lb xs i:Int)+(lb ys i:Int))) % 4294967296=(y:Int) by omega];refine sts ?_
   exact⟨(i+1,[]++[(y:Int)],c'),⟨⟨by simp at i1 ⊢<;>omega,zom,zDT i3 e2,zom,hst⟩,by show 2147483648 - (i+1)<2147483648 - i; omega⟩,[_],[],[],[],ttt,
    ⟨rAJ,rAJ,zA5 zdd rfl rfl,zAC rfl (by rw[zDN]; omega),zAC rfl zom,rGW⟩,⟨zAG zdd rfl rfl (zAR fun _=>⟨rfl,zsm⟩) rfl,rGW⟩,by simp[vFM]⟩
  .refine zAA cl1 rfl ?_
   refine sts ?_;refine zAA cl2 rfl ?_;refine sts ?_;obtain⟨c',y,e1,e2⟩:∃ c' y,c+(lb xs i+lb ys i)=c' * 4294967296+y/\y<4294967296:=⟨(c+(lb xs i+lb ys i)) / 4294967296,(c+(lb xs i+lb ys i)) % 4294967296,zom,zom⟩;have hst:=zNW i1 i5 e1;refine zCY ?_;rw[show((c:Int)+((lb xs i:Int)+(lb ys i:Int))) % 4294967296=(y:Int) by omega];refine sts ?_
   exact⟨(i+1,[]++[(y:Int)],c'),⟨⟨by simp at i1 ⊢<;>omega,zom,zDT i3 e2,zom,hst⟩,by show 2147483648 - (i+1)<2147483648 - i; omega⟩,[_],[],[],[],ttt,
    ⟨rAJ,rAJ,zA5 zdd rfl rfl,zAC rfl (by rw[zDN]; omega),zAC rfl zom,rGW⟩,⟨zAG zdd rfl rfl (zAR fun _=>⟨rfl,zsm⟩) rfl,rGW⟩,by simp[vFM]⟩
  .have hv:nv ([]++[(c:Int)])=nv xs+nv ys:=by rw[zL5 i1,i5,zB0 zom,zB0 zom]
   have cm:=zC8 ([]++[(c:Int)]) (zDT i3 zom) (by simp at i1 ⊢<;>omega);rw[hv]at cm;refine zAA cm (zAD (zAI rfl rfl zsm (fun x=>zB8 x)) rfl) ?_;refine sts ?_;exact rGX
 ·(repeat' (first|refine stp ?_|with_reducible(refine brr ?_ ?_<;>intro h)));all_goals try(conv=>whnf)
  .refine zAA cl1 rfl ?_
   refine sts ?_;refine zAA cl2 rfl ?_;refine sts ?_;obtain⟨c',y,e1,e2⟩:∃ c' y,c+(lb xs i+lb ys i)=c' * 4294967296+y/\y<4294967296:=⟨(c+(lb xs i+lb ys i)) / 4294967296,(c+(lb xs i+lb ys i)) % 4294967296,zom,zom⟩;have hst:=zNW i1 i5 e1;refine zCY ?_;rw[show((c:Int)+((lb xs i:Int)+(lb ys i:Int))) % 4294967296=(y:Int) by omega];refine sts ?_;refine zBJ ⟨rfl,zsm,by simp at i1 ⊢<;>omega⟩ ?_;refine sts ?_
   exact⟨(i+1,(o::O)++[(y:Int)],c'),⟨⟨by simp at i1 ⊢<;>omega,zom,zDT i3 e2,zom,hst⟩,by show 2147483648 - (i+1)<2147483648 - i; omega⟩,[_],[],[],[],ttt,
    ⟨rAJ,rAJ,zA5 zdd rfl zsm,zAC rfl (by rw[zDN]; omega),zAC rfl zom,rGW⟩,⟨zAG zdd rfl zsm (zAR fun _=>⟨rfl,zsm⟩) rfl,rGW⟩,by simp[vFM]⟩
  .refine zAA cl1 rfl ?_
   refine sts ?_;refine zAA cl2 rfl ?_;refine sts ?_;obtain⟨c',y,e1,e2⟩:∃ c' y,c+(lb xs i+lb ys i)=c' * 4294967296+y/\y<4294967296:=⟨(c+(lb xs i+lb ys i)) / 4294967296,(c+(lb xs i+lb ys i)) % 4294967296,zom,zom⟩;have hst:=zNW i1 i5 e1;refine zCY ?_;rw[show((c:Int)+((lb xs i:Int)+(lb ys i:Int))) % 4294967296=(y:Int) by omega];refine sts ?_;refine zBJ ⟨rfl,zsm,by simp at i1 ⊢<;>omega⟩ ?_;refine sts ?_
   exact⟨(i+1,(o::O)++[(y:Int)],c'),⟨⟨by simp at i1 ⊢<;>omega,zom,zDT i3 e2,zom,hst⟩,by show 2147483648 - (i+1)<2147483648 - i; omega⟩,[_],[],[],[],ttt,
    ⟨rAJ,rAJ,zA5 zdd rfl zsm,zAC rfl (by rw[zDN]; omega),zAC rfl zom,rGW⟩,⟨zAG zdd rfl zsm (zAR fun _=>⟨rfl,zsm⟩) rfl,rGW⟩,by simp[vFM]⟩
  .have hv:nv ((o::O)++[(c:Int)])=nv xs+nv ys:=by rw[zL5 i1,i5,zB0 zom,zB0 zom]
   have cm:=zC8 ((o::O)++[(c:Int)]) (zDT i3 zom) (by simp at i1 ⊢<;>omega);rw[hv]at cm;refine zBJ ⟨rfl,zsm,by simp at i1 ⊢<;>omega⟩ ?_;refine sts ?_;refine zAA cm (zAD (zAI rfl zsm zsm (fun x=>zB8 x)) rfl) ?_;refine sts ?_;exact rGX
theorem zNE{O xs ys:List Int}{i c c' y:Nat}(h:O.length=i)(i5:nv O+nk ys i=nk xs i+pw i * c)(e:lb xs i+c' * 4294967296=lb ys i+c+y) :
 nv (O++[(y:Int)])+nk ys (i+1)=nk xs (i+1)+pw (i+1) * c':=by
 rw[zL5 h,zBC,zBC,zBB]
 have:pw i * c+pw i * y+pw i * lb ys i=4294967296 * pw i * c'+pw i * lb xs i:=by
  rw[<- rBA,<- rBA,rBN 4294967296,rBQ,<- rBA]
  congr 1
  omega
 omega
theorem vOI{O xs ys:List Int}{i c:Nat}(h:O.length=i)(ho:okN O)(hc:c<2)(e:nv O+nk ys i=nk xs i+pw i * c)(hi:xs.length<=i)(hx:okN xs)(hle:nv ys<=nv xs):nv O=nv xs - nv ys:=by
 have h1:=zEV hx;have h2:=zFT hi;have h3:=zCS ys i;have h4:=zEV ho;rw[h]at h4;rw[zB0 hi]at e
 have h5:nt ys i=0:=by
  rcases rDG (nt ys i) with z | z
  .exact z
  .have:=rBM (pw i) z
   omega
 rw[h5]at h3;rcases(show c=0\/c=1 by omega) with rfl | rfl<;>omega
theorem uCI:FO 206 Tryz.f206 [.tmp 4,.tmp 5] 45:=mkO Tryz.func206 Tryz.ntmps206 Tryz.results206
theorem vNZ(xs ys:List Int)(hx:okN xs)(hy:okN ys)(hl:xs.length<2147483647)(hl2:ys.length<2147483647):Fn 206 [vBK xs,vBK ys] (.data (vTK (nv xs) (nv ys))):=by
 have cc:=vZN xs ys hx hy zom zom;have hcmp:=zOX (nv xs) (nv ys);refine zAM vBC hT uCI zsm ?_;refine sts ?_;refine zAA cc rfl ?_
 refine gob ?_ ?_<;>intro h
 .refine zAB rfl ?_
  unfold vTK;rw[rAV zom]
 refine zAO hT (fun((i,O,c):Nat×List Int×Nat)=>[(0,vBK xs),(1,vBK ys),uNG 6 O,(7,.int .u64 c),(8,.int .i64 i)]) (fun(_,O,_)=>vFM O) [] 1
  (fun(i,O,c)=>O.length=i/\i<=xs.length/\okN O/\c<2/\nv O+nk ys i=nk xs i+pw i * c) (fun(i,_,_)=>xs.length - i) (0,[],0) ⟨rfl,zom,zEC,zom,by rw[zB4,zB4]; rfl⟩ zdd zsm ?_ ?_
 .exact⟨[],[],[],[],ttt,⟨rAJ,rAJ,vIP rfl,rAI,rAI,rGW⟩,rGW,by simp[vFM]⟩
 intro⟨i,O,c⟩ ⟨i1,i2,i3,i4,i5⟩;have cl1:=zG5 xs (i:Int) hx zom zom;have cl2:=zG5 ys (i:Int) hy zom zom;rw[show((i:Int)).toNat=i from rfl]at cl1 cl2;have b1:=zC2 hx i;have b2:=zC2 hy i;rcases O with _ | ⟨o,O⟩
 .refine gob ?_ ?_<;>intro h
  .refine zAA cl1 rfl ?_
   refine sts ?_;refine zAA cl2 rfl ?_
   refine gob ?_ ?_<;>intro h
   .obtain⟨b',y,eb,e1,e2⟩:∃ b' y,b'=1/\lb xs i+b' * 4294967296=lb ys i+c+y/\y<4294967296:=⟨1,lb xs i+1 * 4294967296 - (lb ys i+c),rfl,zom,zom⟩
    have hst:=zNE i1 i5 e1
    exact⟨(i+1,[]++[(y:Int)],b'),⟨⟨by simp at i1 ⊢<;>omega,zom,zDT i3 e2,zom,hst⟩,by show xs.length - (i+1)<xs.length - i; omega⟩,[_],[],[],[],ttt,
     ⟨rAJ,rAJ,zA5 zdd rfl rfl,zAC rfl zom,zAC rfl zom,rGW⟩,⟨zAG zdd rfl rAE (zAR fun _=>⟨rfl,zsm⟩) rfl,rGW⟩,by simp[vFM]⟩
   .obtain⟨b',y,eb,e1,e2⟩:∃ b' y,b'=0/\lb xs i+b' * 4294967296=lb ys i+c+y/\y<4294967296:=⟨0,lb xs i+0 * 4294967296 - (lb ys i+c),rfl,zom,zom⟩
    have hst:=zNE i1 i5 e1
    exact⟨(i+1,[]++[(y:Int)],b'),⟨⟨by simp at i1 ⊢<;>omega,zom,zDT i3 e2,zom,hst⟩,by show xs.length - (i+1)<xs.length - i; omega⟩,[_],[],[],[],ttt,
     ⟨rAJ,rAJ,zA5 zdd rfl rfl,zAC rfl zom,zAC rfl zom,rGW⟩,⟨zAG zdd rfl rAE (zAR fun _=>⟨rfl,zsm⟩) rfl,rGW⟩,by simp[vFM]⟩
  .have hO:=vOI (O:=[]) i1 i3 i4 i5 zom hx zom
   have cm:=zC8 [] i3 (by simp at i1 ⊢<;>omega);rw[hO]at cm;refine zAA cm rfl ?_;refine sts ?_;refine zAB rfl ?_;unfold vTK;rw[rAN zom]
 .refine gob ?_ ?_<;>intro h
  .refine zAA cl1 rfl ?_
   refine sts ?_;refine zAA cl2 rfl ?_
   refine gob ?_ ?_<;>intro h
   .obtain⟨b',y,eb,e1,e2⟩:∃ b' y,b'=1/\lb xs i+b' * 4294967296=lb ys i+c+y/\y<4294967296:=⟨1,lb xs i+1 * 4294967296 - (lb ys i+c),rfl,zom,zom⟩
    have hst:=zNE i1 i5 e1;refine zBJ ⟨rfl,zsm,by simp at i1 ⊢<;>omega⟩ ?_;refine sts ?_
    exact⟨(i+1,(o::O)++[(y:Int)],b'),⟨⟨by simp at i1 ⊢<;>omega,zom,zDT i3 e2,zom,hst⟩,by show xs.length - (i+1)<xs.length - i; omega⟩,[_],[],[],[],ttt,
     ⟨rAJ,rAJ,zA5 zdd rfl zsm,zAC rfl zom,zAC rfl zom,rGW⟩,⟨zAG zdd rfl rAE (zAR fun _=>⟨rfl,zsm⟩) rfl,rGW⟩,by simp[vFM]⟩
   .obtain⟨b',y,eb,e1,e2⟩:∃ b' y,b'=0/\lb xs i+b' * 4294967296=lb ys i+c+y/\y<4294967296:=⟨0,lb xs i+0 * 4294967296 - (lb ys i+c),rfl,zom,zom⟩
    have hst:=zNE i1 i5 e1;refine zBJ ⟨rfl,zsm,by simp at i1 ⊢<;>omega⟩ ?_;refine sts ?_
    exact⟨(i+1,(o::O)++[(y:Int)],b'),⟨⟨by simp at i1 ⊢<;>omega,zom,zDT i3 e2,zom,hst⟩,by show xs.length - (i+1)<xs.length - i; omega⟩,[_],[],[],[],ttt,
     ⟨rAJ,rAJ,zA5 zdd rfl zsm,zAC rfl zom,zAC rfl zom,rGW⟩,⟨zAG zdd rfl rAE (zAR fun _=>⟨rfl,zsm⟩) rfl,rGW⟩,by simp[vFM]⟩
  .have hO:=vOI (O:=(o::O)) i1 i3 i4 i5 zom hx zom
   have cm:=zC8 (o::O) i3 (by simp at i1 ⊢<;>omega);rw[hO]at cm;refine zAA cm (zAD (zAI rfl rfl zsm (fun x=>zB8 x)) rfl) ?_;refine sts ?_;refine zAB rfl ?_;unfold vTK;rw[rAN zom]
theorem uCK:FO 187 Tryz.f187 [.tmp 4] 59:=mkO Tryz.func187 Tryz.ntmps187 Tryz.results187
theorem zO6(A B:List Int)(ha:okN A)(hb:okN B)(hl:A.length<1073741823)(hl2:B.length<1073741823):Fn 187 [vBK A,vBK B] (.data (vBK (vBG (nv A * nv B)))):=by
 refine zAM vBC hT uCK zsm ?_;refine sts ?_
 refine zAO hT (fun((i,O):Nat×List Int)=>[(0,vBK A),(1,vBK B),(5,.own 0 0 (A.length+B.length+1)),(6,.int .i64 i)]) (fun(_,O)=>[(0,⟨O.map (.int .u32),1,false⟩)]) [] 1
  (fun(i,O)=>i<=A.length/\O.length=A.length+B.length+1/\okN O/\nv O=nk A i * nv B/\∀ j,i+B.length<=j->lb O j=0) (fun(i,_)=>A.length - i) (0,List.replicate (A.length+B.length+1) 0) ⟨zsm,zsm,zDP _,by simp[zKD,zB4],fun j _=>zNM _ j⟩ zdd zsm ?_ ?_
 .exact⟨[_],[],[],[],ttt,⟨zAE rfl rfl,zAE rfl rfl,zA5 zdd rfl rAG,zAC rfl rfl,rGW⟩,⟨zAG zdd rfl (zOC (f:=PV.int .u32) (x:=0) rAG) (zAR fun _=>⟨rfl,zsm⟩) rfl,rGW⟩,rAA⟩
 intro⟨i,O⟩ ⟨hi,hO,hok,hv,hz⟩
 refine gob ?_ ?_<;>intro h
 .refine zAO hT (fun((k,P,c):Nat×List Int×Nat)=>[(0,vBK A),(1,vBK B),(5,.own 0 0 (A.length+B.length+1)),(6,.int .i64 i),(7,.int .u64 c),(8,.int .i64 k)]) (fun(_,P,_)=>[(0,⟨P.map (.int .u32),1,false⟩)]) [] 1
   (fun(k,P,c)=>k<=B.length+1/\P.length=A.length+B.length+1/\okN P/\c<4294967296/\nv P+c * pw (i+k)=nv O+pw i * (lb A i * nk B k)/\(∀ j,i+B.length+1<=j->lb P j=0)/\(k<=B.length->lb P (i+B.length)=0)/\(k=B.length+1->c=0)) (fun(k,_,_)=>B.length+1 - k) (0,O,0)
   ⟨zsm,hO,hok,zsm,by simp[zB4],fun j hj=>hz j zom,fun _=>hz _ zom,fun _=>rfl⟩ zdd zsm ?_ ?_
  .exact⟨[0],[],[],[],ttt,⟨rAJ,rAJ,zA5 zdd rfl rfl,rAI,rAI,rAI,rGW⟩,⟨zAG zdd rfl rfl (zAR fun _=>⟨rfl,zsm⟩) rfl,rGW⟩,rAA⟩
  intro⟨k,P,c⟩ ⟨hk,hP,hokP,hc,hvP,hzP,hzk,hck⟩;have cl:=zG5 B (k:Int) hb zom zom;rw[show((k:Int)).toNat=k from rfl]at cl;have ha1:0<=A[i]! /\ A[i]! < 4294967296:=zDC ha zom;have h1:=zBF (show i<A.length by omega) ha;have hBk:=zC2 hb k;have hpr:0<=A[i]! * (lb B k:Int)/\A[i]! * (lb B k:Int)<=18446744065119617025:=vVW ha1 zom;have hPk:k<=B.length->0<=P[i+k]! /\ P[i+k]! < 4294967296:=fun h=>zDC hokP zom
  refine gob ?_ ?_<;>intro h
  .refine zAA cl rfl ?_
   refine sts ?_;refine zBW (i+k) zom zom ?_;have hP1:=hPk zom;have h3:=zBF (show i+k<P.length by omega) hokP;obtain⟨s,hs⟩:∃ s,c+(lb A i * lb B k+lb P (i+k))=s:=⟨_,rfl⟩
   have hsI:(s:Int)=↑c+(A[i]! * (lb B k:Int)+P[i+k]!):=by
    rw[<- hs]; simp only[Int.natCast_add,Int.natCast_mul,h1,h3]
   refine sts ?_;refine zCY ?_;refine sts ?_;refine zBW (i+k) zom zom ?_;refine sts ?_
   refine⟨(k+1,P.set (i+k) ((s % 4294967296:Nat):Int),s / 4294967296),⟨⟨zom,by simp[hP],zB3 hokP _ zom,zom,?_,fun j hj=>by rw[zKO zom]; exact hzP j hj,fun hk2=>by rw[zKO zom]; exact hzk zom,fun hk2=>?_⟩,by show B.length+1 - (k+1)<B.length+1 - k; omega⟩,[0],[],[],[],ttt,
    ⟨rAJ,rAJ,zA5 zdd rfl rfl,rAI,zAC rfl (by rw[zDN,<- hsI]; omega),zAC rfl zom,rGW⟩,⟨zAG zdd rfl (zDB zom (by rw[<- hsI]; omega)) (zAR fun _=>⟨rfl,zsm⟩) rfl,rGW⟩,rAA⟩
   .have e1:=zMS (a:=P) (j:=i+k) ((s % 4294967296:Nat):Int) zom
    have e2:=zED (pw (i+k)) s;rw[Int.toNat_natCast]at e1;rw[zBC,show i+(k+1)=i+k+1 by omega,zBB];rw[<- hs]at e1 e2 ⊢;simp only[rBA,zP9]at e1 e2 hvP ⊢;simp only[rBN,rB1,rBQ]at e1 e2 hvP ⊢;omega
   .have hkB:k=B.length:=by omega
    subst hkB;rw[zHX (rAO _),hzk (rAO _),Nat.mul_zero]at hs;omega
  .have hk1:k=B.length+1:=by omega
   have hc0:=hck hk1;subst hc0
   exact⟨(i+1,P),⟨⟨zom,hP,hokP,by rw[hk1,zBC,zHX (rAO _),zB0 (a:=B) (rAO _)]at hvP; simp only[Nat.mul_zero,Nat.add_zero,rE9]at hvP; rw[zBC,rB6,<- hv,rBQ]; omega,fun j hj=>hzP j zom⟩,by show A.length - (i+1)<A.length - i; omega⟩,[0],[],[],[],ttt,
    ⟨rAJ,rAJ,zA5 zdd rfl rfl,zAC rfl zom,rGW⟩,⟨zAG zdd rfl rfl (zAR fun _=>⟨rfl,zsm⟩) rfl,rGW⟩,rAA⟩
 .have hi':i=A.length:=by omega
  rw[hi',zB0 (a:=A) (rAO _)]at hv;have ct:=zC8 O hok zom;rw[hv]at ct;refine zAA ct (zAD (zAI rfl rfl zom (fun x=>zB8 x)) rfl) ?_;refine sts ?_;exact rGX
theorem vWI:FO 207 Tryz.f207 [.tmp 2,.tmp 3] 28:=mkO Tryz.func207 Tryz.ntmps207 Tryz.results207
theorem vQO(xs:List Int)(hx:okN xs)(hl:xs.length<2147483647):Fn 207 [vBK xs] (.data (if nv xs<18446744073709551616 then .tup [.int .u64 (nv xs),.bool true] else .tup [.int .u64 0,.bool false])):=by
 have ct:=zC8 xs hx zom;have h2:=zAW hx;have ha:=zEM (nv xs);have hv:=zAS (nv xs);generalize nv xs=N at *
 have hnil:vBG N=[]->N=0:=zC7;generalize vBG N=A at *
 have p2:pw 2=18446744073709551616:=by rw[zBB,zBB,zDK]
 have p1:pw 1=4294967296:=by rw[zBB,zDK]
 have hlt:=zEV ha.1;refine zAM vBC hT vWI zsm ?_;refine sts ?_;refine zAA ct rfl ?_
 (repeat' (first|refine stp ?_|with_reducible(refine brr ?_ ?_<;>intro h)));all_goals try(conv=>whnf)
 .have:=hnil (rA2.1 zom)
  subst this;rw[rAV zom];exact rGX
 .have hl1:A.length=1:=by omega
  have g:=zBF (a:=A) (k:=0) zom ha.1;have b:=zC2 ha.1 0;have e:nv A=lb A 0:=by rw[<- zB0 (a:=A) (k:=1) zom,zBC,zB4,zDK]; omega
  have hA0:0<=A[0]! /\ A[0]! < 4294967296:=by omega
  rw[rAV zom];refine sts ?_;refine zAB rfl ?_;rw[<- g,<- e,hv]
 .have hl1:A.length=2:=by omega
  have g0:=zBF (a:=A) (k:=0) zom ha.1;have b0:=zC2 ha.1 0;have g1:=zBF (a:=A) (k:=1) zom ha.1;have b1:=zC2 ha.1 1;have e:nv A=lb A 0+4294967296 * lb A 1:=by rw[<- zB0 (a:=A) (k:=2) zom,zBC,zBC,zB4,zDK,p1]; omega
  have hA0:0<=A[0]! /\ A[0]! < 4294967296:=by omega
  have hA1:0<=A[1]! /\ A[1]! < 4294967296:=by omega
  have ee:vF3 .or .u64 A[0]! (A[1]! * vEM .u64 32)=(N:Int):=by rw[vHI hA1 hA0]; omega
  rw[rAV zom];refine sts ?_;refine zA7 (j:=1) rfl zom ?_;refine sts ?_;refine zFH ?_ ?_
  .rw[zG0]; omega
  refine sts ?_;refine zAB rfl ?_;rw[ee]
 .have hge:=zO0 ha (fun e=>by subst e; simp at *)
  have:=zFT (show 2<=A.length - 1 by omega);rw[rAN zom];refine sts ?_;exact rGX
theorem vWM:FO 208 Tryz.f208 [.tmp 2] 27:=mkO Tryz.func208 Tryz.ntmps208 Tryz.results208
theorem uEO(xs:List Int)(hx:okN xs)(hl:xs.length<2147483647):Fn 208 [vBK xs] (.data (.int .i64 (vF2 (nv xs)))):=by
 have h2:=zAW hx;have hok:=zAQ (nv xs);refine zAM vBC hT vWM zsm ?_;refine sts ?_;refine zAA (zC8 xs hx zom) rfl ?_
 refine gob ?_ ?_<;>intro h
 .refine zAB rfl ?_
  have:vBG (nv xs)=[]:=rA2.1 zom;have:=zC7 this;unfold vF2;rw[rAV this]
 .refine zA7 (j:=(vBG (nv xs)).length - 1) rAG zom ?_
  refine sts ?_;have hg:=zBF (show(vBG (nv xs)).length - 1<(vBG (nv xs)).length by omega) hok;have hlt:=zC2 hok ((vBG (nv xs)).length - 1)
  have hne:nv xs≠0:=fun e=>by
   have:(vBG (nv xs)).length=0:=by rw[e]; rfl
   omega
  have hbv:vF2 (nv xs)=32 * ((vBG (nv xs)).length - 1:Nat)+bl (lb (vBG (nv xs)) ((vBG (nv xs)).length - 1)):=by unfold vF2; rw[rAN hne]
  rw[hbv];generalize lb (vBG (nv xs)) ((vBG (nv xs)).length - 1)=T at *
  refine zA6 hT (fun((n,t):Nat×Nat)=>[(3,.int .i64 n),(4,.int .u32 t)]) (fun(n,t)=>t<4294967296/\n+bl t=32 * ((vBG (nv xs)).length - 1)+bl T) (fun(_,t)=>t) (32 * ((vBG (nv xs)).length - 1),T) ⟨hlt,rfl⟩ ?_ ?_
  .exact⟨zAC rfl rAG,zAC rfl hg.symm,rGW⟩
  intro⟨n,t⟩ ⟨i1,i2⟩;have hT32:=(zCP 32 T hlt zdd).2.2;have ht32:=(zCP 32 t i1 zdd).2.2
  refine gob ?_ ?_<;>intro h
  .have hh:=zGE (n:=t) zom zom
   have hf:(t:Int).fdiv (vEM .u32 1)=((t / 2:Nat):Int):=by rw[zKU (j:=1) rfl]; omega
   exact⟨(n+1,t / 2),⟨⟨zom,zom⟩,by show t / 2<t; omega⟩,zAC rfl zom,zAC rfl hf,rGW⟩
  .have h0:t=0:=by omega
   subst h0;rw[vIO]at i2;refine zAB rfl ?_
   congr 1
   omega
theorem uCJ:FO 209 Tryz.f209 [.tmp 4] 40:=mkO Tryz.func209 Tryz.ntmps209 Tryz.results209
theorem uKN(xs:List Int)(hx:okN xs)(hl:xs.length<2147483646):Fn 209 [vBK xs,.int .i64 1] (.data (vBK (vBG (2 * nv xs)))):=by
 refine zAM vBC hT uCJ zsm ?_;have eq:(1:Int).tdiv 32=0:=rfl;have em:(1:Int).tmod 32=1:=rfl;refine sts ?_
 refine zAO hT (fun((i,O,c):Nat×List Int×Nat)=>[(0,vBK xs),(1,.int .i64 1),(5,.own 0 0 i),(6,.int .u64 c),(7,.int .i64 i)]) (fun(_,O,_)=>[(0,⟨O.map (.int .u32),1,false⟩)]) [] 1
  (fun(i,O,c)=>O.length=i/\i<=xs.length/\okN O/\c<2/\nv O+pw i * c=2 * nk xs i) (fun(i,_,_)=>xs.length - i) (0,[],0) ⟨rfl,zom,zEC,zom,by rw[zB4]; rfl⟩ zdd zsm ?_ ?_
 .exact⟨[_],[],[],[],ttt,⟨zAE rfl rfl,zAC rfl rfl,zA5 zdd rfl rfl,zAC rfl rfl,zAC rfl rfl,rGW⟩,⟨zAG zdd rfl rfl zsm rfl,rGW⟩,rAA⟩
 intro⟨i,O,c⟩ ⟨i1,i2,i3,i4,i5⟩;have b1:=zC2 hx i;have hXi:i<xs.length->xs[i]! = (lb xs i:Int):=fun h=>(zBF h hx).symm
 refine gob ?_ ?_<;>intro h
 .have hx1:=hXi zom
  have e2:vEM .u64 1=2:=by rw[zN7 zdd]; rfl
  have eo:vF3 .or .u64 (c:Int) ((lb xs i:Int) * 2)=((2 * lb xs i+c:Nat):Int):=by
   have:=zMK (a:=lb xs i) (b:=c) (i:=1) zom zom;rw[show((2 ^ 1 * lb xs i:Nat):Int)=(lb xs i:Int) * 2 by omega]at this;rw[this]
  rw[hx1,em,e2];obtain⟨c',y,e1,e3⟩:∃ c' y,2 * lb xs i+c=c' * 4294967296+y/\y<4294967296:=⟨(2 * lb xs i+c) / 4294967296,(2 * lb xs i+c) % 4294967296,zom,zom⟩;refine zFH zom ?_;refine sts ?_;rw[eo];refine zCY ?_;refine sts ?_
  refine⟨(i+1,O++[(y:Int)],c'),⟨⟨by simp[i1],zom,zDT i3 e3,zom,?_⟩,by show xs.length - (i+1)<xs.length - i; omega⟩,[_],[],[],[],ttt,
   ⟨rAJ,rAI,zA5 zdd rfl zsm,zAC rfl (by rw[zDN]; omega),zAC rfl zom,rGW⟩,⟨zAG zdd rfl rAE (zAR fun _=>⟨rfl,zsm⟩) rfl,rGW⟩,rAA⟩
  rw[zL5 i1,zBC,zBB]
  have:pw i * c+pw i * (2 * lb xs i)=4294967296 * pw i * c'+pw i * y:=by
   rw[<- rBA,rBN 4294967296,rBQ,<- rBA]
   congr 1
   omega
  rw[rB1]at this;omega
 .have hi:i=xs.length:=by omega
  have hv:nv (O++[(c:Int)])=2 * nv xs:=by rw[zL5 i1,i5,zB0 zom]
  have cm:=zC8 (O++[(c:Int)]) (zDT i3 zom) rAE;rw[hv]at cm;refine zAA cm (zAD (zAI rfl zsm (by simp[i1]) (fun x=>zB8 x)) rfl) ?_;refine sts ?_;exact rGX
theorem uK2(N:Nat):∃ m:Nat,vF2 N=m/\N<2 ^ m/\m<=32 * (vBG N).length:=by
 unfold vF2;by_cases h:N=0
 .subst h; exact⟨0,rfl,zdd,zsm⟩
 .rw[rAN h]
  have hn:vBG N≠[]:=fun e=>h (zC7 e)
  have hl:0<(vBG N).length:=rDR.2 hn;have ho:=zAQ N;obtain⟨L,hL⟩:∃ L,(vBG N).length=L+1:=⟨(vBG N).length - 1,zom⟩;rw[hL];have hlt:=zC2 ho L;have hb:=zCP 32 _ hlt zdd;refine⟨32 * L+bl (lb (vBG N) L),zsm,?_,zom⟩;have e:N=nk (vBG N) L+pw L * lb (vBG N) L:=by rw[<- zBC,zB0 zom,zAS]
  have h1:=zPM ho L;rw[rDJ,<- vO9];have h2:=rBM (pw L) (show lb (vBG N) L+1<=2 ^ bl (lb (vBG N) L) by omega);rw[rBA]at h2;omega
theorem vMZ:FO 190 Tryz.f190 [.tmp 4,.tmp 5,.tmp 6] 89:=mkO Tryz.func190 Tryz.ntmps190 Tryz.results190
theorem zMJ(xs ys:List Int)(hx:okN xs)(hy:okN ys)(hl:xs.length<2147483636)(hl2:ys.length<2147483636):Fn 190 [vBK xs,vBK ys] (.data (.tup [vBK (vBG (nv xs / nv ys)),vBK (if nv ys=0 then [] else vBG (nv xs % nv ys)),.int .i64 (if nv ys=0 then 3 else 0)])):=by
 have cu1:=vQO xs hx zom;have cu2:=vQO ys hy zom;have cb:=uEO xs hx zom;obtain⟨m0,em,hm1,hm2⟩:=uK2 (nv xs);rw[em]at cb;have hm3:m0<=32 * xs.length:=by have:=zAW hx; omega
 refine zAM vBC hT vMZ zsm ?_;refine sts ?_;by_cases k1:nv xs<18446744073709551616<;>by_cases k2:nv ys<18446744073709551616
 all_goals first | rw[rAV k1]at cu1 | rw[rAN k1]at cu1
 all_goals first | rw[rAV k2]at cu2 | rw[rAN k2]at cu2
 all_goals (refine zAA cu1 rfl ?_; refine sts ?_)
 all_goals (refine zAA cu2 rfl ?_; (repeat' (first|refine stp ?_|with_reducible(refine brr ?_ ?_<;>intro h)));all_goals try(conv=>whnf))
 .have h0:nv ys=0:=by omega
  refine zAB rfl ?_;rw[h0,Nat.div_zero,rAV rfl,rAV rfl]; rfl
 .have h0:nv ys≠0:=by omega
  obtain⟨q,hq⟩:∃ q,q=nv xs / nv ys:=⟨_,rfl⟩;obtain⟨r,hr⟩:∃ r,r=nv xs % nv ys:=⟨_,rfl⟩;have e1:(nv xs:Int).tdiv (nv ys)=(q:Int):=by rw[hq]; exact(Int.ofNat_tdiv ..).symm
  have e2:(nv xs:Int).tmod (nv ys)=(r:Int):=by rw[hr]; exact(Int.ofNat_tmod ..).symm
  have b1:q<=nv xs:=hq ▸ rD2 ..;have b2:r<=nv xs:=hr ▸ Nat.mod_le ..;rw[e1];refine zFH zom ?_;refine sts ?_;refine zAA (vQQ _ zom) rfl ?_;refine sts ?_;rw[e2];refine zAA (vQQ _ zom) rfl ?_;refine sts ?_;refine zAB rfl ?_;rw[rAN h0,rAN h0,<- hq,<- hr]
 rotate_left
 .have h0:nv ys=0:=by omega
  refine zAB rfl ?_;rw[h0,Nat.div_zero,rAV rfl,rAV rfl]; rfl
 all_goals
  have hM:nv ys≠0:=by omega
  refine zAA cb rfl ?_;refine sts ?_
  refine zAO hT (fun((m,Q,q,R):Nat×List Int×Nat×Nat)=>[(0,vBK xs),(1,vBK ys),(11,.own 0 0 xs.length),(12,vBK (vBG R)),(13,.int .i64 ((m:Int) - 1))]) (fun(_,Q,_)=>[(0,⟨Q.map (.int .u32),1,false⟩)]) [] 1
   (fun(m,Q,q,R)=>m<=32 * xs.length/\Q.length=xs.length/\okN Q/\nv Q=2 ^ m * q/\nv xs / 2 ^ m=q * nv ys+R/\R<nv ys) (fun(m,_)=>m) (m0,List.replicate xs.length 0,0,0) ⟨hm3,zsm,zDP _,by rw[zKD]; rfl,by rw[rDU hm1]; simp,zom⟩ zdd zsm ?_ ?_
  .exact⟨[28],[29],[(12,vBK (vBG 0))],[],⟨⟨⟨_,rfl⟩,rGW⟩,⟨⟨4,[29],zAI (f:=PV.int .u32) (l:=[]) rfl rfl rfl (fun x=>zB8 x),rfl⟩,rGW⟩,rGW⟩,
    ⟨rAJ,rAJ,zA5 zdd rfl rAG,rAJ,rAI,rGW⟩,⟨zAG zdd rfl (zOC (f:=PV.int .u32) (x:=0) rAG) (zAR fun _=>⟨rfl,zsm⟩) rfl,rGW⟩,rAA⟩
  intro⟨m,Q,q,R⟩ ⟨i1,i2,i3,i4,i5,i6⟩;have hR:R<pw ys.length:=Nat.lt_trans i6 (zEV hy);have hRl:=zB6 hR
  refine gob ?_ ?_<;>intro h
  .have hm:1<=m:=by omega
   obtain⟨j,hj⟩:∃ j,j=(m - 1) / 32:=⟨_,rfl⟩;obtain⟨s,hs⟩:∃ s,s=(m - 1) % 32:=⟨_,rfl⟩;have e3:((m:Int) - 1).tdiv 32=(j:Int):=by rw[rE6 zom]; omega
   have e4:((m:Int) - 1).tmod 32=(s:Int):=by rw[rE5 zom]; omega
   have c1:=uKN (vBG R) (zAQ R) zom;rw[zAS]at c1;refine zAA c1 rfl ?_;refine sts ?_;have b:=zC2 hx j;have hj2:j<xs.length:=by omega
   have hg:=zBF hj2 hx;refine zA7 (j:=j) (by rw[e3]) zom ?_;obtain⟨bit,hbit⟩:∃ bit,bit=nv xs / 2 ^ (m - 1) % 2:=⟨_,rfl⟩;have hb2:bit<2:=by omega
   have hs2:s<32:=by omega
   have eb:vF3 .and .u32 ((xs[j]!).fdiv (vEM .u32 (((m:Int) - 1).tmod 32))) 1=(bit:Int):=by
    rw[e4,<- hg,vOO zom,show((2:Int) ^ ((s:Int).toNat))=((2 ^ s:Nat):Int) by simp,rD6 _ (Int.natCast_nonneg _),<- Int.natCast_ediv,vZ9 (rFA (rD2 ..) b),hbit,uOC hx,<- hj,<- hs]
   have hp1:pw (ys.length+1)=4294967296 * pw ys.length:=zBB _;have hl1:(vBG (2 * R)).length<=ys.length+1:=zB6 zom;have ca:=vZO (vBG (2 * R)) [(bit:Int)] (zAQ _) (okN_cons.2 ⟨zom,zEC⟩) zom zsm;rw[zAS,show nv [(bit:Int)]=bit by simp[nv]]at ca;obtain⟨X,hX⟩:∃ X,X=2 * R+bit:=⟨_,rfl⟩;rw[<- hX]at ca;have hl3:(vBG X).length<=ys.length+1:=zB6 zom;have cc:=vZN (vBG X) ys (zAQ _) hy zom zom;have cs:=vNZ (vBG X) ys (zAQ _) hy zom zom;rw[zAS]at cc cs
   have h5:nv xs / 2 ^ (m - 1)=2 * (nv xs / 2 ^ m)+bit:=by
    have:2 ^ m=2 ^ (m - 1) * 2:=by rw[<- Nat.pow_succ]; congr 1; omega
    rw[this,<- rGV]; omega
   rw[i5,rBA,<- rBQ]at h5
   have h4:nv Q=2 ^ (m - 1) * (2 * q):=by
    have:2 ^ m=2 ^ (m - 1) * 2:=by rw[<- Nat.pow_succ]; congr 1; omega
    rw[i4,this,rBQ]
   refine sts ?_;refine zAA ca (zAD rfl (zAD (zAI rfl (by rw[eb]; rfl) rfl (fun x=>zB8 x)) rfl)) ?_;refine sts ?_;refine zAA cc rfl ?_
   refine gob ?_ ?_<;>intro h
   .have hge:nv ys<=X:=by have:=(zOX X (nv ys)); omega
    unfold vTK at cs;rw[rAN zom]at cs;refine zAA cs rfl ?_;refine sts ?_;obtain⟨c,hc⟩:=uDN (i:=m - 1) (q:=q) i3 (by rw[Nat.sub_add_cancel hm]; exact i4);rw[<- hj,<- hs]at hc;have bQ:=zC2 i3 j;have hgQ:=zBF (show j<Q.length by omega) i3;have ho:=uJK (s:=s) (c:=c) hs2 zom;refine zBW j (by rw[e3]; simp) zom ?_;refine sts ?_;obtain⟨p,hp⟩:∃ p,p=2 ^ s:=⟨_,rfl⟩;rw[<- hp]at ho;have es:(1:Int) * vEM .u32 (((m:Int) - 1).tmod 32)=(p:Int):=by rw[e4,vOO zom,hp]; simp
    have eo:vF3 .or .u32 (Q[j]!) (p:Int)=((lb Q j+p:Nat):Int):=by rw[<- hgQ,hc]; exact ho.1
    rw[<- hc]at ho
    have hQ':nv (Q.set j ((lb Q j+p:Nat):Int))=2 ^ (m - 1) * (2 * q+1):=by
     have h6:=zMS (a:=Q) (j:=j) ((lb Q j+p:Nat):Int) zom;rw[Int.toNat_natCast,rBA]at h6;have h7:pw j * p=2 ^ (m - 1):=by rw[vO9,hp,<- rDJ]; congr 1; omega
     rw[h7]at h6;rw[rBA,rFH,<- h4];omega
    have hok':okN (Q.set j ((lb Q j+p:Nat):Int)):=zB3 i3 j ⟨zom,zom⟩;rw[es];refine vJY zom ?_;refine sts ?_;refine zBW j (by rw[e3]; simp) zom ?_;refine sts ?_
    exact⟨(m - 1,Q.set j ((lb Q j+p:Nat):Int),2 * q+1,X - nv ys),⟨⟨zom,by simp[i2],hok',hQ',by rw[rB6]; omega,zom⟩,by show m - 1<m; omega⟩,[_],[],[],[],ttt,
     ⟨rAJ,rAJ,zA5 zdd rfl rfl,rAJ,zAC rfl zom,rGW⟩,⟨zAG zdd rfl (zDB (by rw[e3]; simp) eo) (zAR fun _=>⟨rfl,zsm⟩) rfl,rGW⟩,rAA⟩
   .have hge:X<nv ys:=by have:=(zOX X (nv ys)); omega
    exact⟨(m - 1,Q,2 * q,X),⟨⟨zom,i2,i3,h4,zom,hge⟩,by show m - 1<m; omega⟩,[_],[],[],[],ttt,
     ⟨rAJ,rAJ,zA5 zdd rfl rfl,rAJ,zAC rfl zom,rGW⟩,⟨zAG zdd rfl rfl (zAR fun _=>⟨rfl,zsm⟩) rfl,rGW⟩,rAA⟩
  .have h0:m=0:=by omega
   subst h0;have cm:=zC8 Q i3 zom;rw[Nat.pow_zero,Nat.div_one]at i5;rw[Nat.pow_zero,rF9]at i4;refine zAA cm (zAD (zAI rfl rfl zom (fun x=>zB8 x)) rfl) ?_;refine sts ?_;refine zAB rfl ?_;have e1:nv xs / nv ys=nv Q:=by rw[i5,i4,rBN,Nat.mul_add_div zom,rDU i6]; rfl
   have e2:nv xs % nv ys=R:=by rw[i5,rBN,Nat.mul_add_mod,rCQ i6]
   rw[rAN hM,rAN hM,e1,e2]
theorem uCL:FO 189 Tryz.f189 [.tmp 4] 25:=mkO Tryz.func189 Tryz.ntmps189 Tryz.results189
theorem uKO(xs ys:List Int)(hx:okN xs)(hy:okN ys)(hl:xs.length<2147483636)(hl2:ys.length<2147483636):Fn 189 [vBK xs,vBK ys] (.data (vBK (vBG (Nat.gcd (nv xs) (nv ys))))):=by
 have ct1:=zC8 xs hx zom;have ct2:=zC8 ys hy zom;have h1:=zAW hx;have h2:=zAW hy;generalize nv xs=P0 at *
 generalize nv ys=Q0 at *
 obtain⟨g,eg⟩:∃ g,Nat.gcd P0 Q0=g:=⟨_,rfl⟩;rw[eg];refine zAM vBC hT uCL zsm ?_;refine sts ?_;refine zAA ct1 rfl ?_;refine sts ?_;refine zAA ct2 rfl ?_;refine sts ?_;refine zA6 hT (fun((P,Q):Nat×Nat)=>[(0,vBK (vBG P)),(1,vBK (vBG Q))]) (fun(P,Q)=>Nat.gcd P Q=g/\(vBG P).length<2147483636/\(vBG Q).length<2147483636) (fun(_,Q)=>Q) (P0,Q0) ⟨eg,zom,zom⟩ ?_ ?_
 .exact⟨rAJ,rAJ,rGW⟩
 intro⟨P,Q⟩ ⟨i1,i2,i3⟩;have cd:=zMJ (vBG P) (vBG Q) (zAQ P) (zAQ Q) i2 i3;rw[zAS,zAS]at cd
 refine gob ?_ ?_<;>intro h
 .have hQ:Q≠0:=fun e=>by subst e; rw[zDQ]at h; simp at h
  rw[rAN hQ,rAN hQ]at cd;refine zAA cd rfl ?_;refine sts ?_;have hm:=rDN P (show Q > 0 by omega);have hml:=zDZ (rEF hm);exact⟨(Q,P % Q),⟨⟨by rw[zNP]; exact i1,i3,zom⟩,hm⟩,rAJ,rAJ,rGW⟩
 .have hQ:Q=0:=zC7 (rA2.1 zom)
  subst hQ;rw[rFS]at i1;subst i1;exact rGX
end Go.PI.Tryz
