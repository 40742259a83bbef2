/-
  The reference's natural numbers: Gcd.
-/
import Derived.Test.YtbelmkceegmdjaaGreatDoorJNA
set_option linter.unusedVariables false
set_option linter.unusedSimpArgs false
set_option maxHeartbeats 0
namespace Go.PI.Tryz
open Go.Proofs Go.PI
theorem vWB:FO 123 Tryz.f123 [.tmp 2] 23:=mkO Tryz.func123 Tryz.ntmps123 Tryz.results123
theorem zC2(xs:List Int)(ho:okN xs)(hl:xs.length<2147483648):Fn 123 [vBK xs] (.data (vBK (vBH (nv xs)))):=by
 refine zAK vBC hT vWB zsm ?_;refine sts ?_;refine zA4 hT (fun n:Nat=>[(0,vBK xs),(3,.int .i64 n)]) (fun n=>n<=xs.length/\∀ j,n<=j->j<xs.length->xs[j]! = 0) (fun n=>n) xs.length ⟨rAR _,fun j h1 h2=>by omega⟩ ?_ ?_
 .exact⟨rAJ,zAC rfl zsm,rGU⟩
 .intro n ⟨hn,hz⟩
  refine gob ?_ ?_<;>intro h
  .refine zA6 (j:=n - 1) zom zom ?_
   refine gob ?_ ?_<;>intro h
   .refine⟨n - 1,⟨⟨zom,fun j h1 h2=>?_⟩,zom⟩,rAJ,zAC rfl zom,rGU⟩
    by_cases e:j=n - 1
    .subst e; assumption
    .exact hz j zom h2
   .refine zB1 (l':=xs.take n) zsm ?_
    refine sts ?_;refine zAB (zAH (f:=PV.int .u32) (l:=xs.take n) rfl rfl zsm (fun x=>zB9 x)) ?_;rw[zJE ho hn hz (rAY h)]
  .have h0:n=0:=by omega
   subst h0;refine zB1 (l':=[]) zsm ?_;refine sts ?_;refine zAB (zAH (f:=PV.int .u32) (l:=[]) rfl rfl zsm (fun x=>zB9 x)) ?_;rw[<- zJE ho hn hz (rAW rfl)]; rfl
theorem vWC:FO 204 Tryz.f204 [.tmp 4] 13:=mkO Tryz.func204 Tryz.ntmps204 Tryz.results204
theorem zG3(xs:List Int)(i:Int)(ho:okN xs)(hi:0<=i)(hl:xs.length<2147483648):Fn 204 [vBK xs,.int .i64 i] (.data (.int .u32 (lb xs i.toNat))):=by
 obtain⟨j,rfl⟩:=Int.eq_ofNat_of_zero_le hi;refine zAK vBC hT vWC zsm ?_
 refine gob ?_ ?_<;>intro h
 .refine zAB rfl ?_
  rw[<- zBF zom ho]; rfl
 .refine zAB rfl ?_
  rw[show((j:Int)).toNat=j from rfl,zHS zom]; rfl
theorem uHY:FO 90 Tryz.f90 [.tmp 2] 10:=mkO Tryz.func90 Tryz.ntmps90 Tryz.results90
theorem vQJ(n:Nat)(hn:n<18446744073709551616):Fn 90 [.int .u64 n] (.data (vBK (vBH n))):=by
 refine zAK vBC hT uHY zsm ?_;refine sts ?_;refine zCU ?_;refine sts ?_;rw[zDJ];refine sts ?_;have hv:nv [(n:Int) % 4294967296,(n:Int) / 4294967296]=n:=by simp only[nv]; omega
 have cm:=zC2 [(n:Int) % 4294967296,(n:Int) / 4294967296] (by intro x hx; simp only[rA7,rCX,rE2]at hx; omega) zsm;rw[hv]at cm;refine zAA cm rfl ?_;refine sts ?_;exact rGV
theorem uB9:FO 210 Tryz.f210 [.tmp 4] 30:=mkO Tryz.func210 Tryz.ntmps210 Tryz.results210
theorem vZB(xs ys:List Int)(hx:okN xs)(hy:okN ys)(hl:xs.length<2147483648)(hl2:ys.length<2147483648):Fn 210 [vBK xs,vBK ys] (.data (.int .i64 (vEK (nv xs) (nv ys)))):=by
 refine zAK vBC hT uB9 zsm ?_;refine sts ?_;obtain⟨M,hM⟩:∃ M,max xs.length ys.length=M:=⟨_,rfl⟩;refine zA4 hT (fun n:Nat=>[(0,vBK xs),(1,vBK ys),(5,.int .i64 ((n:Int) - 1))]) (fun n=>n<=2147483648/\nt xs n=nt ys n) (fun n=>n) M ⟨zom,by rw[zET zom,zET zom]⟩ ?_ ?_
 .exact⟨rAJ,rAJ,zAC rfl (by simp only[rAM]; split<;>omega),rGU⟩
 intro n ⟨hn,hnt⟩;have hsa:=zC7 hx (n - 1);have hsb:=zC7 hy (n - 1)
 refine gob ?_ ?_<;>intro h
 .have cl1:=zG3 xs ((n:Int) - 1) hx zom hl
  have cl2:=zG3 ys ((n:Int) - 1) hy zom hl2;have hn1:((n:Int) - 1).toNat=n - 1:=by omega
  have h0:n - 1+1=n:=by omega
  rw[hn1]at cl1 cl2;rw[h0]at hsa hsb;refine zAA cl1 rfl ?_;refine sts ?_;refine zAA cl2 rfl ?_
  refine gob ?_ ?_<;>intro h
  .have:=zJ5 hx hy (i:=n - 1) (by rw[h0]; exact hnt) (rAY (by rw[h0]; exact hsa)) (rAY (by rw[h0]; exact hsb)) zom
   refine zAB rfl ?_;unfold vEK;rw[rAV zom]
  refine zAA cl1 rfl ?_;refine sts ?_;refine zAA cl2 rfl ?_
  refine gob ?_ ?_<;>intro h
  .have:=zJ5 hy hx (i:=n - 1) (by rw[h0]; exact hnt.symm) (rAY (by rw[h0]; exact hsb)) (rAY (by rw[h0]; exact hsa)) zom
   refine zAB rfl ?_;unfold vEK;rw[rAN zom,rAV zom]
  .exact⟨n - 1,⟨⟨zom,zom⟩,zom⟩,rAJ,rAJ,zAC rfl zom,rGU⟩
 .have h0:n=0:=by omega
  subst h0;rw[zHP,zHP]at hnt;refine zAB rfl ?_;unfold vEK;rw[rAN zom,rAN zom]
theorem vWA:FO 91 Tryz.f91 [.tmp 4] 26:=mkO Tryz.func91 Tryz.ntmps91 Tryz.results91
theorem vQI(xs ys:List Int)(hl:xs.length<2147483648)(hl2:ys.length<2147483648):Fn 91 [vBK xs,vBK ys] (.data (.bool (decide (xs=ys)))):=by
 refine zAK vBC hT vWA zsm ?_
 refine gob ?_ ?_<;>intro h
 .refine zAB rfl ?_
  rw[rBA (fun e=>by subst e; exact h rfl)]
 .have hlen:xs.length=ys.length:=by omega
  refine zA4 hT (fun n:Nat=>[(0,vBK xs),(1,vBK ys),(5,.int .i64 n)]) (fun n=>n<=xs.length/\∀ j,j<n->xs[j]! = ys[j]!) (fun n=>xs.length - n) 0 ⟨zom,fun j hj=>by omega⟩ ?_ ?_
  .exact⟨rAJ,rAJ,rAI,rGU⟩
  intro n ⟨hn,he⟩
  (repeat' (first|refine stp ?_|with_reducible(refine brr ?_ ?_<;>intro h)));all_goals try(conv=>whnf)
  .refine zAB rfl ?_
   rw[rBA (fun e=>by subst e; exact h rfl)]
  .exact⟨n+1,⟨⟨zom,fun j hj=>by
    rcases rCQ j n with q | q
    .exact he j q
    .obtain rfl:j=n:=by omega
     exact h⟩,zom⟩,rAJ,rAJ,zAC rfl zom,rGU⟩
  .refine zAB rfl ?_
   rw[rB1];refine rDS hlen fun j h1 h2=>?_
   have:=he j zom;rw[rAT xs j h1,rAT ys j h2]at this;exact this
def uM2(j:Nat)(O:List Int):Nat×PV:=match O with
 | []=>(j,.nilsl)
 | _::_=>(j,.own 0 0 O.length)
def vFK(O:List Int):List (Nat×Blk):=match O with
 | []=>[]
 | x::l=>[(0,⟨(x::l).map (.int .u32),1,false⟩)]
theorem uMO(y:Nat):nv [(y:Int)]=y:=by simp[nv]
theorem zLL{O:List Int}{i y:Nat}(h:O.length=i):nv (O++[(y:Int)])=nv O+pw i * y:=by rw[zHN,h,uMO]
theorem zNF{O xs ys:List Int}{i c c' y:Nat}(h:O.length=i)(i5:nv O+pw i * c=nk xs i+nk ys i)(e:c+(lb xs i+lb ys i)=c' * 4294967296+y) :
 nv (O++[(y:Int)])+pw (i+1) * c'=nk xs (i+1)+nk ys (i+1):=by
 rw[zLL h,zBB,zBB,zBA]
 have:pw i * c+pw i * lb xs i+pw i * lb ys i=4294967296 * pw i * c'+pw i * y:=by
  rw[<- rA9,<- rA9,rBL 4294967296,rBP,<- rA9]
  congr 1
  omega
 omega
theorem zDR{O:List Int}{y:Nat}(h:okN O)(hy:y<4294967296):okN (O++[(y:Int)]):=okN_append.2 ⟨h,fun x hx=>by rw[rBM.1 hx]; omega⟩
theorem uCA:FO 205 Tryz.f205 [.tmp 4] 44:=mkO Tryz.func205 Tryz.ntmps205 Tryz.results205
theorem vZC(xs ys:List Int)(hx:okN xs)(hy:okN ys)(hl:xs.length<2147483647)(hl2:ys.length<2147483647):Fn 205 [vBK xs,vBK ys] (.data (vBK (vBH (nv xs+nv ys)))):=by
 refine zAK vBC hT uCA zsm ?_;refine sts ?_
 refine zAM hT (fun((i,O,c):Nat×List Int×Nat)=>[(0,vBK xs),(1,vBK ys),uM2 5 O,(6,.int .u64 c),(7,.int .i64 i)]) (fun(_,O,_)=>vFK O) [] 1
  (fun(i,O,c)=>O.length=i/\i<=2147483646/\okN O/\c<2/\nv O+pw i * c=nk xs i+nk ys i) (fun(i,_,_)=>2147483648 - i) (0,[],0) ⟨rfl,zom,zD9,zom,by rw[zB3,zB3]; rfl⟩ zdd zsm ?_ ?_
 .exact⟨[],[],[],[],ttt,⟨rAJ,rAJ,vIH rfl,rAI,rAI,rGU⟩,rGU,by simp[vFK]⟩
 intro⟨i,O,c⟩ ⟨i1,i2,i3,i4,i5⟩;have cl1:=zG3 xs (i:Int) hx zom zom;have cl2:=zG3 ys (i:Int) hy zom zom;rw[show((i:Int)).toNat=i from rfl]at cl1 cl2;have b1:=zCW hx i;have b2:=zCW hy i;rcases O with _ | ⟨o,O⟩
 ·(repeat' (first|refine stp ?_|with_reducible(refine brr ?_ ?_<;>intro h)));all_goals try(conv=>whnf)
  .refine zAA cl1 rfl ?_
   refine sts ?_;refine zAA cl2 rfl ?_;refine sts ?_;obtain⟨c',y,e1,e2⟩:∃ c' y,c+(lb xs i+lb ys i)=c' * 4294967296+y/\y<4294967296:=⟨(c+(lb xs i+lb ys i)) / 4294967296,(c+(lb xs i+lb ys i)) % 4294967296,zom,zom⟩;have hst:=zNF i1 i5 e1;refine zCU ?_;rw[show((c:Int)+((lb xs i:Int)+(lb ys i:Int))) % 4294967296=(y:Int) by omega];refine sts ?_
   exact⟨(i+1,[]++[(y:Int)],c'),⟨⟨by simp at i1 ⊢<;>omega,zom,zDR i3 e2,zom,hst⟩,by show 2147483648 - (i+1)<2147483648 - i; omega⟩,[_],[],[],[],ttt,
    ⟨rAJ,rAJ,zA3 zdd rfl rfl,zAC rfl (by rw[zDJ]; omega),zAC rfl zom,rGU⟩,⟨zAF zdd rfl rfl (zAP fun _=>⟨rfl,zsm⟩) rfl,rGU⟩,by simp[vFK]⟩
  .refine zAA cl1 rfl ?_
   refine sts ?_;refine zAA cl2 rfl ?_;refine sts ?_;obtain⟨c',y,e1,e2⟩:∃ c' y,c+(lb xs i+lb ys i)=c' * 4294967296+y/\y<4294967296:=⟨(c+(lb xs i+lb ys i)) / 4294967296,(c+(lb xs i+lb ys i)) % 4294967296,zom,zom⟩;have hst:=zNF i1 i5 e1;refine zCU ?_;rw[show((c:Int)+((lb xs i:Int)+(lb ys i:Int))) % 4294967296=(y:Int) by omega];refine sts ?_
   exact⟨(i+1,[]++[(y:Int)],c'),⟨⟨by simp at i1 ⊢<;>omega,zom,zDR i3 e2,zom,hst⟩,by show 2147483648 - (i+1)<2147483648 - i; omega⟩,[_],[],[],[],ttt,
    ⟨rAJ,rAJ,zA3 zdd rfl rfl,zAC rfl (by rw[zDJ]; omega),zAC rfl zom,rGU⟩,⟨zAF zdd rfl rfl (zAP fun _=>⟨rfl,zsm⟩) rfl,rGU⟩,by simp[vFK]⟩
  .have hv:nv ([]++[(c:Int)])=nv xs+nv ys:=by rw[zLL i1,i5,zBZ zom,zBZ zom]
   have cm:=zC2 ([]++[(c:Int)]) (zDR i3 zom) (by simp at i1 ⊢<;>omega);rw[hv]at cm;refine zAA cm (zAD (zAH rfl rfl zsm (fun x=>zB9 x)) rfl) ?_;refine sts ?_;exact rGV
 ·(repeat' (first|refine stp ?_|with_reducible(refine brr ?_ ?_<;>intro h)));all_goals try(conv=>whnf)
  .refine zAA cl1 rfl ?_
   refine sts ?_;refine zAA cl2 rfl ?_;refine sts ?_;obtain⟨c',y,e1,e2⟩:∃ c' y,c+(lb xs i+lb ys i)=c' * 4294967296+y/\y<4294967296:=⟨(c+(lb xs i+lb ys i)) / 4294967296,(c+(lb xs i+lb ys i)) % 4294967296,zom,zom⟩;have hst:=zNF i1 i5 e1;refine zCU ?_;rw[show((c:Int)+((lb xs i:Int)+(lb ys i:Int))) % 4294967296=(y:Int) by omega];refine sts ?_;refine zBH ⟨rfl,zsm,by simp at i1 ⊢<;>omega⟩ ?_;refine sts ?_
   exact⟨(i+1,(o::O)++[(y:Int)],c'),⟨⟨by simp at i1 ⊢<;>omega,zom,zDR i3 e2,zom,hst⟩,by show 2147483648 - (i+1)<2147483648 - i; omega⟩,[_],[],[],[],ttt,
    ⟨rAJ,rAJ,zA3 zdd rfl zsm,zAC rfl (by rw[zDJ]; omega),zAC rfl zom,rGU⟩,⟨zAF zdd rfl zsm (zAP fun _=>⟨rfl,zsm⟩) rfl,rGU⟩,by simp[vFK]⟩
  .refine zAA cl1 rfl ?_
   refine sts ?_;refine zAA cl2 rfl ?_;refine sts ?_;obtain⟨c',y,e1,e2⟩:∃ c' y,c+(lb xs i+lb ys i)=c' * 4294967296+y/\y<4294967296:=⟨(c+(lb xs i+lb ys i)) / 4294967296,(c+(lb xs i+lb ys i)) % 4294967296,zom,zom⟩;have hst:=zNF i1 i5 e1;refine zCU ?_;rw[show((c:Int)+((lb xs i:Int)+(lb ys i:Int))) % 4294967296=(y:Int) by omega];refine sts ?_;refine zBH ⟨rfl,zsm,by simp at i1 ⊢<;>omega⟩ ?_;refine sts ?_
   exact⟨(i+1,(o::O)++[(y:Int)],c'),⟨⟨by simp at i1 ⊢<;>omega,zom,zDR i3 e2,zom,hst⟩,by show 2147483648 - (i+1)<2147483648 - i; omega⟩,[_],[],[],[],ttt,
    ⟨rAJ,rAJ,zA3 zdd rfl zsm,zAC rfl (by rw[zDJ]; omega),zAC rfl zom,rGU⟩,⟨zAF zdd rfl zsm (zAP fun _=>⟨rfl,zsm⟩) rfl,rGU⟩,by simp[vFK]⟩
  .have hv:nv ((o::O)++[(c:Int)])=nv xs+nv ys:=by rw[zLL i1,i5,zBZ zom,zBZ zom]
   have cm:=zC2 ((o::O)++[(c:Int)]) (zDR i3 zom) (by simp at i1 ⊢<;>omega);rw[hv]at cm;refine zBH ⟨rfl,zsm,by simp at i1 ⊢<;>omega⟩ ?_;refine sts ?_;refine zAA cm (zAD (zAH rfl zsm zsm (fun x=>zB9 x)) rfl) ?_;refine sts ?_;exact rGV
theorem zMW{O xs ys:List Int}{i c c' y:Nat}(h:O.length=i)(i5:nv O+nk ys i=nk xs i+pw i * c)(e:lb xs i+c' * 4294967296=lb ys i+c+y) :
 nv (O++[(y:Int)])+nk ys (i+1)=nk xs (i+1)+pw (i+1) * c':=by
 rw[zLL h,zBB,zBB,zBA]
 have:pw i * c+pw i * y+pw i * lb ys i=4294967296 * pw i * c'+pw i * lb xs i:=by
  rw[<- rA9,<- rA9,rBL 4294967296,rBP,<- rA9]
  congr 1
  omega
 omega
theorem vOC{O xs ys:List Int}{i c:Nat}(h:O.length=i)(ho:okN O)(hc:c<2)(e:nv O+nk ys i=nk xs i+pw i * c)(hi:xs.length<=i)(hx:okN xs)(hle:nv ys<=nv xs):nv O=nv xs - nv ys:=by
 have h1:=zES hx;have h2:=zFM hi;have h3:=zCQ ys i;have h4:=zES ho;rw[h]at h4;rw[zBZ hi]at e
 have h5:nt ys i=0:=by
  rcases rDD (nt ys i) with z | z
  .exact z
  .have:=rBK (pw i) z
   omega
 rw[h5]at h3;rcases(show c=0\/c=1 by omega) with rfl | rfl<;>omega
theorem uB5:FO 206 Tryz.f206 [.tmp 4,.tmp 5] 45:=mkO Tryz.func206 Tryz.ntmps206 Tryz.results206
theorem vNU(xs ys:List Int)(hx:okN xs)(hy:okN ys)(hl:xs.length<2147483647)(hl2:ys.length<2147483647):Fn 206 [vBK xs,vBK ys] (.data (vTG (nv xs) (nv ys))):=by
 have cc:=vZB xs ys hx hy zom zom;have hcmp:=zOL (nv xs) (nv ys);refine zAK vBC hT uB5 zsm ?_;refine sts ?_;refine zAA cc rfl ?_
 refine gob ?_ ?_<;>intro h
 .refine zAB rfl ?_
  unfold vTG;rw[rAV zom]
 refine zAM hT (fun((i,O,c):Nat×List Int×Nat)=>[(0,vBK xs),(1,vBK ys),uM2 6 O,(7,.int .u64 c),(8,.int .i64 i)]) (fun(_,O,_)=>vFK O) [] 1
  (fun(i,O,c)=>O.length=i/\i<=xs.length/\okN O/\c<2/\nv O+nk ys i=nk xs i+pw i * c) (fun(i,_,_)=>xs.length - i) (0,[],0) ⟨rfl,zom,zD9,zom,by rw[zB3,zB3]; rfl⟩ zdd zsm ?_ ?_
 .exact⟨[],[],[],[],ttt,⟨rAJ,rAJ,vIH rfl,rAI,rAI,rGU⟩,rGU,by simp[vFK]⟩
 intro⟨i,O,c⟩ ⟨i1,i2,i3,i4,i5⟩;have cl1:=zG3 xs (i:Int) hx zom zom;have cl2:=zG3 ys (i:Int) hy zom zom;rw[show((i:Int)).toNat=i from rfl]at cl1 cl2;have b1:=zCW hx i;have b2:=zCW hy i;rcases O with _ | ⟨o,O⟩
 ·refine gob ?_ ?_<;>intro h
  .refine zAA cl1 rfl ?_
   refine sts ?_;refine zAA cl2 rfl ?_
   refine gob ?_ ?_<;>intro h
   .obtain⟨b',y,eb,e1,e2⟩:∃ b' y,b'=1/\lb xs i+b' * 4294967296=lb ys i+c+y/\y<4294967296:=⟨1,lb xs i+1 * 4294967296 - (lb ys i+c),rfl,zom,zom⟩
    have hst:=zMW i1 i5 e1
    exact⟨(i+1,[]++[(y:Int)],b'),⟨⟨by simp at i1 ⊢<;>omega,zom,zDR i3 e2,zom,hst⟩,by show xs.length - (i+1)<xs.length - i; omega⟩,[_],[],[],[],ttt,
     ⟨rAJ,rAJ,zA3 zdd rfl rfl,zAC rfl zom,zAC rfl zom,rGU⟩,⟨zAF zdd rfl rAE (zAP fun _=>⟨rfl,zsm⟩) rfl,rGU⟩,by simp[vFK]⟩
   .obtain⟨b',y,eb,e1,e2⟩:∃ b' y,b'=0/\lb xs i+b' * 4294967296=lb ys i+c+y/\y<4294967296:=⟨0,lb xs i+0 * 4294967296 - (lb ys i+c),rfl,zom,zom⟩
    have hst:=zMW i1 i5 e1
    exact⟨(i+1,[]++[(y:Int)],b'),⟨⟨by simp at i1 ⊢<;>omega,zom,zDR i3 e2,zom,hst⟩,by show xs.length - (i+1)<xs.length - i; omega⟩,[_],[],[],[],ttt,
     ⟨rAJ,rAJ,zA3 zdd rfl rfl,zAC rfl zom,zAC rfl zom,rGU⟩,⟨zAF zdd rfl rAE (zAP fun _=>⟨rfl,zsm⟩) rfl,rGU⟩,by simp[vFK]⟩
  .have hO:=vOC (O:=[]) i1 i3 i4 i5 zom hx zom
   have cm:=zC2 [] i3 (by simp at i1 ⊢<;>omega);rw[hO]at cm;refine zAA cm rfl ?_;refine sts ?_;refine zAB rfl ?_;unfold vTG;rw[rAN zom]
 ·refine gob ?_ ?_<;>intro h
  .refine zAA cl1 rfl ?_
   refine sts ?_;refine zAA cl2 rfl ?_
   refine gob ?_ ?_<;>intro h
   .obtain⟨b',y,eb,e1,e2⟩:∃ b' y,b'=1/\lb xs i+b' * 4294967296=lb ys i+c+y/\y<4294967296:=⟨1,lb xs i+1 * 4294967296 - (lb ys i+c),rfl,zom,zom⟩
    have hst:=zMW i1 i5 e1;refine zBH ⟨rfl,zsm,by simp at i1 ⊢<;>omega⟩ ?_;refine sts ?_
    exact⟨(i+1,(o::O)++[(y:Int)],b'),⟨⟨by simp at i1 ⊢<;>omega,zom,zDR i3 e2,zom,hst⟩,by show xs.length - (i+1)<xs.length - i; omega⟩,[_],[],[],[],ttt,
     ⟨rAJ,rAJ,zA3 zdd rfl zsm,zAC rfl zom,zAC rfl zom,rGU⟩,⟨zAF zdd rfl rAE (zAP fun _=>⟨rfl,zsm⟩) rfl,rGU⟩,by simp[vFK]⟩
   .obtain⟨b',y,eb,e1,e2⟩:∃ b' y,b'=0/\lb xs i+b' * 4294967296=lb ys i+c+y/\y<4294967296:=⟨0,lb xs i+0 * 4294967296 - (lb ys i+c),rfl,zom,zom⟩
    have hst:=zMW i1 i5 e1;refine zBH ⟨rfl,zsm,by simp at i1 ⊢<;>omega⟩ ?_;refine sts ?_
    exact⟨(i+1,(o::O)++[(y:Int)],b'),⟨⟨by simp at i1 ⊢<;>omega,zom,zDR i3 e2,zom,hst⟩,by show xs.length - (i+1)<xs.length - i; omega⟩,[_],[],[],[],ttt,
     ⟨rAJ,rAJ,zA3 zdd rfl zsm,zAC rfl zom,zAC rfl zom,rGU⟩,⟨zAF zdd rfl rAE (zAP fun _=>⟨rfl,zsm⟩) rfl,rGU⟩,by simp[vFK]⟩
  .have hO:=vOC (O:=(o::O)) i1 i3 i4 i5 zom hx zom
   have cm:=zC2 (o::O) i3 (by simp at i1 ⊢<;>omega);rw[hO]at cm;refine zAA cm (zAD (zAH rfl rfl zsm (fun x=>zB9 x)) rfl) ?_;refine sts ?_;refine zAB rfl ?_;unfold vTG;rw[rAN zom]
theorem uB7:FO 187 Tryz.f187 [.tmp 4] 59:=mkO Tryz.func187 Tryz.ntmps187 Tryz.results187
theorem zOU(A B:List Int)(ha:okN A)(hb:okN B)(hl:A.length<1073741823)(hl2:B.length<1073741823):Fn 187 [vBK A,vBK B] (.data (vBK (vBH (nv A * nv B)))):=by
 refine zAK vBC hT uB7 zsm ?_;refine sts ?_
 refine zAM hT (fun((i,O):Nat×List Int)=>[(0,vBK A),(1,vBK B),(5,.own 0 0 (A.length+B.length+1)),(6,.int .i64 i)]) (fun(_,O)=>[(0,⟨O.map (.int .u32),1,false⟩)]) [] 1
  (fun(i,O)=>i<=A.length/\O.length=A.length+B.length+1/\okN O/\nv O=nk A i * nv B/\∀ j,i+B.length<=j->lb O j=0) (fun(i,_)=>A.length - i) (0,List.replicate (A.length+B.length+1) 0) ⟨zsm,zsm,zDN _,by simp[zJ3,zB3],fun j _=>zM4 _ j⟩ zdd zsm ?_ ?_
 .exact⟨[_],[],[],[],ttt,⟨zAE rfl rfl,zAE rfl rfl,zA3 zdd rfl rAG,zAC rfl rfl,rGU⟩,⟨zAF zdd rfl (zNZ (f:=PV.int .u32) (x:=0) rAG) (zAP fun _=>⟨rfl,zsm⟩) rfl,rGU⟩,rAA⟩
 intro⟨i,O⟩ ⟨hi,hO,hok,hv,hz⟩
 refine gob ?_ ?_<;>intro h
 .refine zAM hT (fun((k,P,c):Nat×List Int×Nat)=>[(0,vBK A),(1,vBK B),(5,.own 0 0 (A.length+B.length+1)),(6,.int .i64 i),(7,.int .u64 c),(8,.int .i64 k)]) (fun(_,P,_)=>[(0,⟨P.map (.int .u32),1,false⟩)]) [] 1
   (fun(k,P,c)=>k<=B.length+1/\P.length=A.length+B.length+1/\okN P/\c<4294967296/\nv P+c * pw (i+k)=nv O+pw i * (lb A i * nk B k)/\(∀ j,i+B.length+1<=j->lb P j=0)/\(k<=B.length->lb P (i+B.length)=0)/\(k=B.length+1->c=0)) (fun(k,_,_)=>B.length+1 - k) (0,O,0)
   ⟨zsm,hO,hok,zsm,by simp[zB3],fun j hj=>hz j zom,fun _=>hz _ zom,fun _=>rfl⟩ zdd zsm ?_ ?_
  .exact⟨[0],[],[],[],ttt,⟨rAJ,rAJ,zA3 zdd rfl rfl,rAI,rAI,rAI,rGU⟩,⟨zAF zdd rfl rfl (zAP fun _=>⟨rfl,zsm⟩) rfl,rGU⟩,rAA⟩
  intro⟨k,P,c⟩ ⟨hk,hP,hokP,hc,hvP,hzP,hzk,hck⟩;have cl:=zG3 B (k:Int) hb zom zom;rw[show((k:Int)).toNat=k from rfl]at cl;have ha1:0<=A[i]! /\ A[i]! < 4294967296:=zC6 ha zom;have h1:=zBF (show i<A.length by omega) ha;have hBk:=zCW hb k;have hpr:0<=A[i]! * (lb B k:Int)/\A[i]! * (lb B k:Int)<=18446744065119617025:=vVO ha1 zom;have hPk:k<=B.length->0<=P[i+k]! /\ P[i+k]! < 4294967296:=fun h=>zC6 hokP zom
  refine gob ?_ ?_<;>intro h
  .refine zAA cl rfl ?_
   refine sts ?_;refine zBV (i+k) zom zom ?_;have hP1:=hPk zom;have h3:=zBF (show i+k<P.length by omega) hokP;obtain⟨s,hs⟩:∃ s,c+(lb A i * lb B k+lb P (i+k))=s:=⟨_,rfl⟩
   have hsI:(s:Int)=↑c+(A[i]! * (lb B k:Int)+P[i+k]!):=by
    rw[<- hs]; simp only[Int.natCast_add,Int.natCast_mul,h1,h3]
   refine sts ?_;refine zCU ?_;refine sts ?_;refine zBV (i+k) zom zom ?_;refine sts ?_
   refine⟨(k+1,P.set (i+k) ((s % 4294967296:Nat):Int),s / 4294967296),⟨⟨zom,by simp[hP],zB2 hokP _ zom,zom,?_,fun j hj=>by rw[zKD zom]; exact hzP j hj,fun hk2=>by rw[zKD zom]; exact hzk zom,fun hk2=>?_⟩,by show B.length+1 - (k+1)<B.length+1 - k; omega⟩,[0],[],[],[],ttt,
    ⟨rAJ,rAJ,zA3 zdd rfl rfl,rAI,zAC rfl (by rw[zDJ,<- hsI]; omega),zAC rfl zom,rGU⟩,⟨zAF zdd rfl (zC5 zom (by rw[<- hsI]; omega)) (zAP fun _=>⟨rfl,zsm⟩) rfl,rGU⟩,rAA⟩
   .have e1:=zMB (a:=P) (j:=i+k) ((s % 4294967296:Nat):Int) zom
    have e2:=zEA (pw (i+k)) s;rw[Int.toNat_natCast]at e1;rw[zBB,show i+(k+1)=i+k+1 by omega,zBA];rw[<- hs]at e1 e2 ⊢;simp only[rA9,zPU]at e1 e2 hvP ⊢;simp only[rBL,rB2,rBP]at e1 e2 hvP ⊢;omega
   .have hkB:k=B.length:=by omega
    subst hkB;rw[zHS (rAR _),hzk (rAR _),Nat.mul_zero]at hs;omega
  .have hk1:k=B.length+1:=by omega
   have hc0:=hck hk1;subst hc0
   exact⟨(i+1,P),⟨⟨zom,hP,hokP,by rw[hk1,zBB,zHS (rAR _),zBZ (a:=B) (rAR _)]at hvP; simp only[Nat.mul_zero,Nat.add_zero,rE4]at hvP; rw[zBB,rB6,<- hv,rBP]; omega,fun j hj=>hzP j zom⟩,by show A.length - (i+1)<A.length - i; omega⟩,[0],[],[],[],ttt,
    ⟨rAJ,rAJ,zA3 zdd rfl rfl,zAC rfl zom,rGU⟩,⟨zAF zdd rfl rfl (zAP fun _=>⟨rfl,zsm⟩) rfl,rGU⟩,rAA⟩
 .have hi':i=A.length:=by omega
  rw[hi',zBZ (a:=A) (rAR _)]at hv;have ct:=zC2 O hok zom;rw[hv]at ct;refine zAA ct (zAD (zAH rfl rfl zom (fun x=>zB9 x)) rfl) ?_;refine sts ?_;exact rGV
theorem vV9:FO 207 Tryz.f207 [.tmp 2,.tmp 3] 28:=mkO Tryz.func207 Tryz.ntmps207 Tryz.results207
theorem vQH(xs:List Int)(hx:okN xs)(hl:xs.length<2147483647):Fn 207 [vBK xs] (.data (if nv xs<18446744073709551616 then .tup [.int .u64 (nv xs),.bool true] else .tup [.int .u64 0,.bool false])):=by
 have ct:=zC2 xs hx zom;have h2:=zAV hx;have ha:=zEJ (nv xs);have hv:=zAQ (nv xs);generalize nv xs=N at *
 have hnil:vBH N=[]->N=0:=zC1;generalize vBH N=A at *
 have p2:pw 2=18446744073709551616:=by rw[zBA,zBA,zDG]
 have p1:pw 1=4294967296:=by rw[zBA,zDG]
 have hlt:=zES ha.1;refine zAK vBC hT vV9 zsm ?_;refine sts ?_;refine zAA ct rfl ?_
 (repeat' (first|refine stp ?_|with_reducible(refine brr ?_ ?_<;>intro h)));all_goals try(conv=>whnf)
 .have:=hnil (rA1.1 zom)
  subst this;rw[rAV zom];exact rGV
 .have hl1:A.length=1:=by omega
  have g:=zBF (a:=A) (k:=0) zom ha.1;have b:=zCW ha.1 0;have e:nv A=lb A 0:=by rw[<- zBZ (a:=A) (k:=1) zom,zBB,zB3,zDG]; omega
  have hA0:0<=A[0]! /\ A[0]! < 4294967296:=by omega
  rw[rAV zom];refine sts ?_;refine zAB rfl ?_;rw[<- g,<- e,hv]
 .have hl1:A.length=2:=by omega
  have g0:=zBF (a:=A) (k:=0) zom ha.1;have b0:=zCW ha.1 0;have g1:=zBF (a:=A) (k:=1) zom ha.1;have b1:=zCW ha.1 1;have e:nv A=lb A 0+4294967296 * lb A 1:=by rw[<- zBZ (a:=A) (k:=2) zom,zBB,zBB,zB3,zDG,p1]; omega
  have hA0:0<=A[0]! /\ A[0]! < 4294967296:=by omega
  have hA1:0<=A[1]! /\ A[1]! < 4294967296:=by omega
  have ee:vF3 .or .u64 A[0]! (A[1]! * vEM .u64 32)=(N:Int):=by rw[vHE hA1 hA0]; omega
  rw[rAV zom];refine sts ?_;refine zA6 (j:=1) rfl zom ?_;refine sts ?_;refine zFA ?_ ?_
  .rw[zGZ]; omega
  refine sts ?_;refine zAB rfl ?_;rw[ee]
 .have hge:=zOO ha (fun e=>by subst e; simp at *)
  have:=zFM (show 2<=A.length - 1 by omega);rw[rAN zom];refine sts ?_;exact rGV
theorem vWD:FO 208 Tryz.f208 [.tmp 2] 27:=mkO Tryz.func208 Tryz.ntmps208 Tryz.results208
theorem uD9(xs:List Int)(hx:okN xs)(hl:xs.length<2147483647):Fn 208 [vBK xs] (.data (.int .i64 (vF2 (nv xs)))):=by
 have h2:=zAV hx;have hok:=zAO (nv xs);refine zAK vBC hT vWD zsm ?_;refine sts ?_;refine zAA (zC2 xs hx zom) rfl ?_
 refine gob ?_ ?_<;>intro h
 .refine zAB rfl ?_
  have:vBH (nv xs)=[]:=rA1.1 zom;have:=zC1 this;unfold vF2;rw[rAV this]
 .refine zA6 (j:=(vBH (nv xs)).length - 1) rAG zom ?_
  refine sts ?_;have hg:=zBF (show(vBH (nv xs)).length - 1<(vBH (nv xs)).length by omega) hok;have hlt:=zCW hok ((vBH (nv xs)).length - 1)
  have hne:nv xs≠0:=fun e=>by
   have:(vBH (nv xs)).length=0:=by rw[e]; rfl
   omega
  have hbv:vF2 (nv xs)=32 * ((vBH (nv xs)).length - 1:Nat)+bl (lb (vBH (nv xs)) ((vBH (nv xs)).length - 1)):=by unfold vF2; rw[rAN hne]
  rw[hbv];generalize lb (vBH (nv xs)) ((vBH (nv xs)).length - 1)=T at *
  refine zA4 hT (fun((n,t):Nat×Nat)=>[(3,.int .i64 n),(4,.int .u32 t)]) (fun(n,t)=>t<4294967296/\n+bl t=32 * ((vBH (nv xs)).length - 1)+bl T) (fun(_,t)=>t) (32 * ((vBH (nv xs)).length - 1),T) ⟨hlt,rfl⟩ ?_ ?_
  .exact⟨zAC rfl rAG,zAC rfl hg.symm,rGU⟩
  intro⟨n,t⟩ ⟨i1,i2⟩;have hT32:=(zCN 32 T hlt zdd).2.2;have ht32:=(zCN 32 t i1 zdd).2.2
  refine gob ?_ ?_<;>intro h
  .have hh:=zF8 (n:=t) zom zom
   have hf:(t:Int).fdiv (vEM .u32 1)=((t / 2:Nat):Int):=by rw[zKJ (j:=1) rfl]; omega
   exact⟨(n+1,t / 2),⟨⟨zom,zom⟩,by show t / 2<t; omega⟩,zAC rfl zom,zAC rfl hf,rGU⟩
  .have h0:t=0:=by omega
   subst h0;rw[vIG]at i2;refine zAB rfl ?_
   congr 1
   omega
theorem uB6:FO 209 Tryz.f209 [.tmp 4] 40:=mkO Tryz.func209 Tryz.ntmps209 Tryz.results209
theorem uJ8(xs:List Int)(hx:okN xs)(hl:xs.length<2147483646):Fn 209 [vBK xs,.int .i64 1] (.data (vBK (vBH (2 * nv xs)))):=by
 refine zAK vBC hT uB6 zsm ?_;have eq:(1:Int).tdiv 32=0:=rfl;have em:(1:Int).tmod 32=1:=rfl;refine sts ?_
 refine zAM hT (fun((i,O,c):Nat×List Int×Nat)=>[(0,vBK xs),(1,.int .i64 1),(5,.own 0 0 i),(6,.int .u64 c),(7,.int .i64 i)]) (fun(_,O,_)=>[(0,⟨O.map (.int .u32),1,false⟩)]) [] 1
  (fun(i,O,c)=>O.length=i/\i<=xs.length/\okN O/\c<2/\nv O+pw i * c=2 * nk xs i) (fun(i,_,_)=>xs.length - i) (0,[],0) ⟨rfl,zom,zD9,zom,by rw[zB3]; rfl⟩ zdd zsm ?_ ?_
 .exact⟨[_],[],[],[],ttt,⟨zAE rfl rfl,zAC rfl rfl,zA3 zdd rfl rfl,zAC rfl rfl,zAC rfl rfl,rGU⟩,⟨zAF zdd rfl rfl zsm rfl,rGU⟩,rAA⟩
 intro⟨i,O,c⟩ ⟨i1,i2,i3,i4,i5⟩;have b1:=zCW hx i;have hXi:i<xs.length->xs[i]! = (lb xs i:Int):=fun h=>(zBF h hx).symm
 refine gob ?_ ?_<;>intro h
 .have hx1:=hXi zom
  have e2:vEM .u64 1=2:=by rw[zNV zdd]; rfl
  have eo:vF3 .or .u64 (c:Int) ((lb xs i:Int) * 2)=((2 * lb xs i+c:Nat):Int):=by
   have:=zL1 (a:=lb xs i) (b:=c) (i:=1) zom zom;rw[show((2 ^ 1 * lb xs i:Nat):Int)=(lb xs i:Int) * 2 by omega]at this;rw[this]
  rw[hx1,em,e2];obtain⟨c',y,e1,e3⟩:∃ c' y,2 * lb xs i+c=c' * 4294967296+y/\y<4294967296:=⟨(2 * lb xs i+c) / 4294967296,(2 * lb xs i+c) % 4294967296,zom,zom⟩;refine zFA zom ?_;refine sts ?_;rw[eo];refine zCU ?_;refine sts ?_
  refine⟨(i+1,O++[(y:Int)],c'),⟨⟨by simp[i1],zom,zDR i3 e3,zom,?_⟩,by show xs.length - (i+1)<xs.length - i; omega⟩,[_],[],[],[],ttt,
   ⟨rAJ,rAI,zA3 zdd rfl zsm,zAC rfl (by rw[zDJ]; omega),zAC rfl zom,rGU⟩,⟨zAF zdd rfl rAE (zAP fun _=>⟨rfl,zsm⟩) rfl,rGU⟩,rAA⟩
  rw[zLL i1,zBB,zBA]
  have:pw i * c+pw i * (2 * lb xs i)=4294967296 * pw i * c'+pw i * y:=by
   rw[<- rA9,rBL 4294967296,rBP,<- rA9]
   congr 1
   omega
  rw[rB2]at this;omega
 .have hi:i=xs.length:=by omega
  have hv:nv (O++[(c:Int)])=2 * nv xs:=by rw[zLL i1,i5,zBZ zom]
  have cm:=zC2 (O++[(c:Int)]) (zDR i3 zom) rAE;rw[hv]at cm;refine zAA cm (zAD (zAH rfl zsm (by simp[i1]) (fun x=>zB9 x)) rfl) ?_;refine sts ?_;exact rGV
theorem uKN(N:Nat):∃ m:Nat,vF2 N=m/\N<2 ^ m/\m<=32 * (vBH N).length:=by
 unfold vF2;by_cases h:N=0
 .subst h; exact⟨0,rfl,zdd,zsm⟩
 .rw[rAN h]
  have hn:vBH N≠[]:=fun e=>h (zC1 e)
  have hl:0<(vBH N).length:=rDO.2 hn;have ho:=zAO N;obtain⟨L,hL⟩:∃ L,(vBH N).length=L+1:=⟨(vBH N).length - 1,zom⟩;rw[hL];have hlt:=zCW ho L;have hb:=zCN 32 _ hlt zdd;refine⟨32 * L+bl (lb (vBH N) L),zsm,?_,zom⟩;have e:N=nk (vBH N) L+pw L * lb (vBH N) L:=by rw[<- zBB,zBZ zom,zAQ]
  have h1:=zPD ho L;rw[rDG,<- vO1];have h2:=rBK (pw L) (show lb (vBH N) L+1<=2 ^ bl (lb (vBH N) L) by omega);rw[rA9]at h2;omega
theorem vMV:FO 190 Tryz.f190 [.tmp 4,.tmp 5,.tmp 6] 89:=mkO Tryz.func190 Tryz.ntmps190 Tryz.results190
theorem zL0(xs ys:List Int)(hx:okN xs)(hy:okN ys)(hl:xs.length<2147483636)(hl2:ys.length<2147483636):Fn 190 [vBK xs,vBK ys] (.data (.tup [vBK (vBH (nv xs / nv ys)),vBK (if nv ys=0 then [] else vBH (nv xs % nv ys)),.int .i64 (if nv ys=0 then 3 else 0)])):=by
 have cu1:=vQH xs hx zom;have cu2:=vQH ys hy zom;have cb:=uD9 xs hx zom;obtain⟨m0,em,hm1,hm2⟩:=uKN (nv xs);rw[em]at cb;have hm3:m0<=32 * xs.length:=by have:=zAV hx; omega
 refine zAK vBC hT vMV zsm ?_;refine sts ?_;by_cases k1:nv xs<18446744073709551616<;>by_cases k2:nv ys<18446744073709551616
 all_goals first | rw[rAV k1]at cu1 | rw[rAN k1]at cu1
 all_goals first | rw[rAV k2]at cu2 | rw[rAN k2]at cu2
 all_goals (refine zAA cu1 rfl ?_; refine sts ?_)
 all_goals (refine zAA cu2 rfl ?_; (repeat' (first|refine stp ?_|with_reducible(refine brr ?_ ?_<;>intro h)));all_goals try(conv=>whnf))
 .have h0:nv ys=0:=by omega
  refine zAB rfl ?_;rw[h0,Nat.div_zero,rAV rfl,rAV rfl]; rfl
 .have h0:nv ys≠0:=by omega
  obtain⟨q,hq⟩:∃ q,q=nv xs / nv ys:=⟨_,rfl⟩;obtain⟨r,hr⟩:∃ r,r=nv xs % nv ys:=⟨_,rfl⟩;have e1:(nv xs:Int).tdiv (nv ys)=(q:Int):=by rw[hq]; exact(Int.ofNat_tdiv ..).symm
  have e2:(nv xs:Int).tmod (nv ys)=(r:Int):=by rw[hr]; exact(Int.ofNat_tmod ..).symm
  have b1:q<=nv xs:=hq ▸ rDY ..;have b2:r<=nv xs:=hr ▸ Nat.mod_le ..;rw[e1];refine zFA zom ?_;refine sts ?_;refine zAA (vQJ _ zom) rfl ?_;refine sts ?_;rw[e2];refine zAA (vQJ _ zom) rfl ?_;refine sts ?_;refine zAB rfl ?_;rw[rAN h0,rAN h0,<- hq,<- hr]
 rotate_left
 .have h0:nv ys=0:=by omega
  refine zAB rfl ?_;rw[h0,Nat.div_zero,rAV rfl,rAV rfl]; rfl
 all_goals
  have hM:nv ys≠0:=by omega
  refine zAA cb rfl ?_;refine sts ?_
  refine zAM hT (fun((m,Q,q,R):Nat×List Int×Nat×Nat)=>[(0,vBK xs),(1,vBK ys),(11,.own 0 0 xs.length),(12,vBK (vBH R)),(13,.int .i64 ((m:Int) - 1))]) (fun(_,Q,_)=>[(0,⟨Q.map (.int .u32),1,false⟩)]) [] 1
   (fun(m,Q,q,R)=>m<=32 * xs.length/\Q.length=xs.length/\okN Q/\nv Q=2 ^ m * q/\nv xs / 2 ^ m=q * nv ys+R/\R<nv ys) (fun(m,_)=>m) (m0,List.replicate xs.length 0,0,0) ⟨hm3,zsm,zDN _,by rw[zJ3]; rfl,by rw[rDR hm1]; simp,zom⟩ zdd zsm ?_ ?_
  .exact⟨[28],[29],[(12,vBK (vBH 0))],[],⟨⟨⟨_,rfl⟩,rGU⟩,⟨⟨4,[29],zAH (f:=PV.int .u32) (l:=[]) rfl rfl rfl (fun x=>zB9 x),rfl⟩,rGU⟩,rGU⟩,
    ⟨rAJ,rAJ,zA3 zdd rfl rAG,rAJ,rAI,rGU⟩,⟨zAF zdd rfl (zNZ (f:=PV.int .u32) (x:=0) rAG) (zAP fun _=>⟨rfl,zsm⟩) rfl,rGU⟩,rAA⟩
  intro⟨m,Q,q,R⟩ ⟨i1,i2,i3,i4,i5,i6⟩;have hR:R<pw ys.length:=Nat.lt_trans i6 (zES hy);have hRl:=zB6 hR
  refine gob ?_ ?_<;>intro h
  .have hm:1<=m:=by omega
   obtain⟨j,hj⟩:∃ j,j=(m - 1) / 32:=⟨_,rfl⟩;obtain⟨s,hs⟩:∃ s,s=(m - 1) % 32:=⟨_,rfl⟩;have e3:((m:Int) - 1).tdiv 32=(j:Int):=by rw[rE1 zom]; omega
   have e4:((m:Int) - 1).tmod 32=(s:Int):=by rw[rE0 zom]; omega
   have c1:=uJ8 (vBH R) (zAO R) zom;rw[zAQ]at c1;refine zAA c1 rfl ?_;refine sts ?_;have b:=zCW hx j;have hj2:j<xs.length:=by omega
   have hg:=zBF hj2 hx;refine zA6 (j:=j) (by rw[e3]) zom ?_;obtain⟨bit,hbit⟩:∃ bit,bit=nv xs / 2 ^ (m - 1) % 2:=⟨_,rfl⟩;have hb2:bit<2:=by omega
   have hs2:s<32:=by omega
   have eb:vF3 .and .u32 ((xs[j]!).fdiv (vEM .u32 (((m:Int) - 1).tmod 32))) 1=(bit:Int):=by
    rw[e4,<- hg,vOI zom,show((2:Int) ^ ((s:Int).toNat))=((2 ^ s:Nat):Int) by simp,rD1 _ (Int.natCast_nonneg _),<- Int.natCast_ediv,vZV (rE5 (rDY ..) b),hbit,uNZ hx,<- hj,<- hs]
   have hp1:pw (ys.length+1)=4294967296 * pw ys.length:=zBA _;have hl1:(vBH (2 * R)).length<=ys.length+1:=zB6 zom;have ca:=vZC (vBH (2 * R)) [(bit:Int)] (zAO _) (okN_cons.2 ⟨zom,zD9⟩) zom zsm;rw[zAQ,show nv [(bit:Int)]=bit by simp[nv]]at ca;obtain⟨X,hX⟩:∃ X,X=2 * R+bit:=⟨_,rfl⟩;rw[<- hX]at ca;have hl3:(vBH X).length<=ys.length+1:=zB6 zom;have cc:=vZB (vBH X) ys (zAO _) hy zom zom;have cs:=vNU (vBH X) ys (zAO _) hy zom zom;rw[zAQ]at cc cs
   have h5:nv xs / 2 ^ (m - 1)=2 * (nv xs / 2 ^ m)+bit:=by
    have:2 ^ m=2 ^ (m - 1) * 2:=by rw[<- Nat.pow_succ]; congr 1; omega
    rw[this,<- rGT]; omega
   rw[i5,rA9,<- rBP]at h5
   have h4:nv Q=2 ^ (m - 1) * (2 * q):=by
    have:2 ^ m=2 ^ (m - 1) * 2:=by rw[<- Nat.pow_succ]; congr 1; omega
    rw[i4,this,rBP]
   refine sts ?_;refine zAA ca (zAD rfl (zAD (zAH rfl (by rw[eb]; rfl) rfl (fun x=>zB9 x)) rfl)) ?_;refine sts ?_;refine zAA cc rfl ?_
   refine gob ?_ ?_<;>intro h
   .have hge:nv ys<=X:=by have:=(zOL X (nv ys)); omega
    unfold vTG at cs;rw[rAN zom]at cs;refine zAA cs rfl ?_;refine sts ?_;obtain⟨c,hc⟩:=uDA (i:=m - 1) (q:=q) i3 (by rw[Nat.sub_add_cancel hm]; exact i4);rw[<- hj,<- hs]at hc;have bQ:=zCW i3 j;have hgQ:=zBF (show j<Q.length by omega) i3;have ho:=uI3 (s:=s) (c:=c) hs2 zom;refine zBV j (by rw[e3]; simp) zom ?_;refine sts ?_;obtain⟨p,hp⟩:∃ p,p=2 ^ s:=⟨_,rfl⟩;rw[<- hp]at ho;have es:(1:Int) * vEM .u32 (((m:Int) - 1).tmod 32)=(p:Int):=by rw[e4,vOI zom,hp]; simp
    have eo:vF3 .or .u32 (Q[j]!) (p:Int)=((lb Q j+p:Nat):Int):=by rw[<- hgQ,hc]; exact ho.1
    rw[<- hc]at ho
    have hQ':nv (Q.set j ((lb Q j+p:Nat):Int))=2 ^ (m - 1) * (2 * q+1):=by
     have h6:=zMB (a:=Q) (j:=j) ((lb Q j+p:Nat):Int) zom;rw[Int.toNat_natCast,rA9]at h6;have h7:pw j * p=2 ^ (m - 1):=by rw[vO1,hp,<- rDG]; congr 1; omega
     rw[h7]at h6;rw[rA9,rFC,<- h4];omega
    have hok':okN (Q.set j ((lb Q j+p:Nat):Int)):=zB2 i3 j ⟨zom,zom⟩;rw[es];refine vJP zom ?_;refine sts ?_;refine zBV j (by rw[e3]; simp) zom ?_;refine sts ?_
    exact⟨(m - 1,Q.set j ((lb Q j+p:Nat):Int),2 * q+1,X - nv ys),⟨⟨zom,by simp[i2],hok',hQ',by rw[rB6]; omega,zom⟩,by show m - 1<m; omega⟩,[_],[],[],[],ttt,
     ⟨rAJ,rAJ,zA3 zdd rfl rfl,rAJ,zAC rfl zom,rGU⟩,⟨zAF zdd rfl (zC5 (by rw[e3]; simp) eo) (zAP fun _=>⟨rfl,zsm⟩) rfl,rGU⟩,rAA⟩
   .have hge:X<nv ys:=by have:=(zOL X (nv ys)); omega
    exact⟨(m - 1,Q,2 * q,X),⟨⟨zom,i2,i3,h4,zom,hge⟩,by show m - 1<m; omega⟩,[_],[],[],[],ttt,
     ⟨rAJ,rAJ,zA3 zdd rfl rfl,rAJ,zAC rfl zom,rGU⟩,⟨zAF zdd rfl rfl (zAP fun _=>⟨rfl,zsm⟩) rfl,rGU⟩,rAA⟩
  .have h0:m=0:=by omega
   subst h0;have cm:=zC2 Q i3 zom;rw[Nat.pow_zero,Nat.div_one]at i5;rw[Nat.pow_zero,rF6]at i4;refine zAA cm (zAD (zAH rfl rfl zom (fun x=>zB9 x)) rfl) ?_;refine sts ?_;refine zAB rfl ?_;have e1:nv xs / nv ys=nv Q:=by rw[i5,i4,rBL,Nat.mul_add_div zom,rDR i6]; rfl
   have e2:nv xs % nv ys=R:=by rw[i5,rBL,Nat.mul_add_mod,rCP i6]
   rw[rAN hM,rAN hM,e1,e2]
theorem uB8:FO 189 Tryz.f189 [.tmp 4] 25:=mkO Tryz.func189 Tryz.ntmps189 Tryz.results189
theorem uJ9(xs ys:List Int)(hx:okN xs)(hy:okN ys)(hl:xs.length<2147483636)(hl2:ys.length<2147483636):Fn 189 [vBK xs,vBK ys] (.data (vBK (vBH (Nat.gcd (nv xs) (nv ys))))):=by
 have ct1:=zC2 xs hx zom;have ct2:=zC2 ys hy zom;have h1:=zAV hx;have h2:=zAV hy;generalize nv xs=P0 at *
 generalize nv ys=Q0 at *
 obtain⟨g,eg⟩:∃ g,Nat.gcd P0 Q0=g:=⟨_,rfl⟩;rw[eg];refine zAK vBC hT uB8 zsm ?_;refine sts ?_;refine zAA ct1 rfl ?_;refine sts ?_;refine zAA ct2 rfl ?_;refine sts ?_;refine zA4 hT (fun((P,Q):Nat×Nat)=>[(0,vBK (vBH P)),(1,vBK (vBH Q))]) (fun(P,Q)=>Nat.gcd P Q=g/\(vBH P).length<2147483636/\(vBH Q).length<2147483636) (fun(_,Q)=>Q) (P0,Q0) ⟨eg,zom,zom⟩ ?_ ?_
 .exact⟨rAJ,rAJ,rGU⟩
 intro⟨P,Q⟩ ⟨i1,i2,i3⟩;have cd:=zL0 (vBH P) (vBH Q) (zAO P) (zAO Q) i2 i3;rw[zAQ,zAQ]at cd
 refine gob ?_ ?_<;>intro h
 .have hQ:Q≠0:=fun e=>by subst e; rw[zDO]at h; simp at h
  rw[rAN hQ,rAN hQ]at cd;refine zAA cd rfl ?_;refine sts ?_;have hm:=rDK P (show Q > 0 by omega);have hml:=zDW (rEA hm);exact⟨(Q,P % Q),⟨⟨by rw[zM7]; exact i1,i3,zom⟩,hm⟩,rAJ,rAJ,rGU⟩
 .have hQ:Q=0:=zC1 (rA1.1 zom)
  subst hQ;rw[rFO]at i1;subst i1;exact rGV
end Go.PI.Tryz
