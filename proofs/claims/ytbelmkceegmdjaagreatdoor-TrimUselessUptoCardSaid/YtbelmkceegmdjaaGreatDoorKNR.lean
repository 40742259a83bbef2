/-
  The reference's natural numbers: Gcd.
-/
import Derived.Test.YtbelmkceegmdjaaGreatDoorKNA
set_option linter.unusedVariables false
set_option linter.unusedSimpArgs false
set_option maxHeartbeats 0
namespace Go.PI.Tryz
open Go.Proofs Go.PI
theorem vWK:FO 123 Tryz.f123 [.tmp 2] 23:=mkO Tryz.func123 Tryz.ntmps123 Tryz.results123
theorem zC1(xs:List Int)(ho:okN xs)(hl:xs.length<2147483648):Fn 123 [vBK xs] (.data (vBK (vBG (nv xs)))):=by
 refine zAL vBC hT vWK zsm ?_;refine sts ?_;refine zA4 hT (fun n:Nat=>[(0,vBK xs),(3,.int .i64 n)]) (fun n=>n<=xs.length/\∀ j,n<=j->j<xs.length->xs[j]! = 0) (fun n=>n) xs.length ⟨rAR _,fun j h1 h2=>by omega⟩ ?_ ?_
 .exact⟨rAJ,zAC rfl zsm,rGU⟩
 .intro n ⟨hn,hz⟩
  refine gob ?_ ?_<;>intro h
  .refine zA5 (j:=n - 1) zom zom ?_
   refine gob ?_ ?_<;>intro h
   .refine⟨n - 1,⟨⟨zom,fun j h1 h2=>?_⟩,zom⟩,rAJ,zAC rfl zom,rGU⟩
    by_cases e:j=n - 1
    .subst e; assumption
    .exact hz j zom h2
   .refine zCE (l':=xs.take n) zsm ?_
    refine sts ?_;refine zAB (zAI (f:=PV.int .u32) (l:=xs.take n) rfl rfl zsm (fun x=>zB8 x)) ?_;rw[zJJ ho hn hz (rA0 h)]
  .have h0:n=0:=by omega
   subst h0;refine zCE (l':=[]) zsm ?_;refine sts ?_;refine zAB (zAI (f:=PV.int .u32) (l:=[]) rfl rfl zsm (fun x=>zB8 x)) ?_;rw[<- zJJ ho hn hz (rAW rfl)]; rfl
theorem vWL:FO 204 Tryz.f204 [.tmp 4] 13:=mkO Tryz.func204 Tryz.ntmps204 Tryz.results204
theorem zG5(xs:List Int)(i:Int)(ho:okN xs)(hi:0<=i)(hl:xs.length<2147483648):Fn 204 [vBK xs,.int .i64 i] (.data (.int .u32 (lb xs i.toNat))):=by
 obtain⟨j,rfl⟩:=Int.eq_ofNat_of_zero_le hi;refine zAL vBC hT vWL zsm ?_
 refine gob ?_ ?_<;>intro h
 .refine zAB rfl ?_
  rw[<- zBF zom ho]; rfl
 .refine zAB rfl ?_
  rw[show((j:Int)).toNat=j from rfl,zHW zom]; rfl
theorem uIJ:FO 90 Tryz.f90 [.tmp 2] 10:=mkO Tryz.func90 Tryz.ntmps90 Tryz.results90
theorem vQK(n:Nat)(hn:n<18446744073709551616):Fn 90 [.int .u64 n] (.data (vBK (vBG n))):=by
 refine zAL vBC hT uIJ zsm ?_;refine sts ?_;refine zCT ?_;refine sts ?_;rw[zDI];refine sts ?_;have hv:nv [(n:Int) % 4294967296,(n:Int) / 4294967296]=n:=by simp only[nv]; omega
 have cm:=zC1 [(n:Int) % 4294967296,(n:Int) / 4294967296] (by intro x hx; simp only[rBA,rCX,rE0]at hx; omega) zsm;rw[hv]at cm;refine zAA cm rfl ?_;refine sts ?_;exact rGV
theorem uCO:FO 210 Tryz.f210 [.tmp 4] 30:=mkO Tryz.func210 Tryz.ntmps210 Tryz.results210
theorem vZJ(xs ys:List Int)(hx:okN xs)(hy:okN ys)(hl:xs.length<2147483648)(hl2:ys.length<2147483648):Fn 210 [vBK xs,vBK ys] (.data (.int .i64 (vEK (nv xs) (nv ys)))):=by
 refine zAL vBC hT uCO zsm ?_;refine sts ?_;obtain⟨M,hM⟩:∃ M,max xs.length ys.length=M:=⟨_,rfl⟩;refine zA4 hT (fun n:Nat=>[(0,vBK xs),(1,vBK ys),(5,.int .i64 ((n:Int) - 1))]) (fun n=>n<=2147483648/\nt xs n=nt ys n) (fun n=>n) M ⟨zom,by rw[zET zom,zET zom]⟩ ?_ ?_
 .exact⟨rAJ,rAJ,zAC rfl (by simp only[rAN]; split<;>omega),rGU⟩
 intro n ⟨hn,hnt⟩;have hsa:=zC7 hx (n - 1);have hsb:=zC7 hy (n - 1)
 refine gob ?_ ?_<;>intro h
 .have cl1:=zG5 xs ((n:Int) - 1) hx zom hl
  have cl2:=zG5 ys ((n:Int) - 1) hy zom hl2;have hn1:((n:Int) - 1).toNat=n - 1:=by omega
  have h0:n - 1+1=n:=by omega
  rw[hn1]at cl1 cl2;rw[h0]at hsa hsb;refine zAA cl1 rfl ?_;refine sts ?_;refine zAA cl2 rfl ?_
  refine gob ?_ ?_<;>intro h
  .have:=zJ6 hx hy (i:=n - 1) (by rw[h0]; exact hnt) (rA0 (by rw[h0]; exact hsa)) (rA0 (by rw[h0]; exact hsb)) zom
   refine zAB rfl ?_;unfold vEK;rw[rAU zom]
  refine zAA cl1 rfl ?_;refine sts ?_;refine zAA cl2 rfl ?_
  refine gob ?_ ?_<;>intro h
  .have:=zJ6 hy hx (i:=n - 1) (by rw[h0]; exact hnt.symm) (rA0 (by rw[h0]; exact hsb)) (rA0 (by rw[h0]; exact hsa)) zom
   refine zAB rfl ?_;unfold vEK;rw[rAM zom,rAU zom]
  .exact⟨n - 1,⟨⟨zom,zom⟩,zom⟩,rAJ,rAJ,zAC rfl zom,rGU⟩
 .have h0:n=0:=by omega
  subst h0;rw[zHT,zHT]at hnt;refine zAB rfl ?_;unfold vEK;rw[rAM zom,rAM zom]
theorem vWJ:FO 91 Tryz.f91 [.tmp 4] 26:=mkO Tryz.func91 Tryz.ntmps91 Tryz.results91
theorem vQJ(xs ys:List Int)(hl:xs.length<2147483648)(hl2:ys.length<2147483648):Fn 91 [vBK xs,vBK ys] (.data (.bool (decide (xs=ys)))):=by
 refine zAL vBC hT vWJ zsm ?_
 refine gob ?_ ?_<;>intro h
 .refine zAB rfl ?_
  rw[rBD (fun e=>by subst e; exact h rfl)]
 .have hlen:xs.length=ys.length:=by omega
  refine zA4 hT (fun n:Nat=>[(0,vBK xs),(1,vBK ys),(5,.int .i64 n)]) (fun n=>n<=xs.length/\∀ j,j<n->xs[j]! = ys[j]!) (fun n=>xs.length - n) 0 ⟨zom,fun j hj=>by omega⟩ ?_ ?_
  .exact⟨rAJ,rAJ,rAI,rGU⟩
  intro n ⟨hn,he⟩
  (repeat' (first|refine stp ?_|with_reducible(refine brr ?_ ?_<;>intro h)));all_goals try(conv=>whnf)
  .refine zAB rfl ?_
   rw[rBD (fun e=>by subst e; exact h rfl)]
  .exact⟨n+1,⟨⟨zom,fun j hj=>by
    rcases rCP j n with q | q
    .exact he j q
    .obtain rfl:j=n:=by omega
     exact h⟩,zom⟩,rAJ,rAJ,zAC rfl zom,rGU⟩
  .refine zAB rfl ?_
   rw[rB4];refine rDS hlen fun j h1 h2=>?_
   have:=he j zom;rw[rAT xs j h1,rAT ys j h2]at this;exact this
def uNM(j:Nat)(O:List Int):Nat×PV:=match O with
 | []=>(j,.nilsl)
 | _::_=>(j,.own 0 0 O.length)
def vFG(O:List Int):List (Nat×Blk):=match O with
 | []=>[]
 | x::l=>[(0,⟨(x::l).map (.int .u32),1,false⟩)]
theorem uM6(y:Nat):nv [(y:Int)]=y:=by simp[nv]
theorem zLM{O:List Int}{i y:Nat}(h:O.length=i):nv (O++[(y:Int)])=nv O+pw i * y:=by rw[zHR,h,uM6]
theorem zNB{O xs ys:List Int}{i c c' y:Nat}(h:O.length=i)(i5:nv O+pw i * c=nk xs i+nk ys i)(e:c+(lb xs i+lb ys i)=c' * 4294967296+y) :
 nv (O++[(y:Int)])+pw (i+1) * c'=nk xs (i+1)+nk ys (i+1):=by
 rw[zLM h,zBA,zBA,zA9]
 have:pw i * c+pw i * lb xs i+pw i * lb ys i=4294967296 * pw i * c'+pw i * y:=by
  rw[<- rA9,<- rA9,rBN 4294967296,rBO,<- rA9]
  congr 1
  omega
 omega
theorem zDP{O:List Int}{y:Nat}(h:okN O)(hy:y<4294967296):okN (O++[(y:Int)]):=okN_append.2 ⟨h,fun x hx=>by rw[rBI.1 hx]; omega⟩
theorem uCP:FO 205 Tryz.f205 [.tmp 4] 44:=mkO Tryz.func205 Tryz.ntmps205 Tryz.results205
theorem vZK(xs ys:List Int)(hx:okN xs)(hy:okN ys)(hl:xs.length<2147483647)(hl2:ys.length<2147483647):Fn 205 [vBK xs,vBK ys] (.data (vBK (vBG (nv xs+nv ys)))):=by
 refine zAL vBC hT uCP zsm ?_;refine sts ?_
 refine zAN hT (fun((i,O,c):Nat×List Int×Nat)=>[(0,vBK xs),(1,vBK ys),uNM 5 O,(6,.int .u64 c),(7,.int .i64 i)]) (fun(_,O,_)=>vFG O) [] 1
  (fun(i,O,c)=>O.length=i/\i<=2147483646/\okN O/\c<2/\nv O+pw i * c=nk xs i+nk ys i) (fun(i,_,_)=>2147483648 - i) (0,[],0) ⟨rfl,zom,zD9,zom,by rw[zB2,zB2]; rfl⟩ zdd zsm ?_ ?_
 .exact⟨[],[],[],[],ttt,⟨rAJ,rAJ,vIG rfl,rAI,rAI,rGU⟩,rGU,by simp[vFG]⟩
 intro⟨i,O,c⟩ ⟨i1,i2,i3,i4,i5⟩;have cl1:=zG5 xs (i:Int) hx zom zom;have cl2:=zG5 ys (i:Int) hy zom zom;rw[show((i:Int)).toNat=i from rfl]at cl1 cl2;have b1:=zCW hx i;have b2:=zCW hy i;rcases O with _ | ⟨o,O⟩
 ·(repeat' (first|refine stp ?_|with_reducible(refine brr ?_ ?_<;>intro h)));all_goals try(conv=>whnf)
  .refine zAA cl1 rfl ?_
   refine sts ?_;refine zAA cl2 rfl ?_;refine sts ?_;obtain⟨c',y,e1,e2⟩:∃ c' y,c+(lb xs i+lb ys i)=c' * 4294967296+y/\y<4294967296:=⟨(c+(lb xs i+lb ys i)) / 4294967296,(c+(lb xs i+lb ys i)) % 4294967296,zom,zom⟩;have hst:=zNB i1 i5 e1;refine zCT ?_;rw[show((c:Int)+((lb xs i:Int)+(lb ys i:Int))) % 4294967296=(y:Int) by omega];refine sts ?_
   exact⟨(i+1,[]++[(y:Int)],c'),⟨⟨by simp at i1 ⊢<;>omega,zom,zDP i3 e2,zom,hst⟩,by show 2147483648 - (i+1)<2147483648 - i; omega⟩,[_],[],[],[],ttt,
    ⟨rAJ,rAJ,zA3 zdd rfl rfl,zAC rfl (by rw[zDI]; omega),zAC rfl zom,rGU⟩,⟨zAF zdd rfl rfl (zAQ fun _=>⟨rfl,zsm⟩) rfl,rGU⟩,by simp[vFG]⟩
  .refine zAA cl1 rfl ?_
   refine sts ?_;refine zAA cl2 rfl ?_;refine sts ?_;obtain⟨c',y,e1,e2⟩:∃ c' y,c+(lb xs i+lb ys i)=c' * 4294967296+y/\y<4294967296:=⟨(c+(lb xs i+lb ys i)) / 4294967296,(c+(lb xs i+lb ys i)) % 4294967296,zom,zom⟩;have hst:=zNB i1 i5 e1;refine zCT ?_;rw[show((c:Int)+((lb xs i:Int)+(lb ys i:Int))) % 4294967296=(y:Int) by omega];refine sts ?_
   exact⟨(i+1,[]++[(y:Int)],c'),⟨⟨by simp at i1 ⊢<;>omega,zom,zDP i3 e2,zom,hst⟩,by show 2147483648 - (i+1)<2147483648 - i; omega⟩,[_],[],[],[],ttt,
    ⟨rAJ,rAJ,zA3 zdd rfl rfl,zAC rfl (by rw[zDI]; omega),zAC rfl zom,rGU⟩,⟨zAF zdd rfl rfl (zAQ fun _=>⟨rfl,zsm⟩) rfl,rGU⟩,by simp[vFG]⟩
  .have hv:nv ([]++[(c:Int)])=nv xs+nv ys:=by rw[zLM i1,i5,zB0 zom,zB0 zom]
   have cm:=zC1 ([]++[(c:Int)]) (zDP i3 zom) (by simp at i1 ⊢<;>omega);rw[hv]at cm;refine zAA cm (zAD (zAI rfl rfl zsm (fun x=>zB8 x)) rfl) ?_;refine sts ?_;exact rGV
 ·(repeat' (first|refine stp ?_|with_reducible(refine brr ?_ ?_<;>intro h)));all_goals try(conv=>whnf)
  .refine zAA cl1 rfl ?_
   refine sts ?_;refine zAA cl2 rfl ?_;refine sts ?_;obtain⟨c',y,e1,e2⟩:∃ c' y,c+(lb xs i+lb ys i)=c' * 4294967296+y/\y<4294967296:=⟨(c+(lb xs i+lb ys i)) / 4294967296,(c+(lb xs i+lb ys i)) % 4294967296,zom,zom⟩;have hst:=zNB i1 i5 e1;refine zCT ?_;rw[show((c:Int)+((lb xs i:Int)+(lb ys i:Int))) % 4294967296=(y:Int) by omega];refine sts ?_;refine zBN ⟨rfl,zsm,by simp at i1 ⊢<;>omega⟩ ?_;refine sts ?_
   exact⟨(i+1,(o::O)++[(y:Int)],c'),⟨⟨by simp at i1 ⊢<;>omega,zom,zDP i3 e2,zom,hst⟩,by show 2147483648 - (i+1)<2147483648 - i; omega⟩,[_],[],[],[],ttt,
    ⟨rAJ,rAJ,zA3 zdd rfl zsm,zAC rfl (by rw[zDI]; omega),zAC rfl zom,rGU⟩,⟨zAF zdd rfl zsm (zAQ fun _=>⟨rfl,zsm⟩) rfl,rGU⟩,by simp[vFG]⟩
  .refine zAA cl1 rfl ?_
   refine sts ?_;refine zAA cl2 rfl ?_;refine sts ?_;obtain⟨c',y,e1,e2⟩:∃ c' y,c+(lb xs i+lb ys i)=c' * 4294967296+y/\y<4294967296:=⟨(c+(lb xs i+lb ys i)) / 4294967296,(c+(lb xs i+lb ys i)) % 4294967296,zom,zom⟩;have hst:=zNB i1 i5 e1;refine zCT ?_;rw[show((c:Int)+((lb xs i:Int)+(lb ys i:Int))) % 4294967296=(y:Int) by omega];refine sts ?_;refine zBN ⟨rfl,zsm,by simp at i1 ⊢<;>omega⟩ ?_;refine sts ?_
   exact⟨(i+1,(o::O)++[(y:Int)],c'),⟨⟨by simp at i1 ⊢<;>omega,zom,zDP i3 e2,zom,hst⟩,by show 2147483648 - (i+1)<2147483648 - i; omega⟩,[_],[],[],[],ttt,
    ⟨rAJ,rAJ,zA3 zdd rfl zsm,zAC rfl (by rw[zDI]; omega),zAC rfl zom,rGU⟩,⟨zAF zdd rfl zsm (zAQ fun _=>⟨rfl,zsm⟩) rfl,rGU⟩,by simp[vFG]⟩
  .have hv:nv ((o::O)++[(c:Int)])=nv xs+nv ys:=by rw[zLM i1,i5,zB0 zom,zB0 zom]
   have cm:=zC1 ((o::O)++[(c:Int)]) (zDP i3 zom) (by simp at i1 ⊢<;>omega);rw[hv]at cm;refine zBN ⟨rfl,zsm,by simp at i1 ⊢<;>omega⟩ ?_;refine sts ?_;refine zAA cm (zAD (zAI rfl zsm zsm (fun x=>zB8 x)) rfl) ?_;refine sts ?_;exact rGV
theorem zMT{O xs ys:List Int}{i c c' y:Nat}(h:O.length=i)(i5:nv O+nk ys i=nk xs i+pw i * c)(e:lb xs i+c' * 4294967296=lb ys i+c+y) :
 nv (O++[(y:Int)])+nk ys (i+1)=nk xs (i+1)+pw (i+1) * c':=by
 rw[zLM h,zBA,zBA,zA9]
 have:pw i * c+pw i * y+pw i * lb ys i=4294967296 * pw i * c'+pw i * lb xs i:=by
  rw[<- rA9,<- rA9,rBN 4294967296,rBO,<- rA9]
  congr 1
  omega
 omega
theorem vN1{O xs ys:List Int}{i c:Nat}(h:O.length=i)(ho:okN O)(hc:c<2)(e:nv O+nk ys i=nk xs i+pw i * c)(hi:xs.length<=i)(hx:okN xs)(hle:nv ys<=nv xs):nv O=nv xs - nv ys:=by
 have h1:=zES hx;have h2:=zFO hi;have h3:=zCP ys i;have h4:=zES ho;rw[h]at h4;rw[zB0 hi]at e
 have h5:nt ys i=0:=by
  rcases rDD (nt ys i) with z | z
  .exact z
  .have:=rBL (pw i) z
   omega
 rw[h5]at h3;rcases(show c=0\/c=1 by omega) with rfl | rfl<;>omega
theorem uCK:FO 206 Tryz.f206 [.tmp 4,.tmp 5] 45:=mkO Tryz.func206 Tryz.ntmps206 Tryz.results206
theorem vNK(xs ys:List Int)(hx:okN xs)(hy:okN ys)(hl:xs.length<2147483647)(hl2:ys.length<2147483647):Fn 206 [vBK xs,vBK ys] (.data (vTK (nv xs) (nv ys))):=by
 have cc:=vZJ xs ys hx hy zom zom;have hcmp:=zOA (nv xs) (nv ys);refine zAL vBC hT uCK zsm ?_;refine sts ?_;refine zAA cc rfl ?_
 refine gob ?_ ?_<;>intro h
 .refine zAB rfl ?_
  unfold vTK;rw[rAU zom]
 refine zAN hT (fun((i,O,c):Nat×List Int×Nat)=>[(0,vBK xs),(1,vBK ys),uNM 6 O,(7,.int .u64 c),(8,.int .i64 i)]) (fun(_,O,_)=>vFG O) [] 1
  (fun(i,O,c)=>O.length=i/\i<=xs.length/\okN O/\c<2/\nv O+nk ys i=nk xs i+pw i * c) (fun(i,_,_)=>xs.length - i) (0,[],0) ⟨rfl,zom,zD9,zom,by rw[zB2,zB2]; rfl⟩ zdd zsm ?_ ?_
 .exact⟨[],[],[],[],ttt,⟨rAJ,rAJ,vIG rfl,rAI,rAI,rGU⟩,rGU,by simp[vFG]⟩
 intro⟨i,O,c⟩ ⟨i1,i2,i3,i4,i5⟩;have cl1:=zG5 xs (i:Int) hx zom zom;have cl2:=zG5 ys (i:Int) hy zom zom;rw[show((i:Int)).toNat=i from rfl]at cl1 cl2;have b1:=zCW hx i;have b2:=zCW hy i;rcases O with _ | ⟨o,O⟩
 ·refine gob ?_ ?_<;>intro h
  .refine zAA cl1 rfl ?_
   refine sts ?_;refine zAA cl2 rfl ?_
   refine gob ?_ ?_<;>intro h
   .obtain⟨b',y,eb,e1,e2⟩:∃ b' y,b'=1/\lb xs i+b' * 4294967296=lb ys i+c+y/\y<4294967296:=⟨1,lb xs i+1 * 4294967296 - (lb ys i+c),rfl,zom,zom⟩
    have hst:=zMT i1 i5 e1
    exact⟨(i+1,[]++[(y:Int)],b'),⟨⟨by simp at i1 ⊢<;>omega,zom,zDP i3 e2,zom,hst⟩,by show xs.length - (i+1)<xs.length - i; omega⟩,[_],[],[],[],ttt,
     ⟨rAJ,rAJ,zA3 zdd rfl rfl,zAC rfl zom,zAC rfl zom,rGU⟩,⟨zAF zdd rfl rAE (zAQ fun _=>⟨rfl,zsm⟩) rfl,rGU⟩,by simp[vFG]⟩
   .obtain⟨b',y,eb,e1,e2⟩:∃ b' y,b'=0/\lb xs i+b' * 4294967296=lb ys i+c+y/\y<4294967296:=⟨0,lb xs i+0 * 4294967296 - (lb ys i+c),rfl,zom,zom⟩
    have hst:=zMT i1 i5 e1
    exact⟨(i+1,[]++[(y:Int)],b'),⟨⟨by simp at i1 ⊢<;>omega,zom,zDP i3 e2,zom,hst⟩,by show xs.length - (i+1)<xs.length - i; omega⟩,[_],[],[],[],ttt,
     ⟨rAJ,rAJ,zA3 zdd rfl rfl,zAC rfl zom,zAC rfl zom,rGU⟩,⟨zAF zdd rfl rAE (zAQ fun _=>⟨rfl,zsm⟩) rfl,rGU⟩,by simp[vFG]⟩
  .have hO:=vN1 (O:=[]) i1 i3 i4 i5 zom hx zom
   have cm:=zC1 [] i3 (by simp at i1 ⊢<;>omega);rw[hO]at cm;refine zAA cm rfl ?_;refine sts ?_;refine zAB rfl ?_;unfold vTK;rw[rAM zom]
 ·refine gob ?_ ?_<;>intro h
  .refine zAA cl1 rfl ?_
   refine sts ?_;refine zAA cl2 rfl ?_
   refine gob ?_ ?_<;>intro h
   .obtain⟨b',y,eb,e1,e2⟩:∃ b' y,b'=1/\lb xs i+b' * 4294967296=lb ys i+c+y/\y<4294967296:=⟨1,lb xs i+1 * 4294967296 - (lb ys i+c),rfl,zom,zom⟩
    have hst:=zMT i1 i5 e1;refine zBN ⟨rfl,zsm,by simp at i1 ⊢<;>omega⟩ ?_;refine sts ?_
    exact⟨(i+1,(o::O)++[(y:Int)],b'),⟨⟨by simp at i1 ⊢<;>omega,zom,zDP i3 e2,zom,hst⟩,by show xs.length - (i+1)<xs.length - i; omega⟩,[_],[],[],[],ttt,
     ⟨rAJ,rAJ,zA3 zdd rfl zsm,zAC rfl zom,zAC rfl zom,rGU⟩,⟨zAF zdd rfl rAE (zAQ fun _=>⟨rfl,zsm⟩) rfl,rGU⟩,by simp[vFG]⟩
   .obtain⟨b',y,eb,e1,e2⟩:∃ b' y,b'=0/\lb xs i+b' * 4294967296=lb ys i+c+y/\y<4294967296:=⟨0,lb xs i+0 * 4294967296 - (lb ys i+c),rfl,zom,zom⟩
    have hst:=zMT i1 i5 e1;refine zBN ⟨rfl,zsm,by simp at i1 ⊢<;>omega⟩ ?_;refine sts ?_
    exact⟨(i+1,(o::O)++[(y:Int)],b'),⟨⟨by simp at i1 ⊢<;>omega,zom,zDP i3 e2,zom,hst⟩,by show xs.length - (i+1)<xs.length - i; omega⟩,[_],[],[],[],ttt,
     ⟨rAJ,rAJ,zA3 zdd rfl zsm,zAC rfl zom,zAC rfl zom,rGU⟩,⟨zAF zdd rfl rAE (zAQ fun _=>⟨rfl,zsm⟩) rfl,rGU⟩,by simp[vFG]⟩
  .have hO:=vN1 (O:=(o::O)) i1 i3 i4 i5 zom hx zom
   have cm:=zC1 (o::O) i3 (by simp at i1 ⊢<;>omega);rw[hO]at cm;refine zAA cm (zAD (zAI rfl rfl zsm (fun x=>zB8 x)) rfl) ?_;refine sts ?_;refine zAB rfl ?_;unfold vTK;rw[rAM zom]
theorem uCM:FO 187 Tryz.f187 [.tmp 4] 59:=mkO Tryz.func187 Tryz.ntmps187 Tryz.results187
theorem zOI(A B:List Int)(ha:okN A)(hb:okN B)(hl:A.length<1073741823)(hl2:B.length<1073741823):Fn 187 [vBK A,vBK B] (.data (vBK (vBG (nv A * nv B)))):=by
 refine zAL vBC hT uCM zsm ?_;refine sts ?_
 refine zAN hT (fun((i,O):Nat×List Int)=>[(0,vBK A),(1,vBK B),(5,.own 0 0 (A.length+B.length+1)),(6,.int .i64 i)]) (fun(_,O)=>[(0,⟨O.map (.int .u32),1,false⟩)]) [] 1
  (fun(i,O)=>i<=A.length/\O.length=A.length+B.length+1/\okN O/\nv O=nk A i * nv B/\∀ j,i+B.length<=j->lb O j=0) (fun(i,_)=>A.length - i) (0,List.replicate (A.length+B.length+1) 0) ⟨zsm,zsm,zDL _,by simp[zJ4,zB2],fun j _=>zM1 _ j⟩ zdd zsm ?_ ?_
 .exact⟨[_],[],[],[],ttt,⟨zAE rfl rfl,zAE rfl rfl,zA3 zdd rfl rAG,zAC rfl rfl,rGU⟩,⟨zAF zdd rfl (zNO (f:=PV.int .u32) (x:=0) rAG) (zAQ fun _=>⟨rfl,zsm⟩) rfl,rGU⟩,rAA⟩
 intro⟨i,O⟩ ⟨hi,hO,hok,hv,hz⟩
 refine gob ?_ ?_<;>intro h
 .refine zAN hT (fun((k,P,c):Nat×List Int×Nat)=>[(0,vBK A),(1,vBK B),(5,.own 0 0 (A.length+B.length+1)),(6,.int .i64 i),(7,.int .u64 c),(8,.int .i64 k)]) (fun(_,P,_)=>[(0,⟨P.map (.int .u32),1,false⟩)]) [] 1
   (fun(k,P,c)=>k<=B.length+1/\P.length=A.length+B.length+1/\okN P/\c<4294967296/\nv P+c * pw (i+k)=nv O+pw i * (lb A i * nk B k)/\(∀ j,i+B.length+1<=j->lb P j=0)/\(k<=B.length->lb P (i+B.length)=0)/\(k=B.length+1->c=0)) (fun(k,_,_)=>B.length+1 - k) (0,O,0)
   ⟨zsm,hO,hok,zsm,by simp[zB2],fun j hj=>hz j zom,fun _=>hz _ zom,fun _=>rfl⟩ zdd zsm ?_ ?_
  .exact⟨[0],[],[],[],ttt,⟨rAJ,rAJ,zA3 zdd rfl rfl,rAI,rAI,rAI,rGU⟩,⟨zAF zdd rfl rfl (zAQ fun _=>⟨rfl,zsm⟩) rfl,rGU⟩,rAA⟩
  intro⟨k,P,c⟩ ⟨hk,hP,hokP,hc,hvP,hzP,hzk,hck⟩;have cl:=zG5 B (k:Int) hb zom zom;rw[show((k:Int)).toNat=k from rfl]at cl;have ha1:0<=A[i]! /\ A[i]! < 4294967296:=zC6 ha zom;have h1:=zBF (show i<A.length by omega) ha;have hBk:=zCW hb k;have hpr:0<=A[i]! * (lb B k:Int)/\A[i]! * (lb B k:Int)<=18446744065119617025:=vVV ha1 zom;have hPk:k<=B.length->0<=P[i+k]! /\ P[i+k]! < 4294967296:=fun h=>zC6 hokP zom
  refine gob ?_ ?_<;>intro h
  .refine zAA cl rfl ?_
   refine sts ?_;refine zBX (i+k) zom zom ?_;have hP1:=hPk zom;have h3:=zBF (show i+k<P.length by omega) hokP;obtain⟨s,hs⟩:∃ s,c+(lb A i * lb B k+lb P (i+k))=s:=⟨_,rfl⟩
   have hsI:(s:Int)=↑c+(A[i]! * (lb B k:Int)+P[i+k]!):=by
    rw[<- hs]; simp only[Int.natCast_add,Int.natCast_mul,h1,h3]
   refine sts ?_;refine zCT ?_;refine sts ?_;refine zBX (i+k) zom zom ?_;refine sts ?_
   refine⟨(k+1,P.set (i+k) ((s % 4294967296:Nat):Int),s / 4294967296),⟨⟨zom,by simp[hP],zB1 hokP _ zom,zom,?_,fun j hj=>by rw[zKD zom]; exact hzP j hj,fun hk2=>by rw[zKD zom]; exact hzk zom,fun hk2=>?_⟩,by show B.length+1 - (k+1)<B.length+1 - k; omega⟩,[0],[],[],[],ttt,
    ⟨rAJ,rAJ,zA3 zdd rfl rfl,rAI,zAC rfl (by rw[zDI,<- hsI]; omega),zAC rfl zom,rGU⟩,⟨zAF zdd rfl (zC5 zom (by rw[<- hsI]; omega)) (zAQ fun _=>⟨rfl,zsm⟩) rfl,rGU⟩,rAA⟩
   .have e1:=zMC (a:=P) (j:=i+k) ((s % 4294967296:Nat):Int) zom
    have e2:=zEB (pw (i+k)) s;rw[Int.toNat_natCast]at e1;rw[zBA,show i+(k+1)=i+k+1 by omega,zA9];rw[<- hs]at e1 e2 ⊢;simp only[rA9,zPD]at e1 e2 hvP ⊢;simp only[rBN,rB2,rBO]at e1 e2 hvP ⊢;omega
   .have hkB:k=B.length:=by omega
    subst hkB;rw[zHW (rAR _),hzk (rAR _),Nat.mul_zero]at hs;omega
  .have hk1:k=B.length+1:=by omega
   have hc0:=hck hk1;subst hc0
   exact⟨(i+1,P),⟨⟨zom,hP,hokP,by rw[hk1,zBA,zHW (rAR _),zB0 (a:=B) (rAR _)]at hvP; simp only[Nat.mul_zero,Nat.add_zero,rE2]at hvP; rw[zBA,rB6,<- hv,rBO]; omega,fun j hj=>hzP j zom⟩,by show A.length - (i+1)<A.length - i; omega⟩,[0],[],[],[],ttt,
    ⟨rAJ,rAJ,zA3 zdd rfl rfl,zAC rfl zom,rGU⟩,⟨zAF zdd rfl rfl (zAQ fun _=>⟨rfl,zsm⟩) rfl,rGU⟩,rAA⟩
 .have hi':i=A.length:=by omega
  rw[hi',zB0 (a:=A) (rAR _)]at hv;have ct:=zC1 O hok zom;rw[hv]at ct;refine zAA ct (zAD (zAI rfl rfl zom (fun x=>zB8 x)) rfl) ?_;refine sts ?_;exact rGV
theorem vWI:FO 207 Tryz.f207 [.tmp 2,.tmp 3] 28:=mkO Tryz.func207 Tryz.ntmps207 Tryz.results207
theorem vQI(xs:List Int)(hx:okN xs)(hl:xs.length<2147483647):Fn 207 [vBK xs] (.data (if nv xs<18446744073709551616 then .tup [.int .u64 (nv xs),.bool true] else .tup [.int .u64 0,.bool false])):=by
 have ct:=zC1 xs hx zom;have h2:=zAV hx;have ha:=zEK (nv xs);have hv:=zAR (nv xs);generalize nv xs=N at *
 have hnil:vBG N=[]->N=0:=zC0;generalize vBG N=A at *
 have p2:pw 2=18446744073709551616:=by rw[zA9,zA9,zDG]
 have p1:pw 1=4294967296:=by rw[zA9,zDG]
 have hlt:=zES ha.1;refine zAL vBC hT vWI zsm ?_;refine sts ?_;refine zAA ct rfl ?_
 (repeat' (first|refine stp ?_|with_reducible(refine brr ?_ ?_<;>intro h)));all_goals try(conv=>whnf)
 .have:=hnil (rAZ.1 zom)
  subst this;rw[rAU zom];exact rGV
 .have hl1:A.length=1:=by omega
  have g:=zBF (a:=A) (k:=0) zom ha.1;have b:=zCW ha.1 0;have e:nv A=lb A 0:=by rw[<- zB0 (a:=A) (k:=1) zom,zBA,zB2,zDG]; omega
  have hA0:0<=A[0]! /\ A[0]! < 4294967296:=by omega
  rw[rAU zom];refine sts ?_;refine zAB rfl ?_;rw[<- g,<- e,hv]
 .have hl1:A.length=2:=by omega
  have g0:=zBF (a:=A) (k:=0) zom ha.1;have b0:=zCW ha.1 0;have g1:=zBF (a:=A) (k:=1) zom ha.1;have b1:=zCW ha.1 1;have e:nv A=lb A 0+4294967296 * lb A 1:=by rw[<- zB0 (a:=A) (k:=2) zom,zBA,zBA,zB2,zDG,p1]; omega
  have hA0:0<=A[0]! /\ A[0]! < 4294967296:=by omega
  have hA1:0<=A[1]! /\ A[1]! < 4294967296:=by omega
  have ee:vF0 .or .u64 A[0]! (A[1]! * vEN .u64 32)=(N:Int):=by rw[vHD hA1 hA0]; omega
  rw[rAU zom];refine sts ?_;refine zA5 (j:=1) rfl zom ?_;refine sts ?_;refine zFA ?_ ?_
  .rw[zGY]; omega
  refine sts ?_;refine zAB rfl ?_;rw[ee]
 .have hge:=zOD ha (fun e=>by subst e; simp at *)
  have:=zFO (show 2<=A.length - 1 by omega);rw[rAM zom];refine sts ?_;exact rGV
theorem vWM:FO 208 Tryz.f208 [.tmp 2] 27:=mkO Tryz.func208 Tryz.ntmps208 Tryz.results208
theorem uES(xs:List Int)(hx:okN xs)(hl:xs.length<2147483647):Fn 208 [vBK xs] (.data (.int .i64 (vFZ (nv xs)))):=by
 have h2:=zAV hx;have hok:=zAP (nv xs);refine zAL vBC hT vWM zsm ?_;refine sts ?_;refine zAA (zC1 xs hx zom) rfl ?_
 refine gob ?_ ?_<;>intro h
 .refine zAB rfl ?_
  have:vBG (nv xs)=[]:=rAZ.1 zom;have:=zC0 this;unfold vFZ;rw[rAU this]
 .refine zA5 (j:=(vBG (nv xs)).length - 1) rAG zom ?_
  refine sts ?_;have hg:=zBF (show(vBG (nv xs)).length - 1<(vBG (nv xs)).length by omega) hok;have hlt:=zCW hok ((vBG (nv xs)).length - 1)
  have hne:nv xs≠0:=fun e=>by
   have:(vBG (nv xs)).length=0:=by rw[e]; rfl
   omega
  have hbv:vFZ (nv xs)=32 * ((vBG (nv xs)).length - 1:Nat)+bl (lb (vBG (nv xs)) ((vBG (nv xs)).length - 1)):=by unfold vFZ; rw[rAM hne]
  rw[hbv];generalize lb (vBG (nv xs)) ((vBG (nv xs)).length - 1)=T at *
  refine zA4 hT (fun((n,t):Nat×Nat)=>[(3,.int .i64 n),(4,.int .u32 t)]) (fun(n,t)=>t<4294967296/\n+bl t=32 * ((vBG (nv xs)).length - 1)+bl T) (fun(_,t)=>t) (32 * ((vBG (nv xs)).length - 1),T) ⟨hlt,rfl⟩ ?_ ?_
  .exact⟨zAC rfl rAG,zAC rfl hg.symm,rGU⟩
  intro⟨n,t⟩ ⟨i1,i2⟩;have hT32:=(zCL 32 T hlt zdd).2.2;have ht32:=(zCL 32 t i1 zdd).2.2
  refine gob ?_ ?_<;>intro h
  .have hh:=zGA (n:=t) zom zom
   have hf:(t:Int).fdiv (vEN .u32 1)=((t / 2:Nat):Int):=by rw[zKJ (j:=1) rfl]; omega
   exact⟨(n+1,t / 2),⟨⟨zom,zom⟩,by show t / 2<t; omega⟩,zAC rfl zom,zAC rfl hf,rGU⟩
  .have h0:t=0:=by omega
   subst h0;rw[vIF]at i2;refine zAB rfl ?_
   congr 1
   omega
theorem uCL:FO 209 Tryz.f209 [.tmp 4] 40:=mkO Tryz.func209 Tryz.ntmps209 Tryz.results209
theorem uKV(xs:List Int)(hx:okN xs)(hl:xs.length<2147483646):Fn 209 [vBK xs,.int .i64 1] (.data (vBK (vBG (2 * nv xs)))):=by
 refine zAL vBC hT uCL zsm ?_;have eq:(1:Int).tdiv 32=0:=rfl;have em:(1:Int).tmod 32=1:=rfl;refine sts ?_
 refine zAN hT (fun((i,O,c):Nat×List Int×Nat)=>[(0,vBK xs),(1,.int .i64 1),(5,.own 0 0 i),(6,.int .u64 c),(7,.int .i64 i)]) (fun(_,O,_)=>[(0,⟨O.map (.int .u32),1,false⟩)]) [] 1
  (fun(i,O,c)=>O.length=i/\i<=xs.length/\okN O/\c<2/\nv O+pw i * c=2 * nk xs i) (fun(i,_,_)=>xs.length - i) (0,[],0) ⟨rfl,zom,zD9,zom,by rw[zB2]; rfl⟩ zdd zsm ?_ ?_
 .exact⟨[_],[],[],[],ttt,⟨zAE rfl rfl,zAC rfl rfl,zA3 zdd rfl rfl,zAC rfl rfl,zAC rfl rfl,rGU⟩,⟨zAF zdd rfl rfl zsm rfl,rGU⟩,rAA⟩
 intro⟨i,O,c⟩ ⟨i1,i2,i3,i4,i5⟩;have b1:=zCW hx i;have hXi:i<xs.length->xs[i]! = (lb xs i:Int):=fun h=>(zBF h hx).symm
 refine gob ?_ ?_<;>intro h
 .have hx1:=hXi zom
  have e2:vEN .u64 1=2:=by rw[zNK zdd]; rfl
  have eo:vF0 .or .u64 (c:Int) ((lb xs i:Int) * 2)=((2 * lb xs i+c:Nat):Int):=by
   have:=zL0 (a:=lb xs i) (b:=c) (i:=1) zom zom;rw[show((2 ^ 1 * lb xs i:Nat):Int)=(lb xs i:Int) * 2 by omega]at this;rw[this]
  rw[hx1,em,e2];obtain⟨c',y,e1,e3⟩:∃ c' y,2 * lb xs i+c=c' * 4294967296+y/\y<4294967296:=⟨(2 * lb xs i+c) / 4294967296,(2 * lb xs i+c) % 4294967296,zom,zom⟩;refine zFA zom ?_;refine sts ?_;rw[eo];refine zCT ?_;refine sts ?_
  refine⟨(i+1,O++[(y:Int)],c'),⟨⟨by simp[i1],zom,zDP i3 e3,zom,?_⟩,by show xs.length - (i+1)<xs.length - i; omega⟩,[_],[],[],[],ttt,
   ⟨rAJ,rAI,zA3 zdd rfl zsm,zAC rfl (by rw[zDI]; omega),zAC rfl zom,rGU⟩,⟨zAF zdd rfl rAE (zAQ fun _=>⟨rfl,zsm⟩) rfl,rGU⟩,rAA⟩
  rw[zLM i1,zBA,zA9]
  have:pw i * c+pw i * (2 * lb xs i)=4294967296 * pw i * c'+pw i * y:=by
   rw[<- rA9,rBN 4294967296,rBO,<- rA9]
   congr 1
   omega
  rw[rB2]at this;omega
 .have hi:i=xs.length:=by omega
  have hv:nv (O++[(c:Int)])=2 * nv xs:=by rw[zLM i1,i5,zB0 zom]
  have cm:=zC1 (O++[(c:Int)]) (zDP i3 zom) rAE;rw[hv]at cm;refine zAA cm (zAD (zAI rfl zsm (by simp[i1]) (fun x=>zB8 x)) rfl) ?_;refine sts ?_;exact rGV
theorem uK8(N:Nat):∃ m:Nat,vFZ N=m/\N<2 ^ m/\m<=32 * (vBG N).length:=by
 unfold vFZ;by_cases h:N=0
 .subst h; exact⟨0,rfl,zdd,zsm⟩
 .rw[rAM h]
  have hn:vBG N≠[]:=fun e=>h (zC0 e)
  have hl:0<(vBG N).length:=rDO.2 hn;have ho:=zAP N;obtain⟨L,hL⟩:∃ L,(vBG N).length=L+1:=⟨(vBG N).length - 1,zom⟩;rw[hL];have hlt:=zCW ho L;have hb:=zCL 32 _ hlt zdd;refine⟨32 * L+bl (lb (vBG N) L),zsm,?_,zom⟩;have e:N=nk (vBG N) L+pw L * lb (vBG N) L:=by rw[<- zBA,zB0 zom,zAR]
  have h1:=zOX ho L;rw[rDH,<- vOS];have h2:=rBL (pw L) (show lb (vBG N) L+1<=2 ^ bl (lb (vBG N) L) by omega);rw[rA9]at h2;omega
theorem vMO:FO 190 Tryz.f190 [.tmp 4,.tmp 5,.tmp 6] 89:=mkO Tryz.func190 Tryz.ntmps190 Tryz.results190
theorem zLZ(xs ys:List Int)(hx:okN xs)(hy:okN ys)(hl:xs.length<2147483636)(hl2:ys.length<2147483636):Fn 190 [vBK xs,vBK ys] (.data (.tup [vBK (vBG (nv xs / nv ys)),vBK (if nv ys=0 then [] else vBG (nv xs % nv ys)),.int .i64 (if nv ys=0 then 3 else 0)])):=by
 have cu1:=vQI xs hx zom;have cu2:=vQI ys hy zom;have cb:=uES xs hx zom;obtain⟨m0,em,hm1,hm2⟩:=uK8 (nv xs);rw[em]at cb;have hm3:m0<=32 * xs.length:=by have:=zAV hx; omega
 refine zAL vBC hT vMO zsm ?_;refine sts ?_;by_cases k1:nv xs<18446744073709551616<;>by_cases k2:nv ys<18446744073709551616
 all_goals first | rw[rAU k1]at cu1 | rw[rAM k1]at cu1
 all_goals first | rw[rAU k2]at cu2 | rw[rAM k2]at cu2
 all_goals (refine zAA cu1 rfl ?_; refine sts ?_)
 all_goals (refine zAA cu2 rfl ?_; (repeat' (first|refine stp ?_|with_reducible(refine brr ?_ ?_<;>intro h)));all_goals try(conv=>whnf))
 .have h0:nv ys=0:=by omega
  refine zAB rfl ?_;rw[h0,Nat.div_zero,rAU rfl,rAU rfl]; rfl
 .have h0:nv ys≠0:=by omega
  obtain⟨q,hq⟩:∃ q,q=nv xs / nv ys:=⟨_,rfl⟩;obtain⟨r,hr⟩:∃ r,r=nv xs % nv ys:=⟨_,rfl⟩;have e1:(nv xs:Int).tdiv (nv ys)=(q:Int):=by rw[hq]; exact(Int.ofNat_tdiv ..).symm
  have e2:(nv xs:Int).tmod (nv ys)=(r:Int):=by rw[hr]; exact(Int.ofNat_tmod ..).symm
  have b1:q<=nv xs:=hq ▸ rDY ..;have b2:r<=nv xs:=hr ▸ Nat.mod_le ..;rw[e1];refine zFA zom ?_;refine sts ?_;refine zAA (vQK _ zom) rfl ?_;refine sts ?_;rw[e2];refine zAA (vQK _ zom) rfl ?_;refine sts ?_;refine zAB rfl ?_;rw[rAM h0,rAM h0,<- hq,<- hr]
 rotate_left
 .have h0:nv ys=0:=by omega
  refine zAB rfl ?_;rw[h0,Nat.div_zero,rAU rfl,rAU rfl]; rfl
 all_goals
  have hM:nv ys≠0:=by omega
  refine zAA cb rfl ?_;refine sts ?_
  refine zAN hT (fun((m,Q,q,R):Nat×List Int×Nat×Nat)=>[(0,vBK xs),(1,vBK ys),(11,.own 0 0 xs.length),(12,vBK (vBG R)),(13,.int .i64 ((m:Int) - 1))]) (fun(_,Q,_)=>[(0,⟨Q.map (.int .u32),1,false⟩)]) [] 1
   (fun(m,Q,q,R)=>m<=32 * xs.length/\Q.length=xs.length/\okN Q/\nv Q=2 ^ m * q/\nv xs / 2 ^ m=q * nv ys+R/\R<nv ys) (fun(m,_)=>m) (m0,List.replicate xs.length 0,0,0) ⟨hm3,zsm,zDL _,by rw[zJ4]; rfl,by rw[rDR hm1]; simp,zom⟩ zdd zsm ?_ ?_
  .exact⟨[28],[29],[(12,vBK (vBG 0))],[],⟨⟨⟨_,rfl⟩,rGU⟩,⟨⟨4,[29],zAI (f:=PV.int .u32) (l:=[]) rfl rfl rfl (fun x=>zB8 x),rfl⟩,rGU⟩,rGU⟩,
    ⟨rAJ,rAJ,zA3 zdd rfl rAG,rAJ,rAI,rGU⟩,⟨zAF zdd rfl (zNO (f:=PV.int .u32) (x:=0) rAG) (zAQ fun _=>⟨rfl,zsm⟩) rfl,rGU⟩,rAA⟩
  intro⟨m,Q,q,R⟩ ⟨i1,i2,i3,i4,i5,i6⟩;have hR:R<pw ys.length:=Nat.lt_trans i6 (zES hy);have hRl:=zB5 hR
  refine gob ?_ ?_<;>intro h
  .have hm:1<=m:=by omega
   obtain⟨j,hj⟩:∃ j,j=(m - 1) / 32:=⟨_,rfl⟩;obtain⟨s,hs⟩:∃ s,s=(m - 1) % 32:=⟨_,rfl⟩;have e3:((m:Int) - 1).tdiv 32=(j:Int):=by rw[rEZ zom]; omega
   have e4:((m:Int) - 1).tmod 32=(s:Int):=by rw[rEY zom]; omega
   have c1:=uKV (vBG R) (zAP R) zom;rw[zAR]at c1;refine zAA c1 rfl ?_;refine sts ?_;have b:=zCW hx j;have hj2:j<xs.length:=by omega
   have hg:=zBF hj2 hx;refine zA5 (j:=j) (by rw[e3]) zom ?_;obtain⟨bit,hbit⟩:∃ bit,bit=nv xs / 2 ^ (m - 1) % 2:=⟨_,rfl⟩;have hb2:bit<2:=by omega
   have hs2:s<32:=by omega
   have eb:vF0 .and .u32 ((xs[j]!).fdiv (vEN .u32 (((m:Int) - 1).tmod 32))) 1=(bit:Int):=by
    rw[e4,<- hg,vN6 zom,show((2:Int) ^ ((s:Int).toNat))=((2 ^ s:Nat):Int) by simp,rD0 _ (Int.natCast_nonneg _),<- Int.natCast_ediv,vZ4 (rE3 (rDY ..) b),hbit,uOJ hx,<- hj,<- hs]
   have hp1:pw (ys.length+1)=4294967296 * pw ys.length:=zA9 _;have hl1:(vBG (2 * R)).length<=ys.length+1:=zB5 zom;have ca:=vZK (vBG (2 * R)) [(bit:Int)] (zAP _) (okN_cons.2 ⟨zom,zD9⟩) zom zsm;rw[zAR,show nv [(bit:Int)]=bit by simp[nv]]at ca;obtain⟨X,hX⟩:∃ X,X=2 * R+bit:=⟨_,rfl⟩;rw[<- hX]at ca;have hl3:(vBG X).length<=ys.length+1:=zB5 zom;have cc:=vZJ (vBG X) ys (zAP _) hy zom zom;have cs:=vNK (vBG X) ys (zAP _) hy zom zom;rw[zAR]at cc cs
   have h5:nv xs / 2 ^ (m - 1)=2 * (nv xs / 2 ^ m)+bit:=by
    have:2 ^ m=2 ^ (m - 1) * 2:=by rw[<- Nat.pow_succ]; congr 1; omega
    rw[this,<- rGT]; omega
   rw[i5,rA9,<- rBO]at h5
   have h4:nv Q=2 ^ (m - 1) * (2 * q):=by
    have:2 ^ m=2 ^ (m - 1) * 2:=by rw[<- Nat.pow_succ]; congr 1; omega
    rw[i4,this,rBO]
   refine sts ?_;refine zAA ca (zAD rfl (zAD (zAI rfl (by rw[eb]; rfl) rfl (fun x=>zB8 x)) rfl)) ?_;refine sts ?_;refine zAA cc rfl ?_
   refine gob ?_ ?_<;>intro h
   .have hge:nv ys<=X:=by have:=(zOA X (nv ys)); omega
    unfold vTK at cs;rw[rAM zom]at cs;refine zAA cs rfl ?_;refine sts ?_;obtain⟨c,hc⟩:=uDP (i:=m - 1) (q:=q) i3 (by rw[Nat.sub_add_cancel hm]; exact i4);rw[<- hj,<- hs]at hc;have bQ:=zCW i3 j;have hgQ:=zBF (show j<Q.length by omega) i3;have ho:=uJP (s:=s) (c:=c) hs2 zom;refine zBX j (by rw[e3]; simp) zom ?_;refine sts ?_;obtain⟨p,hp⟩:∃ p,p=2 ^ s:=⟨_,rfl⟩;rw[<- hp]at ho;have es:(1:Int) * vEN .u32 (((m:Int) - 1).tmod 32)=(p:Int):=by rw[e4,vN6 zom,hp]; simp
    have eo:vF0 .or .u32 (Q[j]!) (p:Int)=((lb Q j+p:Nat):Int):=by rw[<- hgQ,hc]; exact ho.1
    rw[<- hc]at ho
    have hQ':nv (Q.set j ((lb Q j+p:Nat):Int))=2 ^ (m - 1) * (2 * q+1):=by
     have h6:=zMC (a:=Q) (j:=j) ((lb Q j+p:Nat):Int) zom;rw[Int.toNat_natCast,rA9]at h6;have h7:pw j * p=2 ^ (m - 1):=by rw[vOS,hp,<- rDH]; congr 1; omega
     rw[h7]at h6;rw[rA9,rFA,<- h4];omega
    have hok':okN (Q.set j ((lb Q j+p:Nat):Int)):=zB1 i3 j ⟨zom,zom⟩;rw[es];refine vJR zom ?_;refine sts ?_;refine zBX j (by rw[e3]; simp) zom ?_;refine sts ?_
    exact⟨(m - 1,Q.set j ((lb Q j+p:Nat):Int),2 * q+1,X - nv ys),⟨⟨zom,by simp[i2],hok',hQ',by rw[rB6]; omega,zom⟩,by show m - 1<m; omega⟩,[_],[],[],[],ttt,
     ⟨rAJ,rAJ,zA3 zdd rfl rfl,rAJ,zAC rfl zom,rGU⟩,⟨zAF zdd rfl (zC5 (by rw[e3]; simp) eo) (zAQ fun _=>⟨rfl,zsm⟩) rfl,rGU⟩,rAA⟩
   .have hge:X<nv ys:=by have:=(zOA X (nv ys)); omega
    exact⟨(m - 1,Q,2 * q,X),⟨⟨zom,i2,i3,h4,zom,hge⟩,by show m - 1<m; omega⟩,[_],[],[],[],ttt,
     ⟨rAJ,rAJ,zA3 zdd rfl rfl,rAJ,zAC rfl zom,rGU⟩,⟨zAF zdd rfl rfl (zAQ fun _=>⟨rfl,zsm⟩) rfl,rGU⟩,rAA⟩
  .have h0:m=0:=by omega
   subst h0;have cm:=zC1 Q i3 zom;rw[Nat.pow_zero,Nat.div_one]at i5;rw[Nat.pow_zero,rF2]at i4;refine zAA cm (zAD (zAI rfl rfl zom (fun x=>zB8 x)) rfl) ?_;refine sts ?_;refine zAB rfl ?_;have e1:nv xs / nv ys=nv Q:=by rw[i5,i4,rBN,Nat.mul_add_div zom,rDR i6]; rfl
   have e2:nv xs % nv ys=R:=by rw[i5,rBN,Nat.mul_add_mod,rCN i6]
   rw[rAM hM,rAM hM,e1,e2]
theorem uCN:FO 189 Tryz.f189 [.tmp 4] 25:=mkO Tryz.func189 Tryz.ntmps189 Tryz.results189
theorem uKW(xs ys:List Int)(hx:okN xs)(hy:okN ys)(hl:xs.length<2147483636)(hl2:ys.length<2147483636):Fn 189 [vBK xs,vBK ys] (.data (vBK (vBG (Nat.gcd (nv xs) (nv ys))))):=by
 have ct1:=zC1 xs hx zom;have ct2:=zC1 ys hy zom;have h1:=zAV hx;have h2:=zAV hy;generalize nv xs=P0 at *
 generalize nv ys=Q0 at *
 obtain⟨g,eg⟩:∃ g,Nat.gcd P0 Q0=g:=⟨_,rfl⟩;rw[eg];refine zAL vBC hT uCN zsm ?_;refine sts ?_;refine zAA ct1 rfl ?_;refine sts ?_;refine zAA ct2 rfl ?_;refine sts ?_;refine zA4 hT (fun((P,Q):Nat×Nat)=>[(0,vBK (vBG P)),(1,vBK (vBG Q))]) (fun(P,Q)=>Nat.gcd P Q=g/\(vBG P).length<2147483636/\(vBG Q).length<2147483636) (fun(_,Q)=>Q) (P0,Q0) ⟨eg,zom,zom⟩ ?_ ?_
 .exact⟨rAJ,rAJ,rGU⟩
 intro⟨P,Q⟩ ⟨i1,i2,i3⟩;have cd:=zLZ (vBG P) (vBG Q) (zAP P) (zAP Q) i2 i3;rw[zAR,zAR]at cd
 refine gob ?_ ?_<;>intro h
 .have hQ:Q≠0:=fun e=>by subst e; rw[zDM]at h; simp at h
  rw[rAM hQ,rAM hQ]at cd;refine zAA cd rfl ?_;refine sts ?_;have hm:=rDK P (show Q > 0 by omega);have hml:=zDT (rD9 hm);exact⟨(Q,P % Q),⟨⟨by rw[zM4]; exact i1,i3,zom⟩,hm⟩,rAJ,rAJ,rGU⟩
 .have hQ:Q=0:=zC0 (rAZ.1 zom)
  subst hQ;rw[rFL]at i1;subst i1;exact rGV
end Go.PI.Tryz
