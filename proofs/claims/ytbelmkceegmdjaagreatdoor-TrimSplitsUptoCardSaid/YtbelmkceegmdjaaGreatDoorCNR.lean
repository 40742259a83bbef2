/-
  The reference's natural numbers: Gcd.
-/
import Derived.Test.YtbelmkceegmdjaaGreatDoorCPD
import Derived.Test.YtbelmkceegmdjaaGreatDoorCNA
set_option linter.unusedVariables false
set_option linter.unusedSimpArgs false
set_option linter.unnecessarySimpa false
set_option maxHeartbeats 0
namespace Go.PI.Tryz
open Go.Proofs Go.PI
theorem vUK:FO 123 Tryz.f123 [.tmp 2] 23:=mkO Tryz.func123 Tryz.ntmps123 Tryz.results123
theorem zCZ(xs:List Int)(ho:okN xs)(hl:xs.length<2147483648):Fn 123 [vBJ xs] (.data (vBJ (vBF (nv xs)))):=by
 refine zAL vBD hT vUK zsm ?_;refine sts ?_;refine zBA hT (fun n:Nat=>[(0,vBJ xs),(3,.int .i64 n)]) (fun n=>n≤xs.length∧∀ j,n≤j→j<xs.length→xs[j]! = 0) (fun n=>n) xs.length ⟨Nat.le_refl _,fun j h1 h2=>by omega⟩ ?_ ?_
 ·exact⟨zAE rfl rfl,zAC rfl zsm,trivial⟩
 ·intro n ⟨hn,hz⟩
  (refine gob ?_ ?_<;>intro h)
  ·refine zA1 (j:=n - 1) zom zom ?_
   (refine gob ?_ ?_<;>intro h)
   ·refine⟨n - 1,⟨⟨zom,fun j h1 h2=>?_⟩,zom⟩,zAE rfl rfl,zAC rfl zom,trivial⟩
    by_cases e:j=n - 1
    ·subst e; assumption
    ·exact hz j zom h2
   ·refine zCT (l':=xs.take n) zsm ?_
    refine sts ?_;refine zAB (zAJ (f:=PV.int .u32) (l:=xs.take n) rfl rfl zsm (fun x=>zB3 x)) ?_;rw[zI4 ho hn hz (Or.inr h)]
  ·have h0:n=0:=by omega
   subst h0;refine zCT (l':=[]) zsm ?_;refine sts ?_;refine zAB (zAJ (f:=PV.int .u32) (l:=[]) rfl rfl zsm (fun x=>zB3 x)) ?_;rw[← zI4 ho hn hz (Or.inl rfl)]; rfl
theorem vUL:FO 204 Tryz.f204 [.tmp 4] 13:=mkO Tryz.func204 Tryz.ntmps204 Tryz.results204
theorem zGT(xs:List Int)(i:Int)(ho:okN xs)(hi:0≤i)(hl:xs.length<2147483648):Fn 204 [vBJ xs,.int .i64 i] (.data (.int .u32 (lb xs i.toNat))):=by
 obtain⟨j,rfl⟩:=Int.eq_ofNat_of_zero_le hi;refine zAL vBD hT vUL zsm ?_
 (refine gob ?_ ?_<;>intro h)
 ·refine zAB rfl ?_
  rw[← zBF zom ho]; rfl
 ·refine zAB rfl ?_
  rw[show((j:Int)).toNat=j from rfl,zHL zom]; rfl
theorem uFI:FO 90 Tryz.f90 [.tmp 2] 10:=mkO Tryz.func90 Tryz.ntmps90 Tryz.results90
theorem vOV(n:Nat)(hn:n<18446744073709551616):Fn 90 [.int .u64 n] (.data (vBJ (vBF n))):=by
 refine zAL vBD hT uFI zsm ?_;refine sts ?_;refine zCP ?_;refine sts ?_;rw[zDD];refine sts ?_;have hv:nv [(n:Int) % 4294967296,(n:Int) / 4294967296]=n:=by simp only[nv]; omega
 have cm:=zCZ [(n:Int) % 4294967296,(n:Int) / 4294967296] (by intro x hx; simp only[List.mem_cons,List.not_mem_nil,or_false]at hx; omega) zsm;rw[hv]at cm;refine zAA cm rfl ?_;refine sts ?_;exact zAB rfl rfl
theorem vZ4:FO 210 Tryz.f210 [.tmp 4] 30:=mkO Tryz.func210 Tryz.ntmps210 Tryz.results210
theorem vW5(xs ys:List Int)(hx:okN xs)(hy:okN ys)(hl:xs.length<2147483648)(hl2:ys.length<2147483648):Fn 210 [vBJ xs,vBJ ys] (.data (.int .i64 (vD6 (nv xs) (nv ys)))):=by
 refine zAL vBD hT vZ4 zsm ?_;refine sts ?_;obtain⟨M,hM⟩:∃ M,max xs.length ys.length=M:=⟨_,rfl⟩;refine zBA hT (fun n:Nat=>[(0,vBJ xs),(1,vBJ ys),(5,.int .i64 ((n:Int) - 1))]) (fun n=>n≤2147483648∧nt xs n=nt ys n) (fun n=>n) M ⟨zom,by rw[zEO zom,zEO zom]⟩ ?_ ?_
 ·exact⟨zAE rfl rfl,zAE rfl rfl,zAC rfl (by simp only[List.length_map]; split<;>omega),trivial⟩
 intro n ⟨hn,hnt⟩;have hsa:=zC4 hx (n - 1);have hsb:=zC4 hy (n - 1)
 (refine gob ?_ ?_<;>intro h)
 ·have cl1:=zGT xs ((n:Int) - 1) hx zom hl
  have cl2:=zGT ys ((n:Int) - 1) hy zom hl2;have hn1:((n:Int) - 1).toNat=n - 1:=by omega
  have h0:n - 1+1=n:=by omega
  rw[hn1]at cl1 cl2;rw[h0]at hsa hsb;refine zAA cl1 rfl ?_;refine sts ?_;refine zAA cl2 rfl ?_
  (refine gob ?_ ?_<;>intro h)
  ·have:=zJS hx hy (i:=n - 1) (by rw[h0]; exact hnt) (Or.inr (by rw[h0]; exact hsa)) (Or.inr (by rw[h0]; exact hsb)) zom
   refine zAB rfl ?_;unfold vD6;rw[if_pos zom]
  refine zAA cl1 rfl ?_;refine sts ?_;refine zAA cl2 rfl ?_
  (refine gob ?_ ?_<;>intro h)
  ·have:=zJS hy hx (i:=n - 1) (by rw[h0]; exact hnt.symm) (Or.inr (by rw[h0]; exact hsb)) (Or.inr (by rw[h0]; exact hsa)) zom
   refine zAB rfl ?_;unfold vD6;rw[if_neg zom,if_pos zom]
  ·exact⟨n - 1,⟨⟨zom,zom⟩,zom⟩,zAE rfl rfl,zAE rfl rfl,zAC rfl zom,trivial⟩
 ·have h0:n=0:=by omega
  subst h0;rw[zHF,zHF]at hnt;refine zAB rfl ?_;unfold vD6;rw[if_neg zom,if_neg zom]
theorem vUJ:FO 91 Tryz.f91 [.tmp 4] 26:=mkO Tryz.func91 Tryz.ntmps91 Tryz.results91
theorem vOU(xs ys:List Int)(hl:xs.length<2147483648)(hl2:ys.length<2147483648):Fn 91 [vBJ xs,vBJ ys] (.data (.bool (decide (xs=ys)))):=by
 refine zAL vBD hT vUJ zsm ?_
 (refine gob ?_ ?_<;>intro h)
 ·refine zAB rfl ?_
  rw[decide_eq_false (fun e=>by subst e; exact h rfl)]
 ·have hlen:xs.length=ys.length:=by omega
  refine zBA hT (fun n:Nat=>[(0,vBJ xs),(1,vBJ ys),(5,.int .i64 n)]) (fun n=>n≤xs.length∧∀ j,j<n→xs[j]! = ys[j]!) (fun n=>xs.length - n) 0 ⟨zom,fun j hj=>by omega⟩ ?_ ?_
  ·exact⟨zAE rfl rfl,zAE rfl rfl,zAC rfl rfl,trivial⟩
  intro n ⟨hn,he⟩
  (repeat' (first|refine stp ?_|with_reducible(refine brr ?_ ?_<;>intro h)));all_goals try(conv=>whnf)
  ·refine zAB rfl ?_
   rw[decide_eq_false (fun e=>by subst e; exact h rfl)]
  ·exact⟨n+1,⟨⟨zom,fun j hj=>by
    rcases Nat.lt_or_ge j n with q | q
    ·exact he j q
    ·obtain rfl:j=n:=by omega
     exact h⟩,zom⟩,zAE rfl rfl,zAE rfl rfl,zAC rfl zom,trivial⟩
  ·refine zAB rfl ?_
   rw[decide_eq_true];refine List.ext_getElem hlen fun j h1 h2=>?_
   have:=he j zom;rw[getElem!_pos xs j h1,getElem!_pos ys j h2]at this;exact this
def uKE(j:Nat)(O:List Int):Nat×PV:=match O with
 | []=>(j,.nilsl)
 | _::_=>(j,.own 0 0 O.length)
def vE7(O:List Int):List (Nat×Blk):=match O with
 | []=>[]
 | x::l=>[(0,⟨(x::l).map (.int .u32),1,false⟩)]
theorem uJ0(y:Nat):nv [(y:Int)]=y:=by simp[nv]
theorem zK0{O:List Int}{i y:Nat}(h:O.length=i):nv (O++[(y:Int)])=nv O+pw i * y:=by rw[zHD,h,uJ0]
theorem zMM{O xs ys:List Int}{i c c' y:Nat}(h:O.length=i)(i5:nv O+pw i * c=nk xs i+nk ys i)(e:c+(lb xs i+lb ys i)=c' * 4294967296+y) :
 nv (O++[(y:Int)])+pw (i+1) * c'=nk xs (i+1)+nk ys (i+1):=by
 rw[zK0 h,zA9,zA9,zA6]
 have:pw i * c+pw i * lb xs i+pw i * lb ys i=4294967296 * pw i * c'+pw i * y:=by
  rw[← Nat.mul_add,← Nat.mul_add,Nat.mul_comm 4294967296,Nat.mul_assoc,← Nat.mul_add]
  congr 1
  omega
 omega
theorem zDJ{O:List Int}{y:Nat}(h:okN O)(hy:y<4294967296):okN (O++[(y:Int)]):=okN_append.2 ⟨h,fun x hx=>by rw[List.mem_singleton.1 hx]; omega⟩
theorem vZ5:FO 205 Tryz.f205 [.tmp 4] 44:=mkO Tryz.func205 Tryz.ntmps205 Tryz.results205
theorem vW6(xs ys:List Int)(hx:okN xs)(hy:okN ys)(hl:xs.length<2147483647)(hl2:ys.length<2147483647):Fn 205 [vBJ xs,vBJ ys] (.data (vBJ (vBF (nv xs+nv ys)))):=by
 refine zAL vBD hT vZ5 zsm ?_;refine sts ?_
 refine zAP hT (fun((i,O,c):Nat×List Int×Nat)=>[(0,vBJ xs),(1,vBJ ys),uKE 5 O,(6,.int .u64 c),(7,.int .i64 i)]) (fun(_,O,_)=>vE7 O) [] 1
  (fun(i,O,c)=>O.length=i∧i≤2147483646∧okN O∧c<2∧nv O+pw i * c=nk xs i+nk ys i) (fun(i,_,_)=>2147483648 - i) (0,[],0) ⟨rfl,zom,zD6,zom,by rw[zBY,zBY]; rfl⟩ zdd zsm ?_ ?_
 ·exact⟨[],[],[],[],ttt,⟨zAE rfl rfl,zAE rfl rfl,vHR rfl,zAC rfl rfl,zAC rfl rfl,trivial⟩,trivial,by simp[vE7]⟩
 intro⟨i,O,c⟩ ⟨i1,i2,i3,i4,i5⟩;have cl1:=zGT xs (i:Int) hx zom zom;have cl2:=zGT ys (i:Int) hy zom zom;rw[show((i:Int)).toNat=i from rfl]at cl1 cl2;have b1:=zCU hx i;have b2:=zCU hy i;rcases O with _ | ⟨o,O⟩
 ·(repeat' (first|refine stp ?_|with_reducible(refine brr ?_ ?_<;>intro h)));all_goals try(conv=>whnf)
  ·refine zAA cl1 rfl ?_
   refine sts ?_;refine zAA cl2 rfl ?_;refine sts ?_;obtain⟨c',y,e1,e2⟩:∃ c' y,c+(lb xs i+lb ys i)=c' * 4294967296+y∧y<4294967296:=⟨(c+(lb xs i+lb ys i)) / 4294967296,(c+(lb xs i+lb ys i)) % 4294967296,zom,zom⟩;have hst:=zMM i1 i5 e1;refine zCP ?_;rw[show((c:Int)+((lb xs i:Int)+(lb ys i:Int))) % 4294967296=(y:Int) by omega];refine sts ?_
   exact⟨(i+1,[]++[(y:Int)],c'),⟨⟨by simp at i1 ⊢<;>omega,zom,zDJ i3 e2,zom,hst⟩,by show 2147483648 - (i+1)<2147483648 - i; omega⟩,[_],[],[],[],ttt,
    ⟨zAE rfl rfl,zAE rfl rfl,zA0 zdd rfl rfl,zAC rfl (by rw[zDD]; omega),zAC rfl zom,trivial⟩,⟨zAF zdd rfl rfl (zAO fun _=>⟨rfl,zsm⟩) rfl,trivial⟩,by simp[vE7]⟩
  ·refine zAA cl1 rfl ?_
   refine sts ?_;refine zAA cl2 rfl ?_;refine sts ?_;obtain⟨c',y,e1,e2⟩:∃ c' y,c+(lb xs i+lb ys i)=c' * 4294967296+y∧y<4294967296:=⟨(c+(lb xs i+lb ys i)) / 4294967296,(c+(lb xs i+lb ys i)) % 4294967296,zom,zom⟩;have hst:=zMM i1 i5 e1;refine zCP ?_;rw[show((c:Int)+((lb xs i:Int)+(lb ys i:Int))) % 4294967296=(y:Int) by omega];refine sts ?_
   exact⟨(i+1,[]++[(y:Int)],c'),⟨⟨by simp at i1 ⊢<;>omega,zom,zDJ i3 e2,zom,hst⟩,by show 2147483648 - (i+1)<2147483648 - i; omega⟩,[_],[],[],[],ttt,
    ⟨zAE rfl rfl,zAE rfl rfl,zA0 zdd rfl rfl,zAC rfl (by rw[zDD]; omega),zAC rfl zom,trivial⟩,⟨zAF zdd rfl rfl (zAO fun _=>⟨rfl,zsm⟩) rfl,trivial⟩,by simp[vE7]⟩
  ·have hv:nv ([]++[(c:Int)])=nv xs+nv ys:=by rw[zK0 i1,i5,zBW zom,zBW zom]
   have cm:=zCZ ([]++[(c:Int)]) (zDJ i3 zom) (by simp at i1 ⊢<;>omega);rw[hv]at cm;refine zAA cm (zAD (zAJ rfl rfl zsm (fun x=>zB3 x)) rfl) ?_;refine sts ?_;exact zAB rfl rfl
 ·(repeat' (first|refine stp ?_|with_reducible(refine brr ?_ ?_<;>intro h)));all_goals try(conv=>whnf)
  ·refine zAA cl1 rfl ?_
   refine sts ?_;refine zAA cl2 rfl ?_;refine sts ?_;obtain⟨c',y,e1,e2⟩:∃ c' y,c+(lb xs i+lb ys i)=c' * 4294967296+y∧y<4294967296:=⟨(c+(lb xs i+lb ys i)) / 4294967296,(c+(lb xs i+lb ys i)) % 4294967296,zom,zom⟩;have hst:=zMM i1 i5 e1;refine zCP ?_;rw[show((c:Int)+((lb xs i:Int)+(lb ys i:Int))) % 4294967296=(y:Int) by omega];refine sts ?_;refine zBL ⟨rfl,zsm,by simp at i1 ⊢<;>omega⟩ ?_;refine sts ?_
   exact⟨(i+1,(o::O)++[(y:Int)],c'),⟨⟨by simp at i1 ⊢<;>omega,zom,zDJ i3 e2,zom,hst⟩,by show 2147483648 - (i+1)<2147483648 - i; omega⟩,[_],[],[],[],ttt,
    ⟨zAE rfl rfl,zAE rfl rfl,zA0 zdd rfl zsm,zAC rfl (by rw[zDD]; omega),zAC rfl zom,trivial⟩,⟨zAF zdd rfl zsm (zAO fun _=>⟨rfl,zsm⟩) rfl,trivial⟩,by simp[vE7]⟩
  ·refine zAA cl1 rfl ?_
   refine sts ?_;refine zAA cl2 rfl ?_;refine sts ?_;obtain⟨c',y,e1,e2⟩:∃ c' y,c+(lb xs i+lb ys i)=c' * 4294967296+y∧y<4294967296:=⟨(c+(lb xs i+lb ys i)) / 4294967296,(c+(lb xs i+lb ys i)) % 4294967296,zom,zom⟩;have hst:=zMM i1 i5 e1;refine zCP ?_;rw[show((c:Int)+((lb xs i:Int)+(lb ys i:Int))) % 4294967296=(y:Int) by omega];refine sts ?_;refine zBL ⟨rfl,zsm,by simp at i1 ⊢<;>omega⟩ ?_;refine sts ?_
   exact⟨(i+1,(o::O)++[(y:Int)],c'),⟨⟨by simp at i1 ⊢<;>omega,zom,zDJ i3 e2,zom,hst⟩,by show 2147483648 - (i+1)<2147483648 - i; omega⟩,[_],[],[],[],ttt,
    ⟨zAE rfl rfl,zAE rfl rfl,zA0 zdd rfl zsm,zAC rfl (by rw[zDD]; omega),zAC rfl zom,trivial⟩,⟨zAF zdd rfl zsm (zAO fun _=>⟨rfl,zsm⟩) rfl,trivial⟩,by simp[vE7]⟩
  ·have hv:nv ((o::O)++[(c:Int)])=nv xs+nv ys:=by rw[zK0 i1,i5,zBW zom,zBW zom]
   have cm:=zCZ ((o::O)++[(c:Int)]) (zDJ i3 zom) (by simp at i1 ⊢<;>omega);rw[hv]at cm;refine zBL ⟨rfl,zsm,by simp at i1 ⊢<;>omega⟩ ?_;refine sts ?_;refine zAA cm (zAD (zAJ rfl zsm zsm (fun x=>zB3 x)) rfl) ?_;refine sts ?_;exact zAB rfl rfl
theorem zL6{O xs ys:List Int}{i c c' y:Nat}(h:O.length=i)(i5:nv O+nk ys i=nk xs i+pw i * c)(e:lb xs i+c' * 4294967296=lb ys i+c+y) :
 nv (O++[(y:Int)])+nk ys (i+1)=nk xs (i+1)+pw (i+1) * c':=by
 rw[zK0 h,zA9,zA9,zA6]
 have:pw i * c+pw i * y+pw i * lb ys i=4294967296 * pw i * c'+pw i * lb xs i:=by
  rw[← Nat.mul_add,← Nat.mul_add,Nat.mul_comm 4294967296,Nat.mul_assoc,← Nat.mul_add]
  congr 1
  omega
 omega
theorem vMY{O xs ys:List Int}{i c:Nat}(h:O.length=i)(ho:okN O)(hc:c<2)(e:nv O+nk ys i=nk xs i+pw i * c)(hi:xs.length≤i)(hx:okN xs)(hle:nv ys≤nv xs):nv O=nv xs - nv ys:=by
 have h1:=zEN hx;have h2:=zFF hi;have h3:=zCK ys i;have h4:=zEN ho;rw[h]at h4;rw[zBW hi]at e
 have h5:nt ys i=0:=by
  rcases Nat.eq_zero_or_pos (nt ys i) with z | z
  ·exact z
  ·have:=Nat.mul_le_mul_left (pw i) z
   omega
 rw[h5]at h3;rcases(show c=0∨c=1 by omega) with rfl | rfl<;>omega
theorem vZ0:FO 206 Tryz.f206 [.tmp 4,.tmp 5] 45:=mkO Tryz.func206 Tryz.ntmps206 Tryz.results206
theorem vMI(xs ys:List Int)(hx:okN xs)(hy:okN ys)(hl:xs.length<2147483647)(hl2:ys.length<2147483647):Fn 206 [vBJ xs,vBJ ys] (.data (vRS (nv xs) (nv ys))):=by
 have cc:=vW5 xs ys hx hy zom zom;have hcmp:=zNM (nv xs) (nv ys);refine zAL vBD hT vZ0 zsm ?_;refine sts ?_;refine zAA cc rfl ?_
 (refine gob ?_ ?_<;>intro h)
 ·refine zAB rfl ?_
  unfold vRS;rw[if_pos zom]
 refine zAP hT (fun((i,O,c):Nat×List Int×Nat)=>[(0,vBJ xs),(1,vBJ ys),uKE 6 O,(7,.int .u64 c),(8,.int .i64 i)]) (fun(_,O,_)=>vE7 O) [] 1
  (fun(i,O,c)=>O.length=i∧i≤xs.length∧okN O∧c<2∧nv O+nk ys i=nk xs i+pw i * c) (fun(i,_,_)=>xs.length - i) (0,[],0) ⟨rfl,zom,zD6,zom,by rw[zBY,zBY]; rfl⟩ zdd zsm ?_ ?_
 ·exact⟨[],[],[],[],ttt,⟨zAE rfl rfl,zAE rfl rfl,vHR rfl,zAC rfl rfl,zAC rfl rfl,trivial⟩,trivial,by simp[vE7]⟩
 intro⟨i,O,c⟩ ⟨i1,i2,i3,i4,i5⟩;have cl1:=zGT xs (i:Int) hx zom zom;have cl2:=zGT ys (i:Int) hy zom zom;rw[show((i:Int)).toNat=i from rfl]at cl1 cl2;have b1:=zCU hx i;have b2:=zCU hy i;rcases O with _ | ⟨o,O⟩
 ·(refine gob ?_ ?_<;>intro h)
  ·refine zAA cl1 rfl ?_
   refine sts ?_;refine zAA cl2 rfl ?_
   (refine gob ?_ ?_<;>intro h)
   ·obtain⟨b',y,eb,e1,e2⟩:∃ b' y,b'=1∧lb xs i+b' * 4294967296=lb ys i+c+y∧y<4294967296:=⟨1,lb xs i+1 * 4294967296 - (lb ys i+c),rfl,zom,zom⟩
    have hst:=zL6 i1 i5 e1
    exact⟨(i+1,[]++[(y:Int)],b'),⟨⟨by simp at i1 ⊢<;>omega,zom,zDJ i3 e2,zom,hst⟩,by show xs.length - (i+1)<xs.length - i; omega⟩,[_],[],[],[],ttt,
     ⟨zAE rfl rfl,zAE rfl rfl,zA0 zdd rfl rfl,zAC rfl zom,zAC rfl zom,trivial⟩,⟨zAF zdd rfl (by simp; omega) (zAO fun _=>⟨rfl,zsm⟩) rfl,trivial⟩,by simp[vE7]⟩
   ·obtain⟨b',y,eb,e1,e2⟩:∃ b' y,b'=0∧lb xs i+b' * 4294967296=lb ys i+c+y∧y<4294967296:=⟨0,lb xs i+0 * 4294967296 - (lb ys i+c),rfl,zom,zom⟩
    have hst:=zL6 i1 i5 e1
    exact⟨(i+1,[]++[(y:Int)],b'),⟨⟨by simp at i1 ⊢<;>omega,zom,zDJ i3 e2,zom,hst⟩,by show xs.length - (i+1)<xs.length - i; omega⟩,[_],[],[],[],ttt,
     ⟨zAE rfl rfl,zAE rfl rfl,zA0 zdd rfl rfl,zAC rfl zom,zAC rfl zom,trivial⟩,⟨zAF zdd rfl (by simp; omega) (zAO fun _=>⟨rfl,zsm⟩) rfl,trivial⟩,by simp[vE7]⟩
  ·have hO:=vMY (O:=[]) i1 i3 i4 i5 zom hx zom
   have cm:=zCZ [] i3 (by simp at i1 ⊢<;>omega);rw[hO]at cm;refine zAA cm rfl ?_;refine sts ?_;refine zAB rfl ?_;unfold vRS;rw[if_neg zom]
 ·(refine gob ?_ ?_<;>intro h)
  ·refine zAA cl1 rfl ?_
   refine sts ?_;refine zAA cl2 rfl ?_
   (refine gob ?_ ?_<;>intro h)
   ·obtain⟨b',y,eb,e1,e2⟩:∃ b' y,b'=1∧lb xs i+b' * 4294967296=lb ys i+c+y∧y<4294967296:=⟨1,lb xs i+1 * 4294967296 - (lb ys i+c),rfl,zom,zom⟩
    have hst:=zL6 i1 i5 e1;refine zBL ⟨rfl,zsm,by simp at i1 ⊢<;>omega⟩ ?_;refine sts ?_
    exact⟨(i+1,(o::O)++[(y:Int)],b'),⟨⟨by simp at i1 ⊢<;>omega,zom,zDJ i3 e2,zom,hst⟩,by show xs.length - (i+1)<xs.length - i; omega⟩,[_],[],[],[],ttt,
     ⟨zAE rfl rfl,zAE rfl rfl,zA0 zdd rfl zsm,zAC rfl zom,zAC rfl zom,trivial⟩,⟨zAF zdd rfl (by simp; omega) (zAO fun _=>⟨rfl,zsm⟩) rfl,trivial⟩,by simp[vE7]⟩
   ·obtain⟨b',y,eb,e1,e2⟩:∃ b' y,b'=0∧lb xs i+b' * 4294967296=lb ys i+c+y∧y<4294967296:=⟨0,lb xs i+0 * 4294967296 - (lb ys i+c),rfl,zom,zom⟩
    have hst:=zL6 i1 i5 e1;refine zBL ⟨rfl,zsm,by simp at i1 ⊢<;>omega⟩ ?_;refine sts ?_
    exact⟨(i+1,(o::O)++[(y:Int)],b'),⟨⟨by simp at i1 ⊢<;>omega,zom,zDJ i3 e2,zom,hst⟩,by show xs.length - (i+1)<xs.length - i; omega⟩,[_],[],[],[],ttt,
     ⟨zAE rfl rfl,zAE rfl rfl,zA0 zdd rfl zsm,zAC rfl zom,zAC rfl zom,trivial⟩,⟨zAF zdd rfl (by simp; omega) (zAO fun _=>⟨rfl,zsm⟩) rfl,trivial⟩,by simp[vE7]⟩
  ·have hO:=vMY (O:=(o::O)) i1 i3 i4 i5 zom hx zom
   have cm:=zCZ (o::O) i3 (by simp at i1 ⊢<;>omega);rw[hO]at cm;refine zAA cm (zAD (zAJ rfl rfl zsm (fun x=>zB3 x)) rfl) ?_;refine sts ?_;refine zAB rfl ?_;unfold vRS;rw[if_neg zom]
theorem vZ2:FO 187 Tryz.f187 [.tmp 4] 59:=mkO Tryz.func187 Tryz.ntmps187 Tryz.results187
theorem zNT(A B:List Int)(ha:okN A)(hb:okN B)(hl:A.length<1073741823)(hl2:B.length<1073741823):Fn 187 [vBJ A,vBJ B] (.data (vBJ (vBF (nv A * nv B)))):=by
 refine zAL vBD hT vZ2 zsm ?_;refine sts ?_
 refine zAP hT (fun((i,O):Nat×List Int)=>[(0,vBJ A),(1,vBJ B),(5,.own 0 0 (A.length+B.length+1)),(6,.int .i64 i)]) (fun(_,O)=>[(0,⟨O.map (.int .u32),1,false⟩)]) [] 1
  (fun(i,O)=>i≤A.length∧O.length=A.length+B.length+1∧okN O∧nv O=nk A i * nv B∧∀ j,i+B.length≤j→lb O j=0) (fun(i,_)=>A.length - i) (0,List.replicate (A.length+B.length+1) 0) ⟨zsm,zsm,zDF _,by simp[zJQ,zBY],fun j _=>zME _ j⟩ zdd zsm ?_ ?_
 ·exact⟨[_],[],[],[],ttt,⟨zAE rfl rfl,zAE rfl rfl,zA0 zdd rfl (by simp only[List.length_map]; omega),zAC rfl rfl,trivial⟩,⟨zAF zdd rfl (zM0 (f:=PV.int .u32) (x:=0) (by simp only[List.length_map]; omega)) (zAO fun _=>⟨rfl,zsm⟩) rfl,trivial⟩,by simp[ren]⟩
 intro⟨i,O⟩ ⟨hi,hO,hok,hv,hz⟩
 (refine gob ?_ ?_<;>intro h)
 ·refine zAP hT (fun((k,P,c):Nat×List Int×Nat)=>[(0,vBJ A),(1,vBJ B),(5,.own 0 0 (A.length+B.length+1)),(6,.int .i64 i),(7,.int .u64 c),(8,.int .i64 k)]) (fun(_,P,_)=>[(0,⟨P.map (.int .u32),1,false⟩)]) [] 1
   (fun(k,P,c)=>k≤B.length+1∧P.length=A.length+B.length+1∧okN P∧c<4294967296∧nv P+c * pw (i+k)=nv O+pw i * (lb A i * nk B k)∧(∀ j,i+B.length+1≤j→lb P j=0)∧(k≤B.length→lb P (i+B.length)=0)∧(k=B.length+1→c=0)) (fun(k,_,_)=>B.length+1 - k) (0,O,0)
   ⟨zsm,hO,hok,zsm,by simp[zBY],fun j hj=>hz j zom,fun _=>hz _ zom,fun _=>rfl⟩ zdd zsm ?_ ?_
  ·exact⟨[0],[],[],[],ttt,⟨zAE rfl rfl,zAE rfl rfl,zA0 zdd rfl rfl,zAC rfl rfl,zAC rfl rfl,zAC rfl rfl,trivial⟩,⟨zAF zdd rfl rfl (zAO fun _=>⟨rfl,zsm⟩) rfl,trivial⟩,by simp[ren]⟩
  intro⟨k,P,c⟩ ⟨hk,hP,hokP,hc,hvP,hzP,hzk,hck⟩;have cl:=zGT B (k:Int) hb zom zom;rw[show((k:Int)).toNat=k from rfl]at cl;have ha1:0≤A[i]! ∧ A[i]! < 4294967296:=zC3 ha zom;have h1:=zBF (show i<A.length by omega) ha;have hBk:=zCU hb k;have hpr:0≤A[i]! * (lb B k:Int)∧A[i]! * (lb B k:Int)≤18446744065119617025:=vTX ha1 zom;have hPk:k≤B.length→0≤P[i+k]! ∧ P[i+k]! < 4294967296:=fun h=>zC3 hokP zom
  (refine gob ?_ ?_<;>intro h)
  ·refine zAA cl rfl ?_
   refine sts ?_;refine zBT (i+k) zom zom ?_;have hP1:=hPk zom;have h3:=zBF (show i+k<P.length by omega) hokP;obtain⟨s,hs⟩:∃ s,c+(lb A i * lb B k+lb P (i+k))=s:=⟨_,rfl⟩
   have hsI:(s:Int)=↑c+(A[i]! * (lb B k:Int)+P[i+k]!):=by
    rw[← hs]; simp only[Int.natCast_add,Int.natCast_mul,h1,h3]
   refine sts ?_;refine zCP ?_;refine sts ?_;refine zBT (i+k) zom zom ?_;refine sts ?_
   refine⟨(k+1,P.set (i+k) ((s % 4294967296:Nat):Int),s / 4294967296),⟨⟨zom,by simp[hP],zBX hokP _ zom,zom,?_,fun j hj=>by rw[zJX zom]; exact hzP j hj,fun hk2=>by rw[zJX zom]; exact hzk zom,fun hk2=>?_⟩,by show B.length+1 - (k+1)<B.length+1 - k; omega⟩,[0],[],[],[],ttt,
    ⟨zAE rfl rfl,zAE rfl rfl,zA0 zdd rfl rfl,zAC rfl rfl,zAC rfl (by rw[zDD,← hsI]; omega),zAC rfl zom,trivial⟩,⟨zAF zdd rfl (zC2 zom (by rw[← hsI]; omega)) (zAO fun _=>⟨rfl,zsm⟩) rfl,trivial⟩,by simp[ren]⟩
   ·have e1:=zLO (a:=P) (j:=i+k) ((s % 4294967296:Nat):Int) zom
    have e2:=zD7 (pw (i+k)) s;rw[Int.toNat_natCast]at e1;rw[zA9,show i+(k+1)=i+k+1 by omega,zA6];rw[← hs]at e1 e2 ⊢;simp only[Nat.mul_add,zOL]at e1 e2 hvP ⊢;simp only[Nat.mul_comm,Nat.mul_left_comm,Nat.mul_assoc]at e1 e2 hvP ⊢;omega
   ·have hkB:k=B.length:=by omega
    subst hkB;rw[zHL (Nat.le_refl _),hzk (Nat.le_refl _),Nat.mul_zero]at hs;omega
  ·have hk1:k=B.length+1:=by omega
   have hc0:=hck hk1;subst hc0
   exact⟨(i+1,P),⟨⟨zom,hP,hokP,by rw[hk1,zA9,zHL (Nat.le_refl _),zBW (a:=B) (Nat.le_refl _)]at hvP; simp only[Nat.mul_zero,Nat.add_zero,Nat.zero_mul]at hvP; rw[zA9,Nat.add_mul,← hv,Nat.mul_assoc]; omega,fun j hj=>hzP j zom⟩,by show A.length - (i+1)<A.length - i; omega⟩,[0],[],[],[],ttt,
    ⟨zAE rfl rfl,zAE rfl rfl,zA0 zdd rfl rfl,zAC rfl zom,trivial⟩,⟨zAF zdd rfl rfl (zAO fun _=>⟨rfl,zsm⟩) rfl,trivial⟩,by simp[ren]⟩
 ·have hi':i=A.length:=by omega
  rw[hi',zBW (a:=A) (Nat.le_refl _)]at hv;have ct:=zCZ O hok zom;rw[hv]at ct;refine zAA ct (zAD (zAJ rfl rfl zom (fun x=>zB3 x)) rfl) ?_;refine sts ?_;exact zAB rfl rfl
theorem vUI:FO 207 Tryz.f207 [.tmp 2,.tmp 3] 28:=mkO Tryz.func207 Tryz.ntmps207 Tryz.results207
theorem vOT(xs:List Int)(hx:okN xs)(hl:xs.length<2147483647):Fn 207 [vBJ xs] (.data (if nv xs<18446744073709551616 then .tup [.int .u64 (nv xs),.bool true] else .tup [.int .u64 0,.bool false])):=by
 have ct:=zCZ xs hx zom;have h2:=zAU hx;have ha:=zEF (nv xs);have hv:=zAQ (nv xs);generalize nv xs=N at *
 have hnil:vBF N=[]→N=0:=zCY;generalize vBF N=A at *
 have p2:pw 2=18446744073709551616:=by rw[zA6,zA6,zDB]
 have p1:pw 1=4294967296:=by rw[zA6,zDB]
 have hlt:=zEN ha.1;refine zAL vBD hT vUI zsm ?_;refine sts ?_;refine zAA ct rfl ?_
 (repeat' (first|refine stp ?_|with_reducible(refine brr ?_ ?_<;>intro h)));all_goals try(conv=>whnf)
 ·have:=hnil (List.length_eq_zero_iff.1 zom)
  subst this;rw[if_pos zom];exact zAB rfl rfl
 ·have hl1:A.length=1:=by omega
  have g:=zBF (a:=A) (k:=0) zom ha.1;have b:=zCU ha.1 0;have e:nv A=lb A 0:=by rw[← zBW (a:=A) (k:=1) zom,zA9,zBY,zDB]; omega
  have hA0:0≤A[0]! ∧ A[0]! < 4294967296:=by omega
  rw[if_pos zom];refine sts ?_;refine zAB rfl ?_;rw[← g,← e,hv]
 ·have hl1:A.length=2:=by omega
  have g0:=zBF (a:=A) (k:=0) zom ha.1;have b0:=zCU ha.1 0;have g1:=zBF (a:=A) (k:=1) zom ha.1;have b1:=zCU ha.1 1;have e:nv A=lb A 0+4294967296 * lb A 1:=by rw[← zBW (a:=A) (k:=2) zom,zA9,zA9,zBY,zDB,p1]; omega
  have hA0:0≤A[0]! ∧ A[0]! < 4294967296:=by omega
  have hA1:0≤A[1]! ∧ A[1]! < 4294967296:=by omega
  have ee:vFO .or .u64 A[0]! (A[1]! * vD8 .u64 32)=(N:Int):=by rw[vGT hA1 hA0]; omega
  rw[if_pos zom];refine sts ?_;refine zA1 (j:=1) rfl zom ?_;refine sts ?_;refine zE3 ?_ ?_
  ·rw[zGP]; omega
  refine sts ?_;refine zAB rfl ?_;rw[ee]
 ·have hge:=zNP ha (fun e=>by subst e; simp at *)
  have:=zFF (show 2≤A.length - 1 by omega);rw[if_neg zom];refine sts ?_;exact zAB rfl rfl
theorem vUM:FO 208 Tryz.f208 [.tmp 2] 27:=mkO Tryz.func208 Tryz.ntmps208 Tryz.results208
theorem uBZ(xs:List Int)(hx:okN xs)(hl:xs.length<2147483647):Fn 208 [vBJ xs] (.data (.int .i64 (vFN (nv xs)))):=by
 have h2:=zAU hx;have hok:=zAN (nv xs);refine zAL vBD hT vUM zsm ?_;refine sts ?_;refine zAA (zCZ xs hx zom) rfl ?_
 (refine gob ?_ ?_<;>intro h)
 ·refine zAB rfl ?_
  have:vBF (nv xs)=[]:=List.length_eq_zero_iff.1 zom;have:=zCY this;unfold vFN;rw[if_pos this]
 ·refine zA1 (j:=(vBF (nv xs)).length - 1) (by simp only[List.length_map]; omega) zom ?_
  refine sts ?_;have hg:=zBF (show(vBF (nv xs)).length - 1<(vBF (nv xs)).length by omega) hok;have hlt:=zCU hok ((vBF (nv xs)).length - 1)
  have hne:nv xs≠0:=fun e=>by
   have:(vBF (nv xs)).length=0:=by rw[e]; rfl
   omega
  have hbv:vFN (nv xs)=32 * ((vBF (nv xs)).length - 1:Nat)+bl (lb (vBF (nv xs)) ((vBF (nv xs)).length - 1)):=by unfold vFN; rw[if_neg hne]
  rw[hbv];generalize lb (vBF (nv xs)) ((vBF (nv xs)).length - 1)=T at *
  refine zBA hT (fun((n,t):Nat×Nat)=>[(3,.int .i64 n),(4,.int .u32 t)]) (fun(n,t)=>t<4294967296∧n+bl t=32 * ((vBF (nv xs)).length - 1)+bl T) (fun(_,t)=>t) (32 * ((vBF (nv xs)).length - 1),T) ⟨hlt,rfl⟩ ?_ ?_
  ·exact⟨zAC rfl (by simp only[List.length_map]; omega),zAC rfl hg.symm,trivial⟩
  intro⟨n,t⟩ ⟨i1,i2⟩;have hT32:=(zCH 32 T hlt zdd).2.2;have ht32:=(zCH 32 t i1 zdd).2.2
  (refine gob ?_ ?_<;>intro h)
  ·have hh:=zFY (n:=t) zom zom
   have hf:(t:Int).fdiv (vD8 .u32 1)=((t / 2:Nat):Int):=by rw[zJ1 (j:=1) rfl]; omega
   exact⟨(n+1,t / 2),⟨⟨zom,zom⟩,by show t / 2<t; omega⟩,zAC rfl zom,zAC rfl hf,trivial⟩
  ·have h0:t=0:=by omega
   subst h0;rw[vHQ]at i2;refine zAB rfl ?_
   congr 1
   omega
theorem vZ1:FO 209 Tryz.f209 [.tmp 4] 40:=mkO Tryz.func209 Tryz.ntmps209 Tryz.results209
theorem uHR(xs:List Int)(hx:okN xs)(hl:xs.length<2147483646):Fn 209 [vBJ xs,.int .i64 1] (.data (vBJ (vBF (2 * nv xs)))):=by
 refine zAL vBD hT vZ1 zsm ?_;have eq:(1:Int).tdiv 32=0:=rfl;have em:(1:Int).tmod 32=1:=rfl;refine sts ?_
 refine zAP hT (fun((i,O,c):Nat×List Int×Nat)=>[(0,vBJ xs),(1,.int .i64 1),(5,.own 0 0 i),(6,.int .u64 c),(7,.int .i64 i)]) (fun(_,O,_)=>[(0,⟨O.map (.int .u32),1,false⟩)]) [] 1
  (fun(i,O,c)=>O.length=i∧i≤xs.length∧okN O∧c<2∧nv O+pw i * c=2 * nk xs i) (fun(i,_,_)=>xs.length - i) (0,[],0) ⟨rfl,zom,zD6,zom,by rw[zBY]; rfl⟩ zdd zsm ?_ ?_
 ·exact⟨[_],[],[],[],ttt,⟨zAE rfl rfl,zAC rfl rfl,zA0 zdd rfl rfl,zAC rfl rfl,zAC rfl rfl,trivial⟩,⟨zAF zdd rfl rfl zsm rfl,trivial⟩,by simp[ren]⟩
 intro⟨i,O,c⟩ ⟨i1,i2,i3,i4,i5⟩;have b1:=zCU hx i;have hXi:i<xs.length→xs[i]! = (lb xs i:Int):=fun h=>(zBF h hx).symm
 (refine gob ?_ ?_<;>intro h)
 ·have hx1:=hXi zom
  have e2:vD8 .u64 1=2:=by rw[zMW zdd]; rfl
  have eo:vFO .or .u64 (c:Int) ((lb xs i:Int) * 2)=((2 * lb xs i+c:Nat):Int):=by
   have:=zLF (a:=lb xs i) (b:=c) (i:=1) zom zom;rw[show((2 ^ 1 * lb xs i:Nat):Int)=(lb xs i:Int) * 2 by omega]at this;rw[this]
  rw[hx1,em,e2];obtain⟨c',y,e1,e3⟩:∃ c' y,2 * lb xs i+c=c' * 4294967296+y∧y<4294967296:=⟨(2 * lb xs i+c) / 4294967296,(2 * lb xs i+c) % 4294967296,zom,zom⟩;refine zE3 zom ?_;refine sts ?_;rw[eo];refine zCP ?_;refine sts ?_
  refine⟨(i+1,O++[(y:Int)],c'),⟨⟨by simp[i1],zom,zDJ i3 e3,zom,?_⟩,by show xs.length - (i+1)<xs.length - i; omega⟩,[_],[],[],[],ttt,
   ⟨zAE rfl rfl,zAC rfl rfl,zA0 zdd rfl zsm,zAC rfl (by rw[zDD]; omega),zAC rfl zom,trivial⟩,⟨zAF zdd rfl (by simp; omega) (zAO fun _=>⟨rfl,zsm⟩) rfl,trivial⟩,by simp[ren]⟩
  rw[zK0 i1,zA9,zA6]
  have:pw i * c+pw i * (2 * lb xs i)=4294967296 * pw i * c'+pw i * y:=by
   rw[← Nat.mul_add,Nat.mul_comm 4294967296,Nat.mul_assoc,← Nat.mul_add]
   congr 1
   omega
  rw[Nat.mul_left_comm]at this;omega
 ·have hi:i=xs.length:=by omega
  have hv:nv (O++[(c:Int)])=2 * nv xs:=by rw[zK0 i1,i5,zBW zom]
  have cm:=zCZ (O++[(c:Int)]) (zDJ i3 zom) (by simp; omega);rw[hv]at cm;refine zAA cm (zAD (zAJ rfl zsm (by simp[i1]) (fun x=>zB3 x)) rfl) ?_;refine sts ?_;exact zAB rfl rfl
theorem uH2(N:Nat):∃ m:Nat,vFN N=m∧N<2 ^ m∧m≤32 * (vBF N).length:=by
 unfold vFN;by_cases h:N=0
 ·subst h; exact⟨0,rfl,zdd,zsm⟩
 ·rw[if_neg h]
  have hn:vBF N≠[]:=fun e=>h (zCY e)
  have hl:0<(vBF N).length:=List.length_pos_iff.2 hn;have ho:=zAN N;obtain⟨L,hL⟩:∃ L,(vBF N).length=L+1:=⟨(vBF N).length - 1,zom⟩;rw[hL];have hlt:=zCU ho L;have hb:=zCH 32 _ hlt zdd;refine⟨32 * L+bl (lb (vBF N) L),zsm,?_,zom⟩;have e:N=nk (vBF N) L+pw L * lb (vBF N) L:=by rw[← zA9,zBW zom,zAQ]
  have h1:=zN8 ho L;rw[Nat.pow_add,← vNK];have h2:=Nat.mul_le_mul_left (pw L) (show lb (vBF N) L+1≤2 ^ bl (lb (vBF N) L) by omega);rw[Nat.mul_add]at h2;omega
theorem vLN:FO 190 Tryz.f190 [.tmp 4,.tmp 5,.tmp 6] 89:=mkO Tryz.func190 Tryz.ntmps190 Tryz.results190
theorem zLE(xs ys:List Int)(hx:okN xs)(hy:okN ys)(hl:xs.length<2147483636)(hl2:ys.length<2147483636):Fn 190 [vBJ xs,vBJ ys] (.data (.tup [vBJ (vBF (nv xs / nv ys)),vBJ (if nv ys=0 then [] else vBF (nv xs % nv ys)),.int .i64 (if nv ys=0 then 3 else 0)])):=by
 have cu1:=vOT xs hx zom;have cu2:=vOT ys hy zom;have cb:=uBZ xs hx zom;obtain⟨m0,em,hm1,hm2⟩:=uH2 (nv xs);rw[em]at cb;have hm3:m0≤32 * xs.length:=by have:=zAU hx; omega
 refine zAL vBD hT vLN zsm ?_
 (repeat' (first|refine stp ?_|with_reducible(refine brr ?_ ?_<;>intro h)));all_goals try(conv=>whnf)
 by_cases k1:nv xs<18446744073709551616<;>by_cases k2:nv ys<18446744073709551616
 all_goals first | rw[if_pos k1]at cu1 | rw[if_neg k1]at cu1
 all_goals first | rw[if_pos k2]at cu2 | rw[if_neg k2]at cu2
 all_goals (refine zAA cu1 rfl ?_; (repeat' (first|refine stp ?_|with_reducible(refine brr ?_ ?_<;>intro h)));all_goals try(conv=>whnf))
 all_goals (refine zAA cu2 rfl ?_; (repeat' (first|refine stp ?_|with_reducible(refine brr ?_ ?_<;>intro h)));all_goals try(conv=>whnf))
 ·have h0:nv ys=0:=by omega
  refine zAB rfl ?_;rw[h0,Nat.div_zero,if_pos rfl,if_pos rfl]; rfl
 ·have h0:nv ys≠0:=by omega
  obtain⟨q,hq⟩:∃ q,q=nv xs / nv ys:=⟨_,rfl⟩;obtain⟨r,hr⟩:∃ r,r=nv xs % nv ys:=⟨_,rfl⟩;have e1:(nv xs:Int).tdiv (nv ys)=(q:Int):=by rw[hq]; exact(Int.ofNat_tdiv ..).symm
  have e2:(nv xs:Int).tmod (nv ys)=(r:Int):=by rw[hr]; exact(Int.ofNat_tmod ..).symm
  have b1:q≤nv xs:=hq ▸ Nat.div_le_self ..;have b2:r≤nv xs:=hr ▸ Nat.mod_le ..;rw[e1];refine zE3 zom ?_
  (repeat' (first|refine stp ?_|with_reducible(refine brr ?_ ?_<;>intro h)));all_goals try(conv=>whnf)
  refine zAA (vOV _ zom) rfl ?_
  (repeat' (first|refine stp ?_|with_reducible(refine brr ?_ ?_<;>intro h)));all_goals try(conv=>whnf)
  rw[e2];refine zAA (vOV _ zom) rfl ?_
  (repeat' (first|refine stp ?_|with_reducible(refine brr ?_ ?_<;>intro h)));all_goals try(conv=>whnf)
  refine zAB rfl ?_;rw[if_neg h0,if_neg h0,← hq,← hr]
 rotate_left
 ·have h0:nv ys=0:=by omega
  refine zAB rfl ?_;rw[h0,Nat.div_zero,if_pos rfl,if_pos rfl]; rfl
 all_goals
  have hM:nv ys≠0:=by omega
  refine zAA cb rfl ?_
  (repeat' (first|refine stp ?_|with_reducible(refine brr ?_ ?_<;>intro h)));all_goals try(conv=>whnf)
  refine zAP hT (fun((m,Q,q,R):Nat×List Int×Nat×Nat)=>[(0,vBJ xs),(1,vBJ ys),(11,.own 0 0 xs.length),(12,vBJ (vBF R)),(13,.int .i64 ((m:Int) - 1))]) (fun(_,Q,_)=>[(0,⟨Q.map (.int .u32),1,false⟩)]) [] 1
   (fun(m,Q,q,R)=>m≤32 * xs.length∧Q.length=xs.length∧okN Q∧nv Q=2 ^ m * q∧nv xs / 2 ^ m=q * nv ys+R∧R<nv ys) (fun(m,_)=>m) (m0,List.replicate xs.length 0,0,0) ⟨hm3,zsm,zDF _,by rw[zJQ]; rfl,by rw[Nat.div_eq_of_lt hm1]; simp,zom⟩ zdd zsm ?_ ?_
  ·exact⟨[28],[29],[(12,vBJ (vBF 0))],[],⟨⟨⟨_,rfl⟩,trivial⟩,⟨⟨4,[29],zAJ (f:=PV.int .u32) (l:=[]) rfl rfl rfl (fun x=>zB3 x),rfl⟩,trivial⟩,trivial⟩,
    ⟨zAE rfl rfl,zAE rfl rfl,zA0 zdd rfl (by simp only[List.length_map]; omega),zAE rfl rfl,zAC rfl rfl,trivial⟩,⟨zAF zdd rfl (zM0 (f:=PV.int .u32) (x:=0) (by simp only[List.length_map]; omega)) (zAO fun _=>⟨rfl,zsm⟩) rfl,trivial⟩,by simp[ren]⟩
  intro⟨m,Q,q,R⟩ ⟨i1,i2,i3,i4,i5,i6⟩;have hR:R<pw ys.length:=Nat.lt_trans i6 (zEN hy);have hRl:=zB1 hR
  (repeat' (first|refine stp ?_|with_reducible(refine brr ?_ ?_<;>intro h)));all_goals try(conv=>whnf)
  ·have hm:1≤m:=by omega
   obtain⟨j,hj⟩:∃ j,j=(m - 1) / 32:=⟨_,rfl⟩;obtain⟨s,hs⟩:∃ s,s=(m - 1) % 32:=⟨_,rfl⟩;have e3:((m:Int) - 1).tdiv 32=(j:Int):=by rw[Int.tdiv_eq_ediv_of_nonneg zom]; omega
   have e4:((m:Int) - 1).tmod 32=(s:Int):=by rw[Int.tmod_eq_emod_of_nonneg zom]; omega
   have c1:=uHR (vBF R) (zAN R) zom;rw[zAQ]at c1;refine zAA c1 rfl ?_
   (repeat' (first|refine stp ?_|with_reducible(refine brr ?_ ?_<;>intro h)));all_goals try(conv=>whnf)
   have b:=zCU hx j;have hj2:j<xs.length:=by omega
   have hg:=zBF hj2 hx;refine zA1 (j:=j) (by rw[e3]) zom ?_;obtain⟨bit,hbit⟩:∃ bit,bit=nv xs / 2 ^ (m - 1) % 2:=⟨_,rfl⟩;have hb2:bit<2:=by omega
   have hs2:s<32:=by omega
   have eb:vFO .and .u32 ((xs[j]!).fdiv (vD8 .u32 (((m:Int) - 1).tmod 32))) 1=(bit:Int):=by
    rw[e4,← hg,vM3 zom,show((2:Int) ^ ((s:Int).toNat))=((2 ^ s:Nat):Int) by simp,Int.fdiv_eq_ediv_of_nonneg _ (Int.natCast_nonneg _),← Int.natCast_ediv,vXN (Nat.lt_of_le_of_lt (Nat.div_le_self ..) b),hbit,uK9 hx,← hj,← hs]
   have hp1:pw (ys.length+1)=4294967296 * pw ys.length:=zA6 _;have hl1:(vBF (2 * R)).length≤ys.length+1:=zB1 zom;have ca:=vW6 (vBF (2 * R)) [(bit:Int)] (zAN _) (okN_cons.2 ⟨zom,zD6⟩) zom zsm;rw[zAQ,show nv [(bit:Int)]=bit by simp[nv]]at ca;obtain⟨X,hX⟩:∃ X,X=2 * R+bit:=⟨_,rfl⟩;rw[← hX]at ca;have hl3:(vBF X).length≤ys.length+1:=zB1 zom;have cc:=vW5 (vBF X) ys (zAN _) hy zom zom;have cs:=vMI (vBF X) ys (zAN _) hy zom zom;rw[zAQ]at cc cs
   have h5:nv xs / 2 ^ (m - 1)=2 * (nv xs / 2 ^ m)+bit:=by
    have:2 ^ m=2 ^ (m - 1) * 2:=by rw[← Nat.pow_succ]; congr 1; omega
    rw[this,← Nat.div_div_eq_div_mul]; omega
   rw[i5,Nat.mul_add,← Nat.mul_assoc]at h5
   have h4:nv Q=2 ^ (m - 1) * (2 * q):=by
    have:2 ^ m=2 ^ (m - 1) * 2:=by rw[← Nat.pow_succ]; congr 1; omega
    rw[i4,this,Nat.mul_assoc]
   (repeat' (first|refine stp ?_|with_reducible(refine brr ?_ ?_<;>intro h)));all_goals try(conv=>whnf)
   refine zAA ca (zAD rfl (zAD (zAJ rfl (by rw[eb]; rfl) rfl (fun x=>zB3 x)) rfl)) ?_
   (repeat' (first|refine stp ?_|with_reducible(refine brr ?_ ?_<;>intro h)));all_goals try(conv=>whnf)
   refine zAA cc rfl ?_
   (repeat' (first|refine stp ?_|with_reducible(refine brr ?_ ?_<;>intro h)));all_goals try(conv=>whnf)
   ·have hge:nv ys≤X:=by have:=(zNM X (nv ys)); omega
    unfold vRS at cs;rw[if_neg zom]at cs;refine zAA cs rfl ?_
    (repeat' (first|refine stp ?_|with_reducible(refine brr ?_ ?_<;>intro h)));all_goals try(conv=>whnf)
    obtain⟨c,hc⟩:=uA2 (i:=m - 1) (q:=q) i3 (by rw[Nat.sub_add_cancel hm]; exact i4);rw[← hj,← hs]at hc;have bQ:=zCU i3 j;have hgQ:=zBF (show j<Q.length by omega) i3;have ho:=uGM (s:=s) (c:=c) hs2 zom;refine zBT j (by rw[e3]; simp) zom ?_
    (repeat' (first|refine stp ?_|with_reducible(refine brr ?_ ?_<;>intro h)));all_goals try(conv=>whnf)
    obtain⟨p,hp⟩:∃ p,p=2 ^ s:=⟨_,rfl⟩;rw[← hp]at ho;have es:(1:Int) * vD8 .u32 (((m:Int) - 1).tmod 32)=(p:Int):=by rw[e4,vM3 zom,hp]; simp
    have eo:vFO .or .u32 (Q[j]!) (p:Int)=((lb Q j+p:Nat):Int):=by rw[← hgQ,hc]; exact ho.1
    rw[← hc]at ho
    have hQ':nv (Q.set j ((lb Q j+p:Nat):Int))=2 ^ (m - 1) * (2 * q+1):=by
     have h6:=zLO (a:=Q) (j:=j) ((lb Q j+p:Nat):Int) zom;rw[Int.toNat_natCast,Nat.mul_add]at h6;have h7:pw j * p=2 ^ (m - 1):=by rw[vNK,hp,← Nat.pow_add]; congr 1; omega
     rw[h7]at h6;rw[Nat.mul_add,Nat.mul_one,← h4];omega
    have hok':okN (Q.set j ((lb Q j+p:Nat):Int)):=zBX i3 j ⟨zom,zom⟩;rw[es];refine vIU zom ?_
    (repeat' (first|refine stp ?_|with_reducible(refine brr ?_ ?_<;>intro h)));all_goals try(conv=>whnf)
    refine zBT j (by rw[e3]; simp) zom ?_
    (repeat' (first|refine stp ?_|with_reducible(refine brr ?_ ?_<;>intro h)));all_goals try(conv=>whnf)
    exact⟨(m - 1,Q.set j ((lb Q j+p:Nat):Int),2 * q+1,X - nv ys),⟨⟨zom,by simp[i2],hok',hQ',by rw[Nat.add_mul]; omega,zom⟩,by show m - 1<m; omega⟩,[_],[],[],[],ttt,
     ⟨zAE rfl rfl,zAE rfl rfl,zA0 zdd rfl rfl,zAE rfl rfl,zAC rfl zom,trivial⟩,⟨zAF zdd rfl (zC2 (by rw[e3]; simp) eo) (zAO fun _=>⟨rfl,zsm⟩) rfl,trivial⟩,by simp[ren]⟩
   ·have hge:X<nv ys:=by have:=(zNM X (nv ys)); omega
    exact⟨(m - 1,Q,2 * q,X),⟨⟨zom,i2,i3,h4,zom,hge⟩,by show m - 1<m; omega⟩,[_],[],[],[],ttt,
     ⟨zAE rfl rfl,zAE rfl rfl,zA0 zdd rfl rfl,zAE rfl rfl,zAC rfl zom,trivial⟩,⟨zAF zdd rfl rfl (zAO fun _=>⟨rfl,zsm⟩) rfl,trivial⟩,by simp[ren]⟩
  ·have h0:m=0:=by omega
   subst h0;have cm:=zCZ Q i3 zom;rw[Nat.pow_zero,Nat.div_one]at i5;rw[Nat.pow_zero,Nat.one_mul]at i4;refine zAA cm (zAD (zAJ rfl rfl zom (fun x=>zB3 x)) rfl) ?_
   (repeat' (first|refine stp ?_|with_reducible(refine brr ?_ ?_<;>intro h)));all_goals try(conv=>whnf)
   refine zAB rfl ?_;have e1:nv xs / nv ys=nv Q:=by rw[i5,i4,Nat.mul_comm,Nat.mul_add_div zom,Nat.div_eq_of_lt i6]; rfl
   have e2:nv xs % nv ys=R:=by rw[i5,Nat.mul_comm,Nat.mul_add_mod,Nat.mod_eq_of_lt i6]
   rw[if_neg hM,if_neg hM,e1,e2]
theorem vZ3:FO 189 Tryz.f189 [.tmp 4] 25:=mkO Tryz.func189 Tryz.ntmps189 Tryz.results189
theorem uHS(xs ys:List Int)(hx:okN xs)(hy:okN ys)(hl:xs.length<2147483636)(hl2:ys.length<2147483636):Fn 189 [vBJ xs,vBJ ys] (.data (vBJ (vBF (Nat.gcd (nv xs) (nv ys))))):=by
 have ct1:=zCZ xs hx zom;have ct2:=zCZ ys hy zom;have h1:=zAU hx;have h2:=zAU hy;generalize nv xs=P0 at *
 generalize nv ys=Q0 at *
 obtain⟨g,eg⟩:∃ g,Nat.gcd P0 Q0=g:=⟨_,rfl⟩;rw[eg];refine zAL vBD hT vZ3 zsm ?_;refine sts ?_;refine zAA ct1 rfl ?_;refine sts ?_;refine zAA ct2 rfl ?_;refine sts ?_;refine zBA hT (fun((P,Q):Nat×Nat)=>[(0,vBJ (vBF P)),(1,vBJ (vBF Q))]) (fun(P,Q)=>Nat.gcd P Q=g∧(vBF P).length<2147483636∧(vBF Q).length<2147483636) (fun(_,Q)=>Q) (P0,Q0) ⟨eg,zom,zom⟩ ?_ ?_
 ·exact⟨zAE rfl rfl,zAE rfl rfl,trivial⟩
 intro⟨P,Q⟩ ⟨i1,i2,i3⟩;have cd:=zLE (vBF P) (vBF Q) (zAN P) (zAN Q) i2 i3;rw[zAQ,zAQ]at cd
 (refine gob ?_ ?_<;>intro h)
 ·have hQ:Q≠0:=fun e=>by subst e; rw[zDG]at h; simp at h
  rw[if_neg hQ,if_neg hQ]at cd;refine zAA cd rfl ?_;refine sts ?_;have hm:=Nat.mod_lt P (show Q > 0 by omega);have hml:=zDO (Nat.le_of_lt hm);exact⟨(Q,P % Q),⟨⟨by rw[zMG]; exact i1,i3,zom⟩,hm⟩,zAE rfl rfl,zAE rfl rfl,trivial⟩
 ·have hQ:Q=0:=zCY (List.length_eq_zero_iff.1 zom)
  subst hQ;rw[Nat.gcd_zero_right]at i1;subst i1;exact zAB rfl rfl
end Go.PI.Tryz
