/-
  Natural numbers: Gcd.
-/
import Derived.Test.YtbelmkceegmdjaaGreatDoorKT
import Derived.Test.YtbelmkceegmdjaaGreatDoorKPE
set_option linter.unusedVariables false
set_option linter.unusedSimpArgs false
set_option linter.unnecessarySimpa false
set_option maxHeartbeats 0
namespace Go.PI.Tryz
open Go.Proofs Go.PI
theorem vBC:Tryz.prog.follows .mixedOrders=true:=by kernel_rfl
def G0:Gl:=fun g=>if g=0 then some (.agg [.int .i64 0,.int .i64 2,.int .i64 1,.int .i64 4,.int .i64 3]) else none
abbrev Fn:=FnC Tryz.prog G0
abbrev FO(n:FuncId)(f:Func)(rs:List ResultVar)(nt:Nat):Prop:=FnOk Tryz.prog n f (f.body.getD .skip) rs nt
theorem mkO {n : FuncId} {f : Func} {rs : List ResultVar} {nt : Nat} (h1 : Tryz.prog.funcs[n]? = some f) (h2 : f.ntmps = nt) (h3 : f.results = rs.toArray) (hb : f.body = some (f.body.getD .skip) := by exact rfl) (hn : f.name ≠ "runtime.NumGoroutine" := by decide) (h4 : vBU nt (f.body.getD .skip) = true := by kernel_rfl) (h5 : rs.all (vDZ nt) = true := by kernel_rfl) : FO n f rs nt := ⟨h1, hb, hn, h2, h3, h4, h5⟩
theorem uID:FO 154 Tryz.f154 [.tmp 2] 23:=mkO Tryz.func154 Tryz.ntmps154 Tryz.results154
theorem zCU(xs:List Int)(ho:okN xs)(hl:xs.length<2147483648):Fn 154 [vBK xs] (.data (vBK (vBG (nv xs)))):=by
 refine zAL vBC hT uID zsm ?_;refine sts ?_;refine zA4 hT (fun n:Nat=>[(0,vBK xs),(3,.int .i64 n)]) (fun n=>n<=xs.length/\∀ j,n<=j->j<xs.length->xs[j]! = 0) (fun n=>n) xs.length ⟨rAR _,fun j h1 h2=>by omega⟩ ?_ ?_
 .exact⟨rAJ,zAC rfl zsm,rGU⟩
 .intro n ⟨hn,hz⟩
  (repeat' (first|refine stp ?_|with_reducible(refine brr ?_ ?_<;>intro h)));all_goals try(conv=>whnf)
  .refine zA5 (j:=n - 1) zom zom ?_
   (repeat' (first|refine stp ?_|with_reducible(refine brr ?_ ?_<;>intro h)));all_goals try(conv=>whnf)
   .refine⟨n - 1,⟨⟨zom,fun j h1 h2=>?_⟩,zom⟩,rAJ,zAC rfl zom,rGU⟩
    by_cases e:j=n - 1
    .subst e; assumption
    .exact hz j zom h2
   .omega
   .refine zCE (l':=xs.take n) zsm ?_
    refine sts ?_;refine zAB rfl ?_;rw[zJJ ho hn hz (rA0 rAC)]
  .have h0:n=0:=by omega
   subst h0;refine zAB rfl ?_;rw[<- zJJ ho hn hz (rAW rfl)];rfl
  .omega
theorem vMW:FO 194 Tryz.f194 [.tmp 2] 8:=mkO Tryz.func194 Tryz.ntmps194 Tryz.results194
theorem vS9(xs:List Int)(hl:xs.length<2147483648):Fn 194 [vBK xs] (.fresh (xs.map (.int .u32)) 1 false):=by
 refine zEJ vBC hT vMW zsm ?_
 (repeat' (first|refine stp ?_|(with_reducible refine brr ?_ ?_<;>intro h)|(with_reducible refine zAT ?_ ?_<;>intro h)|with_reducible refine zBC ?_ ?_)); all_goals try (conv=>whnf)
 .subst h; exact zD6
 all_goals refine zBL rfl rfl ?_ rfl (zD7 (fun x=>zB8 x) _)
 all_goals simp
theorem uCY:FO 178 Tryz.f178 [.tmp 2] 6:=mkO Tryz.func178 Tryz.ntmps178 Tryz.results178
theorem zON(xs:List Int)(ho:okN xs)(hl:xs.length<2147483648):Fn 178 [vBK xs] (.data (vBK (vBG (nv xs)))):=by
 have h2:=zAV ho;refine zAL vBC hT uCY zsm ?_;refine sts ?_;refine zAA (zCU xs ho hl) rfl ?_;refine sts ?_;refine zBB (vS9 _ zom) rfl ?_;refine sts ?_;exact zAB (zAI rfl rfl zsm (fun x=>zB8 x)) rfl
theorem vW7:FO 125 Tryz.f125 [.tmp 2] 15:=mkO Tryz.func125 Tryz.ntmps125 Tryz.results125
def vFM(xs:List Int):Bool:=decide (xs=[]\/xs[xs.length - 1]! ≠ 0)
theorem uE0(xs:List Int)(hl:xs.length<2147483648):Fn 125 [vBK xs] (.data (.bool (vFM xs))):=by
 refine zAL vBC hT vW7 zsm ?_
 refine gob ?_ ?_<;>intro h
 .refine zAB rfl ?_
  have:xs=[]:=rAZ.1 zom;simp[vFM,this]
 .refine zA5 (j:=xs.length - 1) rAG zom ?_
  refine sts ?_;refine zAB rfl (rA3 PV.bool ?_);have:xs≠[]:=fun e=>by subst e; simp at *
  rw[uK7];exact rCW.2 ⟨fun h=>rA0 h,fun h=>h.resolve_left this⟩
theorem uMX:FO 186 Tryz.f186 [.tmp 2] 10:=mkO Tryz.func186 Tryz.ntmps186 Tryz.results186
theorem uE1(n:Nat)(hn:n<18446744073709551616):Fn 186 [.int .u64 n] (.data (vBK (vBG n))):=by
 refine zAL vBC hT uMX zsm ?_;refine sts ?_;refine zCT ?_;refine sts ?_;rw[zDI];refine zCT ?_;refine sts ?_;have hv:nv [(n:Int) % 4294967296,(n:Int) / 4294967296 % 4294967296]=n:=by simp only[nv]; omega
 have:=zCU [(n:Int) % 4294967296,(n:Int) / 4294967296 % 4294967296] (by intro x hx; simp only[rBA,rCX,rE0]at hx; omega) zsm;rw[hv]at this;refine zAA this rfl ?_;refine sts ?_;exact rGV
theorem uIW:FO 127 Tryz.f127 [.tmp 4] 45:=mkO Tryz.func127 Tryz.ntmps127 Tryz.results127
def vEK(a b:Int):Int:=if a<b then -1 else if b<a then 1 else 0
theorem zOP(xs ys:List Int)(hx:okN xs)(hy:okN ys)(hl:xs.length<2147483648)(hl2:ys.length<2147483648):Fn 127 [vBK xs,vBK ys] (.data (.int .i64 (vEK (nv xs) (nv ys)))):=by
 have ct1:=zCU xs hx hl;have ct2:=zCU ys hy hl2;obtain⟨A,eA⟩:∃ A,vBG (nv xs)=A:=⟨_,rfl⟩;obtain⟨B,eB⟩:∃ B,vBG (nv ys)=B:=⟨_,rfl⟩;have ha:vNG A:=eA ▸ zEK _;have hb:vNG B:=eB ▸ zEK _;have ea:nv A=nv xs:=by rw[<- eA,zAR]
 have eb:nv B=nv ys:=by rw[<- eB,zAR]
 have h1:A.length<=xs.length:=eA ▸ zAV hx;have h2:B.length<=ys.length:=eB ▸ zAV hy;rw[eA]at ct1;rw[eB]at ct2;rw[<- ea,<- eb];refine zAL vBC hT uIW zsm ?_;refine sts ?_;refine zAA ct1 rfl ?_;refine sts ?_;refine zAA ct2 rfl ?_
 (repeat' (first|refine stp ?_|with_reducible(refine brr ?_ ?_<;>intro h)));all_goals try(conv=>whnf)
 .have:=zJ5 ha hb zom
  refine zAB rfl ?_;unfold vEK;rw[rAU zom]
 .have:=zJ5 hb ha zom
  refine zAB rfl ?_;unfold vEK;rw[rAM zom,rAU zom]
 .have hlen:A.length=B.length:=by omega
  refine zA4 hT (fun n:Nat=>[(0,vBK A),(1,vBK B),(5,.int .i64 ((n:Int) - 1))]) (fun n=>n<=A.length/\nt A n=nt B n) (fun n=>n) A.length ⟨rAR _,by rw[zET (rAR _),zET zom]⟩ ?_ ?_
  .exact⟨rAJ,rAJ,zAC rfl zsm,rGU⟩
  .intro n ⟨hn,hnt⟩
   have hA:=ha.1;have hB:=hb.1;have hsa:=zC7 hA (n - 1);have hsb:=zC7 hB (n - 1)
   refine gob ?_ ?_<;>intro h
   .refine zA5 (j:=n - 1) zom zom ?_
    refine sts ?_;refine zA5 (j:=n - 1) zom zom ?_
    refine gob ?_ ?_<;>intro h
    all_goals try (refine zA5 (j:=n - 1) zom zom ?_; refine sts ?_)
    all_goals try (refine zA5 (j:=n - 1) zom zom ?_; (refine gob ?_ ?_<;>intro h))
    .have h0:n - 1+1=n:=by omega
     have:=zJ6 hA hB (i:=n - 1) (by rw[h0]; exact hnt) (rA0 hsa) (rA0 hsb) (by have:=zBF (show n - 1<A.length by omega) hA; have:=zBF (show n - 1<B.length by omega) hB; omega);refine zAB rfl ?_;unfold vEK;rw[rAU zom]
    .have h0:n - 1+1=n:=by omega
     have:=zJ6 hB hA (i:=n - 1) (by rw[h0]; exact hnt.symm) (rA0 hsb) (rA0 hsa) (by have:=zBF (show n - 1<A.length by omega) hA; have:=zBF (show n - 1<B.length by omega) hB; omega);refine zAB rfl ?_;unfold vEK;rw[rAM zom,rAU zom]
    .have h0:n - 1+1=n:=by omega
     refine⟨n - 1,⟨⟨zom,?_⟩,zom⟩,rAJ,rAJ,zAC rfl zom,rGU⟩;rw[hsa,hsb,h0,hnt];have:=zBF (show n - 1<A.length by omega) hA; have:=zBF (show n - 1<B.length by omega) hB; omega
   .have h0:n=0:=by omega
    subst h0;rw[zHT,zHT]at hnt;refine zAB rfl ?_;unfold vEK;rw[rAM zom,rAM zom]
theorem uIX:FO 202 Tryz.f202 [.tmp 4] 62:=mkO Tryz.func202 Tryz.ntmps202 Tryz.results202
theorem uN5(xs ys:List Int)(hx:okN xs)(hy:okN ys)(hl:xs.length<2147483647)(hl2:ys.length<2147483647):Fn 202 [vBK xs,vBK ys] (.data (vBK (vBG (nv xs+nv ys)))):=by
 have ct1:=zCU xs hx zom;have ct2:=zCU ys hy zom;obtain⟨A,eA⟩:∃ A,vBG (nv xs)=A:=⟨_,rfl⟩;obtain⟨B,eB⟩:∃ B,vBG (nv ys)=B:=⟨_,rfl⟩;have ha:okN A:=eA ▸ zAP _;have hb:okN B:=eB ▸ zAP _;have ea:nv A=nv xs:=by rw[<- eA,zAR]
 have eb:nv B=nv ys:=by rw[<- eB,zAR]
 have h1:A.length<=xs.length:=eA ▸ zAV hx;have h2:B.length<=ys.length:=eB ▸ zAV hy;rw[eA]at ct1;rw[eB]at ct2;obtain⟨N,eN⟩:∃ N,nv xs+nv ys=N:=⟨_,rfl⟩;rw[eN];have hN:nv A+nv B=N:=by omega
 clear eA eB ea eb eN hx hy;refine zAL vBC hT uIX zsm ?_;refine sts ?_;refine zAA ct1 rfl ?_;refine sts ?_;refine zAA ct2 rfl ?_
 refine gob ?_ ?_<;>intro h
 .refine zAN hT (fun((i,O,c):Nat×List Int×Nat)=>[(0,vBK B),(1,vBK A),(5,.own 0 0 (B.length+1)),(6,.int .u64 c),(24,vBK B),(25,.int .i64 B.length),(26,.int .i64 i)]) (fun(_,O,_)=>[(0,⟨O.map (.int .u32),1,false⟩)]) [] 1
   (fun(i,O,c)=>i<=B.length/\O.length=B.length+1/\okN O/\c<2/\nk O i+c * pw i=nk B i+nk A i) (fun(i,_,_)=>B.length - i) (0,List.replicate (B.length+1) 0,0) ⟨zsm,zsm,zDL _,zsm,by simp[zB2]⟩ zdd zsm ?_ ?_
  .exact⟨[19],[],[],[],ttt,⟨rAJ,rAJ,zA3 zdd rfl zsm,rAI,rAJ,zAC rfl zsm,rAI,rGU⟩,⟨zAF zdd rfl (by simp[List.replicate_succ]) (zAQ fun _=>⟨rfl,zsm⟩) rfl,rGU⟩,rAA⟩
  .intro⟨i,O,c⟩ ⟨hi,hO,hok,hc,hv⟩
   have hBi:i<B.length->0<=B[i]! /\ B[i]! < 4294967296:=fun h=>zC6 hb h
   have hAi:i<A.length->0<=A[i]! /\ A[i]! < 4294967296:=fun h=>zC6 ha h
   (repeat' (first|refine stp ?_|with_reducible(refine brr ?_ ?_<;>intro h)));all_goals try(conv=>whnf)
   .have h1:=zBF (show i<B.length by omega) hb
    have h2:=zBF (show i<A.length by omega) ha;obtain⟨s,hs⟩:∃ s,c+lb B i+lb A i=s:=⟨_,rfl⟩;refine zCT ?_;refine sts ?_;refine zBX i zom zom ?_;refine sts ?_
    refine⟨(i+1,O.set i ((s % 4294967296:Nat):Int),s / 4294967296),⟨⟨zom,by simp[hO],zB1 hok i zom,zom,?_⟩,by show B.length - (i+1)<B.length - i; omega⟩,[0],[],[],[],ttt,
     ⟨rAJ,rAJ,zA3 zdd rfl rfl,zAC rfl (by rw[zDI]; omega),rAJ,rAI,zAC rfl zom,rGU⟩,⟨zAF zdd rfl (zC5 zom zom) (zAQ fun _=>⟨rfl,zsm⟩) rfl,rGU⟩,rAA⟩
    rw[zGL _ zom,zBA,zBA,zA9];have:=zEB (pw i) s;simp only[Int.toNat_natCast];rw[<- hs]at this ⊢;simp only[rA9]at this ⊢;simp only[rBN c (pw i)]at hv;omega
   .have h1:=zBF (show i<B.length by omega) hb
    have h2:=zHW (show A.length<=i by omega);obtain⟨s,hs⟩:∃ s,c+lb B i+lb A i=s:=⟨_,rfl⟩;refine zCT ?_;refine sts ?_;refine zBX i zom zom ?_;refine sts ?_
    refine⟨(i+1,O.set i ((s % 4294967296:Nat):Int),s / 4294967296),⟨⟨zom,by simp[hO],zB1 hok i zom,zom,?_⟩,by show B.length - (i+1)<B.length - i; omega⟩,[0],[],[],[],ttt,
     ⟨rAJ,rAJ,zA3 zdd rfl rfl,zAC rfl (by rw[zDI]; omega),rAJ,rAI,zAC rfl zom,rGU⟩,⟨zAF zdd rfl (zC5 zom zom) (zAQ fun _=>⟨rfl,zsm⟩) rfl,rGU⟩,rAA⟩
    rw[zGL _ zom,zBA,zBA,zA9];have:=zEB (pw i) s;simp only[Int.toNat_natCast];rw[<- hs]at this ⊢;simp only[rA9]at this ⊢;simp only[rBN c (pw i)]at hv;omega
   .have hi':i=B.length:=by omega
    refine zBX i rAE zom ?_;refine sts ?_
    have hn:nv (O.set i (c:Int))=N:=by
     rw[<- zB0 (show(O.set i (c:Int)).length<=i+1 by simp; omega),zGL _ zom,Int.toNat_natCast,<- hN,rEP (nv A),<- zB0 (a:=B) (k:=i) zom,<- zB0 (a:=A) (k:=i) zom,<- hv,rBN]
    have ct:=zCU (O.set i (c:Int)) (zB1 hok i zom) rAE;rw[hn]at ct;refine zAA ct (zAD (zAI rfl (zC5 rAE rfl) rAE (fun x=>zB8 x)) rfl) ?_;refine sts ?_;exact rGV
 .refine zAN hT (fun((i,O,c):Nat×List Int×Nat)=>[(0,vBK A),(1,vBK B),(5,.own 0 0 (A.length+1)),(6,.int .u64 c),(24,vBK A),(25,.int .i64 A.length),(26,.int .i64 i)]) (fun(_,O,_)=>[(0,⟨O.map (.int .u32),1,false⟩)]) [] 1
   (fun(i,O,c)=>i<=A.length/\O.length=A.length+1/\okN O/\c<2/\nk O i+c * pw i=nk A i+nk B i) (fun(i,_,_)=>A.length - i) (0,List.replicate (A.length+1) 0,0) ⟨zsm,zsm,zDL _,zsm,by simp[zB2]⟩ zdd zsm ?_ ?_
  .exact⟨[15],[],[],[],ttt,⟨rAJ,rAJ,zA3 zdd rfl zsm,rAI,rAJ,zAC rfl zsm,rAI,rGU⟩,⟨zAF zdd rfl (by simp[List.replicate_succ]) (zAQ fun _=>⟨rfl,zsm⟩) rfl,rGU⟩,rAA⟩
  .intro⟨i,O,c⟩ ⟨hi,hO,hok,hc,hv⟩
   have hAi:i<A.length->0<=A[i]! /\ A[i]! < 4294967296:=fun h=>zC6 ha h
   have hBi:i<B.length->0<=B[i]! /\ B[i]! < 4294967296:=fun h=>zC6 hb h
   (repeat' (first|refine stp ?_|with_reducible(refine brr ?_ ?_<;>intro h)));all_goals try(conv=>whnf)
   .have h1:=zBF (show i<A.length by omega) ha
    have h2:=zBF (show i<B.length by omega) hb;obtain⟨s,hs⟩:∃ s,c+lb A i+lb B i=s:=⟨_,rfl⟩;refine zCT ?_;refine sts ?_;refine zBX i zom zom ?_;refine sts ?_
    refine⟨(i+1,O.set i ((s % 4294967296:Nat):Int),s / 4294967296),⟨⟨zom,by simp[hO],zB1 hok i zom,zom,?_⟩,by show A.length - (i+1)<A.length - i; omega⟩,[0],[],[],[],ttt,
     ⟨rAJ,rAJ,zA3 zdd rfl rfl,zAC rfl (by rw[zDI]; omega),rAJ,rAI,zAC rfl zom,rGU⟩,⟨zAF zdd rfl (zC5 zom zom) (zAQ fun _=>⟨rfl,zsm⟩) rfl,rGU⟩,rAA⟩
    rw[zGL _ zom,zBA,zBA,zA9];have:=zEB (pw i) s;simp only[Int.toNat_natCast];rw[<- hs]at this ⊢;simp only[rA9]at this ⊢;simp only[rBN c (pw i)]at hv;omega
   .have h1:=zBF (show i<A.length by omega) ha
    have h2:=zHW (show B.length<=i by omega);obtain⟨s,hs⟩:∃ s,c+lb A i+lb B i=s:=⟨_,rfl⟩;refine zCT ?_;refine sts ?_;refine zBX i zom zom ?_;refine sts ?_
    refine⟨(i+1,O.set i ((s % 4294967296:Nat):Int),s / 4294967296),⟨⟨zom,by simp[hO],zB1 hok i zom,zom,?_⟩,by show A.length - (i+1)<A.length - i; omega⟩,[0],[],[],[],ttt,
     ⟨rAJ,rAJ,zA3 zdd rfl rfl,zAC rfl (by rw[zDI]; omega),rAJ,rAI,zAC rfl zom,rGU⟩,⟨zAF zdd rfl (zC5 zom zom) (zAQ fun _=>⟨rfl,zsm⟩) rfl,rGU⟩,rAA⟩
    rw[zGL _ zom,zBA,zBA,zA9];have:=zEB (pw i) s;simp only[Int.toNat_natCast];rw[<- hs]at this ⊢;simp only[rA9]at this ⊢;simp only[rBN c (pw i)]at hv;omega
   .have hi':i=A.length:=by omega
    refine zBX i rAE zom ?_;refine sts ?_
    have hn:nv (O.set i (c:Int))=N:=by
     rw[<- zB0 (show(O.set i (c:Int)).length<=i+1 by simp; omega),zGL _ zom,Int.toNat_natCast,<- hN,<- zB0 (a:=A) (k:=i) zom,<- zB0 (a:=B) (k:=i) zom,<- hv,rBN]
    have ct:=zCU (O.set i (c:Int)) (zB1 hok i zom) rAE;rw[hn]at ct;refine zAA ct (zAD (zAI rfl (zC5 rAE rfl) rAE (fun x=>zB8 x)) rfl) ?_;refine sts ?_;exact rGV
theorem uIR:FO 203 Tryz.f203 [.tmp 4,.tmp 5] 54:=mkO Tryz.func203 Tryz.ntmps203 Tryz.results203
def vTK(a b:Nat):PV:=if a<b then .tup [.imm [],.int .i64 2] else .tup [vBK (vBG (a - b)),.int .i64 0]
theorem uGP(xs ys:List Int)(hx:okN xs)(hy:okN ys)(hl:xs.length<2147483647)(hl2:ys.length<2147483647):Fn 203 [vBK xs,vBK ys] (.data (vTK (nv xs) (nv ys))):=by
 have ct1:=zCU xs hx zom;have ct2:=zCU ys hy zom;obtain⟨A,eA⟩:∃ A,vBG (nv xs)=A:=⟨_,rfl⟩;obtain⟨B,eB⟩:∃ B,vBG (nv ys)=B:=⟨_,rfl⟩;have ha:okN A:=eA ▸ zAP _;have hb:okN B:=eB ▸ zAP _;have ca:vNG A:=eA ▸ zEK _;have cb:vNG B:=eB ▸ zEK _;have ea:nv A=nv xs:=by rw[<- eA,zAR]
 have eb:nv B=nv ys:=by rw[<- eB,zAR]
 have h1:A.length<=xs.length:=eA ▸ zAV hx;have h2:B.length<=ys.length:=eB ▸ zAV hy;have cc:=zOP A B ha hb zom zom;rw[eA]at ct1;rw[eB]at ct2;rw[<- ea,<- eb];obtain⟨c,hc⟩:∃ c,vEK (nv A) (nv B)=c:=⟨_,rfl⟩
 have hcv:(c<0↔nv A<nv B):=by
  rw[<- hc]; unfold vEK
  split
  .omega
  .split<;>omega
 rw[hc]at cc;refine zAL vBC hT uIR zsm ?_;refine sts ?_;refine zAA ct1 rfl ?_;refine sts ?_;refine zAA ct2 rfl ?_;refine sts ?_;refine zAA cc rfl ?_
 refine gob ?_ ?_<;>intro h
 .refine zAB rfl ?_
  unfold vTK;rw[rAU (hcv.1 h)]
 .have hle:nv B<=nv A:=by have:=mt hcv.2 h; omega
  have hlen:B.length<=A.length:=rDB fun hlt=>by have:=zJ5 ca cb hlt; omega
  refine zAN hT (fun((i,O,w):Nat×List Int×Nat)=>[(0,vBK A),(1,vBK B),(6,.own 0 0 A.length),(7,.int .u64 w),(22,vBK A),(23,.int .i64 A.length),(24,.int .i64 i)]) (fun(_,O,_)=>[(0,⟨O.map (.int .u32),1,false⟩)]) [] 1
   (fun(i,O,w)=>i<=A.length/\O.length=A.length/\okN O/\w<2/\nk A i+w * pw i=nk O i+nk B i) (fun(i,_,_)=>A.length - i) (0,List.replicate A.length 0,0) ⟨zsm,zsm,zDL _,zsm,by simp[zB2]⟩ zdd zsm ?_ ?_
  .exact⟨[14],[],[],[],ttt,⟨rAJ,rAJ,zA3 zdd rfl zsm,rAI,rAJ,zAC rfl zsm,rAI,rGU⟩,⟨zAF zdd rfl zsm (zAQ fun _=>⟨rfl,zsm⟩) rfl,rGU⟩,rAA⟩
  .intro⟨i,O,w⟩ ⟨hi,hO,hok,hw,hv⟩
   have hAi:i<A.length->0<=A[i]! /\ A[i]! < 4294967296:=fun h=>zC6 ha h
   have hBi:i<B.length->0<=B[i]! /\ B[i]! < 4294967296:=fun h=>zC6 hb h
   refine gob ?_ ?_<;>intro h
   rotate_left
   .have hi':i=A.length:=by omega
    have hA:=zB0 (a:=A) (k:=i) zom;have hB:=zB0 (a:=B) (k:=i) zom;have hOv:=zB0 (a:=O) (k:=i) zom;have hOl:=zES hok;rw[hA,hB,hOv]at hv;rw[hO,<- hi']at hOl
    have hw0:w=0:=by
     rcases(show w=0\/w=1 by omega) with e | e
     .exact e
     .subst e; rw[rF2]at hv; omega
    subst hw0;have hn:nv O=nv A - nv B:=by omega
    have ct:=zCU O hok zom;rw[hn]at ct;refine zAA ct (zAD (zAI rfl rfl zom (fun x=>zB8 x)) rfl) ?_;refine sts ?_;refine zAB rfl ?_;unfold vTK;rw[rAM zom]
   have h1:=zBF (show i<A.length by omega) ha;have ha1:=hAi zom;refine zIV ?_
   refine gob ?_ ?_<;>intro h
   .have h2:=zBF (show i<B.length by omega) hb
    have hb1:=hBi zom;refine zIV ?_;refine sts ?_;refine zCT ?_;refine sts ?_;obtain⟨X,hX⟩:∃ X:Int,((A[i]! - ↑w) % 18446744073709551616 - B[i]!) % 18446744073709551616=X:=⟨_,rfl⟩;refine zBX i zom zom ?_;refine sts ?_;obtain⟨o,w',ho,hw',hs,hw2⟩:∃ o w':Nat,(o:Int)=X % 4294967296/\(w':Int)=X / 9223372036854775808/\lb A i+4294967296 * w'=o+w+lb B i/\w'<2:=⟨(X % 4294967296).toNat,(X / 9223372036854775808).toNat,zom,zom,zom,zom⟩;have hX':((A[i]! - ↑w) % 18446744073709551616 - B[i]!) % 18446744073709551616=X:=hX
    refine⟨(i+1,O.set i (o:Int),w'),⟨⟨zom,by simp[hO],zB1 hok i zom,hw2,?_⟩,by show A.length - (i+1)<A.length - i; omega⟩,[0],[],[],[],ttt,
     ⟨rAJ,rAJ,zA3 zdd rfl rfl,zAC rfl (by rw[zN7,hX]; omega),rAJ,rAI,zAC rfl zom,rGU⟩,⟨zAF zdd rfl (zC5 zom zom) (zAQ fun _=>⟨rfl,zsm⟩) rfl,rGU⟩,rAA⟩
    rw[zGL _ zom,zBA,zBA,zA9,Int.toNat_natCast];have hp:=rA3 (fun t=>pw i * t) hs;simp only[rA9]at hp;rw[rB2 (pw i)]at hp;rw[rB2 w',rBN w' (pw i)];rw[rBN w (pw i)]at hv;omega
   .have h2:=zHW (show B.length<=i by omega)
    refine zCT ?_;refine sts ?_;obtain⟨X,hX⟩:∃ X:Int,(A[i]! - ↑w) % 18446744073709551616=X:=⟨_,rfl⟩;refine zBX i zom zom ?_;refine sts ?_;obtain⟨o,w',ho,hw',hs,hw2⟩:∃ o w':Nat,(o:Int)=X % 4294967296/\(w':Int)=X / 9223372036854775808/\lb A i+4294967296 * w'=o+w+lb B i/\w'<2:=⟨(X % 4294967296).toNat,(X / 9223372036854775808).toNat,zom,zom,zom,zom⟩;have hX':(A[i]! - ↑w) % 18446744073709551616=X:=hX
    refine⟨(i+1,O.set i (o:Int),w'),⟨⟨zom,by simp[hO],zB1 hok i zom,hw2,?_⟩,by show A.length - (i+1)<A.length - i; omega⟩,[0],[],[],[],ttt,
     ⟨rAJ,rAJ,zA3 zdd rfl rfl,zAC rfl (by rw[zN7,hX]; omega),rAJ,rAI,zAC rfl zom,rGU⟩,⟨zAF zdd rfl (zC5 zom zom) (zAQ fun _=>⟨rfl,zsm⟩) rfl,rGU⟩,rAA⟩
    rw[zGL _ zom,zBA,zBA,zA9,Int.toNat_natCast];have hp:=rA3 (fun t=>pw i * t) hs;simp only[rA9]at hp;rw[rB2 (pw i)]at hp;rw[rB2 w',rBN w' (pw i)];rw[rBN w (pw i)]at hv;omega
theorem uIT:FO 183 Tryz.f183 [.tmp 4] 79:=mkO Tryz.func183 Tryz.ntmps183 Tryz.results183
theorem vQT(xs ys:List Int)(hx:okN xs)(hy:okN ys)(hl:xs.length<1073741824)(hl2:ys.length<1073741824):Fn 183 [vBK xs,vBK ys] (.data (vBK (vBG (nv xs * nv ys)))):=by
 have ct1:=zCU xs hx zom;have ct2:=zCU ys hy zom;obtain⟨A,eA⟩:∃ A,vBG (nv xs)=A:=⟨_,rfl⟩;obtain⟨B,eB⟩:∃ B,vBG (nv ys)=B:=⟨_,rfl⟩;have ha:okN A:=eA ▸ zAP _;have hb:okN B:=eB ▸ zAP _;have ea:nv A=nv xs:=by rw[<- eA,zAR]
 have eb:nv B=nv ys:=by rw[<- eB,zAR]
 have h1:A.length<=xs.length:=eA ▸ zAV hx;have h2:B.length<=ys.length:=eB ▸ zAV hy;rw[eA]at ct1;rw[eB]at ct2;rw[<- ea,<- eb];clear eA eB ea eb hx hy;refine zAL vBC hT uIT zsm ?_;refine sts ?_;refine zAA ct1 rfl ?_;refine sts ?_;refine zAA ct2 rfl ?_
 (repeat' (first|refine stp ?_|with_reducible(refine brr ?_ ?_<;>intro h)));all_goals try(conv=>whnf)
 .have:A=[]:=rAZ.1 zom
  subst this;exact zAB rfl (by simp[nv,zDM])
 .have:B=[]:=rAZ.1 zom
  subst this;exact zAB rfl (by simp[nv,zDM])
 .refine zAN hT (fun((i,O):Nat×List Int)=>[(1,vBK B),(5,.own 0 0 (A.length+B.length)),(29,vBK A),(30,.int .i64 A.length),(31,.int .i64 i)]) (fun(_,O)=>[(0,⟨O.map (.int .u32),1,false⟩)]) [] 1
   (fun(i,O)=>i<=A.length/\O.length=A.length+B.length/\okN O/\nv O=nk A i * nv B/\∀ j,i+B.length<=j->lb O j=0) (fun(i,_)=>A.length - i) (0,List.replicate (A.length+B.length) 0) ⟨zsm,zsm,zDL _,by simp[zJ4,zB2],fun j _=>zM1 _ j⟩ zdd zsm ?_ ?_
  .exact⟨[20],[],[],[],ttt,⟨rAJ,zA3 zdd rfl rAG,rAJ,zAC rfl zsm,rAI,rGU⟩,⟨zAF zdd rfl (zNO (f:=PV.int .u32) (x:=0) rAG) (zAQ fun _=>⟨rfl,zsm⟩) rfl,rGU⟩,rAA⟩
  .intro⟨i,O⟩ ⟨hi,hO,hok,hv,hz⟩
   have hAi:i<A.length->0<=A[i]! /\ A[i]! < 4294967296:=fun h=>zC6 ha h
   refine gob ?_ ?_<;>intro h
   .have h1:=zBF (show i<A.length by omega) ha
    have ha1:=hAi zom
    refine zAN hT (fun((k,P,c):Nat×List Int×Nat)=>[(1,vBK B),(5,.own 0 0 (A.length+B.length)),(6,.int .i64 i),(7,.int .u32 A[i]!),(8,.int .u64 c),(29,vBK A),(30,.int .i64 A.length),(31,.int .i64 i),(36,vBK B),(37,.int .i64 B.length),(38,.int .i64 k)]) (fun(_,P,_)=>[(0,⟨P.map (.int .u32),1,false⟩)]) [] 1
     (fun(k,P,c)=>k<=B.length/\P.length=A.length+B.length/\okN P/\c<4294967296/\nv P+c * pw (i+k)=nv O+pw i * (lb A i * nk B k)/\∀ j,i+B.length<=j->lb P j=0) (fun(k,_,_)=>B.length - k) (0,O,0) ⟨zsm,hO,hok,zsm,by simp[zB2],hz⟩ zdd zsm ?_ ?_
    .exact⟨[0],[],[],[],ttt,⟨rAJ,zA3 zdd rfl rfl,rAI,rAI,rAI,rAJ,rAI,rAI,rAJ,zAC rfl zsm,rAI,rGU⟩,⟨zAF zdd rfl rfl (zAQ fun _=>⟨rfl,zsm⟩) rfl,rGU⟩,rAA⟩
    .intro⟨k,P,c⟩ ⟨hk,hP,hokP,hc,hvP,hzP⟩
     have hBk:k<B.length->0<=B[k]! /\ B[k]! < 4294967296:=fun h=>zC6 hb h
     have hPk:k<B.length->0<=P[i+k]! /\ P[i+k]! < 4294967296:=fun h=>zC6 hokP zom
     have hpr:k<B.length->0<=A[i]! * B[k]! /\ A[i]! * B[k]! <= 18446744065119617025:=fun h=>vVV ha1 (hBk h)
     refine gob ?_ ?_<;>intro h
     .refine zBX (i+k) zom zom ?_
      have hB1:=hBk zom;have hP1:=hPk zom;have hp1:=hpr zom;have h2:=zBF (show k<B.length by omega) hb;have h3:=zBF (show i+k<P.length by omega) hokP;obtain⟨s,hs⟩:∃ s,c+(lb A i * lb B k+lb P (i+k))=s:=⟨_,rfl⟩
      have hsI:(s:Int)=↑c+(A[i]! * B[k]! + P[i+k]!):=by
       rw[<- hs]; simp only[Int.natCast_add,Int.natCast_mul,h1,h2,h3]
      refine sts ?_;refine zCT ?_;refine sts ?_;refine zBX (i+k) zom zom ?_;refine sts ?_
      refine⟨(k+1,P.set (i+k) ((s % 4294967296:Nat):Int),s / 4294967296),⟨⟨zom,by simp[hP],zB1 hokP _ zom,zom,?_,fun j hj=>?_⟩,by show B.length - (k+1)<B.length - k; omega⟩,[0],[],[],[],ttt,
       ⟨rAJ,zA3 zdd rfl rfl,rAI,rAI,zAC rfl (by rw[zDI,<- hsI]; omega),rAJ,rAI,rAI,rAJ,rAI,zAC rfl zom,rGU⟩,⟨zAF zdd rfl (zC5 zom (by rw[<- hsI]; omega)) (zAQ fun _=>⟨rfl,zsm⟩) rfl,rGU⟩,rAA⟩
      .have e1:=zMC (a:=P) (j:=i+k) ((s % 4294967296:Nat):Int) zom
       have e2:=zEB (pw (i+k)) s;rw[Int.toNat_natCast]at e1;rw[zBA,show i+(k+1)=i+k+1 by omega,zA9];rw[<- hs]at e1 e2 ⊢;simp only[rA9,zPD]at e1 e2 hvP ⊢;simp only[rBN,rB2,rBO]at e1 e2 hvP ⊢;omega
      .rw[zKD zom]; exact hzP j hj
     .have hk':k=B.length:=by omega
      refine zBX (i+B.length) rAG zom ?_;refine sts ?_
      refine⟨(i+1,P.set (i+B.length) (c:Int)),⟨⟨zom,by simp[hP],zB1 hokP _ zom,?_,fun j hj=>?_⟩,by show A.length - (i+1)<A.length - i; omega⟩,[0],[],[],[],ttt,
       ⟨rAJ,zA3 zdd rfl rfl,rAJ,rAI,zAC rfl zom,rGU⟩,⟨zAF zdd rfl (zC5 rAG rfl) (zAQ fun _=>⟨rfl,zsm⟩) rfl,rGU⟩,rAA⟩
      .have e1:=zMC (a:=P) (j:=i+B.length) (c:Int) zom
       rw[hzP _ (rAR _),Int.toNat_natCast]at e1;rw[hk',zB0 (a:=B) (rAR _)]at hvP;rw[zBA,rB6,<- hv,rBO,<- hvP,rBN c];omega
      .rw[zKD zom]; exact hzP j zom
   .have hi':i=A.length:=by omega
    rw[hi',zB0 (a:=A) (rAR _)]at hv;have ct:=zCU O hok zom;rw[hv]at ct;refine zAA ct (zAD (zAI rfl rfl zom (fun x=>zB8 x)) rfl) ?_;refine sts ?_;exact rGV
theorem uC0:FO 184 Tryz.f184 [.tmp 2] 19:=mkO Tryz.func184 Tryz.ntmps184 Tryz.results184
set_option maxRecDepth 100000 in
theorem vZX(n:Nat)(h:n<4294967296):Fn 184 [.int .u32 n] (.data (.int .i64 (bl n))):=by
 refine zAL vBC hT uC0 zsm ?_;have e16:(n:Int).fdiv (vEN .u32 16)=((n / 65536:Nat):Int):=by rw[zKJ (j:=16) rfl]; omega
 have e8:(n:Int).fdiv (vEN .u32 8)=((n / 256:Nat):Int):=by rw[zKJ (j:=8) rfl]; omega
 have e24:((n / 65536:Nat):Int).fdiv (vEN .u32 8)=((n / 65536 / 256:Nat):Int):=by rw[zKJ (j:=8) rfl]; omega
 (repeat' (first|refine stp ?_|with_reducible(refine brr ?_ ?_<;>intro h)));all_goals try(conv=>whnf)
 .rw[e16]at *
  rw[e24]at *
  have hb:=(zCL 8 (n / 65536 / 256) zom zom).2.2;refine uB2 ?_;refine sts ?_;refine vPC rAB (n:=n / 65536 / 256) zom zom (fun b hbt=>?_);refine sts ?_;refine zAB rfl ?_;rw[vQY zom zom,vQZ zom zom,hbt]
  congr 1; omega
 .rw[e16]at *
  have hb:=(zCL 8 (n / 65536) zom zom).2.2;refine uB2 ?_;refine sts ?_;refine vPC rAB (n:=n / 65536) zom zom (fun b hbt=>?_);refine sts ?_;refine zAB rfl ?_;rw[vQY zom zom,hbt]
  congr 1; omega
 .rw[e8]at *
  have hb:=(zCL 8 (n / 256) zom zom).2.2;refine uB2 ?_;refine sts ?_;refine vPC rAB (n:=n / 256) zom zom (fun b hbt=>?_);refine sts ?_;refine zAB rfl ?_;rw[vQZ zom zom,hbt]
  congr 1; omega
 .have hb:=(zCL 8 n zom zom).2.2
  refine uB2 ?_;refine sts ?_;refine vPC rAB (n:=n) zom zom (fun b hbt=>?_);refine sts ?_;refine zAB rfl ?_;rw[hbt]
  congr 1; omega
theorem uCA:FO 196 Tryz.f196 [.tmp 4,.tmp 5] 43:=mkO Tryz.func196 Tryz.ntmps196 Tryz.results196
theorem uKP(xs:List Int)(d:Nat)(hx:okN xs)(hl:xs.length<2147483647)(hd:0<d/\d<4294967296):Fn 196 [vBK xs,.int .u32 d] (.data (.tup [vBK (vBG (nv xs / d)),vBK (vBG (nv xs % d))])):=by
 refine zAL vBC hT uCA zsm ?_;refine sts ?_
 refine zAN hT (fun((n,O,r):Nat×List Int×Nat)=>[(0,vBK xs),(1,.int .u32 d),(6,.own 0 0 xs.length),(7,.int .u64 r),(8,.int .i64 ((n:Int) - 1))]) (fun(_,O,_)=>[(0,⟨O.map (.int .u32),1,false⟩)]) [] 1
  (fun(n,O,r)=>n<=xs.length/\O.length=xs.length/\okN O/\r<d/\nt xs n=nt O n * d+r) (fun(n,_,_)=>n) (xs.length,List.replicate xs.length 0,0) ⟨zsm,zsm,zDL _,hd.1,by rw[zET (rAR _),zET zsm]; simp⟩ zdd zsm ?_ ?_
 .exact⟨[4],[],[],[],ttt,⟨rAJ,rAI,zA3 zdd rfl rAG,rAI,zAC rfl zsm,rGU⟩,⟨zAF zdd rfl (zNO (f:=PV.int .u32) (x:=0) rAG) (zAQ fun _=>⟨rfl,zsm⟩) rfl,rGU⟩,rAA⟩
 .intro⟨n,O,r⟩ ⟨hn,hO,hok,hr,hv⟩
  have hXi:0<n->0<=xs[n - 1]! /\ xs[n - 1]! < 4294967296:=fun h=>zC6 hx zom
  refine gob ?_ ?_<;>intro h
  .have hx1:=hXi zom
   have h1:=zBF (show n - 1<xs.length by omega) hx;refine zFA (by rw[zGY]; omega) ?_;refine sts ?_;refine zA5 (j:=n - 1) zom zom ?_;refine sts ?_;obtain⟨t,ht⟩:∃ t:Nat,(t:Int)=vF0 .or .u64 (↑r * vEN .u64 32) xs[n - 1]! := ⟨r * 4294967296+lb xs (n - 1),by rw[vHE zom hx1]; omega⟩;have ht2:t=r * 4294967296+lb xs (n - 1):=by rw[vHE zom hx1]at ht; omega
   have hdiv:(t:Int).tdiv d=((t / d:Nat):Int):=by rw[rEZ zom]; rfl
   have hmod:(t:Int).tmod d=((t % d:Nat):Int):=by rw[rEY zom]; rfl
   have hq:t / d<4294967296:=rFF (by
    have:d * 4294967296=d * 4294967296:=rfl;have h2:(r+1) * 4294967296<=d * 4294967296:=rBK _ zom;have:=zCW hx (n - 1);rw[rB6]at h2
    omega)
   have hqm:=rEC t d;have hml:=rDK t hd.1;obtain⟨q,eq⟩:∃ q,t / d=q:=⟨_,rfl⟩;obtain⟨m,em⟩:∃ m,t % d=m:=⟨_,rfl⟩;rw[eq]at hdiv hq hqm;rw[em]at hmod hqm hml;rw[<- ht];refine sts ?_;rw[hdiv];refine zBX (n - 1) zom zom ?_;refine sts ?_
   refine⟨(n - 1,O.set (n - 1) (q:Int),m),⟨⟨zom,by simp[hO],zB1 hok _ zom,hml,?_⟩,by show n - 1<n; omega⟩,[0],[],[],[],ttt,
    ⟨rAJ,rAI,zA3 zdd rfl rfl,zAC rfl hmod,zAC rfl zom,rGU⟩,⟨zAF zdd rfl (zC5 zom rfl) (zAQ fun _=>⟨rfl,zsm⟩) rfl,rGU⟩,rAA⟩
   have h0:n - 1+1=n:=by omega
   have e1:=zC7 hx (n - 1);have e2:=zC7 (zB1 hok (n - 1) (x:=(q:Int)) zom) (n - 1);have e3:nt (O.set (n - 1) (q:Int)) (n - 1+1)=nt O (n - 1+1):=by unfold nt; rw[rDA zom]
   have e4:lb (O.set (n - 1) (q:Int)) (n - 1)=q:=by simp[lb,List.getD,show n - 1<O.length by omega]
   rw[e1,e2,e3,e4,h0,hv];simp only[rA9,rB6,rBO];rw[rBN q d];omega
  .have h0:n=0:=by omega
   subst h0;rw[zHT,zHT]at hv;have hq:nv O=nv xs / d:=by rw[hv,rEP,Nat.add_mul_div_right _ _ hd.1,rDR hr]; omega
   have hr':r=nv xs % d:=by rw[hv,rEP,rEX,rCN hr]
   have ct:=zCU O hok zom;rw[hq]at ct;refine zAA ct (zAD (zAI rfl rfl zom (fun x=>zB8 x)) rfl) ?_;refine sts ?_;refine zAA (uE1 r zom) rfl ?_;refine sts ?_;rw[<- hr'];exact rGV
theorem uCZ:FO 156 Tryz.f156 [.tmp 2] 20:=mkO Tryz.func156 Tryz.ntmps156 Tryz.results156
def vFZ(n:Nat):Int:=if n=0 then 0 else 32 * ((vBG n).length - 1:Nat)+bl (lb (vBG n) ((vBG n).length - 1))
theorem zP6(n:Nat):vFZ n=0↔n=0:=by
 unfold vFZ
 split
 .simp[*]
 .rename_i h
  have hc:=zEK n;have hne:vBG n≠[]:=fun e=>h (zC0 e)
  have hl:0<(vBG n).length:=rDO.2 hne
  have hlast:lb (vBG n) ((vBG n).length - 1)≠0:=by
   have h1:=hc.2.resolve_left hne;rw[rD2,rAQ zom]at h1;have h2:=hc.1 _ (rB3 (show(vBG n).length - 1<(vBG n).length by omega));have h3:lb (vBG n) ((vBG n).length - 1)=((vBG n)[(vBG n).length - 1]).toNat:=by simp[lb,List.getD,show(vBG n).length - 1<(vBG n).length by omega]
   intro e;rw[h3]at e;exact h1 (by congr 1; omega)
  have hb:=(zCL 32 _ (by have:=zCW hc.1 ((vBG n).length - 1); omega) zom).1;have:bl (lb (vBG n) ((vBG n).length - 1))≠0:=fun e=>by rw[e]at hb; omega
  constructor
  .intro e; omega
  .intro e; exact absurd e h
theorem vZV(xs:List Int)(hx:okN xs)(hl:xs.length<2147483647):Fn 156 [vBK xs] (.data (.int .i64 (vFZ (nv xs)))):=by
 have h2:=zAV hx;have hok:=zAP (nv xs);refine zAL vBC hT uCZ zsm ?_;refine sts ?_;refine zAA (zCU xs hx zom) rfl ?_
 refine gob ?_ ?_<;>intro h
 .refine zAB rfl ?_
  have:vBG (nv xs)=[]:=rAZ.1 zom;have:=zC0 this;unfold vFZ;rw[rAU this]
 .refine zA5 (j:=(vBG (nv xs)).length - 1) rAG zom ?_
  refine sts ?_;have hg:=zBF (show(vBG (nv xs)).length - 1<(vBG (nv xs)).length by omega) hok;have hb:=(zCL 32 (lb (vBG (nv xs)) ((vBG (nv xs)).length - 1)) (by have:=zCW hok ((vBG (nv xs)).length - 1); omega) zom).2.2;rw[<- hg];refine zAA (vZX _ (zCW hok _)) rfl ?_;refine sts ?_;refine zAB rfl ?_
  have hne:nv xs≠0:=fun e=>by
   have:(vBG (nv xs)).length=0:=by rw[e]; rfl
   omega
  unfold vFZ;rw[rAM hne]
  congr 1
  simp only[rAN];omega
theorem uCX:FO 195 Tryz.f195 [.tmp 2,.tmp 3] 28:=mkO Tryz.func195 Tryz.ntmps195 Tryz.results195
theorem vZU(xs:List Int)(hx:okN xs)(hl:xs.length<2147483647):Fn 195 [vBK xs] (.data (if nv xs<18446744073709551616 then .tup [.int .u64 (nv xs),.bool true] else .tup [.int .u64 0,.bool false])):=by
 have h2:=zAV hx;have ct:=zCU xs hx zom
 have hbig:2<(vBG (nv xs)).length↔¬ nv xs<18446744073709551616:=by
  constructor
  .intro h hlt
   have:=zB5 (n:=nv xs) (k:=2) hlt;omega
  .intro h
   refine rD3 fun hle=>h ?_
   have:=zES (zAP (nv xs));rw[zAR]at this;exact rA4 this (zFO hle)
 have hv:=zAR (nv xs);have ha:=zAP (nv xs);generalize nv xs=N at *
 generalize vBG N=A at *
 refine zAL vBC hT uCX zsm ?_;refine sts ?_;refine zAA ct rfl ?_
 refine gob ?_ ?_<;>intro h
 .rw[rAM (hbig.1 zom)]
  exact rGV
 .have hN:N<18446744073709551616:=by
   have:=mt hbig.2 zom;omega
  rw[rAU hN];refine zA4 hT (fun i:Nat=>[(4,.int .u64 (nk A i)),(12,vBK A),(13,.int .i64 A.length),(14,.int .i64 i)]) (fun i=>i<=A.length) (fun i=>A.length - i) 0 (rA7 _) ?_ ?_
  .exact⟨zAC rfl (by simp[zB2]),rAJ,zAC rfl zsm,rAI,rGU⟩
  .intro i hi
   have hAi:i<A.length->0<=A[i]! /\ A[i]! < 4294967296:=fun h=>zC6 ha h
   have hk1:nk A 1=lb A 0:=by rw[zBA,zB2,zDG]; omega
   refine gob ?_ ?_<;>intro h
   .have hA1:=hAi zom
    have hg:=zBF (show i<A.length by omega) ha;rcases(show i=0\/i=1 by omega) with e | e
    .subst e
     have es:vEN .u64 (32 * ((0:Nat):Int))=1:=by rw[zNK zom]; rfl
     have eb:vF0 .or .u64 ((nk A 0:Nat):Int) (A[0]! * 1)=((nk A 1:Nat):Int):=by
      have:=zL0 (a:=lb A 0) (b:=0) (i:=0) zdd (by have:=zCW ha 0; omega);rw[zB2,hk1,<- hg];have e2:((2 ^ 0 * lb A 0:Nat):Int)=(lb A 0:Int) * 1:=by omega
      rw[e2]at this;rw[this]; omega
     rw[es];refine zFA ?_ ?_
     .omega
     refine sts ?_;exact⟨1,⟨zom,zom⟩,zAC rfl eb,rAJ,rAI,zAC rfl zom,rGU⟩
    .subst e
     have es:(32 * ((1:Nat):Int))=32:=by omega
     have hk:=zCW ha 0
     have eb:vF0 .or .u64 ((nk A 1:Nat):Int) (A[1]! * vEN .u64 32)=((nk A 2:Nat):Int):=by
      have hk2:nk A 2=nk A 1+4294967296 * lb A 1:=by rw[zBA A 1,zA9,zDG]
      rw[vHD hA1 zom,hk2,<- hg]; omega
     rw[es];refine zFA ?_ ?_
     .rw[zGY]; omega
     refine sts ?_;exact⟨2,⟨zom,zom⟩,zAC rfl eb,rAJ,rAI,zAC rfl zom,rGU⟩
   .refine zAB rfl ?_
    rw[zB0 (show A.length<=i by omega),hv]
theorem uI3:FO 198 Tryz.f198 [.tmp 4] 41:=mkO Tryz.func198 Tryz.ntmps198 Tryz.results198
theorem uGR(xs:List Int)(k:Nat)(hx:okN xs)(hl:xs.length<2147483647)(hk:k<32):Fn 198 [vBK xs,.int .i64 k] (.fresh ((vEI (xs.length+1) (nv xs * 2 ^ k)).map (.int .u32)) 1 false):=by
 have hp1:1<=2 ^ k:=rD6 zdd;have hp2:2 ^ k<=2 ^ 31:=rES zdd zom;have hsh:vEN .u64 (k:Int)=((2 ^ k:Nat):Int):=by rw[zNK zom]; simp
 refine zEJ vBC hT uI3 zsm ?_;refine sts ?_
 refine zAN hT (fun((i,O,h):Nat×List Int×Nat)=>[(1,.int .i64 k),(5,.own 0 0 (xs.length+1)),(13,vBK xs),(14,.int .i64 xs.length),(15,.int .i64 i)]) (fun(_,O,_)=>[(0,⟨O.map (.int .u32),1,false⟩)]) [] 1
  (fun(i,O,h)=>i<=xs.length/\O.length=xs.length+1/\okN O/\nk O (i+1)=nk xs i * 2 ^ k/\lb O i=h/\h<2 ^ k) (fun(i,_,_)=>xs.length - i) (0,List.replicate (xs.length+1) 0,0) ⟨zsm,zsm,zDL _,by rw[zB2,zBA,zB2,zM1]; simp,zM1 _ _,hp1⟩ zdd zsm ?_ ?_
 .exact⟨[4],[],[],[],ttt,⟨rAI,zA3 zdd rfl rAG,rAJ,zAC rfl zsm,rAI,rGU⟩,⟨zAF zdd rfl (zNO (f:=PV.int .u32) (x:=0) rAG) (zAQ fun _=>⟨rfl,zsm⟩) rfl,rGU⟩,rAA⟩
 .intro⟨i,O,h⟩ ⟨hi,hO,hok,hv,hlb,hh⟩
  have hXi:i<xs.length->0<=xs[i]! /\ xs[i]! < 4294967296:=fun h=>zC6 hx h
  refine gob ?_ ?_<;>intro h
  .have hx1:=hXi zom
   have hg:=zBF (show i<xs.length by omega) hx;have hlt:=zCW hx i;obtain⟨p,ep⟩:∃ p,lb xs i * 2 ^ k=p:=⟨_,rfl⟩;have hpI:xs[i]! * vEN .u64 (k:Int)=(p:Int):=by rw[hsh,<- hg,<- ep]; simp
   have hpb:p<9223372036854775808:=by
    have:lb xs i * 2 ^ k<=4294967295 * 2 ^ 31:=rFH zom hp2;omega
   have hpd:p / 4294967296<2 ^ k:=by
    refine rFF ?_;have:(lb xs i+1) * 2 ^ k<=4294967296 * 2 ^ k:=rBK _ zom;rw[rB6]at this;omega
   obtain⟨or1,or2⟩:=uMT (X:=lb xs i) hk hh;rw[ep]at or1 or2;rw[hpI];refine zFA ?_ ?_
   .omega
   refine sts ?_;refine zBX i zom zom ?_;refine sts ?_;refine zCT ?_;refine sts ?_;refine zBX i zom zom ?_;refine sts ?_;have hOi:O[i]! = ((lb O i:Nat):Int):=(zBF zom hok).symm;rw[<- hlb]at or1 or2;have hor:vF0 .or .u32 O[i]! ((p:Int) % 4294967296)=((p % 4294967296+lb O i:Nat):Int):=by rw[hOi,<- or1]; rfl
   rw[zDI];refine vJR (n:=(p:Int) / 4294967296) ?_ ?_
   .omega
   refine sts ?_;refine uJH (i+1) zom zom zom ?_;refine sts ?_
   refine⟨(i+1,(O.set i ((p % 4294967296+lb O i:Nat):Int)).set (i+1) ((p / 4294967296:Nat):Int),p / 4294967296),⟨⟨zom,by simp[hO],zB1 (zB1 hok _ zom) _ zom,?_,?_,hpd⟩,by show xs.length - (i+1)<xs.length - i; omega⟩,[0],[],[],[],ttt,
    ⟨rAI,zA3 zdd rfl rfl,rAJ,rAI,zAC rfl zom,rGU⟩,⟨zAF zdd rfl (by rw[zC5 (j:=i) zom hor]; exact zC5 zom zom) (zAQ fun _=>⟨rfl,zsm⟩) rfl,rGU⟩,rAA⟩
   .rw[zGL _ rAE,zGL _ zom,zBA,zA9,Int.toNat_natCast,Int.toNat_natCast]
    rw[zBA]at hv;have hc:=zEB (pw i) p;rw[rB6,<- hv,rBO (pw i),ep,<- hc,rA9,rBN (4294967296 * pw i)];omega
   .simp[lb,List.getD,show i+1<O.length by omega]; omega
  .have hi':i=xs.length:=by omega
   refine zBL rfl ?_ (by simp[zHV]) rfl (zD7 (fun x=>zB8 x) _);rw[zB0 (show O.length<=i+1 by omega),zB0 (show xs.length<=i by omega)]at hv;rw[<- hv,<- hO,zMZ hok]
theorem uIS:FO 201 Tryz.f201 [.tmp 4,.tmp 5] 64:=mkO Tryz.func201 Tryz.ntmps201 Tryz.results201
theorem uN3(xs:List Int)(k:Nat)(hx:okN xs)(hl:xs.length<2147483647)(hk:k<32):Fn 201 [vBK xs,.int .i64 k] (.data (.tup [vBK (vBG (nv xs / 2 ^ k)),.int .i64 0])):=by
 have ct:=zCU xs hx zom;have h2:=zAV hx;have ha:=zAP (nv xs);have hv0:=zAR (nv xs);generalize nv xs=N at *
 have hnil:vBG N=[]->N=0:=zC0;generalize vBG N=A at *
 have hq:(k:Int).tdiv 32=0:=by rw[rEZ zom]; omega
 have hm:(k:Int).tmod 32=k:=by rw[rEY zom]; omega
 refine zAL vBC hT uIS zsm ?_
 refine gob ?_ ?_<;>intro h
 .omega
 refine zAA ct rfl ?_
 refine gob ?_ ?_<;>intro h
 .have h0:A=[]:=rAZ.1 (by rw[hq]at h; omega)
  have:=hnil h0;subst this;exact zAB rfl (by simp[zDM])
 .refine zCE (l':=A) (by rw[hq]; simp) ?_
  refine sts ?_
  refine zAN hT (fun((i,O):Nat×List Int)=>[(0,vBK A),(1,.int .i64 k),(6,.own 0 0 A.length),(30,vBK A),(31,.int .i64 A.length),(32,.int .i64 i)]) (fun(_,O)=>[(0,⟨O.map (.int .u32),1,false⟩)]) [] 1
   (fun(i,O)=>i<=A.length/\O.length=A.length/\okN O/\nk O i+pw i * (nt A i / 2 ^ k)=N / 2 ^ k) (fun(i,_)=>A.length - i) (0,List.replicate A.length 0) ⟨zsm,zsm,zDL _,by rw[zB2,zDG,zHT,hv0]; omega⟩ zdd zsm ?_ ?_
  .exact⟨[23],[],[],[],ttt,⟨rAJ,rAI,zA3 zdd rfl rAG,rAJ,zAC rfl zsm,rAI,rGU⟩,⟨zAF zdd rfl (zNO (f:=PV.int .u32) (x:=0) rAG) (zAQ fun _=>⟨rfl,zsm⟩) rfl,rGU⟩,rAA⟩
  .intro⟨i,O⟩ ⟨hi,hO,hok,hv⟩
   have hAi:i<A.length->0<=A[i]! /\ A[i]! < 4294967296:=fun h=>zC6 ha h
   have hAi1:i+1<A.length->0<=A[i+1]! /\ A[i+1]! < 4294967296:=fun h=>zC6 ha h
   have hst:nt A i / 2 ^ k=(lb A i+4294967296 * lb A (i+1)) / 2 ^ k % 4294967296+4294967296 * (nt A (i+1) / 2 ^ k):=by
    rw[zC7 ha i,zC7 ha (i+1)];exact uBJ hk _ _ _ (zCW ha i)
   obtain⟨X,eX0⟩:∃ X,lb A i+4294967296 * lb A (i+1)=X:=⟨_,rfl⟩;rw[eX0]at hst
   have efd:∀ Y:Int,Y=(X:Int)->Y.fdiv (vEN .u64 (k:Int))=((X / 2 ^ k:Nat):Int):=fun Y hY=>by
    rw[hY,zKJ (j:=k) (by show min (k:Int).toNat 64=k; omega)]
    simp
   (repeat' (first|refine stp ?_|with_reducible(refine brr ?_ ?_<;>intro h)));all_goals try(conv=>whnf)
   .refine zA5 (j:=i+1) rfl zom ?_
    have hA1:=hAi zom;have hA2:=hAi1 zom;have hg1:=zBF (show i<A.length by omega) ha;have hg2:=zBF (show i+1<A.length by omega) ha;refine sts ?_;refine zFA ?_ ?_
    .rw[zGY]; omega
    refine sts ?_;have eX:=efd (vF0 .or .u64 A[i]! (A[i+1]! * vEN .u64 32)) (by rw[vHD hA2 hA1]; omega);rw[hm,eX];refine zCT ?_;refine sts ?_;refine zBX i zom zom ?_;refine sts ?_
    refine⟨(i+1,O.set i ((X / 2 ^ k % 4294967296:Nat):Int)),⟨⟨zom,by simp[hO],zB1 hok _ zom,?_⟩,by show A.length - (i+1)<A.length - i; omega⟩,[0],[],[],[],ttt,
     ⟨rAJ,rAI,zA3 zdd rfl rfl,rAJ,rAI,zAC rfl zom,rGU⟩,⟨zAF zdd rfl (zC5 zom rfl) (zAQ fun _=>⟨rfl,zsm⟩) rfl,rGU⟩,rAA⟩
    rw[zGL _ zom,zA9,Int.toNat_natCast,<- hv,hst,rA9,rBN 4294967296 (pw i),rBO];omega
   .have hA1:=hAi zom
    have hg1:=zBF (show i<A.length by omega) ha;have hg2:=zHW (show A.length<=i+1 by omega);have eX:=efd A[i]! zom;rw[hm,eX];refine zCT ?_;refine sts ?_;refine zBX i zom zom ?_;refine sts ?_
    refine⟨(i+1,O.set i ((X / 2 ^ k % 4294967296:Nat):Int)),⟨⟨zom,by simp[hO],zB1 hok _ zom,?_⟩,by show A.length - (i+1)<A.length - i; omega⟩,[0],[],[],[],ttt,
     ⟨rAJ,rAI,zA3 zdd rfl rfl,rAJ,rAI,zAC rfl zom,rGU⟩,⟨zAF zdd rfl (zC5 zom rfl) (zAQ fun _=>⟨rfl,zsm⟩) rfl,rGU⟩,rAA⟩
    rw[zGL _ zom,zA9,Int.toNat_natCast,<- hv,hst,rA9,rBN 4294967296 (pw i),rBO];omega
   .have hi':i=A.length:=by omega
    rw[zET (show A.length<=i by omega),Nat.zero_div,Nat.mul_zero,Nat.add_zero,zB0 (show O.length<=i by omega)]at hv;have ct2:=zCU O hok zom;rw[hv]at ct2;refine zAA ct2 (zAD (zAI rfl rfl zom (fun x=>zB8 x)) rfl) ?_;refine sts ?_;exact rGV
abbrev vFR(U O:List Int):List (Nat×Blk):=[(0,⟨U.map (.int .u32),1,false⟩),(1,⟨O.map (.int .u32),1,false⟩)]
def vES(U:List Int)(i n:Nat):List Int:=(U.drop i).take (n+1)
theorem zNQ{U:List Int}{i n:Nat}(h:i+n+1<=U.length):(vES U i n).length=n+1:=by simp[vES]; omega
theorem vG9{U:List Int}(h:okN U)(i n:Nat):okN (vES U i n):=vO6 (uDB h i) _
theorem vV0{U:List Int}{i n j:Nat}(ho:okN U)(h:i+n+1<=U.length)(hj:j<=n):U[i+j]! = ((lb (vES U i n) j:Nat):Int):=by
 have h1:=zBF (a:=vES U i n) (k:=j) (by rw[zNQ h]; omega) (vG9 ho i n);rw[h1,rAT (vES U i n) j (by rw[zNQ h]; omega),rAT U (i+j) zom];simp[vES]
theorem vMU:FO 200 Tryz.f200 [.tmp 4] 75:=mkO Tryz.func200 Tryz.ntmps200 Tryz.results200
theorem vS0(U O V:List Int)(i n m:Nat)(t:Tm)(K:PV->St->Prop)(hU:okN U)(hV:okN V)(hn:2<=n)(hVl:V.length=n)(hi:i+n+1<=U.length)(hUl:U.length<2147483648)(htop:2147483648<=lb V (n - 1))
 (hlt:nv (vES U i n)<nv V * 4294967296)
 (hK:∀ q t' nx',2<=nx'->nv (vES U i n)<(q+1) * nv V->q * nv V<=nv (vES U i n)+nv V->q<=4294967296->K (.int .u64 (q:Nat)) ⟨t',hv (vFR U O),zv [],nx'⟩) :
 FnH Tryz.prog G0 200 [.own 0 i (n+1),vBK V] K ⟨t,hv (vFR U O),zv [],m+2⟩:=by
 have hest:=uNR (vG9 hU i n) hV hn (zNQ hi) hVl htop hlt;have gU:∀ j,j<=n->U[i+j]! = ((lb (vES U i n) j:Nat):Int):=fun j hj=>vV0 hU hi hj
 have lU:=fun j=>zCW (vG9 hU i n) j
 generalize vES U i n=P at *
 have lV:=fun j=>zCW hV j
 have gV:∀ j,j<n->V[j]! = ((lb V j:Nat):Int):=fun j hj=>(zBF zom hV).symm
 refine uJ3 vBC hT vMU zsm ?_;have u1:=gU n zom;have u2:=gU (n - 1) zom;have u3:=gU (n - 2) zom;have w1:=gV (n - 1) zom;have w2:=gV (n - 2) zom;have b1:=lU n;have b2:=lU (n - 1);have b3:=lU (n - 2);have c1:=lV (n - 1);have c2:=lV (n - 2);generalize lb P n=U1 at *
 generalize lb P (n - 1)=U2 at *
 generalize lb P (n - 2)=U3 at *
 generalize lb V (n - 1)=V1 at *
 generalize lb V (n - 2)=V2 at *
 refine sts ?_;refine zBX (i+n) (by first | omega | (simp only[rAN]; omega)) zom ?_;rw[u1];refine sts ?_;refine zFA ?_ ?_
 .rw[zGY]; omega
 refine sts ?_;refine zBX (i+(n - 1)) (by first | omega | (simp only[rAN]; omega)) zom ?_;rw[u2];refine sts ?_;obtain⟨T,eT⟩:∃ T,U1 * 4294967296+U2=T:=⟨_,rfl⟩;have hT0:vF0 .or .u64 ((U1:Int) * vEN .u64 32) (U2:Int)=(T:Int):=by rw[vHE zom zom]; omega
 rw[hT0];rw[eT]at hest;refine sts ?_;refine zA5 (j:=n - 1) (by first | omega | (simp only[rAN]; omega)) zom ?_;rw[w1];refine sts ?_;have hdm:=rEC T V1;have hml:=rDK T (show V1 > 0 by omega);have eq0:(T:Int).tdiv (V1:Int)=((T / V1:Nat):Int):=(Int.ofNat_tdiv T V1).symm;have er0:(T:Int).tmod (V1:Int)=((T % V1:Nat):Int):=(Int.ofNat_tmod T V1).symm;have hq0l:T / V1<=T:=rDY ..;rw[eq0];generalize T / V1=q0 at *
 generalize T % V1=r0 at *
 rw[rBN]at hdm;have hin:=hest.init hdm.symm hml;refine zFA zom ?_;refine sts ?_;refine zA5 (j:=n - 1) (by first | omega | (simp only[rAN]; omega)) zom ?_;rw[w1];refine sts ?_
 refine zC8 hT (fun((q,r):Nat×Nat)=>[(0,.own 0 i (n+1)),(1,vBK V),(5,.int .i64 n),(7,.int .u64 q),(8,.int .u64 r)]) (fun _=>vFR U O) [] (m+2)
  (fun(q,r)=>T=q * V1+r/\nv P<(q+1) * nv V/\q<=4294967297/\r<4294967296) (fun(q,_)=>q) (q0,r0) ⟨hdm.symm,hin.1,hin.2,zom⟩ zom zsm
  [] ?_ ?_ ?_ ?_
 .exact⟨zA3 zom rfl rfl,rAJ,zAC rfl (by rw[rAN,hVl]),rAI,zAC rfl er0,rGU⟩
 .exact⟨zAF zom rfl rfl (zAQ fun _=>⟨rfl,zsm⟩) rfl,zAF zom rfl rfl (zAQ fun _=>⟨rfl,zsm⟩) rfl,rGU⟩
 .simp[ren]
 intro⟨q,r⟩ ⟨i1,i2,i3,i4⟩
 have fin:∀ q' r' t' nx',2<=nx'->T=q' * V1+r'->nv P<(q'+1) * nv V->q'<=4294967296->q' * V2<=r' * 4294967296+U3->K (.int .u64 (q':Nat)) ⟨t',hv (vFR U O),zv [],nx'⟩ :=
  fun q' r' t' nx' h0 h1 h2 h3 h4=>hK q' t' nx' h0 h2 (hest.last h1 h3 h4) h3
 have dec:nv P<q * nv V->1<=q/\T=(q - 1) * V1+(r+V1)/\nv P<(q - 1+1) * nv V:=fun hd=>by
  have h1:1<=q:=by
   rcases q with _ | q
   .rw[rE2]at hd; omega
   .omega
  have:q * V1=(q - 1) * V1+V1:=by rw[<- rD8,show(q - 1).succ=q by omega]
  exact⟨h1,zom,by rw[show q - 1+1=q by omega]; exact hd⟩
 refine gob ?_ ?_<;>intro h
 .have hq:=h
  obtain⟨d1,d2,d3⟩:=dec (hest.step i1 (rAW zom));refine zA5 (j:=n - 1) (by first | omega | (simp only[rAN]; omega)) zom ?_;rw[w1]
  refine gob ?_ ?_<;>intro h
  .rw[show(q:Int) - 1=((q - 1:Nat):Int) by omega]
   exact fin (q - 1) (r+V1) _ _ zom d2 d3 zom (hest.great zom zom)
  .exact⟨(q - 1,r+V1),[],⟨⟨d2,d3,zom,zom⟩,by show q - 1<q; omega⟩,⟨zA3 zom rfl rfl,rAJ,rAI,zAC rfl zom,zAC rfl zom,rGU⟩,
    ⟨zAF zom rfl rfl (zAQ fun _=>⟨rfl,zsm⟩) rfl,zAF zom rfl rfl (zAQ fun _=>⟨rfl,zsm⟩) rfl,rGU⟩,rAA⟩
 .have hq:=h
  refine zA5 (j:=n - 2) (by first | omega | (simp only[rAN]; omega)) zom ?_;rw[w2];have hqv:q * V2<18446744073709551616:=rA4 (Nat.mul_lt_mul'' (show q<4294967296 by omega) c2) zdd;obtain⟨X,eX⟩:∃ X,q * V2=X:=⟨_,rfl⟩;have eqv:(q:Int) * (V2:Int)=(X:Int):=by rw[<- eX]; simp
  rw[eX]at hqv;refine sts ?_;refine zFA ?_ ?_
  .rw[zGY]; omega
  refine sts ?_;refine zBX (i+(n - 2)) (by first | omega | (simp only[rAN]; omega)) zom ?_;rw[u3];have hT1:vF0 .or .u64 ((r:Int) * vEN .u64 32) (U3:Int)=((r * 4294967296+U3:Nat):Int):=by rw[vHE zom zom]; omega
  refine gob ?_ ?_<;>intro h
  .rw[hT1,eqv]at h
   obtain⟨d1,d2,d3⟩:=dec (hest.step i1 (rA0 zom));refine zFA zom ?_;refine sts ?_;refine zA5 (j:=n - 1) (by first | omega | (simp only[rAN]; omega)) zom ?_;rw[w1]
   refine gob ?_ ?_<;>intro h
   .rw[show(q:Int) - 1=((q - 1:Nat):Int) by omega]
    exact fin (q - 1) (r+V1) _ _ zom d2 d3 zom (hest.great zom zom)
   .exact⟨(q - 1,r+V1),[],⟨⟨d2,d3,zom,zom⟩,by show q - 1<q; omega⟩,⟨zA3 zom rfl rfl,rAJ,rAI,zAC rfl zom,zAC rfl zom,rGU⟩,
     ⟨zAF zom rfl rfl (zAQ fun _=>⟨rfl,zsm⟩) rfl,zAF zom rfl rfl (zAQ fun _=>⟨rfl,zsm⟩) rfl,rGU⟩,rAA⟩
  .rw[hT1,eqv]at h
   exact fin q r _ _ zom i1 i2 zom zom
theorem uEF{U U':List Int}{k:Nat}(h:U'.drop k=U.drop k):U'[k]! = U[k]! := by
 have h1:=rA3 (fun l=>l[0]?) h;simp only[rCR,Nat.add_zero]at h1;simp only[List.getElem!_eq_getElem?_getD,h1]
theorem zKM{a b:List Int}{k:Nat}(h:a.drop k=b.drop k):a.drop (k+1)=b.drop (k+1):=by
 have:=rA3 (List.drop 1) h
 simpa [rGH]using this
structure Red(U V U':List Int)(i q j c b:Nat):Prop where
 len:U'.length=U.length
 ok:okN U'
 lo:U'.take i=U.take i
 hi:U'.drop (i+j)=U.drop (i+j)
 cl:c<4294967296
 bl:b<2
 eq:nv U'+q * (pw i * nk V j)=nv U+pw (i+j) * (c+b)
theorem Red.start{U V:List Int}{i q:Nat}(h:okN U):Red U V U i q 0 0 0:=⟨rfl,h,rfl,rfl,zom,zom,by rw[zB2]; omega⟩
theorem Red.step{U V U':List Int}{i q j c b c' lo b' y:Nat}(h:Red U V U' i q j c b)(hq:q<=4294967296)(hj:i+j<U.length)(hd:lb V j<4294967296)
 (h1:c+q * lb V j=c' * 4294967296+lo) (h2:lo<4294967296) (h3:y+lo+b=lb U' (i+j)+4294967296 * b') (h4:y<4294967296) (h5:b'<2):Red U V (U'.set (i+j) (y:Int)) i q (j+1) c' b':=by
 obtain⟨a1,a2,a3,a4,a5,a6,a7⟩:=h
 refine⟨by simp[a1],zB1 a2 _ zom,by rw[rD7 zom]; exact a3,by
  rw[rDA zom]; exact zKM a4,?_,h5,?_⟩
 .have:q * lb V j<=4294967296 * lb V j:=rBK _ hq
  omega
 .have n1:=zMC (a:=U') (y:Int) (show i+j<U'.length by omega)
  rw[Int.toNat_natCast]at n1;rw[zBA,<- rC4,zA9,rA9 (pw i),<- rBO (pw i),<- zPD,rA9 q,rB2 q (pw (i+j))]
  have n2:pw (i+j) * (c+b)+pw (i+j) * y+pw (i+j) * (q * lb V j)=pw (i+j) * lb U' (i+j)+4294967296 * pw (i+j) * (c'+b'):=by
   rw[<- rA9,<- rA9,rBN 4294967296,rBO,<- rA9]
   congr 1
   omega
  omega
theorem Red.last{U V U':List Int}{i q j c b:Nat}(h:Red U V U' i q j c b)(hj:i+j<U.length)(y:Nat)(hy:y<4294967296) :
 (U'.set (i+j) (y:Int)).length=U.length/\okN (U'.set (i+j) (y:Int))/\(U'.set (i+j) (y:Int)).take i=U.take i/\(U'.set (i+j) (y:Int)).drop (i+j+1)=U.drop (i+j+1) /\
  nv (U'.set (i+j) (y:Int))+q * (pw i * nk V j)+pw (i+j) * lb U' (i+j)=nv U+pw (i+j) * (c+b)+pw (i+j) * y:=by
 obtain⟨a1,a2,a3,a4,a5,a6,a7⟩:=h
 refine⟨by simp[a1],zB1 a2 _ zom,by rw[rD7 zom]; exact a3,by
  rw[rDA zom]; exact zKM a4,?_⟩
 have n1:=zMC (a:=U') (y:Int) (show i+j<U'.length by omega);rw[Int.toNat_natCast]at n1;omega
structure Bak(U V U':List Int)(i j c:Nat):Prop where
 len:U'.length=U.length
 ok:okN U'
 lo:U'.take i=U.take i
 hi:U'.drop (i+j)=U.drop (i+j)
 cl:c<2
 eq:nv U'+pw (i+j) * c=nv U+pw i * nk V j
theorem Bak.start{U V:List Int}{i:Nat}(h:okN U):Bak U V U i 0 0:=⟨rfl,h,rfl,rfl,zom,by rw[zB2]; omega⟩
theorem Bak.step{U V U':List Int}{i j c c' y:Nat}(h:Bak U V U' i j c)(hj:i+j<U.length)(hd:lb V j<4294967296)
 (h1:c+(lb U' (i+j)+lb V j)=c' * 4294967296+y) (h2:y<4294967296) (hu:lb U' (i+j)<4294967296):Bak U V (U'.set (i+j) (y:Int)) i (j+1) c':=by
 obtain⟨a1,a2,a3,a4,a5,a7⟩:=h
 refine⟨by simp[a1],zB1 a2 _ zom,by rw[rD7 zom]; exact a3,by
  rw[rDA zom]; exact zKM a4,zom,?_⟩
 have n1:=zMC (a:=U') (y:Int) (show i+j<U'.length by omega);rw[Int.toNat_natCast]at n1;rw[zBA,<- rC4,zA9,rA9 (pw i),<- rBO (pw i),<- zPD]
 have n2:pw (i+j) * c+pw (i+j) * lb U' (i+j)+pw (i+j) * lb V j=4294967296 * pw (i+j) * c'+pw (i+j) * y:=by
  rw[<- rA9,<- rA9,rBN 4294967296,rBO,<- rA9]
  congr 1
  omega
 omega
theorem vOP{U U':List Int}{i q W:Nat}(ht:U'.take i=U.take i)(h:nv U'+q * (pw i * W)=nv U):nt U' i+q * W=nt U i:=by
 have e1:=zCP U' i;have e2:=zCP U i;have e3:nk U' i=nk U i:=by unfold nk; rw[ht]
 have e4:pw i * (nt U' i+q * W)=pw i * nt U i:=by
  rw[rA9,rB2];omega
 exact Nat.eq_of_mul_eq_mul_left (zL8 i) e4
structure Out(U U':List Int)(i n q W:Nat):Prop where
 len:U'.length=U.length
 ok:okN U'
 eq:nv U'+q * (pw i * W)=nv U
 lt:nt U' i<W
theorem vV3{U V U1:List Int}{i n q c b:Nat}(hV:okN V)(hVl:V.length=n)(h:Red U V U1 i q n c b)(hn:i+n<U.length)(hq:nt U i<(q+1) * nv V)(hc:c+b<=lb U1 (i+n)) :
 Out U (U1.set (i+n) ((lb U1 (i+n) - c - b:Nat):Int)) i n q (nv V):=by
 obtain⟨l1,l2,l3,l4,l5⟩:=h.last hn (lb U1 (i+n) - c - b) (by have:=zCW h.ok (i+n); omega);rw[zB0 zom]at l5
 have e:nv (U1.set (i+n) ((lb U1 (i+n) - c - b:Nat):Int))+q * (pw i * nv V)=nv U:=by
  have:pw (i+n) * (c+b)+pw (i+n) * (lb U1 (i+n) - c - b)=pw (i+n) * lb U1 (i+n):=by
   rw[<- rA9]; congr 1; omega
  omega
 refine⟨l1,l2,e,?_⟩;have:=vOP l3 e;rw[rB6]at hq;omega
theorem vPD{U X:List Int}{k:Nat}(h:okN X)(e:X.drop (k+1)=U.drop (k+1))(hz:nt U (k+1)=0):nv X<4294967296 * pw k:=by
 have e1:=zCP X (k+1);have e2:nt X (k+1)=0:=by unfold nt at hz ⊢; rw[e]; exact hz
 have:=zOX h (k+1);rw[e2]at e1;rw[zA9]at this;omega
theorem vRZ{U V U1 U3:List Int}{i n q c b c2 y:Nat}(hV:okN V)(hVl:V.length=n)(h:Red U V U1 i q n c b)(hn:i+n<U.length)(hz:nt U (i+n+1)=0)(hq:q * nv V<=nt U i+nv V)
 (hc:lb U1 (i+n)<c+b) (hy:y+c+b=lb U1 (i+n)+4294967296) (h3:Bak (U1.set (i+n) (y:Int)) V U3 i n c2) :
 lb U3 (i+n)=y/\1<=q/\y+c2=4294967296/\Out U (U3.set (i+n) ((0:Nat):Int)) i n (q - 1) (nv V):=by
 obtain⟨l1,l2,l3,l4,l5⟩:=h.last hn y zom;obtain⟨b1,b2,b3,b4,b5,b6⟩:=h3;rw[zB0 zom]at l5 b6
 have hlb:lb U3 (i+n)=y:=by
  have e:=uEF b4;have g:=zBF (a:=U3) (k:=i+n) zom b2;rw[e,rAT _ _ (by rw[l1]; exact hn),List.getElem_set_self]at g;omega
 have s2:=vPD l2 l4 hz;have sp:nv U=nk U i+pw i * nt U i:=zCP U i;generalize U1.set (i+n) (y:Int)=U2 at *
 have e2:nv U2+q * (pw i * nv V)=nv U+pw (i+n) * 4294967296:=by
  have:pw (i+n) * (c+b)+pw (i+n) * y=pw (i+n) * lb U1 (i+n)+pw (i+n) * 4294967296:=by
   rw[<- rA9,<- rA9]; congr 1; omega
  omega
 have hbig:nv U<q * (pw i * nv V):=by omega
 have hq1:1<=q:=by
  rcases q with _ | q
  .rw[rE2]at hbig; omega
  .omega
 have hqW:q * (pw i * nv V)<=pw i * nt U i+pw i * nv V:=by
  rw[rB2,<- rA9];exact rBL _ hq
 have mk:∀ z:Nat,z<4294967296->okN (U3.set (i+n) (z:Int))/\(U3.set (i+n) (z:Int)).drop (i+n+1)=U.drop (i+n+1)/\nv (U3.set (i+n) (z:Int))+pw (i+n) * y=nv U3+pw (i+n) * z:=fun z hz=>by
  refine⟨zB1 b2 _ zom,by rw[rDA zom,zKM b4,l4],?_⟩;have:=zMC (a:=U3) (z:Int) (show i+n<U3.length by omega);rw[Int.toNat_natCast,hlb]at this;exact this
 have hyc:y+c2=4294967296:=by
  by_cases hlt:y+c2<4294967296
  .obtain⟨m1,m2,m3⟩:=mk (y+c2) hlt
   have:=vPD m1 m2 hz;rw[rA9]at m3;omega
  .omega
 obtain⟨m1,m2,m3⟩:=mk 0 zdd
 have e4:nv (U3.set (i+n) ((0:Nat):Int))+(q - 1) * (pw i * nv V)=nv U:=by
  have:q * (pw i * nv V)=(q - 1) * (pw i * nv V)+pw i * nv V:=by rw[<- rD8,show(q - 1).succ=q by omega]
  have t:pw (i+n) * y+pw (i+n) * c2=pw (i+n) * 4294967296:=by rw[<- rA9,hyc]
  omega
 have ht:(U3.set (i+n) ((0:Nat):Int)).take i=U.take i:=by rw[rD7 zom,b3,l3]
 refine⟨hlb,hq1,hyc,by simp[b1,l1],m1,e4,?_⟩;have d:=vOP ht e4;have g:pw i * nt U i<pw i * (q * nv V):=by rw[rB2 (pw i)]; omega
 have g:=rCT g;have:q * nv V=(q - 1) * nv V+nv V:=by rw[<- rD8,show(q - 1).succ=q by omega]
 omega
theorem vYF(U O:List Int)(els:List PV)(U':List Int)(e:els=U'.map (.int .u32)):hs (hv (vFR U O)) 0 (some ⟨els,1,false⟩)=hv (vFR U' O):=by
 subst e
 funext j
 unfold hs hv;cases Nat.beq j 0<;>rfl
theorem uQ3{K:PV->St->Prop}{v v':PV}{t:Tm}{h h':Hp}{z:Fz}{nx:Nat}(ev:v'=v)(eh:h'=h)(k:K v ⟨t,h,z,nx⟩):K v' ⟨t,h',z,nx⟩:=by subst ev eh; exact k
theorem vIZ{u lo b:Nat}(hu:u<4294967296)(hl:lo<4294967296)(hb:b<2):∃ x:Nat,(((u:Int) - (lo:Int)) % 18446744073709551616 - (b:Int)) % 18446744073709551616=(x:Int) /\
 (x % 4294967296)+lo+b=u+4294967296 * (x / 9223372036854775808)/\x<18446744073709551616/\(x / 9223372036854775808=0->x=u - lo - b/\lo+b<=u)/\(x / 9223372036854775808≠0->u<lo+b):=by
 by_cases h:lo+b<=u
 .exact⟨u - lo - b,zom,zom,zom,zom,zom⟩
 .exact⟨u+18446744073709551616 - lo - b,zom,zom,zom,zom,zom⟩
theorem vWS:FO 199 Tryz.f199 [.tmp 6] 107:=mkO Tryz.func199 Tryz.ntmps199 Tryz.results199
theorem uD3(U O V:List Int)(i n q m:Nat)(t:Tm)(K:PV->St->Prop)(hU:okN U)(hV:okN V)(hn:2<=n)(hVl:V.length=n)(hi:i+n+1<=U.length)(hUl:U.length<2147483648)
 (hz:nt U (i+n+1)=0) (hq1:nt U i<(q+1) * nv V) (hq2:q * nv V<=nt U i+nv V) (hq3:q<=4294967296)
 (hK:∀ (r:Nat) U' t' nx',2<=nx'->r<=q->q<=r+1->Out U U' i n r (nv V)->K (.int .u32 (((r:Nat):Int) % 4294967296)) ⟨t',hv (vFR U' O),zv [],nx'⟩) :
 FnH Tryz.prog G0 199 [.own 0 i (n+1),vBK V,.int .u64 q] K ⟨t,hv (vFR U O),zv [],m+2⟩:=by
 have lV:=fun j=>zCW hV j
 have gV:∀ j,j<n->V[j]! = ((lb V j:Nat):Int):=fun j hj=>(zBF zom hV).symm
 refine uJ3 vBC hT vWS zsm ?_;refine sts ?_
 refine zC8 hT (fun((j,U',c,b):Nat×List Int×Nat×Nat)=>[(0,.own 0 i (n+1)),(1,vBK V),(2,.int .u64 q),(7,.int .u64 c),(8,.int .u64 b),(15,vBK V),(16,.int .i64 n),(17,.int .i64 j)]) (fun(_,U',_,_)=>vFR U' O) [] (m+2)
  (fun(j,U',c,b)=>j<=n/\Red U V U' i q j c b) (fun(j,_,_,_)=>n - j) (0,U,0,0) ⟨zom,Red.start hU⟩ zom zsm
  [] ?_ ?_ ?_ ?_
 .exact⟨zA3 zom rfl rfl,rAJ,rAI,rAI,rAI,rAJ,zAC rfl (by rw[rAN,hVl]),rAI,rGU⟩
 .exact⟨zAF zom rfl rfl (zAQ fun _=>⟨rfl,zsm⟩) rfl,zAF zom rfl rfl (zAQ fun _=>⟨rfl,zsm⟩) rfl,rGU⟩
 .simp[ren]
 intro⟨j,U',c,b⟩ ⟨hj,hr⟩;have hl:=hr.len;have hcl:=hr.cl;have hbl:=hr.bl;have lU:=fun j=>zCW hr.ok j
 have gU:∀ j,j<U.length->U'[j]! = ((lb U' j:Nat):Int):=fun j hj=>(zBF zom hr.ok).symm
 refine gob ?_ ?_<;>intro h
 .have hjn:j<n:=by omega
  rw[gV j hjn];have hd:=lV j;have hst:=fun c' lo b' y=>Red.step (c':=c') (lo:=lo) (b':=b') (y:=y) hr hq3 zom hd
  generalize lb V j=d at *
  have hu:=lU (i+j);have gu:=gU (i+j) zom;have hX:q * d<=18446744069414584320:=rBU (rFH hq3 (show d<=4294967295 by omega)) zdd;obtain⟨X,eX⟩:∃ X,q * d=X:=⟨_,rfl⟩;have eqd:(q:Int) * (d:Int)=(X:Int):=by rw[<- eX]; simp
  rw[eX]at hX hst;refine sts ?_;refine zBX (i+j) (by first | omega | (simp only[rAN]; omega)) zom ?_;rw[gu,eqd];generalize lb U' (i+j)=u at *
  obtain⟨c',lo,e1,e2⟩:∃ c' lo,c+X=c' * 4294967296+lo/\lo<4294967296:=⟨(c+X) / 4294967296,(c+X) % 4294967296,zom,zom⟩;refine sts ?_;refine zCT ?_;rw[show((c:Int)+(X:Int)) % 4294967296=(lo:Int) by omega];refine sts ?_;refine zIV ?_;refine sts ?_;refine zIV ?_;obtain⟨x,hx,hx2⟩:=vIZ hu e2 hbl;rw[hx];refine sts ?_;refine zCT ?_;refine sts ?_;refine zBX (i+j) (by first | omega | (simp only[rAN]; omega)) zom ?_;refine sts ?_;obtain⟨hx2,hx3,_⟩:=hx2
  exact⟨(j+1,U'.set (i+j) ((x % 4294967296:Nat):Int),c',x / 9223372036854775808),[],⟨⟨hjn,hst c' lo _ _ e1 e2 hx2 zom zom⟩,by show n - (j+1)<n - j; omega⟩,
   ⟨zA3 zom rfl rfl,rAJ,rAI,zAC rfl (by rw[zDI]; omega),zAC rfl (by rw[zN7]; omega),rAJ,rAI,zAC rfl zom,rGU⟩,
   ⟨zAF zom rfl (zC5 zom zom) (zAQ fun _=>⟨rfl,zsm⟩) rfl,zAF zom rfl rfl (zAQ fun _=>⟨rfl,zsm⟩) rfl,rGU⟩,rAA⟩
 .obtain rfl:j=n:=by omega
  refine zBX (i+j) (by first | omega | (simp only[rAN]; omega)) zom ?_;have hu:=lU (i+j);rw[gU (i+j) zom];refine sts ?_;refine zIV ?_;refine sts ?_;refine zIV ?_;have o1:=vV3 hV hVl hr zom hq1;have o2:=fun c2 y U3=>vRZ (c2:=c2) (y:=y) (U3:=U3) hV hVl hr zom hz hq2
  obtain⟨x,hx,hx2,hx3,hx4,hx5⟩:=vIZ hu hcl hbl;rw[hx];generalize lb U' (i+j)=u at *
  refine sts ?_;refine zCT ?_;refine sts ?_;refine zBX (i+j) (by first | omega | (simp only[rAN]; omega)) zom ?_
  refine gob ?_ ?_<;>intro h
  .rw[zN7]at h
   obtain⟨hx6,hx7⟩:=hx4 zom;refine zCT ?_;refine sts ?_;exact uQ3 rfl (vYF U' O _ (U'.set (i+j) ((x % 4294967296:Nat):Int)) (zC5 (by first | omega | (simp only[rAN]; omega)) zom)) (hK q _ _ _ zom zom zom ((by rw[show u - c - b=x % 4294967296 by omega]at o1; exact o1 zom)))
  .rw[zN7]at h
   have hx6:=hx5 zom;have o3:=fun c2 U3=>o2 c2 (x % 4294967296) U3 zom zom
   obtain⟨l1,l2,l3,l4,l5⟩:=hr.last zom (x % 4294967296) zom
   refine zC8 hT (fun((k,U3,c):Nat×List Int×Nat)=>[(0,.own 0 i (j+1)),(1,vBK V),(2,.int .u64 q),(7,.int .u64 c),(70,vBK V),(71,.int .i64 j),(72,.int .i64 k)]) (fun(_,U3,_)=>vFR U3 O) [] (m+2)
    (fun(k,U3,c)=>k<=j/\Bak (U'.set (i+j) ((x % 4294967296:Nat):Int)) V U3 i k c) (fun(k,_,_)=>j - k) (0,U'.set (i+j) ((x % 4294967296:Nat):Int),0) ⟨zom,Bak.start l2⟩ zom zsm
    [] ?_ ?_ ?_ ?_
   .exact⟨zA3 zom rfl rfl,rAJ,rAI,rAI,rAJ,zAC rfl (by rw[rAN,hVl]),rAI,rGU⟩
   .exact⟨zAF zom rfl (zC5 (by first | omega | (simp only[rAN]; omega)) zom) (zAQ fun _=>⟨rfl,zsm⟩) rfl,zAF zom rfl rfl (zAQ fun _=>⟨rfl,zsm⟩) rfl,rGU⟩
   .simp[ren]
   intro⟨k,U3,c3⟩ ⟨hk,hb⟩;have hbll:=hb.len;have hbl2:=hb.cl;have lU3:=fun j=>zCW hb.ok j
   have gU3:∀ j,j<U.length->U3[j]! = ((lb U3 j:Nat):Int):=fun j hj=>(zBF zom hb.ok).symm
   have lVk:=lV k;have eV:k<j->V[k]! = ((lb V k:Nat):Int):=fun h=>gV k h
   refine gob ?_ ?_<;>intro h
   .have hkj:k<j:=by omega
    refine zBX (i+k) (by first | omega | (simp only[rAN]; omega)) zom ?_;have hst:=fun c' y=>Bak.step (c':=c') (y:=y) hb zom lVk
    have hu3:=lU3 (i+k);rw[gU3 (i+k) zom,eV hkj];generalize lb U3 (i+k)=u3 at *
    generalize lb V k=d at *
    refine sts ?_;refine zCT ?_;refine sts ?_;refine zBX (i+k) (by first | omega | (simp only[rAN]; omega)) zom ?_;refine sts ?_;obtain⟨s,es⟩:∃ s,c3+(u3+d)=s:=⟨_,rfl⟩;rw[es]at hst
    exact⟨(k+1,U3.set (i+k) ((s % 4294967296:Nat):Int),s / 4294967296),[],⟨⟨hkj,hst _ _ zom zom hu3⟩,by show j - (k+1)<j - k; omega⟩,
     ⟨zA3 zom rfl rfl,rAJ,rAI,zAC rfl (by rw[zDI]; omega),rAJ,rAI,zAC rfl zom,rGU⟩,
     ⟨zAF zom rfl (zC5 zom zom) (zAQ fun _=>⟨rfl,zsm⟩) rfl,zAF zom rfl rfl (zAQ fun _=>⟨rfl,zsm⟩) rfl,rGU⟩,rAA⟩
   .obtain rfl:k=j:=by omega
    obtain⟨p0,p1,p2,p3⟩:=o3 c3 U3 hb;refine zBX (i+k) (by first | omega | (simp only[rAN]; omega)) zom ?_;rw[gU3 (i+k) zom];refine sts ?_;refine zCT ?_;refine sts ?_;refine zBX (i+k) (by first | omega | (simp only[rAN]; omega)) zom ?_;refine sts ?_;exact uQ3 (rA3 (PV.int .u32) zom) (vYF U3 O _ (U3.set (i+k) ((0:Nat):Int)) (zC5 (by first | omega | (simp only[rAN]; omega)) (by rw[p0]; omega))) (hK (q - 1) _ _ _ zom zom zom p3)
theorem uI0:FO 197 Tryz.f197 [.tmp 2] 6:=mkO Tryz.func197 Tryz.ntmps197 Tryz.results197
theorem uN7(n:Nat)(h:n<4294967296):Fn 197 [.int .u32 n] (.data (.int .i64 (32 - bl n))):=by
 have hb:=(zCL 32 n h zdd).2.2;refine zAL vBC hT uI0 zsm ?_;refine sts ?_;refine zAA (vZX n h) rfl ?_;refine sts ?_;exact rGV
theorem vPE(U:List Int)(j n:Nat):nt U j=nk (U.drop j) n+pw n * nt U (j+n):=by
 have:=zCP (U.drop j) n;unfold nt at this ⊢;rw[rGH]at this;exact this
theorem uJK{U:List Int}{j n W:Nat}(h:nt U j<W)(hW:W<pw n):nt U (j+n)=0:=by
 have:=vPE U j n;rcases rDD (nt U (j+n)) with e | e
 .exact e
 .have:=rBL (pw n) e
  omega
structure Dv(N W L n:Nat)(i:Nat)(U O:List Int):Prop where
 ul:U.length=L+1
 uo:okN U
 ol:O.length=L - n+1
 oo:okN O
 le:i<=L - n+1
 eq:nv U+W * (pw i * nt O i)=N
 lt:nt U i<W
theorem Dv.step{N W L n i r:Nat}{U U' O:List Int}(h:Dv N W L n (i+1) U O)(o:Out U U' i n r W)(hr:r<4294967296):Dv N W L n i U' (O.set i (r:Int)):=by
 obtain⟨a1,a2,a3,a4,a5,a6,a7⟩:=h;obtain⟨o1,o2,o3,o4⟩:=o;have hs:=zB1 a4 i (x:=(r:Int)) zom;refine⟨zom,o2,by simp[a3],hs,zom,?_,o4⟩;have e1:=zC7 hs i
 have e2:lb (O.set i (r:Int)) i=r:=by
  have:=zBF (a:=O.set i (r:Int)) (k:=i) rAE hs;rw[rAT _ _ rAE,List.getElem_set_self]at this;omega
 have e3:nt (O.set i (r:Int)) (i+1)=nt O (i+1):=by unfold nt; rw[rDA zom]
 rw[e1,e2,e3,rA9 (pw i),rA9 W];rw[zA9,rBN 4294967296,rBO]at a6;have e4:W * (pw i * r)=r * (pw i * W):=by rw[rBN W,rBN (pw i) r,rBO]
 omega
theorem Dv.done{N W L n:Nat}{U O:List Int}(h:Dv N W L n 0 U O):nv O=N / W/\nv U=N % W:=by
 obtain⟨a1,a2,a3,a4,a5,a6,a7⟩:=h;rw[zHT]at a6 a7;rw[zDG,rF2]at a6;have hW:0<W:=by omega
 rw[<- a6,rET _ _ hW,rE6,rDR a7,rCN a7];omega
theorem Dv.part{N W L n i:Nat}{U O:List Int}(h:Dv N W L n (i+1) U O)(hW:W<pw n):nt U (i+n+1)=0/\nv (vES U i n)=nt U i/\nt U i<W * 4294967296:=by
 obtain⟨a1,a2,a3,a4,a5,a6,a7⟩:=h;have h1:=uJK a7 hW;rw[show i+1+n=i+n+1 by omega]at h1;have h2:=vPE U i (n+1);rw[<- rC4,h1]at h2;have h3:=zC7 a2 i;have h4:=zCW a2 i;refine⟨h1,by unfold nk at h2; unfold vES; omega,zom⟩
theorem Dv.start{A:List Int}{n k W:Nat}(ha:okN A)(hn:n<=A.length)(hn1:1<=n)(hk:k<=31)(hW:2147483648 * pw (n - 1)<=W) :
 Dv (nv A * 2 ^ k) W A.length n (A.length - n+1) (vEI (A.length+1) (nv A * 2 ^ k)) (List.replicate (A.length - n+1) 0):=by
 have hp:2 ^ k<=2 ^ 31:=rES zdd hk;have hA:=zES ha;have up:nv A * 2 ^ k<pw A.length * 2147483648:=rA4 (rF3 hA (rD6 zdd)) (rBL _ hp);have up2:nv A * 2 ^ k<pw (A.length+1):=by rw[zA9]; omega
 have hv:=vHK _ _ up2;refine⟨zHV _ _,vHR _ _,zsm,zDL _,rAR _,by rw[zET zsm,Nat.mul_zero,Nat.mul_zero,hv]; rfl,?_⟩;have e1:=zCP (vEI (A.length+1) (nv A * 2 ^ k)) (A.length - n+1);rw[hv]at e1;have e2:pw A.length=pw (A.length - n+1) * pw (n - 1):=by rw[<- zPD]; congr 1; omega
 have:pw (A.length - n+1) * nt (vEI (A.length+1) (nv A * 2 ^ k)) (A.length - n+1)<pw (A.length - n+1) * W:=by
  have:pw (A.length - n+1) * (2147483648 * pw (n - 1))<=pw (A.length - n+1) * W:=rBL _ hW;rw[rB2]at this;rw[e2]at up;omega
 exact rCT this
theorem Out.small{U U':List Int}{i n q W:Nat}(hU:okN U)(h:Out U U' i n q W)(hlt:nt U i<W * 4294967296):q<4294967296:=by
 have e:=zCP U i;have k1:=zOX hU i;have h2:=h.eq
 have h3:pw i * (q * W)<pw i * (nt U i+1):=by
  rw[rA9,<- rB2 q];omega
 have h4:=rCT h3;have h5:W * q<W * 4294967296:=by rw[rBN W q]; omega
 exact rCT h5
theorem zOA(a b:Nat):vEK a b<0↔a<b:=by
 unfold vEK
 split
 .omega
 .split<;>omega
theorem vSH:FO 181 Tryz.f181 [.tmp 4,.tmp 5,.tmp 6] 100:=mkO Tryz.func181 Tryz.ntmps181 Tryz.results181
theorem zOO(xs ys:List Int)(hx:okN xs)(hy:okN ys)(hl:xs.length<2147483646)(hl2:ys.length<2147483646):Fn 181 [vBK xs,vBK ys] (.data (.tup [vBK (vBG (nv xs / nv ys)),vBK (if nv ys=0 then [] else vBG (nv xs % nv ys)),.int .i64 (if nv ys=0 then 3 else 0)])):=by
 have ct1:=zCU xs hx zom;have ct2:=zCU ys hy zom;obtain⟨A,eA⟩:∃ A,vBG (nv xs)=A:=⟨_,rfl⟩;obtain⟨B,eB⟩:∃ B,vBG (nv ys)=B:=⟨_,rfl⟩;have ha:vNG A:=eA ▸ zEK _;have hb:vNG B:=eB ▸ zEK _;have hvA:nv A=nv xs:=eA ▸ zAR _;have hvB:nv B=nv ys:=eB ▸ zAR _;have hA:A.length<=xs.length:=eA ▸ zAV hx;have hB:B.length<=ys.length:=eB ▸ zAV hy;rw[eA]at ct1;rw[eB]at ct2;rw[<- hvA,<- hvB];have cc:=zOP A B ha.1 hb.1 zom zom;have hcmp:=zOA (nv A) (nv B);refine zAL vBC hT vSH zsm ?_;refine sts ?_;refine zAA ct1 rfl ?_;refine sts ?_;refine zAA ct2 rfl ?_
 refine gob ?_ ?_<;>intro h
 .have h0:B=[]:=rAZ.1 zom
  subst h0;refine zAB rfl ?_;simp[nv,zDM]
 refine zAA cc rfl ?_
 (repeat' (first|refine stp ?_|with_reducible(refine brr ?_ ?_<;>intro h)));all_goals try(conv=>whnf)
 .have hlt:nv A<nv B:=by omega
  have hne:nv B≠0:=by omega
  rw[rAM hne,rAM hne,rDR hlt,rCN hlt,zNX ha];have cm:=zON A ha.1 zom;rw[zNX ha]at cm;refine zAA cm rfl ?_;refine sts ?_;exact rGV
 .have hB1:B.length=1:=by omega
  have hge:nv B<=nv A:=by omega
  have hd:=zCW hb.1 0;have e1:nv B=lb B 0:=by rw[<- zB0 (a:=B) (k:=1) zom,zBA,zB2,zDG]; omega
  have e2:=zBF (a:=B) (k:=0) zom hb.1
  have hp:0<nv B:=by
   have:=zOD hb (fun e=>by subst e; simp at hB1);have:=zL8 (B.length - 1);omega
  have hne:nv B≠0:=by omega
  rw[rAM hne,rAM hne,<- e2,<- e1];refine zAA (uKP A (nv B) ha.1 zom ⟨hp,zom⟩) rfl ?_;refine sts ?_;exact rGV
 .have hB2:2<=B.length:=by omega
  have hge:nv B<=nv A:=by omega
  have hlb:=zBF (a:=B) (k:=B.length - 1) zom hb.1;refine zA5 (j:=B.length - 1) (by first | omega | (simp only[rAN]; omega)) zom ?_;rw[<- hlb];refine sts ?_;refine zAA (uN7 (lb B (B.length - 1)) (zCW hb.1 _)) rfl ?_;refine sts ?_
  have htop:lb B (B.length - 1)≠0:=by
   have h1:=hb.2;rcases h1 with h1 | h1
   .subst h1; simp at hB2
   .intro e
    apply h1;rw[rD2,rAQ zom];rw[e,rAT B _ zom]at hlb;rw[<- hlb]; rfl
  have hbb:=zCL 32 _ (zCW hb.1 (B.length - 1)) zdd
  have hb1:1<=bl (lb B (B.length - 1)):=by
   have:=hbb.1;rcases rDD (bl (lb B (B.length - 1))) with e | e
   .rw[e]at this; omega
   .exact e
  obtain⟨k,hk⟩:∃ k:Nat,bl (lb B (B.length - 1))+k=32:=⟨32 - bl (lb B (B.length - 1)),zom⟩;rw[show(32:Int) - (bl (lb B (B.length - 1)):Int)=(k:Int) by omega];refine zBB (uGR A k ha.1 zom zom) rfl ?_;refine sts ?_;refine zBB (uGR B k hb.1 zom zom) rfl ?_;refine sts ?_;obtain⟨up,hVl,hVt⟩:=vSP hb.1 rfl zom htop hk;have hVo:=zAP (nv B * 2 ^ k);have hVv:=zAR (nv B * 2 ^ k);have hpl:=zFO (show B.length<=B.length+1 by omega);have ct3:=zCU (vEI (B.length+1) (nv B * 2 ^ k)) (vHR _ _) (by rw[zHV]; omega);rw[vHK _ _ zom]at ct3
  have hAB:B.length<=A.length:=by
   rcases rCP A.length B.length with e | e
   .have:=zJ5 ha hb e; omega
   .exact e
  have hBp:0<nv B:=by
   have:=zOD hb (fun e=>by subst e; simp at hB2);have:=zL8 (B.length - 1);omega
  have hVlow:2147483648 * pw (B.length - 1)<=nv B * 2 ^ k:=by
   have e2:nv (vBG (nv B * 2 ^ k))=nk (vBG (nv B * 2 ^ k)) (B.length - 1)+pw (B.length - 1) * lb (vBG (nv B * 2 ^ k)) (B.length - 1):=by rw[<- zBA,show B.length - 1+1=B.length by omega,zB0 zom]
   have:=rBL (pw (B.length - 1)) hVt;rw[hVv]at e2;rw[rBN];omega
  have hst:=Dv.start (n:=B.length) ha.1 hAB zom (show k<=31 by omega) hVlow;have hpk:0<2 ^ k:=rD6 zdd;refine zAA ct3 (zAD (zAI rfl rfl zsm (fun x=>zB8 x)) rfl) ?_;obtain⟨V,eV⟩:∃ V,vBG (nv B * 2 ^ k)=V:=⟨_,rfl⟩;rw[eV]at hVl hVt hVo hVv ⊢;rw[<- hVv]at hst up;refine sts ?_
  refine zAN hT (fun((i,U,O):Nat×List Int×List Int)=>[(9,.int .i64 k),(10,.own 0 0 (A.length+1)),(11,vBK V),(12,.own 1 0 (A.length - B.length+1)),(13,.int .i64 ((i:Int) - 1))]) (fun(_,U,O)=>vFR U O) [] 2
   (fun(i,U,O)=>Dv (nv A * 2 ^ k) (nv V) A.length B.length i U O) (fun(i,_,_)=>i) (A.length - B.length+1,vEI (A.length+1) (nv A * 2 ^ k),List.replicate (A.length - B.length+1) 0) hst zdd zsm ?_ ?_
  .exact⟨[32,45],[],[],[],ttt,⟨rAI,zA3 zdd rfl (by rw[rAN,zHV]),rAJ,zA3 zdd rfl rAG,zAC rfl rAG,rGU⟩,
    ⟨zAF zdd rfl rfl (zAQ fun _=>⟨rfl,zsm⟩) rfl,zAF zdd rfl (zNO (f:=PV.int .u32) (x:=0) rAG) (zAQ fun _=>⟨rfl,zsm⟩) rfl,rGU⟩,rAA⟩
  intro⟨i,U,O⟩ hd;have hul:=hd.ul;have hol:=hd.ol;have hle:=hd.le
  refine gob ?_ ?_<;>intro h
  .obtain⟨i,rfl⟩:∃ i',i=i'+1:=⟨i - 1,zom⟩
   obtain⟨p1,p2,p3⟩:=hd.part zom;rw[show 0+(((i+1:Nat):Int) - 1).toNat=i by omega,show(((i+1:Nat):Int) - 1+((List.map (PV.int .u32) V).length:Int)+1).toNat - (((i+1:Nat):Int) - 1).toNat=B.length+1 by simp only[rAN]; omega];refine zGS (vS0 U O V i B.length _ _ _ hd.uo hVo hB2 hVl zom zom hVt zom ?_);intro q t1 nx1 n1 q1 q2 q3;obtain⟨m,rfl⟩:∃ m,nx1=m+2:=⟨nx1 - 2,zom⟩;rw[p2]at q1 q2;refine sts ?_;refine zGS (uD3 U O V i B.length q _ _ _ hd.uo hVo hB2 hVl zom zom p1 q1 q2 q3 ?_);intro r U' t2 nx2 n2 r1 r2 o;have r3:=o.small hd.uo p3;have hd':=hd.step o r3;rw[show((r:Nat):Int) % 4294967296=(r:Int) by omega];refine sts ?_;refine zBX i (by first | omega | (simp only[rAN]; omega)) zom ?_;refine sts ?_
   exact⟨(i,U',O.set i (r:Int)),⟨hd',by show i<i+1; omega⟩,[0,1],[],[],[],ttt,⟨rAI,zA3 zdd rfl rfl,rAJ,zA3 zdd rfl rfl,zAC rfl zom,rGU⟩,
    ⟨zAF zdd rfl rfl (zAQ fun _=>⟨rfl,zsm⟩) rfl,zAF zdd rfl (zC5 zom rfl) (zAQ fun _=>⟨rfl,zsm⟩) rfl,rGU⟩,rAA⟩
  .obtain rfl:i=0:=by omega
   obtain⟨f1,f2⟩:=hd.done;have cs:=uN3 U k hd.uo zom zom;refine zAA cs (zAD (zAI rfl rfl zom (fun x=>zB8 x)) rfl) ?_;refine sts ?_;have ct4:=zCU O hd.oo zom;refine zAA ct4 (zAD (zAI rfl rfl zom (fun x=>zB8 x)) rfl) ?_;refine sts ?_;refine zAB rfl ?_;have hne:nv B≠0:=by omega
   rw[rAM hne,rAM hne,f1,f2,hVv,Nat.mul_div_mul_right _ _ hpk,Nat.mul_mod_mul_right,Nat.mul_div_cancel _ hpk]
theorem zM4(P Q:Nat):Nat.gcd Q (P % Q)=Nat.gcd P Q:=by rw[Nat.gcd_comm Q,<- Nat.gcd_rec,Nat.gcd_comm]
theorem zDT{m n:Nat}(h:m<=n):(vBG m).length<=(vBG n).length:=by
 have:=zES (zAP n);rw[zAR]at this;exact zB5 zom
theorem uIU:FO 180 Tryz.f180 [.tmp 4] 61:=mkO Tryz.func180 Tryz.ntmps180 Tryz.results180
theorem uN4(xs ys:List Int)(hx:okN xs)(hy:okN ys)(hl:xs.length<2147483646)(hl2:ys.length<2147483646):Fn 180 [vBK xs,vBK ys] (.data (vBK (vBG (Nat.gcd (nv xs) (nv ys))))):=by
 have ct1:=zCU xs hx zom;have ct2:=zCU ys hy zom;have h1:=zAV hx;have h2:=zAV hy;generalize nv xs=P0 at *
 generalize nv ys=Q0 at *
 obtain⟨g,eg⟩:∃ g,Nat.gcd P0 Q0=g:=⟨_,rfl⟩;rw[eg];refine zAL vBC hT uIU zsm ?_;refine sts ?_;refine zAA ct1 rfl ?_;refine sts ?_;refine zAA ct2 rfl ?_;refine sts ?_;refine zA4 hT (fun((P,Q):Nat×Nat)=>[(0,vBK (vBG P)),(1,vBK (vBG Q))]) (fun(P,Q)=>Nat.gcd P Q=g/\(vBG P).length<2147483646/\(vBG Q).length<2147483646) (fun(_,Q)=>Q) (P0,Q0) ⟨eg,zom,zom⟩ ?_ ?_
 .exact⟨rAJ,rAJ,rGU⟩
 intro⟨P,Q⟩ ⟨i1,i2,i3⟩;have cd:=zOO (vBG P) (vBG Q) (zAP P) (zAP Q) i2 i3;rw[zAR,zAR]at cd
 (repeat' (first|refine stp ?_|with_reducible(refine brr ?_ ?_<;>intro h)));all_goals try(conv=>whnf)
 .have hQ:Q≠0:=fun e=>by subst e; rw[zDM]at h; simp at h
  rw[rAM hQ,rAM hQ]at cd;refine zAA cd rfl ?_;refine sts ?_;have hm:=rDK P (show Q > 0 by omega);have hml:=zDT (rD9 hm);exact⟨(Q,P % Q),⟨⟨by rw[zM4]; exact i1,i3,zom⟩,hm⟩,rAJ,rAJ,rGU⟩
 .have cm:=zON (vBG P) (zAP P) zom
  rw[zAR]at cm;refine zAA cm rfl ?_;refine sts ?_;have hQ:Q=0:=zC0 (rAZ.1 zom);subst hQ;rw[rFL]at i1;subst i1;exact rGV
 .have hQ:Q≠0:=fun e=>by subst e; rw[zDM]at h; simp at h
  rw[rAM hQ,rAM hQ]at cd;refine zAA cd rfl ?_;refine sts ?_
  have hQ64:Q<18446744073709551616:=by
   have a:=zES (zAP Q);have b:=zFO (show(vBG Q).length<=2 by omega);rw[zAR]at a;have c:pw 2=18446744073709551616:=by rw[zA9,zA9,zDG]
   omega
  have hm:=rDK P (show Q > 0 by omega);have hml:=zDT (rD9 hm);have cu1:=vZU (vBG Q) (zAP Q) zom;rw[zAR,rAU hQ64]at cu1;have cu2:=vZU (vBG (P % Q)) (zAP _) zom;rw[zAR,rAU zom]at cu2;refine zAA cu1 rfl ?_;refine sts ?_;refine zAA cu2 rfl ?_;refine sts ?_;refine zA4 hT (fun((x,y):Nat×Nat)=>[(11,.int .u64 x),(13,.int .u64 y)]) (fun(x,y)=>Nat.gcd x y=g/\x<18446744073709551616/\y<18446744073709551616) (fun(_,y)=>y) (Q,P % Q) ⟨by rw[zM4]; exact i1,hQ64,zom⟩ ?_ ?_
  .exact⟨rAI,rAI,rGU⟩
  intro⟨x,y⟩ ⟨j1,j2,j3⟩
  refine gob ?_ ?_<;>intro h
  .have hy0:y > 0:=by omega
   have hmy:=rDK x hy0;exact⟨(y,x % y),⟨⟨by rw[zM4]; exact j1,j3,zom⟩,hmy⟩,rAI,zAC rfl (Int.ofNat_tmod x y).symm,rGU⟩
  .have hy0:y=0:=by omega
   subst hy0;rw[rFL]at j1;subst j1;refine zAA (uE1 x j2) rfl ?_;refine sts ?_;exact rGV
end Go.PI.Tryz
