/-
  The program's shift and lift.
-/
import Derived.Test.YtbelmkceegmdjaaGreatDoorCTM
set_option linter.unusedVariables false
set_option linter.unusedSimpArgs false
set_option linter.unnecessarySimpa false
set_option maxHeartbeats 0
namespace Go.PI.Tryz
open Go.Proofs Go.PI
def vCV(K D:Int)(r:RowL):RowL:=⟨r.kind,if 0<=D/\r.kind=4 then vDR r.index D else r.index,if 0<=K then vDR r.lo (K+1) else r.lo,if 0<=K then vDR r.hi (K+1) else r.hi⟩
theorem uEJ{K:Int}(h:0<=K):vCV K (-1)=vTM K:=by
 funext r
 unfold vCV vTM;rw[rAN zom,rAV h,rAV h]
abbrev vEX(K D:Int):PV:=.agg [.int .i64 K,.int .i64 D]
def vFX(K:Int):Prop:=-1<=K/\K<4611686018427387904
theorem vXD:FO 150 Tryz.f150 [.tmp 4] 11:=mkO Tryz.func150 Tryz.ntmps150 Tryz.results150
theorem zNV(n t:Int)(h1:-9223372036854775808<=n)(h2:n<9223372036854775808)(ht:0<=t):Fn 150 [.int .i64 n,.int .i64 t] (.data (.int .i64 (vDR n t))):=by
 refine zAM vBC hT vXD zsm ?_
 refine gob ?_ ?_<;>intro h
 .exact zAB rfl (by unfold vDR; rw[rAV rAC])
 .exact zAB rfl (by unfold vDR; rw[rAN rAC])
theorem vXJ:FO 122 Tryz.f122 [.cell 4 70] 37:=mkO Tryz.func122 Tryz.ntmps122 Tryz.results122
theorem uE3(K D:Int)(r:RowL)(hK:vFX K)(hD:vFX D)(hr:vL8 r)(hi:vSY r):Fn 122 [vEX K D,vBJ r] (.data (vBJ (vCV K D r))):=by
 obtain⟨k1,k2⟩:=hK;obtain⟨d1,d2⟩:=hD;have e1:∀ {v:Int},0<=K->(if 0<=K then vDR v (K+1) else v)=vDR v (K+1):=fun h=>rAV h
 have e2:∀ {v:Int},¬ 0<=K->(if 0<=K then vDR v (K+1) else v)=v:=fun h=>rAN h
 refine zAM vBC hT vXJ zsm ?_;by_cases hk:0<=K
 .have c1:=zNV r.lo (K+1) hr.1.1 hr.1.2 zom
  have c2:=zNV r.hi (K+1) hr.2.1 hr.2.2 zom;by_cases hd:0<=D
  .have c3:=zNV r.index D hi.1 hi.2 hd
   (repeat' (first|refine stp ?_|with_reducible(refine brr ?_ ?_<;>intro h)));all_goals try(conv=>whnf)
   all_goals try (exfalso; omega)
   refine zAA c1 rfl ?_;refine sts ?_;refine zAA c2 rfl ?_
   (repeat' (first|refine stp ?_|with_reducible(refine brr ?_ ?_<;>intro h)));all_goals try(conv=>whnf)
   all_goals try (exfalso; omega)
   .refine zAA c3 rfl ?_
    refine sts ?_;refine zAB rfl ?_;unfold vCV;simp only[vBJ];rw[e1 hk,e1 hk,rAV ⟨hd,rAC⟩]
   .refine zAB rfl ?_
    unfold vCV;simp only[vBJ];rw[e1 hk,e1 hk,rAN (fun h=>by simp_all)]
  ·(repeat' (first|refine stp ?_|with_reducible(refine brr ?_ ?_<;>intro h)));all_goals try(conv=>whnf)
   all_goals try (exfalso; omega)
   refine zAA c1 rfl ?_;refine sts ?_;refine zAA c2 rfl ?_
   (repeat' (first|refine stp ?_|with_reducible(refine brr ?_ ?_<;>intro h)));all_goals try(conv=>whnf)
   all_goals try (exfalso; omega)
   refine zAB rfl ?_;unfold vCV;simp only[vBJ];rw[e1 hk,e1 hk,rAN (fun h=>hd h.1)]
 .by_cases hd:0<=D
  .have c3:=zNV r.index D hi.1 hi.2 hd
   (repeat' (first|refine stp ?_|with_reducible(refine brr ?_ ?_<;>intro h)));all_goals try(conv=>whnf)
   all_goals try (exfalso; omega)
   .refine zAA c3 rfl ?_
    refine sts ?_;refine zAB rfl ?_;unfold vCV;simp only[vBJ];rw[e2 hk,e2 hk,rAV ⟨hd,rAC⟩]
   .refine zAB rfl ?_
    unfold vCV;simp only[vBJ];rw[e2 hk,e2 hk,rAN (fun h=>by simp_all)]
  ·(repeat' (first|refine stp ?_|with_reducible(refine brr ?_ ?_<;>intro h)));all_goals try(conv=>whnf)
   all_goals try (exfalso; omega)
   refine zAB rfl ?_;unfold vCV;simp only[vBJ];rw[e2 hk,e2 hk,rAN (fun h=>hd h.1)]
theorem vM8:FO 88 Tryz.f88 [.tmp 4] 30:=mkO Tryz.func88 Tryz.ntmps88 Tryz.results88
theorem zQV(K D:Int)(l:List MultL)(hK:vFX K)(hD:vFX D)(hl:vCY l):Fn 88 [vEX K D,.imm (l.map vBA)] (.fresh ((vBL (vCV K D) l).map vBA) 7 true):=by
 have hln:=hl.1;refine zDU vBC hT vM8 zsm ?_;refine sts ?_
 refine zC1 hT [(.sl 5,7,true)] (fun(i:Nat)=>[(1,.imm (l.map vBA)),(2,.ptr 0 0 0),(5,.own 1 0 i),(6,.int .i64 i)]) (fun i=>[(0,⟨[vEX K D],2,true⟩),(1,⟨(vBL (vCV K D) (l.take i)).map vBA,7,true⟩)]) [] 2
  (fun i=>i<=l.length) (fun i=>l.length - i) 0 (rA9 _) zdd zsm ⟨rfl,rGW⟩ ?_ ?_
 .exact⟨[0,_],[],[],[],ttt,⟨zAE rfl rfl,(apy rfl),zA5 zdd rfl rfl,zAC rfl rfl,rGW⟩,⟨bbx,zAG zdd rfl rfl (zCU _) rfl,rGW⟩,rAA⟩
 intro i hi;have hlen:(vBL (vCV K D) (l.take i)).length=i:=by simp[vBL]; omega
 by_cases h0:i<l.length
 .have hm:=hl.2 _ (zAX h0)
  have c1:=uE3 K D l[i]!.row hK hD hm.1 hm.2
  refine gob ?_ ?_<;>intro h
  .refine zAA c1 rfl ?_
   refine sts ?_;exact⟨i+1,⟨zom,by show l.length - (i+1)<l.length - i; omega⟩,[0,_],[],[],[],ttt,⟨zAE rfl rfl,(apy rfl),zA5 zdd rfl rfl,zAC rfl zom,rGW⟩,⟨bbx,zAG zdd rfl (zLU h0) (zCU _) rfl,rGW⟩,rAA⟩
  all_goals (exfalso; omega)
 .obtain rfl:i=l.length:=by omega
  rw[rBP]
  refine gob ?_ ?_<;>intro h
  all_goals try (exfalso; omega)
  refine zBH rfl rfl (by simp[vBL]) rfl (zDM (fun x=>zKQ x) _)
theorem uD3{h:Hp}{m r q p la a pa sz sz2 sz3:Nat}{g1 g2 g3:Bool}{n:NodeL}{L:List LemL}{K:List NodeL}{P:List MultL}(h1:h r=some ⟨L.map vBB,sz,g1⟩)(h2:h q=some ⟨K.map vBF,sz2,g2⟩)(h3:h p=some ⟨P.map vBA,sz3,g3⟩)(hl:la=L.length)(ha:a=K.length)(hp:pa=P.length) :
 frz h (m+4) (vIX n (.own r 0 la) (.own q 0 a) (.own p 0 pa))=some (vA7 (.mk L n.split K n.empty P),[r,q,p]):=by
 subst hl hp;exact vYP h1 h2 h3 ha
theorem vQG(f:RowL->RowL):∀ ks:List NodeL,vF8 f ks=ks.map (vCL f)
 | []=>rfl
 | k::ks=>by simp only[vF8,rBJ,vQG f ks]
theorem zEX(f:RowL->RowL)(n:NodeL):vCL f n=.mk (n.lemmas.map (vDB f)) n.split (n.kids.map (vCL f)) n.empty (vBL f n.proof):=by
 cases n
 rw[<- vQG];rfl
theorem zKI{α β:Type}[Inhabited α]{f:α->β}{l:List α}{i:Nat}(h:i<l.length):(l.take i).map f++[f l[i]!]=(l.take (i+1)).map f:=by
 rw[rA0 h,rAS l i h,rBB]; rfl
theorem vSO:FO 49 Tryz.f49 [.cell 4 32] 61:=mkO Tryz.func49 Tryz.ntmps49 Tryz.results49
theorem vLC(K D:Int)(hK:vFX K)(hD:vFX D):∀ (sz:Nat) (n:NodeL),SizeOf.sizeOf n<sz->NodeRg n->Fn 49 [vEX K D,vA7 n] (.data (vA7 (vCL (vCV K D) n))):=by
 intro sz
 induction sz with
 | zero=>intro n h; omega
 | succ sz ih =>
   intro n hsz hn;have hln:=hn.ln;have hkn:=hn.kn;have cp:=zQV K D n.proof hK hD hn.prf;obtain⟨PF,hPF⟩:∃ PF,vBL (vCV K D) n.proof=PF:=⟨_,rfl⟩;rw[zEX,hPF];rw[hPF]at cp;refine zAM vBC hT vSO zsm ?_;refine sus ?_
   (refine zA3 ?_; refine sus ?_)
   refine zA4 cp rfl ?_;refine sus ?_;refine vBW [] [(2,.cptr (vEX K D) 0),(3,.cptr (vA7 n) 0),(4,.ptr 0 0 0),(5,.ptr 1 0 0)] [(0,⟨[.agg [.nilsl,.int .i64 0,.int .i64 0,.bool false,.nilsl,.nilsl,.nilsl,.bool false,.nilsl]],9,true⟩),(1,⟨[vIX n .nilsl .nilsl (.own 2 0 PF.length)],9,true⟩),(2,⟨PF.map vBA,7,true⟩)] [] 3 zdd zsm trivial ?_ ?_
   .exact⟨[2,12,10],[0,1],[(2,.cptr (vEX K D) 0),(3,.cptr (vA7 n) 0)],[],⟨⟨⟨_,rfl⟩,⟨_,rfl⟩,rGW⟩,⟨⟨6,[0],rfl,rfl⟩,⟨6,[1],zCV rfl,rfl⟩,rGW⟩,rGW⟩,⟨zAH rfl,zAH rfl,apx,apx,rGW⟩,
     ⟨bbx,zAJ zdd rfl (zCM vL9 vL9 (zHE zdd rfl zsm)) rfl rfl,zAG zdd rfl rfl (zCU _) rfl,rGW⟩,rAA⟩
   refine sts ?_
   refine zC1 hT [(.cl 1 0 0,6,true)] (fun(i:Nat)=>[(2,.cptr (vEX K D) 0),(3,.cptr (vA7 n) 0),(4,.ptr 0 0 0),(5,.ptr 1 0 0),(6,.int .i64 i)])
    (fun i=>[(0,⟨[.agg [.nilsl,.int .i64 0,.int .i64 0,.bool false,.nilsl,.nilsl,.nilsl,.bool false,.nilsl]],9,true⟩),(1,⟨[vIX n (.own 3 0 i) .nilsl (.own 2 0 PF.length)],9,true⟩),(2,⟨PF.map vBA,7,true⟩),(3,⟨((n.lemmas.take i).map (vDB (vCV K D))).map vBB,6,true⟩)]) [] 4
    (fun i=>i<=n.lemmas.length) (fun i=>n.lemmas.length - i) 0 (rA9 _) zdd zsm ⟨_,_,rfl,rfl,rfl,rGW⟩ ?_ ?_
   .exact⟨[0,1,2,_],[],[],[],ttt,⟨zAH rfl,zAH rfl,(apy rfl),(apy rfl),zAC rfl rfl,rGW⟩,
     ⟨bbx,zAJ zdd rfl (zCM (zHE zdd rfl rfl) vL9 (zHE zdd rfl rfl)) rfl rfl,zAG zdd rfl rfl (zCU _) rfl,zAG zdd rfl rfl (zFL _) rfl,rGW⟩,rAA⟩
   intro i hi;by_cases hi':i<n.lemmas.length
   .have hlm:n.lemmas[i]! ∈ n.lemmas:=zAX hi'
    have hlI:((n.lemmas.take i).map (vDB (vCV K D))).length=i:=by simp; omega
    have cl:=zQV K D n.lemmas[i]!.proof hK hD (hn.lem _ hlm);refine sus ?_;refine zA3 ?_; (repeat' (first|refine stu ?_|with_reducible(refine brr ?_ ?_<;>intro h)));all_goals try(conv=>whnf)
    ·(refine zA3 ?_; refine sus ?_)
     (refine zA3 ?_; refine sus ?_)
     refine zA4 cl rfl ?_;refine sus ?_
     refine vBW [] [(2,.cptr (vEX K D) 0),(3,.cptr (vA7 n) 0),(4,.ptr 0 0 0),(5,.ptr 1 0 0),(6,.int .i64 i),(7,.ptr 4 0 0)]
      [(0,⟨[.agg [.nilsl,.int .i64 0,.int .i64 0,.bool false,.nilsl,.nilsl,.nilsl,.bool false,.nilsl]],9,true⟩),(1,⟨[vIX n (.own 3 0 i) .nilsl (.own 2 0 PF.length)],9,true⟩),(2,⟨PF.map vBA,7,true⟩),(3,⟨((n.lemmas.take i).map (vDB (vCV K D))).map vBB,6,true⟩),(4,⟨[vBB (vDB (vCV K D) n.lemmas[i]!)],6,true⟩)] [] 5 zdd zsm trivial ?_ ?_
     .exact⟨[0,1,2,3,14],[19],[],[(14,[vBB (vDB (vCV K D) n.lemmas[i]!)])],⟨⟨⟨_,rfl⟩,rGW⟩,rGW,⟨⟨_,6,[19],rfl,zAD (ks:=[19]) (ls:=[]) (vP9 rfl (rAM _)) rfl,rfl⟩,rGW⟩⟩,⟨zAH rfl,zAH rfl,apx,apx,zAC rfl rfl,apx,rGW⟩,
       ⟨bbx,zAJ zdd rfl (zCM (zHE zdd rfl rfl) vL9 (zHE zdd rfl rfl)) rfl rfl,zAG zdd rfl rfl (zCU _) rfl,zAG zdd rfl rfl (zFL _) rfl,bbx,rGW⟩,rAA⟩
     refine sts ?_
     exact⟨i+1,⟨zom,zom⟩,[0,1,2,_],[],[],[],ttt,⟨zAH rfl,zAH rfl,(apy rfl),(apy rfl),zAC rfl zom,rGW⟩,
      ⟨bbx,zAJ zdd rfl (zCM (zHE zdd rfl rfl) vL9 (zHE zdd rfl rfl)) rfl rfl,zAG zdd rfl rfl (zCU _) rfl,zAG zdd rfl (by rw[<- zKI hi',rBB]; rfl) (zFL _) rfl,rGW⟩,rAA⟩
    .exfalso; omega
   .obtain rfl:i=n.lemmas.length:=by omega
    rw[rBP];obtain⟨LM,hLM⟩:∃ LM,n.lemmas.map (vDB (vCV K D))=LM:=⟨_,rfl⟩;have hLl:LM.length=n.lemmas.length:=by rw[<- hLM]; simp
    rw[hLM]
    refine gob ?_ ?_<;>intro h
    all_goals try (exfalso; omega)
    refine zC1 hT [(.cl 1 0 6,9,true)] (fun(i:Nat)=>[(2,.cptr (vEX K D) 0),(3,.cptr (vA7 n) 0),(4,.ptr 0 0 0),(5,.ptr 1 0 0),(8,.int .i64 i)])
     (fun i=>[(0,⟨[.agg [.nilsl,.int .i64 0,.int .i64 0,.bool false,.nilsl,.nilsl,.nilsl,.bool false,.nilsl]],9,true⟩),(1,⟨[vIX n (.own 3 0 n.lemmas.length) (.own 4 0 i) (.own 2 0 PF.length)],9,true⟩),(2,⟨PF.map vBA,7,true⟩),(3,⟨LM.map vBB,6,true⟩),(4,⟨((n.kids.take i).map (vCL (vCV K D))).map vBF,9,true⟩)]) [] 5
     (fun i=>i<=n.kids.length) (fun i=>n.kids.length - i) 0 (rA9 _) zdd zsm ⟨_,_,rfl,rfl,rfl,rGW⟩ ?_ ?_
    .exact⟨[0,1,2,3,_],[],[],[],ttt,⟨zAH rfl,zAH rfl,(apy rfl),(apy rfl),zAC rfl rfl,rGW⟩,
      ⟨bbx,zAJ zdd rfl (zCM (zHE zdd rfl rfl) (zHE zdd rfl rfl) (zHE zdd rfl rfl)) rfl rfl,zAG zdd rfl rfl (zCU _) rfl,zAG zdd rfl rfl (zFL _) rfl,zAG zdd rfl rfl (zHU _) rfl,rGW⟩,rAA⟩
    intro i hi;by_cases hi':i<n.kids.length
    .have hkm:n.kids[i]! ∈ n.kids:=zAX hi'
     have hkl:((n.kids.take i).map (vCL (vCV K D))).length=i:=by simp; omega
     have ck:=ih n.kids[i]! (by have:=NodeL.sizeOf_kid hkm; omega) (hn.kid _ hkm)
     refine gon ?_ ?_<;>intro h
     .refine zAA ck rfl ?_
      refine sns ?_
      refine⟨i+1,⟨zom,zom⟩,[0,1,2,3,_],[],[],[],ttt,⟨zAH rfl,zAH rfl,(apy rfl),(apy rfl),zAC rfl zom,rGW⟩,
       ⟨bbx,zAJ zdd rfl (zCM (zHE zdd rfl rfl) (zHE zdd rfl rfl) (zHE zdd rfl rfl)) rfl rfl,zAG zdd rfl rfl (zCU _) rfl,zAG zdd rfl rfl (zFL _) rfl,zAG zdd rfl ?_ (zHU _) rfl,rGW⟩,rAA⟩
      rw[<- zKI hi',rBB];show _++[vA7 _]=_++[vBF _]
      rw[zBQ]
     all_goals (exfalso; omega)
    .obtain rfl:i=n.kids.length:=by omega
     rw[rBP];have hkl:(n.kids.map (vCL (vCV K D))).length=n.kids.length:=by simp
     obtain⟨KD,hKD⟩:∃ KD,n.kids.map (vCL (vCV K D))=KD:=⟨_,rfl⟩;rw[hKD]at hkl ⊢
     refine gon ?_ ?_<;>intro h
     all_goals try (exfalso; omega)
     exact zAB (uD3 (m:=0) (n:=n) rfl rfl rfl hLl.symm hkl.symm rfl) rfl
def uLY(r:RowL)(k:Int):Prop:=r.lo=k+1\/r.hi=k+1
theorem vI5{l:List MultL}{k:Int}{i:Nat}(h:i<l.length)(hu:uLY l[i]!.row k):vFT l k=true:=by
 unfold vFT;rw[rCY];exact⟨_,zAX h,by simpa [uLY]using hu⟩
theorem vT2{l:List MultL}{k:Int}(h:∀ j,j<l.length->¬ uLY l[j]!.row k):vFT l k=false:=by
 unfold vFT;rw[rD4];intro m hm;obtain⟨j,hj,rfl⟩:=rBD hm;have:=h j hj;rw[rAS l j hj]at this
 simpa [uLY]using this
theorem vWA:FO 92 Tryz.f92 [.tmp 4] 32:=mkO Tryz.func92 Tryz.ntmps92 Tryz.results92
theorem vQK(l:List MultL)(k:Int)(hl:vCY l)(h1:0<=k)(h2:k<4611686018427387904):Fn 92 [.imm (l.map vBA),.int .i64 k] (.data (.bool (vFT l k))):=by
 have hln:=hl.1;refine zAM vBC hT vWA zsm ?_;refine sts ?_;refine zA6 hT (fun i:Nat=>[(0,.imm (l.map vBA)),(1,.int .i64 k),(5,.int .i64 i)]) (fun i=>i<=l.length/\∀ j,j<i->¬ uLY l[j]!.row k) (fun i=>l.length - i) 0 ⟨rA9 _,fun j hj=>by omega⟩ ⟨rAJ,rAI,rAI,rGW⟩ ?_;intro i ⟨hi,hno⟩;by_cases h0:i<l.length
 ·(repeat' (first|refine stp ?_|with_reducible(refine brr ?_ ?_<;>intro h)));all_goals try(conv=>whnf)
  .exact zAB rfl (rA3 PV.bool (vI5 h0 (rAW rAC)).symm)
  .exact zAB rfl (rA3 PV.bool (vI5 h0 (rAZ rAC)).symm)
  .refine⟨i+1,⟨⟨zom,fun j hj=>?_⟩,zom⟩,rAJ,rAI,zAC rfl zom,rGW⟩
   rcases rCB (rCF hj) with h | rfl
   .exact hno j h
   .rintro(h | h)<;>simp_all
  all_goals (exfalso; omega)
 .obtain rfl:i=l.length:=by omega
  (repeat' (first|refine stp ?_|with_reducible(refine brr ?_ ?_<;>intro h)));all_goals try(conv=>whnf)
  all_goals try (exfalso; omega)
  exact zAB rfl (rA3 PV.bool (vT2 hno).symm)
theorem vI3(k:Int):∀ ks:List NodeL,vFS ks k=ks.any (fun n=>vDZ n k)
 | []=>rfl
 | n::ks=>by simp only[vFS,List.any_cons,vI3 k ks]
theorem vGQ(n:NodeL)(k:Int):vDZ n k=(n.lemmas.any (fun m=>vFT m.proof k) || n.kids.any (fun n=>vDZ n k) || vFT n.proof k):=by
 cases n
 simp only[vDZ,vI3];rfl
theorem zLI{α:Type}[Inhabited α]{f:α->Bool}{l:List α}(h:∀ j,j<l.length->f l[j]! = false):l.any f=false:=by
 rw[rD4];intro m hm;obtain⟨j,hj,rfl⟩:=rBD hm;have:=h j hj;rw[rAS l j hj]at this;simp[this]
theorem any_some{α:Type}[Inhabited α]{f:α->Bool}{l:List α}{i:Nat}(h:i<l.length)(hf:f l[i]! = true):l.any f=true:=rCY.2 ⟨_,zAX h,hf⟩
theorem vWB:FO 58 Tryz.f58 [.tmp 4] 40:=mkO Tryz.func58 Tryz.ntmps58 Tryz.results58
theorem uEL (k:Int) (h1:0<=k) (h2:k<4611686018427387904):∀ (sz:Nat) (n:NodeL),SizeOf.sizeOf n<sz->NodeRg n->Fn 58 [vA7 n,.int .i64 k] (.data (.bool (vDZ n k))):=by
 intro sz
 induction sz with
 | zero=>intro n h; omega
 | succ sz ih =>
   intro n hsz hn;have hln:=hn.ln;have hkn:=hn.kn;have cp:=vQK n.proof k hn.prf h1 h2;refine zAM vBC hT vWB zsm ?_;refine sns ?_;refine zAO hT (fun i:Nat=>[(1,.int .i64 k),(2,.cptr (vA7 n) 0),(5,.int .i64 i)]) (fun _=>[]) [] 0 (fun i=>i<=n.lemmas.length/\∀ j,j<i->vFT n.lemmas[j]!.proof k=false) (fun i=>n.lemmas.length - i) 0 ⟨rA9 _,fun j hj=>by omega⟩ zdd zsm ?_ ?_
   .exact⟨[],[0],[(2,.cptr (vA7 n) 0)],[],⟨⟨⟨_,rfl⟩,rGW⟩,⟨⟨6,[0],zCV rfl,rfl⟩,rGW⟩,rGW⟩,⟨zAC rfl rfl,zAH rfl,zAC rfl rfl,rGW⟩,rGW,rAA⟩
   intro i ⟨hi,hno⟩;by_cases h0:i<n.lemmas.length
   .have hlm:n.lemmas[i]! ∈ n.lemmas:=zAX h0
    have cu:=vQK n.lemmas[i]!.proof k (hn.lem _ hlm) h1 h2
    refine gon ?_ ?_<;>intro h
    .refine zAA cu rfl ?_
     refine gon ?_ ?_<;>intro h
     .refine zAB rfl (rA3 PV.bool ?_)
      rw[vGQ,any_some (f:=fun m=>vFT m.proof k) h0 rAC];rfl
     .refine⟨i+1,⟨⟨zom,fun j hj=>?_⟩,by show n.lemmas.length - (i+1)<n.lemmas.length - i; omega⟩,[],[],[],[],ttt,⟨rAI,zAH rfl,zAC rfl zom,rGW⟩,rGW,rAA⟩
      rcases rCB (rCF hj) with h | rfl
      .exact hno j h
      .assumption
    all_goals (exfalso; omega)
   .obtain rfl:i=n.lemmas.length:=by omega
    have e1:n.lemmas.any (fun m=>vFT m.proof k)=false:=zLI hno
    refine gon ?_ ?_<;>intro h
    all_goals try (exfalso; omega)
    refine zAO hT (fun i:Nat=>[(1,.int .i64 k),(2,.cptr (vA7 n) 0),(6,.int .i64 i)]) (fun _=>[]) [] 0 (fun i=>i<=n.kids.length/\∀ j,j<i->vDZ n.kids[j]! k=false) (fun i=>n.kids.length - i) 0 ⟨rA9 _,fun j hj=>by omega⟩ zdd zsm ?_ ?_
    .exact⟨[],[],[],[],ttt,⟨rAI,zAH rfl,rAI,rGW⟩,rGW,rAA⟩
    intro i ⟨hi,hno2⟩;by_cases h0:i<n.kids.length
    .have hkm:n.kids[i]! ∈ n.kids:=zAX h0
     have cu:=ih n.kids[i]! (by have:=NodeL.sizeOf_kid hkm; omega) (hn.kid _ hkm)
     refine gon ?_ ?_<;>intro h
     .refine zAA cu rfl ?_
      refine gon ?_ ?_<;>intro h
      .refine zAB rfl (rA3 PV.bool ?_)
       rw[vGQ,any_some (f:=fun m=>vDZ m k) h0 rAC]
       simp
      .refine⟨i+1,⟨⟨zom,fun j hj=>?_⟩,by show n.kids.length - (i+1)<n.kids.length - i; omega⟩,[],[],[],[],ttt,⟨rAI,zAH rfl,zAC rfl zom,rGW⟩,rGW,rAA⟩
       rcases rCB (rCF hj) with h | rfl
       .exact hno2 j h
       .assumption
     all_goals (exfalso; omega)
    .obtain rfl:i=n.kids.length:=by omega
     have e2:n.kids.any (fun m=>vDZ m k)=false:=zLI hno2
     refine gon ?_ ?_<;>intro h
     all_goals try (exfalso; omega)
     refine zAA cp rfl ?_;refine sns ?_;refine zAB rfl (rA3 PV.bool ?_);rw[vGQ,e1,e2];rfl
def vGG(n:NodeL)(i:Nat):NodeL:=.mk (n.lemmas.take i++n.lemmas.drop (i+1)) n.split n.kids n.empty n.proof
theorem vJ0:FO 59 Tryz.f59 [.cell 6 32] 24:=mkO Tryz.func59 Tryz.ntmps59 Tryz.results59
theorem vNY(n:NodeL)(i:Nat)(k:Int)(hi:i<n.lemmas.length)(h1:0<=k)(h2:k<4611686018427387904)(hn:NodeRg n):Fn 59 [vA7 n,.int .i64 i,.int .i64 k] (.data (vA7 (vCL (vTM k) (vGG n i)))):=by
 have hln:=hn.ln
 have hd:NodeRg (vGG n i):=⟨_,by show(n.lemmas.take i++n.lemmas.drop (i+1)).length<_; simp; omega,fun m hm=>by
  rcases rAY.1 (show m∈n.lemmas.take i++n.lemmas.drop (i+1) from hm) with h | h
  .exact hn.lem m (rCM h)
  .exact hn.lem m (rDK h),hn.prf,hn.kn,hn.kid⟩
 have ck:=vLC k (-1) ⟨zom,h2⟩ ⟨zom,zom⟩ _ (vGG n i) (rAL _) hd;rw[uEJ h1]at ck;refine zAM vBC hT vJ0 zsm ?_;refine sts ?_;refine zB2 (l':=n.lemmas.take i) zsm ?_;refine sts ?_;refine zB2 (l':=n.lemmas.drop (i+1)) (by rw[rBO zsm]; congr 1) ?_;refine sts ?_;refine zAA ck (zAD (ks:=[]) rfl (zAD (zBZ (zAD (zAI (f:=vBB) (l:=n.lemmas.take i++n.lemmas.drop (i+1)) rfl (by rw[rBB]; rfl) zsm (fun x=>zMD x)) rfl)) rfl)) ?_;refine sts ?_;exact rGX
theorem vPX{v k:Int}(hk:0<=k)(h1:-9223372036854775808<=v)(h2:v<9223372036854775808):-9223372036854775808<=vDR v (k+1)/\vDR v (k+1)<9223372036854775808:=by
 unfold vDR; split<;>omega
theorem zP3{l:List MultL}{k:Int}(hk:0<=k)(h:vCY l):vCY (vBL (vTM k) l):=by
 refine⟨by simpa [vBL]using h.1,fun m hm=>?_⟩;obtain⟨x,hx,rfl⟩:=rA5.1 hm;obtain⟨⟨h1,h2⟩,h3⟩:=h.2 x hx;exact⟨⟨vPX hk h1.1 h1.2,vPX hk h2.1 h2.2⟩,h3⟩
theorem uFN{k:Int}(hk:0<=k):∀ (sz:Nat) (n:NodeL),SizeOf.sizeOf n<sz->NodeRg n->NodeRg (vCL (vTM k) n):=by
 intro sz
 induction sz with
 | zero=>intro n h; omega
 | succ sz ih =>
   intro n hsz hn;rw[zEX];refine⟨_,by show(n.lemmas.map _).length<_; simpa using hn.ln,fun m hm=>?_,zP3 hk hn.prf,by show(n.kids.map _).length<_; simpa using hn.kn,fun x hx=>?_⟩
   .obtain⟨y,hy,rfl⟩:=rA5.1 (show m∈n.lemmas.map _ from hm)
    exact zP3 hk (hn.lem y hy)
   .obtain⟨y,hy,rfl⟩:=rA5.1 (show x∈n.kids.map _ from hx)
    exact ih y (by have:=NodeL.sizeOf_kid hy; omega) (hn.kid y hy)
theorem vJO{n:NodeL}(hn:NodeRg n)(i:Nat):NodeRg (vGG n i):=⟨_,by have:=hn.ln; show(n.lemmas.take i++n.lemmas.drop (i+1)).length<_; simp; omega,fun m hm=>by
 rcases rAY.1 (show m∈n.lemmas.take i++n.lemmas.drop (i+1) from hm) with h | h
 .exact hn.lem m (rCM h)
 .exact hn.lem m (rDK h),hn.prf,hn.kn,hn.kid⟩
def uHP(n:NodeL)(i:Nat):NodeL:=.mk (n.lemmas.drop i) n.split n.kids n.empty n.proof
theorem uBQ{n:NodeL}(hn:NodeRg n)(i:Nat):NodeRg (uHP n i):=⟨_,by have:=hn.ln; show(n.lemmas.drop i).length<_; simp; omega,fun m hm=>hn.lem m (rDK hm),hn.prf,hn.kn,hn.kid⟩
theorem vIA(b:Int)(i:Nat)(c:NodeL):vE6 b (i+1) c=vE6 b i (if vDZ (uHP c (i+1)) (b+i)=true then c else vCL (vTM (b+i)) (vGG c i)):=by
 cases c; rfl
theorem vO1{b:Int}(hb:0<=b):∀ (i:Nat) (c:NodeL),NodeRg c->NodeRg (vE6 b i c)
 | 0,c,h=>by unfold vE6; exact h
 | i+1,c,h=>by
   rw[vIA];refine vO1 hb i _ ?_
   split
   .exact h
   .exact uFN zom _ _ (rAL _) (vJO h i)
theorem vJV(b:Int):∀ ks:List NodeL,vMT ks b=ks.map (fun k=>vEH k b)
 | []=>rfl
 | k::ks=>by simp only[vMT,rBJ,vJV b ks]
theorem vPC(n:NodeL)(b:Int):vEH n b=vE6 b n.lemmas.length (.mk n.lemmas n.split (n.kids.map (fun k=>vEH k (b+n.lemmas.length))) n.empty n.proof):=by
 cases n
 rw[<- vJV];rfl
theorem uHN:∀ (sz:Nat) (n:NodeL) (b:Int),SizeOf.sizeOf n<sz->0<=b->NodeRg n->NodeRg (vEH n b):=by
 intro sz
 induction sz with
 | zero=>intro n b h; omega
 | succ sz ih =>
   intro n b hsz hb hn;rw[vPC];refine vO1 hb _ _ ⟨_,hn.ln,hn.lem,hn.prf,by show(n.kids.map _).length<_; simpa using hn.kn,fun x hx=>?_⟩;obtain⟨y,hy,rfl⟩:=rA5.1 (show x∈n.kids.map _ from hx);exact ih y _ (by have:=NodeL.sizeOf_kid hy; omega) zom (hn.kid y hy)
theorem uD4{h:Hp}{m q a sz2:Nat}{g2:Bool}{n:NodeL}{L:List LemL}{K:List NodeL}{P:List MultL}(h2:h q=some ⟨K.map vBF,sz2,g2⟩)(ha:a=K.length) :
 frz h (m+4) (vIX n (.imm (L.map vBB)) (.own q 0 a) (.imm (P.map vBA)))=some (vA7 (.mk L n.split K n.empty P),[q]) :=
 zBZ (zAD (ks:=[]) rfl (zAD (ks:=[]) rfl (zAD (ks:=[]) rfl (zAD (ks:=[]) rfl (zAD (ks:=[]) rfl (zAD (ks:=[]) rfl (zAD (zAI h2 rfl ha (fun x=>zF4 x)) (zAD (ks:=[]) rfl (zAD (ks:=[]) rfl rfl)))))))))
theorem uBN{ρ:Nat->Nat}{k:Nat}{es:List PV}:rn ρ k 2 (.imm es) (.imm es):=by rw[vU9]
theorem vW6:FO 37 Tryz.f37 [.cell 4 32] 62:=mkO Tryz.func37 Tryz.ntmps37 Tryz.results37
theorem uEV:∀ (sz:Nat) (n:NodeL) (b:Int),SizeOf.sizeOf n<sz->NodeRg n->0<=b->b+n.wt<=2305843009213693952->Fn 37 [vA7 n,.int .i64 b] (.data (vA7 (vEH n b))):=by
 intro sz
 induction sz with
 | zero=>intro n b h; omega
 | succ sz ih =>
   intro n b hsz hn hb hbw;have hwt:=n.wt_eq;have hll:=zIM n.lemmas;have hln:=hn.ln;have hkn:=hn.kn;rw[vPC];refine zAM vBC hT vW6 zsm ?_;refine sns ?_
   refine zC1 hT [(.cl 3 0 6,9,true)] (fun(i:Nat)=>[(1,.int .i64 b),(2,.cptr (vA7 n) 0),(4,.ptr 0 0 0),(5,.ptr 1 0 0),(6,.int .i64 i)])
    (fun i=>[(0,⟨[.agg [.nilsl,.int .i64 0,.int .i64 0,.bool false,.nilsl,.nilsl,.nilsl,.bool false,.nilsl]],9,true⟩),(1,⟨[vIX n (.imm (n.lemmas.map vBB)) (.own 2 0 i) (.imm (n.proof.map vBA))],9,true⟩),(2,⟨((n.kids.take i).map (fun k=>vEH k (b+n.lemmas.length))).map vBF,9,true⟩)]) [] 3
    (fun i=>i<=n.kids.length) (fun i=>n.kids.length - i) 0 (rA9 _) zdd zsm ⟨_,_,rfl,rfl,rfl,rGW⟩ ?_ ?_
   .exact⟨[1,3,_],[0],[(2,.cptr (vA7 n) 0)],[],⟨⟨⟨_,rfl⟩,rGW⟩,⟨⟨6,[0],zCV rfl,rfl⟩,rGW⟩,rGW⟩,⟨zAC rfl rfl,zAH rfl,(apy rfl),(apy rfl),zAC rfl rfl,rGW⟩,
     ⟨bbx,zAJ zdd rfl (zCM uBN (zHE zdd rfl rfl) uBN) rfl rfl,zAG zdd rfl rfl (zHU _) rfl,rGW⟩,rAA⟩
   intro i hi;by_cases hi':i<n.kids.length
   .have hkm:n.kids[i]! ∈ n.kids:=zAX hi'
    have hks1:=vH0 hi';have hkl:((n.kids.take i).map (fun k=>vEH k (b+n.lemmas.length))).length=i:=by simp; omega
    have ck:Fn 37 [vA7 n.kids[i]!,.int .i64 (b+((n.lemmas.map vBB).length:Nat))] (.data (vA7 (vEH n.kids[i]! (b+n.lemmas.length)))):=by
     rw[rAM];exact ih n.kids[i]! _ (by have:=NodeL.sizeOf_kid hkm; omega) (hn.kid _ hkm) zom zom
    refine gon ?_ ?_<;>intro h
    .refine zAA ck rfl ?_
     refine sns ?_
     refine⟨i+1,⟨zom,zom⟩,[0,1,_],[],[],[],ttt,⟨zAC rfl rfl,zAH rfl,(apy rfl),(apy rfl),zAC rfl zom,rGW⟩,
      ⟨bbx,zAJ zdd rfl (zCM uBN (zHE zdd rfl rfl) uBN) rfl rfl,zAG zdd rfl ?_ (zHU _) rfl,rGW⟩,rAA⟩
     rw[<- zKI hi',rBB];show _++[vA7 _]=_++[vBF _]
     rw[zBQ]
    all_goals (exfalso; omega)
   .obtain rfl:i=n.kids.length:=by omega
    rw[rBP];have hkl:(n.kids.map (fun k=>vEH k (b+n.lemmas.length))).length=n.kids.length:=by simp
    have hKR:∀ x∈n.kids.map (fun k=>vEH k (b+n.lemmas.length)),NodeRg x:=fun x hx=>by
     obtain⟨y,hy,rfl⟩:=rA5.1 hx;exact uHN _ y _ (rAL _) zom (hn.kid y hy)
    obtain⟨KD,hKD⟩:∃ KD,n.kids.map (fun k=>vEH k (b+n.lemmas.length))=KD:=⟨_,rfl⟩;rw[hKD]at hkl hKR ⊢;refine sus ?_;refine zA3 ?_; (repeat' (first|refine stu ?_|with_reducible(refine brr ?_ ?_<;>intro h)));all_goals try(conv=>whnf)
    .exfalso; omega
    refine vBW [] [(1,.int .i64 b),(2,.cptr (vA7 n) 0),(4,.ptr 0 0 0),(5,.ptr 1 0 0)] [(0,⟨[.agg [.nilsl,.int .i64 0,.int .i64 0,.bool false,.nilsl,.nilsl,.nilsl,.bool false,.nilsl]],9,true⟩),(1,⟨[vA7 (.mk n.lemmas n.split KD n.empty n.proof)],9,true⟩)] [] 2 zdd zsm trivial ?_ ?_
    .exact⟨[0,1],[2],[],[(1,[vA7 (.mk n.lemmas n.split KD n.empty n.proof)])],⟨⟨⟨_,rfl⟩,rGW⟩,rGW,⟨⟨_,6,[2],rfl,zAD (ks:=[2]) (ls:=[]) (uD4 rfl hkl.symm) rfl,rfl⟩,rGW⟩⟩,⟨zAC rfl rfl,zAH rfl,apx,apx,rGW⟩,
      ⟨bbx,bbx,rGW⟩,rAA⟩
    obtain⟨c0,hc0⟩:∃ c0,(NodeL.mk n.lemmas n.split KD n.empty n.proof)=c0:=⟨_,rfl⟩;have hl0:c0.lemmas.length=n.lemmas.length:=by rw[<- hc0]; rfl
    have hr0:NodeRg c0:=by rw[<- hc0]; exact⟨_,hn.ln,hn.lem,hn.prf,by show KD.length<_; omega,hKR⟩
    rw[hc0,<- hl0];refine sns ?_
    refine zAO hT (fun((j,c):Nat×NodeL)=>[(1,.int .i64 b),(4,.ptr 0 0 0),(5,.ptr 1 0 0),(7,.int .i64 ((j:Int) - 1))]) (fun((j,c):Nat×NodeL)=>[(0,⟨[.agg [.nilsl,.int .i64 0,.int .i64 0,.bool false,.nilsl,.nilsl,.nilsl,.bool false,.nilsl]],9,true⟩),(1,⟨[vA7 c],9,true⟩)]) [] 2
     (fun((j,c):Nat×NodeL)=>j<=c.lemmas.length/\NodeRg c/\vE6 b j c=vE6 b c0.lemmas.length c0/\j<=n.lemmas.length) (fun((j,c):Nat×NodeL)=>j) (c0.lemmas.length,c0) ⟨rAO _,hr0,rfl,zom⟩ zdd zsm ?_ ?_
    .exact⟨[0,1],[],[],[],ttt,⟨rAI,apx,apx,zAC rfl zsm,rGW⟩,⟨bbx,bbx,rGW⟩,rAA⟩
    rintro⟨j,c⟩ ⟨hj,hc,hd,hjn⟩
    dsimp only at hj hc hd hjn ⊢;have hcl:=hc.ln;by_cases h0:j=0
    .subst h0
     rw[<- hd];refine sns ?_
     all_goals try (exfalso; omega)
     exact zAB rfl (by unfold vE6; rfl)
    .obtain⟨i,rfl⟩:∃ i,j=i+1:=⟨j - 1,zom⟩
     have cu:=uEL (b+i) zom zom _ (uHP c (i+1)) (rAL _) (uBQ hc _);have cw:=vNY c i (b+i) zom zom zom hc;have hj1:((i+1:Nat):Int) - 1=i:=by omega
     rw[hj1];refine sns ?_
     .refine zB2 (l':=c.lemmas.drop (i+1)) (by rw[rBO zsm]; congr 1) ?_
      refine sns ?_;refine zAA cu rfl ?_
      refine gon ?_ ?_<;>intro h
      .refine⟨(i,c),⟨⟨by show i<=c.lemmas.length; omega,hc,?_,by show i<=n.lemmas.length; omega⟩,rAL i⟩,[0,1],[],[],[],ttt,⟨rAI,apx,apx,rAI,rGW⟩,⟨bbx,bbx,rGW⟩,rAA⟩
       rw[<- hd,vIA,rAV rAF]
      .refine zAA cw rfl ?_
       refine sns ?_;refine⟨(i,vCL (vTM (b+i)) (vGG c i)),⟨⟨?_,uFN zom _ _ (rAL _) (vJO hc i),?_,by show i<=n.lemmas.length; omega⟩,rAL i⟩,[0,1],[],[],[],ttt,⟨rAI,apx,apx,rAI,rGW⟩,⟨bbx,bbx,rGW⟩,rAA⟩
       .rw[zEX]
        show i<=((c.lemmas.take i++c.lemmas.drop (i+1)).map _).length
        simp
        omega
       .rw[<- hd,vIA,rAN rAF]
     all_goals (exfalso; omega)
theorem vKL(n:NodeL):vBN n=if n.valid=true then vEH n 0 else vC8:=by
 unfold vBN;rw[vPA n 0 zom]
theorem zPL:FO 14 Tryz.f14 [.cell 2 32] 9:=mkO Tryz.func14 Tryz.ntmps14 Tryz.results14
theorem vN0(n:NodeL)(hs:n.Sm)(hn:NodeRg n)(hw:n.wt<=536870912):Fn 14 [vA7 n] (.data (vA7 (vBN n))):=by
 have cv:=zFA n hs;have cp:=uEV _ n 0 (rAL _) hn zom zom;rw[vKL];refine zAM vBC hT zPL zsm ?_;refine sns ?_;refine zAA cv rfl ?_
 refine gon ?_ ?_<;>intro h
 .refine zAA cp rfl ?_
  refine sns ?_;rw[rAV rAF];exact rGX
 .rw[rAN rAF]
  exact rGX
def isP(p:Int)(r:RowL):Bool:=decide (r.kind=4/\r.index=p)
def vDH(l:List MultL)(p:Int):Bool:=l.any fun m=>isP p m.row
mutual
def onN:NodeL->Int->Bool
 | .mk l _ ks _ pr,p=>l.any (fun m=>vDH m.proof p) || onK ks p || vDH pr p
def onK:List NodeL->Int->Bool
 | [],_=>false
 | k::ks,p=>onN k p || onK ks p
end
theorem vV9(p:Int):∀ ks:List NodeL,onK ks p=ks.any (fun n=>onN n p)
 | []=>rfl
 | n::ks=>by simp only[onK,List.any_cons,vV9 p ks]
theorem vJZ(n:NodeL)(p:Int):onN n p=(n.lemmas.any (fun m=>vDH m.proof p) || n.kids.any (fun n=>onN n p) || vDH n.proof p):=by
 cases n
 simp only[onN,vV9];rfl
abbrev okB(o:Bool):Blk:=⟨[.bool o],1,false⟩
abbrev uQJ(p:Int):PV:=.func (.func 139) [] [.ptr 0 0 0,.cptr (.int .i64 p) 0]
theorem zKA:FO 139 Tryz.f139 [.cell 4 70] 24:=mkO Tryz.func139 Tryz.ntmps139 Tryz.results139
theorem uEN(r:RowL)(p:Int)(o:Bool)(hp:vFX p)(h0:0<=p)(hi:vSY r):Fn 139 [vBJ r,.ptr 0 0 0,.cptr (.int .i64 p) 0] (.wrt (okB o) (vBJ (vCV (-1) p r)) (okB (o && !isP p r))):=by
 obtain⟨kind,index,lo,hi'⟩:=r;obtain⟨hi1,hi2⟩:=hi;dsimp only at hi1 hi2;have hp2:=hp.2;have e1:∀ i:Int,(if 0<=p/\kind=4 then vDR index p else index)=i->vCV (-1) p ⟨kind,index,lo,hi'⟩=⟨kind,i,lo,hi'⟩:=fun i h=>by unfold vCV; rw[h]; rfl
 have e2:isP p ⟨kind,index,lo,hi'⟩=decide (kind=4/\index=p):=rfl;by_cases hk:kind=4
 .subst hk
  simp only[h0,rEG,and_self,rCI]at e1;unfold vDR at e1;by_cases hlt:p<index
  .rw[e1 (index - 1) (by rw[rAV hlt]),show isP p ⟨4,index,lo,hi'⟩=false by rw[e2]; exact rBC zom]
   cases o
   all_goals
    refine zIP vBC hT zKA (by simp[vBJ]) ?_
    refine gob ?_ ?_<;>intro h
    all_goals try (exfalso; omega)
    all_goals try (exfalso; simp_all; done)
    all_goals exact zL6 rfl rfl rfl (by first | rfl | (simp_all; done) | (simp_all; omega)) rfl (fun e he=>by simp at he; subst he; rfl)
  .rw[e1 index (by rw[rAN hlt])]
   by_cases heq:index=p
   .rw[show isP p ⟨4,index,lo,hi'⟩=true by rw[e2]; exact rB4 ⟨rfl,heq⟩]
    cases o
    all_goals
     refine zIP vBC hT zKA (by simp[vBJ]) ?_
     refine gob ?_ ?_<;>intro h
     all_goals try (exfalso; omega)
     all_goals try (exfalso; simp_all; done)
     all_goals exact zL6 rfl rfl rfl (by first | rfl | (simp_all; done) | (simp_all; omega)) rfl (fun e he=>by simp at he; subst he; rfl)
   .rw[show isP p ⟨4,index,lo,hi'⟩=false by rw[e2]; exact rBC (fun h=>heq h.2)]
    cases o
    all_goals
     refine zIP vBC hT zKA (by simp[vBJ]) ?_
     refine gob ?_ ?_<;>intro h
     all_goals try (exfalso; omega)
     all_goals try (exfalso; simp_all; done)
     all_goals exact zL6 rfl rfl rfl (by first | rfl | (simp_all; done) | (simp_all; omega)) rfl (fun e he=>by simp at he; subst he; rfl)
 .rw[e2,e1 index (by rw[rAN (fun h:0<=p/\kind=4=>hk h.2)]),rBC (fun h=>hk h.1)]
  refine zIP vBC hT zKA (by simp[vBJ]) ?_
  (repeat' (first|refine stp ?_|with_reducible(refine brr ?_ ?_<;>intro h)));all_goals try(conv=>whnf)
  all_goals try (exfalso; omega)
  exact zL6 rfl rfl rfl zsm rfl (fun e he=>by simp at he; subst he; rfl)
theorem zPH{ρ:Nat->Nat}{k:Nat}{t:Tm}{j:Nat}{fn:Go.Fn}{e:PV}{o:Nat}{r r':Nat}(hr:r<k)(h:t j=.func fn [] [.ptr r' 0 0,.cptr e o])(e2:r'=ρ r):at' ρ k t j (.func fn [] [.ptr r 0 0,.cptr e o]):=by subst e2; unfold at'; rw[h]; exact⟨rfl,rGW,⟨hr,rfl⟩,rfl,rGW⟩
theorem vRV{l:List MultL}{i:Nat}(h:i<l.length)(p:Int):vDH (l.take (i+1)) p=(vDH (l.take i) p || isP p l[i]!.row):=by
 rw[rA0 h,rAS l i h];unfold vDH;rw[rGB]
 simp
theorem vQL(l:List MultL)(p:Int)(o:Bool)(hp:vFX p)(h0:0<=p)(hl:vCY l):Fn 57 [.imm (l.map vBA),uQJ p] (.wrt (okB o) (.imm ((vBL (vCV (-1) p) l).map vBA)) (okB (o && !vDH l p))):=by
 have hln:=hl.1;refine zIP vBC hT vPJ zsm ?_;refine sts ?_
 refine zC1 hT [(.sl 5,7,true)] (fun(i:Nat)=>[(1,uQJ p),(5,.own 1 0 i),(8,.imm (l.map vBA)),(9,.int .i64 l.length),(10,.int .i64 i)]) (fun i=>[(0,okB (o && !vDH (l.take i) p)),(1,⟨(vBL (vCV (-1) p) (l.take i)).map vBA,7,true⟩)]) [] 2
  (fun i=>i<=l.length) (fun i=>l.length - i) 0 (rA9 _) zdd zsm ⟨rfl,rGW⟩ ?_ ?_
 .exact⟨[_],[],[],[],ttt,⟨zPH zdd rfl rfl,zA5 zdd rfl rfl,zAE rfl rfl,zAC rfl zsm,zAC rfl rfl,rGW⟩,⟨zEY zdd rfl (by simp[vDH]) rfl rfl rfl,zAG zdd rfl rfl (zCU _) rfl,rGW⟩,rAA⟩
 intro i hi;have hlen:(vBL (vCV (-1) p) (l.take i)).length=i:=by simp[vBL]; omega
 by_cases h0':i<l.length
 .have c1:=uEN l[i]!.row p (o && !vDH (l.take i) p) hp h0 (hl.2 _ (zAX h0')).2
  refine gob ?_ ?_<;>intro h
  .refine zMG (r:=0) (ks:=[]) c1 rfl rfl rfl rfl (fun e he=>by simp at he; subst he; rfl) (fun i=>by simp[vC6]) ?_
   refine sts ?_
   exact⟨i+1,⟨zom,zom⟩,[_],[],[],[],ttt,⟨zPH zdd rfl rfl,zA5 zdd rfl rfl,zAE rfl rfl,zAC rfl rfl,zAC rfl zom,rGW⟩,
    ⟨zEY zdd rfl (by rw[vRV h0']; simp[Bool.not_or,Bool.and_assoc]) rfl rfl rfl,zAG zdd rfl (zLU h0') (zCU _) rfl,rGW⟩,rAA⟩
  all_goals (exfalso; omega)
 .obtain rfl:i=l.length:=by omega
  rw[rBP];refine sus ?_;refine zA3 ?_; (repeat' (first|refine stu ?_|with_reducible(refine brr ?_ ?_<;>intro h)));all_goals try(conv=>whnf)
  .exfalso; omega
  refine vBW [] [(5,.imm ((vBL (vCV (-1) p) l).map vBA))] [(0,okB (o && !vDH l p))] [] 1 zdd zsm trivial ?_ ?_
  .exact⟨[],[1],[(5,.imm ((vBL (vCV (-1) p) l).map vBA))],[],⟨⟨⟨_,rfl⟩,rGW⟩,⟨⟨6,[1],zAI rfl rfl (by simp[vBL]) (fun x=>zKQ x),rfl⟩,rGW⟩,rGW⟩,⟨zAE rfl rfl,rGW⟩,⟨bbx,rGW⟩,rAA⟩
  refine sts ?_;exact zL6 rfl rfl rfl rfl rfl (fun e he=>by simp at he; subst he; rfl)
open Go.Proofs Go.PI
theorem uD5{h:Hp}{n r sz:Nat}{ag:Bool}{v:Int}(hr:h r=some ⟨[.int .i64 v],sz,ag⟩):frz h (n+4) (.ptr r 0 0)=some (.cptr (.int .i64 v) 0,[r]):=by
 show frz h (n+3+1) (.ptr r 0 0)=_
 unfold frz;simp only[hr,List.getElem?_cons_zero];rfl
theorem uD2{h:Hp}{m r q a sz sz2:Nat}{g1 g2:Bool}{n:NodeL}{L:List LemL}{K:List NodeL}{P:List MultL}(h1:h r=some ⟨L.map vBB,sz,g1⟩)(h2:h q=some ⟨K.map vBF,sz2,g2⟩)(ha:a=K.length) :
 frz h (m+4) (vIX n (.own r 0 L.length) (.own q 0 a) (.imm (P.map vBA)))=some (vA7 (.mk L n.split K n.empty P),[r,q]) :=
 zBZ (zAD (zAI h1 rfl rfl (fun x=>zMD x)) (zAD (ks:=[]) rfl (zAD (ks:=[]) rfl (zAD (ks:=[]) rfl (zAD (ks:=[]) rfl (zAD (ks:=[]) rfl (zAD (zAI h2 rfl ha (fun x=>zF4 x)) (zAD (ks:=[]) rfl (zAD (ks:=[]) rfl rfl)))))))))
abbrev uO8(p:Int)(r:Nat):PV:=.func (.func 139) [] [.ptr r 0 0,.cptr (.int .i64 p) 0]
theorem uB9:FO 104 Tryz.f104 [.cell 4 32,.tmp 5] 70:=mkO Tryz.func104 Tryz.ntmps104 Tryz.results104
theorem uKI (p:Int) (hp:vFX p) (h0:0<=p):∀ (sz:Nat) (n:NodeL),SizeOf.sizeOf n<sz->NodeRg n->Fn 104 [vA7 n,.int .i64 p] (.data (.tup [vA7 (vCL (vCV (-1) p) n),.bool (!onN n p)])):=by
 intro sz
 induction sz with
 | zero=>intro n h; omega
 | succ sz ih =>
   intro n hsz hn;have hln:=hn.ln;have hkn:=hn.kn;rw[zEX,vJZ];refine zAM vBC hT uB9 zsm ?_;refine sus ?_;refine vBW [] [(2,.cptr (vA7 n) 0),(3,.cptr (.int .i64 p) 0),(4,.ptr 0 0 0)] [(0,⟨[.agg [.nilsl,.int .i64 0,.int .i64 0,.bool false,.nilsl,.nilsl,.nilsl,.bool false,.nilsl]],9,true⟩)] [] 1 zdd zsm trivial ?_ ?_
   .exact⟨[2],[0,1],[(2,.cptr (vA7 n) 0),(3,.cptr (.int .i64 p) 0)],[],⟨⟨⟨_,rfl⟩,⟨_,rfl⟩,rGW⟩,⟨⟨6,[0],zCV rfl,rfl⟩,⟨6,[1],uD5 rfl,rfl⟩,rGW⟩,rGW⟩,⟨zAH rfl,zAH rfl,apx,rGW⟩,
     ⟨bbx,rGW⟩,rAA⟩
   refine sus ?_
   (refine zA3 ?_; refine sus ?_)
   (refine zA3 ?_; refine sus ?_)
   refine vK7 (r:=1) (vQL n.proof p true hp h0 hn.prf) rfl rfl rfl rfl (fun e he=>by simp at he; subst he; rfl) zdd ?_;refine sus ?_
   (refine zA3 ?_; refine sus ?_)
   obtain⟨PF,hPF⟩:∃ PF,vBL (vCV (-1) p) n.proof=PF:=⟨_,rfl⟩;obtain⟨po,hpo⟩:∃ po,vDH n.proof p=po:=⟨_,rfl⟩;rw[hPF,hpo]
   refine vBW [] [(2,.cptr (vA7 n) 0),(3,.cptr (.int .i64 p) 0),(4,.ptr 0 0 0),(6,.ptr 1 0 0),(7,uO8 p 1),(8,.ptr 2 0 0),(26,.imm (n.lemmas.map vBB)),(27,.int .i64 n.lemmas.length),(28,.int .i64 0)]
    [(0,⟨[.agg [.nilsl,.int .i64 0,.int .i64 0,.bool false,.nilsl,.nilsl,.nilsl,.bool false,.nilsl]],9,true⟩),(1,okB (!po)),(2,⟨[vIX n .nilsl .nilsl (.imm (PF.map vBA))],9,true⟩)] [] 3 zdd zsm trivial ?_ ?_
   .exact⟨[0,1,14],[],[],[],ttt,⟨zAH rfl,zAH rfl,apx,apx,zPH zdd rfl rfl,apx,rAJ,zAC rfl zsm,rAI,rGW⟩,
     ⟨bbx,bbx,zAJ zdd rfl (zCM vL9 vL9 uBN) rfl rfl,rGW⟩,rAA⟩
   refine sts ?_
   refine zC1 hT [(.cl 2 0 0,6,true)] (fun(i:Nat)=>[(2,.cptr (vA7 n) 0),(3,.cptr (.int .i64 p) 0),(4,.ptr 0 0 0),(6,.ptr 1 0 0),(7,uO8 p 1),(8,.ptr 2 0 0),(26,.imm (n.lemmas.map vBB)),(27,.int .i64 n.lemmas.length),(28,.int .i64 i)])
    (fun i=>[(0,⟨[.agg [.nilsl,.int .i64 0,.int .i64 0,.bool false,.nilsl,.nilsl,.nilsl,.bool false,.nilsl]],9,true⟩),(1,okB (!po && !(n.lemmas.take i).any fun m=>vDH m.proof p)),(2,⟨[vIX n (.own 3 0 i) .nilsl (.imm (PF.map vBA))],9,true⟩),(3,⟨((n.lemmas.take i).map (vDB (vCV (-1) p))).map vBB,6,true⟩)]) [] 4
    (fun i=>i<=n.lemmas.length) (fun i=>n.lemmas.length - i) 0 (rA9 _) zdd zsm ⟨_,_,rfl,rfl,rfl,rGW⟩ ?_ ?_
   .exact⟨[0,1,2,_],[],[],[],ttt,⟨zAH rfl,zAH rfl,(apy rfl),(apy rfl),zPH zdd rfl rfl,(apy rfl),zAE rfl rfl,zAC rfl rfl,zAC rfl rfl,rGW⟩,
     ⟨bbx,zEY zdd rfl zsm rfl rfl rfl,zAJ zdd rfl (zCM (zHE zdd rfl rfl) vL9 uBN) rfl rfl,zAG zdd rfl rfl (zFL _) rfl,rGW⟩,rAA⟩
   intro i hi;by_cases hi':i<n.lemmas.length
   .have hlm:n.lemmas[i]! ∈ n.lemmas:=zAX hi'
    have hlen:((n.lemmas.take i).map (vDB (vCV (-1) p))).length=i:=by simp; omega
    have eany:(n.lemmas.take (i+1)).any (fun m=>vDH m.proof p)=((n.lemmas.take i).any (fun m=>vDH m.proof p) || vDH n.lemmas[i]!.proof p):=by
     rw[rA0 hi',rAS n.lemmas i hi',rGB]; simp
    have cr:=vQL n.lemmas[i]!.proof p (!po && !(n.lemmas.take i).any fun m=>vDH m.proof p) hp h0 (hn.lem _ hlm)
    refine gob ?_ ?_<;>intro h
    .refine vK7 (r:=1) cr rfl rfl rfl rfl (fun e he=>by simp at he; subst he; rfl) zdd ?_
     refine sts ?_
     refine⟨i+1,⟨zom,zom⟩,[0,1,2,_],[],[],[],ttt,⟨zAH rfl,zAH rfl,(apy rfl),(apy rfl),zPH zdd rfl rfl,(apy rfl),zAE rfl rfl,zAC rfl rfl,zAC rfl zom,rGW⟩,
      ⟨bbx,zEY zdd rfl (by rw[eany,Bool.not_or,Bool.and_assoc]) rfl rfl rfl,zAJ zdd rfl (zCM (zHE zdd rfl rfl) vL9 uBN) rfl rfl,zAG zdd rfl ?_ (zFL _) rfl,rGW⟩,rAA⟩
     rw[<- zKI hi',rBB];rfl
    all_goals (exfalso; omega)
   .obtain rfl:i=n.lemmas.length:=by omega
    obtain⟨LM,hLM⟩:∃ LM,n.lemmas.map (vDB (vCV (-1) p))=LM:=⟨_,rfl⟩;have hll:LM.length=n.lemmas.length:=by rw[<- hLM]; simp
    obtain⟨pl,hpl⟩:∃ pl,(n.lemmas.any fun m=>vDH m.proof p)=pl:=⟨_,rfl⟩;rw[rBP,hLM,hpl,<- hll]
    refine gob ?_ ?_<;>intro h
    all_goals try (exfalso; omega)
    refine zC1 hT [(.cl 2 0 6,9,true)] (fun(i:Nat)=>[(2,.cptr (vA7 n) 0),(3,.cptr (.int .i64 p) 0),(4,.ptr 0 0 0),(6,.ptr 1 0 0),(7,uO8 p 1),(8,.ptr 2 0 0),(45,.imm (n.kids.map vBF)),(46,.int .i64 n.kids.length),(47,.int .i64 i)])
     (fun i=>[(0,⟨[.agg [.nilsl,.int .i64 0,.int .i64 0,.bool false,.nilsl,.nilsl,.nilsl,.bool false,.nilsl]],9,true⟩),(1,okB (!po && !pl && !(n.kids.take i).any fun m=>onN m p)),(2,⟨[vIX n (.own 3 0 LM.length) (.own 4 0 i) (.imm (PF.map vBA))],9,true⟩),(3,⟨LM.map vBB,6,true⟩),(4,⟨((n.kids.take i).map (vCL (vCV (-1) p))).map vBF,9,true⟩)]) [] 5
     (fun i=>i<=n.kids.length) (fun i=>n.kids.length - i) 0 (rA9 _) zdd zsm ⟨_,_,rfl,rfl,rfl,rGW⟩ ?_ ?_
    .exact⟨[0,1,2,3,_],[],[],[],ttt,⟨zAH rfl,zAH rfl,(apy rfl),(apy rfl),zPH zdd rfl rfl,(apy rfl),zAE rfl rfl,zAC rfl zsm,zAC rfl rfl,rGW⟩,
      ⟨bbx,zEY zdd rfl zsm rfl rfl rfl,zAJ zdd rfl (zCM (zHE zdd rfl rfl) (zHE zdd rfl rfl) uBN) rfl rfl,zAG zdd rfl rfl (zFL _) rfl,zAG zdd rfl rfl (zHU _) rfl,rGW⟩,rAA⟩
    intro i hi;by_cases hi':i<n.kids.length
    .have hkm:n.kids[i]! ∈ n.kids:=zAX hi'
     have hlen:((n.kids.take i).map (vCL (vCV (-1) p))).length=i:=by simp; omega
     have eany:(n.kids.take (i+1)).any (fun m=>onN m p)=((n.kids.take i).any (fun m=>onN m p) || onN n.kids[i]! p):=by
      rw[rA0 hi',rAS n.kids i hi',rGB]; simp
     have ck:=ih n.kids[i]! (by have:=NodeL.sizeOf_kid hkm; omega) (hn.kid _ hkm)
     refine gon ?_ ?_<;>intro h
     .refine zAA ck rfl ?_
      refine gon ?_ ?_<;>intro h
      all_goals
       refine⟨i+1,⟨zom,zom⟩,[0,1,2,3,_],[],[],[],ttt,⟨zAH rfl,zAH rfl,(apy rfl),(apy rfl),zPH zdd rfl rfl,(apy rfl),zAE rfl rfl,zAC rfl rfl,zAC rfl zom,rGW⟩,
        ⟨bbx,zEY zdd rfl (by rw[eany]; revert h; cases po<;>cases pl<;>cases ((n.kids.take i).any fun m=>onN m p)<;>simp) rfl rfl rfl,zAJ zdd rfl (zCM (zHE zdd rfl rfl) (zHE zdd rfl rfl) uBN) rfl rfl,zAG zdd rfl rfl (zFL _) rfl,zAG zdd rfl ?_ (zHU _) rfl,rGW⟩,rAA⟩
       rw[<- zKI hi',rBB];show _++[vA7 _]=_++[vBF _]
       rw[zBQ]
     all_goals (exfalso; omega)
    .obtain rfl:i=n.kids.length:=by omega
     obtain⟨KD,hKD⟩:∃ KD,n.kids.map (vCL (vCV (-1) p))=KD:=⟨_,rfl⟩;have hkl:KD.length=n.kids.length:=by rw[<- hKD]; simp
     obtain⟨pk,hpk⟩:∃ pk,(n.kids.any fun m=>onN m p)=pk:=⟨_,rfl⟩;rw[rBP,hKD,hpk];refine sus ?_;refine zA3 ?_; (repeat' (first|refine stu ?_|with_reducible(refine brr ?_ ?_<;>intro h)));all_goals try(conv=>whnf)
     .exfalso; omega
     refine vBW [] [(4,.ptr 0 0 0),(6,.ptr 1 0 0),(8,.ptr 2 0 0)] [(0,⟨[.agg [.nilsl,.int .i64 0,.int .i64 0,.bool false,.nilsl,.nilsl,.nilsl,.bool false,.nilsl]],9,true⟩),(1,okB (!po && !pl && !pk)),(2,⟨[vA7 (.mk LM n.split KD n.empty PF)],9,true⟩)] [] 3 zdd zsm trivial ?_ ?_
     .exact⟨[0,1,2],[3,4],[],[(2,[vA7 (.mk LM n.split KD n.empty PF)])],⟨⟨⟨_,rfl⟩,⟨_,rfl⟩,rGW⟩,rGW,⟨⟨_,6,[3,4],rfl,zAD (ks:=[3,4]) (ls:=[]) (uD2 rfl rfl hkl.symm) rfl,rfl⟩,rGW⟩⟩,⟨apx,apx,apx,rGW⟩,
       ⟨bbx,bbx,bbx,rGW⟩,rAA⟩
     refine sns ?_;refine zAB rfl (rA3 (fun b=>PV.tup [vA7 (.mk LM n.split KD n.empty PF),.bool b]) ?_);cases po<;>cases pl<;>cases pk<;>rfl
def vBY(n:NodeL)(i:Nat)(p:Int):NodeL:=.mk (n.lemmas++(vCL (vCV (-1) p) n.kids[i]!).lemmas) (vCL (vCV (-1) p) n.kids[i]!).split (vCL (vCV (-1) p) n.kids[i]!).kids (vCL (vCV (-1) p) n.kids[i]!).empty (vCL (vCV (-1) p) n.kids[i]!).proof
theorem uIX:FO 71 Tryz.f71 [.cell 6 32,.tmp 7] 29:=mkO Tryz.func71 Tryz.ntmps71 Tryz.results71
theorem uN2(n:NodeL)(i:Nat)(p:Int)(hp:vFX p)(h0:0<=p)(hn:NodeRg n)(hi:i<n.kids.length):Fn 71 [vA7 n,.int .i64 i,.int .i64 p] (.data (.tup [vA7 (vBY n i p),.bool (!onN n.kids[i]! p)])):=by
 have hln:=hn.ln;have hkn:=hn.kn;have hkm:n.kids[i]! ∈ n.kids:=zAX hi;have cs:=uKI p hp h0 _ n.kids[i]! (rAL _) (hn.kid _ hkm);have cc:=vTB vBB (fun h n x=>zMD x) (fun x=>⟨rfl,rfl⟩) n.lemmas hln
 have hkl:(vCL (vCV (-1) p) n.kids[i]!).lemmas.length<2097152:=by
  rw[zEX];show((n.kids[i]!).lemmas.map _).length<_
  rw[rAM];exact(hn.kid _ hkm).ln
 refine zAM vBC hT uIX zsm ?_;unfold vBY;generalize vCL (vCV (-1) p) n.kids[i]! = K at *
 refine sns ?_
 .refine zAA cs rfl ?_
  refine sns ?_;refine zA4 cc rfl ?_;refine sns ?_;exact zAB (zKP (zAD (zBZ (zAD (zAI (f:=vBB) (l:=n.lemmas++K.lemmas) rfl (by rw[rBB]) zsm (fun x=>zMD x)) rfl)) rfl)) rfl
 all_goals (exfalso; omega)
end Go.PI.Tryz
