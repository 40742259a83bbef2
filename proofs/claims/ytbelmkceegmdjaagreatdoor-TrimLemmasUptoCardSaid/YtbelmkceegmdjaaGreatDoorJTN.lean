/-
  The program's shift and lift.
-/
import Derived.Test.YtbelmkceegmdjaaGreatDoorJTM
set_option linter.unusedVariables false
set_option linter.unusedSimpArgs false
set_option linter.unnecessarySimpa false
set_option maxHeartbeats 0
namespace Go.PI.Tryz
open Go.Proofs Go.PI
def vCY(K D:Int)(r:RowL):RowL:=⟨r.kind,if 0<=D/\r.kind=4 then vDQ r.index D else r.index,if 0<=K then vDQ r.lo (K+1) else r.lo,if 0<=K then vDQ r.hi (K+1) else r.hi⟩
theorem uD4{K:Int}(h:0<=K):vCY K (-1)=vTI K:=by
 funext r
 unfold vCY vTI;rw[rAN zom,rAV h,rAV h]
abbrev vEX(K D:Int):PV:=.agg [.int .i64 K,.int .i64 D]
def vFX(K:Int):Prop:=-1<=K/\K<4611686018427387904
theorem vW4:FO 150 Tryz.f150 [.tmp 4] 11:=mkO Tryz.func150 Tryz.ntmps150 Tryz.results150
theorem zNE(n t:Int)(h1:-9223372036854775808<=n)(h2:n<9223372036854775808)(ht:0<=t):Fn 150 [.int .i64 n,.int .i64 t] (.data (.int .i64 (vDQ n t))):=by
 refine zAK vBC hT vW4 zsm ?_
 refine gob ?_ ?_<;>intro h
 .exact zAB rfl (by unfold vDQ; rw[rAV rAC])
 .exact zAB rfl (by unfold vDQ; rw[rAN rAC])
theorem vXA:FO 122 Tryz.f122 [.cell 4 70] 37:=mkO Tryz.func122 Tryz.ntmps122 Tryz.results122
theorem uEO(K D:Int)(r:RowL)(hK:vFX K)(hD:vFX D)(hr:vL4 r)(hi:vSV r):Fn 122 [vEX K D,vBI r] (.data (vBI (vCY K D r))):=by
 obtain⟨k1,k2⟩:=hK;obtain⟨d1,d2⟩:=hD;have e1:∀ {v:Int},0<=K->(if 0<=K then vDQ v (K+1) else v)=vDQ v (K+1):=fun h=>rAV h
 have e2:∀ {v:Int},¬ 0<=K->(if 0<=K then vDQ v (K+1) else v)=v:=fun h=>rAN h
 refine zAK vBC hT vXA zsm ?_;by_cases hk:0<=K
 .have c1:=zNE r.lo (K+1) hr.1.1 hr.1.2 zom
  have c2:=zNE r.hi (K+1) hr.2.1 hr.2.2 zom;by_cases hd:0<=D
  .have c3:=zNE r.index D hi.1 hi.2 hd
   (repeat' (first|refine stp ?_|with_reducible(refine brr ?_ ?_<;>intro h)));all_goals try(conv=>whnf)
   all_goals try (exfalso; omega)
   refine zAA c1 rfl ?_;refine sts ?_;refine zAA c2 rfl ?_
   (repeat' (first|refine stp ?_|with_reducible(refine brr ?_ ?_<;>intro h)));all_goals try(conv=>whnf)
   all_goals try (exfalso; omega)
   .refine zAA c3 rfl ?_
    refine sts ?_;refine zAB rfl ?_;unfold vCY;simp only[vBI];rw[e1 hk,e1 hk,rAV ⟨hd,rAC⟩]
   .refine zAB rfl ?_
    unfold vCY;simp only[vBI];rw[e1 hk,e1 hk,rAN (fun h=>by simp_all)]
  ·(repeat' (first|refine stp ?_|with_reducible(refine brr ?_ ?_<;>intro h)));all_goals try(conv=>whnf)
   all_goals try (exfalso; omega)
   refine zAA c1 rfl ?_;refine sts ?_;refine zAA c2 rfl ?_
   (repeat' (first|refine stp ?_|with_reducible(refine brr ?_ ?_<;>intro h)));all_goals try(conv=>whnf)
   all_goals try (exfalso; omega)
   refine zAB rfl ?_;unfold vCY;simp only[vBI];rw[e1 hk,e1 hk,rAN (fun h=>hd h.1)]
 .by_cases hd:0<=D
  .have c3:=zNE r.index D hi.1 hi.2 hd
   (repeat' (first|refine stp ?_|with_reducible(refine brr ?_ ?_<;>intro h)));all_goals try(conv=>whnf)
   all_goals try (exfalso; omega)
   .refine zAA c3 rfl ?_
    refine sts ?_;refine zAB rfl ?_;unfold vCY;simp only[vBI];rw[e2 hk,e2 hk,rAV ⟨hd,rAC⟩]
   .refine zAB rfl ?_
    unfold vCY;simp only[vBI];rw[e2 hk,e2 hk,rAN (fun h=>by simp_all)]
  ·(repeat' (first|refine stp ?_|with_reducible(refine brr ?_ ?_<;>intro h)));all_goals try(conv=>whnf)
   all_goals try (exfalso; omega)
   refine zAB rfl ?_;unfold vCY;simp only[vBI];rw[e2 hk,e2 hk,rAN (fun h=>hd h.1)]
theorem vM2:FO 88 Tryz.f88 [.tmp 4] 30:=mkO Tryz.func88 Tryz.ntmps88 Tryz.results88
theorem zQG(K D:Int)(l:List MultL)(hK:vFX K)(hD:vFX D)(hl:vCT l):Fn 88 [vEX K D,.imm (l.map vBA)] (.fresh ((vBL (vCY K D) l).map vBA) 7 true):=by
 have hln:=hl.1;refine zDS vBC hT vM2 zsm ?_;refine sts ?_
 refine zCL hT [(.sl 5,7,true)] (fun(i:Nat)=>[(1,.imm (l.map vBA)),(2,.ptr 0 0 0),(5,.own 1 0 i),(6,.int .i64 i)]) (fun i=>[(0,⟨[vEX K D],2,true⟩),(1,⟨(vBL (vCY K D) (l.take i)).map vBA,7,true⟩)]) [] 2
  (fun i=>i<=l.length) (fun i=>l.length - i) 0 (rA8 _) zdd zsm ⟨rfl,rGU⟩ ?_ ?_
 .exact⟨[0,_],[],[],[],ttt,⟨zAE rfl rfl,(apy rfl),zA3 zdd rfl rfl,zAC rfl rfl,rGU⟩,⟨bbx,zAF zdd rfl rfl (zCR _) rfl,rGU⟩,rAA⟩
 intro i hi;have hlen:(vBL (vCY K D) (l.take i)).length=i:=by simp[vBL]; omega
 by_cases h0:i<l.length
 .have hm:=hl.2 _ (zAY h0)
  have c1:=uEO K D l[i]!.row hK hD hm.1 hm.2
  refine gob ?_ ?_<;>intro h
  .refine zAA c1 rfl ?_
   refine sts ?_;exact⟨i+1,⟨zom,by show l.length - (i+1)<l.length - i; omega⟩,[0,_],[],[],[],ttt,⟨zAE rfl rfl,(apy rfl),zA3 zdd rfl rfl,zAC rfl zom,rGU⟩,⟨bbx,zAF zdd rfl (zLB h0) (zCR _) rfl,rGU⟩,rAA⟩
  all_goals (exfalso; omega)
 .obtain rfl:i=l.length:=by omega
  rw[rBW]
  refine gob ?_ ?_<;>intro h
  all_goals try (exfalso; omega)
  refine zBG rfl rfl (by simp[vBL]) rfl (zDI (fun x=>zKG x) _)
theorem uDP{h:Hp}{m r q p la a pa sz sz2 sz3:Nat}{g1 g2 g3:Bool}{n:NodeL}{L:List LemL}{K:List NodeL}{P:List MultL}(h1:h r=some ⟨L.map vBB,sz,g1⟩)(h2:h q=some ⟨K.map vBF,sz2,g2⟩)(h3:h p=some ⟨P.map vBA,sz3,g3⟩)(hl:la=L.length)(ha:a=K.length)(hp:pa=P.length) :
 frz h (m+4) (vHD n (.own r 0 la) (.own q 0 a) (.own p 0 pa))=some (vA6 (.mk L n.split K n.empty P),[r,q,p]):=by
 subst hl hp;exact vYD h1 h2 h3 ha
theorem vP9(f:RowL->RowL):∀ ks:List NodeL,vF7 f ks=ks.map (vCV f)
 | []=>rfl
 | k::ks=>by simp only[vF7,rBN,vP9 f ks]
theorem zEU(f:RowL->RowL)(n:NodeL):vCV f n=.mk (n.lemmas.map (vC7 f)) n.split (n.kids.map (vCV f)) n.empty (vBL f n.proof):=by
 cases n
 rw[<- vP9];rfl
theorem zJ8{α β:Type}[Inhabited α]{f:α->β}{l:List α}{i:Nat}(h:i<l.length):(l.take i).map f++[f l[i]!]=(l.take (i+1)).map f:=by
 rw[rA2 h,rAT l i h,rBD]; rfl
theorem vSK:FO 49 Tryz.f49 [.cell 4 32] 61:=mkO Tryz.func49 Tryz.ntmps49 Tryz.results49
theorem vK6(K D:Int)(hK:vFX K)(hD:vFX D):∀ (sz:Nat) (n:NodeL),SizeOf.sizeOf n<sz->NodeRg n->Fn 49 [vEX K D,vA6 n] (.data (vA6 (vCV (vCY K D) n))):=by
 intro sz
 induction sz with
 | zero=>intro n h; omega
 | succ sz ih =>
   intro n hsz hn;have hln:=hn.ln;have hkn:=hn.kn;have cp:=zQG K D n.proof hK hD hn.prf;obtain⟨PF,hPF⟩:∃ PF,vBL (vCY K D) n.proof=PF:=⟨_,rfl⟩;rw[zEU,hPF];rw[hPF]at cp;refine zAK vBC hT vSK zsm ?_;refine sus ?_
   (refine zA2 ?_; refine sus ?_)
   refine zA5 cp rfl ?_;refine sus ?_;refine vBW [] [(2,.cptr (vEX K D) 0),(3,.cptr (vA6 n) 0),(4,.ptr 0 0 0),(5,.ptr 1 0 0)] [(0,⟨[.agg [.nilsl,.int .i64 0,.int .i64 0,.bool false,.nilsl,.nilsl,.nilsl,.bool false,.nilsl]],9,true⟩),(1,⟨[vHD n .nilsl .nilsl (.own 2 0 PF.length)],9,true⟩),(2,⟨PF.map vBA,7,true⟩)] [] 3 zdd zsm trivial ?_ ?_
   .exact⟨[2,12,10],[0,1],[(2,.cptr (vEX K D) 0),(3,.cptr (vA6 n) 0)],[],⟨⟨⟨_,rfl⟩,⟨_,rfl⟩,rGU⟩,⟨⟨6,[0],rfl,rfl⟩,⟨6,[1],zDE rfl,rfl⟩,rGU⟩,rGU⟩,⟨zAG rfl,zAG rfl,apx,apx,rGU⟩,
     ⟨bbx,zAI zdd rfl (zB8 vL5 vL5 (zG8 zdd rfl zsm)) rfl rfl,zAF zdd rfl rfl (zCR _) rfl,rGU⟩,rAA⟩
   refine sts ?_
   refine zCL hT [(.cl 1 0 0,6,true)] (fun(i:Nat)=>[(2,.cptr (vEX K D) 0),(3,.cptr (vA6 n) 0),(4,.ptr 0 0 0),(5,.ptr 1 0 0),(6,.int .i64 i)])
    (fun i=>[(0,⟨[.agg [.nilsl,.int .i64 0,.int .i64 0,.bool false,.nilsl,.nilsl,.nilsl,.bool false,.nilsl]],9,true⟩),(1,⟨[vHD n (.own 3 0 i) .nilsl (.own 2 0 PF.length)],9,true⟩),(2,⟨PF.map vBA,7,true⟩),(3,⟨((n.lemmas.take i).map (vC7 (vCY K D))).map vBB,6,true⟩)]) [] 4
    (fun i=>i<=n.lemmas.length) (fun i=>n.lemmas.length - i) 0 (rA8 _) zdd zsm ⟨_,_,rfl,rfl,rfl,rGU⟩ ?_ ?_
   .exact⟨[0,1,2,_],[],[],[],ttt,⟨zAG rfl,zAG rfl,(apy rfl),(apy rfl),zAC rfl rfl,rGU⟩,
     ⟨bbx,zAI zdd rfl (zB8 (zG8 zdd rfl rfl) vL5 (zG8 zdd rfl rfl)) rfl rfl,zAF zdd rfl rfl (zCR _) rfl,zAF zdd rfl rfl (zFE _) rfl,rGU⟩,rAA⟩
   intro i hi;by_cases hi':i<n.lemmas.length
   .have hlm:n.lemmas[i]! ∈ n.lemmas:=zAY hi'
    have hlI:((n.lemmas.take i).map (vC7 (vCY K D))).length=i:=by simp; omega
    have cl:=zQG K D n.lemmas[i]!.proof hK hD (hn.lem _ hlm);refine sus ?_;refine zA2 ?_; (repeat' (first|refine stu ?_|with_reducible(refine brr ?_ ?_<;>intro h)));all_goals try(conv=>whnf)
    ·(refine zA2 ?_; refine sus ?_)
     (refine zA2 ?_; refine sus ?_)
     refine zA5 cl rfl ?_;refine sus ?_
     refine vBW [] [(2,.cptr (vEX K D) 0),(3,.cptr (vA6 n) 0),(4,.ptr 0 0 0),(5,.ptr 1 0 0),(6,.int .i64 i),(7,.ptr 4 0 0)]
      [(0,⟨[.agg [.nilsl,.int .i64 0,.int .i64 0,.bool false,.nilsl,.nilsl,.nilsl,.bool false,.nilsl]],9,true⟩),(1,⟨[vHD n (.own 3 0 i) .nilsl (.own 2 0 PF.length)],9,true⟩),(2,⟨PF.map vBA,7,true⟩),(3,⟨((n.lemmas.take i).map (vC7 (vCY K D))).map vBB,6,true⟩),(4,⟨[vBB (vC7 (vCY K D) n.lemmas[i]!)],6,true⟩)] [] 5 zdd zsm trivial ?_ ?_
     .exact⟨[0,1,2,3,14],[19],[],[(14,[vBB (vC7 (vCY K D) n.lemmas[i]!)])],⟨⟨⟨_,rfl⟩,rGU⟩,rGU,⟨⟨_,6,[19],rfl,zAD (ks:=[19]) (ls:=[]) (vP0 rfl (rAM _)) rfl,rfl⟩,rGU⟩⟩,⟨zAG rfl,zAG rfl,apx,apx,zAC rfl rfl,apx,rGU⟩,
       ⟨bbx,zAI zdd rfl (zB8 (zG8 zdd rfl rfl) vL5 (zG8 zdd rfl rfl)) rfl rfl,zAF zdd rfl rfl (zCR _) rfl,zAF zdd rfl rfl (zFE _) rfl,bbx,rGU⟩,rAA⟩
     refine sts ?_
     exact⟨i+1,⟨zom,zom⟩,[0,1,2,_],[],[],[],ttt,⟨zAG rfl,zAG rfl,(apy rfl),(apy rfl),zAC rfl zom,rGU⟩,
      ⟨bbx,zAI zdd rfl (zB8 (zG8 zdd rfl rfl) vL5 (zG8 zdd rfl rfl)) rfl rfl,zAF zdd rfl rfl (zCR _) rfl,zAF zdd rfl (by rw[<- zJ8 hi',rBD]; rfl) (zFE _) rfl,rGU⟩,rAA⟩
    .exfalso; omega
   .obtain rfl:i=n.lemmas.length:=by omega
    rw[rBW];obtain⟨LM,hLM⟩:∃ LM,n.lemmas.map (vC7 (vCY K D))=LM:=⟨_,rfl⟩;have hLl:LM.length=n.lemmas.length:=by rw[<- hLM]; simp
    rw[hLM]
    refine gob ?_ ?_<;>intro h
    all_goals try (exfalso; omega)
    refine zCL hT [(.cl 1 0 6,9,true)] (fun(i:Nat)=>[(2,.cptr (vEX K D) 0),(3,.cptr (vA6 n) 0),(4,.ptr 0 0 0),(5,.ptr 1 0 0),(8,.int .i64 i)])
     (fun i=>[(0,⟨[.agg [.nilsl,.int .i64 0,.int .i64 0,.bool false,.nilsl,.nilsl,.nilsl,.bool false,.nilsl]],9,true⟩),(1,⟨[vHD n (.own 3 0 n.lemmas.length) (.own 4 0 i) (.own 2 0 PF.length)],9,true⟩),(2,⟨PF.map vBA,7,true⟩),(3,⟨LM.map vBB,6,true⟩),(4,⟨((n.kids.take i).map (vCV (vCY K D))).map vBF,9,true⟩)]) [] 5
     (fun i=>i<=n.kids.length) (fun i=>n.kids.length - i) 0 (rA8 _) zdd zsm ⟨_,_,rfl,rfl,rfl,rGU⟩ ?_ ?_
    .exact⟨[0,1,2,3,_],[],[],[],ttt,⟨zAG rfl,zAG rfl,(apy rfl),(apy rfl),zAC rfl rfl,rGU⟩,
      ⟨bbx,zAI zdd rfl (zB8 (zG8 zdd rfl rfl) (zG8 zdd rfl rfl) (zG8 zdd rfl rfl)) rfl rfl,zAF zdd rfl rfl (zCR _) rfl,zAF zdd rfl rfl (zFE _) rfl,zAF zdd rfl rfl (zF1 _) rfl,rGU⟩,rAA⟩
    intro i hi;by_cases hi':i<n.kids.length
    .have hkm:n.kids[i]! ∈ n.kids:=zAY hi'
     have hkl:((n.kids.take i).map (vCV (vCY K D))).length=i:=by simp; omega
     have ck:=ih n.kids[i]! (by have:=NodeL.sizeOf_kid hkm; omega) (hn.kid _ hkm)
     refine gon ?_ ?_<;>intro h
     .refine zAA ck rfl ?_
      refine sns ?_
      refine⟨i+1,⟨zom,zom⟩,[0,1,2,3,_],[],[],[],ttt,⟨zAG rfl,zAG rfl,(apy rfl),(apy rfl),zAC rfl zom,rGU⟩,
       ⟨bbx,zAI zdd rfl (zB8 (zG8 zdd rfl rfl) (zG8 zdd rfl rfl) (zG8 zdd rfl rfl)) rfl rfl,zAF zdd rfl rfl (zCR _) rfl,zAF zdd rfl rfl (zFE _) rfl,zAF zdd rfl ?_ (zF1 _) rfl,rGU⟩,rAA⟩
      rw[<- zJ8 hi',rBD];show _++[vA6 _]=_++[vBF _]
      rw[zBM]
     all_goals (exfalso; omega)
    .obtain rfl:i=n.kids.length:=by omega
     rw[rBW];have hkl:(n.kids.map (vCV (vCY K D))).length=n.kids.length:=by simp
     obtain⟨KD,hKD⟩:∃ KD,n.kids.map (vCV (vCY K D))=KD:=⟨_,rfl⟩;rw[hKD]at hkl ⊢
     refine gon ?_ ?_<;>intro h
     all_goals try (exfalso; omega)
     exact zAB (uDP (m:=0) (n:=n) rfl rfl rfl hLl.symm hkl.symm rfl) rfl
def uLJ(r:RowL)(k:Int):Prop:=r.lo=k+1\/r.hi=k+1
theorem vIV{l:List MultL}{k:Int}{i:Nat}(h:i<l.length)(hu:uLJ l[i]!.row k):vFS l k=true:=by
 unfold vFS;rw[rCY];exact⟨_,zAY h,by simpa [uLJ]using hu⟩
theorem vTZ{l:List MultL}{k:Int}(h:∀ j,j<l.length->¬ uLJ l[j]!.row k):vFS l k=false:=by
 unfold vFS;rw[rDZ];intro m hm;obtain⟨j,hj,rfl⟩:=rBB hm;have:=h j hj;rw[rAT l j hj]at this
 simpa [uLJ]using this
theorem vV1:FO 92 Tryz.f92 [.tmp 4] 32:=mkO Tryz.func92 Tryz.ntmps92 Tryz.results92
theorem vQD(l:List MultL)(k:Int)(hl:vCT l)(h1:0<=k)(h2:k<4611686018427387904):Fn 92 [.imm (l.map vBA),.int .i64 k] (.data (.bool (vFS l k))):=by
 have hln:=hl.1;refine zAK vBC hT vV1 zsm ?_;refine sts ?_;refine zA4 hT (fun i:Nat=>[(0,.imm (l.map vBA)),(1,.int .i64 k),(5,.int .i64 i)]) (fun i=>i<=l.length/\∀ j,j<i->¬ uLJ l[j]!.row k) (fun i=>l.length - i) 0 ⟨rA8 _,fun j hj=>by omega⟩ ⟨rAJ,rAI,rAI,rGU⟩ ?_;intro i ⟨hi,hno⟩;by_cases h0:i<l.length
 ·(repeat' (first|refine stp ?_|with_reducible(refine brr ?_ ?_<;>intro h)));all_goals try(conv=>whnf)
  .exact zAB rfl (rA3 PV.bool (vIV h0 (rAW rAC)).symm)
  .exact zAB rfl (rA3 PV.bool (vIV h0 (rAY rAC)).symm)
  .refine⟨i+1,⟨⟨zom,fun j hj=>?_⟩,zom⟩,rAJ,rAI,zAC rfl zom,rGU⟩
   rcases rB8 (rCB hj) with h | rfl
   .exact hno j h
   .rintro(h | h)<;>simp_all
  all_goals (exfalso; omega)
 .obtain rfl:i=l.length:=by omega
  (repeat' (first|refine stp ?_|with_reducible(refine brr ?_ ?_<;>intro h)));all_goals try(conv=>whnf)
  all_goals try (exfalso; omega)
  exact zAB rfl (rA3 PV.bool (vTZ hno).symm)
theorem vIT(k:Int):∀ ks:List NodeL,vFR ks k=ks.any (fun n=>vDX n k)
 | []=>rfl
 | n::ks=>by simp only[vFR,List.any_cons,vIT k ks]
theorem vGK(n:NodeL)(k:Int):vDX n k=(n.lemmas.any (fun m=>vFS m.proof k) || n.kids.any (fun n=>vDX n k) || vFS n.proof k):=by
 cases n
 simp only[vDX,vIT];rfl
theorem zK4{α:Type}[Inhabited α]{f:α->Bool}{l:List α}(h:∀ j,j<l.length->f l[j]! = false):l.any f=false:=by
 rw[rDZ];intro m hm;obtain⟨j,hj,rfl⟩:=rBB hm;have:=h j hj;rw[rAT l j hj]at this;simp[this]
theorem any_some{α:Type}[Inhabited α]{f:α->Bool}{l:List α}{i:Nat}(h:i<l.length)(hf:f l[i]! = true):l.any f=true:=rCY.2 ⟨_,zAY h,hf⟩
theorem vV2:FO 58 Tryz.f58 [.tmp 4] 40:=mkO Tryz.func58 Tryz.ntmps58 Tryz.results58
theorem uD6 (k:Int) (h1:0<=k) (h2:k<4611686018427387904):∀ (sz:Nat) (n:NodeL),SizeOf.sizeOf n<sz->NodeRg n->Fn 58 [vA6 n,.int .i64 k] (.data (.bool (vDX n k))):=by
 intro sz
 induction sz with
 | zero=>intro n h; omega
 | succ sz ih =>
   intro n hsz hn;have hln:=hn.ln;have hkn:=hn.kn;have cp:=vQD n.proof k hn.prf h1 h2;refine zAK vBC hT vV2 zsm ?_;refine sns ?_;refine zAM hT (fun i:Nat=>[(1,.int .i64 k),(2,.cptr (vA6 n) 0),(5,.int .i64 i)]) (fun _=>[]) [] 0 (fun i=>i<=n.lemmas.length/\∀ j,j<i->vFS n.lemmas[j]!.proof k=false) (fun i=>n.lemmas.length - i) 0 ⟨rA8 _,fun j hj=>by omega⟩ zdd zsm ?_ ?_
   .exact⟨[],[0],[(2,.cptr (vA6 n) 0)],[],⟨⟨⟨_,rfl⟩,rGU⟩,⟨⟨6,[0],zDE rfl,rfl⟩,rGU⟩,rGU⟩,⟨zAC rfl rfl,zAG rfl,zAC rfl rfl,rGU⟩,rGU,rAA⟩
   intro i ⟨hi,hno⟩;by_cases h0:i<n.lemmas.length
   .have hlm:n.lemmas[i]! ∈ n.lemmas:=zAY h0
    have cu:=vQD n.lemmas[i]!.proof k (hn.lem _ hlm) h1 h2
    refine gon ?_ ?_<;>intro h
    .refine zAA cu rfl ?_
     refine gon ?_ ?_<;>intro h
     .refine zAB rfl (rA3 PV.bool ?_)
      rw[vGK,any_some (f:=fun m=>vFS m.proof k) h0 rAC];rfl
     .refine⟨i+1,⟨⟨zom,fun j hj=>?_⟩,by show n.lemmas.length - (i+1)<n.lemmas.length - i; omega⟩,[],[],[],[],ttt,⟨rAI,zAG rfl,zAC rfl zom,rGU⟩,rGU,rAA⟩
      rcases rB8 (rCB hj) with h | rfl
      .exact hno j h
      .assumption
    all_goals (exfalso; omega)
   .obtain rfl:i=n.lemmas.length:=by omega
    have e1:n.lemmas.any (fun m=>vFS m.proof k)=false:=zK4 hno
    refine gon ?_ ?_<;>intro h
    all_goals try (exfalso; omega)
    refine zAM hT (fun i:Nat=>[(1,.int .i64 k),(2,.cptr (vA6 n) 0),(6,.int .i64 i)]) (fun _=>[]) [] 0 (fun i=>i<=n.kids.length/\∀ j,j<i->vDX n.kids[j]! k=false) (fun i=>n.kids.length - i) 0 ⟨rA8 _,fun j hj=>by omega⟩ zdd zsm ?_ ?_
    .exact⟨[],[],[],[],ttt,⟨rAI,zAG rfl,rAI,rGU⟩,rGU,rAA⟩
    intro i ⟨hi,hno2⟩;by_cases h0:i<n.kids.length
    .have hkm:n.kids[i]! ∈ n.kids:=zAY h0
     have cu:=ih n.kids[i]! (by have:=NodeL.sizeOf_kid hkm; omega) (hn.kid _ hkm)
     refine gon ?_ ?_<;>intro h
     .refine zAA cu rfl ?_
      refine gon ?_ ?_<;>intro h
      .refine zAB rfl (rA3 PV.bool ?_)
       rw[vGK,any_some (f:=fun m=>vDX m k) h0 rAC]
       simp
      .refine⟨i+1,⟨⟨zom,fun j hj=>?_⟩,by show n.kids.length - (i+1)<n.kids.length - i; omega⟩,[],[],[],[],ttt,⟨rAI,zAG rfl,zAC rfl zom,rGU⟩,rGU,rAA⟩
       rcases rB8 (rCB hj) with h | rfl
       .exact hno2 j h
       .assumption
     all_goals (exfalso; omega)
    .obtain rfl:i=n.kids.length:=by omega
     have e2:n.kids.any (fun m=>vDX m k)=false:=zK4 hno2
     refine gon ?_ ?_<;>intro h
     all_goals try (exfalso; omega)
     refine zAA cp rfl ?_;refine sns ?_;refine zAB rfl (rA3 PV.bool ?_);rw[vGK,e1,e2];rfl
def vGF(n:NodeL)(i:Nat):NodeL:=.mk (n.lemmas.take i++n.lemmas.drop (i+1)) n.split n.kids n.empty n.proof
theorem vJR:FO 59 Tryz.f59 [.cell 6 32] 24:=mkO Tryz.func59 Tryz.ntmps59 Tryz.results59
theorem vNR(n:NodeL)(i:Nat)(k:Int)(hi:i<n.lemmas.length)(h1:0<=k)(h2:k<4611686018427387904)(hn:NodeRg n):Fn 59 [vA6 n,.int .i64 i,.int .i64 k] (.data (vA6 (vCV (vTI k) (vGF n i)))):=by
 have hln:=hn.ln
 have hd:NodeRg (vGF n i):=⟨_,by show(n.lemmas.take i++n.lemmas.drop (i+1)).length<_; simp; omega,fun m hm=>by
  rcases rAZ.1 (show m∈n.lemmas.take i++n.lemmas.drop (i+1) from hm) with h | h
  .exact hn.lem m (rCL h)
  .exact hn.lem m (rDH h),hn.prf,hn.kn,hn.kid⟩
 have ck:=vK6 k (-1) ⟨zom,h2⟩ ⟨zom,zom⟩ _ (vGF n i) (rAL _) hd;rw[uD4 h1]at ck;refine zAK vBC hT vJR zsm ?_;refine sts ?_;refine zB1 (l':=n.lemmas.take i) zsm ?_;refine sts ?_;refine zB1 (l':=n.lemmas.drop (i+1)) (by rw[rBO zsm]; congr 1) ?_;refine sts ?_;refine zAA ck (zAD (ks:=[]) rfl (zAD (zBY (zAD (zAH (f:=vBB) (l:=n.lemmas.take i++n.lemmas.drop (i+1)) rfl (by rw[rBD]; rfl) zsm (fun x=>zLU x)) rfl)) rfl)) ?_;refine sts ?_;exact rGV
theorem vPO{v k:Int}(hk:0<=k)(h1:-9223372036854775808<=v)(h2:v<9223372036854775808):-9223372036854775808<=vDQ v (k+1)/\vDQ v (k+1)<9223372036854775808:=by
 unfold vDQ; split<;>omega
theorem zPP{l:List MultL}{k:Int}(hk:0<=k)(h:vCT l):vCT (vBL (vTI k) l):=by
 refine⟨by simpa [vBL]using h.1,fun m hm=>?_⟩;obtain⟨x,hx,rfl⟩:=rA5.1 hm;obtain⟨⟨h1,h2⟩,h3⟩:=h.2 x hx;exact⟨⟨vPO hk h1.1 h1.2,vPO hk h2.1 h2.2⟩,h3⟩
theorem uE6{k:Int}(hk:0<=k):∀ (sz:Nat) (n:NodeL),SizeOf.sizeOf n<sz->NodeRg n->NodeRg (vCV (vTI k) n):=by
 intro sz
 induction sz with
 | zero=>intro n h; omega
 | succ sz ih =>
   intro n hsz hn;rw[zEU];refine⟨_,by show(n.lemmas.map _).length<_; simpa using hn.ln,fun m hm=>?_,zPP hk hn.prf,by show(n.kids.map _).length<_; simpa using hn.kn,fun x hx=>?_⟩
   .obtain⟨y,hy,rfl⟩:=rA5.1 (show m∈n.lemmas.map _ from hm)
    exact zPP hk (hn.lem y hy)
   .obtain⟨y,hy,rfl⟩:=rA5.1 (show x∈n.kids.map _ from hx)
    exact ih y (by have:=NodeL.sizeOf_kid hy; omega) (hn.kid y hy)
theorem vJE{n:NodeL}(hn:NodeRg n)(i:Nat):NodeRg (vGF n i):=⟨_,by have:=hn.ln; show(n.lemmas.take i++n.lemmas.drop (i+1)).length<_; simp; omega,fun m hm=>by
 rcases rAZ.1 (show m∈n.lemmas.take i++n.lemmas.drop (i+1) from hm) with h | h
 .exact hn.lem m (rCL h)
 .exact hn.lem m (rDH h),hn.prf,hn.kn,hn.kid⟩
def uG9(n:NodeL)(i:Nat):NodeL:=.mk (n.lemmas.drop i) n.split n.kids n.empty n.proof
theorem uBD{n:NodeL}(hn:NodeRg n)(i:Nat):NodeRg (uG9 n i):=⟨_,by have:=hn.ln; show(n.lemmas.drop i).length<_; simp; omega,fun m hm=>hn.lem m (rDH hm),hn.prf,hn.kn,hn.kid⟩
theorem vH5(b:Int)(i:Nat)(c:NodeL):vE7 b (i+1) c=vE7 b i (if vDX (uG9 c (i+1)) (b+i)=true then c else vCV (vTI (b+i)) (vGF c i)):=by
 cases c; rfl
theorem vOT{b:Int}(hb:0<=b):∀ (i:Nat) (c:NodeL),NodeRg c->NodeRg (vE7 b i c)
 | 0,c,h=>by unfold vE7; exact h
 | i+1,c,h=>by
   rw[vH5];refine vOT hb i _ ?_
   split
   .exact h
   .exact uE6 zom _ _ (rAL _) (vJE h i)
theorem vJM(b:Int):∀ ks:List NodeL,vMP ks b=ks.map (fun k=>vEH k b)
 | []=>rfl
 | k::ks=>by simp only[vMP,rBN,vJM b ks]
theorem vO4(n:NodeL)(b:Int):vEH n b=vE7 b n.lemmas.length (.mk n.lemmas n.split (n.kids.map (fun k=>vEH k (b+n.lemmas.length))) n.empty n.proof):=by
 cases n
 rw[<- vJM];rfl
theorem uG7:∀ (sz:Nat) (n:NodeL) (b:Int),SizeOf.sizeOf n<sz->0<=b->NodeRg n->NodeRg (vEH n b):=by
 intro sz
 induction sz with
 | zero=>intro n b h; omega
 | succ sz ih =>
   intro n b hsz hb hn;rw[vO4];refine vOT hb _ _ ⟨_,hn.ln,hn.lem,hn.prf,by show(n.kids.map _).length<_; simpa using hn.kn,fun x hx=>?_⟩;obtain⟨y,hy,rfl⟩:=rA5.1 (show x∈n.kids.map _ from hx);exact ih y _ (by have:=NodeL.sizeOf_kid hy; omega) zom (hn.kid y hy)
theorem vP1{h:Hp}{m q a sz2:Nat}{g2:Bool}{n:NodeL}{L:List LemL}{K:List NodeL}{P:List MultL}(h2:h q=some ⟨K.map vBF,sz2,g2⟩)(ha:a=K.length) :
 frz h (m+4) (vHD n (.imm (L.map vBB)) (.own q 0 a) (.imm (P.map vBA)))=some (vA6 (.mk L n.split K n.empty P),[q]) :=
 zBY (zAD (ks:=[]) rfl (zAD (ks:=[]) rfl (zAD (ks:=[]) rfl (zAD (ks:=[]) rfl (zAD (ks:=[]) rfl (zAD (ks:=[]) rfl (zAD (zAH h2 rfl ha (fun x=>zFX x)) (zAD (ks:=[]) rfl (zAD (ks:=[]) rfl rfl)))))))))
theorem vRJ{ρ:Nat->Nat}{k:Nat}{es:List PV}:rn ρ k 2 (.imm es) (.imm es):=by rw[vU1]
theorem vWX:FO 37 Tryz.f37 [.cell 4 32] 62:=mkO Tryz.func37 Tryz.ntmps37 Tryz.results37
theorem uEG:∀ (sz:Nat) (n:NodeL) (b:Int),SizeOf.sizeOf n<sz->NodeRg n->0<=b->b+n.wt<=2305843009213693952->Fn 37 [vA6 n,.int .i64 b] (.data (vA6 (vEH n b))):=by
 intro sz
 induction sz with
 | zero=>intro n b h; omega
 | succ sz ih =>
   intro n b hsz hn hb hbw;have hwt:=n.wt_eq;have hll:=zM3 n.lemmas;have hln:=hn.ln;have hkn:=hn.kn;rw[vO4];refine zAK vBC hT vWX zsm ?_;refine sns ?_
   refine zCL hT [(.cl 3 0 6,9,true)] (fun(i:Nat)=>[(1,.int .i64 b),(2,.cptr (vA6 n) 0),(4,.ptr 0 0 0),(5,.ptr 1 0 0),(6,.int .i64 i)])
    (fun i=>[(0,⟨[.agg [.nilsl,.int .i64 0,.int .i64 0,.bool false,.nilsl,.nilsl,.nilsl,.bool false,.nilsl]],9,true⟩),(1,⟨[vHD n (.imm (n.lemmas.map vBB)) (.own 2 0 i) (.imm (n.proof.map vBA))],9,true⟩),(2,⟨((n.kids.take i).map (fun k=>vEH k (b+n.lemmas.length))).map vBF,9,true⟩)]) [] 3
    (fun i=>i<=n.kids.length) (fun i=>n.kids.length - i) 0 (rA8 _) zdd zsm ⟨_,_,rfl,rfl,rfl,rGU⟩ ?_ ?_
   .exact⟨[1,3,_],[0],[(2,.cptr (vA6 n) 0)],[],⟨⟨⟨_,rfl⟩,rGU⟩,⟨⟨6,[0],zDE rfl,rfl⟩,rGU⟩,rGU⟩,⟨zAC rfl rfl,zAG rfl,(apy rfl),(apy rfl),zAC rfl rfl,rGU⟩,
     ⟨bbx,zAI zdd rfl (zB8 vRJ (zG8 zdd rfl rfl) vRJ) rfl rfl,zAF zdd rfl rfl (zF1 _) rfl,rGU⟩,rAA⟩
   intro i hi;by_cases hi':i<n.kids.length
   .have hkm:n.kids[i]! ∈ n.kids:=zAY hi'
    have hks1:=vHW hi';have hkl:((n.kids.take i).map (fun k=>vEH k (b+n.lemmas.length))).length=i:=by simp; omega
    have ck:Fn 37 [vA6 n.kids[i]!,.int .i64 (b+((n.lemmas.map vBB).length:Nat))] (.data (vA6 (vEH n.kids[i]! (b+n.lemmas.length)))):=by
     rw[rAM];exact ih n.kids[i]! _ (by have:=NodeL.sizeOf_kid hkm; omega) (hn.kid _ hkm) zom zom
    refine gon ?_ ?_<;>intro h
    .refine zAA ck rfl ?_
     refine sns ?_
     refine⟨i+1,⟨zom,zom⟩,[0,1,_],[],[],[],ttt,⟨zAC rfl rfl,zAG rfl,(apy rfl),(apy rfl),zAC rfl zom,rGU⟩,
      ⟨bbx,zAI zdd rfl (zB8 vRJ (zG8 zdd rfl rfl) vRJ) rfl rfl,zAF zdd rfl ?_ (zF1 _) rfl,rGU⟩,rAA⟩
     rw[<- zJ8 hi',rBD];show _++[vA6 _]=_++[vBF _]
     rw[zBM]
    all_goals (exfalso; omega)
   .obtain rfl:i=n.kids.length:=by omega
    rw[rBW];have hkl:(n.kids.map (fun k=>vEH k (b+n.lemmas.length))).length=n.kids.length:=by simp
    have hKR:∀ x∈n.kids.map (fun k=>vEH k (b+n.lemmas.length)),NodeRg x:=fun x hx=>by
     obtain⟨y,hy,rfl⟩:=rA5.1 hx;exact uG7 _ y _ (rAL _) zom (hn.kid y hy)
    obtain⟨KD,hKD⟩:∃ KD,n.kids.map (fun k=>vEH k (b+n.lemmas.length))=KD:=⟨_,rfl⟩;rw[hKD]at hkl hKR ⊢;refine sus ?_;refine zA2 ?_; (repeat' (first|refine stu ?_|with_reducible(refine brr ?_ ?_<;>intro h)));all_goals try(conv=>whnf)
    .exfalso; omega
    refine vBW [] [(1,.int .i64 b),(2,.cptr (vA6 n) 0),(4,.ptr 0 0 0),(5,.ptr 1 0 0)] [(0,⟨[.agg [.nilsl,.int .i64 0,.int .i64 0,.bool false,.nilsl,.nilsl,.nilsl,.bool false,.nilsl]],9,true⟩),(1,⟨[vA6 (.mk n.lemmas n.split KD n.empty n.proof)],9,true⟩)] [] 2 zdd zsm trivial ?_ ?_
    .exact⟨[0,1],[2],[],[(1,[vA6 (.mk n.lemmas n.split KD n.empty n.proof)])],⟨⟨⟨_,rfl⟩,rGU⟩,rGU,⟨⟨_,6,[2],rfl,zAD (ks:=[2]) (ls:=[]) (vP1 rfl hkl.symm) rfl,rfl⟩,rGU⟩⟩,⟨zAC rfl rfl,zAG rfl,apx,apx,rGU⟩,
      ⟨bbx,bbx,rGU⟩,rAA⟩
    obtain⟨c0,hc0⟩:∃ c0,(NodeL.mk n.lemmas n.split KD n.empty n.proof)=c0:=⟨_,rfl⟩;have hl0:c0.lemmas.length=n.lemmas.length:=by rw[<- hc0]; rfl
    have hr0:NodeRg c0:=by rw[<- hc0]; exact⟨_,hn.ln,hn.lem,hn.prf,by show KD.length<_; omega,hKR⟩
    rw[hc0,<- hl0];refine sns ?_
    refine zAM hT (fun((j,c):Nat×NodeL)=>[(1,.int .i64 b),(4,.ptr 0 0 0),(5,.ptr 1 0 0),(7,.int .i64 ((j:Int) - 1))]) (fun((j,c):Nat×NodeL)=>[(0,⟨[.agg [.nilsl,.int .i64 0,.int .i64 0,.bool false,.nilsl,.nilsl,.nilsl,.bool false,.nilsl]],9,true⟩),(1,⟨[vA6 c],9,true⟩)]) [] 2
     (fun((j,c):Nat×NodeL)=>j<=c.lemmas.length/\NodeRg c/\vE7 b j c=vE7 b c0.lemmas.length c0/\j<=n.lemmas.length) (fun((j,c):Nat×NodeL)=>j) (c0.lemmas.length,c0) ⟨rAR _,hr0,rfl,zom⟩ zdd zsm ?_ ?_
    .exact⟨[0,1],[],[],[],ttt,⟨rAI,apx,apx,zAC rfl zsm,rGU⟩,⟨bbx,bbx,rGU⟩,rAA⟩
    rintro⟨j,c⟩ ⟨hj,hc,hd,hjn⟩
    dsimp only at hj hc hd hjn ⊢;have hcl:=hc.ln;by_cases h0:j=0
    .subst h0
     rw[<- hd];refine sns ?_
     all_goals try (exfalso; omega)
     exact zAB rfl (by unfold vE7; rfl)
    .obtain⟨i,rfl⟩:∃ i,j=i+1:=⟨j - 1,zom⟩
     have cu:=uD6 (b+i) zom zom _ (uG9 c (i+1)) (rAL _) (uBD hc _);have cw:=vNR c i (b+i) zom zom zom hc;have hj1:((i+1:Nat):Int) - 1=i:=by omega
     rw[hj1];refine sns ?_
     .refine zB1 (l':=c.lemmas.drop (i+1)) (by rw[rBO zsm]; congr 1) ?_
      refine sns ?_;refine zAA cu rfl ?_
      refine gon ?_ ?_<;>intro h
      .refine⟨(i,c),⟨⟨by show i<=c.lemmas.length; omega,hc,?_,by show i<=n.lemmas.length; omega⟩,rAL i⟩,[0,1],[],[],[],ttt,⟨rAI,apx,apx,rAI,rGU⟩,⟨bbx,bbx,rGU⟩,rAA⟩
       rw[<- hd,vH5,rAV rAF]
      .refine zAA cw rfl ?_
       refine sns ?_;refine⟨(i,vCV (vTI (b+i)) (vGF c i)),⟨⟨?_,uE6 zom _ _ (rAL _) (vJE hc i),?_,by show i<=n.lemmas.length; omega⟩,rAL i⟩,[0,1],[],[],[],ttt,⟨rAI,apx,apx,rAI,rGU⟩,⟨bbx,bbx,rGU⟩,rAA⟩
       .rw[zEU]
        show i<=((c.lemmas.take i++c.lemmas.drop (i+1)).map _).length
        simp
        omega
       .rw[<- hd,vH5,rAN rAF]
     all_goals (exfalso; omega)
theorem vKF(n:NodeL):vBO n=if n.valid=true then vEH n 0 else zeroN:=by
 unfold vBO;rw[vO2 n 0 zom]
theorem zPC:FO 14 Tryz.f14 [.cell 2 32] 9:=mkO Tryz.func14 Tryz.ntmps14 Tryz.results14
theorem zOV(n:NodeL)(hs:n.Sm)(hn:NodeRg n)(hw:n.wt<=536870912):Fn 14 [vA6 n] (.data (vA6 (vBO n))):=by
 have cv:=zEC n hs;have cp:=uEG _ n 0 (rAL _) hn zom zom;rw[vKF];refine zAK vBC hT zPC zsm ?_;refine sns ?_;refine zAA cv rfl ?_
 refine gon ?_ ?_<;>intro h
 .refine zAA cp rfl ?_
  refine sns ?_;rw[rAV rAF];exact rGV
 .rw[rAN rAF]
  exact rGV
def isP(p:Int)(r:RowL):Bool:=decide (r.kind=4/\r.index=p)
def vDE(l:List MultL)(p:Int):Bool:=l.any fun m=>isP p m.row
mutual
def onN:NodeL->Int->Bool
 | .mk l _ ks _ pr,p=>l.any (fun m=>vDE m.proof p) || onK ks p || vDE pr p
def onK:List NodeL->Int->Bool
 | [],_=>false
 | k::ks,p=>onN k p || onK ks p
end
theorem vV0(p:Int):∀ ks:List NodeL,onK ks p=ks.any (fun n=>onN n p)
 | []=>rfl
 | n::ks=>by simp only[onK,List.any_cons,vV0 p ks]
theorem vJQ(n:NodeL)(p:Int):onN n p=(n.lemmas.any (fun m=>vDE m.proof p) || n.kids.any (fun n=>onN n p) || vDE n.proof p):=by
 cases n
 simp only[onN,vV0];rfl
abbrev okB(o:Bool):Blk:=⟨[.bool o],1,false⟩
abbrev uP8(p:Int):PV:=.func (.func 139) [] [.ptr 0 0 0,.cptr (.int .i64 p) 0]
theorem zJ0:FO 139 Tryz.f139 [.cell 4 70] 24:=mkO Tryz.func139 Tryz.ntmps139 Tryz.results139
theorem uD8(r:RowL)(p:Int)(o:Bool)(hp:vFX p)(h0:0<=p)(hi:vSV r):Fn 139 [vBI r,.ptr 0 0 0,.cptr (.int .i64 p) 0] (.wrt (okB o) (vBI (vCY (-1) p r)) (okB (o && !isP p r))):=by
 obtain⟨kind,index,lo,hi'⟩:=r;obtain⟨hi1,hi2⟩:=hi;dsimp only at hi1 hi2;have hp2:=hp.2;have e1:∀ i:Int,(if 0<=p/\kind=4 then vDQ index p else index)=i->vCY (-1) p ⟨kind,index,lo,hi'⟩=⟨kind,i,lo,hi'⟩:=fun i h=>by unfold vCY; rw[h]; rfl
 have e2:isP p ⟨kind,index,lo,hi'⟩=decide (kind=4/\index=p):=rfl;by_cases hk:kind=4
 .subst hk
  simp only[h0,rEB,and_self,rCH]at e1;unfold vDQ at e1;by_cases hlt:p<index
  .rw[e1 (index - 1) (by rw[rAV hlt]),show isP p ⟨4,index,lo,hi'⟩=false by rw[e2]; exact rBA zom]
   cases o
   all_goals
    refine zIE vBC hT zJ0 (by simp[vBI]) ?_
    refine gob ?_ ?_<;>intro h
    all_goals try (exfalso; omega)
    all_goals try (exfalso; simp_all; done)
    all_goals exact zLN rfl rfl rfl (by first | rfl | (simp_all; done) | (simp_all; omega)) rfl (fun e he=>by simp at he; subst he; rfl)
  .rw[e1 index (by rw[rAN hlt])]
   by_cases heq:index=p
   .rw[show isP p ⟨4,index,lo,hi'⟩=true by rw[e2]; exact rB1 ⟨rfl,heq⟩]
    cases o
    all_goals
     refine zIE vBC hT zJ0 (by simp[vBI]) ?_
     refine gob ?_ ?_<;>intro h
     all_goals try (exfalso; omega)
     all_goals try (exfalso; simp_all; done)
     all_goals exact zLN rfl rfl rfl (by first | rfl | (simp_all; done) | (simp_all; omega)) rfl (fun e he=>by simp at he; subst he; rfl)
   .rw[show isP p ⟨4,index,lo,hi'⟩=false by rw[e2]; exact rBA (fun h=>heq h.2)]
    cases o
    all_goals
     refine zIE vBC hT zJ0 (by simp[vBI]) ?_
     refine gob ?_ ?_<;>intro h
     all_goals try (exfalso; omega)
     all_goals try (exfalso; simp_all; done)
     all_goals exact zLN rfl rfl rfl (by first | rfl | (simp_all; done) | (simp_all; omega)) rfl (fun e he=>by simp at he; subst he; rfl)
 .rw[e2,e1 index (by rw[rAN (fun h:0<=p/\kind=4=>hk h.2)]),rBA (fun h=>hk h.1)]
  refine zIE vBC hT zJ0 (by simp[vBI]) ?_
  (repeat' (first|refine stp ?_|with_reducible(refine brr ?_ ?_<;>intro h)));all_goals try(conv=>whnf)
  all_goals try (exfalso; omega)
  exact zLN rfl rfl rfl zsm rfl (fun e he=>by simp at he; subst he; rfl)
theorem zO7{ρ:Nat->Nat}{k:Nat}{t:Tm}{j:Nat}{fn:Go.Fn}{e:PV}{o:Nat}{r r':Nat}(hr:r<k)(h:t j=.func fn [] [.ptr r' 0 0,.cptr e o])(e2:r'=ρ r):at' ρ k t j (.func fn [] [.ptr r 0 0,.cptr e o]):=by subst e2; unfold at'; rw[h]; exact⟨rfl,rGU,⟨hr,rfl⟩,rfl,rGU⟩
theorem vRR{l:List MultL}{i:Nat}(h:i<l.length)(p:Int):vDE (l.take (i+1)) p=(vDE (l.take i) p || isP p l[i]!.row):=by
 rw[rA2 h,rAT l i h];unfold vDE;rw[rF8]
 simp
theorem vQE(l:List MultL)(p:Int)(o:Bool)(hp:vFX p)(h0:0<=p)(hl:vCT l):Fn 57 [.imm (l.map vBA),uP8 p] (.wrt (okB o) (.imm ((vBL (vCY (-1) p) l).map vBA)) (okB (o && !vDE l p))):=by
 have hln:=hl.1;refine zIE vBC hT vPB zsm ?_;refine sts ?_
 refine zCL hT [(.sl 5,7,true)] (fun(i:Nat)=>[(1,uP8 p),(5,.own 1 0 i),(8,.imm (l.map vBA)),(9,.int .i64 l.length),(10,.int .i64 i)]) (fun i=>[(0,okB (o && !vDE (l.take i) p)),(1,⟨(vBL (vCY (-1) p) (l.take i)).map vBA,7,true⟩)]) [] 2
  (fun i=>i<=l.length) (fun i=>l.length - i) 0 (rA8 _) zdd zsm ⟨rfl,rGU⟩ ?_ ?_
 .exact⟨[_],[],[],[],ttt,⟨zO7 zdd rfl rfl,zA3 zdd rfl rfl,zAE rfl rfl,zAC rfl zsm,zAC rfl rfl,rGU⟩,⟨zEV zdd rfl (by simp[vDE]) rfl rfl rfl,zAF zdd rfl rfl (zCR _) rfl,rGU⟩,rAA⟩
 intro i hi;have hlen:(vBL (vCY (-1) p) (l.take i)).length=i:=by simp[vBL]; omega
 by_cases h0':i<l.length
 .have c1:=uD8 l[i]!.row p (o && !vDE (l.take i) p) hp h0 (hl.2 _ (zAY h0')).2
  refine gob ?_ ?_<;>intro h
  .refine zLX (r:=0) (ks:=[]) c1 rfl rfl rfl rfl (fun e he=>by simp at he; subst he; rfl) (fun i=>by simp[vC2]) ?_
   refine sts ?_
   exact⟨i+1,⟨zom,zom⟩,[_],[],[],[],ttt,⟨zO7 zdd rfl rfl,zA3 zdd rfl rfl,zAE rfl rfl,zAC rfl rfl,zAC rfl zom,rGU⟩,
    ⟨zEV zdd rfl (by rw[vRR h0']; simp[Bool.not_or,Bool.and_assoc]) rfl rfl rfl,zAF zdd rfl (zLB h0') (zCR _) rfl,rGU⟩,rAA⟩
  all_goals (exfalso; omega)
 .obtain rfl:i=l.length:=by omega
  rw[rBW];refine sus ?_;refine zA2 ?_; (repeat' (first|refine stu ?_|with_reducible(refine brr ?_ ?_<;>intro h)));all_goals try(conv=>whnf)
  .exfalso; omega
  refine vBW [] [(5,.imm ((vBL (vCY (-1) p) l).map vBA))] [(0,okB (o && !vDE l p))] [] 1 zdd zsm trivial ?_ ?_
  .exact⟨[],[1],[(5,.imm ((vBL (vCY (-1) p) l).map vBA))],[],⟨⟨⟨_,rfl⟩,rGU⟩,⟨⟨6,[1],zAH rfl rfl (by simp[vBL]) (fun x=>zKG x),rfl⟩,rGU⟩,rGU⟩,⟨zAE rfl rfl,rGU⟩,⟨bbx,rGU⟩,rAA⟩
  refine sts ?_;exact zLN rfl rfl rfl rfl rfl (fun e he=>by simp at he; subst he; rfl)
open Go.Proofs Go.PI
theorem uDQ{h:Hp}{n r sz:Nat}{ag:Bool}{v:Int}(hr:h r=some ⟨[.int .i64 v],sz,ag⟩):frz h (n+4) (.ptr r 0 0)=some (.cptr (.int .i64 v) 0,[r]):=by
 show frz h (n+3+1) (.ptr r 0 0)=_
 unfold frz;simp only[hr,List.getElem?_cons_zero];rfl
theorem uDO{h:Hp}{m r q a sz sz2:Nat}{g1 g2:Bool}{n:NodeL}{L:List LemL}{K:List NodeL}{P:List MultL}(h1:h r=some ⟨L.map vBB,sz,g1⟩)(h2:h q=some ⟨K.map vBF,sz2,g2⟩)(ha:a=K.length) :
 frz h (m+4) (vHD n (.own r 0 L.length) (.own q 0 a) (.imm (P.map vBA)))=some (vA6 (.mk L n.split K n.empty P),[r,q]) :=
 zBY (zAD (zAH h1 rfl rfl (fun x=>zLU x)) (zAD (ks:=[]) rfl (zAD (ks:=[]) rfl (zAD (ks:=[]) rfl (zAD (ks:=[]) rfl (zAD (ks:=[]) rfl (zAD (zAH h2 rfl ha (fun x=>zFX x)) (zAD (ks:=[]) rfl (zAD (ks:=[]) rfl rfl)))))))))
abbrev uOW(p:Int)(r:Nat):PV:=.func (.func 139) [] [.ptr r 0 0,.cptr (.int .i64 p) 0]
theorem uBW:FO 104 Tryz.f104 [.cell 4 32,.tmp 5] 70:=mkO Tryz.func104 Tryz.ntmps104 Tryz.results104
theorem uJ3 (p:Int) (hp:vFX p) (h0:0<=p):∀ (sz:Nat) (n:NodeL),SizeOf.sizeOf n<sz->NodeRg n->Fn 104 [vA6 n,.int .i64 p] (.data (.tup [vA6 (vCV (vCY (-1) p) n),.bool (!onN n p)])):=by
 intro sz
 induction sz with
 | zero=>intro n h; omega
 | succ sz ih =>
   intro n hsz hn;have hln:=hn.ln;have hkn:=hn.kn;rw[zEU,vJQ];refine zAK vBC hT uBW zsm ?_;refine sus ?_;refine vBW [] [(2,.cptr (vA6 n) 0),(3,.cptr (.int .i64 p) 0),(4,.ptr 0 0 0)] [(0,⟨[.agg [.nilsl,.int .i64 0,.int .i64 0,.bool false,.nilsl,.nilsl,.nilsl,.bool false,.nilsl]],9,true⟩)] [] 1 zdd zsm trivial ?_ ?_
   .exact⟨[2],[0,1],[(2,.cptr (vA6 n) 0),(3,.cptr (.int .i64 p) 0)],[],⟨⟨⟨_,rfl⟩,⟨_,rfl⟩,rGU⟩,⟨⟨6,[0],zDE rfl,rfl⟩,⟨6,[1],uDQ rfl,rfl⟩,rGU⟩,rGU⟩,⟨zAG rfl,zAG rfl,apx,rGU⟩,
     ⟨bbx,rGU⟩,rAA⟩
   refine sus ?_
   (refine zA2 ?_; refine sus ?_)
   (refine zA2 ?_; refine sus ?_)
   refine vKZ (r:=1) (vQE n.proof p true hp h0 hn.prf) rfl rfl rfl rfl (fun e he=>by simp at he; subst he; rfl) zdd ?_;refine sus ?_
   (refine zA2 ?_; refine sus ?_)
   obtain⟨PF,hPF⟩:∃ PF,vBL (vCY (-1) p) n.proof=PF:=⟨_,rfl⟩;obtain⟨po,hpo⟩:∃ po,vDE n.proof p=po:=⟨_,rfl⟩;rw[hPF,hpo]
   refine vBW [] [(2,.cptr (vA6 n) 0),(3,.cptr (.int .i64 p) 0),(4,.ptr 0 0 0),(6,.ptr 1 0 0),(7,uOW p 1),(8,.ptr 2 0 0),(26,.imm (n.lemmas.map vBB)),(27,.int .i64 n.lemmas.length),(28,.int .i64 0)]
    [(0,⟨[.agg [.nilsl,.int .i64 0,.int .i64 0,.bool false,.nilsl,.nilsl,.nilsl,.bool false,.nilsl]],9,true⟩),(1,okB (!po)),(2,⟨[vHD n .nilsl .nilsl (.imm (PF.map vBA))],9,true⟩)] [] 3 zdd zsm trivial ?_ ?_
   .exact⟨[0,1,14],[],[],[],ttt,⟨zAG rfl,zAG rfl,apx,apx,zO7 zdd rfl rfl,apx,rAJ,zAC rfl zsm,rAI,rGU⟩,
     ⟨bbx,bbx,zAI zdd rfl (zB8 vL5 vL5 vRJ) rfl rfl,rGU⟩,rAA⟩
   refine sts ?_
   refine zCL hT [(.cl 2 0 0,6,true)] (fun(i:Nat)=>[(2,.cptr (vA6 n) 0),(3,.cptr (.int .i64 p) 0),(4,.ptr 0 0 0),(6,.ptr 1 0 0),(7,uOW p 1),(8,.ptr 2 0 0),(26,.imm (n.lemmas.map vBB)),(27,.int .i64 n.lemmas.length),(28,.int .i64 i)])
    (fun i=>[(0,⟨[.agg [.nilsl,.int .i64 0,.int .i64 0,.bool false,.nilsl,.nilsl,.nilsl,.bool false,.nilsl]],9,true⟩),(1,okB (!po && !(n.lemmas.take i).any fun m=>vDE m.proof p)),(2,⟨[vHD n (.own 3 0 i) .nilsl (.imm (PF.map vBA))],9,true⟩),(3,⟨((n.lemmas.take i).map (vC7 (vCY (-1) p))).map vBB,6,true⟩)]) [] 4
    (fun i=>i<=n.lemmas.length) (fun i=>n.lemmas.length - i) 0 (rA8 _) zdd zsm ⟨_,_,rfl,rfl,rfl,rGU⟩ ?_ ?_
   .exact⟨[0,1,2,_],[],[],[],ttt,⟨zAG rfl,zAG rfl,(apy rfl),(apy rfl),zO7 zdd rfl rfl,(apy rfl),zAE rfl rfl,zAC rfl rfl,zAC rfl rfl,rGU⟩,
     ⟨bbx,zEV zdd rfl zsm rfl rfl rfl,zAI zdd rfl (zB8 (zG8 zdd rfl rfl) vL5 vRJ) rfl rfl,zAF zdd rfl rfl (zFE _) rfl,rGU⟩,rAA⟩
   intro i hi;by_cases hi':i<n.lemmas.length
   .have hlm:n.lemmas[i]! ∈ n.lemmas:=zAY hi'
    have hlen:((n.lemmas.take i).map (vC7 (vCY (-1) p))).length=i:=by simp; omega
    have eany:(n.lemmas.take (i+1)).any (fun m=>vDE m.proof p)=((n.lemmas.take i).any (fun m=>vDE m.proof p) || vDE n.lemmas[i]!.proof p):=by
     rw[rA2 hi',rAT n.lemmas i hi',rF8]; simp
    have cr:=vQE n.lemmas[i]!.proof p (!po && !(n.lemmas.take i).any fun m=>vDE m.proof p) hp h0 (hn.lem _ hlm)
    refine gob ?_ ?_<;>intro h
    .refine vKZ (r:=1) cr rfl rfl rfl rfl (fun e he=>by simp at he; subst he; rfl) zdd ?_
     refine sts ?_
     refine⟨i+1,⟨zom,zom⟩,[0,1,2,_],[],[],[],ttt,⟨zAG rfl,zAG rfl,(apy rfl),(apy rfl),zO7 zdd rfl rfl,(apy rfl),zAE rfl rfl,zAC rfl rfl,zAC rfl zom,rGU⟩,
      ⟨bbx,zEV zdd rfl (by rw[eany,Bool.not_or,Bool.and_assoc]) rfl rfl rfl,zAI zdd rfl (zB8 (zG8 zdd rfl rfl) vL5 vRJ) rfl rfl,zAF zdd rfl ?_ (zFE _) rfl,rGU⟩,rAA⟩
     rw[<- zJ8 hi',rBD];rfl
    all_goals (exfalso; omega)
   .obtain rfl:i=n.lemmas.length:=by omega
    obtain⟨LM,hLM⟩:∃ LM,n.lemmas.map (vC7 (vCY (-1) p))=LM:=⟨_,rfl⟩;have hll:LM.length=n.lemmas.length:=by rw[<- hLM]; simp
    obtain⟨pl,hpl⟩:∃ pl,(n.lemmas.any fun m=>vDE m.proof p)=pl:=⟨_,rfl⟩;rw[rBW,hLM,hpl,<- hll]
    refine gob ?_ ?_<;>intro h
    all_goals try (exfalso; omega)
    refine zCL hT [(.cl 2 0 6,9,true)] (fun(i:Nat)=>[(2,.cptr (vA6 n) 0),(3,.cptr (.int .i64 p) 0),(4,.ptr 0 0 0),(6,.ptr 1 0 0),(7,uOW p 1),(8,.ptr 2 0 0),(45,.imm (n.kids.map vBF)),(46,.int .i64 n.kids.length),(47,.int .i64 i)])
     (fun i=>[(0,⟨[.agg [.nilsl,.int .i64 0,.int .i64 0,.bool false,.nilsl,.nilsl,.nilsl,.bool false,.nilsl]],9,true⟩),(1,okB (!po && !pl && !(n.kids.take i).any fun m=>onN m p)),(2,⟨[vHD n (.own 3 0 LM.length) (.own 4 0 i) (.imm (PF.map vBA))],9,true⟩),(3,⟨LM.map vBB,6,true⟩),(4,⟨((n.kids.take i).map (vCV (vCY (-1) p))).map vBF,9,true⟩)]) [] 5
     (fun i=>i<=n.kids.length) (fun i=>n.kids.length - i) 0 (rA8 _) zdd zsm ⟨_,_,rfl,rfl,rfl,rGU⟩ ?_ ?_
    .exact⟨[0,1,2,3,_],[],[],[],ttt,⟨zAG rfl,zAG rfl,(apy rfl),(apy rfl),zO7 zdd rfl rfl,(apy rfl),zAE rfl rfl,zAC rfl zsm,zAC rfl rfl,rGU⟩,
      ⟨bbx,zEV zdd rfl zsm rfl rfl rfl,zAI zdd rfl (zB8 (zG8 zdd rfl rfl) (zG8 zdd rfl rfl) vRJ) rfl rfl,zAF zdd rfl rfl (zFE _) rfl,zAF zdd rfl rfl (zF1 _) rfl,rGU⟩,rAA⟩
    intro i hi;by_cases hi':i<n.kids.length
    .have hkm:n.kids[i]! ∈ n.kids:=zAY hi'
     have hlen:((n.kids.take i).map (vCV (vCY (-1) p))).length=i:=by simp; omega
     have eany:(n.kids.take (i+1)).any (fun m=>onN m p)=((n.kids.take i).any (fun m=>onN m p) || onN n.kids[i]! p):=by
      rw[rA2 hi',rAT n.kids i hi',rF8]; simp
     have ck:=ih n.kids[i]! (by have:=NodeL.sizeOf_kid hkm; omega) (hn.kid _ hkm)
     refine gon ?_ ?_<;>intro h
     .refine zAA ck rfl ?_
      refine gon ?_ ?_<;>intro h
      all_goals
       refine⟨i+1,⟨zom,zom⟩,[0,1,2,3,_],[],[],[],ttt,⟨zAG rfl,zAG rfl,(apy rfl),(apy rfl),zO7 zdd rfl rfl,(apy rfl),zAE rfl rfl,zAC rfl rfl,zAC rfl zom,rGU⟩,
        ⟨bbx,zEV zdd rfl (by rw[eany]; revert h; cases po<;>cases pl<;>cases ((n.kids.take i).any fun m=>onN m p)<;>simp) rfl rfl rfl,zAI zdd rfl (zB8 (zG8 zdd rfl rfl) (zG8 zdd rfl rfl) vRJ) rfl rfl,zAF zdd rfl rfl (zFE _) rfl,zAF zdd rfl ?_ (zF1 _) rfl,rGU⟩,rAA⟩
       rw[<- zJ8 hi',rBD];show _++[vA6 _]=_++[vBF _]
       rw[zBM]
     all_goals (exfalso; omega)
    .obtain rfl:i=n.kids.length:=by omega
     obtain⟨KD,hKD⟩:∃ KD,n.kids.map (vCV (vCY (-1) p))=KD:=⟨_,rfl⟩;have hkl:KD.length=n.kids.length:=by rw[<- hKD]; simp
     obtain⟨pk,hpk⟩:∃ pk,(n.kids.any fun m=>onN m p)=pk:=⟨_,rfl⟩;rw[rBW,hKD,hpk];refine sus ?_;refine zA2 ?_; (repeat' (first|refine stu ?_|with_reducible(refine brr ?_ ?_<;>intro h)));all_goals try(conv=>whnf)
     .exfalso; omega
     refine vBW [] [(4,.ptr 0 0 0),(6,.ptr 1 0 0),(8,.ptr 2 0 0)] [(0,⟨[.agg [.nilsl,.int .i64 0,.int .i64 0,.bool false,.nilsl,.nilsl,.nilsl,.bool false,.nilsl]],9,true⟩),(1,okB (!po && !pl && !pk)),(2,⟨[vA6 (.mk LM n.split KD n.empty PF)],9,true⟩)] [] 3 zdd zsm trivial ?_ ?_
     .exact⟨[0,1,2],[3,4],[],[(2,[vA6 (.mk LM n.split KD n.empty PF)])],⟨⟨⟨_,rfl⟩,⟨_,rfl⟩,rGU⟩,rGU,⟨⟨_,6,[3,4],rfl,zAD (ks:=[3,4]) (ls:=[]) (uDO rfl rfl hkl.symm) rfl,rfl⟩,rGU⟩⟩,⟨apx,apx,apx,rGU⟩,
       ⟨bbx,bbx,bbx,rGU⟩,rAA⟩
     refine sns ?_;refine zAB rfl (rA3 (fun b=>PV.tup [vA6 (.mk LM n.split KD n.empty PF),.bool b]) ?_);cases po<;>cases pl<;>cases pk<;>rfl
def vB4(n:NodeL)(i:Nat)(p:Int):NodeL:=.mk (n.lemmas++(vCV (vCY (-1) p) n.kids[i]!).lemmas) (vCV (vCY (-1) p) n.kids[i]!).split (vCV (vCY (-1) p) n.kids[i]!).kids (vCV (vCY (-1) p) n.kids[i]!).empty (vCV (vCY (-1) p) n.kids[i]!).proof
theorem uIH:FO 71 Tryz.f71 [.cell 6 32,.tmp 7] 29:=mkO Tryz.func71 Tryz.ntmps71 Tryz.results71
theorem uNP(n:NodeL)(i:Nat)(p:Int)(hp:vFX p)(h0:0<=p)(hn:NodeRg n)(hi:i<n.kids.length):Fn 71 [vA6 n,.int .i64 i,.int .i64 p] (.data (.tup [vA6 (vB4 n i p),.bool (!onN n.kids[i]! p)])):=by
 have hln:=hn.ln;have hkn:=hn.kn;have hkm:n.kids[i]! ∈ n.kids:=zAY hi;have cs:=uJ3 p hp h0 _ n.kids[i]! (rAL _) (hn.kid _ hkm);have cc:=vS7 vBB (fun h n x=>zLU x) (fun x=>⟨rfl,rfl⟩) n.lemmas hln
 have hkl:(vCV (vCY (-1) p) n.kids[i]!).lemmas.length<2097152:=by
  rw[zEU];show((n.kids[i]!).lemmas.map _).length<_
  rw[rAM];exact(hn.kid _ hkm).ln
 refine zAK vBC hT uIH zsm ?_;unfold vB4;generalize vCV (vCY (-1) p) n.kids[i]! = K at *
 refine sns ?_
 .refine zAA cs rfl ?_
  refine sns ?_;refine zA5 cc rfl ?_;refine sns ?_;exact zAB (zKF (zAD (zBY (zAD (zAH (f:=vBB) (l:=n.lemmas++K.lemmas) rfl (by rw[rBD]) zsm (fun x=>zLU x)) rfl)) rfl)) rfl
 all_goals (exfalso; omega)
end Go.PI.Tryz
