/-
  The program's shift and lift.
-/
import Derived.Test.YtbelmkceegmdjaaGreatDoorKTM
set_option linter.unusedVariables false
set_option linter.unusedSimpArgs false
set_option linter.unnecessarySimpa false
set_option maxHeartbeats 0
namespace Go.PI.Tryz
open Go.Proofs Go.PI
def vCM(K D:Int)(r:RowL):RowL:=⟨r.kind,if 0<=D/\r.kind=4 then vDP r.index D else r.index,if 0<=K then vDP r.lo (K+1) else r.lo,if 0<=K then vDP r.hi (K+1) else r.hi⟩
theorem uEN{K:Int}(h:0<=K):vCM K (-1)=vTM K:=by
 funext r
 unfold vCM vTM;rw[rAM zom,rAU h,rAU h]
abbrev vEW(K D:Int):PV:=.agg [.int .i64 K,.int .i64 D]
def vFS(K:Int):Prop:=-1<=K/\K<4611686018427387904
theorem vXD:FO 150 Tryz.f150 [.tmp 4] 11:=mkO Tryz.func150 Tryz.ntmps150 Tryz.results150
theorem zNA(n t:Int)(h1:-9223372036854775808<=n)(h2:n<9223372036854775808)(ht:0<=t):Fn 150 [.int .i64 n,.int .i64 t] (.data (.int .i64 (vDP n t))):=by
 refine zAL vBC hT vXD zsm ?_
 refine gob ?_ ?_<;>intro h
 .exact zAB rfl (by unfold vDP; rw[rAU rAC])
 .exact zAB rfl (by unfold vDP; rw[rAM rAC])
theorem vXJ:FO 122 Tryz.f122 [.cell 4 70] 37:=mkO Tryz.func122 Tryz.ntmps122 Tryz.results122
theorem uE8(K D:Int)(r:RowL)(hK:vFS K)(hD:vFS D)(hr:vL0 r)(hi:vSZ r):Fn 122 [vEW K D,vBI r] (.data (vBI (vCM K D r))):=by
 obtain⟨k1,k2⟩:=hK;obtain⟨d1,d2⟩:=hD;have e1:∀ {v:Int},0<=K->(if 0<=K then vDP v (K+1) else v)=vDP v (K+1):=fun h=>rAU h
 have e2:∀ {v:Int},¬ 0<=K->(if 0<=K then vDP v (K+1) else v)=v:=fun h=>rAM h
 refine zAL vBC hT vXJ zsm ?_;by_cases hk:0<=K
 .have c1:=zNA r.lo (K+1) hr.1.1 hr.1.2 zom
  have c2:=zNA r.hi (K+1) hr.2.1 hr.2.2 zom;by_cases hd:0<=D
  .have c3:=zNA r.index D hi.1 hi.2 hd
   (repeat' (first|refine stp ?_|with_reducible(refine brr ?_ ?_<;>intro h)));all_goals try(conv=>whnf)
   all_goals try (exfalso; omega)
   refine zAA c1 rfl ?_;refine sts ?_;refine zAA c2 rfl ?_
   (repeat' (first|refine stp ?_|with_reducible(refine brr ?_ ?_<;>intro h)));all_goals try(conv=>whnf)
   all_goals try (exfalso; omega)
   .refine zAA c3 rfl ?_
    refine sts ?_;refine zAB rfl ?_;unfold vCM;simp only[vBI];rw[e1 hk,e1 hk,rAU ⟨hd,rAC⟩]
   .refine zAB rfl ?_
    unfold vCM;simp only[vBI];rw[e1 hk,e1 hk,rAM (fun h=>by simp_all)]
  ·(repeat' (first|refine stp ?_|with_reducible(refine brr ?_ ?_<;>intro h)));all_goals try(conv=>whnf)
   all_goals try (exfalso; omega)
   refine zAA c1 rfl ?_;refine sts ?_;refine zAA c2 rfl ?_
   (repeat' (first|refine stp ?_|with_reducible(refine brr ?_ ?_<;>intro h)));all_goals try(conv=>whnf)
   all_goals try (exfalso; omega)
   refine zAB rfl ?_;unfold vCM;simp only[vBI];rw[e1 hk,e1 hk,rAM (fun h=>hd h.1)]
 .by_cases hd:0<=D
  .have c3:=zNA r.index D hi.1 hi.2 hd
   (repeat' (first|refine stp ?_|with_reducible(refine brr ?_ ?_<;>intro h)));all_goals try(conv=>whnf)
   all_goals try (exfalso; omega)
   .refine zAA c3 rfl ?_
    refine sts ?_;refine zAB rfl ?_;unfold vCM;simp only[vBI];rw[e2 hk,e2 hk,rAU ⟨hd,rAC⟩]
   .refine zAB rfl ?_
    unfold vCM;simp only[vBI];rw[e2 hk,e2 hk,rAM (fun h=>by simp_all)]
  ·(repeat' (first|refine stp ?_|with_reducible(refine brr ?_ ?_<;>intro h)));all_goals try(conv=>whnf)
   all_goals try (exfalso; omega)
   refine zAB rfl ?_;unfold vCM;simp only[vBI];rw[e2 hk,e2 hk,rAM (fun h=>hd h.1)]
theorem vMV:FO 88 Tryz.f88 [.tmp 4] 30:=mkO Tryz.func88 Tryz.ntmps88 Tryz.results88
theorem zP4(K D:Int)(l:List MultL)(hK:vFS K)(hD:vFS D)(hl:vCX l):Fn 88 [vEW K D,.imm (l.map vBB)] (.fresh ((vBL (vCM K D) l).map vBB) 7 true):=by
 have hln:=hl.1;refine zEJ vBC hT vMV zsm ?_;refine sts ?_
 refine zCK hT [(.sl 5,7,true)] (fun(i:Nat)=>[(1,.imm (l.map vBB)),(2,.ptr 0 0 0),(5,.own 1 0 i),(6,.int .i64 i)]) (fun i=>[(0,⟨[vEW K D],2,true⟩),(1,⟨(vBL (vCM K D) (l.take i)).map vBB,7,true⟩)]) [] 2
  (fun i=>i<=l.length) (fun i=>l.length - i) 0 (rA7 _) zdd zsm ⟨rfl,rGU⟩ ?_ ?_
 .exact⟨[0,_],[],[],[],ttt,⟨zAE rfl rfl,(apy rfl),zA3 zdd rfl rfl,zAC rfl rfl,rGU⟩,⟨bbx,zAF zdd rfl rfl (zCQ _) rfl,rGU⟩,rAA⟩
 intro i hi;have hlen:(vBL (vCM K D) (l.take i)).length=i:=by simp[vBL]; omega
 by_cases h0:i<l.length
 .have hm:=hl.2 _ (zA2 h0)
  have c1:=uE8 K D l[i]!.row hK hD hm.1 hm.2
  refine gob ?_ ?_<;>intro h
  .refine zAA c1 rfl ?_
   refine sts ?_;exact⟨i+1,⟨zom,by show l.length - (i+1)<l.length - i; omega⟩,[0,_],[],[],[],ttt,⟨zAE rfl rfl,(apy rfl),zA3 zdd rfl rfl,zAC rfl zom,rGU⟩,⟨bbx,zAF zdd rfl (zLC h0) (zCQ _) rfl,rGU⟩,rAA⟩
  all_goals (exfalso; omega)
 .obtain rfl:i=l.length:=by omega
  rw[rBW]
  refine gob ?_ ?_<;>intro h
  all_goals try (exfalso; omega)
  refine zBL rfl rfl (by simp[vBL]) rfl (zD7 (fun x=>zKG x) _)
theorem uD9{h:Hp}{m r q p la a pa sz sz2 sz3:Nat}{g1 g2 g3:Bool}{n:NodeL}{L:List LemL}{K:List NodeL}{P:List MultL}(h1:h r=some ⟨L.map vBA,sz,g1⟩)(h2:h q=some ⟨K.map vBF,sz2,g2⟩)(h3:h p=some ⟨P.map vBB,sz3,g3⟩)(hl:la=L.length)(ha:a=K.length)(hp:pa=P.length) :
 frz h (m+4) (vHC n (.own r 0 la) (.own q 0 a) (.own p 0 pa))=some (vA7 (.mk L n.split K n.empty P),[r,q,p]):=by
 subst hl hp;exact vYK h1 h2 h3 ha
theorem vQA(f:RowL->RowL):∀ ks:List NodeL,vF4 f ks=ks.map (vCO f)
 | []=>rfl
 | k::ks=>by simp only[vF4,rBM,vQA f ks]
theorem zEV(f:RowL->RowL)(n:NodeL):vCO f n=.mk (n.lemmas.map (vC1 f)) n.split (n.kids.map (vCO f)) n.empty (vBL f n.proof):=by
 cases n
 rw[<- vQA];rfl
theorem zJ9{α β:Type}[Inhabited α]{f:α->β}{l:List α}{i:Nat}(h:i<l.length):(l.take i).map f++[f l[i]!]=(l.take (i+1)).map f:=by
 rw[rA2 h,rAT l i h,rBE]; rfl
theorem vSL:FO 49 Tryz.f49 [.cell 4 32] 61:=mkO Tryz.func49 Tryz.ntmps49 Tryz.results49
theorem vK4(K D:Int)(hK:vFS K)(hD:vFS D):∀ (sz:Nat) (n:NodeL),SizeOf.sizeOf n<sz->NodeRg n->Fn 49 [vEW K D,vA7 n] (.data (vA7 (vCO (vCM K D) n))):=by
 intro sz
 induction sz with
 | zero=>intro n h; omega
 | succ sz ih =>
   intro n hsz hn;have hln:=hn.ln;have hkn:=hn.kn;have cp:=zP4 K D n.proof hK hD hn.prf;obtain⟨PF,hPF⟩:∃ PF,vBL (vCM K D) n.proof=PF:=⟨_,rfl⟩;rw[zEV,hPF];rw[hPF]at cp;refine zAL vBC hT vSL zsm ?_;refine sus ?_
   (refine zA0 ?_; refine sus ?_)
   refine zBB cp rfl ?_;refine sus ?_;refine vBV [] [(2,.cptr (vEW K D) 0),(3,.cptr (vA7 n) 0),(4,.ptr 0 0 0),(5,.ptr 1 0 0)] [(0,⟨[.agg [.nilsl,.int .i64 0,.int .i64 0,.bool false,.nilsl,.nilsl,.nilsl,.bool false,.nilsl]],9,true⟩),(1,⟨[vHC n .nilsl .nilsl (.own 2 0 PF.length)],9,true⟩),(2,⟨PF.map vBB,7,true⟩)] [] 3 zdd zsm trivial ?_ ?_
   .exact⟨[2,12,10],[0,1],[(2,.cptr (vEW K D) 0),(3,.cptr (vA7 n) 0)],[],⟨⟨⟨_,rfl⟩,⟨_,rfl⟩,rGU⟩,⟨⟨6,[0],rfl,rfl⟩,⟨6,[1],zDE rfl,rfl⟩,rGU⟩,rGU⟩,⟨zAG rfl,zAG rfl,apx,apx,rGU⟩,
     ⟨bbx,zAH zdd rfl (zB7 vL1 vL1 (zHA zdd rfl zsm)) rfl rfl,zAF zdd rfl rfl (zCQ _) rfl,rGU⟩,rAA⟩
   refine sts ?_
   refine zCK hT [(.cl 1 0 0,6,true)] (fun(i:Nat)=>[(2,.cptr (vEW K D) 0),(3,.cptr (vA7 n) 0),(4,.ptr 0 0 0),(5,.ptr 1 0 0),(6,.int .i64 i)])
    (fun i=>[(0,⟨[.agg [.nilsl,.int .i64 0,.int .i64 0,.bool false,.nilsl,.nilsl,.nilsl,.bool false,.nilsl]],9,true⟩),(1,⟨[vHC n (.own 3 0 i) .nilsl (.own 2 0 PF.length)],9,true⟩),(2,⟨PF.map vBB,7,true⟩),(3,⟨((n.lemmas.take i).map (vC1 (vCM K D))).map vBA,6,true⟩)]) [] 4
    (fun i=>i<=n.lemmas.length) (fun i=>n.lemmas.length - i) 0 (rA7 _) zdd zsm ⟨_,_,rfl,rfl,rfl,rGU⟩ ?_ ?_
   .exact⟨[0,1,2,_],[],[],[],ttt,⟨zAG rfl,zAG rfl,(apy rfl),(apy rfl),zAC rfl rfl,rGU⟩,
     ⟨bbx,zAH zdd rfl (zB7 (zHA zdd rfl rfl) vL1 (zHA zdd rfl rfl)) rfl rfl,zAF zdd rfl rfl (zCQ _) rfl,zAF zdd rfl rfl (zFF _) rfl,rGU⟩,rAA⟩
   intro i hi;by_cases hi':i<n.lemmas.length
   .have hlm:n.lemmas[i]! ∈ n.lemmas:=zA2 hi'
    have hlI:((n.lemmas.take i).map (vC1 (vCM K D))).length=i:=by simp; omega
    have cl:=zP4 K D n.lemmas[i]!.proof hK hD (hn.lem _ hlm);refine sus ?_;refine zA0 ?_; (repeat' (first|refine stu ?_|with_reducible(refine brr ?_ ?_<;>intro h)));all_goals try(conv=>whnf)
    ·(refine zA0 ?_; refine sus ?_)
     (refine zA0 ?_; refine sus ?_)
     refine zBB cl rfl ?_;refine sus ?_
     refine vBV [] [(2,.cptr (vEW K D) 0),(3,.cptr (vA7 n) 0),(4,.ptr 0 0 0),(5,.ptr 1 0 0),(6,.int .i64 i),(7,.ptr 4 0 0)]
      [(0,⟨[.agg [.nilsl,.int .i64 0,.int .i64 0,.bool false,.nilsl,.nilsl,.nilsl,.bool false,.nilsl]],9,true⟩),(1,⟨[vHC n (.own 3 0 i) .nilsl (.own 2 0 PF.length)],9,true⟩),(2,⟨PF.map vBB,7,true⟩),(3,⟨((n.lemmas.take i).map (vC1 (vCM K D))).map vBA,6,true⟩),(4,⟨[vBA (vC1 (vCM K D) n.lemmas[i]!)],6,true⟩)] [] 5 zdd zsm trivial ?_ ?_
     .exact⟨[0,1,2,3,14],[19],[],[(14,[vBA (vC1 (vCM K D) n.lemmas[i]!)])],⟨⟨⟨_,rfl⟩,rGU⟩,rGU,⟨⟨_,6,[19],rfl,zAD (ks:=[19]) (ls:=[]) (vPY rfl (rAN _)) rfl,rfl⟩,rGU⟩⟩,⟨zAG rfl,zAG rfl,apx,apx,zAC rfl rfl,apx,rGU⟩,
       ⟨bbx,zAH zdd rfl (zB7 (zHA zdd rfl rfl) vL1 (zHA zdd rfl rfl)) rfl rfl,zAF zdd rfl rfl (zCQ _) rfl,zAF zdd rfl rfl (zFF _) rfl,bbx,rGU⟩,rAA⟩
     refine sts ?_
     exact⟨i+1,⟨zom,zom⟩,[0,1,2,_],[],[],[],ttt,⟨zAG rfl,zAG rfl,(apy rfl),(apy rfl),zAC rfl zom,rGU⟩,
      ⟨bbx,zAH zdd rfl (zB7 (zHA zdd rfl rfl) vL1 (zHA zdd rfl rfl)) rfl rfl,zAF zdd rfl rfl (zCQ _) rfl,zAF zdd rfl (by rw[<- zJ9 hi',rBE]; rfl) (zFF _) rfl,rGU⟩,rAA⟩
    .exfalso; omega
   .obtain rfl:i=n.lemmas.length:=by omega
    rw[rBW];obtain⟨LM,hLM⟩:∃ LM,n.lemmas.map (vC1 (vCM K D))=LM:=⟨_,rfl⟩;have hLl:LM.length=n.lemmas.length:=by rw[<- hLM]; simp
    rw[hLM]
    refine gob ?_ ?_<;>intro h
    all_goals try (exfalso; omega)
    refine zCK hT [(.cl 1 0 6,9,true)] (fun(i:Nat)=>[(2,.cptr (vEW K D) 0),(3,.cptr (vA7 n) 0),(4,.ptr 0 0 0),(5,.ptr 1 0 0),(8,.int .i64 i)])
     (fun i=>[(0,⟨[.agg [.nilsl,.int .i64 0,.int .i64 0,.bool false,.nilsl,.nilsl,.nilsl,.bool false,.nilsl]],9,true⟩),(1,⟨[vHC n (.own 3 0 n.lemmas.length) (.own 4 0 i) (.own 2 0 PF.length)],9,true⟩),(2,⟨PF.map vBB,7,true⟩),(3,⟨LM.map vBA,6,true⟩),(4,⟨((n.kids.take i).map (vCO (vCM K D))).map vBF,9,true⟩)]) [] 5
     (fun i=>i<=n.kids.length) (fun i=>n.kids.length - i) 0 (rA7 _) zdd zsm ⟨_,_,rfl,rfl,rfl,rGU⟩ ?_ ?_
    .exact⟨[0,1,2,3,_],[],[],[],ttt,⟨zAG rfl,zAG rfl,(apy rfl),(apy rfl),zAC rfl rfl,rGU⟩,
      ⟨bbx,zAH zdd rfl (zB7 (zHA zdd rfl rfl) (zHA zdd rfl rfl) (zHA zdd rfl rfl)) rfl rfl,zAF zdd rfl rfl (zCQ _) rfl,zAF zdd rfl rfl (zFF _) rfl,zAF zdd rfl rfl (zF4 _) rfl,rGU⟩,rAA⟩
    intro i hi;by_cases hi':i<n.kids.length
    .have hkm:n.kids[i]! ∈ n.kids:=zA2 hi'
     have hkl:((n.kids.take i).map (vCO (vCM K D))).length=i:=by simp; omega
     have ck:=ih n.kids[i]! (by have:=NodeL.sizeOf_kid hkm; omega) (hn.kid _ hkm)
     refine gon ?_ ?_<;>intro h
     .refine zAA ck rfl ?_
      refine sns ?_
      refine⟨i+1,⟨zom,zom⟩,[0,1,2,3,_],[],[],[],ttt,⟨zAG rfl,zAG rfl,(apy rfl),(apy rfl),zAC rfl zom,rGU⟩,
       ⟨bbx,zAH zdd rfl (zB7 (zHA zdd rfl rfl) (zHA zdd rfl rfl) (zHA zdd rfl rfl)) rfl rfl,zAF zdd rfl rfl (zCQ _) rfl,zAF zdd rfl rfl (zFF _) rfl,zAF zdd rfl ?_ (zF4 _) rfl,rGU⟩,rAA⟩
      rw[<- zJ9 hi',rBE];show _++[vA7 _]=_++[vBF _]
      rw[zBR]
     all_goals (exfalso; omega)
    .obtain rfl:i=n.kids.length:=by omega
     rw[rBW];have hkl:(n.kids.map (vCO (vCM K D))).length=n.kids.length:=by simp
     obtain⟨KD,hKD⟩:∃ KD,n.kids.map (vCO (vCM K D))=KD:=⟨_,rfl⟩;rw[hKD]at hkl ⊢
     refine gon ?_ ?_<;>intro h
     all_goals try (exfalso; omega)
     exact zAB (uD9 (m:=0) (n:=n) rfl rfl rfl hLl.symm hkl.symm rfl) rfl
def uL1(r:RowL)(k:Int):Prop:=r.lo=k+1\/r.hi=k+1
theorem vIU{l:List MultL}{k:Int}{i:Nat}(h:i<l.length)(hu:uL1 l[i]!.row k):vFO l k=true:=by
 unfold vFO;rw[rCY];exact⟨_,zA2 h,by simpa [uL1]using hu⟩
theorem vT2{l:List MultL}{k:Int}(h:∀ j,j<l.length->¬ uL1 l[j]!.row k):vFO l k=false:=by
 unfold vFO;rw[rC8];intro m hm;obtain⟨j,hj,rfl⟩:=rA8 hm;have:=h j hj;rw[rAT l j hj]at this
 simpa [uL1]using this
theorem vWA:FO 92 Tryz.f92 [.tmp 4] 32:=mkO Tryz.func92 Tryz.ntmps92 Tryz.results92
theorem vQE(l:List MultL)(k:Int)(hl:vCX l)(h1:0<=k)(h2:k<4611686018427387904):Fn 92 [.imm (l.map vBB),.int .i64 k] (.data (.bool (vFO l k))):=by
 have hln:=hl.1;refine zAL vBC hT vWA zsm ?_;refine sts ?_;refine zA4 hT (fun i:Nat=>[(0,.imm (l.map vBB)),(1,.int .i64 k),(5,.int .i64 i)]) (fun i=>i<=l.length/\∀ j,j<i->¬ uL1 l[j]!.row k) (fun i=>l.length - i) 0 ⟨rA7 _,fun j hj=>by omega⟩ ⟨rAJ,rAI,rAI,rGU⟩ ?_;intro i ⟨hi,hno⟩;by_cases h0:i<l.length
 ·(repeat' (first|refine stp ?_|with_reducible(refine brr ?_ ?_<;>intro h)));all_goals try(conv=>whnf)
  .exact zAB rfl (rA3 PV.bool (vIU h0 (rAW rAC)).symm)
  .exact zAB rfl (rA3 PV.bool (vIU h0 (rA0 rAC)).symm)
  .refine⟨i+1,⟨⟨zom,fun j hj=>?_⟩,zom⟩,rAJ,rAI,zAC rfl zom,rGU⟩
   rcases rB7 (rCA hj) with h | rfl
   .exact hno j h
   .rintro(h | h)<;>simp_all
  all_goals (exfalso; omega)
 .obtain rfl:i=l.length:=by omega
  (repeat' (first|refine stp ?_|with_reducible(refine brr ?_ ?_<;>intro h)));all_goals try(conv=>whnf)
  all_goals try (exfalso; omega)
  exact zAB rfl (rA3 PV.bool (vT2 hno).symm)
theorem vIS(k:Int):∀ ks:List NodeL,vFN ks k=ks.any (fun n=>vDX n k)
 | []=>rfl
 | n::ks=>by simp only[vFN,List.any_cons,vIS k ks]
theorem vGI(n:NodeL)(k:Int):vDX n k=(n.lemmas.any (fun m=>vFO m.proof k) || n.kids.any (fun n=>vDX n k) || vFO n.proof k):=by
 cases n
 simp only[vDX,vIS];rfl
theorem zK4{α:Type}[Inhabited α]{f:α->Bool}{l:List α}(h:∀ j,j<l.length->f l[j]! = false):l.any f=false:=by
 rw[rC8];intro m hm;obtain⟨j,hj,rfl⟩:=rA8 hm;have:=h j hj;rw[rAT l j hj]at this;simp[this]
theorem any_some{α:Type}[Inhabited α]{f:α->Bool}{l:List α}{i:Nat}(h:i<l.length)(hf:f l[i]! = true):l.any f=true:=rCY.2 ⟨_,zA2 h,hf⟩
theorem vWB:FO 58 Tryz.f58 [.tmp 4] 40:=mkO Tryz.func58 Tryz.ntmps58 Tryz.results58
theorem uEP (k:Int) (h1:0<=k) (h2:k<4611686018427387904):∀ (sz:Nat) (n:NodeL),SizeOf.sizeOf n<sz->NodeRg n->Fn 58 [vA7 n,.int .i64 k] (.data (.bool (vDX n k))):=by
 intro sz
 induction sz with
 | zero=>intro n h; omega
 | succ sz ih =>
   intro n hsz hn;have hln:=hn.ln;have hkn:=hn.kn;have cp:=vQE n.proof k hn.prf h1 h2;refine zAL vBC hT vWB zsm ?_;refine sns ?_;refine zAN hT (fun i:Nat=>[(1,.int .i64 k),(2,.cptr (vA7 n) 0),(5,.int .i64 i)]) (fun _=>[]) [] 0 (fun i=>i<=n.lemmas.length/\∀ j,j<i->vFO n.lemmas[j]!.proof k=false) (fun i=>n.lemmas.length - i) 0 ⟨rA7 _,fun j hj=>by omega⟩ zdd zsm ?_ ?_
   .exact⟨[],[0],[(2,.cptr (vA7 n) 0)],[],⟨⟨⟨_,rfl⟩,rGU⟩,⟨⟨6,[0],zDE rfl,rfl⟩,rGU⟩,rGU⟩,⟨zAC rfl rfl,zAG rfl,zAC rfl rfl,rGU⟩,rGU,rAA⟩
   intro i ⟨hi,hno⟩;by_cases h0:i<n.lemmas.length
   .have hlm:n.lemmas[i]! ∈ n.lemmas:=zA2 h0
    have cu:=vQE n.lemmas[i]!.proof k (hn.lem _ hlm) h1 h2
    refine gon ?_ ?_<;>intro h
    .refine zAA cu rfl ?_
     refine gon ?_ ?_<;>intro h
     .refine zAB rfl (rA3 PV.bool ?_)
      rw[vGI,any_some (f:=fun m=>vFO m.proof k) h0 rAC];rfl
     .refine⟨i+1,⟨⟨zom,fun j hj=>?_⟩,by show n.lemmas.length - (i+1)<n.lemmas.length - i; omega⟩,[],[],[],[],ttt,⟨rAI,zAG rfl,zAC rfl zom,rGU⟩,rGU,rAA⟩
      rcases rB7 (rCA hj) with h | rfl
      .exact hno j h
      .assumption
    all_goals (exfalso; omega)
   .obtain rfl:i=n.lemmas.length:=by omega
    have e1:n.lemmas.any (fun m=>vFO m.proof k)=false:=zK4 hno
    refine gon ?_ ?_<;>intro h
    all_goals try (exfalso; omega)
    refine zAN hT (fun i:Nat=>[(1,.int .i64 k),(2,.cptr (vA7 n) 0),(6,.int .i64 i)]) (fun _=>[]) [] 0 (fun i=>i<=n.kids.length/\∀ j,j<i->vDX n.kids[j]! k=false) (fun i=>n.kids.length - i) 0 ⟨rA7 _,fun j hj=>by omega⟩ zdd zsm ?_ ?_
    .exact⟨[],[],[],[],ttt,⟨rAI,zAG rfl,rAI,rGU⟩,rGU,rAA⟩
    intro i ⟨hi,hno2⟩;by_cases h0:i<n.kids.length
    .have hkm:n.kids[i]! ∈ n.kids:=zA2 h0
     have cu:=ih n.kids[i]! (by have:=NodeL.sizeOf_kid hkm; omega) (hn.kid _ hkm)
     refine gon ?_ ?_<;>intro h
     .refine zAA cu rfl ?_
      refine gon ?_ ?_<;>intro h
      .refine zAB rfl (rA3 PV.bool ?_)
       rw[vGI,any_some (f:=fun m=>vDX m k) h0 rAC]
       simp
      .refine⟨i+1,⟨⟨zom,fun j hj=>?_⟩,by show n.kids.length - (i+1)<n.kids.length - i; omega⟩,[],[],[],[],ttt,⟨rAI,zAG rfl,zAC rfl zom,rGU⟩,rGU,rAA⟩
       rcases rB7 (rCA hj) with h | rfl
       .exact hno2 j h
       .assumption
     all_goals (exfalso; omega)
    .obtain rfl:i=n.kids.length:=by omega
     have e2:n.kids.any (fun m=>vDX m k)=false:=zK4 hno2
     refine gon ?_ ?_<;>intro h
     all_goals try (exfalso; omega)
     refine zAA cp rfl ?_;refine sns ?_;refine zAB rfl (rA3 PV.bool ?_);rw[vGI,e1,e2];rfl
def vGC(n:NodeL)(i:Nat):NodeL:=.mk (n.lemmas.take i++n.lemmas.drop (i+1)) n.split n.kids n.empty n.proof
theorem vJS:FO 59 Tryz.f59 [.cell 6 32] 24:=mkO Tryz.func59 Tryz.ntmps59 Tryz.results59
theorem vNI(n:NodeL)(i:Nat)(k:Int)(hi:i<n.lemmas.length)(h1:0<=k)(h2:k<4611686018427387904)(hn:NodeRg n):Fn 59 [vA7 n,.int .i64 i,.int .i64 k] (.data (vA7 (vCO (vTM k) (vGC n i)))):=by
 have hln:=hn.ln
 have hd:NodeRg (vGC n i):=⟨_,by show(n.lemmas.take i++n.lemmas.drop (i+1)).length<_; simp; omega,fun m hm=>by
  rcases rAX.1 (show m∈n.lemmas.take i++n.lemmas.drop (i+1) from hm) with h | h
  .exact hn.lem m (rCK h)
  .exact hn.lem m (rDI h),hn.prf,hn.kn,hn.kid⟩
 have ck:=vK4 k (-1) ⟨zom,h2⟩ ⟨zom,zom⟩ _ (vGC n i) (rAL _) hd;rw[uEN h1]at ck;refine zAL vBC hT vJS zsm ?_;refine sts ?_;refine zCE (l':=n.lemmas.take i) zsm ?_;refine sts ?_;refine zCE (l':=n.lemmas.drop (i+1)) (by rw[rBR zsm]; congr 1) ?_;refine sts ?_;refine zAA ck (zAD (ks:=[]) rfl (zAD (zBZ (zAD (zAI (f:=vBA) (l:=n.lemmas.take i++n.lemmas.drop (i+1)) rfl (by rw[rBE]; rfl) zsm (fun x=>zI8 x)) rfl)) rfl)) ?_;refine sts ?_;exact rGV
theorem vPM{v k:Int}(hk:0<=k)(h1:-9223372036854775808<=v)(h2:v<9223372036854775808):-9223372036854775808<=vDP v (k+1)/\vDP v (k+1)<9223372036854775808:=by
 unfold vDP; split<;>omega
theorem zO9{l:List MultL}{k:Int}(hk:0<=k)(h:vCX l):vCX (vBL (vTM k) l):=by
 refine⟨by simpa [vBL]using h.1,fun m hm=>?_⟩;obtain⟨x,hx,rfl⟩:=rA5.1 hm;obtain⟨⟨h1,h2⟩,h3⟩:=h.2 x hx;exact⟨⟨vPM hk h1.1 h1.2,vPM hk h2.1 h2.2⟩,h3⟩
theorem uFS{k:Int}(hk:0<=k):∀ (sz:Nat) (n:NodeL),SizeOf.sizeOf n<sz->NodeRg n->NodeRg (vCO (vTM k) n):=by
 intro sz
 induction sz with
 | zero=>intro n h; omega
 | succ sz ih =>
   intro n hsz hn;rw[zEV];refine⟨_,by show(n.lemmas.map _).length<_; simpa using hn.ln,fun m hm=>?_,zO9 hk hn.prf,by show(n.kids.map _).length<_; simpa using hn.kn,fun x hx=>?_⟩
   .obtain⟨y,hy,rfl⟩:=rA5.1 (show m∈n.lemmas.map _ from hm)
    exact zO9 hk (hn.lem y hy)
   .obtain⟨y,hy,rfl⟩:=rA5.1 (show x∈n.kids.map _ from hx)
    exact ih y (by have:=NodeL.sizeOf_kid hy; omega) (hn.kid y hy)
theorem vJG{n:NodeL}(hn:NodeRg n)(i:Nat):NodeRg (vGC n i):=⟨_,by have:=hn.ln; show(n.lemmas.take i++n.lemmas.drop (i+1)).length<_; simp; omega,fun m hm=>by
 rcases rAX.1 (show m∈n.lemmas.take i++n.lemmas.drop (i+1) from hm) with h | h
 .exact hn.lem m (rCK h)
 .exact hn.lem m (rDI h),hn.prf,hn.kn,hn.kid⟩
def uHU(n:NodeL)(i:Nat):NodeL:=.mk (n.lemmas.drop i) n.split n.kids n.empty n.proof
theorem uBR{n:NodeL}(hn:NodeRg n)(i:Nat):NodeRg (uHU n i):=⟨_,by have:=hn.ln; show(n.lemmas.drop i).length<_; simp; omega,fun m hm=>hn.lem m (rDI hm),hn.prf,hn.kn,hn.kid⟩
theorem vH4(b:Int)(i:Nat)(c:NodeL):vE5 b (i+1) c=vE5 b i (if vDX (uHU c (i+1)) (b+i)=true then c else vCO (vTM (b+i)) (vGC c i)):=by
 cases c; rfl
theorem vOI{b:Int}(hb:0<=b):∀ (i:Nat) (c:NodeL),NodeRg c->NodeRg (vE5 b i c)
 | 0,c,h=>by unfold vE5; exact h
 | i+1,c,h=>by
   rw[vH4];refine vOI hb i _ ?_
   split
   .exact h
   .exact uFS zom _ _ (rAL _) (vJG h i)
theorem vJO(b:Int):∀ ks:List NodeL,vMJ ks b=ks.map (fun k=>vEG k b)
 | []=>rfl
 | k::ks=>by simp only[vMJ,rBM,vJO b ks]
theorem vOW(n:NodeL)(b:Int):vEG n b=vE5 b n.lemmas.length (.mk n.lemmas n.split (n.kids.map (fun k=>vEG k (b+n.lemmas.length))) n.empty n.proof):=by
 cases n
 rw[<- vJO];rfl
theorem uHS:∀ (sz:Nat) (n:NodeL) (b:Int),SizeOf.sizeOf n<sz->0<=b->NodeRg n->NodeRg (vEG n b):=by
 intro sz
 induction sz with
 | zero=>intro n b h; omega
 | succ sz ih =>
   intro n b hsz hb hn;rw[vOW];refine vOI hb _ _ ⟨_,hn.ln,hn.lem,hn.prf,by show(n.kids.map _).length<_; simpa using hn.kn,fun x hx=>?_⟩;obtain⟨y,hy,rfl⟩:=rA5.1 (show x∈n.kids.map _ from hx);exact ih y _ (by have:=NodeL.sizeOf_kid hy; omega) zom (hn.kid y hy)
theorem vPZ{h:Hp}{m q a sz2:Nat}{g2:Bool}{n:NodeL}{L:List LemL}{K:List NodeL}{P:List MultL}(h2:h q=some ⟨K.map vBF,sz2,g2⟩)(ha:a=K.length) :
 frz h (m+4) (vHC n (.imm (L.map vBA)) (.own q 0 a) (.imm (P.map vBB)))=some (vA7 (.mk L n.split K n.empty P),[q]) :=
 zBZ (zAD (ks:=[]) rfl (zAD (ks:=[]) rfl (zAD (ks:=[]) rfl (zAD (ks:=[]) rfl (zAD (ks:=[]) rfl (zAD (ks:=[]) rfl (zAD (zAI h2 rfl ha (fun x=>zG1 x)) (zAD (ks:=[]) rfl (zAD (ks:=[]) rfl rfl)))))))))
theorem vRL{ρ:Nat->Nat}{k:Nat}{es:List PV}:rn ρ k 2 (.imm es) (.imm es):=by rw[vU7]
theorem vW6:FO 37 Tryz.f37 [.cell 4 32] 62:=mkO Tryz.func37 Tryz.ntmps37 Tryz.results37
theorem uEZ:∀ (sz:Nat) (n:NodeL) (b:Int),SizeOf.sizeOf n<sz->NodeRg n->0<=b->b+n.wt<=2305843009213693952->Fn 37 [vA7 n,.int .i64 b] (.data (vA7 (vEG n b))):=by
 intro sz
 induction sz with
 | zero=>intro n b h; omega
 | succ sz ih =>
   intro n b hsz hn hb hbw;have hwt:=n.wt_eq;have hll:=zM0 n.lemmas;have hln:=hn.ln;have hkn:=hn.kn;rw[vOW];refine zAL vBC hT vW6 zsm ?_;refine sns ?_
   refine zCK hT [(.cl 3 0 6,9,true)] (fun(i:Nat)=>[(1,.int .i64 b),(2,.cptr (vA7 n) 0),(4,.ptr 0 0 0),(5,.ptr 1 0 0),(6,.int .i64 i)])
    (fun i=>[(0,⟨[.agg [.nilsl,.int .i64 0,.int .i64 0,.bool false,.nilsl,.nilsl,.nilsl,.bool false,.nilsl]],9,true⟩),(1,⟨[vHC n (.imm (n.lemmas.map vBA)) (.own 2 0 i) (.imm (n.proof.map vBB))],9,true⟩),(2,⟨((n.kids.take i).map (fun k=>vEG k (b+n.lemmas.length))).map vBF,9,true⟩)]) [] 3
    (fun i=>i<=n.kids.length) (fun i=>n.kids.length - i) 0 (rA7 _) zdd zsm ⟨_,_,rfl,rfl,rfl,rGU⟩ ?_ ?_
   .exact⟨[1,3,_],[0],[(2,.cptr (vA7 n) 0)],[],⟨⟨⟨_,rfl⟩,rGU⟩,⟨⟨6,[0],zDE rfl,rfl⟩,rGU⟩,rGU⟩,⟨zAC rfl rfl,zAG rfl,(apy rfl),(apy rfl),zAC rfl rfl,rGU⟩,
     ⟨bbx,zAH zdd rfl (zB7 vRL (zHA zdd rfl rfl) vRL) rfl rfl,zAF zdd rfl rfl (zF4 _) rfl,rGU⟩,rAA⟩
   intro i hi;by_cases hi':i<n.kids.length
   .have hkm:n.kids[i]! ∈ n.kids:=zA2 hi'
    have hks1:=vHV hi';have hkl:((n.kids.take i).map (fun k=>vEG k (b+n.lemmas.length))).length=i:=by simp; omega
    have ck:Fn 37 [vA7 n.kids[i]!,.int .i64 (b+((n.lemmas.map vBA).length:Nat))] (.data (vA7 (vEG n.kids[i]! (b+n.lemmas.length)))):=by
     rw[rAN];exact ih n.kids[i]! _ (by have:=NodeL.sizeOf_kid hkm; omega) (hn.kid _ hkm) zom zom
    refine gon ?_ ?_<;>intro h
    .refine zAA ck rfl ?_
     refine sns ?_
     refine⟨i+1,⟨zom,zom⟩,[0,1,_],[],[],[],ttt,⟨zAC rfl rfl,zAG rfl,(apy rfl),(apy rfl),zAC rfl zom,rGU⟩,
      ⟨bbx,zAH zdd rfl (zB7 vRL (zHA zdd rfl rfl) vRL) rfl rfl,zAF zdd rfl ?_ (zF4 _) rfl,rGU⟩,rAA⟩
     rw[<- zJ9 hi',rBE];show _++[vA7 _]=_++[vBF _]
     rw[zBR]
    all_goals (exfalso; omega)
   .obtain rfl:i=n.kids.length:=by omega
    rw[rBW];have hkl:(n.kids.map (fun k=>vEG k (b+n.lemmas.length))).length=n.kids.length:=by simp
    have hKR:∀ x∈n.kids.map (fun k=>vEG k (b+n.lemmas.length)),NodeRg x:=fun x hx=>by
     obtain⟨y,hy,rfl⟩:=rA5.1 hx;exact uHS _ y _ (rAL _) zom (hn.kid y hy)
    obtain⟨KD,hKD⟩:∃ KD,n.kids.map (fun k=>vEG k (b+n.lemmas.length))=KD:=⟨_,rfl⟩;rw[hKD]at hkl hKR ⊢;refine sus ?_;refine zA0 ?_; (repeat' (first|refine stu ?_|with_reducible(refine brr ?_ ?_<;>intro h)));all_goals try(conv=>whnf)
    .exfalso; omega
    refine vBV [] [(1,.int .i64 b),(2,.cptr (vA7 n) 0),(4,.ptr 0 0 0),(5,.ptr 1 0 0)] [(0,⟨[.agg [.nilsl,.int .i64 0,.int .i64 0,.bool false,.nilsl,.nilsl,.nilsl,.bool false,.nilsl]],9,true⟩),(1,⟨[vA7 (.mk n.lemmas n.split KD n.empty n.proof)],9,true⟩)] [] 2 zdd zsm trivial ?_ ?_
    .exact⟨[0,1],[2],[],[(1,[vA7 (.mk n.lemmas n.split KD n.empty n.proof)])],⟨⟨⟨_,rfl⟩,rGU⟩,rGU,⟨⟨_,6,[2],rfl,zAD (ks:=[2]) (ls:=[]) (vPZ rfl hkl.symm) rfl,rfl⟩,rGU⟩⟩,⟨zAC rfl rfl,zAG rfl,apx,apx,rGU⟩,
      ⟨bbx,bbx,rGU⟩,rAA⟩
    obtain⟨c0,hc0⟩:∃ c0,(NodeL.mk n.lemmas n.split KD n.empty n.proof)=c0:=⟨_,rfl⟩;have hl0:c0.lemmas.length=n.lemmas.length:=by rw[<- hc0]; rfl
    have hr0:NodeRg c0:=by rw[<- hc0]; exact⟨_,hn.ln,hn.lem,hn.prf,by show KD.length<_; omega,hKR⟩
    rw[hc0,<- hl0];refine sns ?_
    refine zAN hT (fun((j,c):Nat×NodeL)=>[(1,.int .i64 b),(4,.ptr 0 0 0),(5,.ptr 1 0 0),(7,.int .i64 ((j:Int) - 1))]) (fun((j,c):Nat×NodeL)=>[(0,⟨[.agg [.nilsl,.int .i64 0,.int .i64 0,.bool false,.nilsl,.nilsl,.nilsl,.bool false,.nilsl]],9,true⟩),(1,⟨[vA7 c],9,true⟩)]) [] 2
     (fun((j,c):Nat×NodeL)=>j<=c.lemmas.length/\NodeRg c/\vE5 b j c=vE5 b c0.lemmas.length c0/\j<=n.lemmas.length) (fun((j,c):Nat×NodeL)=>j) (c0.lemmas.length,c0) ⟨rAR _,hr0,rfl,zom⟩ zdd zsm ?_ ?_
    .exact⟨[0,1],[],[],[],ttt,⟨rAI,apx,apx,zAC rfl zsm,rGU⟩,⟨bbx,bbx,rGU⟩,rAA⟩
    rintro⟨j,c⟩ ⟨hj,hc,hd,hjn⟩
    dsimp only at hj hc hd hjn ⊢;have hcl:=hc.ln;by_cases h0:j=0
    .subst h0
     rw[<- hd];refine sns ?_
     all_goals try (exfalso; omega)
     exact zAB rfl (by unfold vE5; rfl)
    .obtain⟨i,rfl⟩:∃ i,j=i+1:=⟨j - 1,zom⟩
     have cu:=uEP (b+i) zom zom _ (uHU c (i+1)) (rAL _) (uBR hc _);have cw:=vNI c i (b+i) zom zom zom hc;have hj1:((i+1:Nat):Int) - 1=i:=by omega
     rw[hj1];refine sns ?_
     .refine zCE (l':=c.lemmas.drop (i+1)) (by rw[rBR zsm]; congr 1) ?_
      refine sns ?_;refine zAA cu rfl ?_
      refine gon ?_ ?_<;>intro h
      .refine⟨(i,c),⟨⟨by show i<=c.lemmas.length; omega,hc,?_,by show i<=n.lemmas.length; omega⟩,rAL i⟩,[0,1],[],[],[],ttt,⟨rAI,apx,apx,rAI,rGU⟩,⟨bbx,bbx,rGU⟩,rAA⟩
       rw[<- hd,vH4,rAU rAF]
      .refine zAA cw rfl ?_
       refine sns ?_;refine⟨(i,vCO (vTM (b+i)) (vGC c i)),⟨⟨?_,uFS zom _ _ (rAL _) (vJG hc i),?_,by show i<=n.lemmas.length; omega⟩,rAL i⟩,[0,1],[],[],[],ttt,⟨rAI,apx,apx,rAI,rGU⟩,⟨bbx,bbx,rGU⟩,rAA⟩
       .rw[zEV]
        show i<=((c.lemmas.take i++c.lemmas.drop (i+1)).map _).length
        simp
        omega
       .rw[<- hd,vH4,rAM rAF]
     all_goals (exfalso; omega)
theorem vKE(n:NodeL):vBO n=if n.valid=true then vEG n 0 else vDW:=by
 unfold vBO;rw[vOU n 0 zom]
theorem zOW:FO 14 Tryz.f14 [.cell 2 32] 9:=mkO Tryz.func14 Tryz.ntmps14 Tryz.results14
theorem vNL(n:NodeL)(hs:n.Sm)(hn:NodeRg n)(hw:n.wt<=536870912):Fn 14 [vA7 n] (.data (vA7 (vBO n))):=by
 have cv:=zP1 n hs;have cp:=uEZ _ n 0 (rAL _) hn zom zom;rw[vKE];refine zAL vBC hT zOW zsm ?_;refine sns ?_;refine zAA cv rfl ?_
 refine gon ?_ ?_<;>intro h
 .refine zAA cp rfl ?_
  refine sns ?_;rw[rAU rAF];exact rGV
 .rw[rAM rAF]
  exact rGV
def isP(p:Int)(r:RowL):Bool:=decide (r.kind=4/\r.index=p)
def vC5(l:List MultL)(p:Int):Bool:=l.any fun m=>isP p m.row
mutual
def onN:NodeL->Int->Bool
 | .mk l _ ks _ pr,p=>l.any (fun m=>vC5 m.proof p) || onK ks p || vC5 pr p
def onK:List NodeL->Int->Bool
 | [],_=>false
 | k::ks,p=>onN k p || onK ks p
end
theorem vV9(p:Int):∀ ks:List NodeL,onK ks p=ks.any (fun n=>onN n p)
 | []=>rfl
 | n::ks=>by simp only[onK,List.any_cons,vV9 p ks]
theorem zPG(n:NodeL)(p:Int):onN n p=(n.lemmas.any (fun m=>vC5 m.proof p) || n.kids.any (fun n=>onN n p) || vC5 n.proof p):=by
 cases n
 simp only[onN,vV9];rfl
abbrev okB(o:Bool):Blk:=⟨[.bool o],1,false⟩
abbrev uQO(p:Int):PV:=.func (.func 139) [] [.ptr 0 0 0,.cptr (.int .i64 p) 0]
theorem zJ2:FO 139 Tryz.f139 [.cell 4 70] 24:=mkO Tryz.func139 Tryz.ntmps139 Tryz.results139
theorem uER(r:RowL)(p:Int)(o:Bool)(hp:vFS p)(h0:0<=p)(hi:vSZ r):Fn 139 [vBI r,.ptr 0 0 0,.cptr (.int .i64 p) 0] (.wrt (okB o) (vBI (vCM (-1) p r)) (okB (o && !isP p r))):=by
 obtain⟨kind,index,lo,hi'⟩:=r;obtain⟨hi1,hi2⟩:=hi;dsimp only at hi1 hi2;have hp2:=hp.2;have e1:∀ i:Int,(if 0<=p/\kind=4 then vDP index p else index)=i->vCM (-1) p ⟨kind,index,lo,hi'⟩=⟨kind,i,lo,hi'⟩:=fun i h=>by unfold vCM; rw[h]; rfl
 have e2:isP p ⟨kind,index,lo,hi'⟩=decide (kind=4/\index=p):=rfl;by_cases hk:kind=4
 .subst hk
  simp only[h0,rEM,and_self,rCI]at e1;unfold vDP at e1;by_cases hlt:p<index
  .rw[e1 (index - 1) (by rw[rAU hlt]),show isP p ⟨4,index,lo,hi'⟩=false by rw[e2]; exact rBD zom]
   cases o
   all_goals
    refine zIK vBC hT zJ2 (by simp[vBI]) ?_
    refine gob ?_ ?_<;>intro h
    all_goals try (exfalso; omega)
    all_goals try (exfalso; simp_all; done)
    all_goals exact zLN rfl rfl rfl (by first | rfl | (simp_all; done) | (simp_all; omega)) rfl (fun e he=>by simp at he; subst he; rfl)
  .rw[e1 index (by rw[rAM hlt])]
   by_cases heq:index=p
   .rw[show isP p ⟨4,index,lo,hi'⟩=true by rw[e2]; exact rB4 ⟨rfl,heq⟩]
    cases o
    all_goals
     refine zIK vBC hT zJ2 (by simp[vBI]) ?_
     refine gob ?_ ?_<;>intro h
     all_goals try (exfalso; omega)
     all_goals try (exfalso; simp_all; done)
     all_goals exact zLN rfl rfl rfl (by first | rfl | (simp_all; done) | (simp_all; omega)) rfl (fun e he=>by simp at he; subst he; rfl)
   .rw[show isP p ⟨4,index,lo,hi'⟩=false by rw[e2]; exact rBD (fun h=>heq h.2)]
    cases o
    all_goals
     refine zIK vBC hT zJ2 (by simp[vBI]) ?_
     refine gob ?_ ?_<;>intro h
     all_goals try (exfalso; omega)
     all_goals try (exfalso; simp_all; done)
     all_goals exact zLN rfl rfl rfl (by first | rfl | (simp_all; done) | (simp_all; omega)) rfl (fun e he=>by simp at he; subst he; rfl)
 .rw[e2,e1 index (by rw[rAM (fun h:0<=p/\kind=4=>hk h.2)]),rBD (fun h=>hk h.1)]
  refine zIK vBC hT zJ2 (by simp[vBI]) ?_
  (repeat' (first|refine stp ?_|with_reducible(refine brr ?_ ?_<;>intro h)));all_goals try(conv=>whnf)
  all_goals try (exfalso; omega)
  exact zLN rfl rfl rfl zsm rfl (fun e he=>by simp at he; subst he; rfl)
theorem zOT{ρ:Nat->Nat}{k:Nat}{t:Tm}{j:Nat}{fn:Go.Fn}{e:PV}{o:Nat}{r r':Nat}(hr:r<k)(h:t j=.func fn [] [.ptr r' 0 0,.cptr e o])(e2:r'=ρ r):at' ρ k t j (.func fn [] [.ptr r 0 0,.cptr e o]):=by subst e2; unfold at'; rw[h]; exact⟨rfl,rGU,⟨hr,rfl⟩,rfl,rGU⟩
theorem vRU{l:List MultL}{i:Nat}(h:i<l.length)(p:Int):vC5 (l.take (i+1)) p=(vC5 (l.take i) p || isP p l[i]!.row):=by
 rw[rA2 h,rAT l i h];unfold vC5;rw[rF7]
 simp
theorem vQF(l:List MultL)(p:Int)(o:Bool)(hp:vFS p)(h0:0<=p)(hl:vCX l):Fn 57 [.imm (l.map vBB),uQO p] (.wrt (okB o) (.imm ((vBL (vCM (-1) p) l).map vBB)) (okB (o && !vC5 l p))):=by
 have hln:=hl.1;refine zIK vBC hT vO3 zsm ?_;refine sts ?_
 refine zCK hT [(.sl 5,7,true)] (fun(i:Nat)=>[(1,uQO p),(5,.own 1 0 i),(8,.imm (l.map vBB)),(9,.int .i64 l.length),(10,.int .i64 i)]) (fun i=>[(0,okB (o && !vC5 (l.take i) p)),(1,⟨(vBL (vCM (-1) p) (l.take i)).map vBB,7,true⟩)]) [] 2
  (fun i=>i<=l.length) (fun i=>l.length - i) 0 (rA7 _) zdd zsm ⟨rfl,rGU⟩ ?_ ?_
 .exact⟨[_],[],[],[],ttt,⟨zOT zdd rfl rfl,zA3 zdd rfl rfl,zAE rfl rfl,zAC rfl zsm,zAC rfl rfl,rGU⟩,⟨zEW zdd rfl (by simp[vC5]) rfl rfl rfl,zAF zdd rfl rfl (zCQ _) rfl,rGU⟩,rAA⟩
 intro i hi;have hlen:(vBL (vCM (-1) p) (l.take i)).length=i:=by simp[vBL]; omega
 by_cases h0':i<l.length
 .have c1:=uER l[i]!.row p (o && !vC5 (l.take i) p) hp h0 (hl.2 _ (zA2 h0')).2
  refine gob ?_ ?_<;>intro h
  .refine zLW (r:=0) (ks:=[]) c1 rfl rfl rfl rfl (fun e he=>by simp at he; subst he; rfl) (fun i=>by simp[vC7]) ?_
   refine sts ?_
   exact⟨i+1,⟨zom,zom⟩,[_],[],[],[],ttt,⟨zOT zdd rfl rfl,zA3 zdd rfl rfl,zAE rfl rfl,zAC rfl rfl,zAC rfl zom,rGU⟩,
    ⟨zEW zdd rfl (by rw[vRU h0']; simp[Bool.not_or,Bool.and_assoc]) rfl rfl rfl,zAF zdd rfl (zLC h0') (zCQ _) rfl,rGU⟩,rAA⟩
  all_goals (exfalso; omega)
 .obtain rfl:i=l.length:=by omega
  rw[rBW];refine sus ?_;refine zA0 ?_; (repeat' (first|refine stu ?_|with_reducible(refine brr ?_ ?_<;>intro h)));all_goals try(conv=>whnf)
  .exfalso; omega
  refine vBV [] [(5,.imm ((vBL (vCM (-1) p) l).map vBB))] [(0,okB (o && !vC5 l p))] [] 1 zdd zsm trivial ?_ ?_
  .exact⟨[],[1],[(5,.imm ((vBL (vCM (-1) p) l).map vBB))],[],⟨⟨⟨_,rfl⟩,rGU⟩,⟨⟨6,[1],zAI rfl rfl (by simp[vBL]) (fun x=>zKG x),rfl⟩,rGU⟩,rGU⟩,⟨zAE rfl rfl,rGU⟩,⟨bbx,rGU⟩,rAA⟩
  refine sts ?_;exact zLN rfl rfl rfl rfl rfl (fun e he=>by simp at he; subst he; rfl)
open Go.Proofs Go.PI
theorem uEA{h:Hp}{n r sz:Nat}{ag:Bool}{v:Int}(hr:h r=some ⟨[.int .i64 v],sz,ag⟩):frz h (n+4) (.ptr r 0 0)=some (.cptr (.int .i64 v) 0,[r]):=by
 show frz h (n+3+1) (.ptr r 0 0)=_
 unfold frz;simp only[hr,List.getElem?_cons_zero];rfl
theorem uD8{h:Hp}{m r q a sz sz2:Nat}{g1 g2:Bool}{n:NodeL}{L:List LemL}{K:List NodeL}{P:List MultL}(h1:h r=some ⟨L.map vBA,sz,g1⟩)(h2:h q=some ⟨K.map vBF,sz2,g2⟩)(ha:a=K.length) :
 frz h (m+4) (vHC n (.own r 0 L.length) (.own q 0 a) (.imm (P.map vBB)))=some (vA7 (.mk L n.split K n.empty P),[r,q]) :=
 zBZ (zAD (zAI h1 rfl rfl (fun x=>zI8 x)) (zAD (ks:=[]) rfl (zAD (ks:=[]) rfl (zAD (ks:=[]) rfl (zAD (ks:=[]) rfl (zAD (ks:=[]) rfl (zAD (zAI h2 rfl ha (fun x=>zG1 x)) (zAD (ks:=[]) rfl (zAD (ks:=[]) rfl rfl)))))))))
abbrev uPF(p:Int)(r:Nat):PV:=.func (.func 139) [] [.ptr r 0 0,.cptr (.int .i64 p) 0]
theorem uCB:FO 104 Tryz.f104 [.cell 4 32,.tmp 5] 70:=mkO Tryz.func104 Tryz.ntmps104 Tryz.results104
theorem uKQ (p:Int) (hp:vFS p) (h0:0<=p):∀ (sz:Nat) (n:NodeL),SizeOf.sizeOf n<sz->NodeRg n->Fn 104 [vA7 n,.int .i64 p] (.data (.tup [vA7 (vCO (vCM (-1) p) n),.bool (!onN n p)])):=by
 intro sz
 induction sz with
 | zero=>intro n h; omega
 | succ sz ih =>
   intro n hsz hn;have hln:=hn.ln;have hkn:=hn.kn;rw[zEV,zPG];refine zAL vBC hT uCB zsm ?_;refine sus ?_;refine vBV [] [(2,.cptr (vA7 n) 0),(3,.cptr (.int .i64 p) 0),(4,.ptr 0 0 0)] [(0,⟨[.agg [.nilsl,.int .i64 0,.int .i64 0,.bool false,.nilsl,.nilsl,.nilsl,.bool false,.nilsl]],9,true⟩)] [] 1 zdd zsm trivial ?_ ?_
   .exact⟨[2],[0,1],[(2,.cptr (vA7 n) 0),(3,.cptr (.int .i64 p) 0)],[],⟨⟨⟨_,rfl⟩,⟨_,rfl⟩,rGU⟩,⟨⟨6,[0],zDE rfl,rfl⟩,⟨6,[1],uEA rfl,rfl⟩,rGU⟩,rGU⟩,⟨zAG rfl,zAG rfl,apx,rGU⟩,
     ⟨bbx,rGU⟩,rAA⟩
   refine sus ?_
   (refine zA0 ?_; refine sus ?_)
   (refine zA0 ?_; refine sus ?_)
   refine vKZ (r:=1) (vQF n.proof p true hp h0 hn.prf) rfl rfl rfl rfl (fun e he=>by simp at he; subst he; rfl) zdd ?_;refine sus ?_
   (refine zA0 ?_; refine sus ?_)
   obtain⟨PF,hPF⟩:∃ PF,vBL (vCM (-1) p) n.proof=PF:=⟨_,rfl⟩;obtain⟨po,hpo⟩:∃ po,vC5 n.proof p=po:=⟨_,rfl⟩;rw[hPF,hpo]
   refine vBV [] [(2,.cptr (vA7 n) 0),(3,.cptr (.int .i64 p) 0),(4,.ptr 0 0 0),(6,.ptr 1 0 0),(7,uPF p 1),(8,.ptr 2 0 0),(26,.imm (n.lemmas.map vBA)),(27,.int .i64 n.lemmas.length),(28,.int .i64 0)]
    [(0,⟨[.agg [.nilsl,.int .i64 0,.int .i64 0,.bool false,.nilsl,.nilsl,.nilsl,.bool false,.nilsl]],9,true⟩),(1,okB (!po)),(2,⟨[vHC n .nilsl .nilsl (.imm (PF.map vBB))],9,true⟩)] [] 3 zdd zsm trivial ?_ ?_
   .exact⟨[0,1,14],[],[],[],ttt,⟨zAG rfl,zAG rfl,apx,apx,zOT zdd rfl rfl,apx,rAJ,zAC rfl zsm,rAI,rGU⟩,
     ⟨bbx,bbx,zAH zdd rfl (zB7 vL1 vL1 vRL) rfl rfl,rGU⟩,rAA⟩
   refine sts ?_
   refine zCK hT [(.cl 2 0 0,6,true)] (fun(i:Nat)=>[(2,.cptr (vA7 n) 0),(3,.cptr (.int .i64 p) 0),(4,.ptr 0 0 0),(6,.ptr 1 0 0),(7,uPF p 1),(8,.ptr 2 0 0),(26,.imm (n.lemmas.map vBA)),(27,.int .i64 n.lemmas.length),(28,.int .i64 i)])
    (fun i=>[(0,⟨[.agg [.nilsl,.int .i64 0,.int .i64 0,.bool false,.nilsl,.nilsl,.nilsl,.bool false,.nilsl]],9,true⟩),(1,okB (!po && !(n.lemmas.take i).any fun m=>vC5 m.proof p)),(2,⟨[vHC n (.own 3 0 i) .nilsl (.imm (PF.map vBB))],9,true⟩),(3,⟨((n.lemmas.take i).map (vC1 (vCM (-1) p))).map vBA,6,true⟩)]) [] 4
    (fun i=>i<=n.lemmas.length) (fun i=>n.lemmas.length - i) 0 (rA7 _) zdd zsm ⟨_,_,rfl,rfl,rfl,rGU⟩ ?_ ?_
   .exact⟨[0,1,2,_],[],[],[],ttt,⟨zAG rfl,zAG rfl,(apy rfl),(apy rfl),zOT zdd rfl rfl,(apy rfl),zAE rfl rfl,zAC rfl rfl,zAC rfl rfl,rGU⟩,
     ⟨bbx,zEW zdd rfl zsm rfl rfl rfl,zAH zdd rfl (zB7 (zHA zdd rfl rfl) vL1 vRL) rfl rfl,zAF zdd rfl rfl (zFF _) rfl,rGU⟩,rAA⟩
   intro i hi;by_cases hi':i<n.lemmas.length
   .have hlm:n.lemmas[i]! ∈ n.lemmas:=zA2 hi'
    have hlen:((n.lemmas.take i).map (vC1 (vCM (-1) p))).length=i:=by simp; omega
    have eany:(n.lemmas.take (i+1)).any (fun m=>vC5 m.proof p)=((n.lemmas.take i).any (fun m=>vC5 m.proof p) || vC5 n.lemmas[i]!.proof p):=by
     rw[rA2 hi',rAT n.lemmas i hi',rF7]; simp
    have cr:=vQF n.lemmas[i]!.proof p (!po && !(n.lemmas.take i).any fun m=>vC5 m.proof p) hp h0 (hn.lem _ hlm)
    refine gob ?_ ?_<;>intro h
    .refine vKZ (r:=1) cr rfl rfl rfl rfl (fun e he=>by simp at he; subst he; rfl) zdd ?_
     refine sts ?_
     refine⟨i+1,⟨zom,zom⟩,[0,1,2,_],[],[],[],ttt,⟨zAG rfl,zAG rfl,(apy rfl),(apy rfl),zOT zdd rfl rfl,(apy rfl),zAE rfl rfl,zAC rfl rfl,zAC rfl zom,rGU⟩,
      ⟨bbx,zEW zdd rfl (by rw[eany,Bool.not_or,Bool.and_assoc]) rfl rfl rfl,zAH zdd rfl (zB7 (zHA zdd rfl rfl) vL1 vRL) rfl rfl,zAF zdd rfl ?_ (zFF _) rfl,rGU⟩,rAA⟩
     rw[<- zJ9 hi',rBE];rfl
    all_goals (exfalso; omega)
   .obtain rfl:i=n.lemmas.length:=by omega
    obtain⟨LM,hLM⟩:∃ LM,n.lemmas.map (vC1 (vCM (-1) p))=LM:=⟨_,rfl⟩;have hll:LM.length=n.lemmas.length:=by rw[<- hLM]; simp
    obtain⟨pl,hpl⟩:∃ pl,(n.lemmas.any fun m=>vC5 m.proof p)=pl:=⟨_,rfl⟩;rw[rBW,hLM,hpl,<- hll]
    refine gob ?_ ?_<;>intro h
    all_goals try (exfalso; omega)
    refine zCK hT [(.cl 2 0 6,9,true)] (fun(i:Nat)=>[(2,.cptr (vA7 n) 0),(3,.cptr (.int .i64 p) 0),(4,.ptr 0 0 0),(6,.ptr 1 0 0),(7,uPF p 1),(8,.ptr 2 0 0),(45,.imm (n.kids.map vBF)),(46,.int .i64 n.kids.length),(47,.int .i64 i)])
     (fun i=>[(0,⟨[.agg [.nilsl,.int .i64 0,.int .i64 0,.bool false,.nilsl,.nilsl,.nilsl,.bool false,.nilsl]],9,true⟩),(1,okB (!po && !pl && !(n.kids.take i).any fun m=>onN m p)),(2,⟨[vHC n (.own 3 0 LM.length) (.own 4 0 i) (.imm (PF.map vBB))],9,true⟩),(3,⟨LM.map vBA,6,true⟩),(4,⟨((n.kids.take i).map (vCO (vCM (-1) p))).map vBF,9,true⟩)]) [] 5
     (fun i=>i<=n.kids.length) (fun i=>n.kids.length - i) 0 (rA7 _) zdd zsm ⟨_,_,rfl,rfl,rfl,rGU⟩ ?_ ?_
    .exact⟨[0,1,2,3,_],[],[],[],ttt,⟨zAG rfl,zAG rfl,(apy rfl),(apy rfl),zOT zdd rfl rfl,(apy rfl),zAE rfl rfl,zAC rfl zsm,zAC rfl rfl,rGU⟩,
      ⟨bbx,zEW zdd rfl zsm rfl rfl rfl,zAH zdd rfl (zB7 (zHA zdd rfl rfl) (zHA zdd rfl rfl) vRL) rfl rfl,zAF zdd rfl rfl (zFF _) rfl,zAF zdd rfl rfl (zF4 _) rfl,rGU⟩,rAA⟩
    intro i hi;by_cases hi':i<n.kids.length
    .have hkm:n.kids[i]! ∈ n.kids:=zA2 hi'
     have hlen:((n.kids.take i).map (vCO (vCM (-1) p))).length=i:=by simp; omega
     have eany:(n.kids.take (i+1)).any (fun m=>onN m p)=((n.kids.take i).any (fun m=>onN m p) || onN n.kids[i]! p):=by
      rw[rA2 hi',rAT n.kids i hi',rF7]; simp
     have ck:=ih n.kids[i]! (by have:=NodeL.sizeOf_kid hkm; omega) (hn.kid _ hkm)
     refine gon ?_ ?_<;>intro h
     .refine zAA ck rfl ?_
      refine gon ?_ ?_<;>intro h
      all_goals
       refine⟨i+1,⟨zom,zom⟩,[0,1,2,3,_],[],[],[],ttt,⟨zAG rfl,zAG rfl,(apy rfl),(apy rfl),zOT zdd rfl rfl,(apy rfl),zAE rfl rfl,zAC rfl rfl,zAC rfl zom,rGU⟩,
        ⟨bbx,zEW zdd rfl (by rw[eany]; revert h; cases po<;>cases pl<;>cases ((n.kids.take i).any fun m=>onN m p)<;>simp) rfl rfl rfl,zAH zdd rfl (zB7 (zHA zdd rfl rfl) (zHA zdd rfl rfl) vRL) rfl rfl,zAF zdd rfl rfl (zFF _) rfl,zAF zdd rfl ?_ (zF4 _) rfl,rGU⟩,rAA⟩
       rw[<- zJ9 hi',rBE];show _++[vA7 _]=_++[vBF _]
       rw[zBR]
     all_goals (exfalso; omega)
    .obtain rfl:i=n.kids.length:=by omega
     obtain⟨KD,hKD⟩:∃ KD,n.kids.map (vCO (vCM (-1) p))=KD:=⟨_,rfl⟩;have hkl:KD.length=n.kids.length:=by rw[<- hKD]; simp
     obtain⟨pk,hpk⟩:∃ pk,(n.kids.any fun m=>onN m p)=pk:=⟨_,rfl⟩;rw[rBW,hKD,hpk];refine sus ?_;refine zA0 ?_; (repeat' (first|refine stu ?_|with_reducible(refine brr ?_ ?_<;>intro h)));all_goals try(conv=>whnf)
     .exfalso; omega
     refine vBV [] [(4,.ptr 0 0 0),(6,.ptr 1 0 0),(8,.ptr 2 0 0)] [(0,⟨[.agg [.nilsl,.int .i64 0,.int .i64 0,.bool false,.nilsl,.nilsl,.nilsl,.bool false,.nilsl]],9,true⟩),(1,okB (!po && !pl && !pk)),(2,⟨[vA7 (.mk LM n.split KD n.empty PF)],9,true⟩)] [] 3 zdd zsm trivial ?_ ?_
     .exact⟨[0,1,2],[3,4],[],[(2,[vA7 (.mk LM n.split KD n.empty PF)])],⟨⟨⟨_,rfl⟩,⟨_,rfl⟩,rGU⟩,rGU,⟨⟨_,6,[3,4],rfl,zAD (ks:=[3,4]) (ls:=[]) (uD8 rfl rfl hkl.symm) rfl,rfl⟩,rGU⟩⟩,⟨apx,apx,apx,rGU⟩,
       ⟨bbx,bbx,bbx,rGU⟩,rAA⟩
     refine sns ?_;refine zAB rfl (rA3 (fun b=>PV.tup [vA7 (.mk LM n.split KD n.empty PF),.bool b]) ?_);cases po<;>cases pl<;>cases pk<;>rfl
def vBZ(n:NodeL)(i:Nat)(p:Int):NodeL:=.mk (n.lemmas++(vCO (vCM (-1) p) n.kids[i]!).lemmas) (vCO (vCM (-1) p) n.kids[i]!).split (vCO (vCM (-1) p) n.kids[i]!).kids (vCO (vCM (-1) p) n.kids[i]!).empty (vCO (vCM (-1) p) n.kids[i]!).proof
theorem uI2:FO 71 Tryz.f71 [.cell 6 32,.tmp 7] 29:=mkO Tryz.func71 Tryz.ntmps71 Tryz.results71
theorem uN8(n:NodeL)(i:Nat)(p:Int)(hp:vFS p)(h0:0<=p)(hn:NodeRg n)(hi:i<n.kids.length):Fn 71 [vA7 n,.int .i64 i,.int .i64 p] (.data (.tup [vA7 (vBZ n i p),.bool (!onN n.kids[i]! p)])):=by
 have hln:=hn.ln;have hkn:=hn.kn;have hkm:n.kids[i]! ∈ n.kids:=zA2 hi;have cs:=uKQ p hp h0 _ n.kids[i]! (rAL _) (hn.kid _ hkm);have cc:=vTA vBA (fun h n x=>zI8 x) (fun x=>⟨rfl,rfl⟩) n.lemmas hln
 have hkl:(vCO (vCM (-1) p) n.kids[i]!).lemmas.length<2097152:=by
  rw[zEV];show((n.kids[i]!).lemmas.map _).length<_
  rw[rAN];exact(hn.kid _ hkm).ln
 refine zAL vBC hT uI2 zsm ?_;unfold vBZ;generalize vCO (vCM (-1) p) n.kids[i]! = K at *
 refine sns ?_
 .refine zAA cs rfl ?_
  refine sns ?_;refine zBB cc rfl ?_;refine sns ?_;exact zAB (zKF (zAD (zBZ (zAD (zAI (f:=vBA) (l:=n.lemmas++K.lemmas) rfl (by rw[rBE]) zsm (fun x=>zI8 x)) rfl)) rfl)) rfl
 all_goals (exfalso; omega)
end Go.PI.Tryz
