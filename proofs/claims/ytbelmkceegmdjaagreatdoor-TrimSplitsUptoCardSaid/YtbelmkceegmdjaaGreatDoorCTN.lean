/-
  The program's shift and lift.
-/
import Derived.Test.YtbelmkceegmdjaaGreatDoorCPD
import Derived.Test.YtbelmkceegmdjaaGreatDoorCTM
import Derived.Test.YtbelmkceegmdjaaGreatDoorCTR
set_option linter.unusedVariables false
set_option linter.unusedSimpArgs false
set_option linter.unnecessarySimpa false
set_option maxHeartbeats 0
namespace Go.PI.Tryz
open Go.Proofs Go.PI
def vCL(K D:Int)(r:RowL):RowL:=⟨r.kind,if 0≤D∧r.kind=4 then vDT r.index D else r.index,if 0≤K then vDT r.lo (K+1) else r.lo,if 0≤K then vDT r.hi (K+1) else r.hi⟩
abbrev vEJ(K D:Int):PV:=.agg [.int .i64 K,.int .i64 D]
def vFH(K:Int):Prop:=-1≤K∧K<4611686018427387904
theorem vVC:FO 150 Tryz.f150 [.tmp 4] 11:=mkO Tryz.func150 Tryz.ntmps150 Tryz.results150
theorem zML(n t:Int)(h1:-9223372036854775808≤n)(h2:n<9223372036854775808)(ht:0≤t):Fn 150 [.int .i64 n,.int .i64 t] (.data (.int .i64 (vDT n t))):=by
 refine zAL vBD hT vVC zsm ?_
 (refine gob ?_ ?_<;>intro h)
 ·exact zAB rfl (by unfold vDT; rw[if_pos (by assumption)])
 ·exact zAB rfl (by unfold vDT; rw[if_neg (by assumption)])
theorem vVH:FO 122 Tryz.f122 [.cell 4 70] 37:=mkO Tryz.func122 Tryz.ntmps122 Tryz.results122
theorem uCD(K D:Int)(r:RowL)(hK:vFH K)(hD:vFH D)(hr:vK0 r)(hi:vQ5 r):Fn 122 [vEJ K D,vBG r] (.data (vBG (vCL K D r))):=by
 obtain⟨k1,k2⟩:=hK;obtain⟨d1,d2⟩:=hD;have e1:∀ {v:Int},0≤K→(if 0≤K then vDT v (K+1) else v)=vDT v (K+1):=fun h=>if_pos h
 have e2:∀ {v:Int},¬ 0≤K→(if 0≤K then vDT v (K+1) else v)=v:=fun h=>if_neg h
 refine zAL vBD hT vVH zsm ?_;by_cases hk:0≤K
 ·have c1:=zML r.lo (K+1) hr.1.1 hr.1.2 zom
  have c2:=zML r.hi (K+1) hr.2.1 hr.2.2 zom;by_cases hd:0≤D
  ·have c3:=zML r.index D hi.1 hi.2 hd
   (repeat' (first|refine stp ?_|with_reducible(refine brr ?_ ?_<;>intro h)));all_goals try(conv=>whnf)
   all_goals try (exfalso; omega)
   refine zAA c1 rfl ?_;refine sts ?_;refine zAA c2 rfl ?_
   (repeat' (first|refine stp ?_|with_reducible(refine brr ?_ ?_<;>intro h)));all_goals try(conv=>whnf)
   all_goals try (exfalso; omega)
   ·refine zAA c3 rfl ?_
    refine sts ?_;refine zAB rfl ?_;unfold vCL;simp only[vBG];rw[e1 hk,e1 hk,if_pos ⟨hd,by assumption⟩]
   ·refine zAB rfl ?_
    unfold vCL;simp only[vBG];rw[e1 hk,e1 hk,if_neg (fun h=>by simp_all)]
  ·(repeat' (first|refine stp ?_|with_reducible(refine brr ?_ ?_<;>intro h)));all_goals try(conv=>whnf)
   all_goals try (exfalso; omega)
   refine zAA c1 rfl ?_;refine sts ?_;refine zAA c2 rfl ?_
   (repeat' (first|refine stp ?_|with_reducible(refine brr ?_ ?_<;>intro h)));all_goals try(conv=>whnf)
   all_goals try (exfalso; omega)
   refine zAB rfl ?_;unfold vCL;simp only[vBG];rw[e1 hk,e1 hk,if_neg (fun h=>hd h.1)]
 ·by_cases hd:0≤D
  ·have c3:=zML r.index D hi.1 hi.2 hd
   (repeat' (first|refine stp ?_|with_reducible(refine brr ?_ ?_<;>intro h)));all_goals try(conv=>whnf)
   all_goals try (exfalso; omega)
   ·refine zAA c3 rfl ?_
    refine sts ?_;refine zAB rfl ?_;unfold vCL;simp only[vBG];rw[e2 hk,e2 hk,if_pos ⟨hd,by assumption⟩]
   ·refine zAB rfl ?_
    unfold vCL;simp only[vBG];rw[e2 hk,e2 hk,if_neg (fun h=>by simp_all)]
  ·(repeat' (first|refine stp ?_|with_reducible(refine brr ?_ ?_<;>intro h)));all_goals try(conv=>whnf)
   all_goals try (exfalso; omega)
   refine zAB rfl ?_;unfold vCL;simp only[vBG];rw[e2 hk,e2 hk,if_neg (fun h=>hd h.1)]
theorem vLU:FO 88 Tryz.f88 [.tmp 4] 30:=mkO Tryz.func88 Tryz.ntmps88 Tryz.results88
theorem zO7(K D:Int)(l:List MultL)(hK:vFH K)(hD:vFH D)(hl:vC4 l):Fn 88 [vEJ K D,.imm (l.map vBC)] (.fresh ((vBS (vCL K D) l).map vBC) 7 true):=by
 have hln:=hl.1;refine zEE vBD hT vLU zsm ?_;refine sts ?_
 refine zCR hT [(.sl 5,7,true)] (fun(i:Nat)=>[(1,.imm (l.map vBC)),(2,.ptr 0 0 0),(5,.own 1 0 i),(6,.int .i64 i)]) (fun i=>[(0,⟨[vEJ K D],2,true⟩),(1,⟨(vBS (vCL K D) (l.take i)).map vBC,7,true⟩)]) [] 2
  (fun i=>i≤l.length) (fun i=>l.length - i) 0 (Nat.zero_le _) zdd zsm ⟨rfl,trivial⟩ ?_ ?_
 ·exact⟨[0,_],[],[],[],ttt,⟨zAE rfl rfl,(apy rfl),zA0 zdd rfl rfl,zAC rfl rfl,trivial⟩,⟨bbx,zAF zdd rfl rfl (zCL _) rfl,trivial⟩,by simp[ren]⟩
 intro i hi;have hlen:(vBS (vCL K D) (l.take i)).length=i:=by simp[vBS]; omega
 by_cases h0:i<l.length
 ·have hm:=hl.2 _ (zA7 h0)
  have c1:=uCD K D l[i]!.row hK hD hm.1 hm.2
  (refine gob ?_ ?_<;>intro h)
  ·refine zAA c1 rfl ?_
   refine sts ?_;exact⟨i+1,⟨zom,by show l.length - (i+1)<l.length - i; omega⟩,[0,_],[],[],[],ttt,⟨zAE rfl rfl,(apy rfl),zA0 zdd rfl rfl,zAC rfl zom,trivial⟩,⟨bbx,zAF zdd rfl (zKP h0) (zCL _) rfl,trivial⟩,by simp[ren]⟩
  all_goals (exfalso; omega)
 ·obtain rfl:i=l.length:=by omega
  rw[List.take_length]
  (refine gob ?_ ?_<;>intro h)
  all_goals try (exfalso; omega)
  refine zBJ rfl rfl (by simp[vBS]) rfl (zD2 (fun x=>zJZ x) _)
theorem uBI{h:Hp}{m r q p la a pa sz sz2 sz3:Nat}{g1 g2 g3:Bool}{n:NodeL}{L:List LemL}{K:List NodeL}{P:List MultL}(h1:h r=some ⟨L.map vBA,sz,g1⟩)(h2:h q=some ⟨K.map vBI,sz2,g2⟩)(h3:h p=some ⟨P.map vBC,sz3,g3⟩)(hl:la=L.length)(ha:a=K.length)(hp:pa=P.length) :
 frz h (m+4) (vHY n (.own r 0 la) (.own q 0 a) (.own p 0 pa))=some (vA7 (.mk L n.split K n.empty P),[r,q,p]):=by
 subst hl hp;exact vWB h1 h2 h3 ha
theorem vOM(f:RowL→RowL):∀ ks:List NodeL,vHL f ks=ks.map (vCM f)
 | []=>rfl
 | k::ks=>by simp only[vHL,List.map_cons,vOM f ks]
theorem zFT(f:RowL→RowL)(n:NodeL):vCM f n=.mk (n.lemmas.map (vDJ f)) n.split (n.kids.map (vCM f)) n.empty (vBS f n.proof):=by
 cases n
 rw[← vOM];rfl
theorem zMC{α β:Type}[Inhabited α]{f:α→β}{l:List α}{i:Nat}(h:i<l.length):(l.take i).map f++[f l[i]!]=(l.take (i+1)).map f:=by
 rw[List.take_succ_eq_append_getElem h,getElem!_pos l i h,List.map_append]; rfl
theorem vQS:FO 49 Tryz.f49 [.cell 4 32] 61:=mkO Tryz.func49 Tryz.ntmps49 Tryz.results49
theorem vXM(K D:Int)(hK:vFH K)(hD:vFH D):∀ (sz:Nat) (n:NodeL),SizeOf.sizeOf n<sz→NodeRg n→Fn 49 [vEJ K D,vA7 n] (.data (vA7 (vCM (vCL K D) n))):=by
 intro sz
 induction sz with
 | zero=>intro n h; omega
 | succ sz ih =>
   intro n hsz hn;have hln:=hn.ln;have hkn:=hn.kn;have cp:=zO7 K D n.proof hK hD hn.prf;obtain⟨PF,hPF⟩:∃ PF,vBS (vCL K D) n.proof=PF:=⟨_,rfl⟩;rw[zFT,hPF];rw[hPF]at cp;refine zAL vBD hT vQS zsm ?_;refine sus ?_
   (refine zAZ ?_; refine sus ?_)
   refine zBB cp rfl ?_;refine sus ?_;refine vBT [] [(2,.cptr (vEJ K D) 0),(3,.cptr (vA7 n) 0),(4,.ptr 0 0 0),(5,.ptr 1 0 0)] [(0,⟨[.agg [.nilsl,.int .i64 0,.int .i64 0,.bool false,.nilsl,.nilsl,.nilsl,.bool false,.nilsl]],9,true⟩),(1,⟨[vHY n .nilsl .nilsl (.own 2 0 PF.length)],9,true⟩),(2,⟨PF.map vBC,7,true⟩)] [] 3 zdd zsm trivial ?_ ?_
   ·exact⟨[2,12,10],[0,1],[(2,.cptr (vEJ K D) 0),(3,.cptr (vA7 n) 0)],[],⟨⟨⟨_,rfl⟩,⟨_,rfl⟩,trivial⟩,⟨⟨6,[0],rfl,rfl⟩,⟨6,[1],zD3 rfl,rfl⟩,trivial⟩,trivial⟩,⟨zAG rfl,zAG rfl,apx,apx,trivial⟩,
     ⟨bbx,zAH zdd rfl (zCF vK1 vK1 (zG1 zdd rfl zsm)) rfl rfl,zAF zdd rfl rfl (zCL _) rfl,trivial⟩,by simp[ren]⟩
   refine sts ?_
   refine zCR hT [(.cl 1 0 0,6,true)] (fun(i:Nat)=>[(2,.cptr (vEJ K D) 0),(3,.cptr (vA7 n) 0),(4,.ptr 0 0 0),(5,.ptr 1 0 0),(6,.int .i64 i)])
    (fun i=>[(0,⟨[.agg [.nilsl,.int .i64 0,.int .i64 0,.bool false,.nilsl,.nilsl,.nilsl,.bool false,.nilsl]],9,true⟩),(1,⟨[vHY n (.own 3 0 i) .nilsl (.own 2 0 PF.length)],9,true⟩),(2,⟨PF.map vBC,7,true⟩),(3,⟨((n.lemmas.take i).map (vDJ (vCL K D))).map vBA,6,true⟩)]) [] 4
    (fun i=>i≤n.lemmas.length) (fun i=>n.lemmas.length - i) 0 (Nat.zero_le _) zdd zsm ⟨_,_,rfl,rfl,rfl,trivial⟩ ?_ ?_
   ·exact⟨[0,1,2,_],[],[],[],ttt,⟨zAG rfl,zAG rfl,(apy rfl),(apy rfl),zAC rfl rfl,trivial⟩,
     ⟨bbx,zAH zdd rfl (zCF (zG1 zdd rfl rfl) vK1 (zG1 zdd rfl rfl)) rfl rfl,zAF zdd rfl rfl (zCL _) rfl,zAF zdd rfl rfl (zE7 _) rfl,trivial⟩,by simp[ren]⟩
   intro i hi;by_cases hi':i<n.lemmas.length
   ·have hlm:n.lemmas[i]! ∈ n.lemmas:=zA7 hi'
    have hlI:((n.lemmas.take i).map (vDJ (vCL K D))).length=i:=by simp; omega
    have cl:=zO7 K D n.lemmas[i]!.proof hK hD (hn.lem _ hlm);refine sus ?_;refine zAZ ?_; (repeat' (first|refine stu ?_|with_reducible(refine brr ?_ ?_<;>intro h)));all_goals try(conv=>whnf)
    ·(refine zAZ ?_; refine sus ?_)
     (refine zAZ ?_; refine sus ?_)
     refine zBB cl rfl ?_;refine sus ?_
     refine vBT [] [(2,.cptr (vEJ K D) 0),(3,.cptr (vA7 n) 0),(4,.ptr 0 0 0),(5,.ptr 1 0 0),(6,.int .i64 i),(7,.ptr 4 0 0)]
      [(0,⟨[.agg [.nilsl,.int .i64 0,.int .i64 0,.bool false,.nilsl,.nilsl,.nilsl,.bool false,.nilsl]],9,true⟩),(1,⟨[vHY n (.own 3 0 i) .nilsl (.own 2 0 PF.length)],9,true⟩),(2,⟨PF.map vBC,7,true⟩),(3,⟨((n.lemmas.take i).map (vDJ (vCL K D))).map vBA,6,true⟩),(4,⟨[vBA (vDJ (vCL K D) n.lemmas[i]!)],6,true⟩)] [] 5 zdd zsm trivial ?_ ?_
     ·exact⟨[0,1,2,3,14],[19],[],[(14,[vBA (vDJ (vCL K D) n.lemmas[i]!)])],⟨⟨⟨_,rfl⟩,trivial⟩,trivial,⟨⟨_,6,[19],rfl,zAD (ks:=[19]) (ls:=[]) (vOD rfl (List.length_map _)) rfl,rfl⟩,trivial⟩⟩,⟨zAG rfl,zAG rfl,apx,apx,zAC rfl rfl,apx,trivial⟩,
       ⟨bbx,zAH zdd rfl (zCF (zG1 zdd rfl rfl) vK1 (zG1 zdd rfl rfl)) rfl rfl,zAF zdd rfl rfl (zCL _) rfl,zAF zdd rfl rfl (zE7 _) rfl,bbx,trivial⟩,by simp[ren]⟩
     refine sts ?_
     exact⟨i+1,⟨zom,zom⟩,[0,1,2,_],[],[],[],ttt,⟨zAG rfl,zAG rfl,(apy rfl),(apy rfl),zAC rfl zom,trivial⟩,
      ⟨bbx,zAH zdd rfl (zCF (zG1 zdd rfl rfl) vK1 (zG1 zdd rfl rfl)) rfl rfl,zAF zdd rfl rfl (zCL _) rfl,zAF zdd rfl (by rw[← zMC hi',List.map_append]; rfl) (zE7 _) rfl,trivial⟩,by simp[ren]⟩
    ·exfalso; omega
   ·obtain rfl:i=n.lemmas.length:=by omega
    rw[List.take_length];obtain⟨LM,hLM⟩:∃ LM,n.lemmas.map (vDJ (vCL K D))=LM:=⟨_,rfl⟩;have hLl:LM.length=n.lemmas.length:=by rw[← hLM]; simp
    rw[hLM]
    (refine gob ?_ ?_<;>intro h)
    all_goals try (exfalso; omega)
    refine zCR hT [(.cl 1 0 6,9,true)] (fun(i:Nat)=>[(2,.cptr (vEJ K D) 0),(3,.cptr (vA7 n) 0),(4,.ptr 0 0 0),(5,.ptr 1 0 0),(8,.int .i64 i)])
     (fun i=>[(0,⟨[.agg [.nilsl,.int .i64 0,.int .i64 0,.bool false,.nilsl,.nilsl,.nilsl,.bool false,.nilsl]],9,true⟩),(1,⟨[vHY n (.own 3 0 n.lemmas.length) (.own 4 0 i) (.own 2 0 PF.length)],9,true⟩),(2,⟨PF.map vBC,7,true⟩),(3,⟨LM.map vBA,6,true⟩),(4,⟨((n.kids.take i).map (vCM (vCL K D))).map vBI,9,true⟩)]) [] 5
     (fun i=>i≤n.kids.length) (fun i=>n.kids.length - i) 0 (Nat.zero_le _) zdd zsm ⟨_,_,rfl,rfl,rfl,trivial⟩ ?_ ?_
    ·exact⟨[0,1,2,3,_],[],[],[],ttt,⟨zAG rfl,zAG rfl,(apy rfl),(apy rfl),zAC rfl rfl,trivial⟩,
      ⟨bbx,zAH zdd rfl (zCF (zG1 zdd rfl rfl) (zG1 zdd rfl rfl) (zG1 zdd rfl rfl)) rfl rfl,zAF zdd rfl rfl (zCL _) rfl,zAF zdd rfl rfl (zE7 _) rfl,zAF zdd rfl rfl (zHG _) rfl,trivial⟩,by simp[ren]⟩
    intro i hi;by_cases hi':i<n.kids.length
    ·have hkm:n.kids[i]! ∈ n.kids:=zA7 hi'
     have hkl:((n.kids.take i).map (vCM (vCL K D))).length=i:=by simp; omega
     have ck:=ih n.kids[i]! (by have:=NodeL.sizeOf_kid hkm; omega) (hn.kid _ hkm)
     (refine gon ?_ ?_<;>intro h)
     ·refine zAA ck rfl ?_
      refine sns ?_
      refine⟨i+1,⟨zom,zom⟩,[0,1,2,3,_],[],[],[],ttt,⟨zAG rfl,zAG rfl,(apy rfl),(apy rfl),zAC rfl zom,trivial⟩,
       ⟨bbx,zAH zdd rfl (zCF (zG1 zdd rfl rfl) (zG1 zdd rfl rfl) (zG1 zdd rfl rfl)) rfl rfl,zAF zdd rfl rfl (zCL _) rfl,zAF zdd rfl rfl (zE7 _) rfl,zAF zdd rfl ?_ (zHG _) rfl,trivial⟩,by simp[ren]⟩
      rw[← zMC hi',List.map_append];show _++[vA7 _]=_++[vBI _]
      rw[zBZ]
     all_goals (exfalso; omega)
    ·obtain rfl:i=n.kids.length:=by omega
     rw[List.take_length];have hkl:(n.kids.map (vCM (vCL K D))).length=n.kids.length:=by simp
     obtain⟨KD,hKD⟩:∃ KD,n.kids.map (vCM (vCL K D))=KD:=⟨_,rfl⟩;rw[hKD]at hkl ⊢
     (refine gon ?_ ?_<;>intro h)
     all_goals try (exfalso; omega)
     exact zAB (uBI (m:=0) (n:=n) rfl rfl rfl hLl.symm hkl.symm rfl) rfl
theorem vHS{α:Type}[Inhabited α]{f:α→Bool}{l:List α}(h:∀ j,j<l.length→f l[j]! = false):l.any f=false:=by
 rw[List.any_eq_false];intro m hm;obtain⟨j,hj,rfl⟩:=List.getElem_of_mem hm;have:=h j hj;rw[getElem!_pos l j hj]at this;simp[this]
theorem any_some{α:Type}[Inhabited α]{f:α→Bool}{l:List α}{i:Nat}(h:i<l.length)(hf:f l[i]! = true):l.any f=true:=List.any_eq_true.2 ⟨_,zA7 h,hf⟩
theorem uBJ{h:Hp}{m q a sz2:Nat}{g2:Bool}{n:NodeL}{L:List LemL}{K:List NodeL}{P:List MultL}(h2:h q=some ⟨K.map vBI,sz2,g2⟩)(ha:a=K.length) :
 frz h (m+4) (vHY n (.imm (L.map vBA)) (.own q 0 a) (.imm (P.map vBC)))=some (vA7 (.mk L n.split K n.empty P),[q]) :=
 zCA (zAD (ks:=[]) rfl (zAD (ks:=[]) rfl (zAD (ks:=[]) rfl (zAD (ks:=[]) rfl (zAD (ks:=[]) rfl (zAD (ks:=[]) rfl (zAD (zAJ h2 rfl ha (fun x=>zH3 x)) (zAD (ks:=[]) rfl (zAD (ks:=[]) rfl rfl)))))))))
theorem vY3{ρ:Nat→Nat}{k:Nat}{es:List PV}:rn ρ k 2 (.imm es) (.imm es):=by rw[vTB]
def isP(p:Int)(r:RowL):Bool:=decide (r.kind=4∧r.index=p)
def vC2(l:List MultL)(p:Int):Bool:=l.any fun m=>isP p m.row
mutual
def onN:NodeL→Int→Bool
 | .mk l _ ks _ pr,p=>l.any (fun m=>vC2 m.proof p) || onK ks p || vC2 pr p
def onK:List NodeL→Int→Bool
 | [],_=>false
 | k::ks,p=>onN k p || onK ks p
end
theorem vUB(p:Int):∀ ks:List NodeL,onK ks p=ks.any (fun n=>onN n p)
 | []=>rfl
 | n::ks=>by simp only[onK,List.any_cons,vUB p ks]
theorem vIV(n:NodeL)(p:Int):onN n p=(n.lemmas.any (fun m=>vC2 m.proof p) || n.kids.any (fun n=>onN n p) || vC2 n.proof p):=by
 cases n
 simp only[onN,vUB];rfl
abbrev okB(o:Bool):Blk:=⟨[.bool o],1,false⟩
abbrev uNG(p:Int):PV:=.func (.func 139) [] [.ptr 0 0 0,.cptr (.int .i64 p) 0]
theorem zJO:FO 139 Tryz.f139 [.cell 4 70] 24:=mkO Tryz.func139 Tryz.ntmps139 Tryz.results139
theorem uBY(r:RowL)(p:Int)(o:Bool)(hp:vFH p)(h0:0≤p)(hi:vQ5 r):Fn 139 [vBG r,.ptr 0 0 0,.cptr (.int .i64 p) 0] (.wrt (okB o) (vBG (vCL (-1) p r)) (okB (o && !isP p r))):=by
 obtain⟨kind,index,lo,hi'⟩:=r;obtain⟨hi1,hi2⟩:=hi;dsimp only at hi1 hi2;have hp2:=hp.2;have e1:∀ i:Int,(if 0≤p∧kind=4 then vDT index p else index)=i→vCL (-1) p ⟨kind,index,lo,hi'⟩=⟨kind,i,lo,hi'⟩:=fun i h=>by unfold vCL; rw[h]; rfl
 have e2:isP p ⟨kind,index,lo,hi'⟩=decide (kind=4∧index=p):=rfl;by_cases hk:kind=4
 ·subst hk
  simp only[h0,true_and,and_self,if_true]at e1;unfold vDT at e1;by_cases hlt:p<index
  ·rw[e1 (index - 1) (by rw[if_pos hlt]),show isP p ⟨4,index,lo,hi'⟩=false by rw[e2]; exact decide_eq_false zom]
   cases o
   all_goals
    refine zH8 vBD hT zJO (by simp[vBG]) ?_
    (refine gob ?_ ?_<;>intro h)
    all_goals try (exfalso; omega)
    all_goals try (exfalso; simp_all; done)
    all_goals exact zK1 rfl rfl rfl (by first | rfl | (simp_all; done) | (simp_all; omega)) rfl (fun e he=>by simp at he; subst he; rfl)
  ·rw[e1 index (by rw[if_neg hlt])]
   by_cases heq:index=p
   ·rw[show isP p ⟨4,index,lo,hi'⟩=true by rw[e2]; exact decide_eq_true ⟨rfl,heq⟩]
    cases o
    all_goals
     refine zH8 vBD hT zJO (by simp[vBG]) ?_
     (refine gob ?_ ?_<;>intro h)
     all_goals try (exfalso; omega)
     all_goals try (exfalso; simp_all; done)
     all_goals exact zK1 rfl rfl rfl (by first | rfl | (simp_all; done) | (simp_all; omega)) rfl (fun e he=>by simp at he; subst he; rfl)
   ·rw[show isP p ⟨4,index,lo,hi'⟩=false by rw[e2]; exact decide_eq_false (fun h=>heq h.2)]
    cases o
    all_goals
     refine zH8 vBD hT zJO (by simp[vBG]) ?_
     (refine gob ?_ ?_<;>intro h)
     all_goals try (exfalso; omega)
     all_goals try (exfalso; simp_all; done)
     all_goals exact zK1 rfl rfl rfl (by first | rfl | (simp_all; done) | (simp_all; omega)) rfl (fun e he=>by simp at he; subst he; rfl)
 ·rw[e2,e1 index (by rw[if_neg (fun h:0≤p∧kind=4=>hk h.2)]),decide_eq_false (fun h=>hk h.1)]
  refine zH8 vBD hT zJO (by simp[vBG]) ?_
  (repeat' (first|refine stp ?_|with_reducible(refine brr ?_ ?_<;>intro h)));all_goals try(conv=>whnf)
  all_goals try (exfalso; omega)
  exact zK1 rfl rfl rfl zsm rfl (fun e he=>by simp at he; subst he; rfl)
theorem zN5{ρ:Nat→Nat}{k:Nat}{t:Tm}{j:Nat}{fn:Go.Fn}{e:PV}{o:Nat}{r r':Nat}(hr:r<k)(h:t j=.func fn [] [.ptr r' 0 0,.cptr e o])(e2:r'=ρ r):at' ρ k t j (.func fn [] [.ptr r 0 0,.cptr e o]):=by subst e2; unfold at'; rw[h]; exact⟨rfl,trivial,⟨hr,rfl⟩,rfl,trivial⟩
theorem vP2{l:List MultL}{i:Nat}(h:i<l.length)(p:Int):vC2 (l.take (i+1)) p=(vC2 (l.take i) p || isP p l[i]!.row):=by
 rw[List.take_succ_eq_append_getElem h,getElem!_pos l i h];unfold vC2;rw[List.any_append]
 simp
theorem vOQ(l:List MultL)(p:Int)(o:Bool)(hp:vFH p)(h0:0≤p)(hl:vC4 l):Fn 57 [.imm (l.map vBC),uNG p] (.wrt (okB o) (.imm ((vBS (vCL (-1) p) l).map vBC)) (okB (o && !vC2 l p))):=by
 have hln:=hl.1;refine zH8 vBD hT vNR zsm ?_;refine sts ?_
 refine zCR hT [(.sl 5,7,true)] (fun(i:Nat)=>[(1,uNG p),(5,.own 1 0 i),(8,.imm (l.map vBC)),(9,.int .i64 l.length),(10,.int .i64 i)]) (fun i=>[(0,okB (o && !vC2 (l.take i) p)),(1,⟨(vBS (vCL (-1) p) (l.take i)).map vBC,7,true⟩)]) [] 2
  (fun i=>i≤l.length) (fun i=>l.length - i) 0 (Nat.zero_le _) zdd zsm ⟨rfl,trivial⟩ ?_ ?_
 ·exact⟨[_],[],[],[],ttt,⟨zN5 zdd rfl rfl,zA0 zdd rfl rfl,zAE rfl rfl,zAC rfl zsm,zAC rfl rfl,trivial⟩,⟨zEQ zdd rfl (by simp[vC2]) rfl rfl rfl,zAF zdd rfl rfl (zCL _) rfl,trivial⟩,by simp[ren]⟩
 intro i hi;have hlen:(vBS (vCL (-1) p) (l.take i)).length=i:=by simp[vBS]; omega
 by_cases h0':i<l.length
 ·have c1:=uBY l[i]!.row p (o && !vC2 (l.take i) p) hp h0 (hl.2 _ (zA7 h0')).2
  (refine gob ?_ ?_<;>intro h)
  ·refine zLB (r:=0) (ks:=[]) c1 rfl rfl rfl rfl (fun e he=>by simp at he; subst he; rfl) (fun i=>by simp[vCS]) ?_
   refine sts ?_
   exact⟨i+1,⟨zom,zom⟩,[_],[],[],[],ttt,⟨zN5 zdd rfl rfl,zA0 zdd rfl rfl,zAE rfl rfl,zAC rfl rfl,zAC rfl zom,trivial⟩,
    ⟨zEQ zdd rfl (by rw[vP2 h0']; simp[Bool.not_or,Bool.and_assoc]) rfl rfl rfl,zAF zdd rfl (zKP h0') (zCL _) rfl,trivial⟩,by simp[ren]⟩
  all_goals (exfalso; omega)
 ·obtain rfl:i=l.length:=by omega
  rw[List.take_length];refine sus ?_;refine zAZ ?_; (repeat' (first|refine stu ?_|with_reducible(refine brr ?_ ?_<;>intro h)));all_goals try(conv=>whnf)
  ·exfalso; omega
  refine vBT [] [(5,.imm ((vBS (vCL (-1) p) l).map vBC))] [(0,okB (o && !vC2 l p))] [] 1 zdd zsm trivial ?_ ?_
  ·exact⟨[],[1],[(5,.imm ((vBS (vCL (-1) p) l).map vBC))],[],⟨⟨⟨_,rfl⟩,trivial⟩,⟨⟨6,[1],zAJ rfl rfl (by simp[vBS]) (fun x=>zJZ x),rfl⟩,trivial⟩,trivial⟩,⟨zAE rfl rfl,trivial⟩,⟨bbx,trivial⟩,by simp[ren]⟩
  refine sts ?_;exact zK1 rfl rfl rfl rfl rfl (fun e he=>by simp at he; subst he; rfl)
open Go.Proofs Go.PI
theorem uBK{h:Hp}{n r sz:Nat}{ag:Bool}{v:Int}(hr:h r=some ⟨[.int .i64 v],sz,ag⟩):frz h (n+4) (.ptr r 0 0)=some (.cptr (.int .i64 v) 0,[r]):=by
 show frz h (n+3+1) (.ptr r 0 0)=_
 unfold frz;simp only[hr,List.getElem?_cons_zero];rfl
theorem uBH{h:Hp}{m r q a sz sz2:Nat}{g1 g2:Bool}{n:NodeL}{L:List LemL}{K:List NodeL}{P:List MultL}(h1:h r=some ⟨L.map vBA,sz,g1⟩)(h2:h q=some ⟨K.map vBI,sz2,g2⟩)(ha:a=K.length) :
 frz h (m+4) (vHY n (.own r 0 L.length) (.own q 0 a) (.imm (P.map vBC)))=some (vA7 (.mk L n.split K n.empty P),[r,q]) :=
 zCA (zAD (zAJ h1 rfl rfl (fun x=>zNF x)) (zAD (ks:=[]) rfl (zAD (ks:=[]) rfl (zAD (ks:=[]) rfl (zAD (ks:=[]) rfl (zAD (ks:=[]) rfl (zAD (zAJ h2 rfl ha (fun x=>zH3 x)) (zAD (ks:=[]) rfl (zAD (ks:=[]) rfl rfl)))))))))
abbrev uL5(p:Int)(r:Nat):PV:=.func (.func 139) [] [.ptr r 0 0,.cptr (.int .i64 p) 0]
theorem vZR:FO 104 Tryz.f104 [.cell 4 32,.tmp 5] 70:=mkO Tryz.func104 Tryz.ntmps104 Tryz.results104
theorem uHM (p:Int) (hp:vFH p) (h0:0≤p):∀ (sz:Nat) (n:NodeL),SizeOf.sizeOf n<sz→NodeRg n→Fn 104 [vA7 n,.int .i64 p] (.data (.tup [vA7 (vCM (vCL (-1) p) n),.bool (!onN n p)])):=by
 intro sz
 induction sz with
 | zero=>intro n h; omega
 | succ sz ih =>
   intro n hsz hn;have hln:=hn.ln;have hkn:=hn.kn;rw[zFT,vIV];refine zAL vBD hT vZR zsm ?_;refine sus ?_;refine vBT [] [(2,.cptr (vA7 n) 0),(3,.cptr (.int .i64 p) 0),(4,.ptr 0 0 0)] [(0,⟨[.agg [.nilsl,.int .i64 0,.int .i64 0,.bool false,.nilsl,.nilsl,.nilsl,.bool false,.nilsl]],9,true⟩)] [] 1 zdd zsm trivial ?_ ?_
   ·exact⟨[2],[0,1],[(2,.cptr (vA7 n) 0),(3,.cptr (.int .i64 p) 0)],[],⟨⟨⟨_,rfl⟩,⟨_,rfl⟩,trivial⟩,⟨⟨6,[0],zD3 rfl,rfl⟩,⟨6,[1],uBK rfl,rfl⟩,trivial⟩,trivial⟩,⟨zAG rfl,zAG rfl,apx,trivial⟩,
     ⟨bbx,trivial⟩,by simp[ren]⟩
   refine sus ?_
   (refine zAZ ?_; refine sus ?_)
   (refine zAZ ?_; refine sus ?_)
   refine vJ1 (r:=1) (vOQ n.proof p true hp h0 hn.prf) rfl rfl rfl rfl (fun e he=>by simp at he; subst he; rfl) zdd ?_;refine sus ?_
   (refine zAZ ?_; refine sus ?_)
   obtain⟨PF,hPF⟩:∃ PF,vBS (vCL (-1) p) n.proof=PF:=⟨_,rfl⟩;obtain⟨po,hpo⟩:∃ po,vC2 n.proof p=po:=⟨_,rfl⟩;rw[hPF,hpo]
   refine vBT [] [(2,.cptr (vA7 n) 0),(3,.cptr (.int .i64 p) 0),(4,.ptr 0 0 0),(6,.ptr 1 0 0),(7,uL5 p 1),(8,.ptr 2 0 0),(26,.imm (n.lemmas.map vBA)),(27,.int .i64 n.lemmas.length),(28,.int .i64 0)]
    [(0,⟨[.agg [.nilsl,.int .i64 0,.int .i64 0,.bool false,.nilsl,.nilsl,.nilsl,.bool false,.nilsl]],9,true⟩),(1,okB (!po)),(2,⟨[vHY n .nilsl .nilsl (.imm (PF.map vBC))],9,true⟩)] [] 3 zdd zsm trivial ?_ ?_
   ·exact⟨[0,1,14],[],[],[],ttt,⟨zAG rfl,zAG rfl,apx,apx,zN5 zdd rfl rfl,apx,zAE rfl rfl,zAC rfl zsm,zAC rfl rfl,trivial⟩,
     ⟨bbx,bbx,zAH zdd rfl (zCF vK1 vK1 vY3) rfl rfl,trivial⟩,by simp[ren]⟩
   refine sts ?_
   refine zCR hT [(.cl 2 0 0,6,true)] (fun(i:Nat)=>[(2,.cptr (vA7 n) 0),(3,.cptr (.int .i64 p) 0),(4,.ptr 0 0 0),(6,.ptr 1 0 0),(7,uL5 p 1),(8,.ptr 2 0 0),(26,.imm (n.lemmas.map vBA)),(27,.int .i64 n.lemmas.length),(28,.int .i64 i)])
    (fun i=>[(0,⟨[.agg [.nilsl,.int .i64 0,.int .i64 0,.bool false,.nilsl,.nilsl,.nilsl,.bool false,.nilsl]],9,true⟩),(1,okB (!po && !(n.lemmas.take i).any fun m=>vC2 m.proof p)),(2,⟨[vHY n (.own 3 0 i) .nilsl (.imm (PF.map vBC))],9,true⟩),(3,⟨((n.lemmas.take i).map (vDJ (vCL (-1) p))).map vBA,6,true⟩)]) [] 4
    (fun i=>i≤n.lemmas.length) (fun i=>n.lemmas.length - i) 0 (Nat.zero_le _) zdd zsm ⟨_,_,rfl,rfl,rfl,trivial⟩ ?_ ?_
   ·exact⟨[0,1,2,_],[],[],[],ttt,⟨zAG rfl,zAG rfl,(apy rfl),(apy rfl),zN5 zdd rfl rfl,(apy rfl),zAE rfl rfl,zAC rfl rfl,zAC rfl rfl,trivial⟩,
     ⟨bbx,zEQ zdd rfl zsm rfl rfl rfl,zAH zdd rfl (zCF (zG1 zdd rfl rfl) vK1 vY3) rfl rfl,zAF zdd rfl rfl (zE7 _) rfl,trivial⟩,by simp[ren]⟩
   intro i hi;by_cases hi':i<n.lemmas.length
   ·have hlm:n.lemmas[i]! ∈ n.lemmas:=zA7 hi'
    have hlen:((n.lemmas.take i).map (vDJ (vCL (-1) p))).length=i:=by simp; omega
    have eany:(n.lemmas.take (i+1)).any (fun m=>vC2 m.proof p)=((n.lemmas.take i).any (fun m=>vC2 m.proof p) || vC2 n.lemmas[i]!.proof p):=by
     rw[List.take_succ_eq_append_getElem hi',getElem!_pos n.lemmas i hi',List.any_append]; simp
    have cr:=vOQ n.lemmas[i]!.proof p (!po && !(n.lemmas.take i).any fun m=>vC2 m.proof p) hp h0 (hn.lem _ hlm)
    (refine gob ?_ ?_<;>intro h)
    ·refine vJ1 (r:=1) cr rfl rfl rfl rfl (fun e he=>by simp at he; subst he; rfl) zdd ?_
     refine sts ?_
     refine⟨i+1,⟨zom,zom⟩,[0,1,2,_],[],[],[],ttt,⟨zAG rfl,zAG rfl,(apy rfl),(apy rfl),zN5 zdd rfl rfl,(apy rfl),zAE rfl rfl,zAC rfl rfl,zAC rfl zom,trivial⟩,
      ⟨bbx,zEQ zdd rfl (by rw[eany,Bool.not_or,Bool.and_assoc]) rfl rfl rfl,zAH zdd rfl (zCF (zG1 zdd rfl rfl) vK1 vY3) rfl rfl,zAF zdd rfl ?_ (zE7 _) rfl,trivial⟩,by simp[ren]⟩
     rw[← zMC hi',List.map_append];rfl
    all_goals (exfalso; omega)
   ·obtain rfl:i=n.lemmas.length:=by omega
    obtain⟨LM,hLM⟩:∃ LM,n.lemmas.map (vDJ (vCL (-1) p))=LM:=⟨_,rfl⟩;have hll:LM.length=n.lemmas.length:=by rw[← hLM]; simp
    obtain⟨pl,hpl⟩:∃ pl,(n.lemmas.any fun m=>vC2 m.proof p)=pl:=⟨_,rfl⟩;rw[List.take_length,hLM,hpl,← hll]
    (refine gob ?_ ?_<;>intro h)
    all_goals try (exfalso; omega)
    refine zCR hT [(.cl 2 0 6,9,true)] (fun(i:Nat)=>[(2,.cptr (vA7 n) 0),(3,.cptr (.int .i64 p) 0),(4,.ptr 0 0 0),(6,.ptr 1 0 0),(7,uL5 p 1),(8,.ptr 2 0 0),(45,.imm (n.kids.map vBI)),(46,.int .i64 n.kids.length),(47,.int .i64 i)])
     (fun i=>[(0,⟨[.agg [.nilsl,.int .i64 0,.int .i64 0,.bool false,.nilsl,.nilsl,.nilsl,.bool false,.nilsl]],9,true⟩),(1,okB (!po && !pl && !(n.kids.take i).any fun m=>onN m p)),(2,⟨[vHY n (.own 3 0 LM.length) (.own 4 0 i) (.imm (PF.map vBC))],9,true⟩),(3,⟨LM.map vBA,6,true⟩),(4,⟨((n.kids.take i).map (vCM (vCL (-1) p))).map vBI,9,true⟩)]) [] 5
     (fun i=>i≤n.kids.length) (fun i=>n.kids.length - i) 0 (Nat.zero_le _) zdd zsm ⟨_,_,rfl,rfl,rfl,trivial⟩ ?_ ?_
    ·exact⟨[0,1,2,3,_],[],[],[],ttt,⟨zAG rfl,zAG rfl,(apy rfl),(apy rfl),zN5 zdd rfl rfl,(apy rfl),zAE rfl rfl,zAC rfl zsm,zAC rfl rfl,trivial⟩,
      ⟨bbx,zEQ zdd rfl zsm rfl rfl rfl,zAH zdd rfl (zCF (zG1 zdd rfl rfl) (zG1 zdd rfl rfl) vY3) rfl rfl,zAF zdd rfl rfl (zE7 _) rfl,zAF zdd rfl rfl (zHG _) rfl,trivial⟩,by simp[ren]⟩
    intro i hi;by_cases hi':i<n.kids.length
    ·have hkm:n.kids[i]! ∈ n.kids:=zA7 hi'
     have hlen:((n.kids.take i).map (vCM (vCL (-1) p))).length=i:=by simp; omega
     have eany:(n.kids.take (i+1)).any (fun m=>onN m p)=((n.kids.take i).any (fun m=>onN m p) || onN n.kids[i]! p):=by
      rw[List.take_succ_eq_append_getElem hi',getElem!_pos n.kids i hi',List.any_append]; simp
     have ck:=ih n.kids[i]! (by have:=NodeL.sizeOf_kid hkm; omega) (hn.kid _ hkm)
     (refine gon ?_ ?_<;>intro h)
     ·refine zAA ck rfl ?_
      (refine gon ?_ ?_<;>intro h)
      all_goals
       refine⟨i+1,⟨zom,zom⟩,[0,1,2,3,_],[],[],[],ttt,⟨zAG rfl,zAG rfl,(apy rfl),(apy rfl),zN5 zdd rfl rfl,(apy rfl),zAE rfl rfl,zAC rfl rfl,zAC rfl zom,trivial⟩,
        ⟨bbx,zEQ zdd rfl (by rw[eany]; revert h; cases po<;>cases pl<;>cases ((n.kids.take i).any fun m=>onN m p)<;>simp) rfl rfl rfl,zAH zdd rfl (zCF (zG1 zdd rfl rfl) (zG1 zdd rfl rfl) vY3) rfl rfl,zAF zdd rfl rfl (zE7 _) rfl,zAF zdd rfl ?_ (zHG _) rfl,trivial⟩,by simp[ren]⟩
       rw[← zMC hi',List.map_append];show _++[vA7 _]=_++[vBI _]
       rw[zBZ]
     all_goals (exfalso; omega)
    ·obtain rfl:i=n.kids.length:=by omega
     obtain⟨KD,hKD⟩:∃ KD,n.kids.map (vCM (vCL (-1) p))=KD:=⟨_,rfl⟩;have hkl:KD.length=n.kids.length:=by rw[← hKD]; simp
     obtain⟨pk,hpk⟩:∃ pk,(n.kids.any fun m=>onN m p)=pk:=⟨_,rfl⟩;rw[List.take_length,hKD,hpk];refine sus ?_;refine zAZ ?_; (repeat' (first|refine stu ?_|with_reducible(refine brr ?_ ?_<;>intro h)));all_goals try(conv=>whnf)
     ·exfalso; omega
     refine vBT [] [(4,.ptr 0 0 0),(6,.ptr 1 0 0),(8,.ptr 2 0 0)] [(0,⟨[.agg [.nilsl,.int .i64 0,.int .i64 0,.bool false,.nilsl,.nilsl,.nilsl,.bool false,.nilsl]],9,true⟩),(1,okB (!po && !pl && !pk)),(2,⟨[vA7 (.mk LM n.split KD n.empty PF)],9,true⟩)] [] 3 zdd zsm trivial ?_ ?_
     ·exact⟨[0,1,2],[3,4],[],[(2,[vA7 (.mk LM n.split KD n.empty PF)])],⟨⟨⟨_,rfl⟩,⟨_,rfl⟩,trivial⟩,trivial,⟨⟨_,6,[3,4],rfl,zAD (ks:=[3,4]) (ls:=[]) (uBH rfl rfl hkl.symm) rfl,rfl⟩,trivial⟩⟩,⟨apx,apx,apx,trivial⟩,
       ⟨bbx,bbx,bbx,trivial⟩,by simp[ren]⟩
     refine sns ?_;refine zAB rfl (congrArg (fun b=>PV.tup [vA7 (.mk LM n.split KD n.empty PF),.bool b]) ?_);cases po<;>cases pl<;>cases pk<;>rfl
def vBY(n:NodeL)(i:Nat)(p:Int):NodeL:=.mk (n.lemmas++(vCM (vCL (-1) p) n.kids[i]!).lemmas) (vCM (vCL (-1) p) n.kids[i]!).split (vCM (vCL (-1) p) n.kids[i]!).kids (vCM (vCL (-1) p) n.kids[i]!).empty (vCM (vCL (-1) p) n.kids[i]!).proof
theorem uF0:FO 71 Tryz.f71 [.cell 6 32,.tmp 7] 29:=mkO Tryz.func71 Tryz.ntmps71 Tryz.results71
theorem uKY(n:NodeL)(i:Nat)(p:Int)(hp:vFH p)(h0:0≤p)(hn:NodeRg n)(hi:i<n.kids.length):Fn 71 [vA7 n,.int .i64 i,.int .i64 p] (.data (.tup [vA7 (vBY n i p),.bool (!onN n.kids[i]! p)])):=by
 have hln:=hn.ln;have hkn:=hn.kn;have hkm:n.kids[i]! ∈ n.kids:=zA7 hi;have cs:=uHM p hp h0 _ n.kids[i]! (Nat.lt_succ_self _) (hn.kid _ hkm);have cc:=vRI vBA (fun h n x=>zNF x) (fun x=>⟨rfl,rfl⟩) n.lemmas hln
 have hkl:(vCM (vCL (-1) p) n.kids[i]!).lemmas.length<2097152:=by
  rw[zFT];show((n.kids[i]!).lemmas.map _).length<_
  rw[List.length_map];exact(hn.kid _ hkm).ln
 refine zAL vBD hT uF0 zsm ?_;unfold vBY;generalize vCM (vCL (-1) p) n.kids[i]! = K at *
 refine sns ?_
 ·refine zAA cs rfl ?_
  refine sns ?_;refine zBB cc rfl ?_;refine sns ?_;exact zAB (zJY (zAD (zCA (zAD (zAJ (f:=vBA) (l:=n.lemmas++K.lemmas) rfl (by rw[List.map_append]) zsm (fun x=>zNF x)) rfl)) rfl)) rfl
 all_goals (exfalso; omega)
end Go.PI.Tryz
