/-
  The definition's splits, Splits.
-/
import Derived.Test.YtbelmkceegmdjaaGreatDoorCPD
import Derived.Test.YtbelmkceegmdjaaGreatDoorCTR
import Derived.Test.YtbelmkceegmdjaaGreatDoorCTQ
import Derived.Test.YtbelmkceegmdjaaGreatDoorCPE
set_option linter.unusedVariables false
set_option linter.unusedSimpArgs false
set_option linter.unnecessarySimpa false
set_option maxHeartbeats 0
namespace Go.PI.Tryz
open Go.Proofs Go.PI
def vE9(v:List DecL×NodeL):List PV:=[.imm (v.1.map vA9),vA7 v.2]
abbrev uLP{xs:List (List PV)}{k:Nat}(Y:Cons Tryz.prog xs k):vA8:=FnY Tryz.prog G0 Y
theorem vKN(x:NodeL):∀ (b a:Nat),a≤b→b≤x.kids.length→∃ r,x.upto b=x.upto a++r:=by
 intro b
 induction b with
 | zero =>
   intro a h _;have e:a=0:=by omega
   subst e; exact⟨[],zsm⟩
 | succ b ih =>
   intro a h hb;by_cases e:a=b+1
   ·subst e; exact⟨[],zsm⟩
   ·obtain⟨r,hr⟩:=ih a zom zom
    exact⟨_,by rw[x.upto_succ zom,hr,List.append_assoc]⟩
theorem vTZ(p:List DecL)(a b:List (List DecL×NodeL)):pre p (a++b)=pre p a++pre p b:=by simp[pre]
theorem vZC(path:List DecL)(x:NodeL){m:Nat}(hm:m<x.kids.length):pre path (x.upto (m+1))=pre path (x.upto m)++pre (path++[vCR x m]) x.kids[m]!.all:=by
 rw[x.upto_succ hm,vTZ]
 congr 1
 simp only[pre,List.map_map];refine List.map_congr_left fun q _=>?_
 simp
theorem vYK{xs:List (List PV)}{path:List DecL}{x:NodeL}{i m:Nat}(hm:m<x.kids.length)(hxs:∀ m v,(pre path x.all)[m]?=some v→xs[i+m]?=some (vE9 v)) :
 ∀ m' v,(pre (path++[vCR x m]) x.kids[m]!.all)[m']?=some v→xs[i+(x.upto m).length+m']?=some (vE9 v):=by
 intro m' v hv
 have:=hxs ((x.upto m).length+m') v (by
  obtain⟨r,hr⟩:=vKN x x.kids.length (m+1) zom (Nat.le_refl _)
  rw[x.all_eq,hr,vTZ,vZC path x hm,List.append_assoc,List.getElem?_append_right (by rw[vTY]; omega),vTY,Nat.add_sub_cancel_left,
   List.getElem?_append_left (List.getElem?_eq_some_iff.1 hv).1]
  exact hv)
 rw[← Nat.add_assoc]at this;exact this
theorem vZP:FO 108 Tryz.f108 [.tmp 6] 32:=mkO Tryz.func108 Tryz.ntmps108 Tryz.results108
theorem uHJ {xs:List (List PV)} {k:Nat} (Y:Cons Tryz.prog xs k):∀ (n:Nat) (path:List DecL) (x:NodeL) (i:Nat),SizeOf.sizeOf x<n→x.Sm→path.length+x.wt<2097151→i≤k →
 (∀ m v,(pre path x.all)[m]?=some v→xs[i+m]?=some (vE9 v)) →
 uLP Y 108 [.imm (path.map vA9),vA7 x,.func (.yield Y.l) [] []] (.gh i (min (i+x.all.length) (k+1)) (decide (i+x.all.length≤k))):=by
 intro n
 induction n with
 | zero=>intro p x i h; omega
 | succ n ih =>
   intro path x i hx hs hw hik hxs;have hl:=hs.len;have hal:=vXY _ x (Nat.lt_succ_self _)
   have hyield:xs[i]?=some (vE9 (path,x)):=by
    have:=hxs 0 (path++[],x) (by rw[x.all_eq]; simp[pre,NodeL.upto])
    simpa using this
   refine vZB vBD hT vZP Y zsm (fun _=>by simp) ?_;refine sns ?_;refine zBB (show uLP Y _ _ _ from zIE vA9 (fun _ _ x=>zEP x) (fun _=>⟨rfl,rfl⟩) path zom) rfl ?_;refine sns ?_;refine vRV (vWF Y hyield hik) (zAD (zAJ rfl rfl zsm (fun x=>zEP x)) rfl) rfl ?_
   (refine gon ?_ ?_<;>intro h)
   ·refine vQ0 hT (fun m:Nat=>[(0,.imm (path.map vA9)),(2,.func (.yield Y.l) [] []),(4,.ptr 1 0 0),(16,.imm (x.kids.map vBI)),(17,.int .i64 x.kids.length),(18,.int .i64 m)]) (fun m=>[(0,vCS (i+(x.upto m).length)),(1,⟨[vA7 x],9,true⟩)]) [] 2 (fun m=>m≤x.kids.length∧i+(x.upto m).length≤k) (fun m=>x.kids.length - m) 0 ⟨zsm,by rw[NodeL.upto_zero]; simp; omega⟩ zdd zsm ?_ ?_
    ·refine⟨[1],[],[],[],ttt,⟨zAE rfl rfl,vXS rfl,apx,zAE rfl rfl,zAC rfl zsm,zAC rfl rfl,trivial⟩,
      ⟨zEQ zdd rfl (by simp[NodeL.upto_zero]) rfl rfl rfl,bbx,trivial⟩,by simp[ren]⟩
    ·intro m hm
     have hul:=hal.2 m;have hul1:=hal.2 (m+1)
     (refine gon ?_ ?_<;>intro h)
     ·have hm':m<x.kids.length:=by omega
      have hkm:x.kids[m]! ∈ x.kids:=zA7 hm';have hwk:=uCJ hkm;refine zBB (show uLP Y _ _ _ from uK3 path x m zom) rfl ?_;refine sns ?_;refine vOO (ih (path++[vCR x m]) x.kids[m]! (i+(x.upto m).length) (by have:=NodeL.sizeOf_kid hkm; omega) (hs.kid hkm) (by simp only[List.length_append,List.length_singleton]; omega) hm.2 (vYK hm' hxs)) (zAD (zAJ rfl rfl zsm (fun x=>zEP x)) rfl) rfl ?_;have hlen:(x.upto (m+1)).length=(x.upto m).length+x.kids[m]!.all.length:=by rw[x.upto_succ hm',List.length_append,List.length_map]
      obtain⟨j,hj⟩:∃ j,min (i+(x.upto m).length+x.kids[m]!.all.length) (k+1)=j:=⟨_,rfl⟩;rw[hj]
      (refine gon ?_ ?_<;>intro h)
      ·have hj':j=i+(x.upto (m+1)).length:=by omega
       refine⟨m+1,⟨⟨zom,zom⟩,zom⟩,[1],[],[],[],ttt,⟨zAE rfl rfl,vXS rfl,apx,zAE rfl rfl,zAC rfl rfl,zAC rfl zom,trivial⟩,
        ⟨zEQ zdd rfl (by rw[hj']) rfl rfl rfl,bbx,trivial⟩,by simp[ren]⟩
      ·have hle:(x.upto (m+1)).length≤x.all.length:=by
        obtain⟨r,hr⟩:=vKN x x.kids.length (m+1) zom (Nat.le_refl _);rw[x.all_eq,hr,List.length_append]; omega
       have e1:decide (i+x.all.length≤k)=false:=decide_eq_false zom;have e2:min (i+x.all.length) (k+1)=j:=by omega
       rw[e1,e2];exact⟨rfl,rfl⟩
     ·have hall:x.all.length=(x.upto m).length:=by rw[x.all_eq,show m=x.kids.length by omega]
      have e1:decide (i+x.all.length≤k)=true:=decide_eq_true zom;have e2:min (i+x.all.length) (k+1)=i+(x.upto m).length:=by omega
      rw[e1,e2];exact⟨rfl,rfl⟩
   ·have h1:1≤x.all.length:=by
     obtain⟨r,hr⟩:=vKN x x.kids.length 0 zom (Nat.le_refl _);rw[x.all_eq,hr,List.length_append,NodeL.upto_zero]; simp
    have hik':i=k:=by omega
    have e1:decide (i+x.all.length≤k)=false:=decide_eq_false zom;have e2:min (i+x.all.length) (k+1)=i+1:=by omega
    rw[e1,e2];exact⟨rfl,rfl⟩
theorem vZN:FO 107 Tryz.f107 [] 8:=mkO Tryz.func107 Tryz.ntmps107 Tryz.results107
theorem uHI(x:NodeL)(hs:x.Sm)(hw:x.wt<2097151):Fn 107 [.cptr (vA7 x) 0] (.seq ((vFZ x).map vE9)):=by
 refine uEM vBD hT vZN zsm fun k Y=>?_
 refine sns ?_;refine zAA (show uLP Y _ _ _ from zLC x hs) rfl ?_
 (refine gon ?_ ?_<;>intro h)
 ·have hall:vFZ x=x.all:=by simp[vFZ,h]
  refine vOO (uHJ Y _ [] x 0 (Nat.lt_succ_self _) hs (by simpa using hw) (Nat.zero_le _) (fun m v hv=>by
   rw[pre_nil]at hv
   rw[hall,Nat.zero_add,List.getElem?_map,hv]; rfl)) rfl rfl ?_
  obtain⟨j,hj⟩:∃ j,min (0+x.all.length) (k+1)=j:=⟨_,rfl⟩;obtain⟨b,hb⟩:∃ b,decide (0+x.all.length≤k)=b:=⟨_,rfl⟩;rw[hj,hb];refine sns ?_;have e:min ((vFZ x).map vE9).length (k+1)=j:=by rw[List.length_map,hall,← hj,Nat.zero_add]
  refine Eq.trans ?_ (congrArg (fun n=>some (vCS n)) e.symm);exact rfl
 ·have hall:vFZ x=[]:=by simp[vFZ,h]
  have e:min ((vFZ x).map vE9).length (k+1)=0:=by rw[List.length_map,hall]; simp
  refine Eq.trans ?_ (congrArg (fun n=>some (vCS n)) e.symm);exact rfl
theorem uGD:FO 73 Tryz.f73 [.tmp 2] 4:=mkO Tryz.func73 Tryz.ntmps73 Tryz.results73
theorem uK8(x:NodeL):Fn 73 [vA7 x] (.data (.func (.func 107) [] [.cptr (vA7 x) 0])):=by
 refine zAL vBD hT uGD zsm ?_;refine sns ?_;exact zAB rfl rfl
abbrev vEB:Blk:=⟨[.agg [.nilsl,.int .i64 0,.int .i64 0,.bool false,.nilsl,.nilsl,.nilsl,.bool false,.nilsl]],9,true⟩
theorem vVS{g:PV→Option (PV×List Nat)}{α:Type}{f:α→PV}(hf:∀ x,g (f x)=some (f x,[])):∀ l:List α,vB1 g (l.map f)=some (l.map f,[])
 | []=>rfl
 | a::l=>by rw[List.map_cons]; exact zAD (hf a) (vVS hf l)
theorem vJD{g:PV→Option (PV×List Nat)}{c d:PV}{ks:List Nat}(h1:g c=some (d,ks)):∀ {l ds:List PV},vB1 g l=some (ds,[])→vB1 g (l++[c])=some (ds++[d],ks)
 | [],ds,h=>by
   have:ds=[]:=by simp[vB1]at h; exact h
   subst this;have:=zAD (f:=g) (cs:=[]) (ds:=[]) (ls:=[]) h1 rfl
   simpa using this
 | a::l,ds,h=>by
   simp only[vB1]at h
   split at h
   ·rename_i d1 k1 ds1 k2 e1 e2
    simp only[Option.some.injEq,Prod.mk.injEq,List.append_eq_nil_iff]at h;obtain⟨rfl,rfl,rfl⟩:=h;exact zAD e1 (vJD h1 e2)
   ·cases h
theorem uH4(k:NodeL):k.all.filter (fun q=>decide (q.1.length=0))=[([],k)]:=by
 rw[NodeL.all,List.filter_cons];simp only[List.length_nil,decide_true,if_true]
 congr 1
 rw[List.filter_eq_nil_iff];intro q hq;simp only[List.mem_flatMap,List.mem_map]at hq;obtain⟨_,_,r,_,rfl⟩:=hq
 simp
theorem uH3{y:NodeL}(hk:y.kids.length=2):y.all.filter (fun q=>decide (q.1.length=1))=[([vCR y 0],y.kids[0]!),([vCR y 1],y.kids[1]!)]:=by
 have e:∀ (d:DecL) (k:NodeL),(k.all.map fun q=>(d::q.1,q.2)).filter (fun q=>decide (q.1.length=1))=[([d],k)]:=fun d k=>by
  have:=uH4 k;rw[List.filter_map]
  have e2:((fun q:List DecL×NodeL=>decide (q.1.length=1))∘fun q:List DecL×NodeL=>(d::q.1,q.2))=fun q=>decide (q.1.length=0):=by
   funext q; simp
  rw[e2,this]; rfl
 rw[y.all_eq,hk,y.upto_succ zom,y.upto_succ zom,NodeL.upto_zero,List.filter_append,List.filter_append,e,e]
 simp
def vJI(p:List DecL)(y:NodeL)(i:Nat):List (List DecL):=(((vFZ y).take i).filter fun q=>decide (q.1.length=1)).map fun q=>p++q.1
theorem vV2{p:List DecL}{y:NodeL}{i:Nat}{v:List DecL×NodeL}(h:(vFZ y)[i]?=some v):vJI p y (i+1)=vJI p y i++(if v.1.length=1 then [p++v.1] else []):=by
 obtain⟨hlt,hve⟩:=List.getElem?_eq_some_iff.1 h;unfold vJI;rw[List.take_succ_eq_append_getElem hlt,hve,List.filter_append,List.map_append]
 congr 1
 by_cases h1:v.1.length=1<;>simp[h1]
theorem uA8{p:List DecL}{y:NodeL}{i:Nat}:(vJI p y i).length≤(vFZ y).length:=by
 unfold vJI;rw[List.length_map];have h1:=List.length_filter_le (fun q:List DecL×NodeL=>decide (q.1.length=1)) ((vFZ y).take i);have h2:((vFZ y).take i).length≤(vFZ y).length:=by simp; omega
 omega
abbrev vLH(p:List DecL):PV:=.imm (p.map vA9)
def vRT(m y:NodeL)(p:List DecL)(i:Nat):List (Nat×Blk):=if vJI p y i=[] then [(0,⟨[vA7 m],9,true⟩),(1,vEB),(2,⟨[.nilsl],1,false⟩)] else [(0,⟨[vA7 m],9,true⟩),(1,vEB),(2,⟨[.own 3 0 (vJI p y i).length],1,false⟩),(3,⟨(vJI p y i).map vLH,1,false⟩)]
def vPW(y:NodeL)(p:List DecL)(i:Nat):Nat:=if vJI p y i=[] then 3 else 4
theorem uEU(y:NodeL)(p:List DecL)(i:Nat):3≤vPW y p i:=by unfold vPW; split<;>omega
theorem vUP:FnOkJ Tryz.prog 39 Tryz.f39 (Tryz.f39.body.getD .skip) [.cell 6 32] 92:=⟨Tryz.func39,rfl,zdd,Tryz.ntmps39,Tryz.results39,by kernel_rfl⟩
theorem uBB (q:QryL) (P V v:Nat) (hvV:v≤V) (hq:szQ q P) (hB:P+2 * V+20≤20000000):∀ (f:Nat) (n x:NodeL) (p:List DecL),x.cnt<f→AccT q P V v n→atF n p=some x →
 ∃ n',vCF (vCW (vCA ⟨q,[],[]⟩ n p) x) n p=some n'∧Fn 39 [vBK q,vA7 n,.imm (p.map vA9)] (.data (vA7 n')):=by
 intro f
 induction f with
 | zero=>intro n x p h; omega
 | succ f ih =>
   intro n x p hf hA hat;obtain⟨N',hN'⟩:=zL8 (w:=vCW (vCA ⟨q,[],[]⟩ n p) x) hat;refine⟨N',hN',zPC (zPB (K:=fun v s=>gives s.h v (vA7 N')) ((?_:FnM Tryz.prog G0 39 [vBK q,vA7 n,.imm (p.map vA9)] (fun v s' _=>vFJ s'.h v (vA7 N')) (start [vBK q,vA7 n,.imm (p.map vA9)]) []).mono fun _ _ _ h=>by unfold vFJ at h; exact h))⟩;have hpl:=at_len p n x 2048 (zCD hA.val).1 hat;obtain⟨S,hS⟩:∃ S,vCA ⟨q,[],[]⟩ n p=S:=⟨_,rfl⟩;have q4:∀ {m:NodeL},AccT q P V v m→m.Sm∧NodeRg m:=fun h=>zI5 _ _ _ (Nat.lt_succ_self _) (Nat.le_refl _) h.z h.tok
   refine uLH vUP (by simp[vBK]) ?_
   refine vR3 vBD hT (fun m:NodeL=>[(3,.cptr (vBK q) 0),(4,.ptr 0 0 0),(5,.cptr (.imm (p.map vA9)) 0),(6,.ptr 1 0 0)]) (fun m=>[(0,⟨[vA7 m],9,true⟩),(1,vEB)]) [] 2
    (fun m=>AccT q P V v m∧vCA ⟨q,[],[]⟩ m p=S∧∃ y,atF m p=some y∧y.cnt≤x.cnt∧vCF (vCW S y) m p=some N') NodeL.cnt (by kernel_rfl) ?_ ?_ ?_ ?_
   ·decide
   ·simp
   ·refine sns ?_
    refine⟨n,⟨hA,hS,x,hat,Nat.le_refl _,by rw[← hS]; exact hN'⟩,?_⟩
    exact⟨[1,3],[0,2],[(3,.cptr (vBK q) 0),(5,.cptr (.imm (p.map vA9)) 0)],[],⟨⟨⟨_,rfl⟩,⟨_,rfl⟩,trivial⟩,⟨⟨6,[0],zK8 rfl rfl,rfl⟩,⟨6,[2],zK8 rfl rfl,rfl⟩,trivial⟩,trivial⟩,⟨zAG rfl,apx,zAG rfl,apx,trivial⟩,
     ⟨bbx,bbx,trivial⟩,by simp[ren]⟩
   ·intro m ⟨hAm,hSm,y,haty,hcy,hrep⟩
    have hsm:=q4 hAm
    have ca:Fn 70 [vA7 m,.imm (p.map vA9)] (.data (.tup [vA7 y,.bool true])):=by
     have h1:atV m p=some y:=by unfold atV; rw[if_pos hAm.val]; exact haty
     have:=uN0 m p hsm.1 zom;rw[h1]at this;exact this
    refine zAV (zBR vBD hT (by kernel_rfl) ?_);refine sns ?_;refine zAA ca rfl ?_;refine sns ?_;refine vE4 [] [(3,.cptr (vBK q) 0),(4,.ptr 0 0 0),(5,.cptr (.imm (p.map vA9)) 0),(6,.ptr 1 0 0),(7,.cptr (vA7 y) 0)] [(0,⟨[vA7 m],9,true⟩),(1,vEB)] [] 2 zdd zsm trivial ?_ ?_
    ·exact⟨[0,1],[8],[(7,.cptr (vA7 y) 0)],[],⟨⟨⟨_,rfl⟩,trivial⟩,⟨⟨6,[8],zD3 rfl,rfl⟩,trivial⟩,trivial⟩,⟨zAG rfl,apx,zAG rfl,apx,zAG rfl,trivial⟩,⟨bbx,bbx,trivial⟩,by simp[ren]⟩
    have hym:y.valid=true:=zL4 hAm.val haty;obtain⟨_,hyz⟩:=zOZ (H:=fun _ n=>NodeZ P V v 1048576 n) (nx:=fun c _=>c) (fun c n k h hk=>(h.kid k hk).more _ _ _ _ (Nat.lt_succ_self _) zom) p m 0 hAm.z haty;obtain⟨_,hyt⟩:=zOZ (H:=fun _ n=>Tok n) (nx:=fun c _=>c) (fun c n k h hk=>h.kid k hk) p m 0 hAm.tok haty
    have hy2:y.kids.length=0∨y.kids.length=2:=by
     by_cases h0:y.kids.length=0
     ·exact Or.inl h0
     ·exact Or.inr (zD0 h0 (zCD hym).1).1
    refine vYF vBD hT (by kernel_rfl) ?_
    (refine gon ?_ ?_<;>intro h)
    ·refine zAB rfl ?_
     have h0:y.kids.length=0:=by omega
     rw[zI7 h0,vNE p m y haty]at hrep;cases hrep
     rfl
    ·have hk2:y.kids.length=2:=by omega
     refine vCY (zAV (zAV (zBR vBD hT (by kernel_rfl) ?_)));refine sns ?_;refine vCY (zCC ?_);refine zF0 (fun i:Nat=>[(3,.cptr (vBK q) 0),(4,.ptr 0 0 0),(5,.cptr (.imm (p.map vA9)) 0),(6,.ptr 1 0 0),(7,.cptr (vA7 y) 0),(32,.imm (y.kids.map vBI)),(33,.int .i64 2),(34,.int .i64 i)]) (fun _=>[(0,⟨[vA7 m],9,true⟩),(1,vEB)]) [] 2 (fun _=>[]) (fun i=>i≤2∧∀ j,j<i→vDB S y j=false) (fun i=>2 - i) 0 ⟨zom,fun j hj=>by omega⟩ zdd zsm ?_ rfl ?_
     ·exact⟨[0,1],[],[],[],ttt,⟨zAG rfl,apx,zAG rfl,apx,zAG rfl,zAE rfl rfl,zAC rfl (by rw[List.length_map,hk2]; rfl),zAC rfl rfl,trivial⟩,⟨bbx,bbx,trivial⟩,by simp[ren]⟩
     intro i ⟨hi,hno⟩;refine zAV (zBR vBD hT (by kernel_rfl) ?_);refine sns ?_;by_cases hi2:i<2
     ·have hik:i<y.kids.length:=by omega
      obtain⟨m',r1,r2,r3,r4,r5,r6,r7,r8,r9,r10⟩:=vQ1 hAm haty hik;have hsm':=zI5 _ _ _ (Nat.lt_succ_self _) (Nat.le_refl _) r4 r5;have hsw:=zI5 _ _ _ (Nat.lt_succ_self _) (Nat.le_refl _) r8 r9;have hsy:=zL4 hAm.val haty;obtain⟨W,hW⟩:∃ W,vBY y i p.length=W:=⟨_,rfl⟩
      have cl:Fn 71 [vA7 y,.int .i64 i,.int .i64 ((p.map vA9).length:Nat)] (.data (.tup [vA7 (vBY y i p.length),.bool (!onN y.kids[i]! p.length)])):=by
       rw[List.length_map];exact uKY y i p.length ⟨zom,zom⟩ zom (zI5 _ _ _ (Nat.lt_succ_self _) (Nat.le_refl _) hyz hyt).2 hik
      have hSp:S.path=p:=by rw[← hSm]; exact vY0 haty
      have hg1:onN y.kids[i]! p.length=true→vDB S y i=false:=fun h=>by unfold vDB; rw[hSp,h]; rfl
      have hg2:vBE S W≠none→vDB S y i=false:=fun h=>by
       unfold vDB;rw[hSp,hW];cases hb:vBE S W with
       | none=>exact absurd hb h
       | some _=>simp
      have hg3:onN y.kids[i]! p.length=false→vBE S W=none→vDB S y i=true:=fun h1 h2=>by unfold vDB; rw[hSp,hW,h1,h2]; rfl
      have hlt:vDB S y i=false→∀ j,j<i+1→vDB S y j=false:=fun h j hj=>by
       rcases Nat.lt_or_eq_of_le (Nat.le_of_lt_succ hj) with g | rfl
       ·exact hno j g
       ·exact h
      have cr:=vRB W m p hsm.1 (by rw[← hW]; exact hsw.1) zom;have ct:=vXJ q m' P V v hvV hq hsm'.1 (by have:=(zCD r3).2; omega) r4 zom;rw[hW]at cl r1 r2 r10;rw[r2]at cr;rw[hSm]at r10;rw[r10]at ct;refine vCY (zAV (zBR vBD hT (by kernel_rfl) ?_))
      (refine gon ?_ ?_<;>intro h)
      all_goals try (exfalso; omega)
      refine vCY (zAV (zCC (zAV (zBR vBD hT (by kernel_rfl) ?_))));refine sns ?_;refine vCY (zAV (zBR vBD hT (by kernel_rfl) ?_));refine sns ?_;refine zAA cl rfl ?_;refine sns ?_;refine vE4 [] [(3,.cptr (vBK q) 0),(4,.ptr 0 0 0),(5,.cptr (.imm (p.map vA9)) 0),(6,.ptr 1 0 0),(7,.cptr (vA7 y) 0),(32,.imm (y.kids.map vBI)),(33,.int .i64 2),(34,.int .i64 i),(10,.cptr (vA7 W) 0),(11,.bool (!onN y.kids[i]! p.length))] [(0,⟨[vA7 m],9,true⟩),(1,vEB)] [] 2 zdd zsm trivial ?_ ?_
      ·exact⟨[0,1],[13],[(10,.cptr (vA7 W) 0)],[],⟨⟨⟨_,rfl⟩,trivial⟩,⟨⟨6,[13],zD3 rfl,rfl⟩,trivial⟩,trivial⟩,⟨zAG rfl,apx,zAG rfl,apx,zAG rfl,zAE rfl rfl,zAC rfl rfl,zAC rfl rfl,zAG rfl,zAI rfl rfl,trivial⟩,⟨bbx,bbx,trivial⟩,by simp[ren]⟩
      refine zAV (zBR vBD hT (by kernel_rfl) ?_)
      (refine gon ?_ ?_<;>intro h)
      ·refine vCY (zBR vBD hT (by kernel_rfl) ?_)
       refine sns ?_;exact⟨i+1,⟨⟨zom,hlt (hg1 (by simp_all))⟩,zom⟩,⟨[0,1],[],[],[],ttt,⟨zAG rfl,apx,zAG rfl,apx,zAG rfl,zAE rfl rfl,zAC rfl rfl,zAC rfl zom,trivial⟩,⟨bbx,bbx,trivial⟩,by simp[ren]⟩,rfl⟩
      ·refine vCY (zAV (zBR vBD hT (by kernel_rfl) ?_))
       have hon:onN y.kids[i]! p.length=false:=by simp_all
       refine sns ?_;refine zAA cr rfl ?_;refine sns ?_;refine vE4 [] [(3,.cptr (vBK q) 0),(4,.ptr 0 0 0),(5,.cptr (.imm (p.map vA9)) 0),(6,.ptr 1 0 0),(7,.cptr (vA7 y) 0),(32,.imm (y.kids.map vBI)),(33,.int .i64 2),(34,.int .i64 i),(12,.cptr (vA7 m') 0),(13,.int .i64 0)] [(0,⟨[vA7 m],9,true⟩),(1,vEB)] [] 2 zdd zsm trivial ?_ ?_
       ·exact⟨[0,1],[11],[(12,.cptr (vA7 m') 0)],[],⟨⟨⟨_,rfl⟩,trivial⟩,⟨⟨6,[11],zD3 rfl,rfl⟩,trivial⟩,trivial⟩,⟨zAG rfl,apx,zAG rfl,apx,zAG rfl,zAE rfl rfl,zAC rfl rfl,zAC rfl rfl,zAG rfl,zAC rfl rfl,trivial⟩,⟨bbx,bbx,trivial⟩,by simp[ren]⟩
       refine zAV (zBR vBD hT (by kernel_rfl) ?_);refine sns ?_;refine vCY (zAV (zBR vBD hT (by kernel_rfl) ?_));cases hbw:vBE S W with
       | some pb =>
         rw[hbw]at ct;refine sns ?_;refine zAA ct rfl ?_;refine sns ?_;refine vE4 [] [(3,.cptr (vBK q) 0),(4,.ptr 0 0 0),(5,.cptr (.imm (p.map vA9)) 0),(6,.ptr 1 0 0),(7,.cptr (vA7 y) 0),(32,.imm (y.kids.map vBI)),(33,.int .i64 2),(34,.int .i64 i),(12,.cptr (vA7 m') 0),(15,.int .i64 12)] [(0,⟨[vA7 m],9,true⟩),(1,vEB)] [] 2 zdd zsm trivial ?_ ?_
         ·exact⟨[0,1],[],[],[],ttt,⟨zAG rfl,apx,zAG rfl,apx,zAG rfl,zAE rfl rfl,zAC rfl rfl,zAC rfl rfl,zAG rfl,zAC rfl rfl,trivial⟩,⟨bbx,bbx,trivial⟩,by simp[ren]⟩
         refine zAV (zBR vBD hT (by kernel_rfl) ?_);refine sns ?_;refine vCY (zI1 (t:=false) rfl rfl (fun h=>by cases h) (fun _=>?_));refine zI0 ?_;refine vCY (zBR vBD hT (by kernel_rfl) ?_);refine sns ?_;exact⟨i+1,⟨⟨zom,hlt (hg2 (by rw[hbw]; simp))⟩,zom⟩,⟨[0,1],[],[],[],ttt,⟨zAG rfl,apx,zAG rfl,apx,zAG rfl,zAE rfl rfl,zAC rfl rfl,zAC rfl zom,trivial⟩,⟨bbx,bbx,trivial⟩,by simp[ren]⟩,rfl⟩
       | none =>
         rw[hbw]at ct;refine sns ?_;refine zAA ct rfl ?_;refine sns ?_;refine vE4 [] [(3,.cptr (vBK q) 0),(4,.ptr 0 0 0),(5,.cptr (.imm (p.map vA9)) 0),(6,.ptr 1 0 0),(7,.cptr (vA7 y) 0),(32,.imm (y.kids.map vBI)),(33,.int .i64 2),(34,.int .i64 i),(12,.cptr (vA7 m') 0),(15,.int .i64 0)] [(0,⟨[vA7 m],9,true⟩),(1,vEB)] [] 2 zdd zsm trivial ?_ ?_
         ·exact⟨[0,1],[],[],[],ttt,⟨zAG rfl,apx,zAG rfl,apx,zAG rfl,zAE rfl rfl,zAC rfl rfl,zAC rfl rfl,zAG rfl,zAC rfl rfl,trivial⟩,⟨bbx,bbx,trivial⟩,by simp[ren]⟩
         refine zAV (zBR vBD hT (by kernel_rfl) ?_);refine sns ?_;refine vCY (zI1 (t:=true) rfl rfl (fun _=>?_) (fun h=>by cases h));refine zAV (zBR vBD hT (by kernel_rfl) ?_);refine sns ?_;refine vCY (vYI ?_);have hfi:=zNG hik (hg3 hon hbw) hno;have hsp:=zDV hfi;rw[hSp,hW]at hsp;have hcw:=zDL (p:=p.length) hik;rw[hW]at hcw;exact⟨rfl,rfl,m',⟨⟨uCH hAm haty hik (by rw[hW]; exact r1) (by rw[hSm,hW]; exact hbw),(zMX p m m' _ r1).trans hSm,W,vXR p m m' r1,zom,by rw[vK4 p m m' r1,← hsp]; exact hrep⟩,r6⟩,⟨[0,1],[],[],[],ttt,⟨zAG rfl,apx,zAG rfl,apx,trivial⟩,⟨bbx,bbx,trivial⟩,by simp[ren]⟩⟩
     ·obtain rfl:i=2:=by omega
      have hfn:vCI S y=none:=zIV (fun j hj=>hno j zom);refine vCY (zAV (zBR vBD hT (by kernel_rfl) ?_));refine sns ?_
      all_goals try (exfalso; omega)
      refine vE4 [] [(3,.cptr (vBK q) 0),(4,.ptr 0 0 0),(5,.cptr (.imm (p.map vA9)) 0),(6,.ptr 1 0 0),(7,.cptr (vA7 y) 0)] [(0,⟨[vA7 m],9,true⟩),(1,vEB)] [] 2 zdd zsm trivial ?_ ?_
      ·exact⟨[0,1],[],[],[],ttt,⟨zAG rfl,apx,zAG rfl,apx,zAG rfl,trivial⟩,⟨bbx,bbx,trivial⟩,by simp[ren]⟩
      refine vYJ vBD hT (by kernel_rfl) ?_;refine sns ?_;refine zAA (uK8 y) rfl ?_;refine sns ?_;have hsy:=zI5 _ _ _ (Nat.lt_succ_self _) (Nat.le_refl _) hyz hyt;have hwy:y.wt<2097151:=by have:=uIR p m y haty; have:=hAm.wt; omega
      have hav:vFZ y=y.all:=if_pos hym;have hal:(vFZ y).length≤2097151:=by rw[hav]; have:=(vXY _ y (Nat.lt_succ_self _)).1; omega
      have k00:vJI p y 0=[]:=rfl;refine vK7 hT [(3,.cptr (vBK q) 0),(4,.ptr 0 0 0),(5,.cptr (.imm (p.map vA9)) 0),(6,.ptr 1 0 0),(7,.cptr (vA7 y) 0),(16,.ptr 2 0 0),(67,.func (.func 107) [] [.cptr (vA7 y) 0])] (vRT m y p) [] 3 (xs:=(vFZ y).map vE9) ((vFZ y).map vE9).length (vPW y p) (if_pos k00) (uEU y p) zdd zsm zsm ?_ rfl rfl (uHI y hsy.1 hwy) (by simp only[List.mem_map]; rintro _ ⟨v,_,rfl⟩; rfl) ?_ ?_ ?_
      ·rw[show vRT m y p 0=_ from if_pos k00]
       exact⟨[0,1,2],[],[],[],ttt,⟨zAG rfl,apx,zAG rfl,apx,zAG rfl,apx,zEG rfl,trivial⟩,⟨bbx,bbx,bbx,trivial⟩,by simp[ren]⟩
      ·intro i v0 hv0 hi
       obtain⟨v,hv,rfl⟩:∃ v,(vFZ y)[i]?=some v∧v0=vE9 v:=by
        rw[List.getElem?_map]at hv0;obtain⟨v,h1,h2⟩:=Option.map_eq_some_iff.1 hv0;exact⟨v,h1,h2.symm⟩
       have hsu:=vV2 (p:=p) hv;have hlen:=uA8 (p:=p) (y:=y) (i:=i);have cd:=zIE vA9 (fun _ _ x=>zEP x) (fun _=>⟨rfl,rfl⟩) p zom;by_cases hv1:v.1.length=1
       ·rw[if_pos hv1]at hsu
        have hne:vJI p y (i+1)≠[]:=by rw[hsu]; simp
        by_cases hb:vJI p y i=[]
        ·rw[show vRT m y p i=_ from if_pos hb,show vPW y p i=3 from if_pos hb]
         rw[hb,List.nil_append]at hsu
         (refine gon ?_ ?_<;>intro h)
         all_goals try (exfalso; omega)
         refine zBB cd rfl ?_;refine sns ?_;rw[show vRT m y p (i+1)=_ from if_neg hne,show vPW y p (i+1)=4 from if_neg hne,hsu];exact⟨[13],[11],[],[(13,[vLH (p++v.1)])],⟨⟨⟨_,rfl⟩,trivial⟩,trivial,⟨⟨_,6,[11],rfl,zAD (ks:=[11]) (ls:=[]) (zAJ (f:=vA9) (l:=p++v.1) rfl (by rw[List.map_append]) zsm (fun x=>zEP x)) rfl,rfl⟩,trivial⟩⟩,trivial,⟨bbx,bbx,zAH zdd rfl (by rw[zDR]; exact⟨zdd,rfl⟩) rfl rfl,zAF zdd rfl rfl (fun e he=>by obtain⟨x,_,rfl⟩:=List.mem_map.1 he; exact⟨rfl,zsm⟩) rfl,trivial⟩,by simp[ren]⟩
        ·rw[show vRT m y p i=_ from if_neg hb,show vPW y p i=4 from if_neg hb]
         (refine gon ?_ ?_<;>intro h)
         all_goals try (exfalso; omega)
         refine zBB cd rfl ?_;refine sns ?_;rw[show vRT m y p (i+1)=_ from if_neg hne,show vPW y p (i+1)=4 from if_neg hne,hsu];exact⟨[14],[12],[],[(14,(vJI p y i).map vLH++[vLH (p++v.1)])],⟨⟨⟨_,rfl⟩,trivial⟩,trivial,⟨⟨_,6,[12],rfl,vJD (zAJ (f:=vA9) (l:=p++v.1) rfl (by rw[List.map_append]) zsm (fun x=>zEP x)) (vVS (fun x=>rfl) _),rfl⟩,trivial⟩⟩,trivial,⟨bbx,bbx,zAH zdd rfl (by rw[zDR,List.length_append]; exact⟨zdd,rfl⟩) rfl rfl,zAF zdd rfl (by rw[List.map_append]; rfl) (fun e he=>by obtain⟨x,_,rfl⟩:=List.mem_map.1 he; exact⟨rfl,zsm⟩) rfl,trivial⟩,by simp[ren]⟩
       ·rw[if_neg hv1,List.append_nil]at hsu
        rw[show vRT m y p (i+1)=vRT m y p i by unfold vRT; rw[hsu],show vPW y p (i+1)=vPW y p i by unfold vPW; rw[hsu]];by_cases hb:vJI p y i=[]
        ·rw[show vRT m y p i=_ from if_pos hb,show vPW y p i=3 from if_pos hb]
         (refine gon ?_ ?_<;>intro h)
         all_goals try (exfalso; omega)
         exact⟨[],[],[],[],ttt,trivial,⟨bbx,bbx,bbx,trivial⟩,by simp[ren]⟩
        ·rw[show vRT m y p i=_ from if_neg hb,show vPW y p i=4 from if_neg hb]
         (refine gon ?_ ?_<;>intro h)
         all_goals try (exfalso; omega)
         exact⟨[3],[],[],[],ttt,trivial,⟨bbx,bbx,zAH zdd rfl (by rw[zDR]; exact⟨zdd,rfl⟩) rfl rfl,zAF zdd rfl rfl (fun e he=>by obtain⟨x,_,rfl⟩:=List.mem_map.1 he; exact⟨rfl,zsm⟩) rfl,trivial⟩,by simp[ren]⟩
      ·intro v0 hv0
       simp at hv0
      ·intro _
       have hB2:vJI p y ((vFZ y).map vE9).length=[p++[vCR y 0],p++[vCR y 1]]:=by
        unfold vJI;rw[List.length_map,List.take_length,hav,uH3 hk2];rfl
       have hne:vJI p y ((vFZ y).map vE9).length≠[]:=by rw[hB2]; simp
       obtain⟨n1,n2,e1,accN,e3,e4,e5,e6⟩:=vY9 hAm haty hk2 (by rw[hSm]; exact hfn);have k0:=zD4 (n:=y) (i:=0) zom;have k1:=zD4 (n:=y) (i:=1) zom;obtain⟨n1',g1,c0⟩:=ih m _ _ zom hAm e3;obtain⟨n2',g2,c1⟩:=ih n1 _ _ zom accN e4;rw[e1]at g1;rw[e5]at g2;cases g1
       cases g2
       rw[hSm,hrep]at e6;cases e6
       rw[show vRT m y p _=_ from if_neg hne,show vPW y p _=4 from if_neg hne,hB2];refine sns ?_
       refine zAP hT (fun((i,w):Nat×NodeL)=>[(3,.cptr (vBK q) 0),(4,.ptr 0 0 0),(6,.ptr 1 0 0),(80,.imm ([p++[vCR y 0],p++[vCR y 1]].map vLH)),(81,.int .i64 2),(82,.int .i64 i)]) (fun((i,w):Nat×NodeL)=>[(0,⟨[vA7 w],9,true⟩),(1,vEB)]) [] 2
        (fun((i,w):Nat×NodeL)=>(i=0∧w=m)∨(i=1∧w=n1)∨(i=2∧w=N')) (fun((i,w):Nat×NodeL)=>2 - i) (0,m) (Or.inl ⟨rfl,rfl⟩) zdd zsm ?_ ?_
       ·exact⟨[0,1],[3],[(80,.imm ([p++[vCR y 0],p++[vCR y 1]].map vLH))],[],⟨⟨⟨_,rfl⟩,trivial⟩,⟨⟨6,[3],zAJ (f:=vLH) (l:=[p++[vCR y 0],p++[vCR y 1]]) rfl rfl rfl (fun x=>rfl),rfl⟩,trivial⟩,trivial⟩,⟨zAG rfl,apx,apx,zAE rfl rfl,zAC rfl rfl,zAC rfl rfl,trivial⟩,⟨bbx,bbx,trivial⟩,by simp[ren]⟩
       rintro⟨i,w⟩ (⟨rfl,rfl⟩ | ⟨rfl,rfl⟩ | ⟨rfl,rfl⟩)
       ·refine sns ?_
        all_goals try (exfalso; omega)
        refine zAA c0 rfl ?_;refine sns ?_;exact⟨(1,n1),⟨Or.inr (Or.inl ⟨rfl,rfl⟩),(by show 2 - 1<2 - 0; omega)⟩,[0,1],[],[],[],ttt,⟨zAG rfl,apx,apx,zAE rfl rfl,zAC rfl rfl,zAC rfl rfl,trivial⟩,⟨bbx,bbx,trivial⟩,by simp[ren]⟩
       ·refine sns ?_
        all_goals try (exfalso; omega)
        refine zAA c1 rfl ?_;refine sns ?_;exact⟨(2,N'),⟨Or.inr (Or.inr ⟨rfl,rfl⟩),(by show 2 - 2<2 - 1; omega)⟩,[0,1],[],[],[],ttt,⟨zAG rfl,apx,apx,zAE rfl rfl,zAC rfl rfl,zAC rfl rfl,trivial⟩,⟨bbx,bbx,trivial⟩,by simp[ren]⟩
       ·refine sns ?_
        all_goals try (exfalso; omega)
        exact zAB rfl rfl
theorem vSA{q:QryL}{n:NodeL}(h:(vCV q n).2=0):n.valid=true∧VaQ q∧vBE ⟨q,[],[]⟩ n=none:=by
 unfold vCV at h
 split at h
 ·rename_i hv
  split at h
  ·rename_i hb; exact⟨hv.1,hv.2,hb⟩
  ·cases h
 ·cases h
noncomputable def vPP(q:QryL)(n:NodeL):NodeL×Int:=if (vCV q n).2=0 then(vCW ⟨q,[],[]⟩ n,0) else(zeroN,(vCV q n).2)
structure inS(q:QryL)(P V v:Nat)(n:NodeL):Prop where
 q:szQ q P
 hv:v≤V
 B:P+2 * V+20≤20000000
 z:NodeZ P V v 1048576 n
 tok:Tok n
 wt:n.wt≤1048576
theorem inS.sm{q:QryL}{P V v:Nat}{n:NodeL}(h:inS q P V v n):n.Sm∧NodeRg n:=zI5 _ _ _ (Nat.lt_succ_self _) (Nat.le_refl _) h.z h.tok
theorem inS.cnt{q:QryL}{P V v:Nat}{n:NodeL}(h:inS q P V v n):n.cnt≤4194304:=by have:=uDN _ n (Nat.lt_succ_self _); have:=h.wt; omega
theorem inS.tree{q:QryL}{P V v:Nat}{n:NodeL}(h:inS q P V v n):Fn 38 [vBK q,vA7 n] (.data (.tup [.imm ((vCV q n).1.map vA9),.int .i64 (vCV q n).2])):=by
 have:=h.B;exact vXJ q n P V v h.hv h.q h.sm.1 h.cnt h.z zom
theorem zOO:FO 16 Tryz.f16 [.cell 4 32,.tmp 5] 21:=mkO Tryz.func16 Tryz.ntmps16 Tryz.results16
theorem vJ2(q:QryL)(P V v:Nat)(n:NodeL)(h:inS q P V v n):Fn 16 [vBK q,vA7 n] (.data (.tup [vA7 (vPP q n).1,.int .i64 (vPP q n).2])):=by
 have ct:=h.tree;unfold vPP;by_cases h0:(vCV q n).2=0
 ·obtain⟨k1,k2,k3⟩:=vSA h0
  obtain⟨n',g1,cr⟩:=uBB q P V v h.hv h.q h.B _ n n [] (Nat.lt_succ_self _) ⟨k1,k2,k3,h.z,h.tok,h.wt⟩ rfl
  have g2:n'=vCW ⟨q,[],[]⟩ n:=by
   have:vCF (vCW (vCA ⟨q,[],[]⟩ n []) n) n []=some (vCW ⟨q,[],[]⟩ n):=rfl;rw[this]at g1; cases g1; rfl
  rw[if_pos h0,← g2];rw[h0]at ct;refine zAL vBD hT zOO (by simp[vBK]) ?_;refine sns ?_;refine zAA ct rfl ?_;refine sns ?_;refine zAA cr rfl ?_;refine sns ?_;exact zAB rfl rfl
 ·rw[if_neg h0]
  generalize (vCV q n).2=e at *
  refine zAL vBD hT zOO (by simp[vBK]) ?_;refine sns ?_;refine zAA ct rfl ?_
  (refine gon ?_ ?_<;>intro h)
  all_goals try (exfalso; omega)
  exact zAB rfl rfl
theorem vP3{l:List MultL}{p:Int}{i:Nat}(h:i<l.length)(hu:isP p l[i]!.row=true):vC2 l p=true:=any_some (f:=fun m:MultL=>isP p m.row) h hu
theorem vP4{l:List MultL}{p:Int}(h:∀ j,j<l.length→isP p l[j]!.row=false):vC2 l p=false:=vHS h
theorem vU5:FO 87 Tryz.f87 [.tmp 4] 29:=mkO Tryz.func87 Tryz.ntmps87 Tryz.results87
theorem vO3(l:List MultL)(p:Int)(hl:vC4 l):Fn 87 [.imm (l.map vBC),.int .i64 p] (.data (.bool (vC2 l p))):=by
 have hln:=hl.1;refine zAL vBD hT vU5 zsm ?_;refine sts ?_;refine zBA hT (fun i:Nat=>[(0,.imm (l.map vBC)),(1,.int .i64 p),(5,.int .i64 i)]) (fun i=>i≤l.length∧∀ j,j<i→isP p l[j]!.row=false) (fun i=>l.length - i) 0 ⟨Nat.zero_le _,fun j hj=>by omega⟩ ⟨zAE rfl rfl,zAC rfl rfl,zAC rfl rfl,trivial⟩ ?_;intro i ⟨hi,hno⟩;by_cases h0:i<l.length
 ·have hs:isP p l[i]!.row=false→∀ j,j<i+1→isP p l[j]!.row=false:=fun h j hj=>by
   rcases Nat.lt_or_eq_of_le (Nat.le_of_lt_succ hj) with g | rfl
   ·exact hno j g
   ·exact h
  by_cases hP:isP p l[i]!.row=true
  ·have hP2:=hP
   unfold isP at hP2;obtain⟨p1,p2⟩:=of_decide_eq_true hP2
   (repeat' (first|refine stp ?_|with_reducible(refine brr ?_ ?_<;>intro h)));all_goals try(conv=>whnf)
   all_goals try (exfalso; omega)
   exact zAB rfl (congrArg PV.bool (vP3 h0 hP).symm)
  ·have hP2:¬ (l[i]!.row.kind=4∧l[i]!.row.index=p):=fun e=>hP (decide_eq_true e)
   (repeat' (first|refine stp ?_|with_reducible(refine brr ?_ ?_<;>intro h)));all_goals try(conv=>whnf)
   all_goals try (exfalso; omega)
   all_goals exact⟨i+1,⟨⟨zom,hs (by simpa using hP)⟩,zom⟩,zAE rfl rfl,zAC rfl rfl,zAC rfl zom,trivial⟩
 ·obtain rfl:i=l.length:=by omega
  (repeat' (first|refine stp ?_|with_reducible(refine brr ?_ ?_<;>intro h)));all_goals try(conv=>whnf)
  all_goals try (exfalso; omega)
  exact zAB rfl (congrArg PV.bool (vP4 hno).symm)
theorem vLS:FO 48 Tryz.f48 [.tmp 4] 40:=mkO Tryz.func48 Tryz.ntmps48 Tryz.results48
theorem vRG (p:Int):∀ (sz:Nat) (n:NodeL),SizeOf.sizeOf n<sz→NodeRg n→Fn 48 [vA7 n,.int .i64 p] (.data (.bool (onN n p))):=by
 intro sz
 induction sz with
 | zero=>intro n h; omega
 | succ sz ih =>
   intro n hsz hn;have hln:=hn.ln;have hkn:=hn.kn;have cp:=vO3 n.proof p hn.prf;refine zAL vBD hT vLS zsm ?_;refine sns ?_;refine zAP hT (fun i:Nat=>[(1,.int .i64 p),(2,.cptr (vA7 n) 0),(5,.int .i64 i)]) (fun _=>[]) [] 0 (fun i=>i≤n.lemmas.length∧∀ j,j<i→vC2 n.lemmas[j]!.proof p=false) (fun i=>n.lemmas.length - i) 0 ⟨Nat.zero_le _,fun j hj=>by omega⟩ zdd zsm ?_ ?_
   ·exact⟨[],[0],[(2,.cptr (vA7 n) 0)],[],⟨⟨⟨_,rfl⟩,trivial⟩,⟨⟨6,[0],zD3 rfl,rfl⟩,trivial⟩,trivial⟩,⟨zAC rfl rfl,zAG rfl,zAC rfl rfl,trivial⟩,trivial,by simp[ren]⟩
   intro i ⟨hi,hno⟩;by_cases h0:i<n.lemmas.length
   ·have hlm:n.lemmas[i]! ∈ n.lemmas:=zA7 h0
    have cu:=vO3 n.lemmas[i]!.proof p (hn.lem _ hlm)
    (refine gon ?_ ?_<;>intro h)
    ·refine zAA cu rfl ?_
     (refine gon ?_ ?_<;>intro h)
     ·refine zAB rfl (congrArg PV.bool ?_)
      rw[vIV,any_some (f:=fun m=>vC2 m.proof p) h0 (by assumption)];rfl
     ·refine⟨i+1,⟨⟨zom,fun j hj=>?_⟩,by show n.lemmas.length - (i+1)<n.lemmas.length - i; omega⟩,[],[],[],[],ttt,⟨zAC rfl rfl,zAG rfl,zAC rfl zom,trivial⟩,trivial,by simp[ren]⟩
      rcases Nat.lt_or_eq_of_le (Nat.le_of_lt_succ hj) with h | rfl
      ·exact hno j h
      ·assumption
    all_goals (exfalso; omega)
   ·obtain rfl:i=n.lemmas.length:=by omega
    have e1:n.lemmas.any (fun m=>vC2 m.proof p)=false:=vHS hno
    (refine gon ?_ ?_<;>intro h)
    all_goals try (exfalso; omega)
    refine zAP hT (fun i:Nat=>[(1,.int .i64 p),(2,.cptr (vA7 n) 0),(6,.int .i64 i)]) (fun _=>[]) [] 0 (fun i=>i≤n.kids.length∧∀ j,j<i→onN n.kids[j]! p=false) (fun i=>n.kids.length - i) 0 ⟨Nat.zero_le _,fun j hj=>by omega⟩ zdd zsm ?_ ?_
    ·exact⟨[],[],[],[],ttt,⟨zAC rfl rfl,zAG rfl,zAC rfl rfl,trivial⟩,trivial,by simp[ren]⟩
    intro i ⟨hi,hno2⟩;by_cases h0:i<n.kids.length
    ·have hkm:n.kids[i]! ∈ n.kids:=zA7 h0
     have cu:=ih n.kids[i]! (by have:=NodeL.sizeOf_kid hkm; omega) (hn.kid _ hkm)
     (refine gon ?_ ?_<;>intro h)
     ·refine zAA cu rfl ?_
      (refine gon ?_ ?_<;>intro h)
      ·refine zAB rfl (congrArg PV.bool ?_)
       rw[vIV,any_some (f:=fun m=>onN m p) h0 (by assumption)]
       simp
      ·refine⟨i+1,⟨⟨zom,fun j hj=>?_⟩,by show n.kids.length - (i+1)<n.kids.length - i; omega⟩,[],[],[],[],ttt,⟨zAC rfl rfl,zAG rfl,zAC rfl zom,trivial⟩,trivial,by simp[ren]⟩
       rcases Nat.lt_or_eq_of_le (Nat.le_of_lt_succ hj) with h | rfl
       ·exact hno2 j h
       ·assumption
     all_goals (exfalso; omega)
    ·obtain rfl:i=n.kids.length:=by omega
     have e2:n.kids.any (fun m=>onN m p)=false:=vHS hno2
     (refine gon ?_ ?_<;>intro h)
     all_goals try (exfalso; omega)
     refine zAA cp rfl ?_;refine sns ?_;refine zAB rfl (congrArg PV.bool ?_);rw[vIV,e1,e2];rfl
theorem vI0:FO 27 Tryz.f27 [.cell 6 32,.tmp 7] 34:=mkO Tryz.func27 Tryz.ntmps27 Tryz.results27
theorem uB8(n:NodeL)(i:Nat)(p:Int)(hp:vFH p)(h0:0≤p)(hn:NodeRg n)(hi:i<n.kids.length):Fn 27 [vA7 n,.int .i64 i,.int .i64 p] (.data (.tup [vA7 (if onN n.kids[i]! p=true then zeroN else vBY n i p),.bool (!onN n.kids[i]! p)])):=by
 have hln:=hn.ln;have hkn:=hn.kn;have hkm:n.kids[i]! ∈ n.kids:=zA7 hi;have co:=vRG p _ n.kids[i]! (Nat.lt_succ_self _) (hn.kid _ hkm);have cn:=vXM (-1) p ⟨zom,zom⟩ hp _ n.kids[i]! (Nat.lt_succ_self _) (hn.kid _ hkm)
 have hkl:(vCM (vCL (-1) p) n.kids[i]!).lemmas.length<2097152:=by
  rw[zGS,List.length_map];exact(hn.kid _ hkm).ln
 unfold vBY;obtain⟨o,ho⟩:∃ o,onN n.kids[i]! p=o:=⟨_,rfl⟩;rw[ho]at co ⊢;generalize vCM (vCL (-1) p) n.kids[i]! = K at *
 cases o with
 | true =>
   refine zAL vBD hT vI0 zsm ?_;refine sns ?_
   all_goals try (exfalso; omega)
   refine zAA co rfl ?_;refine sns ?_;exact zAB rfl rfl
 | false =>
   refine zAL vBD hT vI0 zsm ?_;refine sns ?_
   all_goals try (exfalso; omega)
   refine zAA co rfl ?_;refine sns ?_;refine zAA cn rfl ?_;refine sns ?_;exact zAB (zJY (zAD (zCA (zAD (zAJ (f:=vBA) (l:=n.lemmas++K.lemmas) rfl (by show []++List.map vBA n.lemmas++List.map vBA K.lemmas=_; simp) (by show 0+(List.map vBA n.lemmas).length+(List.map vBA K.lemmas).length=_; simp) (fun x=>zNF x)) rfl)) rfl)) rfl
theorem uG1{q:QryL}{n:NodeL}{i:Nat}(h:vE8 q n.split):vE8 q (vCR n i):=by
 unfold vCR
 split
 ·exact vOF h
 ·exact h
theorem uEV(n:NodeL)(i:Nat):(vCR n i).rat=n.split.rat:=by
 unfold vCR
 split<;>rfl
theorem vXQ{S:ScpL}{n:NodeL}{d i:Nat}(hf:vBH d n=true)(hb:vBE S n=none)(hi:i<n.kids.length):vBE (vDX S n i) n.kids[i]! = none:=by
 obtain⟨b0,b1⟩:=zNB zom hf hb;obtain⟨e1,_⟩:=zD0 zom hf;rcases Nat.lt_or_ge i 1 with h | h
 ·obtain rfl:i=0:=by omega
  exact b0
 ·obtain rfl:i=1:=by omega
  exact b1
theorem vPX{α:Type}(g:Nat→α)(i:Nat):(List.range i).map g++[g i]=(List.range (i+1)).map g:=by rw[List.range_succ,List.map_append]; rfl
theorem vIX:FO 40 Tryz.f40 [.cell 4 32] 75:=mkO Tryz.func40 Tryz.ntmps40 Tryz.results40
theorem vMH (P V v:Nat) (hB2:P+2 * V≤20000000):∀ (f:Nat) (n:NodeL) (S:ScpL) (c d:Nat),n.cnt<f→vBH d n=true→vBE S n=none→vB0 S→szT S P V v c d→NodeZ P V v c n→Tok n→szQ S.q P→vCZ S≤16→c≤1048576→Fn 40 [vBB S,vA7 n] (.data (vA7 (vCW S n))):=by
 intro f
 induction f with
 | zero=>intro n S c d h; omega
 | succ f ih =>
   intro n S c d hf hfo hb hS hz hn ht hq hv hc;obtain⟨hsm,hrg⟩:=zI5 _ _ _ (Nat.lt_succ_self _) hc hn ht;have hkn:=hrg.kn;have hln:=hrg.ln;have p1:=hz.plen;have p2:=hz.num;have hright:=zJE hb;have hcan2:∀ k,k<n.lemmas.length→vEO n.lemmas[k]!.value:=fun k hk=>(hright.1 k hk).2.1
   refine zAL vBD hT vIX (by simp[vBB]) ?_;refine sns ?_;refine zAP hT (fun i:Nat=>[(2,.cptr (vBB S) 0),(3,.cptr (vA7 n) 0),(4,.ptr 0 0 0),(5,.int .i64 i)]) (fun _=>[(0,vEB)]) [] 1 (fun i=>i≤n.kids.length∧∀ j,j<i→vDB S n j=false) (fun i=>n.kids.length - i) 0 ⟨Nat.zero_le _,fun j hj=>by omega⟩ zdd zsm ?_ ?_
   ·exact⟨[2],[0,1],[(2,.cptr (vBB S) 0),(3,.cptr (vA7 n) 0)],[],⟨⟨⟨_,rfl⟩,⟨_,rfl⟩,trivial⟩,⟨⟨6,[0],zK8 rfl rfl,rfl⟩,⟨6,[1],zD3 rfl,rfl⟩,trivial⟩,trivial⟩,⟨zAG rfl,zAG rfl,apx,zAC rfl rfl,trivial⟩,⟨bbx,trivial⟩,by simp[ren]⟩
   intro i ⟨hi,hno⟩;by_cases hi':i<n.kids.length
   ·have hlt:vDB S n i=false→∀ j,j<i+1→vDB S n j=false:=fun h j hj=>by
     rcases Nat.lt_or_eq_of_le (Nat.le_of_lt_succ hj) with g | rfl
     ·exact hno j g
     ·exact h
    have cl:Fn 27 [vA7 n,.int .i64 i,.int .i64 ((S.path.map vA9).length:Nat)] (.data (.tup [vA7 (if onN n.kids[i]! S.path.length=true then zeroN else vBY n i S.path.length),.bool (!onN n.kids[i]! S.path.length)])):=by
     rw[List.length_map];exact uB8 n i S.path.length ⟨zom,zom⟩ zom hrg hi'
    have hcl:=zDL (p:=S.path.length) hi';have hfw:=zGE (p:=S.path.length) hfo hi';have hzw:=zF9 (p:=S.path.length) hi' hn;have htw:=zI6 (p:=S.path.length) zom hi' ht;have hsw:=(zI5 _ _ _ (Nat.lt_succ_self _) hc hzw htw).1;have cb:=vJ6 _ (vBY n i S.path.length) S P V v c d (Nat.lt_succ_self _) hsw hfw hS hz hzw hq hB2 hv;have hg:vDB S n i=(!onN n.kids[i]! S.path.length && (vBE S (vBY n i S.path.length)).isNone):=rfl;have hsp:vDB S n i=true→vCW S n=vCW S (vBY n i S.path.length):=fun h=>zDV (zNG hi' h hno)
    have cr:vBE S (vBY n i S.path.length)=none→Fn 40 [vBB S,vA7 (vBY n i S.path.length)] (.data (vA7 (vCW S (vBY n i S.path.length)))):=fun h=>ih _ S c d zom hfw h hS hz hzw htw hq hv hc
    generalize vBY n i S.path.length=W at *
    unfold vX7 at cb;cases ho:onN n.kids[i]! S.path.length with
    | true =>
      rw[ho]at hg cl;rw[if_pos rfl]at cl
      (refine gon ?_ ?_<;>intro h)
      all_goals try (exfalso; omega)
      refine zAA cl rfl ?_;refine sns ?_;exact⟨i+1,⟨⟨zom,hlt hg⟩,by show n.kids.length - (i+1)<n.kids.length - i; omega⟩,[0],[],[],[],ttt,⟨zAG rfl,zAG rfl,apx,zAC rfl zom,trivial⟩,⟨bbx,trivial⟩,by simp[ren]⟩
    | false =>
      rw[ho]at hg cl;rw[if_neg zdd]at cl;cases hbw:vBE S W with
      | some pb =>
        rw[hbw]at cb hg
        (refine gon ?_ ?_<;>intro h)
        all_goals try (exfalso; omega)
        refine zAA cl rfl ?_;refine sns ?_;refine zAA cb rfl ?_;refine sns ?_;exact⟨i+1,⟨⟨zom,hlt hg⟩,by show n.kids.length - (i+1)<n.kids.length - i; omega⟩,[0],[],[],[],ttt,⟨zAG rfl,zAG rfl,apx,zAC rfl zom,trivial⟩,⟨bbx,trivial⟩,by simp[ren]⟩
      | none =>
        rw[hbw]at cb hg;have cr:=cr hbw
        (refine gon ?_ ?_<;>intro h)
        all_goals try (exfalso; omega)
        refine zAA cl rfl ?_;refine sns ?_;refine zAA cb rfl ?_;refine sns ?_;refine zAA cr rfl ?_;refine sns ?_;exact zAB rfl (by rw[hsp hg])
   ·obtain rfl:i=n.kids.length:=by omega
    have hfn:vCI S n=none:=zIV hno;rw[zDW hfn]
    (refine gon ?_ ?_<;>intro h)
    all_goals try (exfalso; omega)
    refine zCR hT [(.cl 7 0 6,9,true)] (fun(i:Nat)=>[(2,.cptr (vBB S) 0),(3,.cptr (vA7 n) 0),(4,.ptr 0 0 0),(8,.ptr 1 0 0),(9,.int .i64 i)])
     (fun i=>[(0,vEB),(1,⟨[vHY n (.imm (n.lemmas.map vBA)) (.own 2 0 i) (.imm (n.proof.map vBC))],9,true⟩),(2,⟨((List.range i).map fun i=>vCW (vDX S n i) n.kids[i]!).map vBI,9,true⟩)]) [] 3
     (fun i=>i≤n.kids.length) (fun i=>n.kids.length - i) 0 (Nat.zero_le _) zdd zsm ⟨_,_,rfl,rfl,rfl,trivial⟩ ?_ ?_
    ·exact⟨[0,7,_],[],[],[],ttt,⟨zAG rfl,zAG rfl,(apy rfl),(apy rfl),zAC rfl rfl,trivial⟩,
      ⟨bbx,zAH zdd rfl (zCF vY3 (zG1 zdd rfl rfl) vY3) rfl rfl,zAF zdd rfl rfl (zHG _) rfl,trivial⟩,by simp[ren]⟩
    intro i hi;by_cases hi':i<n.kids.length
    ·have hk0:n.kids.length≠0:=by omega
     obtain⟨e1,e2,_⟩:=zD0 hk0 hfo;have hkm:n.kids[i]! ∈ n.kids:=get_mem hi';have hck:=zD4 hi';have hlen:((List.range i).map fun i=>vCW (vDX S n i) n.kids[i]!).length=i:=by simp
     have hfit:vE8 S.q n.split:=by have:=hright.2; rw[if_neg hk0]at this; exact this
     have ck:=vOW S.path n i zom;have cr:=ih n.kids[i]! (vDX S n i) _ (d - 1) zom (zH7 hfo hi') (vXQ hfo hb hi') (Go.PI.ok_kid hS (uG1 hfit)) (hz.kid e2 hn hcan2 (by rw[uEV]; exact hn.spl)) (hn.kid _ hkm) (ht.kid _ hkm) hq hv zom
     (refine gon ?_ ?_<;>intro h)
     all_goals try (exfalso; omega)
     refine zBB ck rfl ?_;refine sns ?_;have arg:∀ {h:Hp} {a b k m:Nat} {els els':List PV},h a=some ⟨els',5,true⟩→els'=(S.path++[vCR n i]).map vA9→k=(S.path++[vCR n i]).length→h b=some ⟨els,6,true⟩→els=(S.lems++n.lemmas).map vBA→m=(S.lems++n.lemmas).length→frz h 6 (.agg [.int .i64 S.q.g.ins,.imm (S.q.g.units.map vBL),.imm (S.q.g.outs.map vBL),.imm (S.q.r.lo.map vA5),.imm (S.q.r.hi.map vA5),.imm (S.q.r.rows.map vBL),.imm (S.q.goal.terms.map vB6),.bool S.q.goal.const.neg,vBJ S.q.goal.const.num,vBJ S.q.goal.const.den,.own a 0 k,.own b 0 m])=some (vBB (vDX S n i),[a,b]):=fun h1 h2 h3 h4 h5 h6=>vOC (S:=S) (S':=vDX S n i) rfl h1 h2 h3 h4 h5 h6
     refine zAA cr (zAD (arg rfl rfl zsm rfl (by show []++List.map vBA S.lems++List.map vBA n.lemmas=_; simp) (by show 0+(List.map vBA S.lems).length+(List.map vBA n.lemmas).length=_; simp)) (zAD rfl rfl)) ?_;refine sns ?_;refine zBL ⟨rfl,by show i=(List.map vBI _).length; rw[List.length_map,hlen],?_⟩ ?_
     ·show i+1≤4294967296
      omega
     refine sns ?_
     refine⟨i+1,⟨zom,zom⟩,[0,1,_],[],[],[],ttt,⟨zAG rfl,zAG rfl,(apy rfl),(apy rfl),zAC rfl zom,trivial⟩,
      ⟨bbx,zAH zdd rfl (zCF vY3 (zG1 zdd rfl rfl) vY3) rfl rfl,zAF zdd rfl ?_ (zHG _) rfl,trivial⟩,by simp[ren]⟩
     rw[← vPX,List.map_append];show _++[vA7 _]=_++[vBI _]
     rw[zBZ]
    ·obtain rfl:i=n.kids.length:=by omega
     obtain⟨KD,hKD⟩:∃ KD,((List.range n.kids.length).map fun i=>vCW (vDX S n i) n.kids[i]!)=KD:=⟨_,rfl⟩;have hkl:KD.length=n.kids.length:=by rw[← hKD]; simp
     rw[hKD];refine sus ?_;refine zAZ ?_; (repeat' (first|refine stu ?_|with_reducible(refine brr ?_ ?_<;>intro h)));all_goals try(conv=>whnf)
     ·exfalso; omega
     refine vBT [] [(4,.ptr 0 0 0),(8,.ptr 1 0 0)] [(0,vEB),(1,⟨[vA7 (.mk n.lemmas n.split KD n.empty n.proof)],9,true⟩)] [] 2 zdd zsm trivial ?_ ?_
     ·exact⟨[0,1],[2],[],[(1,[vA7 (.mk n.lemmas n.split KD n.empty n.proof)])],⟨⟨⟨_,rfl⟩,trivial⟩,trivial,⟨⟨_,6,[2],rfl,zAD (ks:=[2]) (ls:=[]) (uBJ rfl hkl.symm) rfl,rfl⟩,trivial⟩⟩,⟨apx,apx,trivial⟩,
       ⟨bbx,bbx,trivial⟩,by simp[ren]⟩
     refine sns ?_;exact zAB rfl rfl
theorem zLL:FO 17 Tryz.f17 [.cell 4 32,.tmp 5] 22:=mkO Tryz.func17 Tryz.ntmps17 Tryz.results17
theorem vMJ(q:QryL)(P V v:Nat)(n:NodeL)(h:inS q P V v n)(hv:q.g.ins+q.g.units.length≤16):Fn 17 [vBK q,vA7 n] (.data (.tup [vA7 (vPP q n).1,.int .i64 (vPP q n).2])):=by
 have hB:=h.B;have ct:=vW2 q n P V v h.hv h.q h.sm.1 h.z hB hv;unfold vPP;by_cases h0:(vCV q n).2=0
 ·obtain⟨k1,k2,k3⟩:=vSA h0
  have hz0:szT ⟨q,[],[]⟩ P V v 1048576 2048:=by
   refine⟨h.q.P1,h.q.g.1.2,h.q.r.1,h.q.r.2.1,⟨h.q.r.2.2.2,h.q.r.2.2.1⟩,h.q.goal,(by show 0+2048≤1048576; omega),(fun d hd=>by cases hd),(fun d hd=>by cases hd),(fun d hd=>by cases hd),⟨h.hv,fun m hm=>by cases hm⟩,(by show 0+1048576≤1048576; omega),zom,?_⟩;show q.g.ins+q.g.units.length≤1280
   omega
  have cr:=vMH P V v zom _ n ⟨q,[],[]⟩ 1048576 2048 (Nat.lt_succ_self _) (zCD k1).1 k3 ⟨k2,fun d hd=>by cases hd⟩ hz0 h.z h.tok h.q hv (Nat.le_refl _);rw[if_pos h0];rw[h0]at ct;refine zAL vBD hT zLL (by simp[vBK]) ?_;refine sns ?_;refine zAA ct rfl ?_;refine sns ?_;refine zAA cr rfl ?_;refine sns ?_;exact zAB rfl rfl
 ·rw[if_neg h0]
  generalize (vCV q n).2=e at *
  refine zAL vBD hT zLL (by simp[vBK]) ?_;refine sns ?_;refine zAA ct rfl ?_
  (refine gon ?_ ?_<;>intro h)
  all_goals try (exfalso; omega)
  exact zAB rfl rfl
end Go.PI.Tryz
