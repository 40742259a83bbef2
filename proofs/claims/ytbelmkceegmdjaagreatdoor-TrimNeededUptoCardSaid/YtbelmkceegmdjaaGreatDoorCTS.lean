/-
  The definition's splits, Splits.
-/
import Derived.Test.YtbelmkceegmdjaaGreatDoorCTQ
set_option linter.unusedVariables false
set_option linter.unusedSimpArgs false
set_option linter.unnecessarySimpa false
set_option maxHeartbeats 0
namespace Go.PI.Tryz
open Go.Proofs Go.PI
def vFN(v:List DecL×NodeL):List PV:=[.imm (v.1.map vA9),vA7 v.2]
abbrev uOS{xs:List (List PV)}{k:Nat}(Y:Cons Tryz.prog xs k):vA8:=FnY Tryz.prog G0 Y
theorem vLS(x:NodeL):∀ (b a:Nat),a<=b->b<=x.kids.length->∃ r,x.upto b=x.upto a++r:=by
 intro b
 induction b with
 | zero =>
   intro a h _;have e:a=0:=by omega
   subst e; exact⟨[],zsm⟩
 | succ b ih =>
   intro a h hb;by_cases e:a=b+1
   .subst e; exact⟨[],zsm⟩
   .obtain⟨r,hr⟩:=ih a zom zom
    exact⟨_,by rw[x.upto_succ zom,hr,rBG]⟩
theorem vVX(p:List DecL)(a b:List (List DecL×NodeL)):pre p (a++b)=pre p a++pre p b:=by simp[pre]
theorem uBW(path:List DecL)(x:NodeL){m:Nat}(hm:m<x.kids.length):pre path (x.upto (m+1))=pre path (x.upto m)++pre (path++[vCD x m]) x.kids[m]!.all:=by
 rw[x.upto_succ hm,vVX]
 congr 1
 simp only[pre,rB7];refine rBH fun q _=>?_
 simp
theorem uA2{xs:List (List PV)}{path:List DecL}{x:NodeL}{i m:Nat}(hm:m<x.kids.length)(hxs:∀ m v,(pre path x.all)[m]?=some v->xs[i+m]?=some (vFN v)) :
 ∀ m' v,(pre (path++[vCD x m]) x.kids[m]!.all)[m']?=some v->xs[i+(x.upto m).length+m']?=some (vFN v):=by
 intro m' v hv
 have:=hxs ((x.upto m).length+m') v (by
  obtain⟨r,hr⟩:=vLS x x.kids.length (m+1) zom (rAO _)
  rw[x.all_eq,hr,vVX,uBW path x hm,rBG,rBZ (by rw[zJB]; omega),zJB,Nat.add_sub_cancel_left,
   rBY (rAP.1 hv).1]
  exact hv)
 rw[<- rC6]at this;exact this
theorem uB7:FO 108 Tryz.f108 [.tmp 6] 32:=mkO Tryz.func108 Tryz.ntmps108 Tryz.results108
theorem uKF {xs:List (List PV)} {k:Nat} (Y:Cons Tryz.prog xs k):∀ (n:Nat) (path:List DecL) (x:NodeL) (i:Nat),SizeOf.sizeOf x<n->x.Sm->path.length+x.wt<2097151->i<=k ->
 (∀ m v,(pre path x.all)[m]?=some v->xs[i+m]?=some (vFN v)) ->
 uOS Y 108 [.imm (path.map vA9),vA7 x,.func (.yield Y.l) [] []] (.gh i (min (i+x.all.length) (k+1)) (decide (i+x.all.length<=k))):=by
 intro n
 induction n with
 | zero=>intro p x i h; omega
 | succ n ih =>
   intro path x i hx hs hw hik hxs;have hl:=hs.len;have hal:=zPI _ x (rAL _)
   have hyield:xs[i]?=some (vFN (path,x)):=by
    have:=hxs 0 (path++[],x) (by rw[x.all_eq]; simp[pre,NodeL.upto])
    simpa using this
   refine uBV vBC hT uB7 Y zsm (fun _=>by simp) ?_;refine sns ?_;refine zA4 (show uOS Y _ _ _ from zIU vA9 (fun _ _ x=>zEA x) (fun _=>⟨rfl,rfl⟩) path zom) rfl ?_;refine sns ?_;refine vTP (vYV Y hyield hik) (zAD (zAI rfl rfl zsm (fun x=>zEA x)) rfl) rfl ?_
   refine gon ?_ ?_<;>intro h
   .refine vSV hT (fun m:Nat=>[(0,.imm (path.map vA9)),(2,.func (.yield Y.l) [] []),(4,.ptr 1 0 0),(16,.imm (x.kids.map vBF)),(17,.int .i64 x.kids.length),(18,.int .i64 m)]) (fun m=>[(0,vC6 (i+(x.upto m).length)),(1,⟨[vA7 x],9,true⟩)]) [] 2 (fun m=>m<=x.kids.length/\i+(x.upto m).length<=k) (fun m=>x.kids.length - m) 0 ⟨zsm,by rw[NodeL.upto_zero]; simp; omega⟩ zdd zsm ?_ ?_
    .refine⟨[1],[],[],[],ttt,⟨rAJ,zH5 rfl,apx,rAJ,zAC rfl zsm,rAI,rGW⟩,
      ⟨zEY zdd rfl (by simp[NodeL.upto_zero]) rfl rfl rfl,bbx,rGW⟩,rAA⟩
    .intro m hm
     have hul:=hal.2 m;have hul1:=hal.2 (m+1)
     refine gon ?_ ?_<;>intro h
     .have hm':m<x.kids.length:=by omega
      have hkm:x.kids[m]! ∈ x.kids:=zAX hm';have hwk:=vOC hkm;refine zA4 (show uOS Y _ _ _ from uN7 path x m zom) rfl ?_;refine sns ?_;refine vQI (ih (path++[vCD x m]) x.kids[m]! (i+(x.upto m).length) (by have:=NodeL.sizeOf_kid hkm; omega) (hs.kid hkm) (by simp only[rAU,List.length_singleton]; omega) hm.2 (uA2 hm' hxs)) (zAD (zAI rfl rfl zsm (fun x=>zEA x)) rfl) rfl ?_;have hlen:(x.upto (m+1)).length=(x.upto m).length+x.kids[m]!.all.length:=by rw[x.upto_succ hm',rAU,rAM]
      obtain⟨j,hj⟩:∃ j,min (i+(x.upto m).length+x.kids[m]!.all.length) (k+1)=j:=⟨_,rfl⟩;rw[hj]
      refine gon ?_ ?_<;>intro h
      .have hj':j=i+(x.upto (m+1)).length:=by omega
       refine⟨m+1,⟨⟨zom,zom⟩,zom⟩,[1],[],[],[],ttt,⟨rAJ,zH5 rfl,apx,rAJ,rAI,zAC rfl zom,rGW⟩,
        ⟨zEY zdd rfl (by rw[hj']) rfl rfl rfl,bbx,rGW⟩,rAA⟩
      .have hle:(x.upto (m+1)).length<=x.all.length:=by
        obtain⟨r,hr⟩:=vLS x x.kids.length (m+1) zom (rAO _);rw[x.all_eq,hr,rAU]; omega
       have e1:decide (i+x.all.length<=k)=false:=rBC zom;have e2:min (i+x.all.length) (k+1)=j:=by omega
       rw[e1,e2];exact⟨rfl,rfl⟩
     .have hall:x.all.length=(x.upto m).length:=by rw[x.all_eq,show m=x.kids.length by omega]
      have e1:decide (i+x.all.length<=k)=true:=rB4 zom;have e2:min (i+x.all.length) (k+1)=i+(x.upto m).length:=by omega
      rw[e1,e2];exact⟨rfl,rfl⟩
   .have h1:1<=x.all.length:=by
     obtain⟨r,hr⟩:=vLS x x.kids.length 0 zom (rAO _);rw[x.all_eq,hr,rAU,NodeL.upto_zero]; simp
    have hik':i=k:=by omega
    have e1:decide (i+x.all.length<=k)=false:=rBC zom;have e2:min (i+x.all.length) (k+1)=i+1:=by omega
    rw[e1,e2];exact⟨rfl,rfl⟩
theorem uB5:FO 107 Tryz.f107 [] 8:=mkO Tryz.func107 Tryz.ntmps107 Tryz.results107
theorem uKE(x:NodeL)(hs:x.Sm)(hw:x.wt<2097151):Fn 107 [.cptr (vA7 x) 0] (.seq ((vBZ x).map vFN)):=by
 refine uHF vBC hT uB5 zsm fun k Y=>?_
 refine sns ?_;refine zAA (show uOS Y _ _ _ from zMH x hs) rfl ?_
 refine gon ?_ ?_<;>intro h
 .have hall:vBZ x=x.all:=by simp[vBZ,h]
  refine vQI (uKF Y _ [] x 0 (rAL _) hs (by simpa using hw) (rA9 _) (fun m v hv=>by
   rw[pre_nil]at hv
   rw[hall,rC8,rBR,hv]; rfl)) rfl rfl ?_
  obtain⟨j,hj⟩:∃ j,min (0+x.all.length) (k+1)=j:=⟨_,rfl⟩;obtain⟨b,hb⟩:∃ b,decide (0+x.all.length<=k)=b:=⟨_,rfl⟩;rw[hj,hb];refine sns ?_;have e:min ((vBZ x).map vFN).length (k+1)=j:=by rw[rAM,hall,<- hj,rC8]
  refine Eq.trans ?_ (rA3 (fun n=>some (vC6 n)) e.symm);exact rfl
 .have hall:vBZ x=[]:=by simp[vBZ,h]
  have e:min ((vBZ x).map vFN).length (k+1)=0:=by rw[rAM,hall]; simp
  refine Eq.trans ?_ (rA3 (fun n=>some (vC6 n)) e.symm);exact rfl
theorem uJA:FO 73 Tryz.f73 [.tmp 2] 4:=mkO Tryz.func73 Tryz.ntmps73 Tryz.results73
theorem uOB(x:NodeL):Fn 73 [vA7 x] (.data (.func (.func 107) [] [.cptr (vA7 x) 0])):=by
 refine zAM vBC hT uJA zsm ?_;refine sns ?_;exact rGX
abbrev vFF:Blk:=⟨[.agg [.nilsl,.int .i64 0,.int .i64 0,.bool false,.nilsl,.nilsl,.nilsl,.bool false,.nilsl]],9,true⟩
theorem vXX{g:PV->Option (PV×List Nat)}{α:Type}{f:α->PV}(hf:∀ x,g (f x)=some (f x,[])):∀ l:List α,vB6 g (l.map f)=some (l.map f,[])
 | []=>rfl
 | a::l=>by rw[rBJ]; exact zAD (hf a) (vXX hf l)
theorem vKH{g:PV->Option (PV×List Nat)}{c d:PV}{ks:List Nat}(h1:g c=some (d,ks)):∀ {l ds:List PV},vB6 g l=some (ds,[])->vB6 g (l++[c])=some (ds++[d],ks)
 | [],ds,h=>by
   have:ds=[]:=by simp[vB6]at h; exact h
   subst this;have:=zAD (f:=g) (cs:=[]) (ds:=[]) (ls:=[]) h1 rfl
   simpa using this
 | a::l,ds,h=>by
   simp only[vB6]at h
   split at h
   .rename_i d1 k1 ds1 k2 e1 e2
    simp only[rBU,rEI,List.append_eq_nil_iff]at h;obtain⟨rfl,rfl,rfl⟩:=h;exact zAD e1 (vKH h1 e2)
   .cases h
theorem uK6(k:NodeL):k.all.filter (fun q=>decide (q.1.length=0))=[([],k)]:=by
 rw[NodeL.all,List.filter_cons];simp only[List.length_nil,rDI,rCI]
 congr 1
 rw[rC2];intro q hq;simp only[rEA,rA5]at hq;obtain⟨_,_,r,_,rfl⟩:=hq
 simp
theorem uK5{y:NodeL}(hk:y.kids.length=2):y.all.filter (fun q=>decide (q.1.length=1))=[([vCD y 0],y.kids[0]!),([vCD y 1],y.kids[1]!)]:=by
 have e:∀ (d:DecL) (k:NodeL),(k.all.map fun q=>(d::q.1,q.2)).filter (fun q=>decide (q.1.length=1))=[([d],k)]:=fun d k=>by
  have:=uK6 k;rw[List.filter_map]
  have e2:((fun q:List DecL×NodeL=>decide (q.1.length=1))∘fun q:List DecL×NodeL=>(d::q.1,q.2))=fun q=>decide (q.1.length=0):=by
   funext q; simp
  rw[e2,this]; rfl
 rw[y.all_eq,hk,y.upto_succ zom,y.upto_succ zom,NodeL.upto_zero,rDZ,rDZ,e,e]
 simp
def vKM(p:List DecL)(y:NodeL)(i:Nat):List (List DecL):=(((vBZ y).take i).filter fun q=>decide (q.1.length=1)).map fun q=>p++q.1
theorem vYD{p:List DecL}{y:NodeL}{i:Nat}{v:List DecL×NodeL}(h:(vBZ y)[i]?=some v):vKM p y (i+1)=vKM p y i++(if v.1.length=1 then [p++v.1] else []):=by
 obtain⟨hlt,hve⟩:=rAP.1 h;unfold vKM;rw[rA0 hlt,hve,rDZ,rBB]
 congr 1
 by_cases h1:v.1.length=1<;>simp[h1]
theorem uDS{p:List DecL}{y:NodeL}{i:Nat}:(vKM p y i).length<=(vBZ y).length:=by
 unfold vKM;rw[rAM];have h1:=List.length_filter_le (fun q:List DecL×NodeL=>decide (q.1.length=1)) ((vBZ y).take i);have h2:((vBZ y).take i).length<=(vBZ y).length:=by simp; omega
 omega
abbrev vMR(p:List DecL):PV:=.imm (p.map vA9)
def vTL(m y:NodeL)(p:List DecL)(i:Nat):List (Nat×Blk):=if vKM p y i=[] then [(0,⟨[vA7 m],9,true⟩),(1,vFF),(2,⟨[.nilsl],1,false⟩)] else [(0,⟨[vA7 m],9,true⟩),(1,vFF),(2,⟨[.own 3 0 (vKM p y i).length],1,false⟩),(3,⟨(vKM p y i).map vMR,1,false⟩)]
def vRQ(y:NodeL)(p:List DecL)(i:Nat):Nat:=if vKM p y i=[] then 3 else 4
theorem uHQ(y:NodeL)(p:List DecL)(i:Nat):3<=vRQ y p i:=by unfold vRQ; split<;>omega
theorem vWP:FnOkJ Tryz.prog 39 Tryz.f39 (Tryz.f39.body.getD .skip) [.cell 6 32] 92:=⟨Tryz.func39,rfl,zdd,Tryz.ntmps39,Tryz.results39,rAB⟩
theorem uDV (q:QryL) (P V v:Nat) (hvV:v<=V) (hq:szQ q P) (hB:P+2 * V+20<=20000000):∀ (f:Nat) (n x:NodeL) (p:List DecL),x.cnt<f->AccT q P V v n->atF n p=some x ->
 ∃ n',vCO (vCH (vCF ⟨q,[],[]⟩ n p) x) n p=some n'/\Fn 39 [vBI q,vA7 n,.imm (p.map vA9)] (.data (vA7 n')):=by
 intro f
 induction f with
 | zero=>intro n x p h; omega
 | succ f ih =>
   intro n x p hf hA hat;obtain⟨N',hN'⟩:=zNH (w:=vCH (vCF ⟨q,[],[]⟩ n p) x) hat;refine⟨N',hN',vGK (vGJ (K:=fun v s=>gives s.h v (vA7 N')) ((?_:FnM Tryz.prog G0 39 [vBI q,vA7 n,.imm (p.map vA9)] (fun v s' _=>vFY s'.h v (vA7 N')) (start [vBI q,vA7 n,.imm (p.map vA9)]) []).mono fun _ _ _ h=>by unfold vFY at h; exact h))⟩;have hpl:=at_len p n x 2048 (zB1 hA.val).1 hat;obtain⟨S,hS⟩:∃ S,vCF ⟨q,[],[]⟩ n p=S:=⟨_,rfl⟩;have q4:∀ {m:NodeL},AccT q P V v m->m.Sm/\NodeRg m:=fun h=>zJS _ _ _ (rAL _) (rAO _) h.z h.tok
   refine uOK vWP (by simp[vBI]) ?_
   refine vTW vBC hT (fun m:NodeL=>[(3,.cptr (vBI q) 0),(4,.ptr 0 0 0),(5,.cptr (.imm (p.map vA9)) 0),(6,.ptr 1 0 0)]) (fun m=>[(0,⟨[vA7 m],9,true⟩),(1,vFF)]) [] 2
    (fun m=>AccT q P V v m/\vCF ⟨q,[],[]⟩ m p=S/\∃ y,atF m p=some y/\y.cnt<=x.cnt/\vCO (vCH S y) m p=some N') NodeL.cnt rAB ?_ ?_ ?_ ?_
   .decide
   .simp
   .refine sns ?_
    refine⟨n,⟨hA,hS,x,hat,rAO _,by rw[<- hS]; exact hN'⟩,?_⟩
    exact⟨[1,3],[0,2],[(3,.cptr (vBI q) 0),(5,.cptr (.imm (p.map vA9)) 0)],[],⟨⟨⟨_,rfl⟩,⟨_,rfl⟩,rGW⟩,⟨⟨6,[0],zJF rfl rfl,rfl⟩,⟨6,[2],zJF rfl rfl,rfl⟩,rGW⟩,rGW⟩,⟨zAH rfl,apx,zAH rfl,apx,rGW⟩,
     ⟨bbx,bbx,rGW⟩,rAA⟩
   .intro m ⟨hAm,hSm,y,haty,hcy,hrep⟩
    have hsm:=q4 hAm
    have ca:Fn 70 [vA7 m,.imm (p.map vA9)] (.data (.tup [vA7 y,.bool true])):=by
     have h1:atV m p=some y:=by unfold atV; rw[rAV hAm.val]; exact haty
     have:=uQ3 m p hsm.1 zom;rw[h1]at this;exact this
    refine zAY (zBU vBC hT rAB ?_);refine sns ?_;refine zAA ca rfl ?_;refine sns ?_;refine vFI [] [(3,.cptr (vBI q) 0),(4,.ptr 0 0 0),(5,.cptr (.imm (p.map vA9)) 0),(6,.ptr 1 0 0),(7,.cptr (vA7 y) 0)] [(0,⟨[vA7 m],9,true⟩),(1,vFF)] [] 2 zdd zsm trivial ?_ ?_
    .exact⟨[0,1],[8],[(7,.cptr (vA7 y) 0)],[],⟨⟨⟨_,rfl⟩,rGW⟩,⟨⟨6,[8],zCV rfl,rfl⟩,rGW⟩,rGW⟩,⟨zAH rfl,apx,zAH rfl,apx,zAH rfl,rGW⟩,⟨bbx,bbx,rGW⟩,rAA⟩
    have hym:y.valid=true:=zNB hAm.val haty;obtain⟨_,hyz⟩:=zMU (H:=fun _ n=>NodeZ P V v 1048576 n) (nx:=fun c _=>c) (fun c n k h hk=>(h.kid k hk).more _ _ _ _ (rAL _) zom) p m 0 hAm.z haty;obtain⟨_,hyt⟩:=zMU (H:=fun _ n=>Tok n) (nx:=fun c _=>c) (fun c n k h hk=>h.kid k hk) p m 0 hAm.tok haty
    have hy2:y.kids.length=0\/y.kids.length=2:=by
     by_cases h0:y.kids.length=0
     .exact rAW h0
     .exact rAZ (zEL h0 (zB1 hym).1).1
    refine uAX vBC hT rAB ?_
    refine gon ?_ ?_<;>intro h
    .refine zAB rfl ?_
     have h0:y.kids.length=0:=by omega
     rw[zJT h0,vO4 p m y haty]at hrep;cases hrep
     rfl
    .have hk2:y.kids.length=2:=by omega
     refine vDD (zAY (zAY (zBU vBC hT rAB ?_)));refine sns ?_;refine vDD (zCK ?_);refine zGG (fun i:Nat=>[(3,.cptr (vBI q) 0),(4,.ptr 0 0 0),(5,.cptr (.imm (p.map vA9)) 0),(6,.ptr 1 0 0),(7,.cptr (vA7 y) 0),(32,.imm (y.kids.map vBF)),(33,.int .i64 2),(34,.int .i64 i)]) (fun _=>[(0,⟨[vA7 m],9,true⟩),(1,vFF)]) [] 2 (fun _=>[]) (fun i=>i<=2/\∀ j,j<i->vD4 S y j=false) (fun i=>2 - i) 0 ⟨zom,fun j hj=>by omega⟩ zdd zsm ?_ rfl ?_
     .exact⟨[0,1],[],[],[],ttt,⟨zAH rfl,apx,zAH rfl,apx,zAH rfl,rAJ,zAC rfl (by rw[rAM,hk2]; rfl),rAI,rGW⟩,⟨bbx,bbx,rGW⟩,rAA⟩
     intro i ⟨hi,hno⟩;refine zAY (zBU vBC hT rAB ?_);refine sns ?_;by_cases hi2:i<2
     .have hik:i<y.kids.length:=by omega
      obtain⟨m',r1,r2,r3,r4,r5,r6,r7,r8,r9,r10⟩:=zQK hAm haty hik;have hsm':=zJS _ _ _ (rAL _) (rAO _) r4 r5;have hsw:=zJS _ _ _ (rAL _) (rAO _) r8 r9;have hsy:=zNB hAm.val haty;obtain⟨W,hW⟩:∃ W,vBY y i p.length=W:=⟨_,rfl⟩
      have cl:Fn 71 [vA7 y,.int .i64 i,.int .i64 ((p.map vA9).length:Nat)] (.data (.tup [vA7 (vBY y i p.length),.bool (!onN y.kids[i]! p.length)])):=by
       rw[rAM];exact uN2 y i p.length ⟨zom,zom⟩ zom (zJS _ _ _ (rAL _) (rAO _) hyz hyt).2 hik
      have hSp:S.path=p:=by rw[<- hSm]; exact vOR haty
      have hg1:onN y.kids[i]! p.length=true->vD4 S y i=false:=fun h=>by unfold vD4; rw[hSp,h]; rfl
      have hg2:vBE S W≠none->vD4 S y i=false:=fun h=>by
       unfold vD4;rw[hSp,hW];cases hb:vBE S W with
       | none=>exact absurd hb h
       | some _=>simp
      have hg3:onN y.kids[i]! p.length=false->vBE S W=none->vD4 S y i=true:=fun h1 h2=>by unfold vD4; rw[hSp,hW,h1,h2]; rfl
      have hlt:vD4 S y i=false->∀ j,j<i+1->vD4 S y j=false:=fun h j hj=>by
       rcases rCB (rCF hj) with g | rfl
       .exact hno j g
       .exact h
      have cr:=vS4 W m p hsm.1 (by rw[<- hW]; exact hsw.1) zom;have ct:=vZ2 q m' P V v hvV hq hsm'.1 (by have:=(zB1 r3).2; omega) r4 zom;rw[hW]at cl r1 r2 r10;rw[r2]at cr;rw[hSm]at r10;rw[r10]at ct;refine vDD (zAY (zBU vBC hT rAB ?_))
      refine gon ?_ ?_<;>intro h
      all_goals try (exfalso; omega)
      refine vDD (zAY (zCK (zAY (zBU vBC hT rAB ?_))));refine sns ?_;refine vDD (zAY (zBU vBC hT rAB ?_));refine sns ?_;refine zAA cl rfl ?_;refine sns ?_;refine vFI [] [(3,.cptr (vBI q) 0),(4,.ptr 0 0 0),(5,.cptr (.imm (p.map vA9)) 0),(6,.ptr 1 0 0),(7,.cptr (vA7 y) 0),(32,.imm (y.kids.map vBF)),(33,.int .i64 2),(34,.int .i64 i),(10,.cptr (vA7 W) 0),(11,.bool (!onN y.kids[i]! p.length))] [(0,⟨[vA7 m],9,true⟩),(1,vFF)] [] 2 zdd zsm trivial ?_ ?_
      .exact⟨[0,1],[13],[(10,.cptr (vA7 W) 0)],[],⟨⟨⟨_,rfl⟩,rGW⟩,⟨⟨6,[13],zCV rfl,rfl⟩,rGW⟩,rGW⟩,⟨zAH rfl,apx,zAH rfl,apx,zAH rfl,zAE rfl rfl,zAC rfl rfl,zAC rfl rfl,zAH rfl,zAK rfl rfl,rGW⟩,⟨bbx,bbx,rGW⟩,rAA⟩
      refine zAY (zBU vBC hT rAB ?_)
      refine gon ?_ ?_<;>intro h
      .refine vDD (zBU vBC hT rAB ?_)
       refine sns ?_;exact⟨i+1,⟨⟨zom,hlt (hg1 rAF)⟩,zom⟩,⟨[0,1],[],[],[],ttt,⟨zAH rfl,apx,zAH rfl,apx,zAH rfl,rAJ,rAI,zAC rfl zom,rGW⟩,⟨bbx,bbx,rGW⟩,rAA⟩,rfl⟩
      .refine vDD (zAY (zBU vBC hT rAB ?_))
       have hon:onN y.kids[i]! p.length=false:=by simp_all
       refine sns ?_;refine zAA cr rfl ?_;refine sns ?_;refine vFI [] [(3,.cptr (vBI q) 0),(4,.ptr 0 0 0),(5,.cptr (.imm (p.map vA9)) 0),(6,.ptr 1 0 0),(7,.cptr (vA7 y) 0),(32,.imm (y.kids.map vBF)),(33,.int .i64 2),(34,.int .i64 i),(12,.cptr (vA7 m') 0),(13,.int .i64 0)] [(0,⟨[vA7 m],9,true⟩),(1,vFF)] [] 2 zdd zsm trivial ?_ ?_
       .exact⟨[0,1],[11],[(12,.cptr (vA7 m') 0)],[],⟨⟨⟨_,rfl⟩,rGW⟩,⟨⟨6,[11],zCV rfl,rfl⟩,rGW⟩,rGW⟩,⟨zAH rfl,apx,zAH rfl,apx,zAH rfl,zAE rfl rfl,zAC rfl rfl,zAC rfl rfl,zAH rfl,zAC rfl rfl,rGW⟩,⟨bbx,bbx,rGW⟩,rAA⟩
       refine zAY (zBU vBC hT rAB ?_);refine sns ?_;refine vDD (zAY (zBU vBC hT rAB ?_));cases hbw:vBE S W with
       | some pb =>
         rw[hbw]at ct;refine sns ?_;refine zAA ct rfl ?_;refine sns ?_;refine vFI [] [(3,.cptr (vBI q) 0),(4,.ptr 0 0 0),(5,.cptr (.imm (p.map vA9)) 0),(6,.ptr 1 0 0),(7,.cptr (vA7 y) 0),(32,.imm (y.kids.map vBF)),(33,.int .i64 2),(34,.int .i64 i),(12,.cptr (vA7 m') 0),(15,.int .i64 12)] [(0,⟨[vA7 m],9,true⟩),(1,vFF)] [] 2 zdd zsm trivial ?_ ?_
         .exact⟨[0,1],[],[],[],ttt,⟨zAH rfl,apx,zAH rfl,apx,zAH rfl,rAJ,rAI,rAI,zAH rfl,rAI,rGW⟩,⟨bbx,bbx,rGW⟩,rAA⟩
         refine zAY (zBU vBC hT rAB ?_);refine sns ?_;refine vDD (zJM (t:=false) rfl rfl (fun h=>by cases h) (fun _=>?_));refine zJL ?_;refine vDD (zBU vBC hT rAB ?_);refine sns ?_;exact⟨i+1,⟨⟨zom,hlt (hg2 (by rw[hbw]; simp))⟩,zom⟩,⟨[0,1],[],[],[],ttt,⟨zAH rfl,apx,zAH rfl,apx,zAH rfl,rAJ,rAI,zAC rfl zom,rGW⟩,⟨bbx,bbx,rGW⟩,rAA⟩,rfl⟩
       | none =>
         rw[hbw]at ct;refine sns ?_;refine zAA ct rfl ?_;refine sns ?_;refine vFI [] [(3,.cptr (vBI q) 0),(4,.ptr 0 0 0),(5,.cptr (.imm (p.map vA9)) 0),(6,.ptr 1 0 0),(7,.cptr (vA7 y) 0),(32,.imm (y.kids.map vBF)),(33,.int .i64 2),(34,.int .i64 i),(12,.cptr (vA7 m') 0),(15,.int .i64 0)] [(0,⟨[vA7 m],9,true⟩),(1,vFF)] [] 2 zdd zsm trivial ?_ ?_
         .exact⟨[0,1],[],[],[],ttt,⟨zAH rfl,apx,zAH rfl,apx,zAH rfl,rAJ,rAI,rAI,zAH rfl,rAI,rGW⟩,⟨bbx,bbx,rGW⟩,rAA⟩
         refine zAY (zBU vBC hT rAB ?_);refine sns ?_;refine vDD (zJM (t:=true) rfl rfl (fun _=>?_) (fun h=>by cases h));refine zAY (zBU vBC hT rAB ?_);refine sns ?_;refine vDD (uA0 ?_);have hfi:=vKX hik (hg3 hon hbw) hno;have hsp:=zCE hfi;rw[hSp,hW]at hsp;have hcw:=zCI (p:=p.length) hik;rw[hW]at hcw;exact⟨rfl,rfl,m',⟨⟨uFA hAm haty hik (by rw[hW]; exact r1) (by rw[hSm,hW]; exact hbw),(zN9 p m m' _ r1).trans hSm,W,uAC p m m' r1,zom,by rw[vMC p m m' r1,<- hsp]; exact hrep⟩,r6⟩,⟨[0,1],[],[],[],ttt,⟨zAH rfl,apx,zAH rfl,apx,rGW⟩,⟨bbx,bbx,rGW⟩,rAA⟩⟩
     .obtain rfl:i=2:=by omega
      have hfn:vB7 S y=none:=zOR (fun j hj=>hno j zom);refine vDD (zAY (zBU vBC hT rAB ?_));refine sns ?_
      all_goals try (exfalso; omega)
      refine vFI [] [(3,.cptr (vBI q) 0),(4,.ptr 0 0 0),(5,.cptr (.imm (p.map vA9)) 0),(6,.ptr 1 0 0),(7,.cptr (vA7 y) 0)] [(0,⟨[vA7 m],9,true⟩),(1,vFF)] [] 2 zdd zsm trivial ?_ ?_
      .exact⟨[0,1],[],[],[],ttt,⟨zAH rfl,apx,zAH rfl,apx,zAH rfl,rGW⟩,⟨bbx,bbx,rGW⟩,rAA⟩
      refine uA1 vBC hT rAB ?_;refine sns ?_;refine zAA (uOB y) rfl ?_;refine sns ?_;have hsy:=zJS _ _ _ (rAL _) (rAO _) hyz hyt;have hwy:y.wt<2097151:=by have:=uLT p m y haty; have:=hAm.wt; omega
      have hav:vBZ y=y.all:=rAV hym;have hal:(vBZ y).length<=2097151:=by rw[hav]; have:=(zPI _ y (rAL _)).1; omega
      have k00:vKM p y 0=[]:=rfl;refine vMI hT [(3,.cptr (vBI q) 0),(4,.ptr 0 0 0),(5,.cptr (.imm (p.map vA9)) 0),(6,.ptr 1 0 0),(7,.cptr (vA7 y) 0),(16,.ptr 2 0 0),(67,.func (.func 107) [] [.cptr (vA7 y) 0])] (vTL m y p) [] 3 (xs:=(vBZ y).map vFN) ((vBZ y).map vFN).length (vRQ y p) (rAV k00) (uHQ y p) zdd zsm zsm ?_ rfl rfl (uKE y hsy.1 hwy) (by simp only[rA5]; rintro _ ⟨v,_,rfl⟩; rfl) ?_ ?_ ?_
      .rw[show vTL m y p 0=_ from rAV k00]
       exact⟨[0,1,2],[],[],[],ttt,⟨zAH rfl,apx,zAH rfl,apx,zAH rfl,apx,zEN rfl,rGW⟩,⟨bbx,bbx,bbx,rGW⟩,rAA⟩
      .intro i v0 hv0 hi
       obtain⟨v,hv,rfl⟩:∃ v,(vBZ y)[i]?=some v/\v0=vFN v:=by
        rw[rBR]at hv0;obtain⟨v,h1,h2⟩:=rBI.1 hv0;exact⟨v,h1,h2.symm⟩
       have hsu:=vYD (p:=p) hv;have hlen:=uDS (p:=p) (y:=y) (i:=i);have cd:=zIU vA9 (fun _ _ x=>zEA x) (fun _=>⟨rfl,rfl⟩) p zom;by_cases hv1:v.1.length=1
       .rw[rAV hv1]at hsu
        have hne:vKM p y (i+1)≠[]:=by rw[hsu]; simp
        by_cases hb:vKM p y i=[]
        .rw[show vTL m y p i=_ from rAV hb,show vRQ y p i=3 from rAV hb]
         rw[hb,List.nil_append]at hsu
         refine gon ?_ ?_<;>intro h
         all_goals try (exfalso; omega)
         refine zA4 cd rfl ?_;refine sns ?_;rw[show vTL m y p (i+1)=_ from rAN hne,show vRQ y p (i+1)=4 from rAN hne,hsu];exact⟨[13],[11],[],[(13,[vMR (p++v.1)])],⟨⟨⟨_,rfl⟩,rGW⟩,rGW,⟨⟨_,6,[11],rfl,zAD (ks:=[11]) (ls:=[]) (zAI (f:=vA9) (l:=p++v.1) rfl (by rw[rBB]) zsm (fun x=>zEA x)) rfl,rfl⟩,rGW⟩⟩,rGW,⟨bbx,bbx,zAJ zdd rfl (by rw[zD2]; exact⟨zdd,rfl⟩) rfl rfl,zAG zdd rfl rfl (fun e he=>by obtain⟨x,_,rfl⟩:=rA5.1 he; exact⟨rfl,zsm⟩) rfl,rGW⟩,rAA⟩
        .rw[show vTL m y p i=_ from rAN hb,show vRQ y p i=4 from rAN hb]
         refine gon ?_ ?_<;>intro h
         all_goals try (exfalso; omega)
         refine zA4 cd rfl ?_;refine sns ?_;rw[show vTL m y p (i+1)=_ from rAN hne,show vRQ y p (i+1)=4 from rAN hne,hsu];exact⟨[14],[12],[],[(14,(vKM p y i).map vMR++[vMR (p++v.1)])],⟨⟨⟨_,rfl⟩,rGW⟩,rGW,⟨⟨_,6,[12],rfl,vKH (zAI (f:=vA9) (l:=p++v.1) rfl (by rw[rBB]) zsm (fun x=>zEA x)) (vXX (fun x=>rfl) _),rfl⟩,rGW⟩⟩,rGW,⟨bbx,bbx,zAJ zdd rfl (by rw[zD2,rAU]; exact⟨zdd,rfl⟩) rfl rfl,zAG zdd rfl (by rw[rBB]; rfl) (fun e he=>by obtain⟨x,_,rfl⟩:=rA5.1 he; exact⟨rfl,zsm⟩) rfl,rGW⟩,rAA⟩
       .rw[rAN hv1,rBS]at hsu
        rw[show vTL m y p (i+1)=vTL m y p i by unfold vTL; rw[hsu],show vRQ y p (i+1)=vRQ y p i by unfold vRQ; rw[hsu]];by_cases hb:vKM p y i=[]
        .rw[show vTL m y p i=_ from rAV hb,show vRQ y p i=3 from rAV hb]
         refine gon ?_ ?_<;>intro h
         all_goals try (exfalso; omega)
         exact⟨[],[],[],[],ttt,rGW,⟨bbx,bbx,bbx,rGW⟩,rAA⟩
        .rw[show vTL m y p i=_ from rAN hb,show vRQ y p i=4 from rAN hb]
         refine gon ?_ ?_<;>intro h
         all_goals try (exfalso; omega)
         exact⟨[3],[],[],[],ttt,rGW,⟨bbx,bbx,zAJ zdd rfl (by rw[zD2]; exact⟨zdd,rfl⟩) rfl rfl,zAG zdd rfl rfl (fun e he=>by obtain⟨x,_,rfl⟩:=rA5.1 he; exact⟨rfl,zsm⟩) rfl,rGW⟩,rAA⟩
      .intro v0 hv0
       simp at hv0
      .intro _
       have hB2:vKM p y ((vBZ y).map vFN).length=[p++[vCD y 0],p++[vCD y 1]]:=by
        unfold vKM;rw[rAM,rBP,hav,uK5 hk2];rfl
       have hne:vKM p y ((vBZ y).map vFN).length≠[]:=by rw[hB2]; simp
       obtain⟨n1,n2,e1,accN,e3,e4,e5,e6⟩:=uBT hAm haty hk2 (by rw[hSm]; exact hfn);have k0:=zC3 (n:=y) (i:=0) zom;have k1:=zC3 (n:=y) (i:=1) zom;obtain⟨n1',g1,c0⟩:=ih m _ _ zom hAm e3;obtain⟨n2',g2,c1⟩:=ih n1 _ _ zom accN e4;rw[e1]at g1;rw[e5]at g2;cases g1
       cases g2
       rw[hSm,hrep]at e6;cases e6
       rw[show vTL m y p _=_ from rAN hne,show vRQ y p _=4 from rAN hne,hB2];refine sns ?_
       refine zAO hT (fun((i,w):Nat×NodeL)=>[(3,.cptr (vBI q) 0),(4,.ptr 0 0 0),(6,.ptr 1 0 0),(80,.imm ([p++[vCD y 0],p++[vCD y 1]].map vMR)),(81,.int .i64 2),(82,.int .i64 i)]) (fun((i,w):Nat×NodeL)=>[(0,⟨[vA7 w],9,true⟩),(1,vFF)]) [] 2
        (fun((i,w):Nat×NodeL)=>(i=0/\w=m)\/(i=1/\w=n1)\/(i=2/\w=N')) (fun((i,w):Nat×NodeL)=>2 - i) (0,m) (rAW ⟨rfl,rfl⟩) zdd zsm ?_ ?_
       .exact⟨[0,1],[3],[(80,.imm ([p++[vCD y 0],p++[vCD y 1]].map vMR))],[],⟨⟨⟨_,rfl⟩,rGW⟩,⟨⟨6,[3],zAI (f:=vMR) (l:=[p++[vCD y 0],p++[vCD y 1]]) rfl rfl rfl (fun x=>rfl),rfl⟩,rGW⟩,rGW⟩,⟨zAH rfl,apx,apx,zAE rfl rfl,zAC rfl rfl,zAC rfl rfl,rGW⟩,⟨bbx,bbx,rGW⟩,rAA⟩
       rintro⟨i,w⟩ (⟨rfl,rfl⟩ | ⟨rfl,rfl⟩ | ⟨rfl,rfl⟩)
       .refine sns ?_
        all_goals try (exfalso; omega)
        refine zAA c0 rfl ?_;refine sns ?_;exact⟨(1,n1),⟨rAZ (rAW ⟨rfl,rfl⟩),(by show 2 - 1<2 - 0; omega)⟩,[0,1],[],[],[],ttt,⟨zAH rfl,apx,apx,rAJ,rAI,rAI,rGW⟩,⟨bbx,bbx,rGW⟩,rAA⟩
       .refine sns ?_
        all_goals try (exfalso; omega)
        refine zAA c1 rfl ?_;refine sns ?_;exact⟨(2,N'),⟨rAZ (rAZ ⟨rfl,rfl⟩),(by show 2 - 2<2 - 1; omega)⟩,[0,1],[],[],[],ttt,⟨zAH rfl,apx,apx,rAJ,rAI,rAI,rGW⟩,⟨bbx,bbx,rGW⟩,rAA⟩
       .refine sns ?_
        all_goals try (exfalso; omega)
        exact rGX
theorem vT4{q:QryL}{n:NodeL}(h:(vCK q n).2=0):n.valid=true/\VaQ q/\vBE ⟨q,[],[]⟩ n=none:=by
 unfold vCK at h
 split at h
 .rename_i hv
  split at h
  .rename_i hb; exact⟨hv.1,hv.2,hb⟩
  .cases h
 .cases h
noncomputable def splV(q:QryL)(n:NodeL):NodeL×Int:=if (vCK q n).2=0 then(vCH ⟨q,[],[]⟩ n,0) else(vC8,(vCK q n).2)
structure inS(q:QryL)(P V v:Nat)(n:NodeL):Prop where
 q:szQ q P
 hv:v<=V
 B:P+2 * V+20<=20000000
 z:NodeZ P V v 1048576 n
 tok:Tok n
 wt:n.wt<=1048576
theorem inS.sm{q:QryL}{P V v:Nat}{n:NodeL}(h:inS q P V v n):n.Sm/\NodeRg n:=zJS _ _ _ (rAL _) (rAO _) h.z h.tok
theorem inS.cnt{q:QryL}{P V v:Nat}{n:NodeL}(h:inS q P V v n):n.cnt<=4194304:=by have:=uGG _ n (rAL _); have:=h.wt; omega
theorem inS.tree{q:QryL}{P V v:Nat}{n:NodeL}(h:inS q P V v n):Fn 38 [vBI q,vA7 n] (.data (.tup [.imm ((vCK q n).1.map vA9),.int .i64 (vCK q n).2])):=by
 have:=h.B;exact vZ2 q n P V v h.hv h.q h.sm.1 h.cnt h.z zom
theorem zQC:FO 16 Tryz.f16 [.cell 4 32,.tmp 5] 21:=mkO Tryz.func16 Tryz.ntmps16 Tryz.results16
theorem zO2(q:QryL)(P V v:Nat)(n:NodeL)(h:inS q P V v n):Fn 16 [vBI q,vA7 n] (.data (.tup [vA7 (splV q n).1,.int .i64 (splV q n).2])):=by
 have ct:=h.tree;unfold splV;by_cases h0:(vCK q n).2=0
 .obtain⟨k1,k2,k3⟩:=vT4 h0
  obtain⟨n',g1,cr⟩:=uDV q P V v h.hv h.q h.B _ n n [] (rAL _) ⟨k1,k2,k3,h.z,h.tok,h.wt⟩ rfl
  have g2:n'=vCH ⟨q,[],[]⟩ n:=by
   have:vCO (vCH (vCF ⟨q,[],[]⟩ n []) n) n []=some (vCH ⟨q,[],[]⟩ n):=rfl;rw[this]at g1; cases g1; rfl
  rw[rAV h0,<- g2];rw[h0]at ct;refine zAM vBC hT zQC (by simp[vBI]) ?_;refine sns ?_;refine zAA ct rfl ?_;refine sns ?_;refine zAA cr rfl ?_;refine sns ?_;exact rGX
 .rw[rAN h0]
  generalize (vCK q n).2=e at *
  refine zAM vBC hT zQC (by simp[vBI]) ?_;refine sns ?_;refine zAA ct rfl ?_
  refine gon ?_ ?_<;>intro h
  all_goals try (exfalso; omega)
  exact rGX
theorem vRW{l:List MultL}{p:Int}{i:Nat}(h:i<l.length)(hu:isP p l[i]!.row=true):vDH l p=true:=any_some (f:=fun m:MultL=>isP p m.row) h hu
theorem vRX{l:List MultL}{p:Int}(h:∀ j,j<l.length->isP p l[j]!.row=false):vDH l p=false:=zLI h
theorem vW5:FO 87 Tryz.f87 [.tmp 4] 29:=mkO Tryz.func87 Tryz.ntmps87 Tryz.results87
theorem vQY(l:List MultL)(p:Int)(hl:vCY l):Fn 87 [.imm (l.map vBA),.int .i64 p] (.data (.bool (vDH l p))):=by
 have hln:=hl.1;refine zAM vBC hT vW5 zsm ?_;refine sts ?_;refine zA6 hT (fun i:Nat=>[(0,.imm (l.map vBA)),(1,.int .i64 p),(5,.int .i64 i)]) (fun i=>i<=l.length/\∀ j,j<i->isP p l[j]!.row=false) (fun i=>l.length - i) 0 ⟨rA9 _,fun j hj=>by omega⟩ ⟨rAJ,rAI,rAI,rGW⟩ ?_;intro i ⟨hi,hno⟩;by_cases h0:i<l.length
 .have hs:isP p l[i]!.row=false->∀ j,j<i+1->isP p l[j]!.row=false:=fun h j hj=>by
   rcases rCB (rCF hj) with g | rfl
   .exact hno j g
   .exact h
  by_cases hP:isP p l[i]!.row=true
  .have hP2:=hP
   unfold isP at hP2;obtain⟨p1,p2⟩:=rB2 hP2
   (repeat' (first|refine stp ?_|with_reducible(refine brr ?_ ?_<;>intro h)));all_goals try(conv=>whnf)
   all_goals try (exfalso; omega)
   exact zAB rfl (rA3 PV.bool (vRW h0 hP).symm)
  .have hP2:¬ (l[i]!.row.kind=4/\l[i]!.row.index=p):=fun e=>hP (rB4 e)
   (repeat' (first|refine stp ?_|with_reducible(refine brr ?_ ?_<;>intro h)));all_goals try(conv=>whnf)
   all_goals try (exfalso; omega)
   all_goals exact⟨i+1,⟨⟨zom,hs (by simpa using hP)⟩,zom⟩,rAJ,rAI,zAC rfl zom,rGW⟩
 .obtain rfl:i=l.length:=by omega
  (repeat' (first|refine stp ?_|with_reducible(refine brr ?_ ?_<;>intro h)));all_goals try(conv=>whnf)
  all_goals try (exfalso; omega)
  exact zAB rfl (rA3 PV.bool (vRX hno).symm)
theorem vM5:FO 48 Tryz.f48 [.tmp 4] 40:=mkO Tryz.func48 Tryz.ntmps48 Tryz.results48
theorem vS9 (p:Int):∀ (sz:Nat) (n:NodeL),SizeOf.sizeOf n<sz->NodeRg n->Fn 48 [vA7 n,.int .i64 p] (.data (.bool (onN n p))):=by
 intro sz
 induction sz with
 | zero=>intro n h; omega
 | succ sz ih =>
   intro n hsz hn;have hln:=hn.ln;have hkn:=hn.kn;have cp:=vQY n.proof p hn.prf;refine zAM vBC hT vM5 zsm ?_;refine sns ?_;refine zAO hT (fun i:Nat=>[(1,.int .i64 p),(2,.cptr (vA7 n) 0),(5,.int .i64 i)]) (fun _=>[]) [] 0 (fun i=>i<=n.lemmas.length/\∀ j,j<i->vDH n.lemmas[j]!.proof p=false) (fun i=>n.lemmas.length - i) 0 ⟨rA9 _,fun j hj=>by omega⟩ zdd zsm ?_ ?_
   .exact⟨[],[0],[(2,.cptr (vA7 n) 0)],[],⟨⟨⟨_,rfl⟩,rGW⟩,⟨⟨6,[0],zCV rfl,rfl⟩,rGW⟩,rGW⟩,⟨zAC rfl rfl,zAH rfl,zAC rfl rfl,rGW⟩,rGW,rAA⟩
   intro i ⟨hi,hno⟩;by_cases h0:i<n.lemmas.length
   .have hlm:n.lemmas[i]! ∈ n.lemmas:=zAX h0
    have cu:=vQY n.lemmas[i]!.proof p (hn.lem _ hlm)
    refine gon ?_ ?_<;>intro h
    .refine zAA cu rfl ?_
     refine gon ?_ ?_<;>intro h
     .refine zAB rfl (rA3 PV.bool ?_)
      rw[vJZ,any_some (f:=fun m=>vDH m.proof p) h0 rAC];rfl
     .refine⟨i+1,⟨⟨zom,fun j hj=>?_⟩,by show n.lemmas.length - (i+1)<n.lemmas.length - i; omega⟩,[],[],[],[],ttt,⟨rAI,zAH rfl,zAC rfl zom,rGW⟩,rGW,rAA⟩
      rcases rCB (rCF hj) with h | rfl
      .exact hno j h
      .assumption
    all_goals (exfalso; omega)
   .obtain rfl:i=n.lemmas.length:=by omega
    have e1:n.lemmas.any (fun m=>vDH m.proof p)=false:=zLI hno
    refine gon ?_ ?_<;>intro h
    all_goals try (exfalso; omega)
    refine zAO hT (fun i:Nat=>[(1,.int .i64 p),(2,.cptr (vA7 n) 0),(6,.int .i64 i)]) (fun _=>[]) [] 0 (fun i=>i<=n.kids.length/\∀ j,j<i->onN n.kids[j]! p=false) (fun i=>n.kids.length - i) 0 ⟨rA9 _,fun j hj=>by omega⟩ zdd zsm ?_ ?_
    .exact⟨[],[],[],[],ttt,⟨rAI,zAH rfl,rAI,rGW⟩,rGW,rAA⟩
    intro i ⟨hi,hno2⟩;by_cases h0:i<n.kids.length
    .have hkm:n.kids[i]! ∈ n.kids:=zAX h0
     have cu:=ih n.kids[i]! (by have:=NodeL.sizeOf_kid hkm; omega) (hn.kid _ hkm)
     refine gon ?_ ?_<;>intro h
     .refine zAA cu rfl ?_
      refine gon ?_ ?_<;>intro h
      .refine zAB rfl (rA3 PV.bool ?_)
       rw[vJZ,any_some (f:=fun m=>onN m p) h0 rAC]
       simp
      .refine⟨i+1,⟨⟨zom,fun j hj=>?_⟩,by show n.kids.length - (i+1)<n.kids.length - i; omega⟩,[],[],[],[],ttt,⟨rAI,zAH rfl,zAC rfl zom,rGW⟩,rGW,rAA⟩
       rcases rCB (rCF hj) with h | rfl
       .exact hno2 j h
       .assumption
     all_goals (exfalso; omega)
    .obtain rfl:i=n.kids.length:=by omega
     have e2:n.kids.any (fun m=>onN m p)=false:=zLI hno2
     refine gon ?_ ?_<;>intro h
     all_goals try (exfalso; omega)
     refine zAA cp rfl ?_;refine sns ?_;refine zAB rfl (rA3 PV.bool ?_);rw[vJZ,e1,e2];rfl
theorem vJ4:FO 27 Tryz.f27 [.cell 6 32,.tmp 7] 34:=mkO Tryz.func27 Tryz.ntmps27 Tryz.results27
theorem uEY(n:NodeL)(i:Nat)(p:Int)(hp:vFX p)(h0:0<=p)(hn:NodeRg n)(hi:i<n.kids.length):Fn 27 [vA7 n,.int .i64 i,.int .i64 p] (.data (.tup [vA7 (if onN n.kids[i]! p=true then vC8 else vBY n i p),.bool (!onN n.kids[i]! p)])):=by
 have hln:=hn.ln;have hkn:=hn.kn;have hkm:n.kids[i]! ∈ n.kids:=zAX hi;have co:=vS9 p _ n.kids[i]! (rAL _) (hn.kid _ hkm);have cn:=vLC (-1) p ⟨zom,zom⟩ hp _ n.kids[i]! (rAL _) (hn.kid _ hkm)
 have hkl:(vCL (vCV (-1) p) n.kids[i]!).lemmas.length<2097152:=by
  rw[zE3,rAM];exact(hn.kid _ hkm).ln
 unfold vBY;obtain⟨o,ho⟩:∃ o,onN n.kids[i]! p=o:=⟨_,rfl⟩;rw[ho]at co ⊢;generalize vCL (vCV (-1) p) n.kids[i]! = K at *
 cases o with
 | true =>
   refine zAM vBC hT vJ4 zsm ?_;refine sns ?_
   all_goals try (exfalso; omega)
   refine zAA co rfl ?_;refine sns ?_;exact rGX
 | false =>
   refine zAM vBC hT vJ4 zsm ?_;refine sns ?_
   all_goals try (exfalso; omega)
   refine zAA co rfl ?_;refine sns ?_;refine zAA cn rfl ?_;refine sns ?_;exact zAB (zKP (zAD (zBZ (zAD (zAI (f:=vBB) (l:=n.lemmas++K.lemmas) rfl (by show []++List.map vBB n.lemmas++List.map vBB K.lemmas=_; simp) (by show 0+(List.map vBB n.lemmas).length+(List.map vBB K.lemmas).length=_; simp) (fun x=>zMD x)) rfl)) rfl)) rfl
end Go.PI.Tryz
