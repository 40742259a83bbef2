/-
  The definition's splits, Splits.
-/
import Derived.Test.YtbelmkceegmdjaaGreatDoorKTQ
set_option linter.unusedVariables false
set_option linter.unusedSimpArgs false
set_option linter.unnecessarySimpa false
set_option maxHeartbeats 0
namespace Go.PI.Tryz
open Go.Proofs Go.PI
def vFI(v:List DecL×NodeL):List PV:=[.imm (v.1.map vA9),vA7 v.2]
abbrev uOZ{xs:List (List PV)}{k:Nat}(Y:Cons Tryz.prog xs k):vA8:=FnY Tryz.prog G0 Y
theorem vLM(x:NodeL):∀ (b a:Nat),a<=b->b<=x.kids.length->∃ r,x.upto b=x.upto a++r:=by
 intro b
 induction b with
 | zero =>
   intro a h _;have e:a=0:=by omega
   subst e; exact⟨[],zsm⟩
 | succ b ih =>
   intro a h hb;by_cases e:a=b+1
   .subst e; exact⟨[],zsm⟩
   .obtain⟨r,hr⟩:=ih a zom zom
    exact⟨_,by rw[x.upto_succ zom,hr,rBB]⟩
theorem vVX(p:List DecL)(a b:List (List DecL×NodeL)):pre p (a++b)=pre p a++pre p b:=by simp[pre]
theorem uBY(path:List DecL)(x:NodeL){m:Nat}(hm:m<x.kids.length):pre path (x.upto (m+1))=pre path (x.upto m)++pre (path++[vC6 x m]) x.kids[m]!.all:=by
 rw[x.upto_succ hm,vVX]
 congr 1
 simp only[pre,rCQ];refine rBH fun q _=>?_
 simp
theorem uA1{xs:List (List PV)}{path:List DecL}{x:NodeL}{i m:Nat}(hm:m<x.kids.length)(hxs:∀ m v,(pre path x.all)[m]?=some v->xs[i+m]?=some (vFI v)) :
 ∀ m' v,(pre (path++[vC6 x m]) x.kids[m]!.all)[m']?=some v->xs[i+(x.upto m).length+m']?=some (vFI v):=by
 intro m' v hv
 have:=hxs ((x.upto m).length+m') v (by
  obtain⟨r,hr⟩:=vLM x x.kids.length (m+1) zom (rAR _)
  rw[x.all_eq,hr,vVX,uBY path x hm,rBB,rBY (by rw[vVW]; omega),vVW,Nat.add_sub_cancel_left,
   rBX (rAP.1 hv).1]
  exact hv)
 rw[<- rC4]at this;exact this
theorem uB9:FO 108 Tryz.f108 [.tmp 6] 32:=mkO Tryz.func108 Tryz.ntmps108 Tryz.results108
theorem uKN {xs:List (List PV)} {k:Nat} (Y:Cons Tryz.prog xs k):∀ (n:Nat) (path:List DecL) (x:NodeL) (i:Nat),SizeOf.sizeOf x<n->x.Sm->path.length+x.wt<2097151->i<=k ->
 (∀ m v,(pre path x.all)[m]?=some v->xs[i+m]?=some (vFI v)) ->
 uOZ Y 108 [.imm (path.map vA9),vA7 x,.func (.yield Y.l) [] []] (.gh i (min (i+x.all.length) (k+1)) (decide (i+x.all.length<=k))):=by
 intro n
 induction n with
 | zero=>intro p x i h; omega
 | succ n ih =>
   intro path x i hx hs hw hik hxs;have hl:=hs.len;have hal:=uAF _ x (rAL _)
   have hyield:xs[i]?=some (vFI (path,x)):=by
    have:=hxs 0 (path++[],x) (by rw[x.all_eq]; simp[pre,NodeL.upto])
    simpa using this
   refine uBX vBC hT uB9 Y zsm (fun _=>by simp) ?_;refine sns ?_;refine zBB (show uOZ Y _ _ _ from zIP vA9 (fun _ _ x=>zEU x) (fun _=>⟨rfl,rfl⟩) path zom) rfl ?_;refine sns ?_;refine vTP (vYQ Y hyield hik) (zAD (zAI rfl rfl zsm (fun x=>zEU x)) rfl) rfl ?_
   refine gon ?_ ?_<;>intro h
   .refine vST hT (fun m:Nat=>[(0,.imm (path.map vA9)),(2,.func (.yield Y.l) [] []),(4,.ptr 1 0 0),(16,.imm (x.kids.map vBF)),(17,.int .i64 x.kids.length),(18,.int .i64 m)]) (fun m=>[(0,vC7 (i+(x.upto m).length)),(1,⟨[vA7 x],9,true⟩)]) [] 2 (fun m=>m<=x.kids.length/\i+(x.upto m).length<=k) (fun m=>x.kids.length - m) 0 ⟨zsm,by rw[NodeL.upto_zero]; simp; omega⟩ zdd zsm ?_ ?_
    .refine⟨[1],[],[],[],ttt,⟨rAJ,zH3 rfl,apx,rAJ,zAC rfl zsm,rAI,rGU⟩,
      ⟨zEW zdd rfl (by simp[NodeL.upto_zero]) rfl rfl rfl,bbx,rGU⟩,rAA⟩
    .intro m hm
     have hul:=hal.2 m;have hul1:=hal.2 (m+1)
     refine gon ?_ ?_<;>intro h
     .have hm':m<x.kids.length:=by omega
      have hkm:x.kids[m]! ∈ x.kids:=zA2 hm';have hwk:=uFF hkm;refine zBB (show uOZ Y _ _ _ from uOD path x m zom) rfl ?_;refine sns ?_;refine vQC (ih (path++[vC6 x m]) x.kids[m]! (i+(x.upto m).length) (by have:=NodeL.sizeOf_kid hkm; omega) (hs.kid hkm) (by simp only[rAV,List.length_singleton]; omega) hm.2 (uA1 hm' hxs)) (zAD (zAI rfl rfl zsm (fun x=>zEU x)) rfl) rfl ?_;have hlen:(x.upto (m+1)).length=(x.upto m).length+x.kids[m]!.all.length:=by rw[x.upto_succ hm',rAV,rAN]
      obtain⟨j,hj⟩:∃ j,min (i+(x.upto m).length+x.kids[m]!.all.length) (k+1)=j:=⟨_,rfl⟩;rw[hj]
      refine gon ?_ ?_<;>intro h
      .have hj':j=i+(x.upto (m+1)).length:=by omega
       refine⟨m+1,⟨⟨zom,zom⟩,zom⟩,[1],[],[],[],ttt,⟨rAJ,zH3 rfl,apx,rAJ,rAI,zAC rfl zom,rGU⟩,
        ⟨zEW zdd rfl (by rw[hj']) rfl rfl rfl,bbx,rGU⟩,rAA⟩
      .have hle:(x.upto (m+1)).length<=x.all.length:=by
        obtain⟨r,hr⟩:=vLM x x.kids.length (m+1) zom (rAR _);rw[x.all_eq,hr,rAV]; omega
       have e1:decide (i+x.all.length<=k)=false:=rBD zom;have e2:min (i+x.all.length) (k+1)=j:=by omega
       rw[e1,e2];exact⟨rfl,rfl⟩
     .have hall:x.all.length=(x.upto m).length:=by rw[x.all_eq,show m=x.kids.length by omega]
      have e1:decide (i+x.all.length<=k)=true:=rB4 zom;have e2:min (i+x.all.length) (k+1)=i+(x.upto m).length:=by omega
      rw[e1,e2];exact⟨rfl,rfl⟩
   .have h1:1<=x.all.length:=by
     obtain⟨r,hr⟩:=vLM x x.kids.length 0 zom (rAR _);rw[x.all_eq,hr,rAV,NodeL.upto_zero]; simp
    have hik':i=k:=by omega
    have e1:decide (i+x.all.length<=k)=false:=rBD zom;have e2:min (i+x.all.length) (k+1)=i+1:=by omega
    rw[e1,e2];exact⟨rfl,rfl⟩
theorem uB7:FO 107 Tryz.f107 [] 8:=mkO Tryz.func107 Tryz.ntmps107 Tryz.results107
theorem uKM(x:NodeL)(hs:x.Sm)(hw:x.wt<2097151):Fn 107 [.cptr (vA7 x) 0] (.seq ((vGD x).map vFI)):=by
 refine uHK vBC hT uB7 zsm fun k Y=>?_
 refine sns ?_;refine zAA (show uOZ Y _ _ _ from zLX x hs) rfl ?_
 refine gon ?_ ?_<;>intro h
 .have hall:vGD x=x.all:=by simp[vGD,h]
  refine vQC (uKN Y _ [] x 0 (rAL _) hs (by simpa using hw) (rA7 _) (fun m v hv=>by
   rw[pre_nil]at hv
   rw[hall,rC5,rBP,hv]; rfl)) rfl rfl ?_
  obtain⟨j,hj⟩:∃ j,min (0+x.all.length) (k+1)=j:=⟨_,rfl⟩;obtain⟨b,hb⟩:∃ b,decide (0+x.all.length<=k)=b:=⟨_,rfl⟩;rw[hj,hb];refine sns ?_;have e:min ((vGD x).map vFI).length (k+1)=j:=by rw[rAN,hall,<- hj,rC5]
  refine Eq.trans ?_ (rA3 (fun n=>some (vC7 n)) e.symm);exact rfl
 .have hall:vGD x=[]:=by simp[vGD,h]
  have e:min ((vGD x).map vFI).length (k+1)=0:=by rw[rAN,hall]; simp
  refine Eq.trans ?_ (rA3 (fun n=>some (vC7 n)) e.symm);exact rfl
theorem uJF:FO 73 Tryz.f73 [.tmp 2] 4:=mkO Tryz.func73 Tryz.ntmps73 Tryz.results73
theorem uOH(x:NodeL):Fn 73 [vA7 x] (.data (.func (.func 107) [] [.cptr (vA7 x) 0])):=by
 refine zAL vBC hT uJF zsm ?_;refine sns ?_;exact rGV
abbrev vD8:Blk:=⟨[.agg [.nilsl,.int .i64 0,.int .i64 0,.bool false,.nilsl,.nilsl,.nilsl,.bool false,.nilsl]],9,true⟩
theorem vXX{g:PV->Option (PV×List Nat)}{α:Type}{f:α->PV}(hf:∀ x,g (f x)=some (f x,[])):∀ l:List α,vB7 g (l.map f)=some (l.map f,[])
 | []=>rfl
 | a::l=>by rw[rBM]; exact zAD (hf a) (vXX hf l)
theorem vKA{g:PV->Option (PV×List Nat)}{c d:PV}{ks:List Nat}(h1:g c=some (d,ks)):∀ {l ds:List PV},vB7 g l=some (ds,[])->vB7 g (l++[c])=some (ds++[d],ks)
 | [],ds,h=>by
   have:ds=[]:=by simp[vB7]at h; exact h
   subst this;have:=zAD (f:=g) (cs:=[]) (ds:=[]) (ls:=[]) h1 rfl
   simpa using this
 | a::l,ds,h=>by
   simp only[vB7]at h
   split at h
   .rename_i d1 k1 ds1 k2 e1 e2
    simp only[rBS,rGN,List.append_eq_nil_iff]at h;obtain⟨rfl,rfl,rfl⟩:=h;exact zAD e1 (vKA h1 e2)
   .cases h
theorem uLA(k:NodeL):k.all.filter (fun q=>decide (q.1.length=0))=[([],k)]:=by
 rw[NodeL.all,List.filter_cons];simp only[List.length_nil,rDG,rCI]
 congr 1
 rw[rC0];intro q hq;simp only[rER,rA5]at hq;obtain⟨_,_,r,_,rfl⟩:=hq
 simp
theorem uK9{y:NodeL}(hk:y.kids.length=2):y.all.filter (fun q=>decide (q.1.length=1))=[([vC6 y 0],y.kids[0]!),([vC6 y 1],y.kids[1]!)]:=by
 have e:∀ (d:DecL) (k:NodeL),(k.all.map fun q=>(d::q.1,q.2)).filter (fun q=>decide (q.1.length=1))=[([d],k)]:=fun d k=>by
  have:=uLA k;rw[List.filter_map]
  have e2:((fun q:List DecL×NodeL=>decide (q.1.length=1))∘fun q:List DecL×NodeL=>(d::q.1,q.2))=fun q=>decide (q.1.length=0):=by
   funext q; simp
  rw[e2,this]; rfl
 rw[y.all_eq,hk,y.upto_succ zom,y.upto_succ zom,NodeL.upto_zero,rDV,rDV,e,e]
 simp
def vKH(p:List DecL)(y:NodeL)(i:Nat):List (List DecL):=(((vGD y).take i).filter fun q=>decide (q.1.length=1)).map fun q=>p++q.1
theorem vYA{p:List DecL}{y:NodeL}{i:Nat}{v:List DecL×NodeL}(h:(vGD y)[i]?=some v):vKH p y (i+1)=vKH p y i++(if v.1.length=1 then [p++v.1] else []):=by
 obtain⟨hlt,hve⟩:=rAP.1 h;unfold vKH;rw[rA2 hlt,hve,rDV,rBE]
 congr 1
 by_cases h1:v.1.length=1<;>simp[h1]
theorem uDX{p:List DecL}{y:NodeL}{i:Nat}:(vKH p y i).length<=(vGD y).length:=by
 unfold vKH;rw[rAN];have h1:=List.length_filter_le (fun q:List DecL×NodeL=>decide (q.1.length=1)) ((vGD y).take i);have h2:((vGD y).take i).length<=(vGD y).length:=by simp; omega
 omega
abbrev vMH(p:List DecL):PV:=.imm (p.map vA9)
def vTL(m y:NodeL)(p:List DecL)(i:Nat):List (Nat×Blk):=if vKH p y i=[] then [(0,⟨[vA7 m],9,true⟩),(1,vD8),(2,⟨[.nilsl],1,false⟩)] else [(0,⟨[vA7 m],9,true⟩),(1,vD8),(2,⟨[.own 3 0 (vKH p y i).length],1,false⟩),(3,⟨(vKH p y i).map vMH,1,false⟩)]
def vRN(y:NodeL)(p:List DecL)(i:Nat):Nat:=if vKH p y i=[] then 3 else 4
theorem uHV(y:NodeL)(p:List DecL)(i:Nat):3<=vRN y p i:=by unfold vRN; split<;>omega
theorem vWP:FnOkJ Tryz.prog 39 Tryz.f39 (Tryz.f39.body.getD .skip) [.cell 6 32] 92:=⟨Tryz.func39,rfl,zdd,Tryz.ntmps39,Tryz.results39,rAB⟩
theorem uD2 (q:QryL) (P V v:Nat) (hvV:v<=V) (hq:szQ q P) (hB:P+2 * V+20<=20000000):∀ (f:Nat) (n x:NodeL) (p:List DecL),x.cnt<f->AccT q P V v n->atF n p=some x ->
 ∃ n',vCY (vCS (vCH ⟨q,[],[]⟩ n p) x) n p=some n'/\Fn 39 [vBJ q,vA7 n,.imm (p.map vA9)] (.data (vA7 n')):=by
 intro f
 induction f with
 | zero=>intro n x p h; omega
 | succ f ih =>
   intro n x p hf hA hat;obtain⟨N',hN'⟩:=zMV (w:=vCS (vCH ⟨q,[],[]⟩ n p) x) hat;refine⟨N',hN',zQA (zP9 (K:=fun v s=>gives s.h v (vA7 N')) ((?_:FnM Tryz.prog G0 39 [vBJ q,vA7 n,.imm (p.map vA9)] (fun v s' _=>vFV s'.h v (vA7 N')) (start [vBJ q,vA7 n,.imm (p.map vA9)]) []).mono fun _ _ _ h=>by unfold vFV at h; exact h))⟩;have hpl:=at_len p n x 2048 (zBS hA.val).1 hat;obtain⟨S,hS⟩:∃ S,vCH ⟨q,[],[]⟩ n p=S:=⟨_,rfl⟩;have q4:∀ {m:NodeL},AccT q P V v m->m.Sm/\NodeRg m:=fun h=>zL3 _ _ _ (rAL _) (rAR _) h.z h.tok
   refine uOR vWP (by simp[vBJ]) ?_
   refine vTW vBC hT (fun m:NodeL=>[(3,.cptr (vBJ q) 0),(4,.ptr 0 0 0),(5,.cptr (.imm (p.map vA9)) 0),(6,.ptr 1 0 0)]) (fun m=>[(0,⟨[vA7 m],9,true⟩),(1,vD8)]) [] 2
    (fun m=>AccT q P V v m/\vCH ⟨q,[],[]⟩ m p=S/\∃ y,atF m p=some y/\y.cnt<=x.cnt/\vCY (vCS S y) m p=some N') NodeL.cnt rAB ?_ ?_ ?_ ?_
   .decide
   .simp
   .refine sns ?_
    refine⟨n,⟨hA,hS,x,hat,rAR _,by rw[<- hS]; exact hN'⟩,?_⟩
    exact⟨[1,3],[0,2],[(3,.cptr (vBJ q) 0),(5,.cptr (.imm (p.map vA9)) 0)],[],⟨⟨⟨_,rfl⟩,⟨_,rfl⟩,rGU⟩,⟨⟨6,[0],zH0 rfl rfl,rfl⟩,⟨6,[2],zH0 rfl rfl,rfl⟩,rGU⟩,rGU⟩,⟨zAG rfl,apx,zAG rfl,apx,rGU⟩,
     ⟨bbx,bbx,rGU⟩,rAA⟩
   .intro m ⟨hAm,hSm,y,haty,hcy,hrep⟩
    have hsm:=q4 hAm
    have ca:Fn 70 [vA7 m,.imm (p.map vA9)] (.data (.tup [vA7 y,.bool true])):=by
     have h1:atV m p=some y:=by unfold atV; rw[rAU hAm.val]; exact haty
     have:=uQ8 m p hsm.1 zom;rw[h1]at this;exact this
    refine zAW (zBV vBC hT rAB ?_);refine sns ?_;refine zAA ca rfl ?_;refine sns ?_;refine vFD [] [(3,.cptr (vBJ q) 0),(4,.ptr 0 0 0),(5,.cptr (.imm (p.map vA9)) 0),(6,.ptr 1 0 0),(7,.cptr (vA7 y) 0)] [(0,⟨[vA7 m],9,true⟩),(1,vD8)] [] 2 zdd zsm trivial ?_ ?_
    .exact⟨[0,1],[8],[(7,.cptr (vA7 y) 0)],[],⟨⟨⟨_,rfl⟩,rGU⟩,⟨⟨6,[8],zDE rfl,rfl⟩,rGU⟩,rGU⟩,⟨zAG rfl,apx,zAG rfl,apx,zAG rfl,rGU⟩,⟨bbx,bbx,rGU⟩,rAA⟩
    have hym:y.valid=true:=zMR hAm.val haty;obtain⟨_,hyz⟩:=zPU (H:=fun _ n=>NodeZ P V v 1048576 n) (nx:=fun c _=>c) (fun c n k h hk=>(h.kid k hk).more _ _ _ _ (rAL _) zom) p m 0 hAm.z haty;obtain⟨_,hyt⟩:=zPU (H:=fun _ n=>Tok n) (nx:=fun c _=>c) (fun c n k h hk=>h.kid k hk) p m 0 hAm.tok haty
    have hy2:y.kids.length=0\/y.kids.length=2:=by
     by_cases h0:y.kids.length=0
     .exact rAW h0
     .exact rA0 (zD5 h0 (zBS hym).1).1
    refine uAW vBC hT rAB ?_
    refine gon ?_ ?_<;>intro h
    .refine zAB rfl ?_
     have h0:y.kids.length=0:=by omega
     rw[zE8 h0,vOL p m y haty]at hrep;cases hrep
     rfl
    .have hk2:y.kids.length=2:=by omega
     refine vDC (zAW (zAW (zBV vBC hT rAB ?_)));refine sns ?_;refine vDC (zCH ?_);refine zGC (fun i:Nat=>[(3,.cptr (vBJ q) 0),(4,.ptr 0 0 0),(5,.cptr (.imm (p.map vA9)) 0),(6,.ptr 1 0 0),(7,.cptr (vA7 y) 0),(32,.imm (y.kids.map vBF)),(33,.int .i64 2),(34,.int .i64 i)]) (fun _=>[(0,⟨[vA7 m],9,true⟩),(1,vD8)]) [] 2 (fun _=>[]) (fun i=>i<=2/\∀ j,j<i->vDI S y j=false) (fun i=>2 - i) 0 ⟨zom,fun j hj=>by omega⟩ zdd zsm ?_ rfl ?_
     .exact⟨[0,1],[],[],[],ttt,⟨zAG rfl,apx,zAG rfl,apx,zAG rfl,rAJ,zAC rfl (by rw[rAN,hk2]; rfl),rAI,rGU⟩,⟨bbx,bbx,rGU⟩,rAA⟩
     intro i ⟨hi,hno⟩;refine zAW (zBV vBC hT rAB ?_);refine sns ?_;by_cases hi2:i<2
     .have hik:i<y.kids.length:=by omega
      obtain⟨m',r1,r2,r3,r4,r5,r6,r7,r8,r9,r10⟩:=vSU hAm haty hik;have hsm':=zL3 _ _ _ (rAL _) (rAR _) r4 r5;have hsw:=zL3 _ _ _ (rAL _) (rAR _) r8 r9;have hsy:=zMR hAm.val haty;obtain⟨W,hW⟩:∃ W,vBZ y i p.length=W:=⟨_,rfl⟩
      have cl:Fn 71 [vA7 y,.int .i64 i,.int .i64 ((p.map vA9).length:Nat)] (.data (.tup [vA7 (vBZ y i p.length),.bool (!onN y.kids[i]! p.length)])):=by
       rw[rAN];exact uN8 y i p.length ⟨zom,zom⟩ zom (zL3 _ _ _ (rAL _) (rAR _) hyz hyt).2 hik
      have hSp:S.path=p:=by rw[<- hSm]; exact uBL haty
      have hg1:onN y.kids[i]! p.length=true->vDI S y i=false:=fun h=>by unfold vDI; rw[hSp,h]; rfl
      have hg2:vBE S W≠none->vDI S y i=false:=fun h=>by
       unfold vDI;rw[hSp,hW];cases hb:vBE S W with
       | none=>exact absurd hb h
       | some _=>simp
      have hg3:onN y.kids[i]! p.length=false->vBE S W=none->vDI S y i=true:=fun h1 h2=>by unfold vDI; rw[hSp,hW,h1,h2]; rfl
      have hlt:vDI S y i=false->∀ j,j<i+1->vDI S y j=false:=fun h j hj=>by
       rcases rB7 (rCA hj) with g | rfl
       .exact hno j g
       .exact h
      have cr:=vS5 W m p hsm.1 (by rw[<- hW]; exact hsw.1) zom;have ct:=vZY q m' P V v hvV hq hsm'.1 (by have:=(zBS r3).2; omega) r4 zom;rw[hW]at cl r1 r2 r10;rw[r2]at cr;rw[hSm]at r10;rw[r10]at ct;refine vDC (zAW (zBV vBC hT rAB ?_))
      refine gon ?_ ?_<;>intro h
      all_goals try (exfalso; omega)
      refine vDC (zAW (zCH (zAW (zBV vBC hT rAB ?_))));refine sns ?_;refine vDC (zAW (zBV vBC hT rAB ?_));refine sns ?_;refine zAA cl rfl ?_;refine sns ?_;refine vFD [] [(3,.cptr (vBJ q) 0),(4,.ptr 0 0 0),(5,.cptr (.imm (p.map vA9)) 0),(6,.ptr 1 0 0),(7,.cptr (vA7 y) 0),(32,.imm (y.kids.map vBF)),(33,.int .i64 2),(34,.int .i64 i),(10,.cptr (vA7 W) 0),(11,.bool (!onN y.kids[i]! p.length))] [(0,⟨[vA7 m],9,true⟩),(1,vD8)] [] 2 zdd zsm trivial ?_ ?_
      .exact⟨[0,1],[13],[(10,.cptr (vA7 W) 0)],[],⟨⟨⟨_,rfl⟩,rGU⟩,⟨⟨6,[13],zDE rfl,rfl⟩,rGU⟩,rGU⟩,⟨zAG rfl,apx,zAG rfl,apx,zAG rfl,zAE rfl rfl,zAC rfl rfl,zAC rfl rfl,zAG rfl,zAJ rfl rfl,rGU⟩,⟨bbx,bbx,rGU⟩,rAA⟩
      refine zAW (zBV vBC hT rAB ?_)
      refine gon ?_ ?_<;>intro h
      .refine vDC (zBV vBC hT rAB ?_)
       refine sns ?_;exact⟨i+1,⟨⟨zom,hlt (hg1 rAF)⟩,zom⟩,⟨[0,1],[],[],[],ttt,⟨zAG rfl,apx,zAG rfl,apx,zAG rfl,rAJ,rAI,zAC rfl zom,rGU⟩,⟨bbx,bbx,rGU⟩,rAA⟩,rfl⟩
      .refine vDC (zAW (zBV vBC hT rAB ?_))
       have hon:onN y.kids[i]! p.length=false:=by simp_all
       refine sns ?_;refine zAA cr rfl ?_;refine sns ?_;refine vFD [] [(3,.cptr (vBJ q) 0),(4,.ptr 0 0 0),(5,.cptr (.imm (p.map vA9)) 0),(6,.ptr 1 0 0),(7,.cptr (vA7 y) 0),(32,.imm (y.kids.map vBF)),(33,.int .i64 2),(34,.int .i64 i),(12,.cptr (vA7 m') 0),(13,.int .i64 0)] [(0,⟨[vA7 m],9,true⟩),(1,vD8)] [] 2 zdd zsm trivial ?_ ?_
       .exact⟨[0,1],[11],[(12,.cptr (vA7 m') 0)],[],⟨⟨⟨_,rfl⟩,rGU⟩,⟨⟨6,[11],zDE rfl,rfl⟩,rGU⟩,rGU⟩,⟨zAG rfl,apx,zAG rfl,apx,zAG rfl,zAE rfl rfl,zAC rfl rfl,zAC rfl rfl,zAG rfl,zAC rfl rfl,rGU⟩,⟨bbx,bbx,rGU⟩,rAA⟩
       refine zAW (zBV vBC hT rAB ?_);refine sns ?_;refine vDC (zAW (zBV vBC hT rAB ?_));cases hbw:vBE S W with
       | some pb =>
         rw[hbw]at ct;refine sns ?_;refine zAA ct rfl ?_;refine sns ?_;refine vFD [] [(3,.cptr (vBJ q) 0),(4,.ptr 0 0 0),(5,.cptr (.imm (p.map vA9)) 0),(6,.ptr 1 0 0),(7,.cptr (vA7 y) 0),(32,.imm (y.kids.map vBF)),(33,.int .i64 2),(34,.int .i64 i),(12,.cptr (vA7 m') 0),(15,.int .i64 12)] [(0,⟨[vA7 m],9,true⟩),(1,vD8)] [] 2 zdd zsm trivial ?_ ?_
         .exact⟨[0,1],[],[],[],ttt,⟨zAG rfl,apx,zAG rfl,apx,zAG rfl,rAJ,rAI,rAI,zAG rfl,rAI,rGU⟩,⟨bbx,bbx,rGU⟩,rAA⟩
         refine zAW (zBV vBC hT rAB ?_);refine sns ?_;refine vDC (zJG (t:=false) rfl rfl (fun h=>by cases h) (fun _=>?_));refine zJF ?_;refine vDC (zBV vBC hT rAB ?_);refine sns ?_;exact⟨i+1,⟨⟨zom,hlt (hg2 (by rw[hbw]; simp))⟩,zom⟩,⟨[0,1],[],[],[],ttt,⟨zAG rfl,apx,zAG rfl,apx,zAG rfl,rAJ,rAI,zAC rfl zom,rGU⟩,⟨bbx,bbx,rGU⟩,rAA⟩,rfl⟩
       | none =>
         rw[hbw]at ct;refine sns ?_;refine zAA ct rfl ?_;refine sns ?_;refine vFD [] [(3,.cptr (vBJ q) 0),(4,.ptr 0 0 0),(5,.cptr (.imm (p.map vA9)) 0),(6,.ptr 1 0 0),(7,.cptr (vA7 y) 0),(32,.imm (y.kids.map vBF)),(33,.int .i64 2),(34,.int .i64 i),(12,.cptr (vA7 m') 0),(15,.int .i64 0)] [(0,⟨[vA7 m],9,true⟩),(1,vD8)] [] 2 zdd zsm trivial ?_ ?_
         .exact⟨[0,1],[],[],[],ttt,⟨zAG rfl,apx,zAG rfl,apx,zAG rfl,rAJ,rAI,rAI,zAG rfl,rAI,rGU⟩,⟨bbx,bbx,rGU⟩,rAA⟩
         refine zAW (zBV vBC hT rAB ?_);refine sns ?_;refine vDC (zJG (t:=true) rfl rfl (fun _=>?_) (fun h=>by cases h));refine zAW (zBV vBC hT rAB ?_);refine sns ?_;refine vDC (uAZ ?_);have hfi:=zKI hik (hg3 hon hbw) hno;have hsp:=zC4 hfi;rw[hSp,hW]at hsp;have hcw:=zDF (p:=p.length) hik;rw[hW]at hcw;exact⟨rfl,rfl,m',⟨⟨uFD hAm haty hik (by rw[hW]; exact r1) (by rw[hSm,hW]; exact hbw),(zNL p m m' _ r1).trans hSm,W,vZ8 p m m' r1,zom,by rw[vL4 p m m' r1,<- hsp]; exact hrep⟩,r6⟩,⟨[0,1],[],[],[],ttt,⟨zAG rfl,apx,zAG rfl,apx,rGU⟩,⟨bbx,bbx,rGU⟩,rAA⟩⟩
     .obtain rfl:i=2:=by omega
      have hfn:vCL S y=none:=zJA (fun j hj=>hno j zom);refine vDC (zAW (zBV vBC hT rAB ?_));refine sns ?_
      all_goals try (exfalso; omega)
      refine vFD [] [(3,.cptr (vBJ q) 0),(4,.ptr 0 0 0),(5,.cptr (.imm (p.map vA9)) 0),(6,.ptr 1 0 0),(7,.cptr (vA7 y) 0)] [(0,⟨[vA7 m],9,true⟩),(1,vD8)] [] 2 zdd zsm trivial ?_ ?_
      .exact⟨[0,1],[],[],[],ttt,⟨zAG rfl,apx,zAG rfl,apx,zAG rfl,rGU⟩,⟨bbx,bbx,rGU⟩,rAA⟩
      refine uA0 vBC hT rAB ?_;refine sns ?_;refine zAA (uOH y) rfl ?_;refine sns ?_;have hsy:=zL3 _ _ _ (rAL _) (rAR _) hyz hyt;have hwy:y.wt<2097151:=by have:=uLX p m y haty; have:=hAm.wt; omega
      have hav:vGD y=y.all:=rAU hym;have hal:(vGD y).length<=2097151:=by rw[hav]; have:=(uAF _ y (rAL _)).1; omega
      have k00:vKH p y 0=[]:=rfl;refine vL8 hT [(3,.cptr (vBJ q) 0),(4,.ptr 0 0 0),(5,.cptr (.imm (p.map vA9)) 0),(6,.ptr 1 0 0),(7,.cptr (vA7 y) 0),(16,.ptr 2 0 0),(67,.func (.func 107) [] [.cptr (vA7 y) 0])] (vTL m y p) [] 3 (xs:=(vGD y).map vFI) ((vGD y).map vFI).length (vRN y p) (rAU k00) (uHV y p) zdd zsm zsm ?_ rfl rfl (uKM y hsy.1 hwy) (by simp only[rA5]; rintro _ ⟨v,_,rfl⟩; rfl) ?_ ?_ ?_
      .rw[show vTL m y p 0=_ from rAU k00]
       exact⟨[0,1,2],[],[],[],ttt,⟨zAG rfl,apx,zAG rfl,apx,zAG rfl,apx,zEL rfl,rGU⟩,⟨bbx,bbx,bbx,rGU⟩,rAA⟩
      .intro i v0 hv0 hi
       obtain⟨v,hv,rfl⟩:∃ v,(vGD y)[i]?=some v/\v0=vFI v:=by
        rw[rBP]at hv0;obtain⟨v,h1,h2⟩:=rBJ.1 hv0;exact⟨v,h1,h2.symm⟩
       have hsu:=vYA (p:=p) hv;have hlen:=uDX (p:=p) (y:=y) (i:=i);have cd:=zIP vA9 (fun _ _ x=>zEU x) (fun _=>⟨rfl,rfl⟩) p zom;by_cases hv1:v.1.length=1
       .rw[rAU hv1]at hsu
        have hne:vKH p y (i+1)≠[]:=by rw[hsu]; simp
        by_cases hb:vKH p y i=[]
        .rw[show vTL m y p i=_ from rAU hb,show vRN y p i=3 from rAU hb]
         rw[hb,List.nil_append]at hsu
         refine gon ?_ ?_<;>intro h
         all_goals try (exfalso; omega)
         refine zBB cd rfl ?_;refine sns ?_;rw[show vTL m y p (i+1)=_ from rAM hne,show vRN y p (i+1)=4 from rAM hne,hsu];exact⟨[13],[11],[],[(13,[vMH (p++v.1)])],⟨⟨⟨_,rfl⟩,rGU⟩,rGU,⟨⟨_,6,[11],rfl,zAD (ks:=[11]) (ls:=[]) (zAI (f:=vA9) (l:=p++v.1) rfl (by rw[rBE]) zsm (fun x=>zEU x)) rfl,rfl⟩,rGU⟩⟩,rGU,⟨bbx,bbx,zAH zdd rfl (by rw[zDW]; exact⟨zdd,rfl⟩) rfl rfl,zAF zdd rfl rfl (fun e he=>by obtain⟨x,_,rfl⟩:=rA5.1 he; exact⟨rfl,zsm⟩) rfl,rGU⟩,rAA⟩
        .rw[show vTL m y p i=_ from rAM hb,show vRN y p i=4 from rAM hb]
         refine gon ?_ ?_<;>intro h
         all_goals try (exfalso; omega)
         refine zBB cd rfl ?_;refine sns ?_;rw[show vTL m y p (i+1)=_ from rAM hne,show vRN y p (i+1)=4 from rAM hne,hsu];exact⟨[14],[12],[],[(14,(vKH p y i).map vMH++[vMH (p++v.1)])],⟨⟨⟨_,rfl⟩,rGU⟩,rGU,⟨⟨_,6,[12],rfl,vKA (zAI (f:=vA9) (l:=p++v.1) rfl (by rw[rBE]) zsm (fun x=>zEU x)) (vXX (fun x=>rfl) _),rfl⟩,rGU⟩⟩,rGU,⟨bbx,bbx,zAH zdd rfl (by rw[zDW,rAV]; exact⟨zdd,rfl⟩) rfl rfl,zAF zdd rfl (by rw[rBE]; rfl) (fun e he=>by obtain⟨x,_,rfl⟩:=rA5.1 he; exact⟨rfl,zsm⟩) rfl,rGU⟩,rAA⟩
       .rw[rAM hv1,rBQ]at hsu
        rw[show vTL m y p (i+1)=vTL m y p i by unfold vTL; rw[hsu],show vRN y p (i+1)=vRN y p i by unfold vRN; rw[hsu]];by_cases hb:vKH p y i=[]
        .rw[show vTL m y p i=_ from rAU hb,show vRN y p i=3 from rAU hb]
         refine gon ?_ ?_<;>intro h
         all_goals try (exfalso; omega)
         exact⟨[],[],[],[],ttt,rGU,⟨bbx,bbx,bbx,rGU⟩,rAA⟩
        .rw[show vTL m y p i=_ from rAM hb,show vRN y p i=4 from rAM hb]
         refine gon ?_ ?_<;>intro h
         all_goals try (exfalso; omega)
         exact⟨[3],[],[],[],ttt,rGU,⟨bbx,bbx,zAH zdd rfl (by rw[zDW]; exact⟨zdd,rfl⟩) rfl rfl,zAF zdd rfl rfl (fun e he=>by obtain⟨x,_,rfl⟩:=rA5.1 he; exact⟨rfl,zsm⟩) rfl,rGU⟩,rAA⟩
      .intro v0 hv0
       simp at hv0
      .intro _
       have hB2:vKH p y ((vGD y).map vFI).length=[p++[vC6 y 0],p++[vC6 y 1]]:=by
        unfold vKH;rw[rAN,rBW,hav,uK9 hk2];rfl
       have hne:vKH p y ((vGD y).map vFI).length≠[]:=by rw[hB2]; simp
       obtain⟨n1,n2,e1,accN,e3,e4,e5,e6⟩:=uBU hAm haty hk2 (by rw[hSm]; exact hfn);have k0:=zDU (n:=y) (i:=0) zom;have k1:=zDU (n:=y) (i:=1) zom;obtain⟨n1',g1,c0⟩:=ih m _ _ zom hAm e3;obtain⟨n2',g2,c1⟩:=ih n1 _ _ zom accN e4;rw[e1]at g1;rw[e5]at g2;cases g1
       cases g2
       rw[hSm,hrep]at e6;cases e6
       rw[show vTL m y p _=_ from rAM hne,show vRN y p _=4 from rAM hne,hB2];refine sns ?_
       refine zAN hT (fun((i,w):Nat×NodeL)=>[(3,.cptr (vBJ q) 0),(4,.ptr 0 0 0),(6,.ptr 1 0 0),(80,.imm ([p++[vC6 y 0],p++[vC6 y 1]].map vMH)),(81,.int .i64 2),(82,.int .i64 i)]) (fun((i,w):Nat×NodeL)=>[(0,⟨[vA7 w],9,true⟩),(1,vD8)]) [] 2
        (fun((i,w):Nat×NodeL)=>(i=0/\w=m)\/(i=1/\w=n1)\/(i=2/\w=N')) (fun((i,w):Nat×NodeL)=>2 - i) (0,m) (rAW ⟨rfl,rfl⟩) zdd zsm ?_ ?_
       .exact⟨[0,1],[3],[(80,.imm ([p++[vC6 y 0],p++[vC6 y 1]].map vMH))],[],⟨⟨⟨_,rfl⟩,rGU⟩,⟨⟨6,[3],zAI (f:=vMH) (l:=[p++[vC6 y 0],p++[vC6 y 1]]) rfl rfl rfl (fun x=>rfl),rfl⟩,rGU⟩,rGU⟩,⟨zAG rfl,apx,apx,zAE rfl rfl,zAC rfl rfl,zAC rfl rfl,rGU⟩,⟨bbx,bbx,rGU⟩,rAA⟩
       rintro⟨i,w⟩ (⟨rfl,rfl⟩ | ⟨rfl,rfl⟩ | ⟨rfl,rfl⟩)
       .refine sns ?_
        all_goals try (exfalso; omega)
        refine zAA c0 rfl ?_;refine sns ?_;exact⟨(1,n1),⟨rA0 (rAW ⟨rfl,rfl⟩),(by show 2 - 1<2 - 0; omega)⟩,[0,1],[],[],[],ttt,⟨zAG rfl,apx,apx,rAJ,rAI,rAI,rGU⟩,⟨bbx,bbx,rGU⟩,rAA⟩
       .refine sns ?_
        all_goals try (exfalso; omega)
        refine zAA c1 rfl ?_;refine sns ?_;exact⟨(2,N'),⟨rA0 (rA0 ⟨rfl,rfl⟩),(by show 2 - 2<2 - 1; omega)⟩,[0,1],[],[],[],ttt,⟨zAG rfl,apx,apx,rAJ,rAI,rAI,rGU⟩,⟨bbx,bbx,rGU⟩,rAA⟩
       .refine sns ?_
        all_goals try (exfalso; omega)
        exact rGV
theorem vLO{q:QryL}{n:NodeL}(h:(vCF q n).2=0):n.valid=true/\VaQ q/\vBE ⟨q,[],[]⟩ n=none:=by
 unfold vCF at h
 split at h
 .rename_i hv
  split at h
  .rename_i hb; exact⟨hv.1,hv.2,hb⟩
  .cases h
 .cases h
noncomputable def splV(q:QryL)(n:NodeL):NodeL×Int:=if (vCF q n).2=0 then(vCS ⟨q,[],[]⟩ n,0) else(vDW,(vCF q n).2)
structure inS(q:QryL)(P V v:Nat)(n:NodeL):Prop where
 q:szQ q P
 hv:v<=V
 B:P+2 * V+20<=20000000
 z:NodeZ P V v 1048576 n
 tok:Tok n
 wt:n.wt<=1048576
theorem inS.sm{q:QryL}{P V v:Nat}{n:NodeL}(h:inS q P V v n):n.Sm/\NodeRg n:=zL3 _ _ _ (rAL _) (rAR _) h.z h.tok
theorem inS.cnt{q:QryL}{P V v:Nat}{n:NodeL}(h:inS q P V v n):n.cnt<=4194304:=by have:=uGK _ n (rAL _); have:=h.wt; omega
theorem inS.tree{q:QryL}{P V v:Nat}{n:NodeL}(h:inS q P V v n):Fn 38 [vBJ q,vA7 n] (.data (.tup [.imm ((vCF q n).1.map vA9),.int .i64 (vCF q n).2])):=by
 have:=h.B;exact vZY q n P V v h.hv h.q h.sm.1 h.cnt h.z zom
theorem zPH:FO 16 Tryz.f16 [.cell 4 32,.tmp 5] 21:=mkO Tryz.func16 Tryz.ntmps16 Tryz.results16
theorem vK0(q:QryL)(P V v:Nat)(n:NodeL)(h:inS q P V v n):Fn 16 [vBJ q,vA7 n] (.data (.tup [vA7 (splV q n).1,.int .i64 (splV q n).2])):=by
 have ct:=h.tree;unfold splV;by_cases h0:(vCF q n).2=0
 .obtain⟨k1,k2,k3⟩:=vLO h0
  obtain⟨n',g1,cr⟩:=uD2 q P V v h.hv h.q h.B _ n n [] (rAL _) ⟨k1,k2,k3,h.z,h.tok,h.wt⟩ rfl
  have g2:n'=vCS ⟨q,[],[]⟩ n:=by
   have:vCY (vCS (vCH ⟨q,[],[]⟩ n []) n) n []=some (vCS ⟨q,[],[]⟩ n):=rfl;rw[this]at g1; cases g1; rfl
  rw[rAU h0,<- g2];rw[h0]at ct;refine zAL vBC hT zPH (by simp[vBJ]) ?_;refine sns ?_;refine zAA ct rfl ?_;refine sns ?_;refine zAA cr rfl ?_;refine sns ?_;exact rGV
 .rw[rAM h0]
  generalize (vCF q n).2=e at *
  refine zAL vBC hT zPH (by simp[vBJ]) ?_;refine sns ?_;refine zAA ct rfl ?_
  refine gon ?_ ?_<;>intro h
  all_goals try (exfalso; omega)
  exact rGV
theorem vRV{l:List MultL}{p:Int}{i:Nat}(h:i<l.length)(hu:isP p l[i]!.row=true):vC5 l p=true:=any_some (f:=fun m:MultL=>isP p m.row) h hu
theorem vRW{l:List MultL}{p:Int}(h:∀ j,j<l.length->isP p l[j]!.row=false):vC5 l p=false:=zK4 h
theorem vW5:FO 87 Tryz.f87 [.tmp 4] 29:=mkO Tryz.func87 Tryz.ntmps87 Tryz.results87
theorem vQS(l:List MultL)(p:Int)(hl:vCX l):Fn 87 [.imm (l.map vBB),.int .i64 p] (.data (.bool (vC5 l p))):=by
 have hln:=hl.1;refine zAL vBC hT vW5 zsm ?_;refine sts ?_;refine zA4 hT (fun i:Nat=>[(0,.imm (l.map vBB)),(1,.int .i64 p),(5,.int .i64 i)]) (fun i=>i<=l.length/\∀ j,j<i->isP p l[j]!.row=false) (fun i=>l.length - i) 0 ⟨rA7 _,fun j hj=>by omega⟩ ⟨rAJ,rAI,rAI,rGU⟩ ?_;intro i ⟨hi,hno⟩;by_cases h0:i<l.length
 .have hs:isP p l[i]!.row=false->∀ j,j<i+1->isP p l[j]!.row=false:=fun h j hj=>by
   rcases rB7 (rCA hj) with g | rfl
   .exact hno j g
   .exact h
  by_cases hP:isP p l[i]!.row=true
  .have hP2:=hP
   unfold isP at hP2;obtain⟨p1,p2⟩:=rCD hP2
   (repeat' (first|refine stp ?_|with_reducible(refine brr ?_ ?_<;>intro h)));all_goals try(conv=>whnf)
   all_goals try (exfalso; omega)
   exact zAB rfl (rA3 PV.bool (vRV h0 hP).symm)
  .have hP2:¬ (l[i]!.row.kind=4/\l[i]!.row.index=p):=fun e=>hP (rB4 e)
   (repeat' (first|refine stp ?_|with_reducible(refine brr ?_ ?_<;>intro h)));all_goals try(conv=>whnf)
   all_goals try (exfalso; omega)
   all_goals exact⟨i+1,⟨⟨zom,hs (by simpa using hP)⟩,zom⟩,rAJ,rAI,zAC rfl zom,rGU⟩
 .obtain rfl:i=l.length:=by omega
  (repeat' (first|refine stp ?_|with_reducible(refine brr ?_ ?_<;>intro h)));all_goals try(conv=>whnf)
  all_goals try (exfalso; omega)
  exact zAB rfl (rA3 PV.bool (vRW hno).symm)
theorem vMT:FO 48 Tryz.f48 [.tmp 4] 40:=mkO Tryz.func48 Tryz.ntmps48 Tryz.results48
theorem vS8 (p:Int):∀ (sz:Nat) (n:NodeL),SizeOf.sizeOf n<sz->NodeRg n->Fn 48 [vA7 n,.int .i64 p] (.data (.bool (onN n p))):=by
 intro sz
 induction sz with
 | zero=>intro n h; omega
 | succ sz ih =>
   intro n hsz hn;have hln:=hn.ln;have hkn:=hn.kn;have cp:=vQS n.proof p hn.prf;refine zAL vBC hT vMT zsm ?_;refine sns ?_;refine zAN hT (fun i:Nat=>[(1,.int .i64 p),(2,.cptr (vA7 n) 0),(5,.int .i64 i)]) (fun _=>[]) [] 0 (fun i=>i<=n.lemmas.length/\∀ j,j<i->vC5 n.lemmas[j]!.proof p=false) (fun i=>n.lemmas.length - i) 0 ⟨rA7 _,fun j hj=>by omega⟩ zdd zsm ?_ ?_
   .exact⟨[],[0],[(2,.cptr (vA7 n) 0)],[],⟨⟨⟨_,rfl⟩,rGU⟩,⟨⟨6,[0],zDE rfl,rfl⟩,rGU⟩,rGU⟩,⟨zAC rfl rfl,zAG rfl,zAC rfl rfl,rGU⟩,rGU,rAA⟩
   intro i ⟨hi,hno⟩;by_cases h0:i<n.lemmas.length
   .have hlm:n.lemmas[i]! ∈ n.lemmas:=zA2 h0
    have cu:=vQS n.lemmas[i]!.proof p (hn.lem _ hlm)
    refine gon ?_ ?_<;>intro h
    .refine zAA cu rfl ?_
     refine gon ?_ ?_<;>intro h
     .refine zAB rfl (rA3 PV.bool ?_)
      rw[zPG,any_some (f:=fun m=>vC5 m.proof p) h0 rAC];rfl
     .refine⟨i+1,⟨⟨zom,fun j hj=>?_⟩,by show n.lemmas.length - (i+1)<n.lemmas.length - i; omega⟩,[],[],[],[],ttt,⟨rAI,zAG rfl,zAC rfl zom,rGU⟩,rGU,rAA⟩
      rcases rB7 (rCA hj) with h | rfl
      .exact hno j h
      .assumption
    all_goals (exfalso; omega)
   .obtain rfl:i=n.lemmas.length:=by omega
    have e1:n.lemmas.any (fun m=>vC5 m.proof p)=false:=zK4 hno
    refine gon ?_ ?_<;>intro h
    all_goals try (exfalso; omega)
    refine zAN hT (fun i:Nat=>[(1,.int .i64 p),(2,.cptr (vA7 n) 0),(6,.int .i64 i)]) (fun _=>[]) [] 0 (fun i=>i<=n.kids.length/\∀ j,j<i->onN n.kids[j]! p=false) (fun i=>n.kids.length - i) 0 ⟨rA7 _,fun j hj=>by omega⟩ zdd zsm ?_ ?_
    .exact⟨[],[],[],[],ttt,⟨rAI,zAG rfl,rAI,rGU⟩,rGU,rAA⟩
    intro i ⟨hi,hno2⟩;by_cases h0:i<n.kids.length
    .have hkm:n.kids[i]! ∈ n.kids:=zA2 h0
     have cu:=ih n.kids[i]! (by have:=NodeL.sizeOf_kid hkm; omega) (hn.kid _ hkm)
     refine gon ?_ ?_<;>intro h
     .refine zAA cu rfl ?_
      refine gon ?_ ?_<;>intro h
      .refine zAB rfl (rA3 PV.bool ?_)
       rw[zPG,any_some (f:=fun m=>onN m p) h0 rAC]
       simp
      .refine⟨i+1,⟨⟨zom,fun j hj=>?_⟩,by show n.kids.length - (i+1)<n.kids.length - i; omega⟩,[],[],[],[],ttt,⟨rAI,zAG rfl,zAC rfl zom,rGU⟩,rGU,rAA⟩
       rcases rB7 (rCA hj) with h | rfl
       .exact hno2 j h
       .assumption
     all_goals (exfalso; omega)
    .obtain rfl:i=n.kids.length:=by omega
     have e2:n.kids.any (fun m=>onN m p)=false:=zK4 hno2
     refine gon ?_ ?_<;>intro h
     all_goals try (exfalso; omega)
     refine zAA cp rfl ?_;refine sns ?_;refine zAB rfl (rA3 PV.bool ?_);rw[zPG,e1,e2];rfl
theorem vJX:FO 27 Tryz.f27 [.cell 6 32,.tmp 7] 34:=mkO Tryz.func27 Tryz.ntmps27 Tryz.results27
theorem uE2(n:NodeL)(i:Nat)(p:Int)(hp:vFS p)(h0:0<=p)(hn:NodeRg n)(hi:i<n.kids.length):Fn 27 [vA7 n,.int .i64 i,.int .i64 p] (.data (.tup [vA7 (if onN n.kids[i]! p=true then vDW else vBZ n i p),.bool (!onN n.kids[i]! p)])):=by
 have hln:=hn.ln;have hkn:=hn.kn;have hkm:n.kids[i]! ∈ n.kids:=zA2 hi;have co:=vS8 p _ n.kids[i]! (rAL _) (hn.kid _ hkm);have cn:=vK4 (-1) p ⟨zom,zom⟩ hp _ n.kids[i]! (rAL _) (hn.kid _ hkm)
 have hkl:(vCO (vCM (-1) p) n.kids[i]!).lemmas.length<2097152:=by
  rw[zG4,rAN];exact(hn.kid _ hkm).ln
 unfold vBZ;obtain⟨o,ho⟩:∃ o,onN n.kids[i]! p=o:=⟨_,rfl⟩;rw[ho]at co ⊢;generalize vCO (vCM (-1) p) n.kids[i]! = K at *
 cases o with
 | true =>
   refine zAL vBC hT vJX zsm ?_;refine sns ?_
   all_goals try (exfalso; omega)
   refine zAA co rfl ?_;refine sns ?_;exact rGV
 | false =>
   refine zAL vBC hT vJX zsm ?_;refine sns ?_
   all_goals try (exfalso; omega)
   refine zAA co rfl ?_;refine sns ?_;refine zAA cn rfl ?_;refine sns ?_;exact zAB (zKF (zAD (zBZ (zAD (zAI (f:=vBA) (l:=n.lemmas++K.lemmas) rfl (by show []++List.map vBA n.lemmas++List.map vBA K.lemmas=_; simp) (by show 0+(List.map vBA n.lemmas).length+(List.map vBA K.lemmas).length=_; simp) (fun x=>zI8 x)) rfl)) rfl)) rfl
theorem uJ5{q:QryL}{n:NodeL}{i:Nat}(h:vFH q n.split):vFH q (vC6 n i):=by
 unfold vC6
 split
 .exact vP1 h
 .exact h
theorem uHX(n:NodeL)(i:Nat):(vC6 n i).rat=n.split.rat:=by
 unfold vC6
 split<;>rfl
theorem vZ7{S:ScpL}{n:NodeL}{d i:Nat}(hf:vBH d n=true)(hb:vBE S n=none)(hi:i<n.kids.length):vBE (vD2 S n i) n.kids[i]! = none:=by
 obtain⟨b0,b1⟩:=zNZ zom hf hb;obtain⟨e1,_⟩:=zD5 zom hf;rcases rCP i 1 with h | h
 .obtain rfl:i=0:=by omega
  exact b0
 .obtain rfl:i=1:=by omega
  exact b1
theorem vRP{α:Type}(g:Nat->α)(i:Nat):(List.range i).map g++[g i]=(List.range (i+1)).map g:=by rw[rF5,rBE]; rfl
theorem vJU:FO 40 Tryz.f40 [.cell 4 32] 75:=mkO Tryz.func40 Tryz.ntmps40 Tryz.results40
theorem vNJ (P V v:Nat) (hB2:P+2 * V<=20000000):∀ (f:Nat) (n:NodeL) (S:ScpL) (c d:Nat),n.cnt<f->vBH d n=true->vBE S n=none->vB6 S->szT S P V v c d->NodeZ P V v c n->Tok n->szQ S.q P->vDD S<=16->c<=1048576->Fn 40 [vBD S,vA7 n] (.data (vA7 (vCS S n))):=by
 intro f
 induction f with
 | zero=>intro n S c d h; omega
 | succ f ih =>
   intro n S c d hf hfo hb hS hz hn ht hq hv hc;obtain⟨hsm,hrg⟩:=zL3 _ _ _ (rAL _) hc hn ht;have hkn:=hrg.kn;have hln:=hrg.ln;have p1:=hz.plen;have p2:=hz.num;have hright:=zFT hb;have hcan2:∀ k,k<n.lemmas.length->vE0 n.lemmas[k]!.value:=fun k hk=>(hright.1 k hk).2.1
   refine zAL vBC hT vJU (by simp[vBD]) ?_;refine sns ?_;refine zAN hT (fun i:Nat=>[(2,.cptr (vBD S) 0),(3,.cptr (vA7 n) 0),(4,.ptr 0 0 0),(5,.int .i64 i)]) (fun _=>[(0,vD8)]) [] 1 (fun i=>i<=n.kids.length/\∀ j,j<i->vDI S n j=false) (fun i=>n.kids.length - i) 0 ⟨rA7 _,fun j hj=>by omega⟩ zdd zsm ?_ ?_
   .exact⟨[2],[0,1],[(2,.cptr (vBD S) 0),(3,.cptr (vA7 n) 0)],[],⟨⟨⟨_,rfl⟩,⟨_,rfl⟩,rGU⟩,⟨⟨6,[0],zH0 rfl rfl,rfl⟩,⟨6,[1],zDE rfl,rfl⟩,rGU⟩,rGU⟩,⟨zAG rfl,zAG rfl,apx,zAC rfl rfl,rGU⟩,⟨bbx,rGU⟩,rAA⟩
   intro i ⟨hi,hno⟩;by_cases hi':i<n.kids.length
   .have hlt:vDI S n i=false->∀ j,j<i+1->vDI S n j=false:=fun h j hj=>by
     rcases rB7 (rCA hj) with g | rfl
     .exact hno j g
     .exact h
    have cl:Fn 27 [vA7 n,.int .i64 i,.int .i64 ((S.path.map vA9).length:Nat)] (.data (.tup [vA7 (if onN n.kids[i]! S.path.length=true then vDW else vBZ n i S.path.length),.bool (!onN n.kids[i]! S.path.length)])):=by
     rw[rAN];exact uE2 n i S.path.length ⟨zom,zom⟩ zom hrg hi'
    have hcl:=zDF (p:=S.path.length) hi';have hfw:=zGP (p:=S.path.length) hfo hi';have hzw:=zGK (p:=S.path.length) hi' hn;have htw:=zJK (p:=S.path.length) zom hi' ht;have hsw:=(zL3 _ _ _ (rAL _) hc hzw htw).1;have cb:=vK5 _ (vBZ n i S.path.length) S P V v c d (rAL _) hsw hfw hS hz hzw hq hB2 hv;have hg:vDI S n i=(!onN n.kids[i]! S.path.length && (vBE S (vBZ n i S.path.length)).isNone):=rfl;have hsp:vDI S n i=true->vCS S n=vCS S (vBZ n i S.path.length):=fun h=>zC4 (zKI hi' h hno)
    have cr:vBE S (vBZ n i S.path.length)=none->Fn 40 [vBD S,vA7 (vBZ n i S.path.length)] (.data (vA7 (vCS S (vBZ n i S.path.length)))):=fun h=>ih _ S c d zom hfw h hS hz hzw htw hq hv hc
    generalize vBZ n i S.path.length=W at *
    unfold uAO at cb;cases ho:onN n.kids[i]! S.path.length with
    | true =>
      rw[ho]at hg cl;rw[rAU rfl]at cl
      refine gon ?_ ?_<;>intro h
      all_goals try (exfalso; omega)
      refine zAA cl rfl ?_;refine sns ?_;exact⟨i+1,⟨⟨zom,hlt hg⟩,by show n.kids.length - (i+1)<n.kids.length - i; omega⟩,[0],[],[],[],ttt,⟨zAG rfl,zAG rfl,apx,zAC rfl zom,rGU⟩,⟨bbx,rGU⟩,rAA⟩
    | false =>
      rw[ho]at hg cl;rw[rAM zdd]at cl;cases hbw:vBE S W with
      | some pb =>
        rw[hbw]at cb hg
        refine gon ?_ ?_<;>intro h
        all_goals try (exfalso; omega)
        refine zAA cl rfl ?_;refine sns ?_;refine zAA cb rfl ?_;refine sns ?_;exact⟨i+1,⟨⟨zom,hlt hg⟩,by show n.kids.length - (i+1)<n.kids.length - i; omega⟩,[0],[],[],[],ttt,⟨zAG rfl,zAG rfl,apx,zAC rfl zom,rGU⟩,⟨bbx,rGU⟩,rAA⟩
      | none =>
        rw[hbw]at cb hg;have cr:=cr hbw
        refine gon ?_ ?_<;>intro h
        all_goals try (exfalso; omega)
        refine zAA cl rfl ?_;refine sns ?_;refine zAA cb rfl ?_;refine sns ?_;refine zAA cr rfl ?_;refine sns ?_;exact zAB rfl (by rw[hsp hg])
   .obtain rfl:i=n.kids.length:=by omega
    have hfn:vCL S n=none:=zJA hno;rw[zDJ hfn]
    refine gon ?_ ?_<;>intro h
    all_goals try (exfalso; omega)
    refine zCK hT [(.cl 7 0 6,9,true)] (fun(i:Nat)=>[(2,.cptr (vBD S) 0),(3,.cptr (vA7 n) 0),(4,.ptr 0 0 0),(8,.ptr 1 0 0),(9,.int .i64 i)])
     (fun i=>[(0,vD8),(1,⟨[vHC n (.imm (n.lemmas.map vBA)) (.own 2 0 i) (.imm (n.proof.map vBB))],9,true⟩),(2,⟨((List.range i).map fun i=>vCS (vD2 S n i) n.kids[i]!).map vBF,9,true⟩)]) [] 3
     (fun i=>i<=n.kids.length) (fun i=>n.kids.length - i) 0 (rA7 _) zdd zsm ⟨_,_,rfl,rfl,rfl,rGU⟩ ?_ ?_
    .exact⟨[0,7,_],[],[],[],ttt,⟨zAG rfl,zAG rfl,(apy rfl),(apy rfl),zAC rfl rfl,rGU⟩,
      ⟨bbx,zAH zdd rfl (zB7 vRL (zHA zdd rfl rfl) vRL) rfl rfl,zAF zdd rfl rfl (zF4 _) rfl,rGU⟩,rAA⟩
    intro i hi;by_cases hi':i<n.kids.length
    .have hk0:n.kids.length≠0:=by omega
     obtain⟨e1,e2,_⟩:=zD5 hk0 hfo;have hkm:n.kids[i]! ∈ n.kids:=get_mem hi';have hck:=zDU hi';have hlen:((List.range i).map fun i=>vCS (vD2 S n i) n.kids[i]!).length=i:=by simp
     have hfit:vFH S.q n.split:=by have:=hright.2; rw[rAM hk0]at this; exact this
     have ck:=vQL S.path n i zom;have cr:=ih n.kids[i]! (vD2 S n i) _ (d - 1) zom (zIJ hfo hi') (vZ7 hfo hb hi') (Go.PI.ok_kid hS (uJ5 hfit)) (hz.kid e2 hn hcan2 (by rw[uHX]; exact hn.spl)) (hn.kid _ hkm) (ht.kid _ hkm) hq hv zom
     refine gon ?_ ?_<;>intro h
     all_goals try (exfalso; omega)
     refine zBB ck rfl ?_;refine sns ?_;have arg:∀ {h:Hp} {a b k m:Nat} {els els':List PV},h a=some ⟨els',5,true⟩->els'=(S.path++[vC6 n i]).map vA9->k=(S.path++[vC6 n i]).length->h b=some ⟨els,6,true⟩->els=(S.lems++n.lemmas).map vBA->m=(S.lems++n.lemmas).length->frz h 6 (.agg [.int .i64 S.q.g.ins,.imm (S.q.g.units.map vBM),.imm (S.q.g.outs.map vBM),.imm (S.q.r.lo.map vA5),.imm (S.q.r.hi.map vA5),.imm (S.q.r.rows.map vBM),.imm (S.q.goal.terms.map vCB),.bool S.q.goal.const.neg,vBK S.q.goal.const.num,vBK S.q.goal.const.den,.own a 0 k,.own b 0 m])=some (vBD (vD2 S n i),[a,b]):=fun h1 h2 h3 h4 h5 h6=>vPX (S:=S) (S':=vD2 S n i) rfl h1 h2 h3 h4 h5 h6
     refine zAA cr (zAD (arg rfl rfl zsm rfl (by show []++List.map vBA S.lems++List.map vBA n.lemmas=_; simp) (by show 0+(List.map vBA S.lems).length+(List.map vBA n.lemmas).length=_; simp)) (zAD rfl rfl)) ?_;refine sns ?_;refine zBN ⟨rfl,by show i=(List.map vBF _).length; rw[rAN,hlen],?_⟩ ?_
     .show i+1<=4294967296
      omega
     refine sns ?_
     refine⟨i+1,⟨zom,zom⟩,[0,1,_],[],[],[],ttt,⟨zAG rfl,zAG rfl,(apy rfl),(apy rfl),zAC rfl zom,rGU⟩,
      ⟨bbx,zAH zdd rfl (zB7 vRL (zHA zdd rfl rfl) vRL) rfl rfl,zAF zdd rfl ?_ (zF4 _) rfl,rGU⟩,rAA⟩
     rw[<- vRP,rBE];show _++[vA7 _]=_++[vBF _]
     rw[zBR]
    .obtain rfl:i=n.kids.length:=by omega
     obtain⟨KD,hKD⟩:∃ KD,((List.range n.kids.length).map fun i=>vCS (vD2 S n i) n.kids[i]!)=KD:=⟨_,rfl⟩;have hkl:KD.length=n.kids.length:=by rw[<- hKD]; simp
     rw[hKD];refine sus ?_;refine zA0 ?_; (repeat' (first|refine stu ?_|with_reducible(refine brr ?_ ?_<;>intro h)));all_goals try(conv=>whnf)
     .exfalso; omega
     refine vBV [] [(4,.ptr 0 0 0),(8,.ptr 1 0 0)] [(0,vD8),(1,⟨[vA7 (.mk n.lemmas n.split KD n.empty n.proof)],9,true⟩)] [] 2 zdd zsm trivial ?_ ?_
     .exact⟨[0,1],[2],[],[(1,[vA7 (.mk n.lemmas n.split KD n.empty n.proof)])],⟨⟨⟨_,rfl⟩,rGU⟩,rGU,⟨⟨_,6,[2],rfl,zAD (ks:=[2]) (ls:=[]) (vPZ rfl hkl.symm) rfl,rfl⟩,rGU⟩⟩,⟨apx,apx,rGU⟩,
       ⟨bbx,bbx,rGU⟩,rAA⟩
     refine sns ?_;exact rGV
theorem zMA:FO 17 Tryz.f17 [.cell 4 32,.tmp 5] 22:=mkO Tryz.func17 Tryz.ntmps17 Tryz.results17
theorem vNM(q:QryL)(P V v:Nat)(n:NodeL)(h:inS q P V v n)(hv:q.g.ins+q.g.units.length<=16):Fn 17 [vBJ q,vA7 n] (.data (.tup [vA7 (splV q n).1,.int .i64 (splV q n).2])):=by
 have hB:=h.B;have ct:=zOG q n P V v h.hv h.q h.sm.1 h.z hB hv;unfold splV;by_cases h0:(vCF q n).2=0
 .obtain⟨k1,k2,k3⟩:=vLO h0
  have hz0:szT ⟨q,[],[]⟩ P V v 1048576 2048:=by
   refine⟨h.q.P1,h.q.g.1.2,h.q.r.1,h.q.r.2.1,⟨h.q.r.2.2.2,h.q.r.2.2.1⟩,h.q.goal,(by show 0+2048<=1048576; omega),(fun d hd=>by cases hd),(fun d hd=>by cases hd),(fun d hd=>by cases hd),⟨h.hv,fun m hm=>by cases hm⟩,(by show 0+1048576<=1048576; omega),zom,?_⟩;show q.g.ins+q.g.units.length<=1280
   omega
  have cr:=vNJ P V v zom _ n ⟨q,[],[]⟩ 1048576 2048 (rAL _) (zBS k1).1 k3 ⟨k2,fun d hd=>by cases hd⟩ hz0 h.z h.tok h.q hv (rAR _);rw[rAU h0];rw[h0]at ct;refine zAL vBC hT zMA (by simp[vBJ]) ?_;refine sns ?_;refine zAA ct rfl ?_;refine sns ?_;refine zAA cr rfl ?_;refine sns ?_;exact rGV
 .rw[rAM h0]
  generalize (vCF q n).2=e at *
  refine zAL vBC hT zMA (by simp[vBJ]) ?_;refine sns ?_;refine zAA ct rfl ?_
  refine gon ?_ ?_<;>intro h
  all_goals try (exfalso; omega)
  exact rGV
end Go.PI.Tryz
