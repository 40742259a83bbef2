/-
  simplex: feasible, the second half: the column that goes again.
-/
import Derived.Test.YtcbepncdbgaohaaGreatDoorCD0
set_option linter.all false
set_option maxHeartbeats 0
set_option maxRecDepth 100000
namespace Go.PI.Tryz
open Go.Proofs Go.PI Go.Proofs.Tryz Go.PI.SX
variable {i:Nat}
def uIH{l:List Nat}{n m b x y:Nat}(hb:b<1300):rn (ren 1300 l) 1302 3 (stH n m b x y) (stH n m b x y):=⟨rfl,rfl,⟨zom,by unfold ren;rw[zE hb]⟩,⟨zdd,rfl⟩,⟨zdd,rfl⟩,rfl,rfl,zA⟩
def uP6(n m b x y k:Nat)(hb:b<1300)(f:QF)(hn:n<=90)(hf:szF k f)(ho:okF (n:Int) f)(hk:k<=10000000):Fn 114 [.ptr 1001 0 0,zP f] (.pk [(1001,⟨[stH n m b x y],7,true⟩)] 1300 (.own 1300 0 (n+1)) (some (rwB (frX f n)))):=by
 have hfl:=aS n ho.1.1 ho.2;refine Ip zU hT (mkO func114 ntmps114 results114) zsm (sts ?_)
 refine xG hT (fun(j:Nat)=>[(3,.ptr 1301 0 0),(5,.own 1300 0 (n+1)),(16,.imm (f.ts.map uY)),(17,.int .i64 f.ts.length),(18,.int .i64 j)])
  (fun j=>[(1001,⟨[stH n m b x y],7,true⟩),(1300,rwB (lnJ f n j)),(1301,⟨[zP f],4,true⟩)]) [] 1302 (fun j=>j<=f.ts.length) (fun j=>f.ts.length-j) 0 (z8 _) zdd zsm ?_ ?_
 .exact⟨[1308,1300],[],[],[(1308,(lnJ f n 0).map yF)],⟨zA,zA,⟨⟨_,2,_,rfl,by rw[uFI];exact AR (n:=0),rfl⟩,zA⟩⟩,⟨apx,zI zdd rfl rfl,xI rfl rfl,zG rfl (zV Nat.cast (z6 _)),zG rfl rfl,zA⟩,⟨xE zdd rfl (uIH hb) rfl rfl,zH zdd rfl rfl wY rfl,bbx,zA⟩,zO⟩
 intro j hj;by_cases hlt:j<f.ts.length
 .have hmem:f.ts[j]! ∈ f.ts:=by rw[zS f.ts j hlt];exact wA hlt
  have hv:=ho.2 _ hmem;have hv2:0<=(tQ f.ts[j]!).var/\(tQ f.ts[j]!).var<(n:Int):=hv;have hs1:=uFJ ho.1.1 hlt hv.1 hv.2
  refine gob ?_ ?_<;>intro h
  all_goals try omega
  refine yB f.ts[j]!.1.toNat (z7 _) (by rw[Z8];omega) ?_;refine sts ?_;exact⟨j+1,⟨zom,zbo⟩,[1300,1301],[],[],[],ttt,⟨apx,zI zdd rfl rfl,zM,zD,zG rfl zom,zA⟩,⟨xE zdd rfl (uIH hb) rfl rfl,zH zdd rfl (by rw[hs1];exact x5 (z7 _) rfl) wY rfl,bbx,zA⟩,zO⟩
 .have ej:j=f.ts.length:=zom
  subst ej
  refine gob ?_ ?_<;>intro h
  all_goals try omega
  refine yB n zom (by rw[Z8];omega) ?_;refine sts ?_;refine⟨rfl,zC ⟨1300,0,n+1,rfl,zC ⟨rfl,zsm⟩⟩,fun p hp=>?_,fun b hb=>?_⟩
  .cases yG.1 hp;exact⟨rfl,rfl⟩
  .cases hb
   refine⟨zV (fun l=>some (Blk.mk l 3 true)) ?_,rfl,rT wY⟩;rw[<- uOD];exact x5 zom rfl
def vKB{I':rP}{D:Bool}{n m b x y k:Nat}{f:QF}{d:Option Nat}{K:FP->St->Prop}{t:Tm}{h:Hp}{z:Fz}{nx:Nat}(hh:h 1001=some ⟨[stH n m b x y],7,true⟩)(hz:z 1001=false)(hb:b<1300)(hn:n<=90)(hf:szF k f)(ho:okF (n:Int) f)(hk:k<=10000000)
 (hK:fN (nx+1) fun nx'=>oV K t d (.own nx 0 (n+1)) (hs h nx (some (rwB (frX f n)))) z nx' ⟨[1001,1001+mkz],[nx],[]⟩):rR (FnC prog G0) I' D 114 [.ptr 1001 0 0,zP f] d K ⟨t,h,z,nx⟩:=by
 refine Zb [(1001,⟨[stH n m b x y],7,true⟩)] 1300 (uP6 n m b x y k hb f hn hf ho hk) ⟨zsm,fun p hp=>?_,fun a ha=>?_⟩ hK
 .cases yG.1 hp
  refine⟨hh,hz,(show 1001<1300 by decide),fun e he=>?_⟩;cases yG.1 he
  have hb':Nat.blt b 1300=true:=by rw[mD];exact hb
  show(true&&(true&&(Nat.blt b 1300&&_)))=true
  rw[hb'];rfl
 .rcases yI.1 ha with rfl|ha
  .rfl
  .cases yG.1 ha;rfl
def alρ(ax:List (Nat×Nat))(q:Nat):Nat:=(asc ax q).getD q
def SN{ρ:Nat->Nat}{H:List (Nat×Blk)}(h:FW ((H.map (·.1)).map ρ)=true):∀ p∈H,∀ q∈H,p.1≠q.1->ρ p.1≠ρ q.1:=by
 intro p hp q hq hne e;have hn:=Lj h;obtain⟨a,ha,ea⟩:=SX.mem_ix (zW.2 ⟨p,hp,rfl⟩:p.1∈H.map (·.1));obtain⟨b,hb,eb⟩:=SX.mem_ix (zW.2 ⟨q,hq,rfl⟩:q.1∈H.map (·.1));have ga:=tH (f:=ρ) ha;have gb:=tH (f:=ρ) hb;rw[ea]at ga;rw[eb]at gb;have:=SX.nodup_get hn (i:=a) (j:=b) (by rw[z6];exact ha) (by rw[z6];exact hb) (by rw[ga,gb,e]);exact hne (by rw[<- ea,<- eb,this])
def SQ{a b:List Nat}:yV (a++b)=yV a++yV b:=wB
def I6{ax:List (Nat×Nat)}{N:Nat}(hN:N<=1000)(h:ax.all (fun p=>Nat.blt 1000 p.1)=true):∀ r,r<N->alρ ax r=r:=fun r hr=>by
 unfold alρ;rw[CG fun p hp e=>by have:=xZ.1 h p hp;rw[mD]at this;omega];rfl
def stρ(i q:Nat):Nat:=if q=1100+i then 1228 else alρ [(1002,1217),(1004,1230)] q
def stk(i:Nat):Tk:=⟨1217,1003,1230,0,fun j=>if j=i then 1228 else 1100+j⟩
def uLE{j:Nat}:stρ i (1100+j)=(stk i).r j:=by
 unfold stρ stk;by_cases e:j=i
 .subst e;simp
 .rw[zB zom]
  dsimp only;rw[zB e];unfold alρ
  rw[CG fun p hp=>by
   simp only[yI,uU,uX]at hp;rcases hp with rfl|rfl
   .exact(show 1002≠1100+j by omega)
   .exact(show 1004≠1100+j by omega)]
  rfl
def uR2  (hi:i<64):(qI 1001 (stk i) (i+1)).Nodup:=by
 unfold qI stk;simp only[List.cons_append,List.nil_append,mU,yI,zW,yN,fC,dJ,dL];refine⟨⟨zom,zom,zom,fun j _=>by split<;>omega⟩,⟨zom,zom,fun j _=>by split<;>omega⟩,⟨zom,fun j _=>by split<;>omega⟩,fun j _=>by split<;>omega,?_⟩;exact eF fun a b ha e=>by split<;>split<;>omega
def uLF  (hi:i<64):1006∉qI 1001 (stk i) (i+1):=by
 unfold qI stk;simp only[List.cons_append,List.nil_append,yI,zW,yN,fC,dJ,dL];exact⟨zom,zom,zom,zom,fun j _=>by split<;>omega⟩
def uI3{j q:Nat}(hj:j<64)(h:(Nat.ble q 1099||Nat.ble 1164 q)=true):1100+j≠q:=fun e=>by
 rw[kN,rM,rM]at h;omega
def uAY{α β γ:Type}(f:α->β->γ){a a':α}{b b':β}(h:a=a')(h':b=b'):f a b=f a' b':=by rw[h,h']
def uOS (P:QP) (n N k:Nat) (t0:Tm) (hN:N<=1000) (hv:P.vars=n) (hn:n<=90) (hm:P.rows.length<=64) (hr:∀ f∈P.rows,okF (n:Int) f/\szF k f) (ho:okF (n:Int) P.obj/\szF k P.obj) (hk:k<=10000000) :
 FnH prog G0 46 [nM P] (fun pv s=>∃ q K,pv=.ptr q 0 0/\(K.ksq q P.rows.length).Nodup/\(∀ x∈K.ksq q P.rows.length,N<=x/\x<s.nx)/\ZI q K (set0 n (P.rows.map (frX · n)) (frX P.obj n)) s.h s.z) ⟨t0,noH,noZ,N⟩:=by
 obtain⟨v,R,O⟩:=P;dsimp only at hv hm hr ho ⊢;subst hv;have em:PV.int .i64 ((R.map zP).length:Nat)=PV.int .i64 R.length:=by rw[z6]
 refine iR zU hT (mkO func46 ntmps46 results46) zsm (sus ?_);refine bK [] [(1,.ptr 1006 0 0)] [(1006,⟨[nM ⟨n,R,O⟩],6,true⟩)] [] 1200 zom (fun r hr=>by cases hr) trivial (KeptG.to ⟨alρ [(1006,N)],⟨apx,zA⟩,⟨vN zdd hs_same rfl rfl rfl rfl,zA⟩,fun p hp q hq hne=>?_,I6 hN rfl⟩) ?_
 .cases yG.1 hp
  cases yG.1 hq
  exact absurd rfl hne
 refine sts ?_
 refine RF hT [(.cl 1206 0 3,1,false)] (fun(j:Nat)=>[(1,.ptr 1006 0 0),(3,.ptr 1001 0 0),(15,.int .i64 n),(16,.int .i64 j)])
  (fun j=>[(1001,⟨[.agg [.int .i64 n,.int .i64 R.length,.nilsl,.own 1003 0 j,.nilsl,.nilsl,.int .i64 0]],7,true⟩),(1003,⟨yV (List.range j),1,false⟩),(1006,⟨[nM ⟨n,R,O⟩],6,true⟩)]) [] 1200 (fun j=>j<=n) (fun j=>n-j) 0 (z8 _) zom (fun r hr=>by cases hr) ⟨_,_,rfl,rfl,rfl,zA⟩ ?_ ?_
 .refine KeptG.to ⟨alρ [(1001,1206),(1003,1211)],⟨apx,apx,zD,zD,zA⟩,⟨xE zdd rfl ⟨rfl,em,rfl,⟨zdd,rfl⟩,rfl,rfl,rfl,zA⟩ rfl rfl,zH zdd rfl rfl o6 rfl,bbx,zA⟩,?_,I6 hN rfl⟩
  exact SN rfl
 .intro j hj
  by_cases hlt:j<n
  ·refine gob ?_ ?_<;>intro h
   all_goals try omega
   refine jU ⟨rfl,zsm,yE⟩ (sts ?_);refine⟨j+1,⟨zom,zbo⟩,KeptG.to ⟨alρ [(1003,1210)],⟨apx,apx,zD,zG rfl zom,zA⟩,⟨xE zdd rfl ⟨rfl,rfl,rfl,⟨zdd,rfl⟩,rfl,rfl,rfl,zA⟩ rfl rfl,zH zdd rfl (by rw[kM,SQ]<;>rfl) o6 rfl,bbx,zA⟩,SN rfl,I6 hN rfl⟩⟩
  .have ej:n=j:=zom
   subst ej
   refine gob ?_ ?_<;>intro h
   all_goals try omega
   refine RF hT [(.cl 1001 0 2,1,false),(.cl 1001 0 4,1,false)] (fun(i:Nat)=>[(1,.ptr 1006 0 0),(3,.ptr 1001 0 0),(31,.imm (R.map zP)),(32,.int .i64 R.length),(33,.int .i64 i)])
    (fun i=>[(1006,⟨[nM ⟨n,R,O⟩],6,true⟩)]++stL 1001 (ck 1000) n R.length ((List.range i).map (n+·)) (R.map (frX · n)) i) [] 1200 (fun i=>i<=R.length) (fun i=>R.length-i) 0 (z8 _) zom (fun r hr=>by cases hr) ⟨_,_,rfl,rfl,rfl,_,_,rfl,rfl,rfl,zA⟩ ?_ ?_
   .refine KeptG.to (Z9 (ρ:=alρ [(1002,1205),(1004,1206)]) (q:=1001) (k:=⟨1205,1003,1206,0,fun i=>1100+i⟩) zdd zdd (show [1001,1205,1003,1206].Nodup by decide) ?_ rfl rfl rfl rfl (fun i hi=>absurd hi (EG _)) (I6 hN rfl) ⟨apx,apx,zM,zG rfl (zV Nat.cast (z6 _)),zD,zA⟩ ⟨bbx,zA⟩ ?_ ?_)
    .intro p hp
     simp only[stL,st4,stR,List.range_zero,kO,mV,yI,uU,uX]at hp;rcases hp with rfl|rfl|rfl|rfl
     .exact⟨rfl,rfl⟩
     .exact⟨rfl,rfl⟩
     .exact⟨rfl,rfl⟩
     .exact⟨rfl,rfl⟩
    .intro p hp
     cases yG.1 hp
     exact(show 1006∉[1001,1205,1003,1206] by decide)
    .exact SN rfl
   intro i hi;by_cases hlt2:i<R.length
   .have hmem:R[i]! ∈ R:=by rw[zS R i hlt2];exact wA hlt2
    obtain⟨hf1,hf2⟩:=hr _ hmem
    have SS:StS 1001 (ck 1000) n R.length ((List.range i).map (n+·)) (R.map (frX · n)) i (hv ([(1006,⟨[nM ⟨n,R,O⟩],6,true⟩)]++stL 1001 (ck 1000) n R.length ((List.range i).map (n+·)) (R.map (frX · n)) i)) (zv []):=by
     exact Rv fun p hp=>by cases yG.1 hp;exact uIG (show 1006<1001\/(1004<1006/\1006<1100)\/1164<=1006 by decide) zom
    refine gob ?_ ?_<;>intro h
    all_goals try omega
    refine jU ⟨rfl,zsm,yE⟩ (sts ?_);refine vKB (n:=n) (f:=R[i]!) rfl rfl zdd hn hf2 hf1 hk (sts ?_);refine jU ⟨rfl,by simp[uK],yE⟩ (sts ?_);have r1:stρ i 1001=1001:=zB zom;have r2:stρ i 1002=1217:=zB zom;have r3:stρ i 1003=1003:=zB zom;have r4:stρ i 1004=1230:=zB zom;have r6:stρ i 1006=1006:=zB zom;refine⟨i+1,⟨zom,zbo⟩,KeptG.to (Z9 (ρ:=stρ i) (q:=1001) (k:=stk i) zdd zom (uR2 zom) ?_ r1 r2 r3 r4 (fun j hj=>uLE) (fun r hr=>(zB zom).trans (I6 hN rfl r hr)) ⟨BW zdd (by rw[r6];rfl),BW zdd (by rw[r1];rfl),zM,zD,zG rfl zom,zA⟩ ⟨vN (v':=nM ⟨n,R,O⟩) zdd (by rw[r6];rfl) rfl rfl rfl rfl,zA⟩ ?_ ?_)⟩
    .intro p hp
     rcases y8.1 hp with hp|hp
     .simp only[st4,yI,uU,uX]at hp
      rcases hp with rfl|rfl|rfl|rfl
      .refine⟨zV (fun v=>some (Blk.mk [v] 7 true)) ?_,rfl⟩
       show PV.agg [.int .i64 n,.int .i64 R.length,.own 1217 0 _,.own 1003 0 n,.own 1230 0 _,.nilsl,.int .i64 0]=stK (stk i) n R.length _ (i+1)
       simp[stK,stk]
      .refine⟨zV (fun l=>some (Blk.mk l 1 false)) ?_,rfl⟩
       rw[kM,wB,SQ];simp[yV]
      .exact⟨rfl,rfl⟩
      .refine⟨zV (fun l=>some (Blk.mk l 1 false)) ?_,rfl⟩
       show uK (ck 1000) i (n+1)++[PV.own 1228 0 (n+1)]=uK (stk i) (i+1) (n+1)
       unfold uK;rw[kM,wB];refine uAY (·++·) (rL fun j hj=>?_) ?_
       .have:=yN.1 hj
        show PV.own (1000+100+j) 0 (n+1)=PV.own (if j=i then 1228 else 1100+j) 0 (n+1)
        rw[zB zom]
       .show _=[PV.own (if i=i then 1228 else 1100+i) 0 (n+1)]
        rw[zE rfl]
     .obtain⟨j,hj,rfl⟩:=zW.1 hp
      have hj:=yN.1 hj;refine⟨?_,rfl⟩;by_cases e:j=i
      .subst e
       rw[tH hlt2,show(stk j).r j=1228 from zE rfl];rfl
      .rw[show(stk i).r j=1100+j from zB e]
       have hj6:j<64:=zom
       iterate 11 refine(yM (uI3 hj6 rfl)).trans ?_
       exact(SS _ (Ru (show j<i by omega))).1
    .intro p hp
     cases yG.1 hp
     rw[r6];exact uLF zom
    .intro p hp q hq hne
     cases yG.1 hp
     cases yG.1 hq
     exact absurd rfl hne
   .have ei:R.length=i:=zom
    subst ei
    refine gob ?_ ?_<;>intro h
    all_goals try omega
    have SS:StS 1001 (ck 1000) n R.length ((List.range R.length).map (n+·)) (R.map (frX · n)) R.length (hv ([(1006,⟨[nM ⟨n,R,O⟩],6,true⟩)]++stL 1001 (ck 1000) n R.length ((List.range R.length).map (n+·)) (R.map (frX · n)) R.length)) (zv []):=by
     exact Rv fun p hp=>by cases yG.1 hp;exact uIG (show 1006<1001\/(1004<1006/\1006<1100)\/1164<=1006 by decide) zom
    refine vKB (n:=n) (f:=O) rfl rfl zdd hn ho.2 ho.1 hk (sts ?_);have eA:(R.map (frX · n)).length=R.length:=z6 _;have eb:(set0 n (R.map (frX · n)) (frX O n)).bs.length=R.length:=by simp[set0]
    have en:(set0 n (R.map (frX · n)) (frX O n)).ns.length=n:=by simp[set0]
    refine⟨1001,⟨1002,1003,1004,1205,fun j=>1100+j⟩,rfl,?_,fun x hx=>?_,fun p hp=>?_⟩
    .unfold Tk.ksq
     simp only[List.cons_append,List.nil_append,mU,yI,zW,yN,fC,dJ,dL];refine⟨⟨zom,zom,zom,zom,fun i _=>by omega⟩,⟨zom,zom,zom,fun i _=>by omega⟩,⟨zom,zom,fun i _=>by omega⟩,⟨zom,fun i _=>by omega⟩,fun i _=>by omega,?_⟩;exact eF fun i j hij _=>by omega
    .refine⟨?_,w9 (?_:x<1206) (Nat.le_of_ble_eq_true rfl)⟩<;>(rcases ksq_mem.1 hx with h|h|h|h|h|⟨i,hi,h⟩<;>first|omega|(dsimp only at h;omega))
    .rcases tabQ_mem.1 hp with rfl|hp|⟨i,hi,rfl⟩
     .refine⟨zV (fun v=>some (Blk.mk [v] 7 true)) ?_,rfl⟩
      show PV.agg [.int .i64 n,.int .i64 R.length,.own 1002 0 _,.own 1003 0 n,.own 1004 0 R.length,.own 1205 0 (n+1),.int .i64 0]=qU ⟨1002,1003,1004,1205,fun j=>1100+j⟩ (set0 n (R.map (frX · n)) (frX O n))
      simp[qU,set0]
     .simp only[jH,List.tail_cons,yI,uU,uX]at hp
      rcases hp with rfl|rfl|rfl|rfl
      .refine⟨zV (fun l=>some (Blk.mk l 1 false)) ?_,rfl⟩
       show yV ((List.range R.length).map (n+·))=_
       simp[set0]
      .exact⟨rfl,rfl⟩
      .refine⟨zV (fun l=>some (Blk.mk l 1 false)) ?_,rfl⟩
       rw[eb,en];rfl
      .exact⟨rfl,rfl⟩
     .rw[eb]at hi
      refine⟨?_,rfl⟩;show hs _ _ _ (1100+i)=_
      have hi6:i<64:=zom
      iterate 2 refine(yM (uI3 hi6 rfl)).trans ?_
      exact(SS _ (Ru hi)).1
open Go.Proofs Go.PI Go.Proofs.Tryz Go.PI.SX
def uXN(q:Rat)(k:Nat)(hq:sz k q)(hk:k<=10000000):Fn 122 [yF q] (.data (.bool (decide (q≠0)))):=by
 have l1:=yO hq;have cs:=r9 (cr q) (yH _) zom;rw[yC]at cs;have hz:=@sgnQ_zero q;refine fnV (mkO func122 ntmps122 results122) ?_;refine cvd cs ?_;refine zL rfl ?_;refine zV PV.bool ?_;by_cases h:q=0
 .have:=hz.2 h;simp[h,this]at *;exact this
 .have:xQ q≠0:=fun e=>h (hz.1 e)
  simp[h,this]
def CK(l:List Rat):Option Nat:=(List.range l.length).find? fun e=>decide (l[e]! ≠ 0)
def uP7(l:List Rat)(k:Nat)(hl:l.length<=1000)(hs:∀ j,j<l.length->sz k l[j]!)(hk:k<=10000000):Fn 121 [.imm (yS l),.func (.func 122) [] []] (.data (.int .i64 (onI (CK l)))):=by
 refine fnV (mkO func121 ntmps121 results121) ?_;refine rU hT (fun(j:Nat)=>[(0,.imm (yS l)),(1,.func (.func 122) [] []),(7,.int .i64 l.length),(8,.int .i64 j)]) (fun j=>j<=l.length/\∀ i,i<j->l[i]! = 0) (fun j=>l.length-j) 0 ⟨z8 _,fun i hi=>absurd hi (EG _)⟩ ⟨zM,cW rfl,zG rfl (zV Nat.cast (z6 _)),zD,zA⟩ ?_;intro j ⟨hj,hno⟩;by_cases hlt:j<l.length
 .have cn:=uXN l[j]! k (hs j hlt) hk
  refine gob ?_ ?_<;>intro h
  all_goals try omega
  refine zT cn rfl ?_
  refine gob ?_ ?_<;>intro h
  .have e:CK l=some j:=by
    unfold CK;rw[JL];exact⟨sJ ‹_›,yN.2 hlt,fun i hi=>by rw[hno i hi];rfl⟩
   exact zL rfl (by rw[e];rfl)
  .refine⟨j+1,⟨⟨zom,fun i hi=>?_⟩,zbo⟩,zM,cW rfl,zD,zG rfl zom,zA⟩
   by_cases e:i=j
   .rw[e];exact jP.1 ‹_›
   .exact hno i zom
 .have ej:j=l.length:=zom
  subst ej
  refine gob ?_ ?_<;>intro h
  all_goals try omega
  have e:CK l=none:=by
   unfold CK;rw[CZ];exact fun i hi=>by rw[hno i (yN.1 hi)];simp
  exact zL rfl (by rw[e];rfl)
open Go.Proofs Go.PI Go.Proofs.Tryz Go.PI.SX
def SR(T:Tab)(v:Nat):Fn 50 [.ptr 1 0 0,.int .i64 v] (.pk [(1,⟨[qU (ck 3000) T],7,true⟩)] 3300 (.bool (decide (v<T.vars))) none):=by
 refine Ip zU hT SI zsm (sts ?_);refine⟨?_,zF rfl,fun p hp=>?_,fun b hb=>by cases hb⟩
 .exact zV PV.bool (bW.2 zom)
 .cases yG.1 hp;exact⟨rfl,rfl⟩
def cnL(T:Tab)(r:Nat):List (Nat×Blk):=[(1,⟨[qU (ck 3000) T],7,true⟩),(3004,⟨uK (ck 3000) T.bs.length (T.ns.length+1),1,false⟩),(3100+r,⟨yS T.fs[r]!,3,true⟩)]
def MR(T:Tab)(r k:Nat)(S:Sm k T)(hr:r<T.bs.length):Fn 116 [.ptr 1 0 0,.int .i64 r] (.pk (cnL T r) 3300 (yF T.fs[r]![T.ns.length]!) none):=by
 have hm:=S.m1;have hl:=S.w.ll r hr;have hrow:hv (cnL T r) (3100+r)=some ⟨yS T.fs[r]!,3,true⟩:=CC (p:=(3100+r,⟨yS T.fs[r]!,3,true⟩)) (by unfold cnL;simp;omega) (by unfold cnL;simp);refine Ip zU hT vI3 zsm (sts ?_);refine CF (z7 _) hr (sts ?_)
 (repeat refine Ll hm hr rfl ?_);refine vR hrow ?_
 refine sts ?_
 (repeat refine Ll hm hr rfl ?_);refine vR hrow ?_
 refine yB T.ns.length zom zom (sts ?_);refine bL rfl (sts ?_);refine⟨rfl,zF rfl,fun p hp=>?_,fun b hb=>by cases hb⟩;have hne:3100+r≠3300:=zom
 unfold cnL at hp;simp only[yI,uU,uX]at hp;rcases hp with rfl|rfl|rfl
 .exact⟨rfl,rfl⟩
 .exact⟨rfl,rfl⟩
 .exact⟨(yM hne).trans ((yM hne).trans hrow),rfl⟩
def SV{T:Tab}{v:Nat}{h:Hp}{z:Fz}(h1:h 1=some ⟨[qU (ck 3000) T],7,true⟩)(z1:z 1=false):fD h z [(1,⟨[qU (ck 3000) T],7,true⟩)] 3300 [.ptr 1 0 0,.int .i64 v]:=by
 refine⟨zsm,fun p hp=>?_,fun a ha=>?_⟩
 .cases yG.1 hp
  exact⟨h1,z1,(show 1<3300 by decide),fun e he=>by cases yG.1 he;rfl⟩
 .rcases yI.1 ha with rfl|ha
  .rfl
  .cases yG.1 ha;rfl
def MS{T:Tab}{r:Nat}{h:Hp}{z:Fz}(S:TabS (ck 3000) T h z)(hm:T.bs.length<=64)(hr:r<T.bs.length):fD h z (cnL T r) 3300 [.ptr 1 0 0,.int .i64 r]:=by
 refine⟨by unfold cnL;simp;omega,fun p hp=>?_,fun a ha=>?_⟩
 .unfold cnL at hp
  simp only[yI,uU,uX]at hp;rcases hp with rfl|rfl|rfl
  .exact⟨S.t.1,S.t.2,(show 1<3300 by decide),fun e he=>by cases yG.1 he;rfl⟩
  .refine⟨S.f,(S (3004,_) (tabL_mem.2 (zF (by unfold jH;simp[ck])))).2,(show 3004<3300 by decide),fun e he=>?_⟩
   unfold uK at he;obtain⟨i,hi,rfl⟩:=zW.1 he;have:=yN.1 hi;show Nat.blt (3000+100+i) 3300=true
   rw[mD];omega
  .refine⟨(S.row hr).1,(S.row hr).2,(show 3100+r<3300 by omega),fun e he=>?_⟩
   obtain⟨q,_,rfl⟩:=zW.1 he;rfl
 .rcases yI.1 ha with rfl|ha
  .rfl
  .cases yG.1 ha;rfl
open Go.Proofs Go.PI Go.Proofs.Tryz Go.PI.SX
def t3:2<=3000:=by decide
def nd3{m:Nat}(h:m<=64):((ck 3000).ks m).Nodup:=(pF (N:=3164) h zdd).nd
abbrev fbX:List (Nat×Blk):=[(3210,⟨[.ptr 1 0 0],1,false⟩)]
def uK1{v:Nat}{T:Tab}{k b:Nat}(h:u6 v T k=some b):b<k/\v<=T.bs[b]! /\ T.fs[b]![T.ns.length]! < 0:=by
 have:=(AJ (FJ T).1 (FJ T).2 k).2 b h;exact⟨this.1,andT.1 this.2.1⟩
open Go.Proofs Go.PI Go.Proofs.Tryz Go.PI.SX Go.Lib
def u27:prog.underlying 27=some (.slice 34):=by kernel_rfl
def u3:prog.underlying 3=some (.int .i64):=by kernel_rfl
def s34:(prog.info? 34).map (·.size)=some 3:=by kernel_rfl
def b34:(prog.info? 34).map (·.bytes)=some 56:=by kernel_rfl
def uYJ:∀ w,(sizeOf 34).run prog w=.ok 3 w:=fun w=>by
 have h:=s34;cases hq:prog.info? 34 with
 |none=>simp[hq]at h
 | some i =>
   have hi:i.size=3:=by simpa [hq]using h
   simp[sizeOf,typeInfo,hq,hi]
set_option maxHeartbeats 4000000 in
def uFR(b off n c i vb voff vc:Nat)(cs vs:List Value)(w:World)(hi:i<n)(hnc:n<=c)(hroom:c<n+1)(hbig:(n+1)*56<=140737488355328)
 (hcl:cs.length=n*3) (hvl:vs.length=3)
 (hcs:∀ j v,cs[j]?=some v->w.cell? ⟨b,off+j,none⟩=some v)
 (hvs:∀ j v,vs[j]?=some v->w.cell? ⟨vb,voff+j,none⟩=some v) (h1c:∀ v∈cs,v.oneCell'=true) (h1v:∀ v∈vs,v.oneCell'=true) :
 Calls prog 117 #[.slice (some ⟨b,off,none⟩) n c,.int .i64 i,.slice (some ⟨vb,voff,none⟩) 1 vc] w fun e w' =>
  e = .returned (.slice (some ⟨w.heap.size,0,none⟩) (n+1) (grownCap w (n+1) c 34))/\∃ ROW:Array Value,(∃ r,ROW=(cs.take (i*3)).toArray++r/\∀ v∈r.toList,v.oneCell'=true)/\ROW.size=grownCap w (n+1) c 34*3 /\
    w'=(((w.alloc (.cells ROW 34)).drew.setCells w.heap.size (i*3) vs).drew).setCells w.heap.size ((i+1)*3) (cs.drop (i*3)):=by
 have t27:=u27;have t3':=u3;have r27:=run_underlying u27;obtain⟨i0,z,hi0,hz0,hzz,hzst,hzc⟩:=BD (P:=prog) (s:=34) (by rw[hT 34 _ rfl]);have hzs:i0.size=3:=by have:=s34;rw[hi0]at this;simpa using this
 have hzb:i0.bytes=56:=by have:=b34;rw[hi0]at this;simpa using this
 have hbw:b<w.heap.size:=block_lt_of_cell (hcs 0 _ (wN zom));have hvw:vb<w.heap.size:=block_lt_of_cell (hvs 0 _ (wN zom));have hkk:(n:Int)+1-(i:Int)=((n+1-i:Nat):Int):=zom
 have hik:i+(n+1-i)=n+1:=zom
 have hold:(Builtin.firstCells i0.size i (.slice (some ⟨b,off,none⟩) i c)).run prog w.drew=.ok (cs.take (i*3)).toArray w.drew:=by
  rw[hzs]
  exact run_firstCells_some w.drew 3 i ⟨b,off,none⟩ i c (cs.take (i*3)) (by rw[wG];omega) (fun j v hj=>by
   rw[Addr.add_lit];rw[ED]at hj
   split at hj
   .exact hcs j v hj
   .cases hj)
 have hrz:∀ ty,(Builtin.append_ #[27,3] ty #[.slice (some ⟨b,off,none⟩) i c,.int .i64 ((n:Int)+1-(i:Int))]).run prog w =
  .ok (.slice (some ⟨w.heap.size,0,none⟩) (n+1) (grownCap w (n+1) c 34)) (w.drew.alloc (.cells ((cs.take (i*3)).toArray++Builtin.zeroCells z.cells (n+1-i)++Builtin.zeroCells z.cells (grownCap w (n+1) c 34-(n+1))) 34)):=fun ty=>by
  have h:=Lib.run_append_grow_zeros w 27 3 ty 34 i0 _ .i64 .i64 u27 u3 hi0 hz0 (some ⟨b,off,none⟩) i c (cs.take (i*3)) hold (n+1-i) zom zom zom zom (by rw[hzb];omega) (by rw[hzb,hik];exact growslice_fits hroom hbig);rw[hik]at h;rw[hkk];exact h
 obtain⟨G,hG⟩:∃ G,G=grownCap w (n+1) c 34:=⟨_,rfl⟩;obtain⟨ROW,hROW⟩:∃ ROW:Array Value,ROW=(cs.take (i*3)).toArray++Builtin.zeroCells z.cells (n+1-i)++Builtin.zeroCells z.cells (G-(n+1)):=⟨_,rfl⟩;rw[<- hG]at hrz ⊢;rw[<- hROW]at hrz
 have hzcs:z.cells.size=3:=by
  have h1:(zK prog 34).zero.cells.length=3:=by rw[hT 34 _ rfl];rfl
  have hC:Cs w (fun _=>True) (fun _=>none) (zK prog 34).zero.cells z.cells:=by rw[hzz]at hzst hzc ⊢;exact Cs.of (aB hzc) hzst
  rw[<- h1];exact hC.len
 have hone:=fun k=>Nn (P:=prog) hzz hzst hzc k
 have hGe:n+1<=G:=by rw[hG];exact grownCap_ge w _ _ _
 have hR1:(∃ r,ROW=(cs.take (i*3)).toArray++r/\∀ v∈r.toList,v.oneCell'=true)/\ROW.size=G*3:=by
  refine⟨⟨Builtin.zeroCells z.cells (n+1-i)++Builtin.zeroCells z.cells (G-(n+1)),by rw[hROW,Array.append_assoc],fun v hv=>?_⟩,?_⟩
  .simp only[GI,y8]at hv
   rcases hv with hv|hv
   .exact hone _ v hv
   .exact hone _ v hv
  .rw[hROW]
   simp[Builtin.zeroCells,hzcs];omega
 have hRl:(n+1)*3<=ROW.size:=by
  rw[hROW];simp[Builtin.zeroCells,hzcs];omega
 obtain⟨W1,hW1⟩:∃ W1,W1=w.drew.alloc (.cells ROW 34):=⟨_,rfl⟩;rw[<- hW1]at hrz
 have hN:∀ j,j<(n+1)*3->(W1.cell? ⟨w.heap.size,j,none⟩).isSome=true:=fun j hj=>by
  rw[hW1,World.cell?_alloc_at (w:=w.drew) ROW _ w.heap.size j rfl,CP zom];rfl
 have hNf:∀ j,W1.frozen? ⟨w.heap.size,j,none⟩=false:=fun j=>by rw[hW1];exact World.frozen?_alloc_at (w:=w.drew) ROW _ w.heap.size j rfl
 have hOb:∀ j v,w.cell? ⟨b,j,none⟩=some v->W1.cell? ⟨b,j,none⟩=some v:=fun j v h=>by rw[hW1,World.cell?_alloc_past (w:=w.drew) _ b j hbw];exact h
 have hOv:∀ j v,w.cell? ⟨vb,j,none⟩=some v->W1.cell? ⟨vb,j,none⟩=some v:=fun j v h=>by rw[hW1,World.cell?_alloc_past (w:=w.drew) _ vb j hvw];exact h
 have hcpA:∀ (W:World),(∀ x,W.cell? x=W1.cell? x)->(∀ x,W.frozen? x=W1.frozen? x)->∀ ty dc,(Builtin.copy_ #[27,27] ty #[.slice (some ⟨w.heap.size,i*3,none⟩) (n+1-i) dc,.slice (some ⟨vb,voff,none⟩) 1 vc]).run prog W=.ok (goInt 1) (W.setCells w.heap.size (i*3) vs):=fun W hWc hWf ty dc=>by
  have hmn:Nat.min 1 (n+1-i)=1:=by simp only[Nat.min_def];split<;>omega
  have:=Lh (P:=prog) W 27 27 ty 34 3 w.heap.size (i*3) (n+1-i) dc ⟨vb,voff,none⟩ 1 vc vs u27 s34 (by rw[hvl,hmn])
   (fun j v hj=>by rw[Addr.add_lit,hWc];exact hOv _ v (hvs j v hj))
   (fun j hj=>by rw[hWc];exact hN _ zom) (fun j hj=>by rw[hWf];exact hNf _) h1v
  rw[hmn]at this;exact this
 have hGn:n+1<=G:=by rw[hG];exact grownCap_ge w _ _ _
 have hG63:G<=9223372036854775807:=by
  have:=grownCap_le_maxLen w (n+1) c 34 (by unfold maxLen;omega);rw[<- hG]at this;unfold maxLen at this;omega
 have hGi:¬ (G=i):=zom
 have hGim:¬ (G=i+1):=zom
 have hci:¬ (c=i):=zom
 have hbN:b≠w.heap.size:=zom
 have hdl:(cs.drop (i*3)).length=(n-i)*3:=by rw[jR,hcl];omega
 have hcpB:∀ (W:World),(∀ x,W.cell? x=(W1.setCells w.heap.size (i*3) vs).cell? x)->(∀ x,W.frozen? x=(W1.setCells w.heap.size (i*3) vs).frozen? x)->∀ ty dc sc,(Builtin.copy_ #[27,27] ty #[.slice (some ⟨w.heap.size,(i+1)*3,none⟩) (n+1-(i+1)) dc,.slice (some ⟨b,off+i*3,none⟩) (n-i) sc]).run prog W=.ok (goInt ((n-i:Nat):Int)) (W.setCells w.heap.size ((i+1)*3) (cs.drop (i*3))):=fun W hWc hWf ty dc sc=>by
  have hmn:Nat.min (n-i) (n+1-(i+1))=n-i:=by simp only[Nat.min_def];split<;>omega
  have:=Lh (P:=prog) W 27 27 ty 34 3 w.heap.size ((i+1)*3) (n+1-(i+1)) dc ⟨b,off+i*3,none⟩ (n-i) sc (cs.drop (i*3)) u27 s34 (by rw[hdl,hmn])
   (fun j v hj=>by
     rw[Addr.add_lit,hWc,World.cell?_setCells_out _ _ _ _ _ (fun h _=>absurd h hbN),uV]
     exact hOb _ v (hcs (i*3+j) v (by rwa [pM]at hj)))
   (fun j hj=>by rw[hWc];exact isSome_setCells _ _ _ _ (fun t ht=>hN _ zom) _ (hN _ zom))
   (fun j hj=>by rw[hWf,World.frozen?_setCells];exact hNf _) (fun v hv=>h1c v (gQ hv))
  rw[hmn]at this;exact this
 have hz2:¬ ((i:Int)=(n:Int)):=zom
 have hz3:(c:Int)<(n:Int)+1:=zom
 have mixed:=zU;subst hW1;have hE1:∀ x,((w.alloc (.cells ROW 34)).drew).cell? x=(w.drew.alloc (.cells ROW 34)).cell? x:=fun x=>rfl
 have hE2:∀ x,((w.alloc (.cells ROW 34)).drew).frozen? x=(w.drew.alloc (.cells ROW 34)).frozen? x:=fun x=>rfl
 have hF1:∀ x,(((w.alloc (.cells ROW 34)).drew.setCells w.heap.size (i*3) vs).drew).cell? x=((w.drew.alloc (.cells ROW 34)).setCells w.heap.size (i*3) vs).cell? x:=fun x=>rfl
 have hF2:∀ x,(((w.alloc (.cells ROW 34)).drew.setCells w.heap.size (i*3) vs).drew).frozen? x=((w.drew.alloc (.cells ROW 34)).setCells w.heap.size (i*3) vs).frozen? x:=fun x=>rfl
 have hw1:IntKind.i64.wrap ((i:Int)+1)=(i:Int)+1:=by rw[IntKind.wrap_i64];omega
 have hb1:(0:Int)<=(i:Int)+1:=zom
 have hin:i<=n:=zom
 have htn:((i:Int)+1).toNat=i+1:=zom
 have hb3:(i:Int)<=(n:Int):=zom
 clear hkk hik hold hROW hRl hG hGe hone
 go_enter func117,ntmps117
 go_wp2_with (first
  |(at_builtin;refine Lib.wpList_append_run _ rfl _ _ _ _ rfl _ _ rfl rfl _ _ (hrz _) ?_)
  |(at_builtin;refine wpList_copy_runI _ rfl _ _ 27 27 rfl _ _ rfl rfl (hcpA _ hE1 hE2 _ _) ?_))
 go_region_law_o (refine step_copy_runI rfl _ _ 27 27 rfl (.slice (some ⟨w.heap.size,(i+1)*3,none⟩) (n+1-(i+1)) (G-(i+1))) (.slice (some ⟨b,off+i*3,none⟩) (n-i) (c-i)) (by simp[Act.eval,Act.put]) (by simp[Act.eval,Act.put]) (hcpB _ hF1 hF2 3 (G-(i+1)) (c-i)) ?_)
 go_wp2
 go_ret
 exact⟨rfl,ROW,hR1.1,hR1.2,rfl⟩
set_option maxHeartbeats 4000000 in
def uFQ(b off n c i vb voff vc:Nat)(cs vs:List Value)(w:World)(hi:i<n)(hroom:n+1<=c)(hn63:n<=1000000)(hvb:vb≠b)
 (hcl:cs.length=n*3) (hvl:vs.length=3)
 (hcs:∀ j v,cs[j]?=some v->w.cell? ⟨b,off+j,none⟩=some v) (hsp:∀ j,j<(n+1)*3->(w.cell? ⟨b,off+j,none⟩).isSome=true) (hfz:∀ j,j<(n+1)*3->w.frozen? ⟨b,off+j,none⟩=false)
 (hvs:∀ j v,vs[j]?=some v->w.cell? ⟨vb,voff+j,none⟩=some v) (h1c:∀ v∈cs,v.oneCell'=true) (h1v:∀ v∈vs,v.oneCell'=true)
 (tA tB:TypeId) (kA kB:Nat) (hsa:w.shape? vb=some (tA,kA)) (hsb:w.shape? b=some (tB,kB)) (hkA:kA≠0) (hkB:kB≠0) (hfa:w.frozen? ⟨b,off+(i+1)*3,none⟩=false) (hfe:w.frozen? ⟨b,kB,none⟩=false) :
 Calls prog 117 #[.slice (some ⟨b,off,none⟩) n c,.int .i64 i,.slice (some ⟨vb,voff,none⟩) 1 vc] w fun e w' =>
  e=.returned (.slice (some ⟨b,off,none⟩) (n+1) c)/\w'=(w.drew.setCells b (off+(i+1)*3) (cs.drop (i*3))).setCells b (off+i*3) vs:=by
 have t27:=u27;have t3':=u3;have r27:=run_underlying u27;have hz2:¬ ((i:Int)=(n:Int)):=zom
 have hz3:¬ ((c:Int)<(n:Int)+1):=zom
 have hz4:(n:Int)+1<=(c:Int):=zom
 have hov:∀ lb cb,(callFunc 186 #[.slice (some ⟨vb,voff,none⟩) 1 vc,.slice (some ⟨b,off+(i+1)*3,none⟩) lb cb]).run prog w=.ok (.value (.bool false)) w:=fun lb cb=>by
  rw[run_callFunc_extern func186 x7 x7 x7 (e:=Extern.SlicesOverlaps.overlaps #[27,27] #[4]) x7,
   zLU w 27 4 34 u27 3 uYJ ⟨vb,voff,none⟩ ⟨b,off+(i+1)*3,none⟩ 1 vc lb cb hvb tA tB kA kB hsa hsb hkA hkB hfa hfe]
  rfl
 have hdl:(cs.drop (i*3)).length=(n-i)*3:=by rw[jR,hcl];omega
 have mixed:=zU;have hw1:IntKind.i64.wrap ((i:Int)+1)=(i:Int)+1:=by rw[IntKind.wrap_i64];omega
 have hb1:(0:Int)<=(i:Int)+1:=zom
 have hin:i<=n:=zom
 have htn:((i:Int)+1).toNat=i+1:=zom
 have hb2:¬ (c=i+1):=zom
 have hb3:(i:Int)<=(n:Int)+1:=zom
 have hb4:¬ (c=i):=zom
 have hcp1:∀ ty dc sc,(Builtin.copy_ #[27,27] ty #[.slice (some ⟨b,off+(i+1)*3,none⟩) (n+1-(i+1)) dc,.slice (some ⟨b,off+i*3,none⟩) (n+1-i) sc]).run prog w.drew=.ok (goInt ((n-i:Nat):Int)) (w.drew.setCells b (off+(i+1)*3) (cs.drop (i*3))):=fun ty dc sc=>by
  have hmn:Nat.min (n+1-i) (n+1-(i+1))=n-i:=by simp only[Nat.min_def];split<;>omega
  have:=Lh (P:=prog) w.drew 27 27 ty 34 3 b (off+(i+1)*3) (n+1-(i+1)) dc ⟨b,off+i*3,none⟩ (n+1-i) sc (cs.drop (i*3)) u27 s34 (by rw[hdl,hmn])
   (fun j v hj=>by rw[Addr.add_lit,uV];exact hcs (i*3+j) v (by rwa [pM]at hj))
   (fun j hj=>by rw[uV];exact hsp _ zom) (fun j hj=>by rw[uV];exact hfz _ zom) (fun v hv=>h1c v (gQ hv))
  rw[hmn]at this;exact this
 obtain⟨W1,hW1⟩:∃ W1,W1=w.drew.setCells b (off+(i+1)*3) (cs.drop (i*3)):=⟨_,rfl⟩
 have hsp1:∀ k,k<(n+1)*3->(W1.cell? ⟨b,off+k,none⟩).isSome=true:=fun k hk=>by
  rw[hW1];exact isSome_setCells b _ _ _ (fun j hj=>by rw[uV];exact hsp _ zom) _ (hsp k hk)
 have hcp2:∀ (W:World),(∀ x,W.cell? x=W1.cell? x)->(∀ x,W.frozen? x=W1.frozen? x)->∀ ty dc,(Builtin.copy_ #[27,27] ty #[.slice (some ⟨b,off+i*3,none⟩) (n+1-i) dc,.slice (some ⟨vb,voff,none⟩) 1 vc]).run prog W=.ok (goInt 1) (W.setCells b (off+i*3) vs):=fun W hWc hWf ty dc=>by
  have hmn:Nat.min 1 (n+1-i)=1:=by simp only[Nat.min_def];split<;>omega
  have:=Lh (P:=prog) W 27 27 ty 34 3 b (off+i*3) (n+1-i) dc ⟨vb,voff,none⟩ 1 vc vs u27 s34 (by rw[hvl,hmn])
   (fun j v hj=>by
     rw[Addr.add_lit,hWc,hW1,World.cell?_setCells_out b _ _ _ _ (fun h _=>absurd h hvb)]
     exact hvs j v hj)
   (fun j hj=>by rw[hWc,uV];exact hsp1 _ zom) (fun j hj=>by rw[hWf,hW1,World.frozen?_setCells,uV];exact hfz _ zom) h1v
  rw[hmn]at this;exact this
 rw[<- hW1]at hcp1
 go_enter func117,ntmps117
 go_wp2_with (simp only[hov])
 go_region_law_o (refine step_copy_runI rfl _ _ 27 27 rfl (.slice (some ⟨b,off+(i+1)*3,none⟩) (n+1-(i+1)) (c-(i+1))) (.slice (some ⟨b,off+i*3,none⟩) (n+1-i) (c-i)) (by simp[Act.eval,Act.put]) (by simp[Act.eval,Act.put]) (hcp1 3 (c-(i+1)) (c-i)) ?_)
 go_wp2_with (at_builtin;refine wpList_copy_runI _ rfl _ _ 27 27 rfl _ _ rfl rfl (hcp2 _ (fun _=>rfl) (fun _=>rfl) _ _) ?_)
 go_ret
 first|exact⟨rfl,rfl⟩|exact⟨rfl,by rw[hW1]⟩
open Go Go.Proofs Go.PI Go.Proofs.Tryz Go.PI.SX Go.Lib Go.Sort Go.Shelf Go.RowKit
set_option maxHeartbeats 4000000 in
def uPR(b off n cap i:Nat)(cs zs:List Value)(z:Value)(w:World)(hi:i<n)(hcap:n<=cap)(hcl:cs.length=n*3)
 (hv:∀ w,(zeroValue 34).run prog w=.ok z w) (hz:(Builtin.zeroCells z.cells 1).toList=zs) (hzl:zs.length=3) (hz1:∀ u∈zs,u.oneCell'=true)
 (hcs:∀ j v,cs[j]?=some v->w.cell? ⟨b,off+j,none⟩=some v) (hfz:∀ j,j<n*3->w.frozen? ⟨b,off+j,none⟩=false) (h1c:∀ v∈cs,v.oneCell'=true) :
 Calls prog 124 #[.slice (some ⟨b,off,none⟩) n cap,.int .i64 i,.int .i64 ((i:Int)+1)] w fun e w' =>
  e=.returned (.slice (some ⟨b,off,none⟩) (n-1) cap)/\w'=(w.drew.setCells b (off+i*3) (cs.drop ((i+1)*3))).setCells b (off+(n-1)*3) zs:=by
 have t27:=u27;have t3':=u3;have r27:=run_underlying u27
 obtain⟨i0,hi0,hzs⟩:∃ i0,prog.info? 34=some i0/\i0.size=3:=by
  have h:=s34;cases hq:prog.info? 34 with
  |none=>simp[hq]at h
  |some i=>exact⟨i,rfl,by simpa [hq]using h⟩
 have mixed:=zU;obtain⟨news,hnews⟩:∃ news,news=cs.drop ((i+1)*3):=⟨_,rfl⟩;have hlen:news.length=(n-(i+1))*3:=by rw[hnews,jR,hcl];omega
 have hsp:∀ j,j<n*3->(w.cell? ⟨b,off+j,none⟩).isSome=true:=fun j hj=>by rw[hcs j _ (wN zom)];rfl
 obtain⟨A,hA,hsrc⟩:∃ A:Addr,(if cap=i+1 then some (⟨b,off,none⟩:Addr) else some ⟨b,off+(i+1)*3,none⟩)=some A/\Hid (∀ t u,news[t]?=some u->w.drew.cell? (A.add t)=some u):=by
  by_cases h:cap=i+1
  .refine⟨⟨b,off,none⟩,by simp[h],fun t u hu=>?_⟩
   have h0:news.length=0:=by rw[hlen];omega
   rw[vZ.1 h0]at hu;simp at hu
  .refine⟨⟨b,off+(i+1)*3,none⟩,by simp[h],fun t u hu=>?_⟩
   rw[hnews,pM]at hu;rw[Addr.add_lit,uV];exact hcs _ u hu
 have s1:Hid (news.length=(n-(i+1))*3):=hlen;have s2:Hid (∀ u∈news,u.oneCell'=true):=fun u hu=>h1c u (gQ (by rw[hnews]at hu;exact hu))
 have s3:Hid (∀ t,t<news.length->(w.drew.cell? ⟨b,off+i*3+t,none⟩).isSome=true/\w.drew.frozen? ⟨b,off+i*3+t,none⟩=false):=fun t ht=>by
  rw[hlen]at ht;rw[uV];exact⟨hsp _ zom,hfz _ zom⟩
 obtain⟨W1,hW1⟩:∃ W1,W1=w.drew.setCells b (off+i*3) news:=⟨_,rfl⟩;have hni:i+(n-(i+1))=n-1:=zom
 have hcl2:∀ ty,(Builtin.clear_ #[27] ty #[.slice (some ⟨b,off+(n-1)*3,none⟩) (n-(n-1)) (cap-(n-1))]).run prog (w.drew.setCells b (off+i*3) (cs.drop ((i+1)*3)))=.ok (.tuple #[]) ((w.drew.setCells b (off+i*3) (cs.drop ((i+1)*3))).setCells b (off+(n-1)*3) zs):=fun ty=>by
  rw[show n-(n-1)=1 by omega,<- hnews]
  exact ZE _ 27 34 ty z u27 hv b _ 1 _ zom zs hz hz1
   (fun j hj=>by rw[uV];exact isSome_setCells b _ _ _ (fun j hj=>by rw[uV];exact hsp _ zom) _ (hsp _ zom))
   (fun j hj=>by rw[World.frozen?_setCells,uV];exact hfz _ zom)
 have hW:Hid (W1=w.drew.setCells b (off+i*3) news):=hW1;have hic:i<=cap:=zom
 have hjc:i+1<=cap:=zom
 have hin:i+1<=n:=zom
 have hw1:((i:Int)+1).toNat=i+1:=zom
 have hb1:(0:Int)<=(i:Int)+1:=zom
 have hb2:(i:Int)+1<=(n:Int):=zom
 clear hlen hsp hcs hfz
 go_enter func124,ntmps124
 go_wp2_with fail
 go_region_law_o (refine step_append_room rfl (.tmp 22) (.tmp 25) 27 rfl 34 i0 3 u27 hi0 hzs b off i cap (by simp[Act.eval,Act.put]) A (n-(i+1)) (cap-(i+1)) news (by simp[Act.eval,Act.put]) s1.out hsrc.out s2.out zom s3.out ?_;rw[<- hW.out])
 go_wp2
 go_ret
 exact⟨rfl,rfl⟩
open Go Go.Proofs Go.PI Go.Proofs.Tryz Go.PI.SX Go.Lib Go.Sort Go.Shelf Go.RowKit
def u66:prog.underlying 66=some (.slice 3):=by kernel_rfl
def s3':(prog.info? 3).map (·.size)=some 1:=by kernel_rfl
set_option maxHeartbeats 4000000 in
def uGQ(b off n cap i:Nat)(cs zs:List Value)(z:Value)(w:World)(hi:i<n)(hcap:n<=cap)(hcl:cs.length=n*1)
 (hv:∀ w,(zeroValue 3).run prog w=.ok z w) (hz:(Builtin.zeroCells z.cells 1).toList=zs) (hzl:zs.length=1) (hz1:∀ u∈zs,u.oneCell'=true)
 (hcs:∀ j v,cs[j]?=some v->w.cell? ⟨b,off+j,none⟩=some v) (hfz:∀ j,j<n*1->w.frozen? ⟨b,off+j,none⟩=false) (h1c:∀ v∈cs,v.oneCell'=true) :
 Calls prog 123 #[.slice (some ⟨b,off,none⟩) n cap,.int .i64 i,.int .i64 ((i:Int)+1)] w fun e w' =>
  e=.returned (.slice (some ⟨b,off,none⟩) (n-1) cap)/\w'=(w.drew.setCells b (off+i*1) (cs.drop ((i+1)*1))).setCells b (off+(n-1)*1) zs:=by
 have t66:=u66;have t3':=u3;have r66:=run_underlying u66
 obtain⟨i0,hi0,hzs⟩:∃ i0,prog.info? 3=some i0/\i0.size=1:=by
  have h:=s3';cases hq:prog.info? 3 with
  |none=>simp[hq]at h
  |some i=>exact⟨i,rfl,by simpa [hq]using h⟩
 have mixed:=zU;obtain⟨news,hnews⟩:∃ news,news=cs.drop ((i+1)*1):=⟨_,rfl⟩;have hlen:news.length=(n-(i+1))*1:=by rw[hnews,jR,hcl];omega
 have hsp:∀ j,j<n*1->(w.cell? ⟨b,off+j,none⟩).isSome=true:=fun j hj=>by rw[hcs j _ (wN zom)];rfl
 obtain⟨A,hA,hsrc⟩:∃ A:Addr,(if cap=i+1 then some (⟨b,off,none⟩:Addr) else some ⟨b,off+(i+1),none⟩)=some A/\Hid (∀ t u,news[t]?=some u->w.drew.cell? (A.add t)=some u):=by
  by_cases h:cap=i+1
  .refine⟨⟨b,off,none⟩,by simp[h],fun t u hu=>?_⟩
   have h0:news.length=0:=by rw[hlen];omega
   rw[vZ.1 h0]at hu;simp at hu
  .refine⟨⟨b,off+(i+1),none⟩,by simp[h],fun t u hu=>?_⟩
   rw[hnews,fB,pM]at hu;rw[Addr.add_lit,uV];exact hcs _ u hu
 have s1:Hid (news.length=(n-(i+1))*1):=hlen;have s2:Hid (∀ u∈news,u.oneCell'=true):=fun u hu=>h1c u (gQ (by rw[hnews]at hu;exact hu))
 have s3:Hid (∀ t,t<news.length->(w.drew.cell? ⟨b,off+i*1+t,none⟩).isSome=true/\w.drew.frozen? ⟨b,off+i*1+t,none⟩=false):=fun t ht=>by
  rw[hlen]at ht;rw[uV];exact⟨hsp _ zom,hfz _ zom⟩
 obtain⟨W1,hW1⟩:∃ W1,W1=w.drew.setCells b (off+i*1) news:=⟨_,rfl⟩;have hni:i+(n-(i+1))=n-1:=zom
 have hcl2:∀ ty,(Builtin.clear_ #[66] ty #[.slice (some ⟨b,off+(n-1),none⟩) (n-(n-1)) (cap-(n-1))]).run prog (w.drew.setCells b (off+i) (cs.drop (i+1)))=.ok (.tuple #[]) ((w.drew.setCells b (off+i) (cs.drop (i+1))).setCells b (off+(n-1)) zs):=fun ty=>by
  rw[show n-(n-1)=1 by omega,show cs.drop (i+1)=news by rw[hnews,fB]]
  exact ZE _ 66 3 ty z u66 hv b _ 1 _ zom zs hz hz1
   (fun j hj=>by rw[uV];exact isSome_setCells b _ _ _ (fun j hj=>by rw[uV];exact hsp _ zom) _ (hsp _ zom))
   (fun j hj=>by rw[World.frozen?_setCells,uV];exact hfz _ zom)
 have hW:Hid (W1=w.drew.setCells b (off+i*1) news):=hW1;have hic:i<=cap:=zom
 have hjc:i+1<=cap:=zom
 have hin:i+1<=n:=zom
 have hw1:((i:Int)+1).toNat=i+1:=zom
 have hb1:(0:Int)<=(i:Int)+1:=zom
 have hb2:(i:Int)+1<=(n:Int):=zom
 clear hlen hsp hcs hfz
 go_enter func123,ntmps123
 go_wp2_with fail
 go_region_law_o (refine step_append_room rfl (.tmp 22) (.tmp 25) 66 rfl 3 i0 1 u66 hi0 hzs b off i cap (by simp[Act.eval,Act.put]) A (n-(i+1)) (cap-(i+1)) news (by simp[Act.eval,Act.put]) s1.out hsrc.out s2.out zom s3.out ?_;rw[<- hW.out])
 go_wp2
 go_ret
 exact⟨rfl,zsm⟩
open Go Go.Proofs Go.PI Go.Proofs.Tryz Go.PI.SX Go.Lib Go.Sort Go.Shelf Go.RowKit
variable {b':Blk}
def vTI{t:TypeId}{x:TI}(ht:zK prog t=x)(hx:x.zok=true)(w:World):∃ z:Value,(∀ w,(zeroValue t).run prog w=.ok z w)/\z.cells.size=x.zero.cells.length/\∀ k,∀ u∈(Builtin.zeroCells z.cells k).toList,u.oneCell'=true:=by
 obtain⟨i0,z,hi0,hz0,hzz,hzst,hzc⟩:=BD (P:=prog) (s:=t) (by rw[ht];exact hx);refine⟨z,fun w=>by simp[zeroValue,typeInfo,hi0,hz0],?_,Nn (P:=prog) hzz hzst hzc⟩;have hC:Cs w (fun _=>True) (fun _=>none) (zK prog t).zero.cells z.cells:=by rw[hzz]at hzst hzc ⊢;exact Cs.of (aB hzc) hzst
 rw[<- ht,<- hC.len]
def SW{b:Blk}{n:Nat}(hb:b'.els.length=n)(hn:nrs b'):ES (.own 0 0 n) b' (.own 0 0 n) (wE (some b')):=⟨hn,zF ⟨fun c hc=>zF (by rw[hb];exact yG.1 hc),by rw[hb];exact yG.2 rfl⟩,zF ⟨0,rfl,by simp[wE,hset],rfl⟩⟩
def SY{κ:Ka}{b:Blk}(h:jT (wE (some b)).nx κ (wE (some b)).h (wE (some b)).z):jT (wE (some b')).nx κ (wE (some b')).h (wE (some b')).z:=fun r hr=>by
 obtain⟨h1,h2,h3⟩:=h r hr;have:r≠0:=fun e=>by subst e;exact absurd hr (by simp[wE])
 exact⟨by simp[wE,hset,this],rfl,h3⟩
def AX{l:List Rat}:nrs (rwB l):=rT wY
def vPO{l:List Nat}:nrs ⟨yV l,1,false⟩:=rT o6
def cell_of{w:World}{m:Nat}{c:Array Value}{ty:TypeId}(p2:w.heap[m]?=some (.cells c ty (0,0))){n:Nat}:∀ j v,(c.toList.take n)[j]?=some v->w.cell? ⟨m,0+j,none⟩=some v:=fun j v hj=>by
 rw[z7];rw[ED]at hj
 split at hj
 .rw[CU]at hj
  simp[World.cell?,p2,hj]
 .cases hj
def ok_xdelr:FO 124 f124 [.tmp 6] 33:=mkO func124 ntmps124 results124
def uBC(l:List Rat)(i:Nat)(hi:i<l.length):Fn 124 [.own 0 0 l.length,.int .i64 i,.int .i64 ((i:Int)+1)] (.own (some (rwB l)) (.own 0 0 (l.length-1)) (rwB (l.eraseIdx i))):=by
 refine⟨ok_xdelr.callable,ok_xdelr.callable,fun E w A κ vs hn hκ hA hw H hfr hvs=>?_⟩;obtain⟨hlen,hv⟩:=hvs;obtain⟨m,sz,cap,a,e0,hk,hcap,ha⟩:=RV.own_inv (hv 0 _ rfl);have e1:=RV.int_inv (hv 1 _ rfl);have e2:=RV.int_inv (hv 2 _ rfl);obtain⟨hsz,g2,g4⟩:=Fh H hk;subst hsz;obtain⟨c,ty,p2,p3,p4,p5,p6⟩:=g4.resolve_left zom
 have ha':a=some ⟨m,0,none⟩:=by
  rcases ha with h|h
  .simpa using h
  .omega
 subst ha'
 have hvs3:vs=[.slice (some ⟨m,0,none⟩) l.length (cap-0),.int .i64 i,.int .i64 ((i:Int)+1)]:=by
  match vs,hlen with
  |[x,y,u],_=>simp at e0 e1 e2;rw[e0,e1,e2];rfl
 subst hvs3;have p3:c.size=cap*3:=p3;have hn0:l.length<=cap:=zom
 obtain⟨z,hz,hzs,hz1⟩:=vTI (hT 34 _ rfl) rfl w;have hzs:z.cells.size=3:=hzs;have hzl:(Builtin.zeroCells z.cells 1).toList.length=3:=by simp[Builtin.zeroCells,hzs]
 have hcl:(c.toList.take (l.length*3)).length=l.length*3:=by simp;omega
 have hrun:=uPR m 0 l.length cap i (c.toList.take (l.length*3)) _ z w hi hn0 hcl hz rfl hzl (hz1 1) (cell_of p2) (fun j hj=>by simp[World.frozen?,p2]) (fun v hv=>p4 v (pK hv));rw[Nat.sub_zero];refine hrun.mono fun e w' ⟨he,hw'⟩=>?_
 rw[z7,z7]at hw';have hdl:((c.toList.take (l.length*3)).drop ((i+1)*3)).length=(l.length-(i+1))*3:=by rw[jR,hcl];omega
 have hel:(l.eraseIdx i).length=l.length-1:=by rw[jN hi]
 obtain⟨H1,q1,q2,q3⟩:=H.drew.setc1 prog (yS (l.eraseIdx i)) hk zom (w:=w.drew) p2 p4 ((c.toList.take (l.length*3)).drop ((i+1)*3)) (i*3) zom (fun v hv=>p4 v (pK (gQ hv))) yE Dn
  (uOH (l:=l) (Lay.mono (w:=w) (w':=w.drew) (fun _ h=>h) (fun _ _ _=>rfl) (fun _ _ h=>h) p5) hi rfl zom)
 have L1:=(Fh H1 hk).2.2.resolve_left zom;obtain⟨c1,ty1,r2,r3,r4,r5,r6⟩:=L1;rw[q1]at r2;cases r2
 obtain⟨H2,_,_,_⟩:=H1.setc1 prog (yS (l.eraseIdx i)) hk zom q1 q2 (Builtin.zeroCells z.cells 1).toList ((l.length-1)*3) (by rw[hzl,bM zom];omega) (hz1 1) yE Dn
  (uFN (l:=l.eraseIdx i) r5 zom (by rw[hzl,bM zom];omega))
 rw[<- hw']at H2;exact⟨_,.own 0 0 (l.length-1),A,κ,wE (some (rwB (l.eraseIdx i))),he,H2,SY hfr,zX _,.own 0 0 _ m 3 cap _ hk zom (zF zsm),SW (b:=rwB l) yE AX⟩
def ok_xdeli:FO 123 f123 [.tmp 6] 33:=mkO func123 ntmps123 results123
def uQC(l:List Nat)(i:Nat)(hi:i<l.length):Fn 123 [.own 0 0 l.length,.int .i64 i,.int .i64 ((i:Int)+1)] (.own (some ⟨yV l,1,false⟩) (.own 0 0 (l.length-1)) ⟨yV (l.eraseIdx i),1,false⟩):=by
 refine⟨ok_xdeli.callable,ok_xdeli.callable,fun E w A κ vs hn hκ hA hw H hfr hvs=>?_⟩;obtain⟨hlen,hv⟩:=hvs;obtain⟨m,sz,cap,a,e0,hk,hcap,ha⟩:=RV.own_inv (hv 0 _ rfl);have e1:=RV.int_inv (hv 1 _ rfl);have e2:=RV.int_inv (hv 2 _ rfl);obtain⟨hsz,g2,g4⟩:=Fh H hk;subst hsz;obtain⟨c,ty,p2,p3,p4,p5,p6⟩:=g4.resolve_left zom
 have ha':a=some ⟨m,0,none⟩:=by
  rcases ha with h|h
  .simpa using h
  .omega
 subst ha'
 have hvs3:vs=[.slice (some ⟨m,0,none⟩) l.length (cap-0),.int .i64 i,.int .i64 ((i:Int)+1)]:=by
  match vs,hlen with
  |[x,y,u],_=>simp at e0 e1 e2;rw[e0,e1,e2];rfl
 subst hvs3;have p3:c.size=cap*1:=p3;have hn0:l.length<=cap:=zom
 obtain⟨z,hz,hzs,hz1⟩:=vTI (hT 3 _ rfl) rfl w;have hzs:z.cells.size=1:=hzs;have hzl:(Builtin.zeroCells z.cells 1).toList.length=1:=by simp[Builtin.zeroCells,hzs]
 have hcl:(c.toList.take l.length).length=l.length*1:=by simp;omega
 have hrun:=uGQ m 0 l.length cap i (c.toList.take l.length) _ z w hi hn0 hcl hz rfl hzl (hz1 1) (cell_of p2) (fun j hj=>by simp[World.frozen?,p2]) (fun v hv=>p4 v (pK hv));rw[Nat.sub_zero];refine hrun.mono fun e w' ⟨he,hw'⟩=>?_
 rw[z7,z7,fB,fB,fB]at hw';have hdl:((c.toList.take l.length).drop (i+1)).length=l.length-(i+1):=by rw[jR,hcl];omega
 have hel:(l.eraseIdx i).length=l.length-1:=by rw[jN hi]
 obtain⟨H1,q1,q2,q3⟩:=H.drew.setc1 prog (yV (l.eraseIdx i)) hk zom (w:=w.drew) p2 p4 ((c.toList.take l.length).drop (i+1)) i zom (fun v hv=>p4 v (pK (gQ hv))) yE Rw
  (uFO (l:=l) (fun k e he=>lies.mono (w:=w) (w':=w.drew) (fun _ h=>h) (fun _ _ _=>rfl) (fun _ _ h=>h) (p5 k e he)) hi rfl zom)
 have L1:=(Fh H1 hk).2.2.resolve_left zom;obtain⟨c1,ty1,r2,r3,r4,r5,r6⟩:=L1;rw[q1]at r2;cases r2
 obtain⟨H2,_,_,_⟩:=H1.setc1 prog (yV (l.eraseIdx i)) hk zom q1 q2 (Builtin.zeroCells z.cells 1).toList (l.length-1) (by rw[hzl,bM zom];omega) (hz1 1) yE Rw
  (vYY (l:=l.eraseIdx i) r5 zom (by rw[hzl,bM zom];omega))
 rw[<- hw']at H2;exact⟨_,.own 0 0 (l.length-1),A,κ,wE (some ⟨yV (l.eraseIdx i),1,false⟩),he,H2,SY hfr,zX _,.own 0 0 _ m 1 cap _ hk zom (zF zsm),SW (b:=rwB []) yE vPO⟩
open Go Go.Proofs Go.PI Go.Proofs.Tryz Go.PI.SX Go.Lib Go.Sort Go.Shelf Go.RowKit
variable {v:Value}
def uYQ{w:World}{A:Nat->Prop}{q:Rat}  (h:RD w A (.imm [yF q]) v):∃ (b off cap:Nat) (vs:List Value),v=.slice (some ⟨b,off,none⟩) 1 cap/\A b/\vs.length=3/\(∀ (j:Nat) u,vs[j]?=some u->w.cell? ⟨b,off+j,none⟩=some u)/\(∀ u∈vs,u.oneCell'=true)/\∀ (j:Nat) d,(yF q).cells[j]?=some d->∃ u,vs[j]?=some u/\RD w A d u:=by
 cases h with
 | imm es sz b off cap val hA hcap hsz hc hd =>
   have hs:3=sz:=hsz (yF q) zsm;subst hs
   have hc0:∀ c,c<3->w.cell? ⟨b,off+c,none⟩=some (val 0 c)/\(val 0 c).oneCell'=true:=fun c h=>by
    have:=hc 0 c Nat.zero_lt_one h
    rwa [Ao,Nat.add_zero]at this
   refine⟨b,off,cap,[val 0 0,val 0 1,val 0 2],rfl,hA,rfl,fun j u hj=>?_,fun u hu=>?_,fun j d hj=>?_⟩
   .match j,hj with
    |0,hj=>cases hj;exact(hc0 0 zdd).1
    |1,hj=>cases hj;exact(hc0 1 zdd).1
    |2,hj=>cases hj;exact(hc0 2 zdd).1
   .simp only[yI,uU,uX]at hu
    rcases hu with rfl|rfl|rfl
    .exact(hc0 0 zdd).2
    .exact(hc0 1 zdd).2
    .exact(hc0 2 zdd).2
   .have hlt:j<3:=(xW.1 hj).1
    refine⟨val 0 j,?_,hd 0 (yF q) rfl j d hj⟩
    match j,hlt with
    |0,_=>rfl
    |1,_=>rfl
    |2,_=>rfl
def uC3{w:World}{b o:Nat}  (h:w.cell? ⟨b,o,none⟩=some v):∃ t k,w.shape? b=some (t,k)/\k≠0:=by
 unfold World.cell? at h
 split at h
 .rename_i c t r e
  refine⟨t,c.size,by simp[World.shape?,e],fun h0=>?_⟩;simp at h;have:=(kH.1 h).1;omega
 .cases h
def MU{w:World}{A:Nat->Prop}{κ:Ka}{l:List Rat}{c:Array Value}(H:Lay w A κ l c):Lay w.drew A κ l c:=Lay.mono (w:=w) (w':=w.drew) (fun _ h=>h) (fun _ _ _=>rfl) (fun _ _ h=>h) H
def vVM{w:World}{A:Nat->Prop}{d:PV}  (H:RD w A d v):RD w.drew A d v:=RD.mono (w:=w) (w':=w.drew) (A:=A) (A':=A) (fun _ h=>h) (fun _ _ _=>rfl) H
def ok_xins:FO 117 f117 [.tmp 6] 95:=mkO func117 ntmps117 results117
def uJN{l:List Rat}{i:Nat}{q:Rat}(hi:i<=l.length){k:Nat}{x:Rat}(h:(vO l i q)[k]?=some x):(k=i/\x=q)\/(k<i/\l[k]?=some x)\/(i<k/\l[k-1]?=some x):=by
 unfold vO at h;rw[NA,wG]at h
 split at h
 .rw[ED]at h
  split at h
  .exact zC (zF ⟨zom,h⟩)
  .cases h
 .rename_i hk
  rcases nD i k with hlt|hge
  .rw[show k-min i l.length=(k-1-i)+1 by omega,List.getElem?_cons_succ,pM,show i+(k-1-i)=k-1 by omega]at h
   exact zC (zC ⟨hlt,h⟩)
  .rw[show k-min i l.length=0 by omega]at h
   cases h
   exact zF ⟨zom,rfl⟩
def uKM(l:List Rat)(i:Nat)(q:Rat)(hi:i<l.length)(hl:l.length<=1000):Fn 117 [.own 0 0 l.length,.int .i64 i,.imm [yF q]] (.own (some (rwB l)) (.own 0 0 (l.length+1)) (rwB (vO l i q))):=by
 refine⟨ok_xins.callable,ok_xins.callable,fun E w A κ vs hn hκ hA hw H hfr hvs=>?_⟩;obtain⟨hlen,hv⟩:=hvs;obtain⟨m,sz,cap,a,e0,hk,hcap,ha⟩:=RV.own_inv (hv 0 _ rfl);have e1:=RV.int_inv (hv 1 _ rfl);obtain⟨vb,voff,vc,us,e2,hAv,hul,hus,hu1,hud⟩:=uYQ (RV.imm_inv (hv 2 _ rfl));obtain⟨hsz,g2,g4⟩:=Fh H hk;subst hsz;obtain⟨c,ty,p2,p3,p4,p5,p6⟩:=g4.resolve_left zom
 have ha':a=some ⟨m,0,none⟩:=by
  rcases ha with h|h
  .simpa using h
  .omega
 subst ha'
 have hvs3:vs=[.slice (some ⟨m,0,none⟩) l.length (cap-0),.int .i64 i,.slice (some ⟨vb,voff,none⟩) 1 vc]:=by
  match vs,hlen with
  |[x,y,u],_=>simp at e0 e1 e2;rw[e0,e1,e2];rfl
 subst hvs3;rw[Nat.sub_zero];have p3:c.size=cap*3:=p3;have hn0:l.length<=cap:=zom
 have hvm:vb≠m:=fun e=>p6 (e ▸ hAv)
 have hcl:(c.toList.take (l.length*3)).length=l.length*3:=by simp;omega
 have hil:(vO l i q).length=l.length+1:=by unfold vO;simp;omega
 have hdl:((c.toList.take (l.length*3)).drop (i*3)).length=(l.length-i)*3:=by rw[jR,hcl];omega
 have hd1:∀ v∈(c.toList.take (l.length*3)).drop (i*3),v.oneCell'=true:=fun v hv=>p4 v (pK (gQ hv))
 by_cases hroom:l.length+1<=cap
 .obtain⟨tA,kA,hsa,hkA⟩:=uC3 (hus 0 _ (wN zom))
  have hrun:=uFQ m 0 l.length cap i vb voff vc (c.toList.take (l.length*3)) us w hi hroom zom hvm hcl hul (cell_of p2) (fun j hj=>by simp[World.cell?,p2];omega) (fun j hj=>by simp[World.frozen?,p2]) hus
   (fun v hv=>p4 v (pK hv)) hu1 tA ty kA c.size hsa (by simp[World.shape?,p2]) hkA zom (by simp[World.frozen?,p2]) (by simp[World.frozen?,p2])
  refine hrun.mono fun e w' ⟨he,hw'⟩=>?_
  rw[z7,z7]at hw'
  obtain⟨H1,q1,q2,q3⟩:=H.drew.setc1 prog (yS (l.take (i+1)++l.drop i)) hk zom (w:=w.drew) p2 p4 ((c.toList.take (l.length*3)).drop (i*3)) ((i+1)*3) zom hd1 yE Dn
   (uTK (l:=l) (MU p5) hi rfl zom)
  obtain⟨c1,ty1,r2,r3,r4,r5,r6⟩:=(Fh H1 hk).2.2.resolve_left zom;rw[q1]at r2;cases r2
  obtain⟨H2,_,_,_⟩:=H1.setc1 prog (yS (vO l i q)) hk zom q1 q2 us (i*3) (by rw[hul,bM zom];omega) hu1 yE Dn
   (vYX (l:=l.take (i+1)++l.drop i) (q:=q) r5 hul (fun j d hd=>by
     obtain⟨u,h1,h2⟩:=hud j d hd
     exact⟨u,h1,.data _ _ ((vVM h2).mono (fun _ h=>h) fun b o hA=>q3 b o hA),hu1 u (wO h1)⟩) (by rw[bM zom];omega) fun k x hx=>by
     rcases uJN zom hx with h|⟨h,h'⟩|⟨h,h'⟩
     .exact zF h
     .refine zC ⟨zom,?_⟩
      rw[o9 yE,oP zom];exact h'
     .refine zC ⟨zom,?_⟩
      rw[kG yE,pM,wG,<- h']
      congr 1;omega)
  rw[<- hw']at H2;exact⟨_,.own 0 0 (l.length+1),A,κ,wE (some (rwB (vO l i q))),he,H2,SY hfr,zX _,.own 0 0 _ m 3 cap _ hk zom (zF zsm),SW (b:=rwB l) (by simpa using hil) AX⟩
 .have hrun:=uFR m 0 l.length cap i vb voff vc (c.toList.take (l.length*3)) us w hi hn0 zom zom hcl hul (cell_of p2) hus (fun v hv=>p4 v (pK hv)) hu1
  refine hrun.mono fun e w' ⟨he,ROW,⟨r,hr,hr1⟩,hsz,hw'⟩=>?_
  have hG:=grownCap_ge w (l.length+1) cap 34;obtain⟨g,hg⟩:∃ g,g=grownCap w (l.length+1) cap 34:=⟨_,rfl⟩;rw[<- hg]at he hsz hG;have hfr1:=hfr 1 (zX _)
  have hone:∀ v∈ROW.toList,v.oneCell'=true:=fun v hv=>by
   rw[hr]at hv;simp only[GI,y8]at hv;rcases hv with hv|hv
   .exact p4 v (pK (pK hv))
   .exact hr1 v hv
  have hL0:Lay w A κ (l.take i) ROW:=(Lay.of (l:=l) (c:=c) p5 fun k x hx=>by
   rw[ED]at hx
   split at hx
   .refine⟨k,hx,fun j hj=>?_⟩
    rw[hr,Ms yE,EA,oP zom,oP zom,CU]
   .cases hx)
  have H1:=H.alloc (key:=1) (sz:=3) (cap:=g) (agg:=true) (els:=yS (l.take i)) (c:=ROW) (ty:=34) (GZ hn) hfr1.2.2 rfl hsz yE Dn hone (fun k e he=>hL0 k e he) (by intro h;cases h);have hk1:wL κ 1 (w.heap.size,3,g) 1=some (w.heap.size,3,g):=vG ..;have hA1:∀ b o,A b->(w.alloc (.cells ROW 34)).cell? ⟨b,o,none⟩=w.cell? ⟨b,o,none⟩:=fun b o hA=>cell?_of_heap (Below.heap_alloc _ _ _ (H.alt b hA)) o
  have key:∀ {w1:World} {l1:List Rat},HR E G0 w1 A (wL κ 1 (w.heap.size,3,g)) (hset (wE (some (rwB l))).h 1 (some (rwB l1))) (fun _=>false)->(∀ b o,A b->w1.cell? ⟨b,o,none⟩=w.cell? ⟨b,o,none⟩)->∀ {c1:Array Value} {t1:TypeId},w1.heap[w.heap.size]?=some (.cells c1 t1 (0,0))->c1.size=g*3->Lay w1 A (wL κ 1 (w.heap.size,3,g)) l1 c1:=by
   intro w1 l1 H1 _ c1 t1 hc1 _;obtain⟨m',cap',hk',_,_,g4⟩:=H1.blk 1 (rwB l1) (by simp[hset]) (by rw[hk1];simp);rw[hk1]at hk';cases hk';obtain⟨c2,t2,_,e2,_,_,e5,_⟩:=dP g4 (by clear g4;omega) fun _ h=>by cases h
   rw[hc1]at e2;cases e2;exact e5
  have hh:∀ b b',hset (hset (wE (some (rwB l))).h 1 b) 1 b'=hset (wE (some (rwB l))).h 1 b':=fun b b'=>by
   funext j
   by_cases e:j=1<;>simp[hset,e]
  obtain⟨H2,q1,q2,q3⟩:=H1.drew.setc (r:=1) (b:=rwB (l.take i)) (els:=yS (l.take i++[q])) prog (by simp[hset]) hk1 zom rfl (c:=ROW) (ty:=34) (by exact Nf _ _) hone us (i*3) zom hu1 yE Dn
   (vYX (l:=l.take i) (q:=q) (MU (Lay.mono (fun _ h=>h) hA1 (qW _ hfr1.2.2) hL0)) hul (fun j d hd=>by
     obtain⟨u,h1,h2⟩:=hud j d hd
     exact⟨u,h1,.data _ _ (vVM (h2.mono (fun _ h=>h) hA1)),hu1 u (wO h1)⟩) zom fun k x hx=>by
     rw[NA]at hx
     split at hx
     .rename_i hk;rw[wG]at hk;exact zC ⟨zom,hx⟩
     .rename_i hk
      rw[wG]at hk;have h0:=(xW.1 hx).1;simp only[wG,List.length_singleton]at h0;rw[show k-(l.take i).length=0 by simp;omega]at hx;cases hx
      exact zF ⟨zom,rfl⟩)
  rw[hh]at H2;have L2:=key (l1:=l.take i++[q]) H2 (fun b o hA=>(q3 b o hA).trans (hA1 b o hA)) q1 (by rw[bM zom,hsz])
  obtain⟨H3,_,_,_⟩:=H2.drew.setc (r:=1) (b:=rwB (l.take i++[q])) (els:=yS (vO l i q)) prog (by simp[hset]) hk1 zom rfl (by exact q1) q2 ((c.toList.take (l.length*3)).drop (i*3)) ((i+1)*3) (by rw[bM zom];omega) hd1 yE Dn
   (uOG (l:=l.take i++[q]) (l0:=l) (c0:=c) (MU L2) (MU (Lay.mono (fun _ h=>h) (fun b o hA=>(q3 b o hA).trans (hA1 b o hA)) (qW _ hfr1.2.2) p5)) (by rw[bM zom];omega) fun k x hx=>by
     rcases uJN zom hx with⟨h,h'⟩|⟨h,h'⟩|⟨h,h'⟩
     .subst h h'
      refine zF ⟨?_,zom⟩;rw[kG yE,wG,show k-min k l.length=0 by omega];rfl
     .refine zF ⟨?_,zom⟩
      rw[o9 yE,oP h];exact h'
     .have hk:=(xW.1 h').1
      refine zC ⟨k-1,h',fun j hj=>⟨zom,zom,?_⟩⟩;rw[pM,oP zom,CU]
      congr 1;omega)
  rw[hh]at H3;rw[<- hw']at H3;refine⟨_,.own 1 0 (l.length+1),A,_,⟨fun _=>.any,hset (wE (some (rwB l))).h 1 (some (rwB (vO l i q))),fun _=>false,2⟩,he,H3,fun r hr=>?_,Jf _,.own 1 0 _ w.heap.size 3 g _ hk1 zom (zF zsm),AX,zF ⟨fun c hc=>zF ?_,?_⟩,zF ⟨1,rfl,by simp[hset],rfl⟩⟩
  .have hr:2<=r:=hr
   obtain⟨h1,h2,h3⟩:=hfr r (by show 1<=r;omega);exact⟨by simp[wE,hset,show r≠0 by omega,show r≠1 by omega],rfl,by rw[wH κ _ zom];exact h3⟩
  .rw[show(rwB (vO l i q)).els.length=l.length+1 by simpa using hil];exact yG.1 hc
  .rw[show(rwB (vO l i q)).els.length=l.length+1 by simpa using hil];exact yG.2 rfl
open Go.Proofs Go.PI Go.Proofs.Tryz Go.PI.SX
def sn:Code->Code
 |.seq _ b=>b
 |c=>c
noncomputable abbrev uYA:Code:=sn (sn (sn (f48.body.getD .skip)))
noncomputable abbrev SZ:Code:=sn (sn (sn (sn (sn (sn (sn (sn uYA)))))))
noncomputable abbrev Sb:Code:=sn SZ
noncomputable abbrev Sc:Code:=sn Sb
noncomputable abbrev uYT:Code:=sn Sc
abbrev vi2(x:Nat):List (Nat×Blk):=[(3210,⟨[.ptr 1 0 0],1,false⟩),(3211,⟨[.int .i64 x],1,false⟩)]
def Sg{C N m:Nat}(hm:m<=64)(hN:N<=C):∀ x∈(ck C).ks m,x=1\/N<=x:=fun x hx=>by
 rcases ks_mem.1 hx with h|h|h|h|h|⟨i,hi,h⟩
 .exact zF h
 all_goals refine zC ?_
 all_goals simp only[ck]at h
 all_goals omega
def vZZ(U:Tab)(x c k N:Nat)(K:PV->St->Prop)(S:Sm k U)(hN:N<=3000)(hc:U.ns.idxOf x=c)(hx:x∈U.ns)
 (hK:∀ s k',(k'.ks U.bs.length).Nodup->(∀ x∈k'.ks U.bs.length,x=1\/N<=x)->TabS k' (uI U c) s.h s.z->K (.tup [.nilsl,.bool true]) s):VC prog (nth tab) G0 N uYT (rS (nth tab) [.tmp 2,.tmp 3] K) ⟨sv [(1,.ptr 3210 0 0),(7,.ptr 3211 0 0)],hv (vi2 x++yX (ck 3000) U),zv [],3300⟩:=by
 have hm:=S.m1;have hn1:=S.n1;obtain⟨hi,he⟩:=oI hx;have e2:dD U.ns x=(U.ns.idxOf x:Int):=zE hx;subst hc;generalize U.ns.idxOf x=c at *
 have TS:=vX (T:=U) (X:=vi2 x) hm t3 rfl;refine sts ?_;refine mR [(3003,⟨yV U.ns,1,false⟩)] 3300 (Du e2 zom) (Dw TS.n rfl zdd) rfl (sts ?_);refine qY (r:=3003) (uQC U.ns c zom) rfl rfl rfl rfl vPO (sts ?_);refine eO hT (fun(j:Nat)=>[(1,.ptr 3210 0 0),(8,.int .i64 c),(208,.int .i64 U.bs.length),(209,.int .i64 j)]) (fun j=>fbX++sS (ck 3000) (dlJ c U j) (wD U.ns.length j)) 3300 (fun j=>j<=U.bs.length) (fun j=>U.bs.length-j) 0 (z8 _) zom ?_ ?_
 .refine KeptG.to (Iq (k:={ ck 3000 with n:=3315 }) [3315] [] hN t3 zdd hm (Zk (T:=U) rfl (nd3 hm) (vW hm t3 rfl)) (fun _=>Zn) ?_ rfl ⟨apx,zD,zD,zD,zA⟩ ⟨xE zdd rfl ⟨zdd,rfl⟩ rfl rfl,zA⟩ rfl)
  rw[show dlJ c U 0={ U with ns:=U.ns.eraseIdx c } by unfold dlJ;rw[Zm S.w]];refine TabSw.setN (k:=ck 3000) (w:=wd0 U) (h:=hv (vi2 x++yX (ck 3000) U)) (z:=zv []) TS (nd3 hm) (fun y hy h1 h3=>?_) ⟨rfl,rfl⟩ ⟨rfl,rfl⟩ ?_
  .have:=dA hm hy
   exact⟨Ir h3 (show y≠3315 by omega) h1,rfl⟩
  .unfold wD wd0;simp
 intro j hj;have TJ:=Rf (T:=dlJ c U j) (w:=wD U.ns.length j) (X:=fbX) hm t3 rfl;have hb:(dlJ c U j).bs.length=U.bs.length:=rfl;by_cases hlt:j<U.bs.length
 .have hl:=S.w.ll j hlt
  have cR:=uBC U.fs[j]! c zom;rw[hl,Nat.add_sub_cancel]at cR;have ej:(dlJ c U j).fs[j]! = U.fs[j]! := (AV hlt).trans (zB zom)
  refine gob ?_ ?_<;>intro h
  all_goals try omega
  refine Rh (n:=U.ns.length+1) (z7 _) hlt (show(wD U.ns.length j).f j=_ from zB (dH _)) (sts ?_);refine qY (r:=(ck 3000).r j) cR Zq ((TJ.row hlt).1.trans (by rw[ej])) rfl rfl AX (sts ?_);refine Ri (lo:=3100) (n:=64) (i:=j) rfl zom zdd rfl (sts ?_);refine rH (show 3004≠3318 by decide) (rH (show 3004≠3100+j by omega) (vR TJ.f ?_));refine sts ?_;refine bL rfl (sts ?_);refine rH (show 3004≠3318 by decide) (rH (show 3004≠3100+j by omega) (vR TJ.f ?_));refine sts ?_;refine Ly (z7 _) hlt (sts ?_);refine bL rfl (sts ?_);refine⟨j+1,⟨zom,zbo⟩,KeptG.to (Iq (k:={ ck 3000 with r:=fun i=>if i=j then 3318 else(ck 3000).r i }) [3318] [] hN t3 zdd hm (RP (T:=U) (nd3 hm) (vW hm t3 rfl)) (fun _=>Zp) ?_ rfl ⟨apx,zD,zD,zG rfl zom,zA⟩ ⟨xE zdd ?_ ⟨zdd,rfl⟩ rfl rfl,zA⟩ rfl)⟩
  .refine TabSw.setF (T:=dlJ c U j) TJ (nd3 hm) (i:=j) (q:=3318) (n:=U.ns.length) (fs:=(dlJ c U (j+1)).fs) hlt (vW hm t3 rfl) (fun y hy hne=>?_) rfl (fun i hi hne=>?_) ?_ ?_ uK5
   .have:=dA hm hy
    exact⟨(yM (show y≠3318 by omega)).trans (yM hne),rfl⟩
   .show(fsG _ U (j+1))[i]! = (fsG _ U j)[i]!
    have hi:i<U.bs.length:=hi;rw[AV hi,AV hi];by_cases h:i<j
    .rw[zE h,zE zom]
    .rw[zB h,zB zom]
   .rw[show(dlJ c U (j+1)).fs[j]! = U.fs[j]!.eraseIdx c from(AV hlt).trans (zE (nC j))]
    exact hs_same
   .rw[z7];rfl
  .exact(yM (show 3210≠3004 by decide)).trans ((yM (show 3210≠3318 by decide)).trans ((yM (show 3210≠3100+j by omega)).trans rfl))
 .have ej:j=U.bs.length:=zom
  subst ej;have ol:=S.w.ol;have cO:=uBC U.ob c zom;rw[ol]at cO
  refine gob ?_ ?_<;>intro h
  all_goals try omega
  refine qY (r:=3005) cO Zq rfl rfl rfl AX (sts ?_);refine hK _ { ck 3000 with o:=3309 } (Zl (T:=U) rfl (nd3 hm) (vW hm t3 rfl)) (fun y hy=>?_) ?_
  .rcases Zo hy with h|h
   .exact Sg hm hN y h
   .cases yG.1 h;exact zC zom
  .rw[uUR S.w]
   refine TabSw.toS (w:=⟨U.ns.length-1,U.ns.length+1-1,(wD U.ns.length U.bs.length).f⟩) (TabSw.setO (k:=ck 3000) (T:=dlJ c U U.bs.length) TJ (nd3 hm) (fun y hy h1 h3=>?_) ⟨rfl,rfl⟩ ⟨rfl,rfl⟩ rfl) ?_ ?_ ?_ ?_
   .have:=dA hm hy
    exact⟨Ir h3 (show y≠3309 by omega) h1,rfl⟩
   all_goals have e1:(U.ns.eraseIdx c).length=U.ns.length-1:=jN hi
   .show(U.ob.eraseIdx c).length=(U.ns.eraseIdx c).length+1
    rw[jN zom];omega
   .exact fun i hi=>(zE hi).trans (by show _=(U.ns.eraseIdx c).length+1;omega)
   .exact e1.symm
   .show U.ns.length+1-1=(U.ns.eraseIdx c).length+1;omega
end Go.PI.Tryz
