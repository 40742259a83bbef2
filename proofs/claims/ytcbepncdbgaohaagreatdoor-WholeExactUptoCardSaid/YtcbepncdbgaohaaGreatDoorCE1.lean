/-
  Queries decided by elimination: walked.
-/
import Derived.Test.YtcbepncdbgaohaaGreatDoorCE0
import Derived.Test.YtcbepncdbgaohaaGreatDoorCF2
set_option linter.all false
set_option maxHeartbeats 0
namespace Go.PI.Tryz
open Go.Proofs Go.PI Go.Proofs.Tryz
set_option maxHeartbeats 2000000
def uX2(n:Nat)(R:List QF)(O:QF):PV:=.agg [.int .i64 n,.imm (R.map zP),.imm (O.ts.map uY),.bool (cr O.c).neg,zQ (cr O.c).num,zQ (cr O.c).den]
def iH(n:Nat)(O:QF):QF:=yA (yK n) O (-1)
def rK(n:Nat)(R:List QF)(O:QF):List QF:=[iH n O,yA zeroQ (iH n O) (-1)]++R
def MX(o:Option Nat):Int:=match o with
 |none=>-1
 |some b=>b
abbrev uX0(d:List Bool):Blk:=⟨d.map (.bool),1,false⟩
def Dy(d:List Bool):∀ e∈d.map (PV.bool),nr 3 e=true/\e≠.any:=yZ fun _=>⟨rfl,zsm⟩
def uBR (n:Nat) (R:List QF) (O:QF) (k:Nat) (hn:n<=20) (hk:k<=100000000) (hk1:2<=k) (hO:szF k O) (hOs:okF n O) (hR:∀ f∈R,szF k f/\okF n f) (hRl:R.length<=1000):Fn 28 [uX2 n R O] (.data (.tup [.int .i64 (uD (rK n R O) n).1,zR (cr (uD (rK n R O) n).2)])):=by
 have hol:=aS n hOs.1.1 hOs.2;have hvs:Srt (yK n).ts:=⟨JM _ _,fun p hp=>by rw[yG.1 hp];show(1:Rat)≠0;decide⟩;have hvz:szF 1 (yK n):=⟨(⟨zdd,zdd⟩:sz 1 (0:Rat)),fun p hp=>by rw[yG.1 hp];exact(⟨by decide +kernel,by decide +kernel⟩:sz 1 (1:Rat))⟩;have d1:=uKN (n:Int);have d2:=Sv (yK n) O 1 k hvz hO hvs hOs.1 zdd zom (by show 1+O.ts.length<=_;omega);rw[En hvs hOs.1,show yA (yK n) O (-1)=iH n O from rfl]at d2;have hTs:Srt (iH n O).ts:=aN hvs hOs.1;have hTz:szF (k+3) (iH n O):=cN hvz hO (kc:=1) ⟨by decide +kernel,by decide +kernel⟩ zom;have hTl:(iH n O).ts.length<=1+O.ts.length:=Kc;have d3:=Db (-1) zdd;rw[show(((-1:Int)):Rat)=-1 by rfl]at d3;have d4:=FN (iH n O) (-1) (k+3) 1 hTz (pX (z:=-1) zdd) zom zom;rw[vRU hTs]at d4;have hAl:(rK n R O).length=2+R.length:=by simp[rK];omega
 have hA:∀ i,i<(rK n R O).length->szF (k+6) (rK n R O)[i]! /\ Srt (rK n R O)[i]!.ts/\(rK n R O)[i]!.ts.length<=1048576:=fun i hi=>by
  have hm:=get_mem hi;generalize (rK n R O)[i]! = f at *
  unfold rK at hm;rcases y8.1 hm with h|h
  .rcases yI.1 h with rfl|h
   .exact⟨rX zom hTz,hTs,zom⟩
   .rw[yG.1 h]
    have:(yA zeroQ (iH n O) (-1)).ts.length<=0+(iH n O).ts.length:=Kc;exact⟨cN (cQ 1 zdd) hTz (kc:=1) ⟨by decide +kernel,by decide +kernel⟩ zom,aN pV hTs,zom⟩
  .obtain⟨h1,h2⟩:=hR f h
   have:=aS n h2.1.1 h2.2;exact⟨rX zom h1,h2.1,zom⟩
 have hAe:(List.map zP (rK n R O))=[zP (iH n O),zP (yA zeroQ (iH n O) (-1))]++R.map zP:=by simp[rK]
 have hno:¬ ((rK n R O).length<=62/\DR (rK n R O) n (rK n R O).length)->uD (rK n R O) n=(0,0):=fun h=>by unfold uD;rw[zB h]
 have hyes:((rK n R O).length<=62/\DR (rK n R O) n (rK n R O).length)->uD (rK n R O) n=feV n (rw0 (rK n R O) n (rK n R O).length):=fun h=>by unfold uD;rw[zE h]
 generalize rK n R O=A at *
 generalize uD A n=LV at *
 generalize yA zeroQ (iH n O) (-1)=T2 at *
 generalize iH n O=T1 at *
 refine yJ zU hT (mkO func28 ntmps28 results28) (by simp[uX2]) (sts ?_);refine cvd d1 ?_;refine cvd d2 ?_;refine cvd d3 ?_;refine zT d4 rfl (sus ?_)
 refine fU [] [(3,.ptr 0 0 0),(4,.int .i64 n),(6,.imm (A.map zP))] [(0,⟨[.agg [.bool false,.nilsl,.nilsl]],3,true⟩)] [] 1 zdd zsm trivial
  ⟨[2],[20],[(6,.imm (A.map zP))],[],⟨⟨⟨_,rfl⟩,zA⟩,⟨⟨6,_,xP rfl (by rw[hAe];rfl) (by rw[hAl];simp) Ww,rfl⟩,zA⟩,zA⟩,⟨apx,zG rfl rfl,xI rfl rfl,zA⟩,⟨bbx,zA⟩,zO⟩ ?_
 by_cases h62:A.length<=62
 rotate_left
 .rw[hno fun e=>h62 e.1]
  refine gob ?_ ?_<;>intro h
  all_goals try omega
  exact zL rfl (by rw[nL];rfl)
 refine gob ?_ ?_<;>intro h
 all_goals try omega
 refine iB hT [(.sl 7,2,true)] (fun(i:Nat)=>[(3,.ptr 0 0 0),(4,.int .i64 n),(6,.imm (A.map zP)),(7,.own 1 0 i),(8,.int .i64 i)]) (fun i=>[(0,⟨[.agg [.bool false,.nilsl,.nilsl]],3,true⟩),(1,I8 (rw0 A n i))]) [] 2
  (fun i=>i<=A.length/\DR A n i) (fun i=>A.length-i) 0 ⟨z8 _,fun j h=>by omega⟩ zdd zsm ⟨rfl,zA⟩ ?_ ?_
 .exact⟨[0,_],[],[],[],ttt,⟨(apy rfl),zG rfl rfl,xI rfl rfl,zI zdd rfl rfl,zG rfl rfl,zA⟩,⟨bbx,zH zdd rfl rfl (jM []) rfl,zA⟩,zO⟩
 intro i ⟨i1,i2⟩;have hrl:=K4 A n i;by_cases hi:i<A.length
 .obtain⟨a1,a2,a3⟩:=hA i hi
  have dd:=uBV A[i]! (n+1) (k+6) a1 zom a2.1 a3 zom zom;rw[show(((n+1:Nat):Nat):Int)=(n:Int)+1 by omega]at dd;have hsu:=uDC A n i;have hpw:(1:Int)*vM .u64 (i:Int)=((2^i:Nat):Int):=by rw[Eh zom,Int.one_mul,Int.toNat_natCast];simp
  have hpb:2^i<18446744073709551616:=w9 (M8 zdd (show i<64 by omega)) zdd;cases hB:(rD (frX A[i]! (n+1))).2 with
  | false =>
    rw[hno fun e=>absurd (e.2 i hi) (by rw[hB];decide)];rw[hB]at dd
    refine gob ?_ ?_<;>intro h
    all_goals try omega
    refine cvd dd ?_;exact zL rfl (by rw[nL];rfl)
  | true =>
    rw[hB]at dd;have hst:DR A n (i+1):=fun j hj=>IA (p:=fun j=>(rD (frX A[j]! (n+1))).2=true) i2 hB hj
    generalize (rD (frX A[i]! (n+1))).1=C at *
    generalize 2^i=P2 at *
    refine gob ?_ ?_<;>intro h
    all_goals try omega
    refine cvd dd ?_
    all_goals try omega
    exact⟨i+1,⟨⟨zom,hst⟩,zbo⟩,[0,_],[],[],[],ttt,⟨(apy rfl),zG rfl rfl,xI rfl rfl,zI zdd rfl (by first|rfl|simp|omega),zG rfl rfl,zA⟩,⟨bbx,zH zdd rfl (by rw[hsu,wB,hpw];rfl) (jM _) rfl,zA⟩,zO⟩
 have ei:i=A.length:=zom
 subst ei;have hrw:=K5 i2 h62;rw[hyes ⟨h62,i2⟩];generalize rw0 A n A.length=l0 at *
 have hf0:List.replicate n false=List.replicate n false:=rfl;refine sus ?_;refine wR ?_
 (repeat' (first|refine stu ?_|with_reducible(refine brr ?_ ?_<;>intro h)));all_goals try(conv=>whnf)
 all_goals try omega
 refine fU [] [(3,.ptr 0 0 0),(4,.int .i64 n),(7,.imm (l0.map qN))] [(0,⟨[.agg [.bool false,.nilsl,.nilsl]],3,true⟩)] [] 1 zdd zsm trivial
  ⟨[0],[1],[(7,.imm (l0.map qN))],[],⟨⟨⟨_,rfl⟩,zA⟩,⟨⟨6,_,xP rfl rfl hrl.symm Sn,rfl⟩,zA⟩,zA⟩,⟨apx,zG rfl rfl,xI rfl rfl,zA⟩,⟨bbx,zA⟩,zO⟩ ?_
 refine sts ?_
 all_goals try omega
 have hl62:l0.length<=62:=zom
 refine xG hT (fun((j,s):Nat×FeS)=>[(3,.ptr 0 0 0),(4,.int .i64 n),(7,.imm (s.l.map qN)),(11,.own 1 0 n),(12,.int .i64 ((j:Int)+1))]) (fun(_,s)=>[(0,⟨[.agg [.bool false,.nilsl,.nilsl]],3,true⟩),(1,uX0 s.done)]) [] 2
  (fun(j,s)=>j<=n/\feI n l0 j=some s/\FeP n (n+2) j s) (fun(j,_)=>n-j) (0,⟨l0,List.replicate n false⟩) ⟨z8 _,rfl,FB hrw zom 0 (z8 _) _ rfl⟩ zdd zsm ?_ ?_
 .exact⟨[0,2],[],[],[],ttt,⟨apx,zD,zM,zI zdd rfl zom,zD,zA⟩,⟨bbx,zH zdd rfl (by rw[Int.toNat_natCast];exact aM (f:=PV.bool) (x:=false) (by first|rfl|omega|simp)) (Dy _) rfl,zA⟩,zO⟩
 intro⟨j,s⟩ ⟨j1,j2,j3⟩;have hsl:=XP j s j2;have hsl2:s.l.length<=1000000:=zom
 have hdl:=j3.dl;by_cases hj:j<n
 .obtain⟨⟨b,hb,hbn⟩,hst⟩:=j3.step hj zom
  have hnext:feI n l0 (j+1)=feS n (j+1) s:=by
   conv=>lhs;unfold feI
   rw[j2]
  have hfe:feS n (j+1) s=if 20000<nO s.l b then none else match jB s.l b (j+1) with
   |none=>none
   |some l'=>some ⟨l',s.done.set b true⟩:=by unfold feS;rw[hb];rfl
  have hnone:feS n (j+1) s=none->feV n l0=(0,0):=fun h=>by
   unfold feV;rw[XK (hnext.trans h) n zom]
  have hpc:∀ v,v<n->Fn 81 [.imm (s.l.map qN),.int .i64 v] (.data (.int .i64 (nO s.l v:Nat))):=fun v hv=>uBN s.l v (n+2) hsl2 j3.rw zom
  refine gob ?_ ?_<;>intro h
  all_goals try omega
  refine xG hT (fun(v:Nat)=>[(3,.ptr 0 0 0),(4,.int .i64 n),(7,.imm (s.l.map qN)),(11,.own 1 0 n),(12,.int .i64 ((j:Int)+1)),(13,.int .i64 (MX (l9 s.l s.done v))),(14,.int .i64 v)]) (fun _=>[(0,⟨[.agg [.bool false,.nilsl,.nilsl]],3,true⟩),(1,uX0 s.done)]) [] 2
   (fun v=>v<=n) (fun v=>n-v) 0 (z8 _) zdd zsm ?_ ?_
  .exact⟨[0,1],[],[],[],ttt,⟨apx,zD,zM,zI zdd rfl rfl,zD,zD,zD,zA⟩,⟨bbx,zH zdd rfl rfl (Dy _) rfl,zA⟩,zO⟩
  intro v v1;obtain⟨q1,q2⟩:=K3 s.l s.done v;by_cases hv:v<n
  .have hbs:l9 s.l s.done (v+1)=if s.done[v]! = false/\XJ s.l v (l9 s.l s.done v)=true then some v else l9 s.l s.done v:=rfl
   cases hd:s.done[v]! with
   | true =>
     rw[zB (by rw[hd];rintro⟨h,_⟩;cases h)]at hbs
     refine gob ?_ ?_<;>intro h
     all_goals try omega
     refine yB v (z7 _) zom ?_;rw[hd];refine sts ?_
     all_goals try omega
     exact⟨v+1,⟨zom,zbo⟩,[0,1],[],[],[],ttt,⟨apx,zD,zM,zI zdd rfl rfl,zD,zG rfl (by rw[hbs]<;>rfl),zD,zA⟩,⟨bbx,zH zdd rfl rfl (Dy _) rfl,zA⟩,zO⟩
   | false =>
     cases hbv:l9 s.l s.done v with
     | none =>
       rw[hbv,zE ⟨hd,rfl⟩]at hbs;rw[show MX none=-1 from rfl]
       refine gob ?_ ?_<;>intro h
       all_goals try omega
       refine yB v (z7 _) zom ?_;rw[hd];refine sts ?_
       all_goals try omega
       exact⟨v+1,⟨zom,zbo⟩,[0,1],[],[],[],ttt,⟨apx,zD,zM,zI zdd rfl rfl,zD,zG rfl (by rw[hbs]<;>rfl),zD,zA⟩,⟨bbx,zH zdd rfl rfl (Dy _) rfl,zA⟩,zO⟩
     | some u =>
       have hu:=(q1 u hbv).1;have p1:=hpc v hv;have p2:=hpc u zom;rw[show MX (some u)=(u:Int) from rfl];by_cases hlt:nO s.l v<nO s.l u
       .rw[hbv,zE ⟨hd,sJ hlt⟩]at hbs
        generalize nO s.l v=pv at *
        generalize nO s.l u=pu at *
        refine gob ?_ ?_<;>intro h
        all_goals try omega
        refine yB v (z7 _) zom ?_;rw[hd];refine sts ?_
        all_goals try omega
        refine cvd p1 ?_;refine zT p2 rfl ?_
        refine gob ?_ ?_<;>intro h
        all_goals try omega
        exact⟨v+1,⟨zom,zbo⟩,[0,1],[],[],[],ttt,⟨apx,zD,zM,zI zdd rfl rfl,zD,zG rfl (by rw[hbs]<;>rfl),zD,zA⟩,⟨bbx,zH zdd rfl rfl (Dy _) rfl,zA⟩,zO⟩
       .rw[hbv,zB (fun e=>hlt (mS e.2))]at hbs
        generalize nO s.l v=pv at *
        generalize nO s.l u=pu at *
        refine gob ?_ ?_<;>intro h
        all_goals try omega
        refine yB v (z7 _) zom ?_;rw[hd];refine sts ?_
        all_goals try omega
        refine cvd p1 ?_;refine zT p2 rfl ?_
        refine gob ?_ ?_<;>intro h
        all_goals try omega
        exact⟨v+1,⟨zom,zbo⟩,[0,1],[],[],[],ttt,⟨apx,zD,zM,zI zdd rfl rfl,zD,zG rfl (by rw[hbs]<;>rfl),zD,zA⟩,⟨bbx,zH zdd rfl rfl (Dy _) rfl,zA⟩,zO⟩
  have ev:v=n:=zom
  rw[ev,hb,show MX (some b)=(b:Int) from rfl];have p1:=hpc b hbn;by_cases hbig:20000<nO s.l b
  .rw[zE hbig]at hfe
   rw[hnone hfe]
   refine gob ?_ ?_<;>intro h
   all_goals try omega
   refine zT p1 rfl ?_
   refine gob ?_ ?_<;>intro h
   all_goals try omega
   exact zL rfl (by rw[nL];rfl)
  rw[zB hbig]at hfe;have ce:=uH0 s.l b (j+1) (n+2) hsl2 j3.rw zom zom zom zom;rw[show(((j+1:Nat):Nat):Int)=(j:Int)+1 by omega]at ce;cases hE:jB s.l b (j+1) with
  | none =>
    rw[hE]at hfe ce;dsimp only at hfe ce;rw[hnone hfe]
    refine gob ?_ ?_<;>intro h
    all_goals try omega
    refine zT p1 rfl ?_
    refine gob ?_ ?_<;>intro h
    all_goals try omega
    refine cvd ce ?_;exact zL rfl (by rw[nL];rfl)
  | some l' =>
    rw[hE]at hfe ce;dsimp only at hfe ce;have hP:=hst _ hfe;rw[hfe]at hnext
    refine gob ?_ ?_<;>intro h
    all_goals try omega
    refine zT p1 rfl ?_
    refine gob ?_ ?_<;>intro h
    all_goals try omega
    refine cvd ce ?_;refine yB b (z7 _) zom (sts ?_);exact⟨(j+1,⟨l',s.done.set b true⟩),⟨⟨zom,hnext,hP⟩,zbo⟩,[0,1],[],[],[],ttt,⟨apx,zD,zM,zI zdd rfl rfl,zG rfl zom,zA⟩,⟨bbx,zH zdd rfl (x5 (z7 _) rfl) (Dy _) rfl,zA⟩,zO⟩
 have ej:j=n:=zom
 rw[ej]at j2;have hfv:feV n l0=rE s.l n:=by unfold feV;rw[j2]
 have ce:=uHZ s.l n (n+2) hsl2 j3.rw zom zom;rw[hfv]
 refine gob ?_ ?_<;>intro h
 all_goals try omega
 refine cvd ce ?_;exact yD
set_option maxHeartbeats 2000000
def CL:∀ (m:Nat) (p:List Int),(wJ m p).length=2^m
 |0,p=>rfl
 |m+1,p=>by simp only[wJ,xR,CL m];omega
def MZ:∀ (m:Nat) (p:List Int),∀ q∈wJ m p,q.length=p.length+m
 |0,p,q,h=>by rw[yG.1 h];rfl
 | m+1,p,q,h=>by
   rcases y8.1 h with h|h
   .rw[MZ m _ q h];simp;omega
   .rw[MZ m _ q h];simp;omega
def Sw:∀ (m:Nat) (p:List Int),(∀ a∈p,a=1\/a=2)->∀ q∈wJ m p,∀ a∈q,a=1\/a=2
 |0,p,hp,q,h=>by rw[yG.1 h];exact hp
 | m+1,p,hp,q,h=>by
   rcases y8.1 h with h|h
   .exact Sw m _ (fun a ha=>by rcases y8.1 ha with ha|ha;exact hp a ha;exact zF (yG.1 ha)) q h
   .exact Sw m _ (fun a ha=>by rcases y8.1 ha with ha|ha;exact hp a ha;exact zC (yG.1 ha)) q h
def Dz:∀ (m:Nat) (p:List Int),wJ m p=(wJ m []).map (p++·)
 |0,p=>by simp[wJ]
 | m+1,p=>by
   rw[wJ,wJ,wB,Dz m (p++[1]),Dz m (p++[2]),List.nil_append,List.nil_append,Dz m [1],Dz m [2],qC,qC]
   congr 1<;>exact rL fun q _=>by simp
def uSS{m i:Nat}{ph:Nat}(h1:ph=1\/ph=2)(hi:i<2^m):(wJ (m+1) [])[(ph-1)*2^m+i]! = (ph:Int)::(wJ m [])[i]! := by
 have l:=CL m [];have e:=CL (m+1) [];have l1:=CL m [1];have l2:=CL m [2];rw[zS _ i zom];rcases h1 with rfl|rfl
 .rw[zS _ _ zom]
  simp only[wJ,List.nil_append,show(1-1)*2^m+i=i by omega];rw[iJ zom];simp only[Dz m [1],vS];rfl
 .rw[zS _ _ zom]
  simp only[wJ,List.nil_append];rw[iI zom];simp only[Dz m [2],vS,l1,Dz m [1],z6,l,show(2-1)*2^m+i-2^m=i by omega];rfl
def uDQ{l:List (List Int)}{j:Nat}{q:List Int}(h:j<l.length)(e:l[j]! = q):(l.take j).map ints++[ints q]=(l.take (j+1)).map ints:=by
 rw[tO h,wB,<- zS l j h,e];rfl
def vZP{h:Hp}{n:Nat}(p:List Int):frz h (n+1) (ints p)=some (ints p,[]):=by cases n<;>rfl
def Ma(l:List (List Int)):∀ e∈l.map (fun p=>ints p),nr 3 e=true/\e≠.any:=yZ fun _=>⟨rfl,zsm⟩
def vPF:FO 23 f23 [.tmp 2] 37:=mkO func23 ntmps23 results23
def uQX:∀ (m:Nat),m<=6->Fn 23 [.int .i64 m] (.data (.imm ((wJ m []).map (fun p=>ints p)))):=by
 intro m
 induction m with
 | zero =>
   intro _;refine fnV vPF ?_
   all_goals try omega
   exact yD
 | succ m ih =>
   intro hm;have ih:=ih zom;have hl:=CL m [];have hL:=CL (m+1) [];have hp:2^m<=2^6:=bU zdd zom;have ea:((m+1:Nat):Int)-1=(m:Nat):=zom
   refine fnV vPF ?_
   all_goals try omega
   rw[ea];refine cvd ih ?_
   refine iB hT [(.sl 4,1,false)] (fun(ph:Nat)=>[(3,.imm ((wJ m []).map (fun p=>ints p))),(4,.own 0 0 ((ph-1)*2^m)),(5,.int .i64 ph)]) (fun ph=>[(0,⟨((wJ (m+1) []).take ((ph-1)*2^m)).map (fun p=>ints p),1,false⟩)]) [] 1
    (fun ph=>1<=ph/\ph<=3) (fun ph=>3-ph) 1 ⟨zX _,zdd⟩ zdd zsm ⟨rfl,zA⟩ ?_ ?_
   .exact⟨[_],[],[],[],ttt,⟨xI rfl rfl,zI zdd rfl zsm,zG rfl rfl,zA⟩,⟨zH zdd rfl zsm (Ma _) rfl,zA⟩,zO⟩
   rintro ph ⟨h1,h3⟩
   by_cases hph:ph<=2
   .have hpc:ph=1\/ph=2:=zom
    refine gob ?_ ?_<;>intro h
    all_goals try omega
    refine xG hT (fun(i:Nat)=>[(3,.imm ((wJ m []).map (fun p=>ints p))),(4,.own 0 0 ((ph-1)*2^m+i)),(5,.int .i64 ph),(6,.int .i64 i)]) (fun i=>[(0,⟨((wJ (m+1) []).take ((ph-1)*2^m+i)).map (fun p=>ints p),1,false⟩)]) [] 1
     (fun i=>i<=2^m) (fun i=>2^m-i) 0 (z8 _) zdd zsm ?_ ?_
    .exact⟨[_],[],[],[],ttt,⟨xI rfl rfl,zI zdd rfl rfl,zG rfl rfl,zG rfl rfl,zA⟩,⟨zH zdd rfl rfl (Ma _) rfl,zA⟩,zO⟩
    intro i i1;have hmul:(ph-1)*2^m<=2^m:=by rcases hpc with rfl|rfl<;>omega
    have hlen:((wJ (m+1) []).take ((ph-1)*2^m+i)).length=(ph-1)*2^m+i:=by rw[wG];omega
    by_cases hi:i<2^m
    .have hat:=uSS (m:=m) (i:=i) hpc hi
     have hsn:=uDQ (l:=wJ (m+1) []) (j:=(ph-1)*2^m+i) zom hat;have hq:=MZ m [] _ (nT (l:=wJ m []) (i:=i) zom);simp only[List.length_nil]at hq
     refine gob ?_ ?_<;>intro h
     all_goals try omega
     have eo:(ph-1)*2^m+i+1=(ph-1)*2^m+(i+1):=zom
     rw[eo]at hsn
     exact⟨i+1,⟨zom,zbo⟩,[14],[12],[],[(14,((wJ (m+1) []).take ((ph-1)*2^m+i)).map (fun p=>ints p)++[ints ((ph:Int)::(wJ m [])[i]!)])],
      ⟨⟨⟨_,rfl⟩,zA⟩,zA,⟨⟨_,6,_,rfl,I5 (xP (f:=PV.int .i64) (l:=(ph:Int)::(wJ m [])[i]!) rfl rfl (by simp[bX]) fun _=>rfl) (I4 vZP _),rfl⟩,zA⟩⟩,
      ⟨zM,zI zdd rfl eo,zD,zG rfl zom,zA⟩,⟨zH zdd rfl hsn (Ma _) rfl,zA⟩,zO⟩
    ·refine gob ?_ ?_<;>intro h
     all_goals try omega
     have e1:(ph-1)*2^m+i=(ph+1-1)*2^m:=by rcases hpc with rfl|rfl<;>omega
     exact⟨ph+1,⟨⟨zom,zom⟩,zom⟩,[0],[],[],[],ttt,⟨zM,zI zdd rfl e1,zG rfl zom,zA⟩,⟨zH zdd rfl (by rw[e1]) (Ma _) rfl,zA⟩,zO⟩
   .have e3:ph=3:=zom
    subst e3;refine sts ?_
    all_goals try omega
    have et:(wJ (m+1) []).take ((3-1)*2^m)=wJ (m+1) []:=uT zom;exact zL (xP (f:=fun p=>ints p) rfl (by rw[et]) zom fun p=>vZP p) rfl
def uHF(v:Int):Fn 79 [.int .i64 v] (.data (zP (yK v))):=by
 have c1:=Db 1 zdd;rw[show((1:Int):Rat)=1 by rfl]at c1;rw[vJ4];refine fnV (mkO func79 ntmps79 results79) ?_;refine cvd c1 ?_;exact yD
def uQW(r:RegL)(hl:r.lo.length<=20)(hh:r.hi.length=r.lo.length)(hb:∀ i,i<r.lo.length->(sz 60 (qv r.lo[i]!)/\r.lo[i]! = cr (qv r.lo[i]!))/\sz 60 (qv r.hi[i]!)/\r.hi[i]! = cr (qv r.hi[i]!))(hr:r.rows.map x8=(r.rows.map AffL.Q).map zP)(hrl:r.rows.length<=1000):Fn 26 [kX r] (.fresh ((rF r).map zP) 4 true):=by
 refine dV zU hT (mkO func26 ntmps26 results26) (by simp[kX]) (sts ?_)
 refine iB hT [(.sl 3,4,true)] (fun(i:Nat)=>[(1,.ptr 0 0 0),(3,.own 1 0 (2*i)),(4,.int .i64 i)]) (fun i=>[(0,⟨[kX r],3,true⟩),(1,nU (Dc r i))]) [] 2
  (fun i=>i<=r.lo.length) (fun i=>r.lo.length-i) 0 (z8 _) zdd zsm ⟨rfl,zA⟩ ?_ ?_
 .exact⟨[0,_],[],[],[],ttt,⟨(apy rfl),zI zdd rfl rfl,zG rfl rfl,zA⟩,⟨bbx,zH zdd rfl rfl (vY []) rfl,zA⟩,zO⟩
 intro i i1;have hil:=IY r i;by_cases hi:i<r.lo.length
 .obtain⟨⟨b1,b2⟩,b3,b4⟩:=hb i hi
  have hsu:=YA r i;have hvs:Srt (yK i).ts:=⟨JM _ _,fun p hp=>by rw[yG.1 hp];show(1:Rat)≠0;decide⟩;have hvz:szF 1 (yK i):=⟨(⟨zdd,zdd⟩:sz 1 (0:Rat)),fun p hp=>by rw[yG.1 hp];exact(⟨by decide +kernel,by decide +kernel⟩:sz 1 (1:Rat))⟩;generalize qv r.lo[i]! = a at *
  generalize qv r.hi[i]! = b at *
  have d1:=uHF (i:Int);have d2:=Sv (yK i) ⟨[],a⟩ 1 60 hvz ⟨b1,fun p hp=>by cases hp⟩ hvs pV zdd zom (show 1+0<=2097140 by decide);rw[En hvs pV]at d2;have d3:=Sv ⟨[],b⟩ (yK i) 60 1 ⟨b3,fun p hp=>by cases hp⟩ hvz pV hvs zdd zom (show 0+1<=2097140 by decide);rw[En pV hvs]at d3
  refine gob ?_ ?_<;>intro h
  all_goals try omega
  refine cvd d1 ?_;rw[b2];refine cvd d2 ?_;rw[b4];refine cvd d1 ?_;refine cvd d3 ?_;exact⟨i+1,⟨zom,zbo⟩,[0,_],[],[],[],ttt,⟨(apy rfl),zI zdd rfl (by first|rfl|simp|omega),zG rfl rfl,zA⟩,⟨bbx,zH zdd rfl (by rw[hsu,wB];rfl) (vY _) rfl,zA⟩,zO⟩
 .have ei:i=r.lo.length:=zom
  subst ei
  refine gob ?_ ?_<;>intro h
  all_goals try omega
  have el:(rF r).length=2*r.lo.length+r.rows.length:=by simp[rF,IY]
  refine dU rfl ?_ ?_ rfl (BM (fun x=>Dq x) _)
  .rw[hr];simp[rF]
  .simp[el]
set_option maxHeartbeats 4000000
def vRY(q:QryL)(n:Nat)(p:List Int):MN (usQ q) n p=Bn q n p:=by
 unfold MN oM Bn;refine rL fun j hj=>?_
 rw[zE (yN.1 hj)]
def vS2(q:QryL)(kg n:Nat)(h:smQ q kg)(hkg:kg<=200)(hn:q.g.ins=(n:Int)):Fn 6 [kZ q] (.data (.tup [.int .i64 (oH q n).1,zR (cr (oH q n).2)])):=by
 obtain⟨n1,n2,n3,n4⟩:=h.nn hn;have hul:=oW q;have hun:=h.un;have hu:=h.us hn;have hrl:=h.rows
 have eR2:q.r.rows.map x8=(q.r.rows.map AffL.Q).map zP:=by
  rw[qC];refine rL fun a ha=>?_
  obtain⟨j,hj,rfl⟩:=uE ha;have h1:=h.va.2.1.2.2.2.2.2 j hj;rw[zS _ j hj]at h1;exact(MI h1).symm
 have eT:q.goal.terms.map mI=q.goal.Q.ts.map uY:=by
  conv=>lhs;rw[<- PU h.va.2.2]
  show(q.goal.Q.ts.map tQ).map mI=_
  rw[qC];rfl
 have ec:q.goal.const=cr q.goal.Q.c:=h.va.2.2.2;have hgoal:=p8 h.va.2.2;rw[hn]at hgoal;have hgz:szF 200 q.goal.Q:=jZ (qP hkg h.goal) zdd;have hft:=wS (GZ (fR q.goal)) (uK2 h).2.2;have ca:=uQX (usQ q).length zom;have hAl:=CL (usQ q).length [];have hAln:=MZ (usQ q).length [];have hAd:=Sw (usQ q).length [] zsm;have cb:=uQW q.r zom zom (fun i hi=>by obtain⟨b1,b2,_,b4,b5⟩:=h.bnd hi;exact⟨⟨b1,b4⟩,b2,b5⟩) eR2 zom;have hbl:(rF q.r).length<=14:=by simp[rF,IY];omega
 have hz:∀ j,sz 2 (pP q n j).2:=fun j=>uTG _ _
 have hpw:2^(usQ q).length<=2^4:=bU zdd zom;refine yJ zU hT (mkO func6 ntmps6 results6) (by simp[kZ]) ?_;rw[hul]at ca;refine sts ?_;refine zT ca (by rw[z6];rfl) ?_;rw[show((wJ q.g.units.length []).map fun p=>ints p)=(wJ (usQ q).length []).map (fun p=>ints p) by rw[hul]];refine sts ?_
 refine xG hT (fun((j,s):Nat×(Int×Rat))=>[(1,.ptr 0 0 0),(3,.ptr 1 0 0),(4,.int .i64 s.1),(5,.ptr 2 0 0),(6,.imm ((wJ (usQ q).length []).map (fun p=>ints p))),(7,.int .i64 j)]) (fun(_,s)=>[(0,⟨[kZ q],10,true⟩),(1,⟨[.agg [.bool false,.nilsl,.nilsl]],3,true⟩),(2,⟨[zR (cr s.2)],3,true⟩)]) [] 3
  (fun(j,s)=>j<=2^(usQ q).length/\oG (pP q n) j=some s) (fun(j,_)=>2^(usQ q).length-j) (0,(2,0)) ⟨z8 _,rfl⟩ zdd zsm ?_ ?_
 .exact⟨[_,_,4],[],[],[(4,[zR (cr 0)])],⟨zA,zA,⟨⟨_,6,_,rfl,rfl,rfl⟩,zA⟩⟩,⟨(apy rfl),(apy rfl),zG rfl rfl,(apy rfl),xI rfl rfl,zG rfl rfl,zA⟩,⟨bbx,bbx,bbx,zA⟩,zO⟩
 intro⟨j,s⟩ ⟨j1,j2⟩;have hsz:=YD hz j s j2;by_cases hj:j<2^(usQ q).length
 .have hm:=nT (l:=wJ (usQ q).length []) (i:=j) zom
  have ep:uZ q j=(wJ (usQ q).length [])[j]! := rfl;have hpl:=hAln _ hm;have hpd:=hAd _ hm;rw[<- ep]at hpl hpd;have e1:(wJ (usQ q).length [])[j]! = uZ q j:=rfl;have hPj:pP q n j=uD (rK n (kC q n (uZ q j)) (l6 q n (uZ q j))) n:=rfl;have hgo:=Ps h hkg hn (uZ q j);have hro:=QV h hn (uZ q j);have hzj:=hz j;have hc:MM q.g (uZ q j):=⟨h.va.1,by rw[hpl,hul];simp,fun i hi=>hpd _ (nT hi)⟩;have hsR:szR q.g (uZ q j) n 200 (fT n):=fun i hi=>⟨H4 hu i zom,wS (Ko hu zom) zdd⟩
  have c1:=vS0 q.g (uZ q j) n 200 (fT n) (SH zdd h.g) zdd zdd hc (by simp at hpl;omega) hn hsR;have c2:=vSY q.g (uZ q j) n 200 (fT n) (SH zdd h.g) zdd zdd hc (by simp at hpl;omega) hn hsR;have hfl:=mM (usQ q) n (uZ q j) (usQ q).length;have hS:=Ko (n:=n) hu (j:=(usQ q).length) (zX _);rw[<- hfl]at hS;have c3:=vSZ q.goal.Q (xA (usQ q) n (uZ q j) (usQ q).length) n 200 (fT n) (H4 hu _ (zX _)) zom hgz (by rw[hfl,hul];exact_mod_cast hgoal) zom zom zom;rw[show vQ q.goal.Q (xA (usQ q) n (uZ q j) (usQ q).length)=l6 q n (uZ q j) from rfl]at c3;rw[show MN q.g.us n (uZ q j)=Bn q n (uZ q j) from vRY q n _]at c2;have hpl2:(Bn q n (uZ q j)).length=(usQ q).length:=by simp[Bn]
  have c4:=uBR n (kC q n (uZ q j)) (l6 q n (uZ q j)) 40001 zom zdd zdd (rX zdd hgo.2.1) hgo.1 hro (by simp[kC];omega);rw[<- hPj]at c4;have hds:=uAT j2;have hcmp:=IX (cr (pP q n j).2) (cr s.2) (yH _) (yH _) (by have:=yO hzj;omega) (by have:=yO hzj;omega) (by have:=yO hsz;omega) (by have:=yO hsz;omega);rw[yC,yC]at hcmp;rw[show q.g.us=usQ q from rfl]at c1
  refine gob ?_ ?_<;>intro h
  all_goals try omega
  rw[e1];refine cvd c1 ?_;rw[e1];refine cvd c2 ?_
  all_goals try omega
  refine BS cb rfl (sts ?_);rw[eT,ec];refine cvd c3 ?_;rw[hn];refine zT c4 (yL (lJ (yL (ks:=[]) rfl (yL (xP (f:=zP) (l:=kC q n (uZ q j)) rfl (by simp[kC]) (by simp[kC]) Dq) rfl))) rfl) ?_;have hdj:oH q n=aZ (pP q n) (2^(usQ q).length):=rfl;clear c1 c2 c3 c4 cb;generalize pP q n j=P at *
  (refine gob ?_ ?_<;>intro h;rotate_left;refine gob ?_ ?_<;>intro h;rotate_left;refine gob ?_ ?_<;>intro h;refine gob ?_ ?_<;>intro h;rotate_right;rotate_right)
  all_goals try omega
  .rw[hdj,YE (j:=j+1) (by rw[hds,zE zom]) zom]
   exact zL rfl (by rw[nL];rfl)
  .rw[hdj,YE (j:=j+1) (by rw[hds,zE zom]) zom]
   exact zL rfl (by rw[nL];rfl)
  .exact⟨(j+1,P),⟨⟨zom,by rw[hds,zB zom,zE ⟨zom,zF zom⟩]⟩,zbo⟩,[0,1,2],[],[],[],ttt,⟨apx,apx,zD,apx,zM,zD,zA⟩,⟨bbx,bbx,bbx,zA⟩,zO⟩
  .refine zT hcmp rfl ?_
   refine gob ?_ ?_<;>intro h
   .exact⟨(j+1,P),⟨⟨zom,by rw[hds,zB zom,zE ⟨zom,zC (by have:=sgnQ_neg.1 (show xQ (P.2-s.2)<0 by assumption);grind)⟩]⟩,zbo⟩,[0,1,2],[],[],[],ttt,⟨apx,apx,zD,apx,zM,zD,zA⟩,⟨bbx,bbx,bbx,zA⟩,zO⟩
   .exact⟨(j+1,s),⟨⟨zom,by rw[hds,zB zom,zB (by rintro⟨_,e|e⟩;omega;exact absurd (sgnQ_neg.2 (show P.2-s.2<0 by grind)) xU)]⟩,zbo⟩,[0,1,2],[],[],[],ttt,⟨apx,apx,zG rfl rfl,apx,xI rfl rfl,zG rfl rfl,zA⟩,⟨bbx,bbx,bbx,zA⟩,zO⟩
  .exact⟨(j+1,s),⟨⟨zom,by rw[hds,zB zom,zB zom]⟩,zbo⟩,[0,1,2],[],[],[],ttt,⟨apx,apx,zD,apx,zM,zD,zA⟩,⟨bbx,bbx,bbx,zA⟩,zO⟩
 .have ej:j=2^(usQ q).length:=zom
  rw[show oH q n=aZ (pP q n) (2^(usQ q).length) from rfl,uAR (by rw[<- ej];exact j2)]
  refine gob ?_ ?_<;>intro h
  all_goals try omega
  exact yD
end Go.PI.Tryz
