/-
  The reference: all forms of a pattern, Forms, Piece.
-/
import Derived.Test.YtcbepncdbgaohaaGreatDoorCF0
set_option linter.all false
set_option maxHeartbeats 0
namespace Go.PI.Tryz
open Go.Proofs Go.PI Go.Proofs.Tryz
def uG8(S:ScpL)(j:Int)(H:PrtH S)(hq:smQ S.q 199)(hl:S.lems=[])(h0:0<=j)(h1:j<S.q.g.units.length):Fn 32 [xY S,.int .i64 j] (.data (.int .i64 (if rG S 1 j then 1 else if rG S 2 j then 2 else 0))):=by
 have cv:=Fu S.q (Fv (k:=0) hq);rw[<- fP hq.va]at cv;have cb:=uBE S j hl;have cp:=uKJ S j 0 0 H rfl rfl;have hu:=H.u;refine yJ zU hT (mkO func32 ntmps32 results32) (by simp[xY]) (sts ?_);refine zT cv rfl ?_
 (refine gob ?_ ?_<;>intro h;rotate_left;refine gob ?_ ?_<;>intro h;rotate_right)
 all_goals try omega
 refine cvd cb ?_;refine zT cp rfl ?_
 (refine gob ?_ ?_<;>intro h;rotate_left;refine gob ?_ ?_<;>intro h;rotate_right)
 .exact zL rfl (by rw[zE xU])
 .exact zL rfl (by rw[zB (by simp[*]),zE xU])
 .exact zL rfl (by rw[zB (by simp[*]),zB (by simp[*])])
def bN(l:List RowL):∀ e∈l.map uH,nr 3 e=true/\e≠.any:=yZ fun _=>⟨rfl,by simp[uH]⟩
def vU3{hb:Hp}{j:Nat}(r:RowL):frz hb (j+2) (uH r)=some (uH r,[]):=rfl
def vWL:FO 161 f161 [.tmp 4] 100:=mkO func161 ntmps161 results161
def uUZ(S:ScpL)(j:Nat)(H:PrtH S)(hl:S.lems=[])(hw:rG S 2 j=!rG S 1 j):Fn 161 [xY S,.int .i64 j] (.fresh ((unS S j).map uH) 4 true):=by
 have cb:=uBE S j hl;have cp:=uKJ S j 0 0 H rfl rfl;have c1:=Fs S 1 j H;have c2:=Fs S 2 j H;rw[hw]at cp c2;unfold unS;cases hd:rG S 1 j with
 | true =>
   rw[hd]at c1 c2 cp;rw[zE rfl];refine dV zU hT vWL (by simp[xY]) (sts ?_);refine cvd cb ?_;refine cvd cp ?_;refine cvd c1 ?_;refine cvd c2 ?_;exact dU rfl rfl rfl rfl rfl
 | false =>
   rw[hd]at c1 c2 cp;rw[zB zdd];refine dV zU hT vWL (by simp[xY]) (sts ?_);refine cvd cb ?_;refine cvd cp ?_;refine cvd c1 ?_;refine cvd c2 ?_;exact dU rfl rfl rfl rfl rfl
def uU3(S:ScpL)(H:PrtH S)(hq:smQ S.q 199)(hl:S.lems=[])(hw:La S)(hp:∀ i,i<S.path.length->S.path[i]!.kind=1\/S.path[i]!.kind=2):Fn 85 [xY S] (.fresh ((kE S).map uH) 4 true):=by
 have cv:=Fu S.q (Fv (k:=0) hq);rw[<- fP hq.va]at cv;obtain⟨n,hn⟩:∃ n:Nat,S.q.g.ins=n:=⟨S.q.g.ins.toNat,by have:=hq.va.1.1;omega⟩;have hn3:=hq.ins;have hu:=H.u;have hpl:=H.p;have hrl:=hq.rows;have hu4:=hq.un
 have lA:∀ i,((List.range i).flatMap loS).length=2*i:=fun i=>by
  induction i with
  |zero=>rfl
  |succ i ih=>rw[kM,CX,xR,ih];simp[loS];omega
 have sA:∀ i,(List.range (i+1)).flatMap loS=(List.range i).flatMap loS++[⟨1,i,0,0⟩,⟨2,i,0,0⟩]:=fun i=>by rw[kM,CX];simp[loS]
 have lU:∀ i,((List.range i).flatMap (unS S)).length=3*i:=fun i=>by
  induction i with
  |zero=>rfl
  |succ i ih=>rw[kM,CX,xR,ih];simp[unS];split<;>simp<;>omega
 have sU:∀ i,(List.range (i+1)).flatMap (unS S)=(List.range i).flatMap (unS S)++unS S i:=fun i=>by rw[kM,CX];simp
 have l1U:∀ i,(unS S i).length=3:=fun i=>by unfold unS;split<;>rfl
 have ea:kE S=(List.range n).flatMap loS++((List.range S.q.r.rows.length).map poS++(List.range S.q.g.units.length).flatMap (unS S)):=by unfold kE;rw[hn];rfl
 have hi:xY S=xY S:=rfl;refine dV zU hT (mkO func85 ntmps85 results85) (by simp[xY]) (sts ?_);refine cvd cv ?_
 refine iB hT [(.sl 3,4,true)] (fun(i:Nat)=>[(1,.ptr 0 0 0),(3,.own 1 0 (2*i)),(18,.int .i64 n),(19,.int .i64 i)]) (fun i=>[(0,⟨[xY S],12,true⟩),(1,⟨((List.range i).flatMap loS).map uH,4,true⟩)]) [] 2
  (fun i=>i<=n) (fun i=>n-i) 0 (z8 _) zdd zsm ⟨rfl,zA⟩ ?_ ?_
 .exact⟨[0,_],[],[],[],ttt,⟨(apy rfl),zI zdd rfl rfl,zG rfl hn,zG rfl rfl,zA⟩,⟨bbx,zH zdd rfl rfl (bN []) rfl,zA⟩,zO⟩
 intro i i1;have l1:=lA i;by_cases hi:i<n
 .have sa:=sA i
  refine gob ?_ ?_<;>intro h
  all_goals try omega
  exact⟨i+1,⟨zom,zbo⟩,[0,_],[],[],[],ttt,⟨(apy rfl),zI zdd rfl (by first|rfl|simp|omega),zG rfl rfl,zG rfl rfl,zA⟩,⟨bbx,zH zdd rfl (by rw[sa,wB];rfl) (bN _) rfl,zA⟩,zO⟩
 have ei:i=n:=zom
 subst ei
 refine gob ?_ ?_<;>intro h
 all_goals try omega
 refine xG hT (fun(j:Nat)=>[(1,.ptr 0 0 0),(3,.own 1 0 (2*i+j)),(34,.int .i64 S.q.r.rows.length),(35,.int .i64 j)]) (fun j=>[(0,⟨[xY S],12,true⟩),(1,⟨((List.range i).flatMap loS++(List.range j).map poS).map uH,4,true⟩)]) [] 2
  (fun j=>j<=S.q.r.rows.length) (fun j=>S.q.r.rows.length-j) 0 (z8 _) zdd zsm ?_ ?_
 .exact⟨[0,1],[],[],[],ttt,⟨apx,zI zdd rfl rfl,zG rfl zsm,zD,zA⟩,⟨bbx,zH zdd rfl zsm (bN _) rfl,zA⟩,zO⟩
 intro j j1;have l2:((List.range i).flatMap loS++(List.range j).map poS).length=2*i+j:=by rw[xR,l1];simp
 by_cases hj:j<S.q.r.rows.length
 .have sb:(List.range i).flatMap loS++(List.range (j+1)).map poS=((List.range i).flatMap loS++(List.range j).map poS)++[poS j]:=by rw[kM,wB,<- tV];rfl
  generalize (List.range i).flatMap loS++(List.range j).map poS=B at *
  refine gob ?_ ?_<;>intro h
  all_goals try omega
  exact⟨j+1,⟨zom,zbo⟩,[0,_],[],[],[],ttt,⟨(apy rfl),zI zdd rfl (by first|rfl|simp|omega),zG rfl rfl,zG rfl rfl,zA⟩,⟨bbx,zH zdd rfl (by rw[sb,wB];rfl) (bN _) rfl,zA⟩,zO⟩
 have ej:j=S.q.r.rows.length:=zom
 rw[<- ej]at ea;rw[ea,<- tV];have hj2:(j:Int)=S.q.r.rows.length:=zom
 generalize (List.range i).flatMap loS++(List.range j).map poS=B at *
 refine gob ?_ ?_<;>intro h
 all_goals try omega
 refine xG hT (fun(m:Nat)=>[(1,.ptr 0 0 0),(3,.own 1 0 (2*i+j)),(46,.int .i64 S.path.length),(47,.int .i64 m)]) (fun m=>[(0,⟨[xY S],12,true⟩),(1,⟨B.map uH,4,true⟩)]) [] 2
  (fun m=>m<=S.path.length) (fun m=>S.path.length-m) 0 (z8 _) zdd zsm ?_ ?_
 .exact⟨[0,1],[],[],[],ttt,⟨apx,zI zdd rfl rfl,zG rfl zsm,zD,zA⟩,⟨bbx,zH zdd rfl rfl (bN _) rfl,zA⟩,zO⟩
 intro m m1;by_cases hm:m<S.path.length
 .have ci:=uU2 S ⟨4,m,0,0⟩ H rfl rfl rfl (by show(0:Int)<=m;omega) (by show(m:Int)<_;omega) (hp m hm)
  rw[Er]at ci
  refine gob ?_ ?_<;>intro h
  all_goals try omega
  refine cvd ci ?_;exact⟨m+1,⟨zom,zbo⟩,[0,1],[],[],[],ttt,⟨apx,zI zdd rfl rfl,zD,zD,zA⟩,⟨bbx,zH zdd rfl rfl (bN _) rfl,zA⟩,zO⟩
 refine gob ?_ ?_<;>intro h
 all_goals try omega
 refine xG hT (fun(m:Nat)=>[(1,.ptr 0 0 0),(3,.own 1 0 (2*i+j+3*m)),(68,.int .i64 S.q.g.units.length),(69,.int .i64 m)]) (fun m=>[(0,⟨[xY S],12,true⟩),(1,⟨(B++(List.range m).flatMap (unS S)).map uH,4,true⟩)]) [] 2
  (fun m=>m<=S.q.g.units.length) (fun m=>S.q.g.units.length-m) 0 (z8 _) zdd zsm ?_ ?_
 .exact⟨[0,1],[],[],[],ttt,⟨apx,zI zdd rfl rfl,zG rfl zsm,zD,zA⟩,⟨bbx,zH zdd rfl zsm (bN _) rfl,zA⟩,zO⟩
 intro q q1;have l3:(B++(List.range q).flatMap (unS S)).length=2*i+j+3*q:=by rw[xR,lU q,l2]
 by_cases hq2:q<S.q.g.units.length
 .have co:=uUZ S q H hl (hw q hq2)
  have sc:B++(List.range (q+1)).flatMap (unS S)=(B++(List.range q).flatMap (unS S))++unS S q:=by rw[sU q,<- tV]
  have l4:=l1U q;generalize B++(List.range q).flatMap (unS S)=D at *
  generalize unS S q=W at *
  refine gob ?_ ?_<;>intro h
  all_goals try omega
  refine BS co rfl (sts ?_)
  all_goals try omega
  exact⟨q+1,⟨zom,zbo⟩,[0,_],[],[],[],ttt,⟨(apy rfl),zI zdd rfl (by simp[l4];omega),zG rfl rfl,zG rfl rfl,zA⟩,⟨bbx,zH zdd rfl (by rw[sc,wB,EJ,kK]) (bN _) rfl,zA⟩,zO⟩
 have eq2:q=S.q.g.units.length:=zom
 rw[<- eq2]
 refine gob ?_ ?_<;>intro h
 all_goals try omega
 exact dU rfl rfl (by rw[z6,l3]) rfl (BM (fun r=>vU3 r) _)
def vU8{k a' n:Nat}{ρ:Nat->Nat}{a:Nat}(h1:a=ρ a')(g1:a'<k){x:Int}{l p q:List PV}{b:Bool}:rn ρ k 3 (.agg [.int .i64 x,.own a' 0 n,.imm l,.bool b,.imm p,.imm q]) (.agg [.int .i64 x,.own a 0 n,.imm l,.bool b,.imm p,.imm q]):=by
 subst h1;exact⟨rfl,⟨g1,rfl⟩,rfl,rfl,rfl,rfl,zA⟩
abbrev uSD(l:List QF):Blk:=⟨l.map zP,4,true⟩
def vU5(l:List QF):∀ e∈l.map zP,nr 3 e=true/\e≠.any:=yZ fun _=>⟨rfl,by simp[zP]⟩
def uP2(g:GraL)(hg:j6 950000000 g)(hv:VaG g):Fn 84 [sD g] (.data (.int .i64 (g.ins+g.units.length))):=by
 have cv:=SC g hg;rw[<- fP hv]at cv;have h1:=hv.1;have h2:=hv.2.1;refine yJ zU hT (mkO func84 ntmps84 results84) (by simp[sD]) (sts ?_);refine cvd cv ?_;exact zL rfl zsm
def uP4(S:ScpL)(f:QF)(H:PrtH S)(hq:smQ S.q 199)(hl:S.lems=[])(hw:La S)(hp:∀ i,i<S.path.length->S.path[i]!.kind=1\/S.path[i]!.kind=2)(hf:okF (S.q.g.ins+S.q.g.units.length) f)(hfk:szF 900000000 f)(hfl:f.ts.length<=1048576)(hA:∀ r∈kE S,LZ S r)(hAl:(kE S).length<=100):Fn 29 [xY S,zP f] (.data (.tup [nM ⟨S.q.g.ins+S.q.g.units.length,(kE S).map (fmS S),f⟩,.imm ((kE S).map uH),.int .i64 0])):=by
 have hr:=Fv (k:=0) hq;have cn:=uP2 S.q.g hr.g hq.va.1;have cv:=Fu S.q hr;rw[<- fP hq.va]at cv;have cl:=DY f.L (S.q.g.ins+S.q.g.units.length) (qP zdd (Eu hfk hfl));rw[validB_true.2 (DF hf),<- C9]at cl;have ca:=uU3 S H hq hl hw hp;have hni:=hq.va.1.1;have hu:=hq.un;have cf:=fun r (h:r∈kE S)=>uP9 S r H hq (hA r h)
 generalize kE S=A at *
 unfold nM;refine yJ zU hT (mkO func29 ntmps29 results29) (by simp[xY,zP]) (sts ?_);refine cvd cn ?_;refine cvd cv ?_;refine cvd cl ?_;refine BS ca rfl (sts ?_);have hFl:(A.map (fmS S)).length=A.length:=by simp
 have gF:∀ i,i<A.length->(A.map (fmS S))[i]! = fmS S A[i]! := fun i hi=>by rw[zS _ i (by simpa using hi),zS A i hi,vS]
 obtain⟨F,hF⟩:∃ F,A.map (fmS S)=F:=⟨_,rfl⟩;rw[hF]at hFl gF ⊢;clear hF
 refine iB hT [(.cl 23 0 1,4,true)] (fun(i:Nat)=>[(2,.ptr 0 0 0),(4,.ptr 1 0 0),(8,.ptr 2 0 0),(9,.own 3 0 A.length),(34,.own 3 0 A.length),(35,.int .i64 A.length),(36,.int .i64 i)])
  (fun i=>[(0,⟨[xY S],12,true⟩),(1,⟨[.agg [.int .i64 0,.nilsl,.nilsl,.bool false,.nilsl,.nilsl]],6,true⟩),(2,⟨[.agg [.int .i64 (S.q.g.ins+S.q.g.units.length),.own 4 0 i,.imm (f.ts.map uY),.bool (cr f.c).neg,zQ (cr f.c).num,zQ (cr f.c).den]],6,true⟩),(3,⟨A.map uH,4,true⟩),(4,uSD (F.take i))]) [] 5
  (fun i=>i<=A.length) (fun i=>A.length-i) 0 (z8 _) zdd zsm ⟨_,_,rfl,rfl,rfl,zA⟩ ?_ ?_
 .exact⟨[0,2,23,26,_],[],[],[],ttt,⟨(apy rfl),(apy rfl),(apy rfl),zI zdd rfl zsm,zI zdd rfl zsm,zG rfl zsm,zG rfl rfl,zA⟩,
   ⟨bbx,bbx,xE zdd rfl (vU8 rfl zdd) rfl rfl,zH zdd rfl rfl (bN _) rfl,zH zdd rfl rfl (vU5 []) rfl,zA⟩,zO⟩
 intro i i1;have lF:(F.take i).length=i:=by rw[wG];omega
 by_cases hi:i<A.length
 .have ci:=cf A[i]! (Bx hi)
  have sF:(F.take i).map zP++[zP F[i]!]=(F.take (i+1)).map zP:=by rw[tO zom,wB,zS F i zom];rfl
  rw[<- gF i hi]at ci
  refine gob ?_ ?_<;>intro h
  all_goals try omega
  refine yB i zom hi (sts ?_);refine cvd ci ?_
  exact⟨i+1,⟨zom,zbo⟩,[0,1,2,3,_],[],[],[],ttt,⟨(apy rfl),(apy rfl),(apy rfl),zI zdd rfl rfl,zI zdd rfl rfl,zG rfl rfl,zG rfl rfl,zA⟩,
   ⟨bbx,bbx,xE zdd rfl (vU8 rfl zdd) rfl rfl,zH zdd rfl rfl (bN _) rfl,zH zdd rfl sF (vU5 _) rfl,zA⟩,zO⟩
 have ei:i=A.length:=zom
 rw[uT zom]
 refine gob ?_ ?_<;>intro h
 all_goals try omega
 subst ei;exact zL (Cz (yL (lJ (yL rfl (yL (xP (f:=zP) (l:=F) rfl rfl hFl.symm fun x=>Ww x) (yL rfl (yL rfl (yL rfl (yL rfl rfl))))))) (yL (xP (f:=uH) (l:=A) rfl rfl rfl fun x=>vU3 x) (yL rfl rfl)))) rfl
def uU5(f:AffL)(x:List RatL)(k kx:Nat)(hf:okA k f)(hk1:1<=k)(hkx:1<=kx)(hx:cT kx x)(hv:uQ f x.length)(hk:k+f.terms.length*(k+kx+1)+k+kx<=949999990):Fn 100 [x8 f,.cptr (.imm (x.map zR)) 0] (.data (.bool (decide (evQ f.Q (x.map qv)<0)))):=by
 have hF:=p8 hv;have hs:=jZ hf hk1;have hl:=hf.2.2;have hvx:∀ p∈f.Q.ts,0<=p.1/\p.1<x.length:=fun p hp=>hF.2 p hp
 have ql:=fR f;have ce:=uHT f.Q x k kx hs hkx hx.2 hvx (by rw[ql];exact hk) zom hx.1;rw[<- Hh hv]at ce
 have hz:=WJ (kx:=kx) (x:=x.map qv) hs (fun q hq=>by
  obtain⟨y,hy,rfl⟩:=zW.1 hq;have:=hx.2 y hy
  exact kT this.1 this.2.1 this.2.2 hkx) (fun p hp=>by simpa using hvx p hp)
 rw[ql]at hz;have hl4:=yO hz;have cs:=r9 (cr (evQ f.Q (x.map qv))) (yH _) zom;rw[yC]at cs;refine fnV (mkO func100 ntmps100 results100) ?_;refine cvd ce ?_;refine cvd cs ?_;exact zL rfl (zV PV.bool (bW.2 sgnQ_neg))
def uHI(r:RegL)(x:List RatL)(k kx:Nat)(hr:aP k r)(hk1:1<=k)(hkx:1<=kx)(hx:cT kx x)(hk:∀ f∈r.rows,k+f.terms.length*(k+kx+1)+k+kx<=949999990)(hk2:k<=949999990)(hk3:kx<=949999990):Fn 33 [kX r,.imm (x.map zR)] (.data (.bool (dB (Hl r x)))):=by
 obtain⟨hlo,hhi,hrw,hrl⟩:=hr;have no:¬ Hl r x->false=dB (Hl r x):=aO;have l1:=hlo.1;have l2:=hhi.1;have l3:=hx.1;have co:=uQO r (PW zom ⟨hlo,hhi,hrw,hrl⟩);refine yJ zU hT (mkO func33 ntmps33 results33) (by simp[kX]) (sts ?_);refine zT co rfl ?_
 (refine gob ?_ ?_<;>intro h;refine gob ?_ ?_<;>intro h)
 .exact zL rfl (zV PV.bool (no fun e=>by have:=e.2.1;omega))
 .have hlen:x.length=r.lo.length:=zom
  have hva:VaO r:=dB_true.1 xU;have hlh:r.hi.length=r.lo.length:=by have:=hva.2.2.1;omega
  refine xG hT (fun(i:Nat)=>[(2,.ptr 0 0 0),(3,.ptr 1 0 0),(18,.imm (x.map zR)),(19,.int .i64 x.length),(20,.int .i64 i)]) (fun _=>[(0,⟨[kX r],3,true⟩),(1,⟨[.imm (x.map zR)],1,false⟩)]) [] 2
   (fun i=>i<=x.length/\∀ j,j<i->qv r.lo[j]! <= qv x[j]! /\ qv x[j]! <= qv r.hi[j]!) (fun i=>x.length-i) 0 ⟨z8 _,fun j h=>zom⟩ zdd zsm ?_ ?_
  .exact⟨[0,1],[],[],[],ttt,⟨apx,apx,zM,zG rfl zsm,zD,zA⟩,⟨bbx,bbx,zA⟩,zO⟩
  intro i ⟨i1,i2⟩;by_cases hi:i<x.length
  .have hi1:i<r.lo.length:=zom
   have hi2:i<r.hi.length:=zom
   have q0:=cV hx hi;have q1:=cV hlo hi1;have q2:=cV hhi hi2;have c1:=DX x[i]! r.lo[i]! q0.1 q1.1 (by have:=q0.2;omega) (by have:=q0.2;omega) (by have:=q1.2;omega) (by have:=q1.2;omega);have c2:=DX x[i]! r.hi[i]! q0.1 q2.1 (by have:=q0.2;omega) (by have:=q0.2;omega) (by have:=q2.2;omega) (by have:=q2.2;omega)
   refine gob ?_ ?_<;>intro h
   .refine zT c1 rfl ?_
    refine gob ?_ ?_<;>intro h
    .exact zL rfl (zV PV.bool (no fun e=>by have:=sgn_ge.2 (e.2.2.1 i hi).1;omega))
    .refine zT c2 rfl ?_
     refine gob ?_ ?_<;>intro h
     .exact zL rfl (zV PV.bool (no fun e=>by have:=sgn_le.2 (e.2.2.1 i hi).2;omega))
     .exact⟨i+1,⟨⟨zom,fun j hj=>CB (p:=fun j=>qv r.lo[j]! <= qv x[j]! /\ qv x[j]! <= qv r.hi[j]!) i2 ⟨sgn_ge.1 zom,sgn_le.1 zom⟩ hj⟩,zbo⟩,[0,1],[],[],[],ttt,⟨apx,apx,zM,zD,zD,zA⟩,⟨bbx,bbx,zA⟩,zO⟩
   all_goals (exfalso;omega)
  .have cc:=RG r.rows (fun f=>decide (evQ f.Q (x.map qv)<0)) 100 (.imm (x.map zR)) hrl (fun f hf=>by
    obtain⟨j,hj,rfl⟩:=uE hf;have hv:=hva.2.2.2.2.2 j hj;rw[zS r.rows j hj,<- hlen]at hv
    exact uU5 _ x k kx (hrw _ (wA hj)) hk1 hkx hx hv (hk _ (wA hj)))
   refine gob ?_ ?_<;>intro h
   all_goals try omega
   refine cvd cc ?_;refine zL rfl (zV PV.bool ?_);rw[mW,dB_true,bV,NP];constructor
   .intro e
    refine⟨hva,hlen,fun j hj=>i2 j zom,fun j hj=>?_⟩;have:=e _ (nT hj);simp only[tC]at this;exact mX.1 this
   .intro e f hf
    obtain⟨j,hj,rfl⟩:=uE hf;have:=e.2.2.2 j hj;rw[zS r.rows j hj]at this;simp only[tC];exact mX.2 this
 .exact zL rfl (zV PV.bool (no fun e=>dB_false.1 h e.1))
def uSJ(a b:RatL)(h:qv b≠0):qv a/qv b=mkRat (sg (a.neg != b.neg) (nv a.num*dn b.den)) (dn a.den*nv b.num):=by
 have hb:nv b.num≠0:=fun e=>h (qv_zero.2 e)
 have e1:(qv b)⁻¹=mkRat (sg b.neg (dn b.den)) (nv b.num):=by
  unfold qv;rw[<- Rat.divInt_ofNat,Rat.inv_divInt];unfold sg;cases b.neg
  .simp
  .rw[zE rfl,zE rfl]
   have:=Rat.neg_divInt_neg (dn b.den:Int) (-(nv b.num:Int));rw[<- this,Int.neg_neg,Rat.divInt_ofNat]
 rw[Rat.div_def,e1,show qv a=mkRat (sg a.neg (nv a.num)) (dn a.den) from rfl,NE,KX]
def Iz(x y:RatL)(hx:okR x)(hy:okR y)(hl1:x.num.length<1000000000)(hl2:x.den.length<1000000000)(hl3:y.num.length<1000000000)(hl4:y.den.length<1000000000)(h0:qv y≠0):Fn 184 [zR x,zR y] (.data (.tup [zR (cr (qv x/qv y)),.int .i64 0])):=by
 have cs:=r9 y hy zom;have cu1:=aW x hx zom;have cu2:=aW y hy zom;have u1:=iD x.den;have u2:=iD y.den;have cm1:=FC x.num (und y.den) hx.1 (oF hy.2) zom zom;have cm2:=FC (und x.den) y.num (oF hx.2) hy.1 zom zom;rw[o5]at cm1 cm2;have k1:=aV hx.1 (oF hy.2);have k2:=aV (oF hx.2) hy.1;rw[o5]at k1 k2;have hb:nv y.num≠0:=fun e=>h0 (qv_zero.2 e)
 have hs:¬ xQ (qv y)=0:=fun e=>h0 (sgnQ_zero.1 e)
 have cq:=IJ (x.neg != y.neg) (zJ (nv x.num*dn y.den)) (zJ (dn x.den*nv y.num)) (yP _) (yP _) (by rw[yR];exact Al (s5 _) hb) zom zom;rw[yR,yR,<- uSJ x y h0]at cq;generalize xQ (qv y)=S at *
 refine yJ zU hT (mkO func184 ntmps184 results184) (by simp[zR]) (sts ?_);refine zT cs rfl ?_
 refine gob ?_ ?_<;>intro h
 all_goals try exact absurd xU hs
 refine cvd cu2 ?_;refine cvd cm1 ?_;refine cvd cu1 ?_;refine cvd cm2 ?_;refine cvd cq ?_;exact yD
def SE(x:RatL)(hx:okR x)(hl:x.num.length<2147483616)(hl2:x.den.length<2147483616):Fn 64 [zR x] (.data (zR (cr (- qv x)))):=by
 have cc:=bD ⟨!x.neg,x.num,x.den⟩ hx (by show x.num.length<_;omega) (by show x.den.length<_;omega);rw[show qv ⟨!x.neg,x.num,x.den⟩=- qv x by unfold qv;rw[NU,Ek]]at cc;refine yJ zU hT (mkO func64 ntmps64 results64) (by simp[zR]) (sts ?_);refine cvd cc ?_;exact yD
def uVH(l:List Int)(hl:Hm l):Fn 22 [.imm (l.map (.int .u8))] (.own none (.ptr 0 0 0) (fdB l 0)):=by
 have l1:=hl.1;refine KG zU hT (mkO func22 ntmps22 results22) zsm (sus ?_);refine wR (sus ?_)
 refine fU [] [(2,.ptr 1 0 0)] [(1,fdB l 0)] [] 2 zdd zsm trivial
  ⟨[_],[4],[],[(6,[.agg [.imm (l.map (.int .u8)),.int .i64 0]])],⟨⟨⟨_,rfl⟩,zA⟩,zA,⟨⟨_,6,_,rfl,yL (lJ (yL (xP (f:=.int .u8) (l:=l) rfl rfl zsm (fun x=>by rfl)) rfl)) rfl,rfl⟩,zA⟩⟩,⟨(apy rfl),zA⟩,⟨bbx,zA⟩,zO⟩ ?_
 refine sts ?_;exact BU (r:=1) rfl rfl rfl rfl (fun e he=>by simp at he;subst he;rfl) (zC ⟨rfl,zsm⟩)
def Dp(l:List Int)(a n:Nat)(hl:Hm l)(ha:a<=l.length)(hn:0<n/\n<1000):Fn 150 [.ptr 0 0 0,.int .i64 n] (.wrt (fdB l a) (.int .i64 (nx1 l a n)) (fdB l (nx2 l a))):=by
 have l1:=hl.1;refine iQ zU hT (mkO func150 ntmps150 results150) zsm ?_;by_cases hi:a<l.length
 .have hx:=hl.2 l[a]! (by rw[zS l a hi];exact wA hi)
  have e1:nx1 l a n=l[a]!.toNat%n:=by unfold nx1;rw[zE hi]
  have e2:nx2 l a=a+1:=by unfold nx2;rw[zE hi]
  refine gob ?_ ?_<;>intro h
  all_goals try omega
  refine yB a zom hi (sts ?_)
  rw[show l[a]!.tmod n=((nx1 l a n:Nat):Int) by
   rw[D8 zom,e1];obtain⟨b,hb⟩:=M0 hx.1;rw[hb]
   rfl,e2]
  exact qZ rfl rfl rfl rfl rfl (fun e he=>by simp at he;subst he;rfl)
 .have e1:nx1 l a n=0:=by unfold nx1;rw[zB hi]
  have e2:nx2 l a=a:=by unfold nx2;rw[zB hi]
  rw[e1,e2]
  refine gob ?_ ?_<;>intro h
  all_goals try omega
  exact qZ rfl rfl rfl rfl rfl (fun e he=>by simp at he;subst he;rfl)
def sH(l:List Int)(a:Nat):nrs (fdB l a):=fun e he=>by simp[fdB]at he;subst he;rfl
def MJ(l:List Int)(a:Nat)(hl:Hm l)(ha:a<=l.length):Fn 151 [.ptr 0 0 0] (.wrt (fdB l a) (zR (cr (qE l a))) (fdB l (kY l a))):=by
 have c1:=Dp l a 9 hl ha zdd;have c2:=Dp l (nx2 l a) 4 hl (mJ ha) zdd;have h1:=cZ (l:=l) (a:=a) (n:=9) zdd;have h2:=cZ (l:=l) (a:=nx2 l a) (n:=4) zdd;have hq:qE l a=mkRat ((nx1 l a 9:Int)-4) (Bh (nx1 l (nx2 l a) 4)):=rfl;have hA:kY l a=nx2 l (nx2 l a):=rfl;rw[hq,hA];generalize nx1 l a 9=k1 at *
 generalize nx1 l (nx2 l a) 4=k2 at *
 have cf:∀ D:Nat,0<D->D<10->Bh k2=D->Fn 159 [.int .i64 ((k1:Int)-4),.int .i64 D] (.data (.tup [zR (cr (mkRat ((k1:Int)-4) (Bh k2))),.int .i64 0])):=fun D h3 h4 e=>by
  have:=X0 ((k1:Int)-4) D zom zom;rw[show((D:Int)).natAbs=Bh k2 by rw[e];rfl]at this;exact this
 refine iQ zU hT (mkO func151 ntmps151 results151) zsm (sts ?_);refine tG (r:=0) c1 rfl rfl rfl rfl (sH _ _) (sts ?_);refine tG (r:=0) c2 rfl rfl rfl rfl (sH _ _) ?_;rcases(show k2=0\/k2=1\/k2=2\/k2=3 by omega) with rfl|rfl|rfl|rfl
 .refine sts ?_
  refine cvd (cf 1 zdd zdd rfl) ?_;exact qZ rfl rfl rfl rfl rfl (sH _ _)
 .refine sts ?_
  refine cvd (cf 1 zdd zdd rfl) ?_;exact qZ rfl rfl rfl rfl rfl (sH _ _)
 .refine sts ?_
  refine cvd (cf 2 zdd zdd rfl) ?_;exact qZ rfl rfl rfl rfl rfl (sH _ _)
 .refine sts ?_
  refine cvd (cf 4 zdd zdd rfl) ?_;exact qZ rfl rfl rfl rfl rfl (sH _ _)
def vJ4(v:Int):zP (yK v)=.agg [.imm [uY (v,1)],.bool false,.imm [],.imm []]:=by unfold zP yK;rw[nL];rfl
def uKN(v:Int):Fn 13 [.int .i64 v] (.data (zP (yK v))):=by
 have c1:=Db 1 zdd;rw[show((1:Int):Rat)=1 by rfl]at c1;rw[vJ4];refine fnV (mkO func13 ntmps13 results13) ?_;refine cvd c1 ?_;exact yD
def vUX(v:Int)(q:Rat)(f:QF)(hf:Srt f.ts):Be f (rB (yK v) q)=yA f (yK v) q:=En hf (Ki v) q
def vFD(v:Int){q:Rat}(hq:sz 1 q):szF 2 (rB (yK v) q)/\(rB (yK v) q).ts.length<=1:=by
 have h0:sz 2 ((0:Rat)*q):=by rw[Rat.zero_mul];exact(cQ 2 zdd).1
 refine⟨⟨h0,fun p hp=>?_⟩,?_⟩
 .simp only[rB,rA,yK,EE,List.flatMap_nil,mV]at hp
  have e:=lT hp;rw[e];show sz 2 ((1:Rat)*q)
  rw[Rat.one_mul];exact xV zdd hq
 .simp only[rB,rA,yK,EE,List.flatMap_nil,mV,nzq]
  split<;>simp
def MK(l:List Int)(a m:Nat)(hl:Hm l)(ha:a<=l.length)(hm:m<=20):Fn 77 [.ptr 0 0 0,.int .i64 m] (.wrt (fdB l a) (zP (wM l a m).1) (fdB l (wM l a m).2)):=by
 have c0:=MJ l a hl ha;refine iQ zU hT (mkO func77 ntmps77 results77) zsm (sts ?_);refine tG (r:=0) c0 rfl rfl rfl rfl (sH _ _) (sts ?_)
 refine xG hT (fun(i:Nat)=>[(0,.ptr 0 0 0),(1,.int .i64 m),(4,.ptr 1 0 0),(5,.ptr 2 0 0),(6,.int .i64 i)]) (fun i=>[(0,fdB l (wM l a i).2),(1,⟨[.agg [.nilsl,.bool false,.nilsl,.nilsl]],4,true⟩),(2,⟨[zP (wM l a i).1],4,true⟩)]) [] 3
  (fun i=>i<=m) (fun i=>m-i) 0 (z8 _) zdd zsm ?_ ?_
 .exact⟨[_,_],[],[],[(5,[zP ⟨[],qE l a⟩])],⟨zA,zA,⟨⟨_,6,_,rfl,rfl,rfl⟩,zA⟩⟩,⟨(apy rfl),zG rfl rfl,(apy rfl),(apy rfl),zG rfl rfl,zA⟩,
   ⟨bbx,bbx,bbx,zA⟩,zO⟩
 intro i i1;obtain⟨g1,g2,g3,g4⟩:=Bl ha i;by_cases hi:i<m
 .have c1:=Dp l (wM l a i).2 3 hl g4 zdd
  have c2:=MJ l (nx2 l (wM l a i).2) hl (mJ g4);have c3:=uKN i;have hq:=Bi l (nx2 l (wM l a i).2);have c4:=FN (yK i) (qE l (nx2 l (wM l a i).2)) 1 1 (Bj i) hq zdd (by show 1<=_;decide);obtain⟨s1,s2⟩:=vFD i hq;have hmul:((rB (yK i) (qE l (nx2 l (wM l a i).2))).ts.length+1)*(2+1)<=(1+1)*(2+1):=vK _ zom;have c5:=RI (wM l a i).1 (rB (yK i) (qE l (nx2 l (wM l a i).2))) (1+3*i) 2 g2 s1 zom zom;rw[vUX i _ _ g1.1]at c5;have hI:wM l a (i+1)=fS l i (wM l a i):=rfl
  refine gob ?_ ?_<;>intro h
  .refine tG (r:=0) c1 rfl rfl rfl rfl (sH _ _) ?_
   refine gob ?_ ?_<;>intro h
   .refine cvd c3 ?_
    refine tG (r:=0) c2 rfl rfl rfl rfl (sH _ _) (sts ?_);refine cvd c4 ?_;refine cvd c5 ?_;have hs:fS l i (wM l a i)=(yA (wM l a i).1 (yK i) (qE l (nx2 l (wM l a i).2)),kY l (nx2 l (wM l a i).2)):=by unfold fS;rw[zE zom]
    rw[hs]at hI
    exact⟨i+1,⟨zom,zbo⟩,[1,2],[],[],[],ttt,⟨apx,zD,apx,apx,zD,zA⟩,
     ⟨vN zdd rfl (by rw[hI]) rfl rfl rfl,bbx,vN zdd rfl (by rw[hI];rfl) rfl rfl rfl,zA⟩,zO⟩
   .have hs:fS l i (wM l a i)=((wM l a i).1,nx2 l (wM l a i).2):=by unfold fS;rw[zB zom]
    rw[hs]at hI
    exact⟨i+1,⟨zom,zbo⟩,[1,2],[],[],[],ttt,⟨apx,zD,apx,apx,zD,zA⟩,
     ⟨vN zdd rfl (by rw[hI]) rfl rfl rfl,bbx,vN zdd rfl (by rw[hI]) rfl rfl rfl,zA⟩,zO⟩
  all_goals (exfalso;omega)
 .obtain rfl:i=m:=zom
  refine gob ?_ ?_<;>intro h
  all_goals try omega
  exact qZ rfl rfl rfl rfl rfl (sH _ _)
def I3(l:List Int):Prop:=l.length<=1048576/\∀ x∈l,0<=x/\x<256
def ML{k a' b' c' n1 n2 n3:Nat}{ρ:Nat->Nat}{a b e:Nat}(h1:a=ρ a')(h2:b=ρ b')(h3:e=ρ c')(g1:a'<k)(g2:b'<k)(g3:c'<k):rn ρ k 3 (.agg [.own a' 0 n1,.own b' 0 n2,.own c' 0 n3]) (.agg [.own a 0 n1,.own b 0 n2,.own e 0 n3]):=by
 subst h1 h2 h3;exact⟨⟨g1,rfl⟩,⟨g2,rfl⟩,⟨g3,rfl⟩,zA⟩
def SF{h:Hp}{n:Nat}(x:QF):frz h (n+1) (zP x)=some (zP x,[]):=by cases n<;>rfl
def uHX(l:List Int)(a m:Nat)(hl:I3 l)(ha:a<=l.length)(hm1:1<=m)(hm:m<=8):Fn 76 [.ptr 0 0 0,.int .i64 m] (.wrt (fdB l a) (kX (rZ l a m)) (fdB l (DI l a m))):=by
 obtain⟨A,hA⟩:∃ A,loI l a m=A:=⟨_,rfl⟩;obtain⟨B,hB⟩:∃ B,hiI l a m=B:=⟨_,rfl⟩;have lA:A.length=m:=by rw[<- hA];simp[loI]
 have lB:B.length=m:=by rw[<- hB];simp[hiI]
 have gA:∀ i,i<m->qE l (bdA l a i)=A[i]! := fun i hi=>by rw[<- hA];unfold loI;rw[uR hi]
 have gB:∀ i,i<m->qE l (bdA l a i)+qv (aQ (qE l (kY l (bdA l a i))))=B[i]! := fun i hi=>by rw[<- hB];unfold hiI;rw[uR hi]
 refine iQ zU hT (mkO func76 ntmps76 results76) zsm (sts ?_)
 refine iB hT [(.cl 2 0 0,3,true),(.cl 2 0 1,3,true),(.cl 2 0 2,4,true)] (fun(i:Nat)=>[(0,.ptr 0 0 0),(1,.int .i64 m),(4,.ptr 1 0 0),(5,.ptr 2 0 0),(6,.int .i64 i)])
  (fun i=>[(0,fdB l (bdA l a i)),(1,⟨[.agg [.nilsl,.nilsl,.nilsl]],3,true⟩),(2,⟨[.agg [.own 3 0 i,.own 4 0 i,.own 5 0 0]],3,true⟩),(3,⟨(A.take i).map yF,3,true⟩),(4,⟨(B.take i).map yF,3,true⟩),(5,⟨[],4,true⟩)]) [] 6
  (fun i=>i<=m) (fun i=>m-i) 0 (z8 _) zdd zsm ⟨_,_,rfl,rfl,rfl,_,_,rfl,rfl,rfl,_,_,rfl,rfl,rfl,zA⟩ ?_ ?_
 .exact⟨[1,2,4,5,6],[],[],[],ttt,⟨apx,zD,apx,apx,zD,zA⟩,
   ⟨bbx,bbx,xE zdd rfl (ML rfl rfl rfl zdd zdd zdd) rfl rfl,zH zdd rfl rfl (yZ fun _=>⟨rfl,by simp[yF,zR]⟩) rfl,zH zdd rfl rfl (yZ fun _=>⟨rfl,by simp[yF,zR]⟩) rfl,zH zdd rfl rfl (fun e he=>by cases he) rfl,zA⟩,zO⟩
 intro i i1;have hA':(A.take i).length=i:=by rw[wG];omega
 have hB':(B.take i).length=i:=by rw[wG];omega
 have hd:=Hr ha i;by_cases hi:i<m
 .have c1:=MJ l (bdA l a i) hl hd
  have c2:=MJ l (kY l (bdA l a i)) hl (Ho hd);have z1:=yO (Bi l (bdA l a i));have z2:=yO (Bi l (kY l (bdA l a i)));have c3:=aY (cr (qE l (bdA l a i))) (aQ (qE l (kY l (bdA l a i)))) (yH _) (WO _) zom zom (by show(cr _).num.length<_;omega) (by show(cr _).den.length<_;omega);rw[yC,gB i hi]at c3;rw[gA i hi]at c1 c3
  refine gob ?_ ?_<;>intro h
  .refine tG (r:=0) c1 rfl rfl rfl rfl (sH _ _) ?_
   refine sts ?_;refine tG (r:=0) c2 rfl rfl rfl rfl (sH _ _) (sts ?_);refine cvd c3 ?_;have sA:=vH7 (ys:=A) (i:=i) zom;have sB:=vH7 (ys:=B) (i:=i) zom
   exact⟨i+1,⟨zom,zbo⟩,[1,2,23,30,5],[],[],[],ttt,⟨apx,zD,apx,apx,zD,zA⟩,
   ⟨bbx,bbx,xE zdd rfl (ML rfl rfl rfl zdd zdd zdd) rfl rfl,zH zdd rfl sA (yZ fun _=>⟨rfl,by simp[yF,zR]⟩) rfl,zH zdd rfl sB (yZ fun _=>⟨rfl,by simp[yF,zR]⟩) rfl,zH zdd rfl rfl (fun e he=>by cases he) rfl,zA⟩,zO⟩
  all_goals (exfalso;omega)
 .obtain rfl:i=m:=zom
  obtain⟨R,hR⟩:∃ R,rwI l (nx2 l (bdA l a i)) i (nx1 l (bdA l a i) 3)=R:=⟨_,rfl⟩;have hrA:DI l a i=rwA l (nx2 l (bdA l a i)) i (nx1 l (bdA l a i) 3):=rfl
  have hreg:kX (rZ l a i)=.agg [.imm (A.map yF),.imm (B.map yF),.imm (R.map zP)]:=by
   unfold kX rZ;rw[hA,hB,hR];simp only[qC];rw[show(x8∘QF.L)=zP from funext fun f=>(C9 f).symm];rfl
  have c0:=Dp l (bdA l a i) 3 hl hd zdd;have hn:=cZ (l:=l) (a:=bdA l a i) (n:=3) zdd;have ha1:=mJ hd;rw[hreg,hrA];have lR:R.length=nx1 l (bdA l a i) 3:=by rw[<- hR];simp[rwI]
  have gR:∀ j,j<nx1 l (bdA l a i) 3->(wM l (rwA l (nx2 l (bdA l a i)) i j) i).1=R[j]! := fun j hj=>by rw[<- hR];unfold rwI;rw[uR hj]
  generalize nx1 l (bdA l a i) 3=n at *
  generalize nx2 l (bdA l a i)=a1 at *
  refine gob ?_ ?_<;>intro h
  all_goals try omega
  refine tG (r:=0) c0 rfl rfl rfl rfl (sH _ _) (sts ?_)
  refine xG hT (fun(j:Nat)=>[(0,.ptr 0 0 0),(1,.int .i64 i),(4,.ptr 1 0 0),(5,.ptr 2 0 0),(9,.int .i64 ((n-j:Nat):Int))])
   (fun j=>[(0,fdB l (rwA l a1 i j)),(1,⟨[.agg [.nilsl,.nilsl,.nilsl]],3,true⟩),(2,⟨[.agg [.own 3 0 i,.own 4 0 i,.own 5 0 j]],3,true⟩),(3,⟨A.map yF,3,true⟩),(4,⟨B.map yF,3,true⟩),(5,⟨(R.take j).map zP,4,true⟩)]) [] 6
   (fun j=>j<=n) (fun j=>n-j) 0 (z8 _) zdd zsm ?_ ?_
  .exact⟨[1,2,3,4,5],[],[],[],ttt,⟨apx,zD,apx,apx,zD,zA⟩,
    ⟨bbx,bbx,xE zdd rfl (ML rfl rfl rfl zdd zdd zdd) rfl rfl,zH zdd rfl (by rw[uT zom]) (yZ fun _=>⟨rfl,by simp[yF,zR]⟩) rfl,zH zdd rfl (by rw[uT zom]) (yZ fun _=>⟨rfl,by simp[yF,zR]⟩) rfl,zH zdd rfl rfl (fun e he=>by cases he) rfl,zA⟩,zO⟩
  intro j j1;have hR':(R.take j).length=j:=by rw[wG];omega
  by_cases hj:j<n
  .have cf:=MK l (rwA l a1 i j) i hl (DG ha1 j) zom
   rw[gR j hj]at cf
   have sR:(R.take j).map zP++[zP R[j]!]=(R.take (j+1)).map zP:=by
    rw[tO zom,wB,zS R j zom];rfl
   refine gob ?_ ?_<;>intro h
   .refine tG (r:=0) cf rfl rfl rfl rfl (sH _ _) ?_
    refine sts ?_
    exact⟨j+1,⟨zom,zbo⟩,[1,2,3,4,14],[],[],[],ttt,⟨apx,zD,apx,apx,zG rfl zom,zA⟩,
     ⟨bbx,bbx,xE zdd rfl (ML rfl rfl rfl zdd zdd zdd) rfl rfl,zH zdd rfl rfl (yZ fun _=>⟨rfl,by simp[yF,zR]⟩) rfl,zH zdd rfl rfl (yZ fun _=>⟨rfl,by simp[yF,zR]⟩) rfl,zH zdd rfl sR (yZ fun _=>⟨rfl,by simp[zP]⟩) rfl,zA⟩,zO⟩
   all_goals (exfalso;omega)
  .obtain rfl:j=n:=zom
   rw[uT zom];refine sus ?_;refine wR ?_
   (repeat' (first|refine stu ?_|with_reducible(refine brr ?_ ?_<;>intro h)));all_goals try(conv=>whnf)
   .exfalso;omega
   refine wR (sus ?_)
   refine fU [] [(4,.ptr 1 0 0)] [(0,fdB l (rwA l a1 i j)),(1,⟨[.agg [.imm (A.map yF),.imm (B.map yF),.imm (R.map zP)]],3,true⟩)] [] 2 zdd zsm trivial
    ⟨[1],[3,4,5],[],[(1,[.agg [.imm (A.map yF),.imm (B.map yF),.imm (R.map zP)]])],⟨⟨⟨_,rfl⟩,⟨_,rfl⟩,⟨_,rfl⟩,zA⟩,zA,⟨⟨_,6,_,rfl,yL (lJ (yL (xP (f:=yF) (l:=A) rfl rfl lA.symm fun q=>KI (cr q)) (yL (xP (f:=yF) (l:=B) rfl rfl lB.symm fun q=>KI (cr q)) (yL (xP (f:=zP) (l:=R) rfl rfl lR.symm SF) rfl)))) rfl,rfl⟩,zA⟩⟩,
      ⟨apx,zA⟩,⟨bbx,bbx,zA⟩,zO⟩ ?_
   refine sts ?_;exact qZ rfl rfl rfl rfl rfl (sH _ _)
abbrev nU(vars:List QF):Blk:=⟨vars.map zP,4,true⟩
def vY(x:List QF):∀ e∈x.map zP,nr 3 e=true/\e≠.any:=yZ fun x=>⟨rfl,by simp[zP]⟩
def vU6(x:List QF):∀ e∈x.map zP,nr 3 e=true:=fun e he=>(vY x e he).1
abbrev ints(p:List Int):PV:=.imm (p.map (.int .i64))
def Dec(a:Int):Prop:=a=1\/a=2
def MM(g:GraL)(p:List Int):Prop:=VaG g/\p.length=g.units.length/\∀ i,i<p.length->Dec p[i]!
def vWC(κ:Nat->Nat){v n:Nat}(h:v<n):κ v<=qQ κ 0 n:=by
 have:=Hy κ [((v:Int),(0:Rat))] 0 n (JM _ _) (fun t ht=>by simp at ht;subst ht;simp only;omega)
 simpa using this
def uB5{n:Nat}{κ:Nat->Nat}{vars:List QF}{f:QF}{k:Nat}(hv:DK n κ vars)(hf:szF k f)(ho:okF vars.length f)(i:Nat)(hi:i<=f.ts.length) :
 okF n (mL f vars i)/\szF (k+qQ (fun v=>κ v+k+1) 0 vars.length) (mL f vars i)/\(mL f vars i).ts.length<=n:=by
 obtain⟨h1,h2,h3⟩:=Pf hv hf ho i hi;refine⟨h1,rX ?_ h2,h3⟩;have:=Hy (fun v=>κ v+k+1) (f.ts.take i) 0 vars.length (ho.1.1.sublist (NM _ _)) fun t ht=>by have:=ho.2 t (pK ht);omega
 omega
def I4{g:PV->Option (PV×List Nat)}{α:Type}{f:α->PV}(hf:∀ x,g (f x)=some (f x,[])):∀ l:List α,zZ g (l.map f)=some (l.map f,[])
 |[]=>rfl
 |a::l=>by rw[uW];exact yL (hf a) (I4 hf l)
def I5{g:PV->Option (PV×List Nat)}{c d:PV}{ks:List Nat}(h1:g c=some (d,ks)):∀ {l ds:List PV},zZ g l=some (ds,[])->zZ g (l++[c])=some (ds++[d],ks)
 | [],ds,h=>by
   have:ds=[]:=by simp[zZ]at h;exact h
   subst this;have:=yL (f:=g) (cs:=[]) (ds:=[]) (ls:=[]) h1 rfl
   simpa using this
 | a::l,ds,h=>by
   simp only[zZ]at h
   split at h
   .rename_i d1 k1 ds1 k2 e1 e2
    simp only[NK,NV,M5]at h;obtain⟨rfl,rfl,rfl⟩:=h;exact yL e1 (I5 h1 e2)
   .cases h
def Dq{h:Hp}{n:Nat}(f:QF):frz h (n+1) (zP f)=some (zP f,[]):=by cases n<;>rfl
def uGF(i:Nat):zP ⟨[((i:Int),1)],0⟩=.agg [.imm [uY ((i:Int),1)],.bool false,.imm [],.imm []]:=by unfold zP;rw[nL];rfl
def vTS{n i:Nat}(h:i<n):(lY n)[i]! = ⟨[((i:Int),1)],0⟩:=by unfold lY;rw[uR h]
def SG{l:List QF}{j:Nat}{q:QF}(h:j<l.length)(e:l[j]! = q):(l.take j).map zP++[zP q]=(l.take (j+1)).map zP:=by
 rw[tO h,wB,<- zS l j h,e];rfl
def uDJ(us:List QF)(n:Nat)(ph:List Int):(p9 us n ph).length=us.length:=by simp[p9]
def uDK{us:List QF}{n:Nat}{ph:List Int}{j:Nat}(h:j<us.length):(p9 us n ph)[j]! = vQ us[j]! (xA us n ph j):=by unfold p9;rw[uR h]
variable {p:List Int}{i:Nat}
def SH{j k:Nat}(h:j<=k){g:GraL}(hg:j6 j g):j6 k g:=⟨⟨hg.1.1,fun f hf=>qP h (hg.1.2 f hf)⟩,⟨hg.2.1,fun f hf=>qP h (hg.2.2 f hf)⟩⟩
def jL(g:GraL)(n:Nat)(p:List Int):List QF:=g.outs.map fun f=>vQ f.Q (xA g.us n p g.us.length)
def uDV{g:GraL}{n:Nat}  {j:Nat}(h:j<g.outs.length):(jL g n p)[j]! = vQ g.outs[j]!.Q (xA g.us n p g.us.length):=by
 unfold jL;rw[zS _ j (by simpa using h),zS g.outs j h];simp
def oM(us:List QF)(n:Nat)(p:List Int)(i:Nat):List QF:=(List.range us.length).map fun j=>if j<i then nN us n p j else vQ us[j]! (xA us n p j)
def vO2(us:List QF)(n:Nat)(p:List Int)(i:Nat):(oM us n p i).length=us.length:=by simp[oM]
def vV2(us:List QF)(n:Nat)(p:List Int):p9 us n p=oM us n p 0:=by unfold oM p9;simp
def uDP{us:List QF}{n:Nat}   (h:i<us.length):(oM us n p i)[i]! = vQ us[i]! (xA us n p i):=by unfold oM;rw[uR h,zB (dH _)]
def uDO{us:List QF}{n:Nat}   (h:i<us.length):(oM us n p i).set i (nN us n p i)=oM us n p (i+1):=by
 refine vE (by simp[oM]) fun j h1 h2=>?_
 have h3:j<us.length:=by simpa [oM]using h2
 by_cases e:j=i
 .subst e;simp[oM]
 .simp only[oM,CW (show i≠j by omega),vS,oQ]
  by_cases e2:j<i
  .rw[zE e2,zE zom]
  .rw[zB e2,zB zom]
def vV3{us:List QF}{n:Nat}   (h:i<us.length)(hr:p[i]! ≠ 2):oM us n p i=oM us n p (i+1):=by
 refine vE (by simp[oM]) fun j h1 h2=>?_
 simp only[oM,vS,oQ];by_cases e:j=i
 .subst e
  rw[zB (dH _),zE zom];unfold nN;rw[zB hr]
 .by_cases e2:j<i
  .rw[zE e2,zE zom]
  .rw[zB e2,zB zom]
def MN(us:List QF)(n:Nat)(p:List Int):List QF:=oM us n p us.length
def vNH(g:GraL)(hg:j6 950000000 g):Fn 152 [sD g] (.data (.bool (dB (VaG g)))):=by
 obtain⟨hu,ho⟩:=hg;have no:¬ VaG g->false=dB (VaG g):=aO;have l1:=hu.1;have l2:=ho.1;have cc:=vKG g.outs (g.ins+g.units.length) ⟨ho.1,fun f hf=>qP zdd (ho.2 f hf)⟩;refine yJ zU hT (mkO func152 ntmps152 results152) (by simp[sD]) ?_
 (refine gob ?_ ?_<;>intro h;rotate_left;refine gob ?_ ?_<;>intro h;rotate_left;refine gob ?_ ?_<;>intro h;rotate_left;refine gob ?_ ?_<;>intro h;rotate_left;refine gob ?_ ?_<;>intro h;rotate_right;rotate_right;rotate_right;rotate_right)
 .exact zL rfl (zV PV.bool (no fun e=>by have:=e.1.1;omega))
 .exact zL rfl (zV PV.bool (no fun e=>by have:=e.1.2;omega))
 .exact zL rfl (zV PV.bool (no fun e=>by have:=e.2.1;omega))
 .exact zL rfl (zV PV.bool (no fun e=>by have:=e.2.2.1.1;omega))
 .exact zL rfl (zV PV.bool (no fun e=>by have:=e.2.2.1.2;omega))
 .have h0:(1<=g.ins/\g.ins<=256)/\g.units.length<=1024/\(1<=g.outs.length/\g.outs.length<=256):=⟨⟨zom,zom⟩,zom,zom,zom⟩
  obtain⟨h1,h2,h3⟩:=h0
  refine xG hT (fun(i:Nat)=>[(1,.ptr 0 0 0),(3,.int .i64 i)]) (fun _=>[(0,⟨[sD g],3,true⟩)]) [] 1
   (fun i=>i<=g.units.length/\∀ j,j<i->uQ g.units[j]! (g.ins+j)) (fun i=>g.units.length-i) 0 ⟨z8 _,fun j h=>zom⟩ zdd zsm ?_ ?_
  .exact⟨[0],[],[],[],ttt,⟨apx,zD,zA⟩,⟨bbx,zA⟩,zO⟩
  intro i ⟨i1,i2⟩;by_cases hi:i<g.units.length
  .have c1:=X4 g.units[i]! (g.ins+i) (qP zdd (hu.2 _ (nT hi)))
   refine gob ?_ ?_<;>intro h
   .refine zT c1 rfl ?_
    refine gob ?_ ?_<;>intro h
    .exact⟨i+1,⟨⟨zom,fun j hj=>CB (p:=fun(j:Nat)=>uQ g.units[j]! (g.ins+j)) i2 (validB_true.1 xU) hj⟩,zbo⟩,[0],[],[],[],ttt,⟨apx,zD,zA⟩,⟨bbx,zA⟩,zO⟩
    .exact zL rfl (zV PV.bool (no fun e=>by have:=validB_true.2 (e.2.2.2.1 i hi);simp_all))
   all_goals (exfalso;omega)
  ·refine gob ?_ ?_<;>intro h
   all_goals try omega
   rw[z6];refine cvd cc ?_;refine zL rfl (zV PV.bool ?_);rw[mW,dB_true,dB_true];exact⟨fun e=>⟨h1,h2,h3,fun j hj=>i2 j zom,e⟩,fun e=>e.2.2.2.2⟩
def MO{k a' b' n1 n2:Nat}{i j:Int}{ρ:Nat->Nat}{a b:Nat}(h1:a=ρ a')(h2:b=ρ b')(g1:a'<k)(g2:b'<k)(e:j=i:=by rfl):rn ρ k 3 (.agg [.int .i64 i,.own a' 0 n1,.own b' 0 n2]) (.agg [.int .i64 j,.own a 0 n1,.own b 0 n2]):=by
 subst h1 h2 e;exact⟨rfl,⟨g1,rfl⟩,⟨g2,rfl⟩,zA⟩
def uCE{R:List QF}{j:Nat}(hj:j<R.length):(R.take j).map zP++[zP R[j]!]=(R.take (j+1)).map zP:=by
 rw[tO hj,wB,zS R j hj];rfl
def Dr(R:List QF):∀ e∈R.map zP,nr 3 e=true/\e≠.any:=yZ fun _=>⟨rfl,by simp[zP]⟩
def uHY(l:List Int)(a:Nat)(hl:I3 l)(ha:a<=l.length):Fn 75 [.ptr 0 0 0] (.wrt (fdB l a) (sD (gfG l a)) (fdB l (gfE l a))):=by
 obtain⟨U,hU⟩:∃ U,guI l (gfS l a) (gfN l a) (gfU l a)=U:=⟨_,rfl⟩;obtain⟨O,hO⟩:∃ O,rwI l (gfM l a) (gfN l a+gfU l a) (gfO l a)=O:=⟨_,rfl⟩;have lU:U.length=gfU l a:=by rw[<- hU,Po]
 have lO:O.length=gfO l a:=by rw[<- hO];simp[rwI]
 have gU:∀ j,j<gfU l a->(wM l (guA l (gfS l a) (gfN l a) j) (gfN l a+j)).1=U[j]! := fun j hj=>by rw[<- hU,We hj]
 have gO:∀ j,j<gfO l a->(wM l (rwA l (gfM l a) (gfN l a+gfU l a) j) (gfN l a+gfU l a)).1=O[j]! := fun j hj=>by rw[<- hO];unfold rwI;rw[uR hj]
 have hg:sD (gfG l a)=.agg [.int .i64 (gfN l a:Nat),.imm (U.map zP),.imm (O.map zP)]:=by
  unfold sD gfG;rw[hU,hO];simp only[qC];rw[show(x8∘QF.L)=zP from funext fun f=>(C9 f).symm]
 have hE:gfE l a=rwA l (gfM l a) (gfN l a+gfU l a) (gfO l a):=rfl;have hM:gfM l a=guA l (gfS l a) (gfN l a) (gfU l a):=rfl;have hMl:=Kr ha;have hSl:=Kq ha;rw[hg,hE];have c1:=Dp l a 3 hl ha zdd;have c2:=Dp l (nx2 l a) 5 hl (mJ ha) zdd;have c3:=Dp l (nx2 l (nx2 l a)) 3 hl (mJ (mJ ha)) zdd;rw[show nx2 l (nx2 l (nx2 l a))=gfS l a from rfl]at c3;rw[show nx1 l (nx2 l a) 5=gfU l a from rfl]at c2;have e1:1+((nx1 l a 3:Nat):Int)=((gfN l a:Nat):Int):=by unfold gfN;omega
 have e3:1+((nx1 l (nx2 l (nx2 l a)) 3:Nat):Int)=((gfO l a:Nat):Int):=by unfold gfO;omega
 obtain⟨g1,g2,g3,g4,g5⟩:=H7 l a;have b1:=cZ (l:=l) (a:=a) (n:=3) zdd;have b3:=cZ (l:=l) (a:=nx2 l (nx2 l a)) (n:=3) zdd;generalize nx1 l a 3=n0 at *
 generalize nx1 l (nx2 l (nx2 l a)) 3=o0 at *
 generalize gfM l a=M at *
 generalize gfS l a=S at *
 generalize gfN l a=n at *
 generalize gfU l a=u at *
 generalize gfO l a=o at *
 refine iQ zU hT (mkO func75 ntmps75 results75) zsm (sts ?_);refine tG (r:=0) c1 rfl rfl rfl rfl (sH _ _) (sts ?_);refine tG (r:=0) c2 rfl rfl rfl rfl (sH _ _) (sts ?_);refine tG (r:=0) c3 rfl rfl rfl rfl (sH _ _) (sts ?_)
 refine iB hT [(.cl 6 0 1,4,true),(.cl 6 0 2,4,true)] (fun(j:Nat)=>[(0,.ptr 0 0 0),(2,.ptr 1 0 0),(3,.ptr 2 0 0),(4,.int .i64 u),(5,.int .i64 o),(6,.int .i64 j)])
  (fun j=>[(0,fdB l (guA l S n j)),(1,⟨[.agg [.int .i64 0,.nilsl,.nilsl]],3,true⟩),(2,⟨[.agg [.int .i64 n,.own 3 0 j,.own 4 0 0]],3,true⟩),(3,⟨(U.take j).map zP,4,true⟩),(4,⟨[],4,true⟩)]) [] 5
  (fun j=>j<=u) (fun j=>u-j) 0 (z8 _) zdd zsm ⟨_,_,rfl,rfl,rfl,_,_,rfl,rfl,rfl,zA⟩ ?_ ?_
 .exact⟨[1,6,_,_],[],[],[],ttt,⟨(apy rfl),(apy rfl),(apy rfl),zG rfl rfl,zG rfl e3,zG rfl rfl,zA⟩,
   ⟨bbx,bbx,xE zdd rfl (MO rfl rfl zdd zdd e1) rfl rfl,zH zdd rfl rfl (Dr []) rfl,zH zdd rfl rfl (Dr []) rfl,zA⟩,zO⟩
 intro j j1;have hU':(U.take j).length=j:=by rw[wG];omega
 by_cases hj:j<u
 .have cf:=MK l (guA l S n j) (n+j) hl (H5 hSl j) zom
  rw[gU j hj]at cf;rw[show(((n+j:Nat):Nat):Int)=(n:Int)+(j:Int) by omega]at cf;have sU:=uCE (R:=U) (j:=j) zom;have eA:guA l S n (j+1)=(wM l (guA l S n j) (n+j)).2:=rfl
  refine gob ?_ ?_<;>intro h
  all_goals try omega
  refine tG (r:=0) cf rfl rfl rfl rfl (sH _ _) (sts ?_)
  exact⟨j+1,⟨zom,zbo⟩,[1,2,17,4],[],[],[],ttt,⟨apx,apx,apx,zD,zD,zD,zA⟩,
   ⟨bbx,bbx,xE zdd rfl (MO rfl rfl zdd zdd) rfl rfl,zH zdd rfl sU (Dr _) rfl,zH zdd rfl rfl (fun e he=>by cases he) rfl,zA⟩,zO⟩
 have ej:j=u:=zom
 rw[uT zom];rw[ej]at *
 rw[<- hM]
 refine gob ?_ ?_<;>intro h
 all_goals try omega
 refine xG hT (fun(j:Nat)=>[(0,.ptr 0 0 0),(2,.ptr 1 0 0),(3,.ptr 2 0 0),(4,.int .i64 u),(5,.int .i64 o),(7,.int .i64 j)])
  (fun j=>[(0,fdB l (rwA l M (n+u) j)),(1,⟨[.agg [.int .i64 0,.nilsl,.nilsl]],3,true⟩),(2,⟨[.agg [.int .i64 n,.own 3 0 u,.own 4 0 j]],3,true⟩),(3,⟨U.map zP,4,true⟩),(4,⟨(O.take j).map zP,4,true⟩)]) [] 5
  (fun j=>j<=o) (fun j=>o-j) 0 (z8 _) zdd zsm ?_ ?_
 .exact⟨[1,2,3,4],[],[],[],ttt,⟨apx,apx,apx,zD,zD,zD,zA⟩,
   ⟨bbx,bbx,xE zdd rfl (MO rfl rfl zdd zdd) rfl rfl,zH zdd rfl rfl (Dr _) rfl,zH zdd rfl rfl (Dr _) rfl,zA⟩,zO⟩
 intro j j1;have hO':(O.take j).length=j:=by rw[wG];omega
 by_cases hj:j<o
 .have cf:=MK l (rwA l M (n+u) j) (n+u) hl (DG hMl j) zom
  rw[gO j hj]at cf;rw[show(((n+u:Nat):Nat):Int)=(n:Int)+(u:Int) by omega]at cf;have sO:=uCE (R:=O) (j:=j) zom
  refine gob ?_ ?_<;>intro h
  all_goals try omega
  refine tG (r:=0) cf rfl rfl rfl rfl (sH _ _) (sts ?_)
  exact⟨j+1,⟨zom,zbo⟩,[1,2,3,17],[],[],[],ttt,⟨apx,apx,apx,zD,zD,zD,zA⟩,
   ⟨bbx,bbx,xE zdd rfl (MO rfl rfl zdd zdd) rfl rfl,zH zdd rfl rfl (Dr _) rfl,zH zdd rfl sO (Dr _) rfl,zA⟩,zO⟩
 have ej2:j=o:=zom
 subst ej2;rw[uT zom];refine sus ?_;refine wR ?_
 (repeat' (first|refine stu ?_|with_reducible(refine brr ?_ ?_<;>intro h)));all_goals try(conv=>whnf)
 all_goals try omega
 refine fU [] [(2,.ptr 1 0 0),(3,.ptr 2 0 0)] [(0,fdB l (rwA l M (n+u) j)),(1,⟨[.agg [.int .i64 0,.nilsl,.nilsl]],3,true⟩),(2,⟨[.agg [.int .i64 n,.imm (U.map zP),.imm (O.map zP)]],3,true⟩)] [] 3 zdd zsm trivial
  ⟨[1,2],[3,4],[],[(2,[.agg [.int .i64 n,.imm (U.map zP),.imm (O.map zP)]])],⟨⟨⟨_,rfl⟩,⟨_,rfl⟩,zA⟩,zA,⟨⟨_,6,_,rfl,yL (lJ (yL rfl (yL (xP (f:=zP) (l:=U) rfl rfl lU.symm SF) (yL (xP (f:=zP) (l:=O) rfl rfl lO.symm SF) rfl)))) rfl,rfl⟩,zA⟩⟩,
    ⟨apx,apx,zA⟩,⟨bbx,bbx,bbx,zA⟩,zO⟩ ?_
 refine sts ?_;exact qZ rfl rfl rfl rfl rfl (sH _ _)
def uHV(l:List Int)(hl:I3 l):Fn 21 [.ptr 0 0 0] (.wrt (fdB l 0) (kZ (Ez l)) (fdB l (wM l (DI l (gfE l 0) (gfN l 0)) (gfN l 0+gfU l 0)).2)):=by
 have c1:=uHY l 0 hl (z8 _);obtain⟨g1,g2,g3,g4,g5⟩:=H7 l 0;have c2:=uHX l (gfE l 0) (gfN l 0) hl (H6 (z8 _)) zom zom;have c3:=MK l (DI l (gfE l 0) (gfN l 0)) (gfN l 0+gfU l 0) hl (Wl (H6 (z8 _))) zom;rw[show(((gfN l 0+gfU l 0:Nat):Nat):Int)=(gfN l 0:Int)+(gfU l 0:Int) by omega]at c3;have hU:(gfG l 0).units.length=gfU l 0:=(Wh (z8 _)).2.2;have eI:(gfG l 0).ins=(gfN l 0:Int):=rfl;have eq:kZ (Ez l)=kZ ⟨gfG l 0,rZ l (gfE l 0) (gfN l 0),(wM l (DI l (gfE l 0) (gfN l 0)) (gfN l 0+gfU l 0)).1.L⟩:=rfl;rw[C9]at c3;rw[eq];refine iQ zU hT (mkO func21 ntmps21 results21) zsm (sts ?_);refine tG (r:=0) c1 rfl rfl rfl rfl (sH _ _) (sts ?_);rw[eI];refine tG (r:=0) c2 rfl rfl rfl rfl (sH _ _) (sts ?_)
 all_goals try omega
 rw[show((List.map x8 (gfG l 0).units).length:Int)=(gfU l 0:Int) by rw[z6,hU]];refine tG (r:=0) c3 rfl rfl rfl rfl (sH _ _) (sts ?_);exact qZ rfl rfl rfl rfl rfl (sH _ _)
def vS1(l:List Int)(hl:I3 l):Fn 5 [.imm (l.map (.int .u8))] (.data (kZ (Ez l))):=by
 have c1:=uVH l hl;have c2:=uHV l hl;refine fnV (mkO func5 ntmps5 results5) ?_;refine lI c1 rfl (sts ?_);refine tG (r:=2) c2 rfl rfl rfl rfl (sH _ _) (sts ?_);exact yD
def vNI(p:List Int)(hp:p.length<=1048576):Fn 153 [ints p] (.data (.bool (dB (∀ i,i<p.length->Dec p[i]!)))):=by
 refine fnV (mkO func153 ntmps153 results153) ?_;refine rU hT (fun n:Nat=>[(0,ints p),(3,.int .i64 n)]) (fun n=>n<=p.length/\∀ j,j<n->Dec p[j]!) (fun n=>p.length-n) 0 ⟨zom,fun j hj=>by omega⟩ ?_ ?_
 .exact⟨zM,zD,zA⟩
 intro i ⟨i1,i2⟩;by_cases hi:i<p.length
 ·(refine gob ?_ ?_<;>intro h;refine gob ?_ ?_<;>intro h;refine gob ?_ ?_<;>intro h)
  all_goals try omega
  all_goals first
   |(refine zL rfl (zV PV.bool (aO fun e=>?_));rcases e i hi with e|e<;>(exact absurd e xU))
   |exact⟨i+1,⟨⟨zom,fun j hj=>CB (p:=fun j=>Dec p[j]!) i2 (by unfold Dec;omega) hj⟩,zbo⟩,zM,zD,zA⟩
   |skip
 ·(refine gob ?_ ?_<;>intro h;refine gob ?_ ?_<;>intro h;refine gob ?_ ?_<;>intro h)
  all_goals try omega
  exact zL rfl (zV PV.bool (fP fun j hj=>i2 j zom))
def zP5(F:QF)(vars:List QF)(n k:Nat)(κ:Nat->Nat)(hv:DK n κ vars)(hn:n<=1000)(hf:szF k F)(ho:okF vars.length F)(hfl:F.ts.length<=1048576)(hS:k+qQ (fun v=>κ v+k+1) 0 vars.length<=100000)(hl:vars.length<=1048576):Fn 27 [zP F,.own 0 0 vars.length] (.wrt (nU vars) (zP (vQ F vars)) (nU vars)):=by
 refine iQ zU hT (mkO func27 ntmps27 results27) (by simp[zP]) (sts ?_)
 refine xG hT (fun(i:Nat)=>[(1,.own 0 0 vars.length),(2,.ptr 1 0 0),(4,.ptr 2 0 0),(5,.ptr 3 0 0),(6,.int .i64 i)])
  (fun i=>[(0,nU vars),(1,⟨[zP F],4,true⟩),(2,⟨[.agg [.nilsl,.bool false,.nilsl,.nilsl]],4,true⟩),(3,⟨[zP (mL F vars i)],4,true⟩)]) [] 4
  (fun i=>i<=F.ts.length) (fun i=>F.ts.length-i) 0 (z8 _) zdd zsm ?_ ?_
 .exact⟨[_,_,_],[],[],[(6,[zP ⟨[],F.c⟩])],⟨zA,zA,⟨⟨_,6,_,rfl,rfl,rfl⟩,zA⟩⟩,⟨zI zdd rfl rfl,(apy rfl),(apy rfl),(apy rfl),zG rfl rfl,zA⟩,
   ⟨zH zdd rfl rfl (vY vars) rfl,bbx,bbx,bbx,zA⟩,zO⟩
 intro i i1;obtain⟨a1,a2,a3⟩:=uB5 hv hf ho i zom;by_cases hi:i<F.ts.length
 .have hmem:F.ts[i]! ∈ F.ts:=nT hi
  have hvi:=ho.2 _ hmem;have hvi2:0<=(tQ F.ts[i]!).var/\(tQ F.ts[i]!).var<vars.length:=hvi;have hj:F.ts[i]!.1.toNat<vars.length:=zom
  obtain⟨v1,v2,v3⟩:=hv _ hj;have hk1:κ F.ts[i]!.1.toNat+k+1<=qQ (fun v=>κ v+k+1) 0 vars.length:=vWC (fun v=>κ v+k+1) hj;have cs:=FN vars[F.ts[i]!.1.toNat]! F.ts[i]!.2 (κ F.ts[i]!.1.toNat) k v2 (hf.2 _ hmem) zom zom;have sm:=RJ v2 (hf.2 _ hmem);have sl:(rB vars[F.ts[i]!.1.toNat]! F.ts[i]!.2).ts.length<=n:=wS Lg v3;have hmul:((rB vars[F.ts[i]!.1.toNat]! F.ts[i]!.2).ts.length+1)*(κ F.ts[i]!.1.toNat+k+1)<=1001*100000:=gW zom zom;have ca:=RI (mL F vars i) (rB vars[F.ts[i]!.1.toNat]! F.ts[i]!.2) _ _ a2 sm zom zom;rw[En a1.1 v1.1,<- Pd hi]at ca
  refine gob ?_ ?_<;>intro h
  all_goals try omega
  refine yB F.ts[i]!.1.toNat (z7 _) hj (sts ?_);refine cvd cs ?_;refine cvd ca ?_
  exact⟨i+1,⟨zom,zbo⟩,[1,2,3],[],[],[],ttt,⟨zI zdd rfl rfl,apx,apx,apx,zD,zA⟩,
   ⟨zH zdd rfl rfl (vY vars) rfl,bbx,bbx,bbx,zA⟩,zO⟩
 .have e:i=F.ts.length:=zom
  refine gob ?_ ?_<;>intro h
  all_goals try omega
  subst e;rw[Pe];exact qZ rfl rfl rfl rfl rfl (vU6 vars)
def szR(g:GraL)(p:List Int)(n k:Nat)(κ:Nat->Nat):Prop:=∀ j,j<=g.units.length->DK n κ (xA g.us n p j)/\k+qQ (fun v=>κ v+k+1) 0 (n+j)<=100000
def vQ1(g:GraL)(p:List Int)(n k:Nat)(κ:Nat->Nat)(hg:j6 k g)(hk:k<=950000000)(hk1:1<=k)(hc:MM g p)(hpl:p.length<=1048576)(hin:g.ins=(n:Int))(hs:szR g p n k κ):Fn 78 [sD g,ints p] (.own none (.tup [.imm ((xA g.us n p g.us.length).map zP),.own 0 0 (p9 g.us n p).length,.imm ((jL g n p).map zP),.int .i64 0]) (nU (p9 g.us n p))):=by
 have cc:=vNI p hpl;have cv:=vNH g (SH hk hg);obtain⟨hv,hp,hd⟩:=hc;rw[dB_true.2 hd]at cc;rw[dB_true.2 hv]at cv;have l2:=hg.1.1;have l3:=hg.2.1;have lu:=SD g;have hn:=hv.2.1;have hn2:n<=256:=by have:=hv.1.2;omega
 have co:=Db 1 zdd;have hvl0:(lY n).length=n:=by simp[lY]
 have hol:(jL g n p).length=g.outs.length:=by simp[jL]
 refine KG zU hT (mkO func78 ntmps78 results78) (by simp[sD]) (sts ?_);refine zT cv rfl ?_
 refine gob ?_ ?_<;>intro h
 .exfalso;omega
 refine cvd cc ?_
 refine iB hT [(.sl 8,4,true),(.sl 9,4,true),(.sl 10,4,true)] (fun(i:Nat)=>[(1,ints p),(2,.ptr 1 0 0),(8,.own 2 0 i),(9,.own 3 0 0),(10,.own 4 0 0),(11,.int .i64 i)]) (fun i=>[(1,⟨[sD g],3,true⟩),(2,nU ((lY n).take i)),(3,nU []),(4,nU [])]) [] 5
  (fun i=>i<=n) (fun i=>n-i) 0 (z8 _) zdd zsm ⟨rfl,rfl,rfl,zA⟩ ?_ ?_
 .exact⟨[1,_,_,_],[],[],[],ttt,⟨xI rfl rfl,(apy rfl),zI zdd rfl rfl,zI zdd rfl rfl,zI zdd rfl rfl,zG rfl rfl,zA⟩,
   ⟨bbx,zH zdd rfl rfl (vY []) rfl,zH zdd rfl rfl (vY []) rfl,zH zdd rfl rfl (vY []) rfl,zA⟩,zO⟩
 intro i i1;have hlen:((lY n).take i).length=i:=by rw[wG];omega
 by_cases hi:i<n
 .have hsn:=SG (l:=lY n) (j:=i) zom (vTS hi)
  rw[uGF]at hsn
  refine gob ?_ ?_<;>intro h
  .refine cvd co ?_
   exact⟨i+1,⟨zom,zbo⟩,[1,16,3,4],[13],[],[(16,((lY n).take i).map zP++[.agg [.imm [uY ((i:Int),1)],.bool false,.imm [],.imm []]])],⟨⟨⟨_,rfl⟩,zA⟩,zA,⟨⟨_,6,_,rfl,I5 (by rfl) (I4 Dq _),rfl⟩,zA⟩⟩,⟨xI rfl rfl,apx,zI zdd rfl rfl,zI zdd rfl rfl,zI zdd rfl rfl,zG rfl rfl,zA⟩,
    ⟨bbx,zH zdd rfl hsn (vY _) rfl,zH zdd rfl rfl (vY []) rfl,zH zdd rfl rfl (vY []) rfl,zA⟩,zO⟩
  all_goals (exfalso;omega)
 .have e0:(lY n).take i=xA g.us n p 0:=uT zom
  refine gob ?_ ?_<;>intro h
  all_goals try omega
  refine xG hT (fun(j:Nat)=>[(1,ints p),(2,.ptr 1 0 0),(8,.own 2 0 (n+j)),(9,.own 3 0 j),(10,.own 4 0 0),(12,.int .i64 j)]) (fun j=>[(1,⟨[sD g],3,true⟩),(2,nU (xA g.us n p j)),(3,nU ((p9 g.us n p).take j)),(4,nU [])]) [] 5
   (fun j=>j<=g.units.length) (fun j=>g.units.length-j) 0 (z8 _) zdd zsm ?_ ?_
  .exact⟨[1,2,3,4],[],[],[],ttt,⟨zM,apx,zI zdd rfl zom,zI zdd rfl rfl,zI zdd rfl rfl,zD,zA⟩,
    ⟨bbx,zH zdd rfl (zV (List.map zP) e0) (vY _) rfl,zH zdd rfl rfl (vY []) rfl,zH zdd rfl rfl (vY []) rfl,zA⟩,zO⟩
  intro j j1;have hfl:=mM g.us n p j;have hp2:=uDJ g.us n p;have hpl:((p9 g.us n p).take j).length=j:=by rw[wG];omega
  by_cases hj:j<g.units.length
  .have hvu:=hv.2.2.2.1 j hj
   have hmem:=nT hj;have hou:=hg.1.2 _ hmem;have hoq:=p8 hvu;rw[hin,show((n:Int)+(j:Int))=((xA g.us n p j).length:Nat) by omega]at hoq;obtain⟨s1,s2⟩:=hs j zom;rw[<- hfl]at s2;have ca:=zP5 g.units[j]!.Q (xA g.us n p j) n k κ s1 zom (jZ hou hk1) hoq (by rw[fR];exact hou.2.2) s2 zom;rw[MI hvu,hfl]at ca;have hpg:(p9 g.us n p)[j]! = vQ g.units[j]!.Q (xA g.us n p j):=by rw[uDK zom,Ft hj]
   have hps:=SG (l:=p9 g.us n p) (j:=j) zom hpg;have hfs:xA g.us n p (j+1)=xA g.us n p j++[if p[j]! = 2 then zeroQ else vQ g.units[j]!.Q (xA g.us n p j)]:=by rw[<- Ft hj];rfl
   refine gob ?_ ?_<;>intro h
   all_goals try omega
   refine tG (r:=2) ca rfl rfl rfl rfl (rT (vY _)) ?_
   refine gob ?_ ?_<;>intro h
   .rw[zE xU]at hfs
    have hz:(xA g.us n p j).map zP++[.agg [.imm [],.bool false,.imm [],.imm []]]=(xA g.us n p (j+1)).map zP:=by rw[hfs,wB,<- Er];rfl
    exact⟨j+1,⟨zom,zbo⟩,[1,34,22,4],[],[],[(34,(xA g.us n p j).map zP++[.agg [.imm [],.bool false,.imm [],.imm []]])],⟨zA,zA,⟨⟨_,6,_,rfl,I5 (by rfl) (I4 Dq _),rfl⟩,zA⟩⟩,⟨xI rfl rfl,apx,zI zdd rfl rfl,zI zdd rfl rfl,zI zdd rfl rfl,zG rfl rfl,zA⟩,
     ⟨bbx,zH zdd rfl hz (vY _) rfl,zH zdd rfl hps (vY _) rfl,zH zdd rfl rfl (vY []) rfl,zA⟩,zO⟩
   .rw[zB xU]at hfs
    have hz:(xA g.us n p j).map zP++[zP (vQ g.units[j]!.Q (xA g.us n p j))]=(xA g.us n p (j+1)).map zP:=by rw[hfs,wB];rfl
    exact⟨j+1,⟨zom,zbo⟩,[1,_,_,4],[],[],[],ttt,⟨xI rfl rfl,(apy rfl),zI zdd rfl rfl,zI zdd rfl rfl,zI zdd rfl rfl,zG rfl rfl,zA⟩,
     ⟨bbx,zH zdd rfl hz (vY _) rfl,zH zdd rfl hps (vY _) rfl,zH zdd rfl rfl (vY []) rfl,zA⟩,zO⟩
   all_goals (exfalso;omega)
  .have ej:j=g.us.length:=zom
   have et:(p9 g.us n p).take j=p9 g.us n p:=uT zom;rw[ej]at hfl;rw[et,ej];have ep:g.us.length=(p9 g.us n p).length:=zom
   refine gob ?_ ?_<;>intro h
   all_goals try omega
   refine xG hT (fun(i:Nat)=>[(1,ints p),(2,.ptr 1 0 0),(8,.own 2 0 (n+g.us.length)),(9,.own 3 0 g.us.length),(10,.own 4 0 i),(14,.int .i64 i)]) (fun i=>[(1,⟨[sD g],3,true⟩),(2,nU (xA g.us n p g.us.length)),(3,nU (p9 g.us n p)),(4,nU ((jL g n p).take i))]) [] 5
    (fun i=>i<=g.outs.length) (fun i=>g.outs.length-i) 0 (z8 _) zdd zsm ?_ ?_
   .exact⟨[1,2,3,4],[],[],[],ttt,⟨zM,apx,zI zdd rfl rfl,zI zdd rfl rfl,zI zdd rfl rfl,zD,zA⟩,
     ⟨bbx,zH zdd rfl rfl (vY _) rfl,zH zdd rfl rfl (vY _) rfl,zH zdd rfl rfl (vY []) rfl,zA⟩,zO⟩
   intro i i1;have hlen:((jL g n p).take i).length=i:=by rw[wG];omega
   by_cases hi:i<g.outs.length
   .have hvu:=hv.2.2.2.2 i hi
    have hou:=hg.2.2 _ (nT hi);have hoq:=p8 hvu;rw[hin,show((n:Int)+(g.units.length:Int))=((xA g.us n p g.us.length).length:Nat) by omega]at hoq;obtain⟨s1,s2⟩:=hs g.us.length zom;rw[<- hfl]at s2;have ca:=zP5 g.outs[i]!.Q (xA g.us n p g.us.length) n k κ s1 zom (jZ hou hk1) hoq (by rw[fR];exact hou.2.2) s2 zom;rw[MI hvu,hfl]at ca;have hsn:=SG (l:=jL g n p) (j:=i) zom (uDV hi)
    refine gob ?_ ?_<;>intro h
    all_goals try omega
    refine tG (r:=2) ca rfl rfl rfl rfl (rT (vY _)) (sts ?_)
    exact⟨i+1,⟨zom,zbo⟩,[1,_,_,_],[],[],[],ttt,⟨xI rfl rfl,(apy rfl),zI zdd rfl rfl,zI zdd rfl rfl,zI zdd rfl rfl,zG rfl rfl,zA⟩,
     ⟨bbx,zH zdd rfl rfl (vY _) rfl,zH zdd rfl rfl (vY _) rfl,zH zdd rfl hsn (vY _) rfl,zA⟩,zO⟩
   .have et2:(jL g n p).take i=jL g n p:=uT zom
    refine sus ?_;refine wR ?_
    (repeat' (first|refine stu ?_|with_reducible(refine brr ?_ ?_<;>intro h)));all_goals try(conv=>whnf)
    all_goals try omega
    refine fU [] [(8,.imm ((xA g.us n p g.us.length).map zP)),(9,.own 1 0 g.us.length),(10,.imm ((jL g n p).map zP))] [(1,nU (p9 g.us n p))] [] 2 zdd zsm trivial
     ⟨[3],[2,4],[(8,.imm ((xA g.us n p g.us.length).map zP)),(10,.imm ((jL g n p).map zP))],[],⟨⟨⟨_,rfl⟩,⟨_,rfl⟩,zA⟩,⟨⟨6,_,xP rfl rfl zom Dq,rfl⟩,⟨6,_,xP rfl (by rw[et2]) zom Dq,rfl⟩,zA⟩,zA⟩,⟨xI rfl rfl,zI zdd rfl rfl,xI rfl rfl,zA⟩,⟨zH zdd rfl rfl (vY _) rfl,zA⟩,zO⟩ ?_
    refine sts ?_
    have ho:A8 (nU (p9 g.us n p)) (.tup [.imm ((xA g.us n p g.us.length).map zP),.own 0 0 (p9 g.us n p).length,.imm ((jL g n p).map zP),.int .i64 0]):=by
     refine zF ⟨fun c hc=>?_,?_⟩
     .simp only[dN,yI,uU,uX]at hc
      rcases hc with rfl|rfl|rfl|rfl
      .exact zC rfl
      .exact zF zsm
      .exact zC rfl
      .exact zC rfl
     .simp[dN]
    exact BU (r:=1) (by rw[<- ep];rfl) rfl rfl rfl (vU6 _) ho
end Go.PI.Tryz
