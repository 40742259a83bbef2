/-
  WholeExact: the loop over the paths.
-/
import Derived.Test.YtcbepncdbgaohaaGreatDoorCD2
import Derived.Test.YtcbepncdbgaohaaGreatDoorCE1
set_option linter.all false
set_option maxHeartbeats 0
namespace Go.PI.Tryz
open Go.Proofs Go.PI Go.Proofs.Tryz
def uHM(S:ScpL)(f:QF)(P:QP)(A:List RowL)(s:SolL)(hP:Fn 29 [xY S,zP f] (.data (.tup [nM P,.imm (A.map uH),.int .i64 0])))(hS:Fn 17 [nM P] (.data (.tup [iW s,.int .i64 0])))(hd:s.dual.length<=A.length)(hA:A.length<20)(K:Nat)(hK:K<=20000000)(hs:∀ c∈s.dual,okQ 20000000 c/\sz K (qv c))(hst:s.status=1\/s.status=2\/s.status=3):Fn 7 [xY S,zP f] (.data (.tup [AO s (FL (jG A s.dual)).1,.int .i64 0])):=by
 have cc:=vS3 (jG A s.dual) (by rw[Y6];omega) K hK (fun m hm=>hs _ (uCN hm));refine yJ zU hT (mkO func7 ntmps7 results7) (by simp[xY,zP]) (sts ?_);refine cvd hP ?_;refine cvd hS ?_
 refine iB hT [(.sl 10,7,true)] (fun(i:Nat)=>[(4,.ptr 0 0 0),(7,.imm (A.map uH)),(9,.ptr 1 0 0),(10,.own 2 0 i),(33,.int .i64 s.dual.length),(34,.int .i64 i)]) (fun i=>[(0,⟨[.agg [.int .i64 0,.bool false,.nilsl,.nilsl,.nilsl,.nilsl]],6,true⟩),(1,⟨[iW s],9,true⟩),(2,rwM ((jG A s.dual).take i))]) [] 3
  (fun i=>i<=s.dual.length) (fun i=>s.dual.length-i) 0 (z8 _) zdd zsm ⟨rfl,zA⟩ ?_ ?_
 .exact⟨[2,22,_],[],[],[],ttt,⟨(apy rfl),xI rfl rfl,(apy rfl),zI zdd rfl rfl,zG rfl zsm,zG rfl rfl,zA⟩,⟨bbx,bbx,zH zdd rfl rfl (rJ []) rfl,zA⟩,zO⟩
 intro i i1;have hZ:(jG A s.dual).length=s.dual.length:=Y6;have lZ:((jG A s.dual).take i).length=i:=by rw[wG];omega
 by_cases hi:i<s.dual.length
 .have sZ:((jG A s.dual).take i).map vH++[vH ⟨A[i]!,s.dual[i]!⟩]=((jG A s.dual).take (i+1)).map vH:=by
   rw [tO zom, wB];have : (jG A s.dual)[i]'zom = ⟨A[i]!, s.dual[i]!⟩ := by unfold jG; rw [vS, oQ]
   rw[this];rfl
  refine gob ?_ ?_<;>intro h
  all_goals try omega
  exact⟨i+1,⟨zom,zbo⟩,[0,1,_],[],[],[],ttt,⟨(apy rfl),xI rfl rfl,(apy rfl),zI zdd rfl rfl,zG rfl rfl,zG rfl rfl,zA⟩,⟨bbx,bbx,zH zdd rfl sZ (rJ _) rfl,zA⟩,zO⟩
 have ei:i=s.dual.length:=zom
 rw[uT zom];generalize FL (jG A s.dual)=C at *
 refine gob ?_ ?_<;>intro h
 all_goals try omega
 refine zT cc (yL (xP (f:=vH) rfl rfl zom fun x=>R6 x) rfl) ?_
 (refine gob ?_ ?_<;>intro h;rotate_left;refine gob ?_ ?_<;>intro h;rotate_right)
 .exact zL rfl (by unfold AO;rw[zE (show s.status=1 by assumption)];rw[show s.status=1 by assumption])
 .exact zL rfl (by unfold AO;rw[zB (show ¬ s.status=1 by assumption),zE (show s.status=2 by assumption)];rw[show s.status=2 by assumption])
 .exact zL rfl (by unfold AO;rw[zB (show ¬ s.status=1 by assumption),zB (show ¬ s.status=2 by assumption)])
def uHP(S:ScpL)(H:PrtH S)(hq:smQ S.q 199)(hl:S.lems=[])(hw:La S):Fn 8 [xY S] (.data (.bool true)):=by
 have cv:=Fu S.q (Fv (k:=0) hq);rw[<- fP hq.va]at cv;have hu:=hq.un;refine yJ zU hT (mkO func8 ntmps8 results8) (by simp[xY]) (sts ?_);refine cvd cv ?_
 refine xG hT (fun(i:Nat)=>[(1,.ptr 0 0 0),(12,.int .i64 S.q.g.units.length),(13,.int .i64 i)]) (fun i=>[(0,⟨[xY S],12,true⟩)]) [] 1
  (fun i=>i<=S.q.g.units.length) (fun i=>S.q.g.units.length-i) 0 (z8 _) zdd zsm ?_ ?_
 .exact⟨[0],[],[],[],ttt,⟨apx,zG rfl zsm,zD,zA⟩,⟨bbx,zA⟩,zO⟩
 intro i i1;by_cases hi:i<S.q.g.units.length
 .have cp:=uG8 S i H hq hl zom zom
  have hne:¬ (if rG S 1 i then(1:Int) else if rG S 2 i then 2 else 0)=0:=by
   have:=hw i hi;cases e:rG S 1 i<;>rw[e]at this<;>simp[this]
  generalize (if rG S 1 i then(1:Int) else if rG S 2 i then 2 else 0)=v at *
  refine gob ?_ ?_<;>intro h
  all_goals try omega
  refine zT cp rfl ?_
  refine gob ?_ ?_<;>intro h
  all_goals try omega
  exact⟨i+1,⟨zom,zbo⟩,[0],[],[],[],ttt,⟨apx,zD,zD,zA⟩,⟨bbx,zA⟩,zO⟩
 refine gob ?_ ?_<;>intro h
 all_goals try omega
 exact yD
def vVP{hb:Hp}{j:Nat}(m:RatL):frz hb (j+2) (zR m)=some (zR m,[]):=rfl
def uHO(S:ScpL)(s:SolL)(pf:List MultL)(n:Nat)(hn:S.q.g.ins=n)(h1:s.status=1)(hl:n<=s.point.length)(hl2:s.point.length<=1048576):Fn 9 [xY S,AO s pf] (.fresh ((s.point.take n).map zR) 3 true):=by
 unfold AO;rw[zE h1];refine dV zU hT (mkO func9 ntmps9 results9) (by simp[xY]) ?_
 (refine gob ?_ ?_<;>intro h;rotate_left;refine gob ?_ ?_<;>intro h;rotate_right)
 all_goals try omega
 refine nH (l':=s.point.take n) (by rw[hn];simp) ?_;refine sts ?_;exact dU rfl zsm zsm rfl (BM (fun x=>vVP x) _)
def uHB(d:DecL)(x:List PV)(pr:List Rat)(K:Nat)(hK:K<=900000000)(h1:d.kind=1\/d.kind=2)(h2:0<=d.index)(h3:d.index<pr.length)(h4:pr.length<=1048576)(h5:sz K pr[d.index.toNat]!):Fn 38 [tZ d,.imm x,.imm (pr.map yF)] (.data (.bool (if d.kind=1 then decide (xQ pr[d.index.toNat]! >= 0) else decide (xQ pr[d.index.toNat]! <= 0)))):=by
 have hx:=kW h5;have cs:=r9 (cr pr[d.index.toNat]!) hx.1 (by have:=hx.2;omega);rw[yC]at cs;refine yJ zU hT (mkO func38 ntmps38 results38) (by simp[tZ]) ?_
 (refine gob ?_ ?_<;>intro h;rotate_left;refine gob ?_ ?_<;>intro h;rotate_left;refine gob ?_ ?_<;>intro h;rotate_right;rotate_right)
 all_goals try omega
 .refine wP (j:=d.index.toNat) (show d.index=_ by omega) zom ?_
  refine sts ?_;refine cvd cs ?_;exact zL rfl (by rw[zE xU])
 .refine wP (j:=d.index.toNat) (show d.index=_ by omega) zom ?_
  refine sts ?_;refine cvd cs ?_;exact zL rfl (by rw[zB zom])
def uP5(S:ScpL)(d:DecL)(x:List PV)(pr:List Rat)(hu:S.q.g.units.length<=1048576)(hd:okQ 900000000 d.rat)(hf:Bm S.q d)(b:Bool)(hb:Fn 38 [tZ d,.imm x,.imm (pr.map yF)] (.data (.bool b))):Fn 36 [tZ d,.cptr (xY S) 0,.cptr (.imm x) 0,.cptr (.imm (pr.map yF)) 0] (.data (.bool (!b))):=by
 have cf:=SA S.q d hu (Bf zdd hd);rw[<- fP hf]at cf;refine yJ zU hT (mkO func36 ntmps36 results36) (by simp[tZ]) (sts ?_);refine cvd cf ?_;refine cvd hb ?_
 all_goals exact zL rfl zsm
def uBB(S:ScpL)(x:List RatL)(kx K:Nat)(n:Nat)(hn:S.q.g.ins=n)(H:PrtH S)(hq:smQ S.q 199)(hx:cT kx x)(hkx:1<=kx)(hkx2:kx<=20000000)(hK:K<=100000000)(hK1:1<=K)(hlen:x.length=n)(hsz:∀ j,j<S.q.g.units.length->(∀ v∈vB S.q.g.us (x.map qv) j,sz K v)/\sz K (uS S.q.g.us (x.map qv))[j]!)(hin:Hl S.q.r x)
 (hp:∀ d∈S.path,(d.kind=1\/d.kind=2)/\Bm S.q d/\0<=d.index/\d.index<S.q.g.units.length/\(d.kind=1->0<=(uS S.q.g.us (x.map qv))[d.index.toNat]!)/\(d.kind=2->(uS S.q.g.us (x.map qv))[d.index.toNat]! <= 0)):Fn 10 [xY S,.imm (x.map zR)] (.data (.bool true)):=by
 have cv:=Fu S.q (Fv (k:=0) hq);rw[<- fP hq.va]at cv;have hu:=hq.un
 have tl:∀ f∈S.q.r.rows,f.terms.length<=3:=fun f hf=>by
  obtain⟨i,hi,rfl⟩:=uE hf;have hv:=hq.va.2.1.2.2.2.2.2 i hi;rw[zS _ i hi]at hv;have:=aS (l:=(S.q.r.rows[i]).Q.ts) 3 (p8 hv).1.1 (fun t ht=>by have:=(p8 hv).2 t ht;have:=hq.ins;omega)
  rwa [fR]at this
 have tu:∀ f∈S.q.g.units,f.terms.length<=7:=fun f hf=>by
  obtain⟨i,hi,rfl⟩:=uE hf;have hv:=hq.va.1.2.2.2.1 i hi;rw[zS _ i hi]at hv;have:=aS (l:=(S.q.g.units[i]).Q.ts) 7 (p8 hv).1.1 (fun t ht=>by have:=(p8 hv).2 t ht;have:=hq.ins;omega)
  rwa [fR]at this
 have cc:=uHI S.q.r x 60 kx hq.r zdd hkx hx (fun f hf=>by
  have:=tl f hf;have:f.terms.length*(60+kx+1)<=3*(60+kx+1):=vK _ this
  omega) zdd zom
 rw[<- fP hin]at cc
 have cp:=uVG S.q.g x 199 K hq.g zdd zdd hK1 hq.va.1 ⟨hx.1,fun v hv=>Bf zom (hx.2 v hv)⟩ (by rw[hlen,hn]) hsz (fun f hf=>by
  have:=tu f hf;have:f.terms.length*(199+K+1)<=7*(199+K+1):=vK _ this
  omega)
 have hpl:(uS S.q.g.us (x.map qv)).length=S.q.g.units.length:=by rw[Ex];simp[GraL.us]
 have ch:=uBD S.path (fun _=>false) 36 (xY S) (.imm (x.map zR)) (.imm ((uS S.q.g.us (x.map qv)).map yF)) H.p (fun d hd=>by
  obtain⟨h1,h2,h3,h4,h5,h6⟩:=hp d hd;have:=uHB d (x.map zR) (uS S.q.g.us (x.map qv)) K zom h1 h3 (by rw[hpl];exact h4) (by rw[hpl];omega) (hsz _ zom).2
  rw[show(if d.kind=1 then decide (xQ (uS S.q.g.us (x.map qv))[d.index.toNat]! >= 0) else decide (xQ (uS S.q.g.us (x.map qv))[d.index.toNat]! <= 0))=true by
   rcases h1 with h1|h1
   .rw[zE h1,tC]
    have:=h5 h1;have e:=@sgnQ_neg (uS S.q.g.us (x.map qv))[d.index.toNat]!;rw[ge_iff_le,<- Jh,e,mX];exact this
   .rw[zB zom,tC]
    have:=h6 h1;have e:=@sgnQ_pos (uS S.q.g.us (x.map qv))[d.index.toNat]!
    rw[<- Jh,e,mX];exact this]at this
  exact uP5 S d _ _ zom (H.d d hd) h2 true this)
 rw[show S.path.any (fun _=>false)=false by simp]at ch;refine yJ zU hT (mkO func10 ntmps10 results10) (by simp[xY]) (sts ?_);refine cvd cv ?_;refine cvd cc ?_;refine cvd cp ?_;refine cvd ch ?_;exact yD
def Sy(q:QryL)(p:List Int)(hu:q.g.units.length<=4):PrtH (uL q p):=⟨by show q.g.units.length<=_;omega,by show(jK p _).length<=_;rw[Fj];omega,fun d hd=>by
 obtain⟨j,hj,rfl⟩:=zW.1 hd
 exact⟨⟨by simp[okN],by simp[okN]⟩,z8 _,z8 _⟩⟩
section
variable (q:QryL) (n k:Nat)
noncomputable def uX4(q:QryL)(n k:Nat):List MultL:=(FL (jG (kE (uL q (xJ (usQ q).length k))) (qH (SX.solF (n+(usQ q).length) (lpA q n (xJ (usQ q).length k)) (lpC q n))).dual)).1
def uQR(h:smQ q 199)(hn:q.g.ins=(n:Int))(hu:q.g.units.length<=3)(hr:q.r.rows.length<=2):Fn 7 [xY (uL q (xJ (usQ q).length k)),x8 q.goal] (.data (.tup [AO (qH (uM q n k)) (uX4 q n k),.int .i64 0])):=by
 have hp:∀ j,j<q.g.units.length->(xJ (usQ q).length k)[j]! = 1\/(xJ (usQ q).length k)[j]! = 2:=fun j hj=>Dm (by rw[oW];exact hj)
 have hz:=MF (k:=k) h hn hu hr;have eA:=uVN (p:=xJ (usQ q).length k) h hn hp;have hAl:(kE (uL q (xJ (usQ q).length k))).length=(lpQ q n (xJ (usQ q).length k)).length:=by rw[<- eA,z6]
 have hl17:=(Rq (p:=xJ (usQ q).length k) h hn (by rw[oW];exact hu) hr).2.1;rw[Fg]at hl17
 have hP:=uP4 (uL q (xJ (usQ q).length k)) q.goal.Q (Sy q _ h.un) h rfl (vPC hp) (fun i hi=>by
  have hi:i<(jK (xJ (usQ q).length k) q.g.units.length).length:=hi;rw[Fj]at hi;rw[show(uL q (xJ (usQ q).length k)).path[i]! = _ from vO3 hi]
  exact hp i hi) (p8 h.va.2.2) (rX zdd (jZ h.goal zdd)) (by rw[fR];exact h.goal.2.2) (uVO h hp) zom
 rw[eA,show(uL q (xJ (usQ q).length k)).q.g.ins+((uL q (xJ (usQ q).length k)).q.g.units.length:Int)=((n+(usQ q).length:Nat):Int) by show q.g.ins+(q.g.units.length:Int)=_;rw[oW];omega]at hP;have hS:=vQS (uX3 q n (xJ (usQ q).length k)) (n+(usQ q).length) _ (uJ1 h hn hu hr);rw[Hh h.va.2.2];refine uHM _ _ _ _ _ hP hS ?_ zom 20000000 zdd ?_ ?_
 .show(qH (uM q n k)).dual.length<=_
  rw[hAl];cases ho:uM q n k with
  |inf y pv=>rw[ho]at hz;simp only[qH,z6];exact GZ hz.2
  |unb x d pv=>simp[qH]
  |opt v x y bs pv=>rw[ho]at hz;simp only[qH,z6];exact GZ hz.2.2.2.2
 .show ∀ c∈(qH (uM q n k)).dual,_
  have key:∀ y:List Rat,(∀ c∈y,sz (lvB 7) c)->∀ c∈y.map cr,okQ 20000000 c/\sz 20000000 (qv c):=fun y hy c hc=>by
   obtain⟨z,hz,rfl⟩:=zW.1 hc;have:=xV (k:=20000000) (by rw[SX.lv7];decide) (hy z hz);exact⟨kW this,by rw[yC];exact this⟩
  cases ho:uM q n k with
  |inf y pv=>rw[ho]at hz;exact key y hz.1
  |unb x d pv=>intro c hc;simp[qH]at hc
  |opt v x y bs pv=>rw[ho]at hz;exact key y hz.2.2.1
 .show(qH (uM q n k)).status=1\/_
  cases ho:uM q n k with
  |inf y pv=>exact zC (zF rfl)
  |unb x d pv=>exact zC (zC rfl)
  |opt v x y bs pv=>exact zF rfl
end
open Go.Proofs Go.PI Go.Proofs.Tryz
def uQ5:∀ n:Nat,n<8->tF .and .i64 (n:Int) 1=((n%2:Nat):Int):=by rw[fH];decide +kernel
def uLT{k j:Nat}(hk:k<8)(hj:j<3):tF .and .i64 ((k:Int).fdiv (vM .i64 (j:Int))) 1=((k/2^j%2:Nat):Int):=by
 rw[vOJ zom,show((2:Int)^((j:Int).toNat))=((2^j:Nat):Int) by simp,F7 _ (Int.natCast_nonneg _),<- Int.natCast_ediv];exact uQ5 _ (nB (gS _ _) hk)
def vU7{k a' n:Nat}{ρ:Nat->Nat}{b:Nat}(h1:b=ρ a')(g1:a'<k){x:Int}{a c d e f g h i:List PV}{y:Bool}:rn ρ k 3 (.agg [.int .i64 x,.imm a,.imm c,.imm d,.imm e,.imm f,.imm g,.bool y,.imm h,.imm i,.own a' 0 n,.nilsl]) (.agg [.int .i64 x,.imm a,.imm c,.imm d,.imm e,.imm f,.imm g,.bool y,.imm h,.imm i,.own b 0 n,.nilsl]):=by
 subst h1;exact⟨rfl,rfl,rfl,rfl,rfl,rfl,rfl,rfl,rfl,rfl,⟨g1,rfl⟩,rfl,zA⟩
abbrev scO(q:QryL)(r j:Nat):PV:=.agg [.int .i64 q.g.ins,.imm (q.g.units.map x8),.imm (q.g.outs.map x8),.imm (q.r.lo.map zR),.imm (q.r.hi.map zR),.imm (q.r.rows.map x8),.imm (q.goal.terms.map mI),.bool q.goal.const.neg,zQ q.goal.const.num,zQ q.goal.const.den,.own r 0 j,.nilsl]
def uKG(l:List DecL):∀ e∈l.map tZ,nr 3 e=true/\e≠.any:=yZ fun _=>⟨rfl,by simp[tZ]⟩
def uAQ{hb:Hp}{j:Nat}(m:DecL):frz hb (j+2) (tZ m)=some (tZ m,[]):=rfl
def uHE (ha:Fn 4 [] (.data (.bool true))) (l:List Int) (hl:I3 l):Fn 3 [.imm (l.map (.int .u8))] (.data (.bool true)):=by
 have ci:=vS1 l hl;have h9:=uOM l
 have hr2:(Ez l).r.rows.length<=2:=by
  obtain⟨n1,n2,n3,_⟩:=H7 l 0;exact(WP (l:=l) (H6 (z8 _)) (m:=gfN l 0) n2 zom).2.2.2.2.1
 generalize Ez l=q at *
 obtain⟨n,hn,n1,n2,n3,n4⟩:=h9.n;have cd:=vS2 q 199 n h9 zdd hn;have hu4:=h9.un;have hfn:=fun a b c=>uUG (q:=q) (n:=n) h9 hn a b c
 have hfz:=fun a b k=>uJZ (q:=q) (n:=n) h9 hn a b k
 generalize hst:(oH q n).1=st at *
 generalize hle:(oH q n).2=le at *
 refine fnV (mkO func3 ntmps3 results3) ?_;refine zT ha rfl ?_
 refine gob ?_ ?_<;>intro h
 .exact yD
 refine cvd ci ?_;refine zT cd rfl ?_
 (refine gob ?_ ?_<;>intro h;rotate_left;refine gob ?_ ?_<;>intro h;rotate_right)
 .exact yD
 .exact yD
 have hu3:q.g.units.length<=3:=zom
 have hfn:=hfn hu3 hr2 xU;have hfz:=hfz hu3 hr2;have f0:(vP (uM q n) 0).1=2:=rfl;have f1:(vP (uM q n) 0).2=0:=rfl;have hpw:2^(usQ q).length<=8:=by rw[oW];exact bU zdd hu3
 have exo:=fun k=>uUF (q:=q) (n:=n) (k:=k) h9 hn hu3 hr2 (by rw[hst];assumption)
 have esh:1*vM .i64 (q.g.units.length:Int)=((2^(usQ q).length:Nat):Int):=by rw[vOJ zom,Int.one_mul,oW];simp
 obtain⟨N,hN⟩:∃ N,2^(usQ q).length=N:=⟨_,rfl⟩;rw[hN]at hfn hpw exo esh
 refine xG hT (fun(k:Nat)=>[(3,.ptr 0 0 0),(4,.int .i64 st),(5,.ptr 1 0 0),(6,.int .i64 q.g.units.length),(7,.int .i64 (vP (uM q n) k).1),(8,.ptr 2 0 0),(9,.int .i64 k)])
  (fun k=>[(0,⟨[kZ q],10,true⟩),(1,⟨[zR (cr le)],3,true⟩),(2,⟨[zR (cr (vP (uM q n) k).2)],3,true⟩)]) [] 3
  (fun k=>k<=N) (fun k=>N-k) 0 (z8 _) zdd zsm ?_ ?_
 .exact⟨[8,15,30],[],[],[(30,[zR (cr 0)])],⟨zA,zA,⟨⟨_,6,_,rfl,rfl,rfl⟩,zA⟩⟩,⟨apx,zG rfl rfl,apx,zG rfl zsm,zG rfl rfl,apx,zG rfl rfl,zA⟩,⟨bbx,bbx,bbx,zA⟩,zO⟩
 intro k k1;by_cases hk:k<N
 ·(refine gob ?_ ?_<;>intro h;rotate_left;refine gob ?_ ?_<;>intro h;refine gob ?_ ?_<;>intro h;rotate_right)
  rw[esh];refine sts ?_
  all_goals try omega
  have exk:=exo k hk;have hP:=uQR q n k h9 hn hu3 hr2;have hu3':(usQ q).length=q.g.units.length:=oW q;have hb:∀ j,j<q.g.units.length->(xJ (usQ q).length k)[j]! = 1+((k/2^j%2:Nat):Int):=fun j hj=>Rm _ _ _ zom
  have hb2:∀ j,j<q.g.units.length->(xJ (usQ q).length k)[j]! = 1\/(xJ (usQ q).length k)[j]! = 2:=fun j hj=>Dm zom
  have ePK:(xJ (usQ q).length k)=(xJ (usQ q).length k):=rfl
  refine iB hT [(.cl 9 0 10,5,true)] (fun(j:Nat)=>[(3,.ptr 0 0 0),(4,.int .i64 st),(5,.ptr 1 0 0),(6,.int .i64 q.g.units.length),(7,.int .i64 (vP (uM q n) k).1),(8,.ptr 2 0 0),(9,.int .i64 k),(10,.ptr 3 0 0),(11,.int .i64 j)])
   (fun j=>[(0,⟨[kZ q],10,true⟩),(1,⟨[zR (cr le)],3,true⟩),(2,⟨[zR (cr (vP (uM q n) k).2)],3,true⟩),(3,⟨[scO q 4 j],12,true⟩),(4,⟨((jK (xJ (usQ q).length k) q.g.units.length).take j).map tZ,5,true⟩)]) [] 5
   (fun j=>j<=q.g.units.length) (fun j=>q.g.units.length-j) 0 (z8 _) zdd zsm ⟨_,_,rfl,rfl,rfl,zA⟩ ?_ ?_
  .exact⟨[0,1,2,9,_],[],[],[],ttt,⟨(apy rfl),zG rfl rfl,(apy rfl),zG rfl rfl,zG rfl rfl,(apy rfl),zG rfl rfl,(apy rfl),zG rfl rfl,zA⟩,⟨bbx,bbx,bbx,xE zdd rfl (vU7 rfl zdd) rfl rfl,zH zdd rfl rfl (uKG []) rfl,zA⟩,zO⟩
  intro j j1;have lP0:(jK (xJ (usQ q).length k) q.g.units.length).length=q.g.units.length:=Fj;have lP:((jK (xJ (usQ q).length k) q.g.units.length).take j).length=j:=by rw[wG,Fj];omega
  by_cases hj:j<q.g.units.length
  .have es:=uLT (k:=k) (j:=j) zom zom
   have sP:((jK (xJ (usQ q).length k) q.g.units.length).take j).map tZ++[tZ ⟨1+((k/2^j%2:Nat):Int),(j:Nat),⟨false,[],[]⟩⟩]=((jK (xJ (usQ q).length k) q.g.units.length).take (j+1)).map tZ:=by
    rw[tO (by rw[Fj];exact hj),wB,<- zS _ j (by rw[Fj];exact hj),vO3 hj,hb j hj];rfl
   have hm2:=nZ (k/2^j) (show 0<2 by decide);generalize k/2^j%2=b at *
   refine gob ?_ ?_<;>intro h
   all_goals try omega
   exact⟨j+1,⟨zom,zbo⟩,[0,1,2,3,18],[],[],[(18,((jK (xJ (usQ q).length k) q.g.units.length).take (j+1)).map tZ)],⟨zA,zA,⟨⟨_,6,_,rfl,by rw[<- sP,es];exact I5 rfl (I4 (fun x=>uAQ x) _),rfl⟩,zA⟩⟩,⟨apx,zG rfl rfl,apx,zG rfl rfl,zG rfl rfl,apx,zG rfl rfl,apx,zG rfl rfl,zA⟩,⟨bbx,bbx,bbx,xE zdd rfl (vU7 rfl zdd) rfl rfl,zH zdd rfl rfl (uKG _) rfl,zA⟩,zO⟩
  have ej:j=q.g.units.length:=zom
  rw[uT zom];refine sus ?_;refine wR ?_
  (repeat' (first|refine stu ?_|with_reducible(refine brr ?_ ?_<;>intro h)));all_goals try(conv=>whnf)
  all_goals try omega
  refine fU [] [(3,.ptr 0 0 0),(4,.int .i64 st),(5,.ptr 1 0 0),(6,.int .i64 q.g.units.length),(7,.int .i64 (vP (uM q n) k).1),(8,.ptr 2 0 0),(9,.int .i64 k),(10,.ptr 3 0 0)]
   [(0,⟨[kZ q],10,true⟩),(1,⟨[zR (cr le)],3,true⟩),(2,⟨[zR (cr (vP (uM q n) k).2)],3,true⟩),(3,⟨[xY (uL q (xJ (usQ q).length k))],12,true⟩)] [] 4 zdd zsm trivial
   ⟨[0,1,2,3],[4],[],[(3,[xY (uL q (xJ (usQ q).length k))])],⟨⟨⟨_,rfl⟩,zA⟩,zA,⟨⟨_,6,_,rfl,yL (lJ (yL rfl (yL rfl (yL rfl (yL rfl (yL rfl (yL rfl (yL rfl (yL rfl (yL rfl (yL rfl (yL (xP (f:=tZ) (l:=jK (xJ (usQ q).length k) q.g.units.length) rfl rfl zom (fun x=>uAQ x)) (yL rfl rfl))))))))))))) rfl,rfl⟩,zA⟩⟩,
     ⟨apx,zD,apx,zD,zD,apx,zD,apx,zA⟩,⟨bbx,bbx,bbx,bbx,zA⟩,zO⟩ ?_
  have hX:=uHP (uL q (xJ (usQ q).length k)) (Sy q _ h9.un) h9 rfl (vPC hb2);refine sts ?_;have hz:=MF (k:=k) h9 hn hu3 hr2;have hpt:=fun v x y bs pv (ho:uM q n k=.opt v x y bs pv)=>uXG (k:=k) h9 hn hu3 hr2 ho
  generalize uX4 q n k=C at *
  cases ho:uM q n k with
  |unb x d pv=>rw[ho]at exk;exact exk.elim
  | inf y pv =>
    have eo:=uO3 ho;rw[ho,show AO (qH (.inf y pv)) C=.agg [.int .i64 2,.bool false,.imm [],.imm [],.imm [],.imm (C.map vH)] from rfl]at hP;refine cvd hP ?_;refine cvd hX ?_;exact⟨k+1,⟨zom,zbo⟩,[0,1,2],[],[],[],ttt,⟨apx,zD,apx,zD,zG rfl (by rw[eo]),apx,zD,zA⟩,⟨bbx,bbx,vN zdd rfl (by rw[eo]) rfl rfl rfl,zA⟩,zO⟩
  | opt v x y bs pv =>
    have eo:=uO2 ho;rw[ho]at exk hz;obtain⟨e1,e2,e3,e4,e5⟩:=exk;obtain⟨z1,z2,z3,z4,z5⟩:=hz;have hpt:=hpt _ _ _ _ _ ho;have eP:AO (qH (.opt v x y bs pv)) C=.agg [.int .i64 1,.bool (cr v).neg,zQ (cr v).num,zQ (cr v).den,.imm ((x.map cr).map zR),.imm (C.map vH)]:=rfl;have ci2:=uHO (uL q (xJ (usQ q).length k)) (qH (.opt v x y bs pv)) C n hn rfl (by show n<=(x.map cr).length;rw[z6];omega) (by show(x.map cr).length<=_;rw[z6];omega)
    have cm:=uBB (uL q (xJ (usQ q).length k)) ((x.map cr).take n) 20000000 50000000 n hn (Sy q _ h9.un) h9 ⟨by rw[wG,z6];omega,fun c hc=>by
     obtain⟨w,hw,rfl⟩:=zW.1 (pK hc)
     exact kW (xV (by rw[SX.lv7];decide) (z2 w hw))⟩ zdd zdd zdd zdd (by rw[wG,z6];omega) (by rw[R4];exact hpt) (uUH h9 e4) (by rw[R4];exact uUE hb2 e5)
    rw[ho,eP]at hP;rw[eP]at ci2;refine cvd hP ?_;refine cvd hX ?_;refine BS ci2 rfl (sts ?_);refine zT cm (yL rfl (yL (xP (f:=zR) rfl rfl (by rw[z6];rfl) fun x=>vVP x) rfl)) ?_
    refine gob ?_ ?_<;>intro h
    .rw[zE (zF xU)]at eo
     exact⟨k+1,⟨zom,zbo⟩,[0,1,2],[],[],[],ttt,⟨apx,zD,apx,zD,zG rfl (by rw[eo]),apx,zD,zA⟩,⟨bbx,bbx,vN zdd rfl (by rw[eo];rfl) rfl rfl rfl,zA⟩,zO⟩
    .have hlow:=kW (hfz k)
     have hv:=kW z1;have l7:=SX.lv7;have cq:=IX (cr v) (cr (vP (uM q n) k).2) hv.1 hlow.1 (by have:=hv.2;omega) (by have:=hv.2;omega) (by have:=hlow.2;omega) (by have:=hlow.2;omega);rw[yC,yC]at cq;refine zT cq rfl ?_
     refine gob ?_ ?_<;>intro h
     .rw[zE (zC (by have:=sgnQ_neg.1 xU;grind))]at eo
      exact⟨k+1,⟨zom,zbo⟩,[0,1,2],[],[],[],ttt,⟨apx,zD,apx,zD,zG rfl (by rw[eo]),apx,zD,zA⟩,⟨bbx,bbx,vN zdd rfl (by rw[eo];rfl) rfl rfl rfl,zA⟩,zO⟩
     .rw[zB (fun e=>by
       rcases e with e|e
       .contradiction
       .exact absurd (sgnQ_neg.2 (show v-(vP (uM q n) k).2<0 by grind)) xU)]at eo
      exact⟨k+1,⟨zom,zbo⟩,[0,1,2],[],[],[],ttt,⟨apx,zD,apx,zD,zG rfl (by rw[eo]),apx,zD,zA⟩,⟨bbx,bbx,vN zdd rfl (by rw[eo]) rfl rfl rfl,zA⟩,zO⟩
 .have ek:k=N:=zom
  rw[ek];have g:=hfn.1;rw[hN]at *
  (refine gob ?_ ?_<;>intro h;rotate_left;refine gob ?_ ?_<;>intro h;refine gob ?_ ?_<;>intro h;rotate_right)
  rw[esh];refine sts ?_
  all_goals try omega
  .exact yD
  .have e1:st=1:=zom
   have e2:=hfn.2 e1;have hlow:=kW (hfz N);have l7:=SX.lv7;have cs:=Xx (cr (vP (uM q n) N).2) (cr le) (by have:=hlow.2;omega) (by have:=hlow.2;omega) (by rw[<- e2];have:=hlow.2;omega) (by rw[<- e2];have:=hlow.2;omega);rw[sJ (show cr (vP (uM q n) N).2=cr le by rw[e2])]at cs;refine cvd cs ?_;exact yD
end Go.PI.Tryz
