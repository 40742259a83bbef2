/-
  The checker: rows, derivations.
-/
import Derived.Test.YtbelmkceegmdjaaGreatDoorJGA
set_option linter.unusedVariables false
set_option linter.unusedSimpArgs false
set_option linter.unnecessarySimpa false
set_option maxHeartbeats 0
namespace Go.PI.Tryz
open Go.Proofs Go.PI
theorem vYK(v:Int):vBP (vCM v)=.agg [.imm [vIO (v,1)],.bool false,.imm [],.imm []]:=by unfold vBP vCM; rw[zOK]; rfl
theorem uIK:FO 164 Tryz.f164 [.cell 2 46] 8:=mkO Tryz.func164 Tryz.ntmps164 Tryz.results164
theorem vQU(v:Int):Fn 164 [.int .i64 v] (.data (vBP (vCM v))):=by
 have c1:=uKF 1 zdd;rw[show((1:Int):Rat)=1 by rfl]at c1;rw[vYK];refine zAK vBC hT uIK zsm ?_;refine sts ?_;refine zAA c1 rfl ?_;refine sts ?_;exact rGV
theorem uIO:FO 100 Tryz.f100 [.cell 2 46] 6:=mkO Tryz.func100 Tryz.ntmps100 Tryz.results100
theorem zQF(c:RatL)(k:Nat)(hc:okQ k c)(hk:k<=950000000):Fn 100 [vA5 c] (.data (vBP (vBN (qv c)))):=by
 have c1:=zNC c hc.1 (by have:=hc.2; omega) (by have:=hc.2; omega);refine zAK vBC hT uIO (by simp[vA5]) ?_;refine sts ?_;refine zAA c1 rfl ?_;refine sts ?_;exact rGV
theorem vW5:FO 101 Tryz.f101 [.cell 2 46] 6:=mkO Tryz.func101 Tryz.ntmps101 Tryz.results101
theorem vIC(f:QF)(k:Nat)(hf:szF k f)(hk:k<=900000000)(hl:f.ts.length<=1048576):Fn 101 [vBP f] (.data (vBP (vDC f (-1)))):=by
 have c1:=uKF (-1) zdd;rw[show(((-1:Int)):Rat)=-1 by rfl]at c1;have c2:=zKZ f (-1) k 1 hf (zE8 (z:=-1) zdd) zom hl;refine zAK vBC hT vW5 (by simp[vBP]) ?_;refine sts ?_;refine zAA c1 rfl ?_;refine sts ?_;refine zAA c2 rfl ?_;refine sts ?_;exact rGV
theorem uCR:FO 68 Tryz.f68 [.tmp 4] 61:=mkO Tryz.func68 Tryz.ntmps68 Tryz.results68
theorem uKI(q:QryL)(d:DecL)(hu:q.g.units.length<=1048576)(hd:okQ 950000000 d.rat):Fn 68 [vBJ q,vA9 d] (.data (.bool (dB (vFL q d)))):=by
 have cv:=zG4 d.rat hd.1 (by have:=hd.2; omega) (by have:=hd.2; omega);have l2:=hd.2.1;have l3:=hd.2.2;have bad:¬ vFL q d->false=dB (vFL q d):=zGQ;refine zAK vBC hT uCR (by simp[vBJ,vA9]) ?_
 (repeat' (first|refine stp ?_|with_reducible(refine brr ?_ ?_<;>intro h)));all_goals try(conv=>whnf)
 all_goals try (refine zAB rfl (rA3 PV.bool (bad fun e=>?_)); rcases e with⟨e1,e2,e3,e4,e5,e6⟩ | ⟨e1,e2,e3,e4⟩<;>first | omega | (simp_all; done))
 all_goals first
  | (refine zAA cv rfl ?_
     refine sts ?_;refine zAB rfl (rA3 PV.bool ?_);rw[rA0,dB_true,rAX]
     exact⟨fun e=>rAY ⟨zom,zom,zom,e⟩,fun e=>by rcases e with⟨e1,_⟩ | ⟨_,_,_,e4⟩; (exfalso; omega); exact e4⟩)
  | (refine zAB rfl (rA3 PV.bool ?_)
     rw[rA0,dB_true,rDI];simp only[rAM]
     exact⟨fun e=>rAW ⟨zom,zom,zom,by assumption,zom,zom⟩,fun e=>by rcases e with⟨_,_,_,_,_,e6⟩ | ⟨e1,_⟩; omega; (exfalso; omega)⟩)
theorem uIN:FO 69 Tryz.f69 [.cell 2 28] 16:=mkO Tryz.func69 Tryz.ntmps69 Tryz.results69
theorem uNS(d:DecL)(hk:1<=d.kind/\d.kind<=4):Fn 69 [vA9 d] (.data (vA9 (opp d))):=by
 refine zAK vBC hT uIN (by simp[vA9]) ?_
 (repeat' (first|refine stp ?_|with_reducible(refine brr ?_ ?_<;>intro h)));all_goals try(conv=>whnf)
 all_goals refine zAB rfl ?_
 all_goals (unfold vA9 opp uK5; simp only[PV.agg.injEq,rEY,PV.int.injEq,rEB,rFB])
 all_goals (repeat' split)<;>omega
theorem uIP:FO 166 Tryz.f166 [.tmp 6] 27:=mkO Tryz.func166 Tryz.ntmps166 Tryz.results166
theorem uF9(S:ScpL)(k j:Int)(hp:S.path.length<=1048576):Fn 166 [vBD S,.int .i64 k,.int .i64 j] (.data (.bool (vE1 S k j))):=by
 refine zAK vBC hT uIP (by simp[vBD]) ?_;refine sts ?_
 refine zAM hT (fun(i:Nat)=>[(1,.int .i64 k),(2,.int .i64 j),(10,.imm (S.path.map vA9)),(11,.int .i64 S.path.length),(12,.int .i64 i)]) (fun _=>[]) [] 1
  (fun i=>i<=S.path.length/\∀ m,m<i->¬ (S.path[m]!.kind=k/\S.path[m]!.index=j)) (fun i=>S.path.length - i) 0 ⟨rA8 _,fun m h=>by omega⟩ zdd zsm ?_ ?_
 .exact⟨[0],[],[],[],ttt,⟨rAI,rAI,rAJ,zAC rfl zsm,rAI,rGU⟩,rGU,rAA⟩
 intro i ⟨i1,i2⟩;by_cases hi:i<S.path.length
 .have hm:S.path[i]! ∈ S.path:=get_mem hi
  (repeat' (first|refine stp ?_|with_reducible(refine brr ?_ ?_<;>intro h)));all_goals try(conv=>whnf)
  all_goals try (exfalso; omega)
  all_goals first
   | (refine zAB rfl (rA3 PV.bool ?_)
      refine(rCY.2 ⟨_,hm,?_⟩).symm;simp only[rAO,rAX]
      exact⟨by assumption,rAC⟩)
   | exact⟨i+1,⟨⟨zom,fun m hm=>zA7 (p:=fun m=>¬ (S.path[m]!.kind=k/\S.path[m]!.index=j)) i2 zom hm⟩,by show S.path.length - (i+1)<S.path.length - i; omega⟩,[0],[],[],[],ttt,⟨rAI,rAI,rAJ,rAI,rAI,rGU⟩,rGU,rAA⟩
   | skip
 ·(repeat' (first|refine stp ?_|with_reducible(refine brr ?_ ?_<;>intro h)));all_goals try(conv=>whnf)
  all_goals try (exfalso; omega)
  refine zAB rfl (rA3 PV.bool ?_);refine(rDZ.2 fun d hd=>?_).symm;obtain⟨m,hm,rfl⟩:=rBB hd;have:=i2 m zom;rw[rAT S.path m hm]at this;simp only[rAO,rAX];exact this
def vD6(S:ScpL)(n:Int):RatL:=if 1<=n/\n<=S.lems.length then S.lems[n.toNat - 1]!.value else⟨false,[],[]⟩
def vCQ(S:ScpL)(n j:Int)(up:Bool):Bool:=decide (1<=n/\n<=S.lems.length) && (decide (S.lems[n.toNat - 1]!.unit=j) && decide (S.lems[n.toNat - 1]!.upper=up))
theorem uIQ:FO 165 Tryz.f165 [.cell 8 26,.tmp 9] 39:=mkO Tryz.func165 Tryz.ntmps165 Tryz.results165
theorem uGA(S:ScpL)(n j:Int)(up:Bool)(hl:S.lems.length<=1048576):Fn 165 [vBD S,.int .i64 n,.int .i64 j,.bool up] (.data (.tup [vA5 (vD6 S n),.bool (vCQ S n j up)])):=by
 refine zAK vBC hT uIQ (by simp[vBD]) ?_
 (repeat' (first|refine stp ?_|with_reducible(refine brr ?_ ?_<;>intro h)));all_goals try(conv=>whnf)
 .have e1:vD6 S n=⟨false,[],[]⟩:=rAN (fun e=>by omega)
  have e2:vCQ S n j up=false:=by unfold vCQ; rw[rBA (fun e=>by omega)]; rfl
  rw[e1,e2]; exact rGV
 .have e1:vD6 S n=⟨false,[],[]⟩:=rAN (fun e=>by omega)
  have e2:vCQ S n j up=false:=by unfold vCQ; rw[rBA (fun e=>by omega)]; rfl
  rw[e1,e2]; exact rGV
 .have hlt:n.toNat - 1<S.lems.length:=by omega
  refine zA6 (j:=n.toNat - 1) (show n - 1=_ by omega) hlt ?_;have e1:vD6 S n=S.lems[n.toNat - 1]!.value:=rAV ⟨zom,zom⟩;have e2:vCQ S n j up=(decide (S.lems[n.toNat - 1]!.unit=j) && decide (S.lems[n.toNat - 1]!.upper=up)):=by unfold vCQ; rw[rB1 (show 1<=n/\n<=S.lems.length from⟨zom,zom⟩)]; rfl
  rw[e1,e2];generalize S.lems[n.toNat - 1]! = m at *
  refine gob ?_ ?_<;>intro h
  .refine zAB rfl ?_
   simp_all
   exact⟨rfl,by cases m.upper<;>cases up<;>rfl⟩
  .refine zAB rfl ?_
   simp_all
   rfl
theorem uCP:FO 136 Tryz.f136 [.tmp 4] 44:=mkO Tryz.func136 Tryz.ntmps136 Tryz.results136
theorem uKG(a b:RowL):Fn 136 [vBI a,vBI b] (.data (.bool (dB (vEU a b)))):=by
 refine zAK vBC hT uCP (by simp[vBI]) ?_;refine sts ?_;have no:¬ vEU a b->false=dB (vEU a b):=zGQ
 refine zAM hT (fun(i:Nat)=>[(5,.ptr 0 0 0),(6,.ptr 1 0 0),(26,.int .i64 i)]) (fun _=>[(0,⟨[vBI a],4,true⟩),(1,⟨[vBI b],4,true⟩)]) [] 2
  (fun i=>i<=4/\(0<i->a.kind=b.kind)/\(1<i->a.index=b.index)/\(2<i->a.lo=b.lo)/\(3<i->a.hi=b.hi)) (fun i=>4 - i) 0 ⟨zom,zom,zom,zom,zom⟩ zdd zsm ?_ ?_
 .exact⟨[_,_],[],[],[],ttt,⟨(apy rfl),(apy rfl),zAC rfl rfl,rGU⟩,⟨bbx,bbx,rGU⟩,rAA⟩
 rintro i ⟨i1,i2,i3,i4,i5⟩
 obtain rfl | rfl | rfl | rfl | rfl:i=0\/i=1\/i=2\/i=3\/i=4:=by omega
 all_goals (repeat' (first|refine stp ?_|with_reducible(refine brr ?_ ?_<;>intro h)));all_goals try(conv=>whnf)
 all_goals first
  | (refine zAB rfl (rA3 PV.bool ?_)
     rw[rA0,dB_true,rAX];unfold vEU
     omega)
  | (refine zAB rfl (rA3 PV.bool (no fun e=>?_))
     unfold vEU at e
     omega)
  | exact⟨1,⟨⟨zom,zom,zom,zom,zom⟩,zom⟩,[0,1],[],[],[],ttt,⟨apx,apx,rAI,rGU⟩,⟨bbx,bbx,rGU⟩,rAA⟩
  | exact⟨2,⟨⟨zom,zom,zom,zom,zom⟩,zom⟩,[0,1],[],[],[],ttt,⟨apx,apx,rAI,rGU⟩,⟨bbx,bbx,rGU⟩,rAA⟩
  | exact⟨3,⟨⟨zom,zom,zom,zom,zom⟩,zom⟩,[0,1],[],[],[],ttt,⟨apx,apx,rAI,rGU⟩,⟨bbx,bbx,rGU⟩,rAA⟩
  | exact⟨4,⟨⟨zom,zom,zom,zom,zom⟩,zom⟩,[0,1],[],[],[],ttt,⟨apx,apx,rAI,rGU⟩,⟨bbx,bbx,rGU⟩,rAA⟩
  | skip
theorem sgnQ_nn'{q:Rat}:0<=vDK q↔0<=q:=by
 rw[<- Int.not_lt,sgnQ_neg,rFV]
def vEV(r:RatL):Nat:=r.num.length+r.den.length
theorem zLK{k:Nat}{r:RatL}(h:okQ k r):okQ (vEV r) r:=⟨h.1,by unfold vEV; omega,by unfold vEV; omega⟩
structure szS(S:ScpL)(P V:Nat):Prop where
 P1:1<=P
 units:∀ f∈S.q.g.units,okA P f
 lo:vXD P S.q.r.lo
 hi:vXD P S.q.r.hi
 rows:uIV P S.q.r.rows
 path:S.path.length<=1048576/\∀ d∈S.path,okQ P d.rat
 lems:S.lems.length<=1048576/\∀ m∈S.lems,okQ V m.value
 can:∀ m∈S.lems,vE2 m.value
 two:∀ i j,i<S.lems.length->j<S.lems.length->S.lems[i]!.upper=false->S.lems[j]!.upper=true->vEV S.lems[i]!.value+vEV S.lems[j]!.value<=V
 B:P+2 * V+20<=100000000
 nv:vDA S<=1280
theorem zD0{k:Nat}{q:Rat}(h:sz k q):szF k (vBN q):=⟨h,fun p hp=>by cases hp⟩
theorem zEW{f g:QF}{kf kg K:Nat}(hf:szF kf f)(hg:szF kg g)(hK:kf+kg+2<=K):szF K (vCD f g):=zJ7 hf hg (zE8 (z:=-1) zdd) zom
theorem zGD{f:QF}{c:Rat}{kf kc K:Nat}(hf:szF kf f)(hc:sz kc c)(hK:kf+kc+2<=K):szF K (vDC f c):=zJ7 (zEF 1 zdd) hf hc zom
theorem zIX{f:QF}{c:Rat}:(vDC f c).ts.length<=f.ts.length:=by
 have:=zP3 (f:=zeroQ) (g:=f) (c:=c)
 simpa [zeroQ,vDC]using this
theorem zH1{f:QF}{c:Rat}:(vCD f (vBN c)).ts.length<=f.ts.length:=by
 have:=zP3 (f:=f) (g:=vBN c) (c:=-1)
 simpa [vBN,vCD]using this
theorem zGG{k:Nat}{r:RatL}(h:okQ k r)(hk:1<=k):sz k (qv r):=vIY h.1 h.2.1 h.2.2 hk
section
variable {S:ScpL} {r:RowL}
theorem uFV(h:r.index<0\/r.lo≠0\/r.hi≠0):inO S r=none:=by unfold inO; rw[rAV h]
theorem uQG(h:¬ (r.index<0\/r.lo≠0\/r.hi≠0))(h1:r.kind=1/\r.index<S.q.r.lo.length):inO S r=some (vCD (vCM r.index) (vBN (qv S.q.r.lo[r.index.toNat]!))):=by unfold inO; rw[rAN h,rAV h1]
theorem uQF(h:¬ (r.index<0\/r.lo≠0\/r.hi≠0))(h1:r.kind=2/\r.index<S.q.r.hi.length):inO S r=some (vCD (vBN (qv S.q.r.hi[r.index.toNat]!)) (vCM r.index)):=by unfold inO; rw[rAN h,rAN (fun e=>by omega),rAV h1]
theorem uQE(h:¬ (r.index<0\/r.lo≠0\/r.hi≠0))(h1:r.kind=3/\r.index<S.q.r.rows.length):inO S r=some S.q.r.rows[r.index.toNat]!.Q:=by unfold inO; rw[rAN h,rAN (fun e=>by omega),rAN (fun e=>by omega),rAV h1]
theorem uQD(h:¬ (r.index<0\/r.lo≠0\/r.hi≠0))(h1:r.kind=4/\r.index<S.path.length)(h2:S.path[r.index.toNat]!.kind=3):inO S r=some (vCD (vCM S.path[r.index.toNat]!.index) (vBN (qv S.path[r.index.toNat]!.rat))):=by unfold inO; rw[rAN h,rAN (fun e=>by omega),rAN (fun e=>by omega),rAN (fun e=>by omega),rAV h1,rAV h2]
theorem uMZ(h:¬ (r.index<0\/r.lo≠0\/r.hi≠0))(h1:r.kind=4/\r.index<S.path.length)(h2:S.path[r.index.toNat]!.kind=4):inO S r=some (vCD (vBN (qv S.path[r.index.toNat]!.rat)) (vCM S.path[r.index.toNat]!.index)):=by unfold inO; rw[rAN h,rAN (fun e=>by omega),rAN (fun e=>by omega),rAN (fun e=>by omega),rAV h1,rAN zom,rAV h2]
theorem vHX(h1:¬ (r.kind=1/\r.index<S.q.r.lo.length))(h2:¬ (r.kind=2/\r.index<S.q.r.hi.length))(h3:¬ (r.kind=3/\r.index<S.q.r.rows.length))(h4:¬ (r.kind=4/\r.index<S.path.length/\(S.path[r.index.toNat]!.kind=3\/S.path[r.index.toNat]!.kind=4))):inO S r=none:=by
 unfold inO;rw[rAN h1,rAN h2,rAN h3]
 split
 .rfl
 .split
  .rw[rAN (fun e=>h4 ⟨zom,zom,rAW e⟩),rAN (fun e=>h4 ⟨zom,zom,rAY e⟩)]
  .rfl
end
theorem uMG:FO 163 Tryz.f163 [.cell 4 46,.tmp 5] 120:=mkO Tryz.func163 Tryz.ntmps163 Tryz.results163
theorem uPS(S:ScpL)(r:RowL)(P V:Nat)(hS:vB7 S)(hz:szS S P V):Fn 163 [vBD S,vBI r] (.data (.tup [vBP ((inO S r).getD zeroQ),.bool (inO S r).isSome])):=by
 have l1:=hz.lo.1;have l2:=hz.hi.1;have l3:=hz.rows.1;have l4:=hz.path.1;have hB:=hz.B;have hP:=hz.P1;have none:inO S r=none->PV.tup [.agg [.imm [],.bool false,.imm [],.imm []],.bool false]=.tup [vBP ((inO S r).getD zeroQ),.bool (inO S r).isSome]:=fun e=>by rw[e,<- zA8]; rfl
 have some:∀ f,inO S r=some f->PV.tup [vBP f,.bool true]=.tup [vBP ((inO S r).getD zeroQ),.bool (inO S r).isSome]:=fun f e=>by rw[e]; rfl
 refine zAK vBC hT uMG (by simp[vBD,vBI]) ?_
 (repeat' (first|refine stp ?_|with_reducible(refine brr ?_ ?_<;>intro h)));all_goals try(conv=>whnf)
 all_goals first
  | exact zAB rfl (none (uFV zom))
  | exact zAB rfl (none (vHX zom zom zom zom))
  | skip
 all_goals try (exfalso; omega)
 .have hj:r.index.toNat<S.q.r.lo.length:=by omega
  have hq:=zD4 hz.lo hj;have cv:=vQU r.index;have cn:=zQF _ P hq zom;have cs:=zHA (vCM r.index) (vBN (qv S.q.r.lo[r.index.toNat]!)) 1 P (zDU _) (zD0 (zGG hq hP)) zom (by simp[vCM]) (by simp[vBN]);refine zAA cv rfl ?_;refine sts ?_;refine zA6 (j:=r.index.toNat) (show r.index=_ by omega) hj ?_;refine sts ?_;refine zAA cn rfl ?_;refine sts ?_;refine zAA cs rfl ?_;refine sts ?_;exact zAB rfl (some _ (uQG zom ⟨zom,zom⟩))
 .have hj:r.index.toNat<S.q.r.hi.length:=by omega
  have hq:=zD4 hz.hi hj;have cv:=vQU r.index;have cn:=zQF _ P hq zom;have cs:=zHA (vBN (qv S.q.r.hi[r.index.toNat]!)) (vCM r.index) P 1 (zD0 (zGG hq hP)) (zDU _) zom (by simp[vBN]) (by simp[vCM]);refine zA6 (j:=r.index.toNat) (show r.index=_ by omega) hj ?_;refine sts ?_;refine zAA cn rfl ?_;refine sts ?_;refine zAA cv rfl ?_;refine sts ?_;refine zAA cs rfl ?_;refine sts ?_;exact zAB rfl (some _ (uQF zom ⟨zom,zom⟩))
 .have hj:r.index.toNat<S.q.r.rows.length:=by omega
  have e:=some _ (uQE (S:=S) (r:=r) zom ⟨zom,zom⟩);rw[<- vNL (hS.1.2.1.2.2.2.2.2 _ hj)]at e;refine zA6 (j:=r.index.toNat) (show r.index=_ by omega) hj ?_;refine sts ?_;exact zAB rfl e
 .have hj:r.index.toNat<S.path.length:=by omega
  have hm:S.path[r.index.toNat]! ∈ S.path:=get_mem hj;have hq:=hz.path.2 _ hm;have cv:=vQU S.path[r.index.toNat]!.index;have cn:=zQF _ P hq zom;have cs:=zHA (vCM S.path[r.index.toNat]!.index) (vBN (qv S.path[r.index.toNat]!.rat)) 1 P (zDU _) (zD0 (zGG hq hP)) zom (by simp[vCM]) (by simp[vBN]);have cs2:=zHA (vBN (qv S.path[r.index.toNat]!.rat)) (vCM S.path[r.index.toNat]!.index) P 1 (zD0 (zGG hq hP)) (zDU _) zom (by simp[vBN]) (by simp[vCM]);refine zA6 (j:=r.index.toNat) (show r.index=_ by omega) hj ?_
  (repeat' (first|refine stp ?_|with_reducible(refine brr ?_ ?_<;>intro h)));all_goals try(conv=>whnf)
  .refine zAA cv rfl ?_
   refine sts ?_;refine zAA cn rfl ?_;refine sts ?_;refine zAA cs rfl ?_;refine sts ?_;exact zAB rfl (some _ (uQD zom ⟨zom,zom⟩ rAC))
  .refine zAA cn rfl ?_
   refine sts ?_;refine zAA cv rfl ?_;refine sts ?_;refine zAA cs2 rfl ?_;refine sts ?_;exact zAB rfl (some _ (uMZ zom ⟨zom,zom⟩ rAC))
  .exact zAB rfl (none (vHX zom zom zom (fun e=>by rcases e.2.2 with q | q<;>contradiction)))
open Go.Proofs Go.PI
theorem uH1:FO 167 Tryz.f167 [.cell 4 26] 12:=mkO Tryz.func167 Tryz.ntmps167 Tryz.results167
theorem uNI(x y:RatL)(hx:okR x)(hy:okR y)(hl1:x.num.length<1000000000)(hl2:x.den.length<1000000000)(hl3:y.num.length<1000000000)(hl4:y.den.length<1000000000):Fn 167 [vA5 x,vA5 y] (.data (vA5 (cr (qv x - qv y)))):=by
 have e:qv (⟨!y.neg,y.num,y.den⟩:RatL)=- qv y:=by
  unfold qv; dsimp only; rw[zPN];rw[show -(sg y.neg (nv y.num))=(-1) * sg y.neg (nv y.num) by omega];have:∀ (z:Int) (d:Nat),mkRat (-1 * z) d=- mkRat z d:=fun z d=>by rw[rGA,Int.one_mul,rGL]
  exact this _ _
 have ca:=vQP x ⟨!y.neg,y.num,y.den⟩ hx hy hl1 hl2 hl3 hl4;rw[e,show qv x+-qv y=qv x - qv y by grind]at ca;refine zAK vBC hT uH1 (by simp[vA5]) ?_;refine sts ?_;refine zAA ca rfl ?_;refine sts ?_;exact rGV
def vDV(r:RowL):Bool:=(decide (r.lo=0) && decide (r.hi=0))
def onP(r:RowL)(L:RatL)(lw D1:Bool):Bool:=(decide (r.hi=0) && ((decide (r.lo=0) && D1) || (lw && decide (0<=vDK (qv L)))))
def vFJ(r:RowL)(U:RatL)(up D2:Bool):Bool:=(decide (r.lo=0) && ((decide (r.hi=0) && D2) || (up && decide (vDK (qv U)<=0))))
def vD4(r:RowL)(v p:QF)(L U:RatL)(lw up on off pl:Bool):QF×Bool :=
 if r.kind=5 then(v,pl)
 else if r.kind=6 then(vCD v p,pl)
 else if r.kind=7 then(p,on)
 else if r.kind=8 then(vCD p v,on)
 else if r.kind=9 then(vDC p (-1),off)
 else if r.kind=10 then(vDC v (-1),off)
 else if r.kind=11 then(vCD p (vBN (qv L)),lw && decide (r.hi=0))
 else if r.kind=12 then(vCD (vBN (qv U)) p,up && decide (r.lo=0))
 else if r.kind=13/\lw=true/\up=true/\vDK (qv L)<0/\0<vDK (qv U) then(uGK v p (qv L) (qv U),true)
 else(zeroQ,false)
theorem vN0{S:ScpL}{P V:Nat}(hz:szS S P V)(n:Int):okQ (V+1) (vD6 S n):=by
 unfold vD6
 split
 .exact zCZ zom (hz.lems.2 _ (get_mem zom))
 .exact⟨⟨by simp[okN],by simp[okN]⟩,rA8 _,rA8 _⟩
theorem vQW{S:ScpL}{P V:Nat}(hz:szS S P V)(n:Int):vE2 (vD6 S n):=by
 unfold vD6
 split
 .exact hz.can _ (get_mem zom)
 .rfl
theorem uCQ:FO 137 Tryz.f137 [.cell 4 46,.tmp 5] 206:=mkO Tryz.func137 Tryz.ntmps137 Tryz.results137
theorem uEK(S:ScpL)(r:RowL)(P V:Nat)(hS:vB7 S)(hz:szS S P V)(hk:5<=r.kind)(hi:0<=r.index/\r.index<S.q.g.units.length)(v p:QF)(L U:RatL)(lw up D1 D2 on off pl:Bool)(hL:vD6 S r.lo=L)(hU:vD6 S r.hi=U)(hlw:vCQ S r.lo r.index false=lw)(hup:vCQ S r.hi r.index true=up)(hvv:vCM (S.q.g.ins+r.index)=v)(hp:S.q.g.units[r.index.toNat]!.Q=p)(hD1:vE1 S 1 r.index=D1)(hD2:vE1 S 2 r.index=D2)(hon:onP r L lw D1=on)(hoff:vFJ r U up D2=off)(hpl:vDV r=pl):Fn 137 [vBD S,vBI r] (.data (.tup [vBP (vD4 r v p L U lw up on off pl).1,.bool (vD4 r v p L U lw up on off pl).2])):=by
 have hj:r.index.toNat<S.q.g.units.length:=by omega
 have hnu:=hS.1.1.2.1;have hni:=hS.1.1.1;have hvu:=hS.1.1.2.2.2.1 _ hj;have hpu:=vNL hvu;have hB:=hz.B;have hP:=hz.P1;have cv:=vQU (S.q.g.ins+r.index);have cl:=uGA S r.lo r.index false hz.lems.1;have cu:=uGA S r.hi r.index true hz.lems.1;have cd1:=uF9 S 1 r.index hz.path.1;have cd2:=uF9 S 2 r.index hz.path.1;have hLk:=vN0 hz r.lo;have hUk:=vN0 hz r.hi;rw[hL]at cl hLk;rw[hU]at cu hUk;rw[hlw]at cl;rw[hup]at cu;have sl:=zF6 L hLk.1 (by have:=hLk.2; omega);have su:=zF6 U hUk.1 (by have:=hUk.2; omega);have cnl:=zQF L (V+1) hLk zom;have cnu:=zQF U (V+1) hUk zom;have hUc:cr (qv U)=U:=by have:=vQW hz r.hi; rw[hU]at this; exact this.symm
 have szL:=zGG hLk zom;have szU:=zGG hUk zom;have hpa:=hz.units _ (get_mem hj);have szp:szF P p:=by rw[<- hp]; exact zHE hpa hP
 have szv:szF 1 v:=by rw[<- hvv]; exact zDU _
 have lv:v.ts.length<=1:=by rw[<- hvv]; simp[vCM]
 have lp:p.ts.length<=1048576:=by rw[<- hp,uN6]; exact hpa.2.2
 rw[hvv]at cv;rw[hp]at hpu;rw[hD1]at cd1;rw[hD2]at cd2;have c6:=zHA v p 1 P szv szp zom zom lp;have c8:=zHA p v P 1 szp szv zom lp zom;have c9:=vIC p P szp zom lp;have c10:=vIC v 1 szv zom zom;have c11:=zHA p (vBN (qv L)) P (V+1) szp (zD0 szL) zom lp (by simp[vBN]);have c12:=zHA (vBN (qv U)) p (V+1) P (zD0 szU) szp zom (by simp[vBN]) lp;refine zAK vBC hT uCQ (by simp[vBD,vBI]) ?_
 (repeat' (first|refine stp ?_|with_reducible(refine brr ?_ ?_<;>intro h)));all_goals try(conv=>whnf)
 all_goals try (exfalso; omega)
 refine zAA cv rfl ?_;refine sts ?_;refine zA6 (j:=r.index.toNat) (show r.index=_ by omega) hj ?_;refine sts ?_;refine zAA cl rfl ?_;refine sts ?_;refine zAA cu rfl ?_;refine sus ?_;refine vBW [] [(2,.ptr 0 0 0),(3,.ptr 1 0 0),(4,.ptr 2 0 0),(6,.int .i64 r.index),(7,.ptr 3 0 0),(8,.ptr 4 0 0),(9,.ptr 5 0 0),(10,.bool lw),(11,.ptr 6 0 0),(12,.bool up)] [(0,⟨[vBD S],12,true⟩),(1,⟨[vBI r],4,true⟩),(2,⟨[.agg [.nilsl,.bool false,.nilsl,.nilsl]],4,true⟩),(3,⟨[vBP v],4,true⟩),(4,⟨[vBP p],4,true⟩),(5,⟨[vA5 L],3,true⟩),(6,⟨[vA5 U],3,true⟩)] [] 7 zdd zsm trivial ⟨[0,1,2,_,_,_,_],[],[],[],ttt,⟨(apy rfl),(apy rfl),(apy rfl),zAC rfl rfl,(apy rfl),(apy rfl),(apy rfl),zAJ rfl rfl,(apy rfl),zAJ rfl rfl,rGU⟩,⟨bbx,bbx,bbx,bbx,zEV zdd rfl hpu rfl rfl rfl,bbx,bbx,rGU⟩,rAA⟩ ?_;refine vVK ⟨sv [(2,.ptr 0 0 0),(3,.ptr 1 0 0),(4,.ptr 2 0 0),(6,.int .i64 r.index),(7,.ptr 3 0 0),(8,.ptr 4 0 0),(9,.ptr 5 0 0),(10,.bool lw),(11,.ptr 6 0 0),(12,.bool up),(13,.bool on)],hv [(0,⟨[vBD S],12,true⟩),(1,⟨[vBI r],4,true⟩),(2,⟨[.agg [.nilsl,.bool false,.nilsl,.nilsl]],4,true⟩),(3,⟨[vBP v],4,true⟩),(4,⟨[vBP p],4,true⟩),(5,⟨[vA5 L],3,true⟩),(6,⟨[vA5 U],3,true⟩)],zv [],7⟩ ?_ fun H9=>?_
 rotate_left
 ·(repeat' (first|refine stu ?_|with_reducible(refine brr ?_ ?_<;>intro h)));all_goals try(conv=>whnf)
  .refine zAA cd1 rfl ?_
   (repeat' (first|refine stu ?_|with_reducible(refine brr ?_ ?_<;>intro h)));all_goals try(conv=>whnf)
   .refine vBW [] [(2,.ptr 0 0 0),(3,.ptr 1 0 0),(4,.ptr 2 0 0),(6,.int .i64 r.index),(7,.ptr 3 0 0),(8,.ptr 4 0 0),(9,.ptr 5 0 0),(10,.bool lw),(11,.ptr 6 0 0),(12,.bool up),(13,.bool on)] [(0,⟨[vBD S],12,true⟩),(1,⟨[vBI r],4,true⟩),(2,⟨[.agg [.nilsl,.bool false,.nilsl,.nilsl]],4,true⟩),(3,⟨[vBP v],4,true⟩),(4,⟨[vBP p],4,true⟩),(5,⟨[vA5 L],3,true⟩),(6,⟨[vA5 U],3,true⟩)] [] 7 zdd zsm trivial ⟨[0,1,2,3,4,5,6],[],[],[],ttt,⟨apx,apx,apx,rAI,apx,apx,apx,rAK,apx,rAK,zAJ rfl (by rw[<- hon]; unfold onP; rw[rA0]; clear sl su cd1 cd2 hL hU hlw hup hvv hp hD1 hD2 cv cl cu cnl cnu c6 c8 c9 c10 c11 c12 hpu; simp_all),rGU⟩,⟨bbx,bbx,bbx,bbx,bbx,bbx,bbx,rGU⟩,rAA⟩ ?_; exact H9
   .refine zAA sl rfl ?_
    refine sus ?_;refine vBW [] [(2,.ptr 0 0 0),(3,.ptr 1 0 0),(4,.ptr 2 0 0),(6,.int .i64 r.index),(7,.ptr 3 0 0),(8,.ptr 4 0 0),(9,.ptr 5 0 0),(10,.bool lw),(11,.ptr 6 0 0),(12,.bool up),(13,.bool on)] [(0,⟨[vBD S],12,true⟩),(1,⟨[vBI r],4,true⟩),(2,⟨[.agg [.nilsl,.bool false,.nilsl,.nilsl]],4,true⟩),(3,⟨[vBP v],4,true⟩),(4,⟨[vBP p],4,true⟩),(5,⟨[vA5 L],3,true⟩),(6,⟨[vA5 U],3,true⟩)] [] 7 zdd zsm trivial ⟨[0,1,2,3,4,5,6],[],[],[],ttt,⟨apx,apx,apx,rAI,apx,apx,apx,rAK,apx,rAK,zAJ rfl (by rw[<- hon]; unfold onP; rw[rA0]; clear sl su cd1 cd2 hL hU hlw hup hvv hp hD1 hD2 cv cl cu cnl cnu c6 c8 c9 c10 c11 c12 hpu; simp_all),rGU⟩,⟨bbx,bbx,bbx,bbx,bbx,bbx,bbx,rGU⟩,rAA⟩ ?_; exact H9
   .refine vBW [] [(2,.ptr 0 0 0),(3,.ptr 1 0 0),(4,.ptr 2 0 0),(6,.int .i64 r.index),(7,.ptr 3 0 0),(8,.ptr 4 0 0),(9,.ptr 5 0 0),(10,.bool lw),(11,.ptr 6 0 0),(12,.bool up),(13,.bool on)] [(0,⟨[vBD S],12,true⟩),(1,⟨[vBI r],4,true⟩),(2,⟨[.agg [.nilsl,.bool false,.nilsl,.nilsl]],4,true⟩),(3,⟨[vBP v],4,true⟩),(4,⟨[vBP p],4,true⟩),(5,⟨[vA5 L],3,true⟩),(6,⟨[vA5 U],3,true⟩)] [] 7 zdd zsm trivial ⟨[0,1,2,3,4,5,6],[],[],[],ttt,⟨apx,apx,apx,rAI,apx,apx,apx,rAK,apx,rAK,zAJ rfl (by rw[<- hon]; unfold onP; rw[rA0]; clear sl su cd1 cd2 hL hU hlw hup hvv hp hD1 hD2 cv cl cu cnl cnu c6 c8 c9 c10 c11 c12 hpu; simp_all),rGU⟩,⟨bbx,bbx,bbx,bbx,bbx,bbx,bbx,rGU⟩,rAA⟩ ?_; exact H9
  .refine zAA sl rfl ?_
   refine sus ?_;refine vBW [] [(2,.ptr 0 0 0),(3,.ptr 1 0 0),(4,.ptr 2 0 0),(6,.int .i64 r.index),(7,.ptr 3 0 0),(8,.ptr 4 0 0),(9,.ptr 5 0 0),(10,.bool lw),(11,.ptr 6 0 0),(12,.bool up),(13,.bool on)] [(0,⟨[vBD S],12,true⟩),(1,⟨[vBI r],4,true⟩),(2,⟨[.agg [.nilsl,.bool false,.nilsl,.nilsl]],4,true⟩),(3,⟨[vBP v],4,true⟩),(4,⟨[vBP p],4,true⟩),(5,⟨[vA5 L],3,true⟩),(6,⟨[vA5 U],3,true⟩)] [] 7 zdd zsm trivial ⟨[0,1,2,3,4,5,6],[],[],[],ttt,⟨apx,apx,apx,rAI,apx,apx,apx,rAK,apx,rAK,zAJ rfl (by rw[<- hon]; unfold onP; rw[rA0]; clear sl su cd1 cd2 hL hU hlw hup hvv hp hD1 hD2 cv cl cu cnl cnu c6 c8 c9 c10 c11 c12 hpu; simp_all),rGU⟩,⟨bbx,bbx,bbx,bbx,bbx,bbx,bbx,rGU⟩,rAA⟩ ?_; exact H9
  .refine vBW [] [(2,.ptr 0 0 0),(3,.ptr 1 0 0),(4,.ptr 2 0 0),(6,.int .i64 r.index),(7,.ptr 3 0 0),(8,.ptr 4 0 0),(9,.ptr 5 0 0),(10,.bool lw),(11,.ptr 6 0 0),(12,.bool up),(13,.bool on)] [(0,⟨[vBD S],12,true⟩),(1,⟨[vBI r],4,true⟩),(2,⟨[.agg [.nilsl,.bool false,.nilsl,.nilsl]],4,true⟩),(3,⟨[vBP v],4,true⟩),(4,⟨[vBP p],4,true⟩),(5,⟨[vA5 L],3,true⟩),(6,⟨[vA5 U],3,true⟩)] [] 7 zdd zsm trivial ⟨[0,1,2,3,4,5,6],[],[],[],ttt,⟨apx,apx,apx,rAI,apx,apx,apx,rAK,apx,rAK,zAJ rfl (by rw[<- hon]; unfold onP; rw[rA0]; clear sl su cd1 cd2 hL hU hlw hup hvv hp hD1 hD2 cv cl cu cnl cnu c6 c8 c9 c10 c11 c12 hpu; simp_all),rGU⟩,⟨bbx,bbx,bbx,bbx,bbx,bbx,bbx,rGU⟩,rAA⟩ ?_; exact H9
  .refine vBW [] [(2,.ptr 0 0 0),(3,.ptr 1 0 0),(4,.ptr 2 0 0),(6,.int .i64 r.index),(7,.ptr 3 0 0),(8,.ptr 4 0 0),(9,.ptr 5 0 0),(10,.bool lw),(11,.ptr 6 0 0),(12,.bool up),(13,.bool on)] [(0,⟨[vBD S],12,true⟩),(1,⟨[vBI r],4,true⟩),(2,⟨[.agg [.nilsl,.bool false,.nilsl,.nilsl]],4,true⟩),(3,⟨[vBP v],4,true⟩),(4,⟨[vBP p],4,true⟩),(5,⟨[vA5 L],3,true⟩),(6,⟨[vA5 U],3,true⟩)] [] 7 zdd zsm trivial ⟨[0,1,2,3,4,5,6],[],[],[],ttt,⟨apx,apx,apx,rAI,apx,apx,apx,rAK,apx,rAK,zAJ rfl (by rw[<- hon]; unfold onP; rw[rA0]; clear sl su cd1 cd2 hL hU hlw hup hvv hp hD1 hD2 cv cl cu cnl cnu c6 c8 c9 c10 c11 c12 hpu; simp_all),rGU⟩,⟨bbx,bbx,bbx,bbx,bbx,bbx,bbx,rGU⟩,rAA⟩ ?_; exact H9
 refine vVK ⟨sv [(2,.ptr 0 0 0),(3,.ptr 1 0 0),(4,.ptr 2 0 0),(6,.int .i64 r.index),(7,.ptr 3 0 0),(8,.ptr 4 0 0),(9,.ptr 5 0 0),(10,.bool lw),(11,.ptr 6 0 0),(12,.bool up),(13,.bool on),(14,.bool off)],hv [(0,⟨[vBD S],12,true⟩),(1,⟨[vBI r],4,true⟩),(2,⟨[.agg [.nilsl,.bool false,.nilsl,.nilsl]],4,true⟩),(3,⟨[vBP v],4,true⟩),(4,⟨[vBP p],4,true⟩),(5,⟨[vA5 L],3,true⟩),(6,⟨[vA5 U],3,true⟩)],zv [],7⟩ ?_ fun H10=>?_
 rotate_left
 ·(repeat' (first|refine stu ?_|with_reducible(refine brr ?_ ?_<;>intro h)));all_goals try(conv=>whnf)
  .refine zAA cd2 rfl ?_
   (repeat' (first|refine stu ?_|with_reducible(refine brr ?_ ?_<;>intro h)));all_goals try(conv=>whnf)
   .refine vBW [] [(2,.ptr 0 0 0),(3,.ptr 1 0 0),(4,.ptr 2 0 0),(6,.int .i64 r.index),(7,.ptr 3 0 0),(8,.ptr 4 0 0),(9,.ptr 5 0 0),(10,.bool lw),(11,.ptr 6 0 0),(12,.bool up),(13,.bool on),(14,.bool off)] [(0,⟨[vBD S],12,true⟩),(1,⟨[vBI r],4,true⟩),(2,⟨[.agg [.nilsl,.bool false,.nilsl,.nilsl]],4,true⟩),(3,⟨[vBP v],4,true⟩),(4,⟨[vBP p],4,true⟩),(5,⟨[vA5 L],3,true⟩),(6,⟨[vA5 U],3,true⟩)] [] 7 zdd zsm trivial ⟨[0,1,2,3,4,5,6],[],[],[],ttt,⟨apx,apx,apx,rAI,apx,apx,apx,rAK,apx,rAK,rAK,zAJ rfl (by rw[<- hoff]; unfold vFJ; rw[rA0]; clear sl su cd1 cd2 hL hU hlw hup hvv hp hD1 hD2 cv cl cu cnl cnu c6 c8 c9 c10 c11 c12 hpu; simp_all),rGU⟩,⟨bbx,bbx,bbx,bbx,bbx,bbx,bbx,rGU⟩,rAA⟩ ?_; exact H10
   .refine zAA su rfl ?_
    refine sus ?_;refine vBW [] [(2,.ptr 0 0 0),(3,.ptr 1 0 0),(4,.ptr 2 0 0),(6,.int .i64 r.index),(7,.ptr 3 0 0),(8,.ptr 4 0 0),(9,.ptr 5 0 0),(10,.bool lw),(11,.ptr 6 0 0),(12,.bool up),(13,.bool on),(14,.bool off)] [(0,⟨[vBD S],12,true⟩),(1,⟨[vBI r],4,true⟩),(2,⟨[.agg [.nilsl,.bool false,.nilsl,.nilsl]],4,true⟩),(3,⟨[vBP v],4,true⟩),(4,⟨[vBP p],4,true⟩),(5,⟨[vA5 L],3,true⟩),(6,⟨[vA5 U],3,true⟩)] [] 7 zdd zsm trivial ⟨[0,1,2,3,4,5,6],[],[],[],ttt,⟨apx,apx,apx,rAI,apx,apx,apx,rAK,apx,rAK,rAK,zAJ rfl (by rw[<- hoff]; unfold vFJ; rw[rA0]; clear sl su cd1 cd2 hL hU hlw hup hvv hp hD1 hD2 cv cl cu cnl cnu c6 c8 c9 c10 c11 c12 hpu; simp_all),rGU⟩,⟨bbx,bbx,bbx,bbx,bbx,bbx,bbx,rGU⟩,rAA⟩ ?_; exact H10
   .refine vBW [] [(2,.ptr 0 0 0),(3,.ptr 1 0 0),(4,.ptr 2 0 0),(6,.int .i64 r.index),(7,.ptr 3 0 0),(8,.ptr 4 0 0),(9,.ptr 5 0 0),(10,.bool lw),(11,.ptr 6 0 0),(12,.bool up),(13,.bool on),(14,.bool off)] [(0,⟨[vBD S],12,true⟩),(1,⟨[vBI r],4,true⟩),(2,⟨[.agg [.nilsl,.bool false,.nilsl,.nilsl]],4,true⟩),(3,⟨[vBP v],4,true⟩),(4,⟨[vBP p],4,true⟩),(5,⟨[vA5 L],3,true⟩),(6,⟨[vA5 U],3,true⟩)] [] 7 zdd zsm trivial ⟨[0,1,2,3,4,5,6],[],[],[],ttt,⟨apx,apx,apx,rAI,apx,apx,apx,rAK,apx,rAK,rAK,zAJ rfl (by rw[<- hoff]; unfold vFJ; rw[rA0]; clear sl su cd1 cd2 hL hU hlw hup hvv hp hD1 hD2 cv cl cu cnl cnu c6 c8 c9 c10 c11 c12 hpu; simp_all),rGU⟩,⟨bbx,bbx,bbx,bbx,bbx,bbx,bbx,rGU⟩,rAA⟩ ?_; exact H10
  .refine zAA su rfl ?_
   refine sus ?_;refine vBW [] [(2,.ptr 0 0 0),(3,.ptr 1 0 0),(4,.ptr 2 0 0),(6,.int .i64 r.index),(7,.ptr 3 0 0),(8,.ptr 4 0 0),(9,.ptr 5 0 0),(10,.bool lw),(11,.ptr 6 0 0),(12,.bool up),(13,.bool on),(14,.bool off)] [(0,⟨[vBD S],12,true⟩),(1,⟨[vBI r],4,true⟩),(2,⟨[.agg [.nilsl,.bool false,.nilsl,.nilsl]],4,true⟩),(3,⟨[vBP v],4,true⟩),(4,⟨[vBP p],4,true⟩),(5,⟨[vA5 L],3,true⟩),(6,⟨[vA5 U],3,true⟩)] [] 7 zdd zsm trivial ⟨[0,1,2,3,4,5,6],[],[],[],ttt,⟨apx,apx,apx,rAI,apx,apx,apx,rAK,apx,rAK,rAK,zAJ rfl (by rw[<- hoff]; unfold vFJ; rw[rA0]; clear sl su cd1 cd2 hL hU hlw hup hvv hp hD1 hD2 cv cl cu cnl cnu c6 c8 c9 c10 c11 c12 hpu; simp_all),rGU⟩,⟨bbx,bbx,bbx,bbx,bbx,bbx,bbx,rGU⟩,rAA⟩ ?_; exact H10
  .refine vBW [] [(2,.ptr 0 0 0),(3,.ptr 1 0 0),(4,.ptr 2 0 0),(6,.int .i64 r.index),(7,.ptr 3 0 0),(8,.ptr 4 0 0),(9,.ptr 5 0 0),(10,.bool lw),(11,.ptr 6 0 0),(12,.bool up),(13,.bool on),(14,.bool off)] [(0,⟨[vBD S],12,true⟩),(1,⟨[vBI r],4,true⟩),(2,⟨[.agg [.nilsl,.bool false,.nilsl,.nilsl]],4,true⟩),(3,⟨[vBP v],4,true⟩),(4,⟨[vBP p],4,true⟩),(5,⟨[vA5 L],3,true⟩),(6,⟨[vA5 U],3,true⟩)] [] 7 zdd zsm trivial ⟨[0,1,2,3,4,5,6],[],[],[],ttt,⟨apx,apx,apx,rAI,apx,apx,apx,rAK,apx,rAK,rAK,zAJ rfl (by rw[<- hoff]; unfold vFJ; rw[rA0]; clear sl su cd1 cd2 hL hU hlw hup hvv hp hD1 hD2 cv cl cu cnl cnu c6 c8 c9 c10 c11 c12 hpu; simp_all),rGU⟩,⟨bbx,bbx,bbx,bbx,bbx,bbx,bbx,rGU⟩,rAA⟩ ?_; exact H10
  .refine vBW [] [(2,.ptr 0 0 0),(3,.ptr 1 0 0),(4,.ptr 2 0 0),(6,.int .i64 r.index),(7,.ptr 3 0 0),(8,.ptr 4 0 0),(9,.ptr 5 0 0),(10,.bool lw),(11,.ptr 6 0 0),(12,.bool up),(13,.bool on),(14,.bool off)] [(0,⟨[vBD S],12,true⟩),(1,⟨[vBI r],4,true⟩),(2,⟨[.agg [.nilsl,.bool false,.nilsl,.nilsl]],4,true⟩),(3,⟨[vBP v],4,true⟩),(4,⟨[vBP p],4,true⟩),(5,⟨[vA5 L],3,true⟩),(6,⟨[vA5 U],3,true⟩)] [] 7 zdd zsm trivial ⟨[0,1,2,3,4,5,6],[],[],[],ttt,⟨apx,apx,apx,rAI,apx,apx,apx,rAK,apx,rAK,rAK,zAJ rfl (by rw[<- hoff]; unfold vFJ; rw[rA0]; clear sl su cd1 cd2 hL hU hlw hup hvv hp hD1 hD2 cv cl cu cnl cnu c6 c8 c9 c10 c11 c12 hpu; simp_all),rGU⟩,⟨bbx,bbx,bbx,bbx,bbx,bbx,bbx,rGU⟩,rAA⟩ ?_; exact H10
 refine vVK ⟨sv [(2,.ptr 0 0 0),(3,.ptr 1 0 0),(4,.ptr 2 0 0),(6,.int .i64 r.index),(7,.ptr 3 0 0),(8,.ptr 4 0 0),(9,.ptr 5 0 0),(10,.bool lw),(11,.ptr 6 0 0),(12,.bool up),(13,.bool on),(14,.bool off),(15,.bool pl)],hv [(0,⟨[vBD S],12,true⟩),(1,⟨[vBI r],4,true⟩),(2,⟨[.agg [.nilsl,.bool false,.nilsl,.nilsl]],4,true⟩),(3,⟨[vBP v],4,true⟩),(4,⟨[vBP p],4,true⟩),(5,⟨[vA5 L],3,true⟩),(6,⟨[vA5 U],3,true⟩)],zv [],7⟩ ?_ fun H11=>?_
 rotate_left
 ·(repeat' (first|refine stu ?_|with_reducible(refine brr ?_ ?_<;>intro h)));all_goals try(conv=>whnf)
  all_goals (refine vBW [] [(2,.ptr 0 0 0),(3,.ptr 1 0 0),(4,.ptr 2 0 0),(6,.int .i64 r.index),(7,.ptr 3 0 0),(8,.ptr 4 0 0),(9,.ptr 5 0 0),(10,.bool lw),(11,.ptr 6 0 0),(12,.bool up),(13,.bool on),(14,.bool off),(15,.bool pl)] [(0,⟨[vBD S],12,true⟩),(1,⟨[vBI r],4,true⟩),(2,⟨[.agg [.nilsl,.bool false,.nilsl,.nilsl]],4,true⟩),(3,⟨[vBP v],4,true⟩),(4,⟨[vBP p],4,true⟩),(5,⟨[vA5 L],3,true⟩),(6,⟨[vA5 U],3,true⟩)] [] 7 zdd zsm trivial ⟨[0,1,2,3,4,5,6],[],[],[],ttt,⟨apx,apx,apx,rAI,apx,apx,apx,rAK,apx,rAK,rAK,rAK,zAJ rfl (by rw[<- hpl]; unfold vDV; rw[rA0]; clear sl su cd1 cd2 hL hU hlw hup hvv hp hD1 hD2 cv cl cu cnl cnu c6 c8 c9 c10 c11 c12 hpu; simp_all),rGU⟩,⟨bbx,bbx,bbx,bbx,bbx,bbx,bbx,rGU⟩,rAA⟩ ?_; exact H11)
 clear cd1 cd2 hon hoff hpl
 (repeat' (first|refine stp ?_|with_reducible(refine brr ?_ ?_<;>intro h)));all_goals try(conv=>whnf)
 .have e:vD4 r v p L U lw up on off pl=(v,pl):=by unfold vD4; (repeat rw[rAN zom]); rw[rAV zom]
  exact zAB rfl (by rw[e]; rfl)
 .have e:vD4 r v p L U lw up on off pl=(vCD v p,pl):=by unfold vD4; (repeat rw[rAN zom]); rw[rAV zom]
  refine zAA c6 rfl ?_;refine sts ?_;exact zAB rfl (by rw[e]; rfl)
 .have e:vD4 r v p L U lw up on off pl=(p,on):=by unfold vD4; (repeat rw[rAN zom]); rw[rAV zom]
  exact zAB rfl (by rw[e]; rfl)
 .have e:vD4 r v p L U lw up on off pl=(vCD p v,on):=by unfold vD4; (repeat rw[rAN zom]); rw[rAV zom]
  refine zAA c8 rfl ?_;refine sts ?_;exact zAB rfl (by rw[e]; rfl)
 .have e:vD4 r v p L U lw up on off pl=(vDC p (-1),off):=by unfold vD4; (repeat rw[rAN zom]); rw[rAV zom]
  refine zAA c9 rfl ?_;refine sts ?_;exact zAB rfl (by rw[e]; rfl)
 .have e:vD4 r v p L U lw up on off pl=(vDC v (-1),off):=by unfold vD4; (repeat rw[rAN zom]); rw[rAV zom]
  refine zAA c10 rfl ?_;refine sts ?_;exact zAB rfl (by rw[e]; rfl)
 .have e:vD4 r v p L U lw up on off pl=(vCD p (vBN (qv L)),lw && decide (r.hi=0)):=by unfold vD4; (repeat rw[rAN zom]); rw[rAV zom]
  refine zAA cnl rfl ?_;refine sts ?_;refine zAA c11 rfl ?_
  refine gob ?_ ?_<;>intro h
  .have hb:(lw && decide (r.hi=0))=(r.hi == 0):=by rw[show lw=true by assumption,rDP,rA0]; simp
   exact zAB rfl (by rw[e,hb]; rfl)
  .have hb:(lw && decide (r.hi=0))=false:=by rw[show lw=false by assumption,Bool.false_and]
   exact zAB rfl (by rw[e,hb]; rfl)
 .have e:vD4 r v p L U lw up on off pl=(vCD (vBN (qv U)) p,up && decide (r.lo=0)):=by unfold vD4; (repeat rw[rAN zom]); rw[rAV zom]
  refine zAA cnu rfl ?_;refine sts ?_;refine zAA c12 rfl ?_
  refine gob ?_ ?_<;>intro h
  .have hb:(up && decide (r.lo=0))=(r.lo == 0):=by rw[show up=true by assumption,rDP,rA0]; simp
   exact zAB rfl (by rw[e,hb]; rfl)
  .have hb:(up && decide (r.lo=0))=false:=by rw[show up=false by assumption,Bool.false_and]
   exact zAB rfl (by rw[e,hb]; rfl)
 .have hlw1:lw=true:=by assumption
  have hup1:up=true:=by assumption
  refine zAA sl rfl ?_
  refine gob ?_ ?_<;>intro h
  .have e:vD4 r v p L U lw up on off pl=(zeroQ,false):=by unfold vD4; repeat rw[rAN zom]
   exact zAB rfl (by rw[e,<- zA8])
  .refine zAA su rfl ?_
   refine gob ?_ ?_<;>intro h
   .have e:vD4 r v p L U lw up on off pl=(zeroQ,false):=by unfold vD4; repeat rw[rAN zom]
    exact zAB rfl (by rw[e,<- zA8])
   .have e:vD4 r v p L U lw up on off pl=(uGK v p (qv L) (qv U),true):=by unfold vD4; (repeat rw[rAN zom]); rw[rAV ⟨zom,hlw1,hup1,zom,zom⟩]
    have z1:szF (P+V+3) (vCD p (vBN (qv L))):=zEW szp (zD0 szL) zom;have q1:=zKZ (vCD p (vBN (qv L))) (qv U) _ _ z1 szU zom (rBU zH1 lp);rw[hUc]at q1;have q2:=uNI U L hUk.1 hLk.1 (by have:=hUk.2; omega) (by have:=hUk.2; omega) (by have:=hLk.2; omega) (by have:=hLk.2; omega);have z2:sz (2 * V+4) (qv U - qv L):=zIW zom (vT3 szU szL);have q3:=zKZ v (qv U - qv L) _ _ szv z2 zom zom;have z3:szF (P+2 * V+8) (vDC (vCD p (vBN (qv L))) (qv U)):=zGD z1 szU zom;have z4:szF (2 * V+8) (vDC v (qv U - qv L)):=zGD szv z2 zom;have q4:=zHA (vDC (vCD p (vBN (qv L))) (qv U)) (vDC v (qv U - qv L)) _ _ z3 z4 zom (rBU zIX (rBU zH1 lp)) (rBU zIX zom);refine zAA cnl rfl ?_;refine sts ?_;refine zAA c11 rfl ?_;refine sts ?_;refine zAA q1 rfl ?_;refine sts ?_;refine zAA q2 rfl ?_;refine sts ?_;refine zAA q3 rfl ?_;refine sts ?_;refine zAA q4 rfl ?_;refine sts ?_;exact zAB rfl (by rw[e]; rfl)
 .have e:vD4 r v p L U lw up on off pl=(zeroQ,false):=by unfold vD4; (repeat rw[rAN zom]); rw[rAN (fun q=>by have:=q.2.2.1; simp_all)]
  exact zAB rfl (by rw[e,<- zA8])
 .have e:vD4 r v p L U lw up on off pl=(zeroQ,false):=by unfold vD4; (repeat rw[rAN zom]); rw[rAN (fun q=>by have:=q.2.1; simp_all)]
  exact zAB rfl (by rw[e,<- zA8])
 .have e:vD4 r v p L U lw up on off pl=(zeroQ,false):=by unfold vD4; repeat rw[rAN zom]
  exact zAB rfl (by rw[e,<- zA8])
theorem zK2{S:ScpL}{n j:Int}{up:Bool}(h:vCQ S n j up=true):vDB S n j up=some (qv (vD6 S n)):=by
 unfold vCQ at h;simp only[rAO,rAX]at h;unfold vDB vD6;rw[rAV ⟨h.1.1,h.1.2,h.2.1,h.2.2⟩,rAV h.1]
theorem zIM{S:ScpL}{n j:Int}{up:Bool}(h:vCQ S n j up=false):vDB S n j up=none:=by
 unfold vDB;rw[rAN]
 rintro⟨h1,h2,h3,h4⟩
 unfold vCQ at h;rw[rB1 (show 1<=n/\n<=S.lems.length from⟨h1,h2⟩),rB1 h3,rB1 h4]at h;cases h
theorem uFY{S:ScpL}{n j:Int}{up:Bool}:geO (vDB S n j up)=(vCQ S n j up && decide (0<=vDK (qv (vD6 S n)))):=by
 cases h:vCQ S n j up with
 | true=>rw[zK2 h]; simp only[geO,rDP]; exact rCW.2 sgnQ_nn'.symm
 | false=>rw[zIM h]; rfl
theorem uFT{S:ScpL}{n j:Int}{up:Bool}:leO (vDB S n j up)=(vCQ S n j up && decide (vDK (qv (vD6 S n))<=0)):=by
 cases h:vCQ S n j up with
 | true =>
   rw[zK2 h]; simp only[leO,rDP];refine rCW.2 ?_;rw[<- Int.not_lt,sgnQ_pos,rFV]
 | false=>rw[zIM h]; rfl
theorem uDR{S:ScpL}{r:RowL}(hk:5<=r.kind)(hi:0<=r.index/\r.index<S.q.g.units.length):vDJ S r =
 (if (vD4 r (vCM (S.q.g.ins+r.index)) S.q.g.units[r.index.toNat]!.Q (vD6 S r.lo) (vD6 S r.hi) (vCQ S r.lo r.index false) (vCQ S r.hi r.index true) (onP r (vD6 S r.lo) (vCQ S r.lo r.index false) (vE1 S 1 r.index)) (vFJ r (vD6 S r.hi) (vCQ S r.hi r.index true) (vE1 S 2 r.index)) (vDV r)).2=true
   then some (vD4 r (vCM (S.q.g.ins+r.index)) S.q.g.units[r.index.toNat]!.Q (vD6 S r.lo) (vD6 S r.hi) (vCQ S r.lo r.index false) (vCQ S r.hi r.index true) (onP r (vD6 S r.lo) (vCQ S r.lo r.index false) (vE1 S 1 r.index)) (vFJ r (vD6 S r.hi) (vCQ S r.hi r.index true) (vE1 S 2 r.index)) (vDV r)).1 else none):=by
 have hon:onB S r=onP r (vD6 S r.lo) (vCQ S r.lo r.index false) (vE1 S 1 r.index):=by unfold onB onP; rw[uFY]
 have hoff:vXG S r=vFJ r (vD6 S r.hi) (vCQ S r.hi r.index true) (vE1 S 2 r.index):=by unfold vXG vFJ; rw[uFT]
 have hpl:(r.lo=0/\r.hi=0)↔vDV r=true:=by unfold vDV; simp
 have bl:∀ {g:QF} {b:Bool},vDB S r.lo r.index false=(if vCQ S r.lo r.index false=true then some (qv (vD6 S r.lo)) else none):=by
  intro g b;cases h:vCQ S r.lo r.index false with
  | true=>rw[rAV rfl,zK2 h]
  | false=>rw[rAN zdd,zIM h]
 have bu:vDB S r.hi r.index true=(if vCQ S r.hi r.index true=true then some (qv (vD6 S r.hi)) else none):=by
  cases h:vCQ S r.hi r.index true with
  | true=>rw[rAV rfl,zK2 h]
  | false=>rw[rAN zdd,zIM h]
 unfold vDJ unO;rw[rAN zom,rAN zom,hon,hoff,bl (g:=zeroQ) (b:=true),bu];generalize onP r (vD6 S r.lo) (vCQ S r.lo r.index false) (vE1 S 1 r.index)=on;generalize vFJ r (vD6 S r.hi) (vCQ S r.hi r.index true) (vE1 S 2 r.index)=off;generalize vCQ S r.lo r.index false=lw;generalize vCQ S r.hi r.index true=up;generalize vD6 S r.lo=L;generalize vD6 S r.hi=U;generalize vCM (S.q.g.ins+r.index)=v;generalize S.q.g.units[r.index.toNat]!.Q=p;unfold vD4;by_cases k5:r.kind=5
 .rw[rAV k5,rAV k5]; simp only[hpl]
 rw[rAN k5,rAN k5];by_cases k6:r.kind=6
 .rw[rAV k6,rAV k6]; simp only[hpl]
 rw[rAN k6,rAN k6];by_cases k7:r.kind=7
 .rw[rAV k7,rAV k7]
 rw[rAN k7,rAN k7];by_cases k8:r.kind=8
 .rw[rAV k8,rAV k8]
 rw[rAN k8,rAN k8];by_cases k9:r.kind=9
 .rw[rAV k9,rAV k9]
 rw[rAN k9,rAN k9];by_cases k10:r.kind=10
 .rw[rAV k10,rAV k10]
 rw[rAN k10,rAN k10];by_cases k11:r.kind=11
 .rw[rAV k11,rAV k11]
  cases lw<;>simp
 rw[rAN k11,rAN k11];by_cases k12:r.kind=12
 .rw[rAV k12,rAV k12]
  cases up<;>simp
 rw[rAN k12,rAN k12];by_cases k13:r.kind=13
 .rw [rAV k13]
  cases lw
  .simp
  .cases up
   .simp
   .simp only[rCH,k13,rEB]
    by_cases hc:vDK (qv L)<0/\0<vDK (qv U)
    .rw[rAV (show qv L<0/\0<qv U from⟨sgnQ_neg.1 hc.1,sgnQ_pos.1 hc.2⟩),rAV hc]; rfl
    .rw[rAN (show ¬ (qv L<0/\0<qv U) from fun e=>hc ⟨sgnQ_neg.2 e.1,sgnQ_pos.2 e.2⟩),rAN hc]; rfl
 .have e13:(if r.kind=13/\lw=true/\up=true/\vDK (qv L)<0/\0<vDK (qv U) then(uGK v p (qv L) (qv U),true) else(zeroQ,false))=(zeroQ,false):=rAN (fun e=>k13 e.1)
  rw[rAN k13,e13]; rfl
theorem vJY:FO 137 Tryz.f137 [.cell 4 46,.tmp 5] 206:=mkO Tryz.func137 Tryz.ntmps137 Tryz.results137
theorem uKH(S:ScpL)(r:RowL)(P V:Nat)(hS:vB7 S)(hz:szS S P V):∃ f b,((b=true/\vDJ S r=some f)\/(b=false/\vDJ S r=none))/\Fn 137 [vBD S,vBI r] (.data (.tup [vBP f,.bool b])):=by
 have hnu:=hS.1.1.2.1;by_cases hk:r.kind<5
 .have ci:=uPS S r P V hS hz
  refine⟨(inO S r).getD zeroQ,(inO S r).isSome,?_,?_⟩
  .unfold vDJ
   rw[rAV hk];cases inO S r with
   | none=>exact rAY ⟨rfl,rfl⟩
   | some f=>exact rAW ⟨rfl,rfl⟩
  .generalize (inO S r).getD zeroQ=f at *
   generalize (inO S r).isSome=b at *
   refine zAK vBC hT vJY (by simp[vBD,vBI]) ?_
   (repeat' (first|refine stp ?_|with_reducible(refine brr ?_ ?_<;>intro h)));all_goals try(conv=>whnf)
   all_goals try (exfalso; omega)
   refine zAA ci rfl ?_;refine sts ?_;exact rGV
 .by_cases hi:0<=r.index/\r.index<S.q.g.units.length
  .have c:=uEK S r P V hS hz zom hi _ _ _ _ _ _ _ _ _ _ _ rfl rfl rfl rfl rfl rfl rfl rfl rfl rfl rfl
   have e:=uDR (S:=S) (r:=r) zom hi;refine⟨_,_,?_,c⟩;rw[e];cases h:(vD4 r (vCM (S.q.g.ins+r.index)) S.q.g.units[r.index.toNat]!.Q (vD6 S r.lo) (vD6 S r.hi) (vCQ S r.lo r.index false) (vCQ S r.hi r.index true) (onP r (vD6 S r.lo) (vCQ S r.lo r.index false) (vE1 S 1 r.index)) (vFJ r (vD6 S r.hi) (vCQ S r.hi r.index true) (vE1 S 2 r.index)) (vDV r)).2 with
   | true=>exact rAW ⟨rfl,rfl⟩
   | false=>exact rAY ⟨rfl,rfl⟩
  .refine⟨zeroQ,false,rAY ⟨rfl,?_⟩,?_⟩
   .unfold vDJ unO; rw[rAN hk,rAV zom]
   .refine zAK vBC hT vJY (by simp[vBD,vBI]) ?_
    (repeat' (first|refine stp ?_|with_reducible(refine brr ?_ ?_<;>intro h)));all_goals try(conv=>whnf)
    all_goals try (exfalso; omega)
    all_goals exact zAB rfl (by rw[<- zA8])
end Go.PI.Tryz
