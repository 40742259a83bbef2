/-
  The checker: rows, derivations.
-/
import Derived.Test.YtbelmkceegmdjaaGreatDoorKGA
set_option linter.unusedVariables false
set_option linter.unusedSimpArgs false
set_option linter.unnecessarySimpa false
set_option maxHeartbeats 0
namespace Go.PI.Tryz
open Go.Proofs Go.PI
theorem vYR(v:Int):vBP (vCN v)=.agg [.imm [vIN (v,1)],.bool false,.imm [],.imm []]:=by unfold vBP vCN; rw[zN9]; rfl
theorem uI5:FO 164 Tryz.f164 [.cell 2 46] 8:=mkO Tryz.func164 Tryz.ntmps164 Tryz.results164
theorem vQW(v:Int):Fn 164 [.int .i64 v] (.data (vBP (vCN v))):=by
 have c1:=uK1 1 zdd;rw[show((1:Int):Rat)=1 by rfl]at c1;rw[vYR];refine zAL vBC hT uI5 zsm ?_;refine sts ?_;refine zAA c1 rfl ?_;refine sts ?_;exact rGV
theorem uI9:FO 100 Tryz.f100 [.cell 2 46] 6:=mkO Tryz.func100 Tryz.ntmps100 Tryz.results100
theorem zP3(c:RatL)(k:Nat)(hc:okQ k c)(hk:k<=950000000):Fn 100 [vA5 c] (.data (vBP (vBN (qv c)))):=by
 have c1:=zM8 c hc.1 (by have:=hc.2; omega) (by have:=hc.2; omega);refine zAL vBC hT uI9 (by simp[vA5]) ?_;refine sts ?_;refine zAA c1 rfl ?_;refine sts ?_;exact rGV
theorem vXE:FO 101 Tryz.f101 [.cell 2 46] 6:=mkO Tryz.func101 Tryz.ntmps101 Tryz.results101
theorem vIC(f:QF)(k:Nat)(hf:szF k f)(hk:k<=900000000)(hl:f.ts.length<=1048576):Fn 101 [vBP f] (.data (vBP (vDE f (-1)))):=by
 have c1:=uK1 (-1) zdd;rw[show(((-1:Int)):Rat)=-1 by rfl]at c1;have c2:=zKZ f (-1) k 1 hf (zE7 (z:=-1) zdd) zom hl;refine zAL vBC hT vXE (by simp[vBP]) ?_;refine sts ?_;refine zAA c1 rfl ?_;refine sts ?_;refine zAA c2 rfl ?_;refine sts ?_;exact rGV
theorem uC5:FO 68 Tryz.f68 [.tmp 4] 61:=mkO Tryz.func68 Tryz.ntmps68 Tryz.results68
theorem uK4(q:QryL)(d:DecL)(hu:q.g.units.length<=1048576)(hd:okQ 950000000 d.rat):Fn 68 [vBJ q,vA9 d] (.data (.bool (dB (vFH q d)))):=by
 have cv:=zG6 d.rat hd.1 (by have:=hd.2; omega) (by have:=hd.2; omega);have l2:=hd.2.1;have l3:=hd.2.2;have bad:¬ vFH q d->false=dB (vFH q d):=zGR;refine zAL vBC hT uC5 (by simp[vBJ,vA9]) ?_
 (repeat' (first|refine stp ?_|with_reducible(refine brr ?_ ?_<;>intro h)));all_goals try(conv=>whnf)
 all_goals try (refine zAB rfl (rA3 PV.bool (bad fun e=>?_)); rcases e with⟨e1,e2,e3,e4,e5,e6⟩ | ⟨e1,e2,e3,e4⟩<;>first | omega | (simp_all; done))
 all_goals first
  | (refine zAA cv rfl ?_
     refine sts ?_;refine zAB rfl (rA3 PV.bool ?_);rw[rA1,dB_true,rAY]
     exact⟨fun e=>rA0 ⟨zom,zom,zom,e⟩,fun e=>by rcases e with⟨e1,_⟩ | ⟨_,_,_,e4⟩; (exfalso; omega); exact e4⟩)
  | (refine zAB rfl (rA3 PV.bool ?_)
     rw[rA1,dB_true,rDJ];simp only[rAN]
     exact⟨fun e=>rAW ⟨zom,zom,zom,by assumption,zom,zom⟩,fun e=>by rcases e with⟨_,_,_,_,_,e6⟩ | ⟨e1,_⟩; omega; (exfalso; omega)⟩)
theorem uI8:FO 69 Tryz.f69 [.cell 2 28] 16:=mkO Tryz.func69 Tryz.ntmps69 Tryz.results69
theorem uOB(d:DecL)(hk:1<=d.kind/\d.kind<=4):Fn 69 [vA9 d] (.data (vA9 (opp d))):=by
 refine zAL vBC hT uI8 (by simp[vA9]) ?_
 (repeat' (first|refine stp ?_|with_reducible(refine brr ?_ ?_<;>intro h)));all_goals try(conv=>whnf)
 all_goals refine zAB rfl ?_
 all_goals (unfold vA9 opp uLO; simp only[PV.agg.injEq,rF6,PV.int.injEq,rEM,rE9])
 all_goals (repeat' split)<;>omega
theorem uJA:FO 166 Tryz.f166 [.tmp 6] 27:=mkO Tryz.func166 Tryz.ntmps166 Tryz.results166
theorem uGT(S:ScpL)(k j:Int)(hp:S.path.length<=1048576):Fn 166 [vBD S,.int .i64 k,.int .i64 j] (.data (.bool (vEJ S k j))):=by
 refine zAL vBC hT uJA (by simp[vBD]) ?_;refine sts ?_
 refine zAN hT (fun(i:Nat)=>[(1,.int .i64 k),(2,.int .i64 j),(10,.imm (S.path.map vA9)),(11,.int .i64 S.path.length),(12,.int .i64 i)]) (fun _=>[]) [] 1
  (fun i=>i<=S.path.length/\∀ m,m<i->¬ (S.path[m]!.kind=k/\S.path[m]!.index=j)) (fun i=>S.path.length - i) 0 ⟨rA7 _,fun m h=>by omega⟩ zdd zsm ?_ ?_
 .exact⟨[0],[],[],[],ttt,⟨rAI,rAI,rAJ,zAC rfl zsm,rAI,rGU⟩,rGU,rAA⟩
 intro i ⟨i1,i2⟩;by_cases hi:i<S.path.length
 .have hm:S.path[i]! ∈ S.path:=get_mem hi
  (repeat' (first|refine stp ?_|with_reducible(refine brr ?_ ?_<;>intro h)));all_goals try(conv=>whnf)
  all_goals try (exfalso; omega)
  all_goals first
   | (refine zAB rfl (rA3 PV.bool ?_)
      refine(rCY.2 ⟨_,hm,?_⟩).symm;simp only[rAO,rAY]
      exact⟨by assumption,rAC⟩)
   | exact⟨i+1,⟨⟨zom,fun m hm=>zA6 (p:=fun m=>¬ (S.path[m]!.kind=k/\S.path[m]!.index=j)) i2 zom hm⟩,by show S.path.length - (i+1)<S.path.length - i; omega⟩,[0],[],[],[],ttt,⟨rAI,rAI,rAJ,rAI,rAI,rGU⟩,rGU,rAA⟩
   | skip
 ·(repeat' (first|refine stp ?_|with_reducible(refine brr ?_ ?_<;>intro h)));all_goals try(conv=>whnf)
  all_goals try (exfalso; omega)
  refine zAB rfl (rA3 PV.bool ?_);refine(rC8.2 fun d hd=>?_).symm;obtain⟨m,hm,rfl⟩:=rA8 hd;have:=i2 m zom;rw[rAT S.path m hm]at this;simp only[rAO,rAY];exact this
def vD5(S:ScpL)(n:Int):RatL:=if 1<=n/\n<=S.lems.length then S.lems[n.toNat - 1]!.value else⟨false,[],[]⟩
def vCT(S:ScpL)(n j:Int)(up:Bool):Bool:=decide (1<=n/\n<=S.lems.length) && (decide (S.lems[n.toNat - 1]!.unit=j) && decide (S.lems[n.toNat - 1]!.upper=up))
theorem uJB:FO 165 Tryz.f165 [.cell 8 26,.tmp 9] 39:=mkO Tryz.func165 Tryz.ntmps165 Tryz.results165
theorem uGU(S:ScpL)(n j:Int)(up:Bool)(hl:S.lems.length<=1048576):Fn 165 [vBD S,.int .i64 n,.int .i64 j,.bool up] (.data (.tup [vA5 (vD5 S n),.bool (vCT S n j up)])):=by
 refine zAL vBC hT uJB (by simp[vBD]) ?_
 (repeat' (first|refine stp ?_|with_reducible(refine brr ?_ ?_<;>intro h)));all_goals try(conv=>whnf)
 .have e1:vD5 S n=⟨false,[],[]⟩:=rAM (fun e=>by omega)
  have e2:vCT S n j up=false:=by unfold vCT; rw[rBD (fun e=>by omega)]; rfl
  rw[e1,e2]; exact rGV
 .have e1:vD5 S n=⟨false,[],[]⟩:=rAM (fun e=>by omega)
  have e2:vCT S n j up=false:=by unfold vCT; rw[rBD (fun e=>by omega)]; rfl
  rw[e1,e2]; exact rGV
 .have hlt:n.toNat - 1<S.lems.length:=by omega
  refine zA5 (j:=n.toNat - 1) (show n - 1=_ by omega) hlt ?_;have e1:vD5 S n=S.lems[n.toNat - 1]!.value:=rAU ⟨zom,zom⟩;have e2:vCT S n j up=(decide (S.lems[n.toNat - 1]!.unit=j) && decide (S.lems[n.toNat - 1]!.upper=up)):=by unfold vCT; rw[rB4 (show 1<=n/\n<=S.lems.length from⟨zom,zom⟩)]; rfl
  rw[e1,e2];generalize S.lems[n.toNat - 1]! = m at *
  refine gob ?_ ?_<;>intro h
  .refine zAB rfl ?_
   simp_all
   exact⟨rfl,by cases m.upper<;>cases up<;>rfl⟩
  .refine zAB rfl ?_
   simp_all
   rfl
theorem uC3:FO 136 Tryz.f136 [.tmp 4] 44:=mkO Tryz.func136 Tryz.ntmps136 Tryz.results136
theorem uK2(a b:RowL):Fn 136 [vBI a,vBI b] (.data (.bool (dB (vET a b)))):=by
 refine zAL vBC hT uC3 (by simp[vBI]) ?_;refine sts ?_;have no:¬ vET a b->false=dB (vET a b):=zGR
 refine zAN hT (fun(i:Nat)=>[(5,.ptr 0 0 0),(6,.ptr 1 0 0),(26,.int .i64 i)]) (fun _=>[(0,⟨[vBI a],4,true⟩),(1,⟨[vBI b],4,true⟩)]) [] 2
  (fun i=>i<=4/\(0<i->a.kind=b.kind)/\(1<i->a.index=b.index)/\(2<i->a.lo=b.lo)/\(3<i->a.hi=b.hi)) (fun i=>4 - i) 0 ⟨zom,zom,zom,zom,zom⟩ zdd zsm ?_ ?_
 .exact⟨[_,_],[],[],[],ttt,⟨(apy rfl),(apy rfl),zAC rfl rfl,rGU⟩,⟨bbx,bbx,rGU⟩,rAA⟩
 rintro i ⟨i1,i2,i3,i4,i5⟩
 obtain rfl | rfl | rfl | rfl | rfl:i=0\/i=1\/i=2\/i=3\/i=4:=by omega
 all_goals (repeat' (first|refine stp ?_|with_reducible(refine brr ?_ ?_<;>intro h)));all_goals try(conv=>whnf)
 all_goals first
  | (refine zAB rfl (rA3 PV.bool ?_)
     rw[rA1,dB_true,rAY];unfold vET
     omega)
  | (refine zAB rfl (rA3 PV.bool (no fun e=>?_))
     unfold vET at e
     omega)
  | exact⟨1,⟨⟨zom,zom,zom,zom,zom⟩,zom⟩,[0,1],[],[],[],ttt,⟨apx,apx,rAI,rGU⟩,⟨bbx,bbx,rGU⟩,rAA⟩
  | exact⟨2,⟨⟨zom,zom,zom,zom,zom⟩,zom⟩,[0,1],[],[],[],ttt,⟨apx,apx,rAI,rGU⟩,⟨bbx,bbx,rGU⟩,rAA⟩
  | exact⟨3,⟨⟨zom,zom,zom,zom,zom⟩,zom⟩,[0,1],[],[],[],ttt,⟨apx,apx,rAI,rGU⟩,⟨bbx,bbx,rGU⟩,rAA⟩
  | exact⟨4,⟨⟨zom,zom,zom,zom,zom⟩,zom⟩,[0,1],[],[],[],ttt,⟨apx,apx,rAI,rGU⟩,⟨bbx,bbx,rGU⟩,rAA⟩
  | skip
theorem sgnQ_nn'{q:Rat}:0<=vDL q↔0<=q:=by
 rw[<- Int.not_lt,sgnQ_neg,rFR]
def vEU(r:RatL):Nat:=r.num.length+r.den.length
theorem zLL{k:Nat}{r:RatL}(h:okQ k r):okQ (vEU r) r:=⟨h.1,by unfold vEU; omega,by unfold vEU; omega⟩
structure szS(S:ScpL)(P V:Nat):Prop where
 P1:1<=P
 units:∀ f∈S.q.g.units,okA P f
 lo:vXM P S.q.r.lo
 hi:vXM P S.q.r.hi
 rows:uJG P S.q.r.rows
 path:S.path.length<=1048576/\∀ d∈S.path,okQ P d.rat
 lems:S.lems.length<=1048576/\∀ m∈S.lems,okQ V m.value
 can:∀ m∈S.lems,vE0 m.value
 two:∀ i j,i<S.lems.length->j<S.lems.length->S.lems[i]!.upper=false->S.lems[j]!.upper=true->vEU S.lems[i]!.value+vEU S.lems[j]!.value<=V
 B:P+2 * V+20<=100000000
 nv:vDD S<=1280
theorem zDX{k:Nat}{q:Rat}(h:sz k q):szF k (vBN q):=⟨h,fun p hp=>by cases hp⟩
theorem zEX{f g:QF}{kf kg K:Nat}(hf:szF kf f)(hg:szF kg g)(hK:kf+kg+2<=K):szF K (vCE f g):=zJ8 hf hg (zE7 (z:=-1) zdd) zom
theorem zGF{f:QF}{c:Rat}{kf kc K:Nat}(hf:szF kf f)(hc:sz kc c)(hK:kf+kc+2<=K):szF K (vDE f c):=zJ8 (zEF 1 zdd) hf hc zom
theorem zI2{f:QF}{c:Rat}:(vDE f c).ts.length<=f.ts.length:=by
 have:=zPN (f:=zeroQ) (g:=f) (c:=c)
 simpa [zeroQ,vDE]using this
theorem zH7{f:QF}{c:Rat}:(vCE f (vBN c)).ts.length<=f.ts.length:=by
 have:=zPN (f:=f) (g:=vBN c) (c:=-1)
 simpa [vBN,vCE]using this
theorem zGH{k:Nat}{r:RatL}(h:okQ k r)(hk:1<=k):sz k (qv r):=vIX h.1 h.2.1 h.2.2 hk
section
variable {S:ScpL} {r:RowL}
theorem uGG(h:r.index<0\/r.lo≠0\/r.hi≠0):inO S r=none:=by unfold inO; rw[rAU h]
theorem uQW(h:¬ (r.index<0\/r.lo≠0\/r.hi≠0))(h1:r.kind=1/\r.index<S.q.r.lo.length):inO S r=some (vCE (vCN r.index) (vBN (qv S.q.r.lo[r.index.toNat]!))):=by unfold inO; rw[rAM h,rAU h1]
theorem uQV(h:¬ (r.index<0\/r.lo≠0\/r.hi≠0))(h1:r.kind=2/\r.index<S.q.r.hi.length):inO S r=some (vCE (vBN (qv S.q.r.hi[r.index.toNat]!)) (vCN r.index)):=by unfold inO; rw[rAM h,rAM (fun e=>by omega),rAU h1]
theorem uQU(h:¬ (r.index<0\/r.lo≠0\/r.hi≠0))(h1:r.kind=3/\r.index<S.q.r.rows.length):inO S r=some S.q.r.rows[r.index.toNat]!.Q:=by unfold inO; rw[rAM h,rAM (fun e=>by omega),rAM (fun e=>by omega),rAU h1]
theorem uQT(h:¬ (r.index<0\/r.lo≠0\/r.hi≠0))(h1:r.kind=4/\r.index<S.path.length)(h2:S.path[r.index.toNat]!.kind=3):inO S r=some (vCE (vCN S.path[r.index.toNat]!.index) (vBN (qv S.path[r.index.toNat]!.rat))):=by unfold inO; rw[rAM h,rAM (fun e=>by omega),rAM (fun e=>by omega),rAM (fun e=>by omega),rAU h1,rAU h2]
theorem uNH(h:¬ (r.index<0\/r.lo≠0\/r.hi≠0))(h1:r.kind=4/\r.index<S.path.length)(h2:S.path[r.index.toNat]!.kind=4):inO S r=some (vCE (vBN (qv S.path[r.index.toNat]!.rat)) (vCN S.path[r.index.toNat]!.index)):=by unfold inO; rw[rAM h,rAM (fun e=>by omega),rAM (fun e=>by omega),rAM (fun e=>by omega),rAU h1,rAM zom,rAU h2]
theorem vHW(h1:¬ (r.kind=1/\r.index<S.q.r.lo.length))(h2:¬ (r.kind=2/\r.index<S.q.r.hi.length))(h3:¬ (r.kind=3/\r.index<S.q.r.rows.length))(h4:¬ (r.kind=4/\r.index<S.path.length/\(S.path[r.index.toNat]!.kind=3\/S.path[r.index.toNat]!.kind=4))):inO S r=none:=by
 unfold inO;rw[rAM h1,rAM h2,rAM h3]
 split
 .rfl
 .split
  .rw[rAM (fun e=>h4 ⟨zom,zom,rAW e⟩),rAM (fun e=>h4 ⟨zom,zom,rA0 e⟩)]
  .rfl
end
theorem uMZ:FO 163 Tryz.f163 [.cell 4 46,.tmp 5] 120:=mkO Tryz.func163 Tryz.ntmps163 Tryz.results163
theorem uQB(S:ScpL)(r:RowL)(P V:Nat)(hS:vB6 S)(hz:szS S P V):Fn 163 [vBD S,vBI r] (.data (.tup [vBP ((inO S r).getD zeroQ),.bool (inO S r).isSome])):=by
 have l1:=hz.lo.1;have l2:=hz.hi.1;have l3:=hz.rows.1;have l4:=hz.path.1;have hB:=hz.B;have hP:=hz.P1;have none:inO S r=none->PV.tup [.agg [.imm [],.bool false,.imm [],.imm []],.bool false]=.tup [vBP ((inO S r).getD zeroQ),.bool (inO S r).isSome]:=fun e=>by rw[e,<- zA7]; rfl
 have some:∀ f,inO S r=some f->PV.tup [vBP f,.bool true]=.tup [vBP ((inO S r).getD zeroQ),.bool (inO S r).isSome]:=fun f e=>by rw[e]; rfl
 refine zAL vBC hT uMZ (by simp[vBD,vBI]) ?_
 (repeat' (first|refine stp ?_|with_reducible(refine brr ?_ ?_<;>intro h)));all_goals try(conv=>whnf)
 all_goals first
  | exact zAB rfl (none (uGG zom))
  | exact zAB rfl (none (vHW zom zom zom zom))
  | skip
 all_goals try (exfalso; omega)
 .have hj:r.index.toNat<S.q.r.lo.length:=by omega
  have hq:=zD2 hz.lo hj;have cv:=vQW r.index;have cn:=zP3 _ P hq zom;have cs:=zHC (vCN r.index) (vBN (qv S.q.r.lo[r.index.toNat]!)) 1 P (zDR _) (zDX (zGH hq hP)) zom (by simp[vCN]) (by simp[vBN]);refine zAA cv rfl ?_;refine sts ?_;refine zA5 (j:=r.index.toNat) (show r.index=_ by omega) hj ?_;refine sts ?_;refine zAA cn rfl ?_;refine sts ?_;refine zAA cs rfl ?_;refine sts ?_;exact zAB rfl (some _ (uQW zom ⟨zom,zom⟩))
 .have hj:r.index.toNat<S.q.r.hi.length:=by omega
  have hq:=zD2 hz.hi hj;have cv:=vQW r.index;have cn:=zP3 _ P hq zom;have cs:=zHC (vBN (qv S.q.r.hi[r.index.toNat]!)) (vCN r.index) P 1 (zDX (zGH hq hP)) (zDR _) zom (by simp[vBN]) (by simp[vCN]);refine zA5 (j:=r.index.toNat) (show r.index=_ by omega) hj ?_;refine sts ?_;refine zAA cn rfl ?_;refine sts ?_;refine zAA cv rfl ?_;refine sts ?_;refine zAA cs rfl ?_;refine sts ?_;exact zAB rfl (some _ (uQV zom ⟨zom,zom⟩))
 .have hj:r.index.toNat<S.q.r.rows.length:=by omega
  have e:=some _ (uQU (S:=S) (r:=r) zom ⟨zom,zom⟩);rw[<- vND (hS.1.2.1.2.2.2.2.2 _ hj)]at e;refine zA5 (j:=r.index.toNat) (show r.index=_ by omega) hj ?_;refine sts ?_;exact zAB rfl e
 .have hj:r.index.toNat<S.path.length:=by omega
  have hm:S.path[r.index.toNat]! ∈ S.path:=get_mem hj;have hq:=hz.path.2 _ hm;have cv:=vQW S.path[r.index.toNat]!.index;have cn:=zP3 _ P hq zom;have cs:=zHC (vCN S.path[r.index.toNat]!.index) (vBN (qv S.path[r.index.toNat]!.rat)) 1 P (zDR _) (zDX (zGH hq hP)) zom (by simp[vCN]) (by simp[vBN]);have cs2:=zHC (vBN (qv S.path[r.index.toNat]!.rat)) (vCN S.path[r.index.toNat]!.index) P 1 (zDX (zGH hq hP)) (zDR _) zom (by simp[vBN]) (by simp[vCN]);refine zA5 (j:=r.index.toNat) (show r.index=_ by omega) hj ?_
  (repeat' (first|refine stp ?_|with_reducible(refine brr ?_ ?_<;>intro h)));all_goals try(conv=>whnf)
  .refine zAA cv rfl ?_
   refine sts ?_;refine zAA cn rfl ?_;refine sts ?_;refine zAA cs rfl ?_;refine sts ?_;exact zAB rfl (some _ (uQT zom ⟨zom,zom⟩ rAC))
  .refine zAA cn rfl ?_
   refine sts ?_;refine zAA cv rfl ?_;refine sts ?_;refine zAA cs2 rfl ?_;refine sts ?_;exact zAB rfl (some _ (uNH zom ⟨zom,zom⟩ rAC))
  .exact zAB rfl (none (vHW zom zom zom (fun e=>by rcases e.2.2 with q | q<;>contradiction)))
open Go.Proofs Go.PI
theorem uIM:FO 167 Tryz.f167 [.cell 4 26] 12:=mkO Tryz.func167 Tryz.ntmps167 Tryz.results167
theorem uN1(x y:RatL)(hx:okR x)(hy:okR y)(hl1:x.num.length<1000000000)(hl2:x.den.length<1000000000)(hl3:y.num.length<1000000000)(hl4:y.den.length<1000000000):Fn 167 [vA5 x,vA5 y] (.data (vA5 (cr (qv x - qv y)))):=by
 have e:qv (⟨!y.neg,y.num,y.den⟩:RatL)=- qv y:=by
  unfold qv; dsimp only; rw[zO7];rw[show -(sg y.neg (nv y.num))=(-1) * sg y.neg (nv y.num) by omega];have:∀ (z:Int) (d:Nat),mkRat (-1 * z) d=- mkRat z d:=fun z d=>by rw[rF9,Int.one_mul,rGM]
  exact this _ _
 have ca:=vQR x ⟨!y.neg,y.num,y.den⟩ hx hy hl1 hl2 hl3 hl4;rw[e,show qv x+-qv y=qv x - qv y by grind]at ca;refine zAL vBC hT uIM (by simp[vA5]) ?_;refine sts ?_;refine zAA ca rfl ?_;refine sts ?_;exact rGV
def vDV(r:RowL):Bool:=(decide (r.lo=0) && decide (r.hi=0))
def onP(r:RowL)(L:RatL)(lw D1:Bool):Bool:=(decide (r.hi=0) && ((decide (r.lo=0) && D1) || (lw && decide (0<=vDL (qv L)))))
def vFF(r:RowL)(U:RatL)(up D2:Bool):Bool:=(decide (r.lo=0) && ((decide (r.hi=0) && D2) || (up && decide (vDL (qv U)<=0))))
def vD4(r:RowL)(v p:QF)(L U:RatL)(lw up on off pl:Bool):QF×Bool :=
 if r.kind=5 then(v,pl)
 else if r.kind=6 then(vCE v p,pl)
 else if r.kind=7 then(p,on)
 else if r.kind=8 then(vCE p v,on)
 else if r.kind=9 then(vDE p (-1),off)
 else if r.kind=10 then(vDE v (-1),off)
 else if r.kind=11 then(vCE p (vBN (qv L)),lw && decide (r.hi=0))
 else if r.kind=12 then(vCE (vBN (qv U)) p,up && decide (r.lo=0))
 else if r.kind=13/\lw=true/\up=true/\vDL (qv L)<0/\0<vDL (qv U) then(uG6 v p (qv L) (qv U),true)
 else(zeroQ,false)
theorem vNS{S:ScpL}{P V:Nat}(hz:szS S P V)(n:Int):okQ (V+1) (vD5 S n):=by
 unfold vD5
 split
 .exact zCZ zom (hz.lems.2 _ (get_mem zom))
 .exact⟨⟨by simp[okN],by simp[okN]⟩,rA7 _,rA7 _⟩
theorem vQX{S:ScpL}{P V:Nat}(hz:szS S P V)(n:Int):vE0 (vD5 S n):=by
 unfold vD5
 split
 .exact hz.can _ (get_mem zom)
 .rfl
theorem uC4:FO 137 Tryz.f137 [.cell 4 46,.tmp 5] 206:=mkO Tryz.func137 Tryz.ntmps137 Tryz.results137
theorem uE3(S:ScpL)(r:RowL)(P V:Nat)(hS:vB6 S)(hz:szS S P V)(hk:5<=r.kind)(hi:0<=r.index/\r.index<S.q.g.units.length)(v p:QF)(L U:RatL)(lw up D1 D2 on off pl:Bool)(hL:vD5 S r.lo=L)(hU:vD5 S r.hi=U)(hlw:vCT S r.lo r.index false=lw)(hup:vCT S r.hi r.index true=up)(hvv:vCN (S.q.g.ins+r.index)=v)(hp:S.q.g.units[r.index.toNat]!.Q=p)(hD1:vEJ S 1 r.index=D1)(hD2:vEJ S 2 r.index=D2)(hon:onP r L lw D1=on)(hoff:vFF r U up D2=off)(hpl:vDV r=pl):Fn 137 [vBD S,vBI r] (.data (.tup [vBP (vD4 r v p L U lw up on off pl).1,.bool (vD4 r v p L U lw up on off pl).2])):=by
 have hj:r.index.toNat<S.q.g.units.length:=by omega
 have hnu:=hS.1.1.2.1;have hni:=hS.1.1.1;have hvu:=hS.1.1.2.2.2.1 _ hj;have hpu:=vND hvu;have hB:=hz.B;have hP:=hz.P1;have cv:=vQW (S.q.g.ins+r.index);have cl:=uGU S r.lo r.index false hz.lems.1;have cu:=uGU S r.hi r.index true hz.lems.1;have cd1:=uGT S 1 r.index hz.path.1;have cd2:=uGT S 2 r.index hz.path.1;have hLk:=vNS hz r.lo;have hUk:=vNS hz r.hi;rw[hL]at cl hLk;rw[hU]at cu hUk;rw[hlw]at cl;rw[hup]at cu;have sl:=zF8 L hLk.1 (by have:=hLk.2; omega);have su:=zF8 U hUk.1 (by have:=hUk.2; omega);have cnl:=zP3 L (V+1) hLk zom;have cnu:=zP3 U (V+1) hUk zom;have hUc:cr (qv U)=U:=by have:=vQX hz r.hi; rw[hU]at this; exact this.symm
 have szL:=zGH hLk zom;have szU:=zGH hUk zom;have hpa:=hz.units _ (get_mem hj);have szp:szF P p:=by rw[<- hp]; exact zHH hpa hP
 have szv:szF 1 v:=by rw[<- hvv]; exact zDR _
 have lv:v.ts.length<=1:=by rw[<- hvv]; simp[vCN]
 have lp:p.ts.length<=1048576:=by rw[<- hp,uOP]; exact hpa.2.2
 rw[hvv]at cv;rw[hp]at hpu;rw[hD1]at cd1;rw[hD2]at cd2;have c6:=zHC v p 1 P szv szp zom zom lp;have c8:=zHC p v P 1 szp szv zom lp zom;have c9:=vIC p P szp zom lp;have c10:=vIC v 1 szv zom zom;have c11:=zHC p (vBN (qv L)) P (V+1) szp (zDX szL) zom lp (by simp[vBN]);have c12:=zHC (vBN (qv U)) p (V+1) P (zDX szU) szp zom (by simp[vBN]) lp;refine zAL vBC hT uC4 (by simp[vBD,vBI]) ?_
 (repeat' (first|refine stp ?_|with_reducible(refine brr ?_ ?_<;>intro h)));all_goals try(conv=>whnf)
 all_goals try (exfalso; omega)
 refine zAA cv rfl ?_;refine sts ?_;refine zA5 (j:=r.index.toNat) (show r.index=_ by omega) hj ?_;refine sts ?_;refine zAA cl rfl ?_;refine sts ?_;refine zAA cu rfl ?_;refine sus ?_;refine vBV [] [(2,.ptr 0 0 0),(3,.ptr 1 0 0),(4,.ptr 2 0 0),(6,.int .i64 r.index),(7,.ptr 3 0 0),(8,.ptr 4 0 0),(9,.ptr 5 0 0),(10,.bool lw),(11,.ptr 6 0 0),(12,.bool up)] [(0,⟨[vBD S],12,true⟩),(1,⟨[vBI r],4,true⟩),(2,⟨[.agg [.nilsl,.bool false,.nilsl,.nilsl]],4,true⟩),(3,⟨[vBP v],4,true⟩),(4,⟨[vBP p],4,true⟩),(5,⟨[vA5 L],3,true⟩),(6,⟨[vA5 U],3,true⟩)] [] 7 zdd zsm trivial ⟨[0,1,2,_,_,_,_],[],[],[],ttt,⟨(apy rfl),(apy rfl),(apy rfl),zAC rfl rfl,(apy rfl),(apy rfl),(apy rfl),zAJ rfl rfl,(apy rfl),zAJ rfl rfl,rGU⟩,⟨bbx,bbx,bbx,bbx,zEW zdd rfl hpu rfl rfl rfl,bbx,bbx,rGU⟩,rAA⟩ ?_;refine vVR ⟨sv [(2,.ptr 0 0 0),(3,.ptr 1 0 0),(4,.ptr 2 0 0),(6,.int .i64 r.index),(7,.ptr 3 0 0),(8,.ptr 4 0 0),(9,.ptr 5 0 0),(10,.bool lw),(11,.ptr 6 0 0),(12,.bool up),(13,.bool on)],hv [(0,⟨[vBD S],12,true⟩),(1,⟨[vBI r],4,true⟩),(2,⟨[.agg [.nilsl,.bool false,.nilsl,.nilsl]],4,true⟩),(3,⟨[vBP v],4,true⟩),(4,⟨[vBP p],4,true⟩),(5,⟨[vA5 L],3,true⟩),(6,⟨[vA5 U],3,true⟩)],zv [],7⟩ ?_ fun H9=>?_
 rotate_left
 ·(repeat' (first|refine stu ?_|with_reducible(refine brr ?_ ?_<;>intro h)));all_goals try(conv=>whnf)
  .refine zAA cd1 rfl ?_
   (repeat' (first|refine stu ?_|with_reducible(refine brr ?_ ?_<;>intro h)));all_goals try(conv=>whnf)
   .refine vBV [] [(2,.ptr 0 0 0),(3,.ptr 1 0 0),(4,.ptr 2 0 0),(6,.int .i64 r.index),(7,.ptr 3 0 0),(8,.ptr 4 0 0),(9,.ptr 5 0 0),(10,.bool lw),(11,.ptr 6 0 0),(12,.bool up),(13,.bool on)] [(0,⟨[vBD S],12,true⟩),(1,⟨[vBI r],4,true⟩),(2,⟨[.agg [.nilsl,.bool false,.nilsl,.nilsl]],4,true⟩),(3,⟨[vBP v],4,true⟩),(4,⟨[vBP p],4,true⟩),(5,⟨[vA5 L],3,true⟩),(6,⟨[vA5 U],3,true⟩)] [] 7 zdd zsm trivial ⟨[0,1,2,3,4,5,6],[],[],[],ttt,⟨apx,apx,apx,rAI,apx,apx,apx,rAK,apx,rAK,zAJ rfl (by rw[<- hon]; unfold onP; rw[rA1]; clear sl su cd1 cd2 hL hU hlw hup hvv hp hD1 hD2 cv cl cu cnl cnu c6 c8 c9 c10 c11 c12 hpu; simp_all),rGU⟩,⟨bbx,bbx,bbx,bbx,bbx,bbx,bbx,rGU⟩,rAA⟩ ?_; exact H9
   .refine zAA sl rfl ?_
    refine sus ?_;refine vBV [] [(2,.ptr 0 0 0),(3,.ptr 1 0 0),(4,.ptr 2 0 0),(6,.int .i64 r.index),(7,.ptr 3 0 0),(8,.ptr 4 0 0),(9,.ptr 5 0 0),(10,.bool lw),(11,.ptr 6 0 0),(12,.bool up),(13,.bool on)] [(0,⟨[vBD S],12,true⟩),(1,⟨[vBI r],4,true⟩),(2,⟨[.agg [.nilsl,.bool false,.nilsl,.nilsl]],4,true⟩),(3,⟨[vBP v],4,true⟩),(4,⟨[vBP p],4,true⟩),(5,⟨[vA5 L],3,true⟩),(6,⟨[vA5 U],3,true⟩)] [] 7 zdd zsm trivial ⟨[0,1,2,3,4,5,6],[],[],[],ttt,⟨apx,apx,apx,rAI,apx,apx,apx,rAK,apx,rAK,zAJ rfl (by rw[<- hon]; unfold onP; rw[rA1]; clear sl su cd1 cd2 hL hU hlw hup hvv hp hD1 hD2 cv cl cu cnl cnu c6 c8 c9 c10 c11 c12 hpu; simp_all),rGU⟩,⟨bbx,bbx,bbx,bbx,bbx,bbx,bbx,rGU⟩,rAA⟩ ?_; exact H9
   .refine vBV [] [(2,.ptr 0 0 0),(3,.ptr 1 0 0),(4,.ptr 2 0 0),(6,.int .i64 r.index),(7,.ptr 3 0 0),(8,.ptr 4 0 0),(9,.ptr 5 0 0),(10,.bool lw),(11,.ptr 6 0 0),(12,.bool up),(13,.bool on)] [(0,⟨[vBD S],12,true⟩),(1,⟨[vBI r],4,true⟩),(2,⟨[.agg [.nilsl,.bool false,.nilsl,.nilsl]],4,true⟩),(3,⟨[vBP v],4,true⟩),(4,⟨[vBP p],4,true⟩),(5,⟨[vA5 L],3,true⟩),(6,⟨[vA5 U],3,true⟩)] [] 7 zdd zsm trivial ⟨[0,1,2,3,4,5,6],[],[],[],ttt,⟨apx,apx,apx,rAI,apx,apx,apx,rAK,apx,rAK,zAJ rfl (by rw[<- hon]; unfold onP; rw[rA1]; clear sl su cd1 cd2 hL hU hlw hup hvv hp hD1 hD2 cv cl cu cnl cnu c6 c8 c9 c10 c11 c12 hpu; simp_all),rGU⟩,⟨bbx,bbx,bbx,bbx,bbx,bbx,bbx,rGU⟩,rAA⟩ ?_; exact H9
  .refine zAA sl rfl ?_
   refine sus ?_;refine vBV [] [(2,.ptr 0 0 0),(3,.ptr 1 0 0),(4,.ptr 2 0 0),(6,.int .i64 r.index),(7,.ptr 3 0 0),(8,.ptr 4 0 0),(9,.ptr 5 0 0),(10,.bool lw),(11,.ptr 6 0 0),(12,.bool up),(13,.bool on)] [(0,⟨[vBD S],12,true⟩),(1,⟨[vBI r],4,true⟩),(2,⟨[.agg [.nilsl,.bool false,.nilsl,.nilsl]],4,true⟩),(3,⟨[vBP v],4,true⟩),(4,⟨[vBP p],4,true⟩),(5,⟨[vA5 L],3,true⟩),(6,⟨[vA5 U],3,true⟩)] [] 7 zdd zsm trivial ⟨[0,1,2,3,4,5,6],[],[],[],ttt,⟨apx,apx,apx,rAI,apx,apx,apx,rAK,apx,rAK,zAJ rfl (by rw[<- hon]; unfold onP; rw[rA1]; clear sl su cd1 cd2 hL hU hlw hup hvv hp hD1 hD2 cv cl cu cnl cnu c6 c8 c9 c10 c11 c12 hpu; simp_all),rGU⟩,⟨bbx,bbx,bbx,bbx,bbx,bbx,bbx,rGU⟩,rAA⟩ ?_; exact H9
  .refine vBV [] [(2,.ptr 0 0 0),(3,.ptr 1 0 0),(4,.ptr 2 0 0),(6,.int .i64 r.index),(7,.ptr 3 0 0),(8,.ptr 4 0 0),(9,.ptr 5 0 0),(10,.bool lw),(11,.ptr 6 0 0),(12,.bool up),(13,.bool on)] [(0,⟨[vBD S],12,true⟩),(1,⟨[vBI r],4,true⟩),(2,⟨[.agg [.nilsl,.bool false,.nilsl,.nilsl]],4,true⟩),(3,⟨[vBP v],4,true⟩),(4,⟨[vBP p],4,true⟩),(5,⟨[vA5 L],3,true⟩),(6,⟨[vA5 U],3,true⟩)] [] 7 zdd zsm trivial ⟨[0,1,2,3,4,5,6],[],[],[],ttt,⟨apx,apx,apx,rAI,apx,apx,apx,rAK,apx,rAK,zAJ rfl (by rw[<- hon]; unfold onP; rw[rA1]; clear sl su cd1 cd2 hL hU hlw hup hvv hp hD1 hD2 cv cl cu cnl cnu c6 c8 c9 c10 c11 c12 hpu; simp_all),rGU⟩,⟨bbx,bbx,bbx,bbx,bbx,bbx,bbx,rGU⟩,rAA⟩ ?_; exact H9
  .refine vBV [] [(2,.ptr 0 0 0),(3,.ptr 1 0 0),(4,.ptr 2 0 0),(6,.int .i64 r.index),(7,.ptr 3 0 0),(8,.ptr 4 0 0),(9,.ptr 5 0 0),(10,.bool lw),(11,.ptr 6 0 0),(12,.bool up),(13,.bool on)] [(0,⟨[vBD S],12,true⟩),(1,⟨[vBI r],4,true⟩),(2,⟨[.agg [.nilsl,.bool false,.nilsl,.nilsl]],4,true⟩),(3,⟨[vBP v],4,true⟩),(4,⟨[vBP p],4,true⟩),(5,⟨[vA5 L],3,true⟩),(6,⟨[vA5 U],3,true⟩)] [] 7 zdd zsm trivial ⟨[0,1,2,3,4,5,6],[],[],[],ttt,⟨apx,apx,apx,rAI,apx,apx,apx,rAK,apx,rAK,zAJ rfl (by rw[<- hon]; unfold onP; rw[rA1]; clear sl su cd1 cd2 hL hU hlw hup hvv hp hD1 hD2 cv cl cu cnl cnu c6 c8 c9 c10 c11 c12 hpu; simp_all),rGU⟩,⟨bbx,bbx,bbx,bbx,bbx,bbx,bbx,rGU⟩,rAA⟩ ?_; exact H9
 refine vVR ⟨sv [(2,.ptr 0 0 0),(3,.ptr 1 0 0),(4,.ptr 2 0 0),(6,.int .i64 r.index),(7,.ptr 3 0 0),(8,.ptr 4 0 0),(9,.ptr 5 0 0),(10,.bool lw),(11,.ptr 6 0 0),(12,.bool up),(13,.bool on),(14,.bool off)],hv [(0,⟨[vBD S],12,true⟩),(1,⟨[vBI r],4,true⟩),(2,⟨[.agg [.nilsl,.bool false,.nilsl,.nilsl]],4,true⟩),(3,⟨[vBP v],4,true⟩),(4,⟨[vBP p],4,true⟩),(5,⟨[vA5 L],3,true⟩),(6,⟨[vA5 U],3,true⟩)],zv [],7⟩ ?_ fun H10=>?_
 rotate_left
 ·(repeat' (first|refine stu ?_|with_reducible(refine brr ?_ ?_<;>intro h)));all_goals try(conv=>whnf)
  .refine zAA cd2 rfl ?_
   (repeat' (first|refine stu ?_|with_reducible(refine brr ?_ ?_<;>intro h)));all_goals try(conv=>whnf)
   .refine vBV [] [(2,.ptr 0 0 0),(3,.ptr 1 0 0),(4,.ptr 2 0 0),(6,.int .i64 r.index),(7,.ptr 3 0 0),(8,.ptr 4 0 0),(9,.ptr 5 0 0),(10,.bool lw),(11,.ptr 6 0 0),(12,.bool up),(13,.bool on),(14,.bool off)] [(0,⟨[vBD S],12,true⟩),(1,⟨[vBI r],4,true⟩),(2,⟨[.agg [.nilsl,.bool false,.nilsl,.nilsl]],4,true⟩),(3,⟨[vBP v],4,true⟩),(4,⟨[vBP p],4,true⟩),(5,⟨[vA5 L],3,true⟩),(6,⟨[vA5 U],3,true⟩)] [] 7 zdd zsm trivial ⟨[0,1,2,3,4,5,6],[],[],[],ttt,⟨apx,apx,apx,rAI,apx,apx,apx,rAK,apx,rAK,rAK,zAJ rfl (by rw[<- hoff]; unfold vFF; rw[rA1]; clear sl su cd1 cd2 hL hU hlw hup hvv hp hD1 hD2 cv cl cu cnl cnu c6 c8 c9 c10 c11 c12 hpu; simp_all),rGU⟩,⟨bbx,bbx,bbx,bbx,bbx,bbx,bbx,rGU⟩,rAA⟩ ?_; exact H10
   .refine zAA su rfl ?_
    refine sus ?_;refine vBV [] [(2,.ptr 0 0 0),(3,.ptr 1 0 0),(4,.ptr 2 0 0),(6,.int .i64 r.index),(7,.ptr 3 0 0),(8,.ptr 4 0 0),(9,.ptr 5 0 0),(10,.bool lw),(11,.ptr 6 0 0),(12,.bool up),(13,.bool on),(14,.bool off)] [(0,⟨[vBD S],12,true⟩),(1,⟨[vBI r],4,true⟩),(2,⟨[.agg [.nilsl,.bool false,.nilsl,.nilsl]],4,true⟩),(3,⟨[vBP v],4,true⟩),(4,⟨[vBP p],4,true⟩),(5,⟨[vA5 L],3,true⟩),(6,⟨[vA5 U],3,true⟩)] [] 7 zdd zsm trivial ⟨[0,1,2,3,4,5,6],[],[],[],ttt,⟨apx,apx,apx,rAI,apx,apx,apx,rAK,apx,rAK,rAK,zAJ rfl (by rw[<- hoff]; unfold vFF; rw[rA1]; clear sl su cd1 cd2 hL hU hlw hup hvv hp hD1 hD2 cv cl cu cnl cnu c6 c8 c9 c10 c11 c12 hpu; simp_all),rGU⟩,⟨bbx,bbx,bbx,bbx,bbx,bbx,bbx,rGU⟩,rAA⟩ ?_; exact H10
   .refine vBV [] [(2,.ptr 0 0 0),(3,.ptr 1 0 0),(4,.ptr 2 0 0),(6,.int .i64 r.index),(7,.ptr 3 0 0),(8,.ptr 4 0 0),(9,.ptr 5 0 0),(10,.bool lw),(11,.ptr 6 0 0),(12,.bool up),(13,.bool on),(14,.bool off)] [(0,⟨[vBD S],12,true⟩),(1,⟨[vBI r],4,true⟩),(2,⟨[.agg [.nilsl,.bool false,.nilsl,.nilsl]],4,true⟩),(3,⟨[vBP v],4,true⟩),(4,⟨[vBP p],4,true⟩),(5,⟨[vA5 L],3,true⟩),(6,⟨[vA5 U],3,true⟩)] [] 7 zdd zsm trivial ⟨[0,1,2,3,4,5,6],[],[],[],ttt,⟨apx,apx,apx,rAI,apx,apx,apx,rAK,apx,rAK,rAK,zAJ rfl (by rw[<- hoff]; unfold vFF; rw[rA1]; clear sl su cd1 cd2 hL hU hlw hup hvv hp hD1 hD2 cv cl cu cnl cnu c6 c8 c9 c10 c11 c12 hpu; simp_all),rGU⟩,⟨bbx,bbx,bbx,bbx,bbx,bbx,bbx,rGU⟩,rAA⟩ ?_; exact H10
  .refine zAA su rfl ?_
   refine sus ?_;refine vBV [] [(2,.ptr 0 0 0),(3,.ptr 1 0 0),(4,.ptr 2 0 0),(6,.int .i64 r.index),(7,.ptr 3 0 0),(8,.ptr 4 0 0),(9,.ptr 5 0 0),(10,.bool lw),(11,.ptr 6 0 0),(12,.bool up),(13,.bool on),(14,.bool off)] [(0,⟨[vBD S],12,true⟩),(1,⟨[vBI r],4,true⟩),(2,⟨[.agg [.nilsl,.bool false,.nilsl,.nilsl]],4,true⟩),(3,⟨[vBP v],4,true⟩),(4,⟨[vBP p],4,true⟩),(5,⟨[vA5 L],3,true⟩),(6,⟨[vA5 U],3,true⟩)] [] 7 zdd zsm trivial ⟨[0,1,2,3,4,5,6],[],[],[],ttt,⟨apx,apx,apx,rAI,apx,apx,apx,rAK,apx,rAK,rAK,zAJ rfl (by rw[<- hoff]; unfold vFF; rw[rA1]; clear sl su cd1 cd2 hL hU hlw hup hvv hp hD1 hD2 cv cl cu cnl cnu c6 c8 c9 c10 c11 c12 hpu; simp_all),rGU⟩,⟨bbx,bbx,bbx,bbx,bbx,bbx,bbx,rGU⟩,rAA⟩ ?_; exact H10
  .refine vBV [] [(2,.ptr 0 0 0),(3,.ptr 1 0 0),(4,.ptr 2 0 0),(6,.int .i64 r.index),(7,.ptr 3 0 0),(8,.ptr 4 0 0),(9,.ptr 5 0 0),(10,.bool lw),(11,.ptr 6 0 0),(12,.bool up),(13,.bool on),(14,.bool off)] [(0,⟨[vBD S],12,true⟩),(1,⟨[vBI r],4,true⟩),(2,⟨[.agg [.nilsl,.bool false,.nilsl,.nilsl]],4,true⟩),(3,⟨[vBP v],4,true⟩),(4,⟨[vBP p],4,true⟩),(5,⟨[vA5 L],3,true⟩),(6,⟨[vA5 U],3,true⟩)] [] 7 zdd zsm trivial ⟨[0,1,2,3,4,5,6],[],[],[],ttt,⟨apx,apx,apx,rAI,apx,apx,apx,rAK,apx,rAK,rAK,zAJ rfl (by rw[<- hoff]; unfold vFF; rw[rA1]; clear sl su cd1 cd2 hL hU hlw hup hvv hp hD1 hD2 cv cl cu cnl cnu c6 c8 c9 c10 c11 c12 hpu; simp_all),rGU⟩,⟨bbx,bbx,bbx,bbx,bbx,bbx,bbx,rGU⟩,rAA⟩ ?_; exact H10
  .refine vBV [] [(2,.ptr 0 0 0),(3,.ptr 1 0 0),(4,.ptr 2 0 0),(6,.int .i64 r.index),(7,.ptr 3 0 0),(8,.ptr 4 0 0),(9,.ptr 5 0 0),(10,.bool lw),(11,.ptr 6 0 0),(12,.bool up),(13,.bool on),(14,.bool off)] [(0,⟨[vBD S],12,true⟩),(1,⟨[vBI r],4,true⟩),(2,⟨[.agg [.nilsl,.bool false,.nilsl,.nilsl]],4,true⟩),(3,⟨[vBP v],4,true⟩),(4,⟨[vBP p],4,true⟩),(5,⟨[vA5 L],3,true⟩),(6,⟨[vA5 U],3,true⟩)] [] 7 zdd zsm trivial ⟨[0,1,2,3,4,5,6],[],[],[],ttt,⟨apx,apx,apx,rAI,apx,apx,apx,rAK,apx,rAK,rAK,zAJ rfl (by rw[<- hoff]; unfold vFF; rw[rA1]; clear sl su cd1 cd2 hL hU hlw hup hvv hp hD1 hD2 cv cl cu cnl cnu c6 c8 c9 c10 c11 c12 hpu; simp_all),rGU⟩,⟨bbx,bbx,bbx,bbx,bbx,bbx,bbx,rGU⟩,rAA⟩ ?_; exact H10
 refine vVR ⟨sv [(2,.ptr 0 0 0),(3,.ptr 1 0 0),(4,.ptr 2 0 0),(6,.int .i64 r.index),(7,.ptr 3 0 0),(8,.ptr 4 0 0),(9,.ptr 5 0 0),(10,.bool lw),(11,.ptr 6 0 0),(12,.bool up),(13,.bool on),(14,.bool off),(15,.bool pl)],hv [(0,⟨[vBD S],12,true⟩),(1,⟨[vBI r],4,true⟩),(2,⟨[.agg [.nilsl,.bool false,.nilsl,.nilsl]],4,true⟩),(3,⟨[vBP v],4,true⟩),(4,⟨[vBP p],4,true⟩),(5,⟨[vA5 L],3,true⟩),(6,⟨[vA5 U],3,true⟩)],zv [],7⟩ ?_ fun H11=>?_
 rotate_left
 ·(repeat' (first|refine stu ?_|with_reducible(refine brr ?_ ?_<;>intro h)));all_goals try(conv=>whnf)
  all_goals (refine vBV [] [(2,.ptr 0 0 0),(3,.ptr 1 0 0),(4,.ptr 2 0 0),(6,.int .i64 r.index),(7,.ptr 3 0 0),(8,.ptr 4 0 0),(9,.ptr 5 0 0),(10,.bool lw),(11,.ptr 6 0 0),(12,.bool up),(13,.bool on),(14,.bool off),(15,.bool pl)] [(0,⟨[vBD S],12,true⟩),(1,⟨[vBI r],4,true⟩),(2,⟨[.agg [.nilsl,.bool false,.nilsl,.nilsl]],4,true⟩),(3,⟨[vBP v],4,true⟩),(4,⟨[vBP p],4,true⟩),(5,⟨[vA5 L],3,true⟩),(6,⟨[vA5 U],3,true⟩)] [] 7 zdd zsm trivial ⟨[0,1,2,3,4,5,6],[],[],[],ttt,⟨apx,apx,apx,rAI,apx,apx,apx,rAK,apx,rAK,rAK,rAK,zAJ rfl (by rw[<- hpl]; unfold vDV; rw[rA1]; clear sl su cd1 cd2 hL hU hlw hup hvv hp hD1 hD2 cv cl cu cnl cnu c6 c8 c9 c10 c11 c12 hpu; simp_all),rGU⟩,⟨bbx,bbx,bbx,bbx,bbx,bbx,bbx,rGU⟩,rAA⟩ ?_; exact H11)
 clear cd1 cd2 hon hoff hpl
 (repeat' (first|refine stp ?_|with_reducible(refine brr ?_ ?_<;>intro h)));all_goals try(conv=>whnf)
 .have e:vD4 r v p L U lw up on off pl=(v,pl):=by unfold vD4; (repeat rw[rAM zom]); rw[rAU zom]
  exact zAB rfl (by rw[e]; rfl)
 .have e:vD4 r v p L U lw up on off pl=(vCE v p,pl):=by unfold vD4; (repeat rw[rAM zom]); rw[rAU zom]
  refine zAA c6 rfl ?_;refine sts ?_;exact zAB rfl (by rw[e]; rfl)
 .have e:vD4 r v p L U lw up on off pl=(p,on):=by unfold vD4; (repeat rw[rAM zom]); rw[rAU zom]
  exact zAB rfl (by rw[e]; rfl)
 .have e:vD4 r v p L U lw up on off pl=(vCE p v,on):=by unfold vD4; (repeat rw[rAM zom]); rw[rAU zom]
  refine zAA c8 rfl ?_;refine sts ?_;exact zAB rfl (by rw[e]; rfl)
 .have e:vD4 r v p L U lw up on off pl=(vDE p (-1),off):=by unfold vD4; (repeat rw[rAM zom]); rw[rAU zom]
  refine zAA c9 rfl ?_;refine sts ?_;exact zAB rfl (by rw[e]; rfl)
 .have e:vD4 r v p L U lw up on off pl=(vDE v (-1),off):=by unfold vD4; (repeat rw[rAM zom]); rw[rAU zom]
  refine zAA c10 rfl ?_;refine sts ?_;exact zAB rfl (by rw[e]; rfl)
 .have e:vD4 r v p L U lw up on off pl=(vCE p (vBN (qv L)),lw && decide (r.hi=0)):=by unfold vD4; (repeat rw[rAM zom]); rw[rAU zom]
  refine zAA cnl rfl ?_;refine sts ?_;refine zAA c11 rfl ?_
  refine gob ?_ ?_<;>intro h
  .have hb:(lw && decide (r.hi=0))=(r.hi == 0):=by rw[show lw=true by assumption,rDP,rA1]; simp
   exact zAB rfl (by rw[e,hb]; rfl)
  .have hb:(lw && decide (r.hi=0))=false:=by rw[show lw=false by assumption,Bool.false_and]
   exact zAB rfl (by rw[e,hb]; rfl)
 .have e:vD4 r v p L U lw up on off pl=(vCE (vBN (qv U)) p,up && decide (r.lo=0)):=by unfold vD4; (repeat rw[rAM zom]); rw[rAU zom]
  refine zAA cnu rfl ?_;refine sts ?_;refine zAA c12 rfl ?_
  refine gob ?_ ?_<;>intro h
  .have hb:(up && decide (r.lo=0))=(r.lo == 0):=by rw[show up=true by assumption,rDP,rA1]; simp
   exact zAB rfl (by rw[e,hb]; rfl)
  .have hb:(up && decide (r.lo=0))=false:=by rw[show up=false by assumption,Bool.false_and]
   exact zAB rfl (by rw[e,hb]; rfl)
 .have hlw1:lw=true:=by assumption
  have hup1:up=true:=by assumption
  refine zAA sl rfl ?_
  refine gob ?_ ?_<;>intro h
  .have e:vD4 r v p L U lw up on off pl=(zeroQ,false):=by unfold vD4; repeat rw[rAM zom]
   exact zAB rfl (by rw[e,<- zA7])
  .refine zAA su rfl ?_
   refine gob ?_ ?_<;>intro h
   .have e:vD4 r v p L U lw up on off pl=(zeroQ,false):=by unfold vD4; repeat rw[rAM zom]
    exact zAB rfl (by rw[e,<- zA7])
   .have e:vD4 r v p L U lw up on off pl=(uG6 v p (qv L) (qv U),true):=by unfold vD4; (repeat rw[rAM zom]); rw[rAU ⟨zom,hlw1,hup1,zom,zom⟩]
    have z1:szF (P+V+3) (vCE p (vBN (qv L))):=zEX szp (zDX szL) zom;have q1:=zKZ (vCE p (vBN (qv L))) (qv U) _ _ z1 szU zom (rBU zH7 lp);rw[hUc]at q1;have q2:=uN1 U L hUk.1 hLk.1 (by have:=hUk.2; omega) (by have:=hUk.2; omega) (by have:=hLk.2; omega) (by have:=hLk.2; omega);have z2:sz (2 * V+4) (qv U - qv L):=zI1 zom (vT7 szU szL);have q3:=zKZ v (qv U - qv L) _ _ szv z2 zom zom;have z3:szF (P+2 * V+8) (vDE (vCE p (vBN (qv L))) (qv U)):=zGF z1 szU zom;have z4:szF (2 * V+8) (vDE v (qv U - qv L)):=zGF szv z2 zom;have q4:=zHC (vDE (vCE p (vBN (qv L))) (qv U)) (vDE v (qv U - qv L)) _ _ z3 z4 zom (rBU zI2 (rBU zH7 lp)) (rBU zI2 zom);refine zAA cnl rfl ?_;refine sts ?_;refine zAA c11 rfl ?_;refine sts ?_;refine zAA q1 rfl ?_;refine sts ?_;refine zAA q2 rfl ?_;refine sts ?_;refine zAA q3 rfl ?_;refine sts ?_;refine zAA q4 rfl ?_;refine sts ?_;exact zAB rfl (by rw[e]; rfl)
 .have e:vD4 r v p L U lw up on off pl=(zeroQ,false):=by unfold vD4; (repeat rw[rAM zom]); rw[rAM (fun q=>by have:=q.2.2.1; simp_all)]
  exact zAB rfl (by rw[e,<- zA7])
 .have e:vD4 r v p L U lw up on off pl=(zeroQ,false):=by unfold vD4; (repeat rw[rAM zom]); rw[rAM (fun q=>by have:=q.2.1; simp_all)]
  exact zAB rfl (by rw[e,<- zA7])
 .have e:vD4 r v p L U lw up on off pl=(zeroQ,false):=by unfold vD4; repeat rw[rAM zom]
  exact zAB rfl (by rw[e,<- zA7])
theorem zK2{S:ScpL}{n j:Int}{up:Bool}(h:vCT S n j up=true):vC2 S n j up=some (qv (vD5 S n)):=by
 unfold vCT at h;simp only[rAO,rAY]at h;unfold vC2 vD5;rw[rAU ⟨h.1.1,h.1.2,h.2.1,h.2.2⟩,rAU h.1]
theorem zIQ{S:ScpL}{n j:Int}{up:Bool}(h:vCT S n j up=false):vC2 S n j up=none:=by
 unfold vC2;rw[rAM]
 rintro⟨h1,h2,h3,h4⟩
 unfold vCT at h;rw[rB4 (show 1<=n/\n<=S.lems.length from⟨h1,h2⟩),rB4 h3,rB4 h4]at h;cases h
theorem uGI{S:ScpL}{n j:Int}{up:Bool}:geO (vC2 S n j up)=(vCT S n j up && decide (0<=vDL (qv (vD5 S n)))):=by
 cases h:vCT S n j up with
 | true=>rw[zK2 h]; simp only[geO,rDP]; exact rCW.2 sgnQ_nn'.symm
 | false=>rw[zIQ h]; rfl
theorem uGD{S:ScpL}{n j:Int}{up:Bool}:leO (vC2 S n j up)=(vCT S n j up && decide (vDL (qv (vD5 S n))<=0)):=by
 cases h:vCT S n j up with
 | true =>
   rw[zK2 h]; simp only[leO,rDP];refine rCW.2 ?_;rw[<- Int.not_lt,sgnQ_pos,rFR]
 | false=>rw[zIQ h]; rfl
theorem uEB{S:ScpL}{r:RowL}(hk:5<=r.kind)(hi:0<=r.index/\r.index<S.q.g.units.length):vDB S r =
 (if (vD4 r (vCN (S.q.g.ins+r.index)) S.q.g.units[r.index.toNat]!.Q (vD5 S r.lo) (vD5 S r.hi) (vCT S r.lo r.index false) (vCT S r.hi r.index true) (onP r (vD5 S r.lo) (vCT S r.lo r.index false) (vEJ S 1 r.index)) (vFF r (vD5 S r.hi) (vCT S r.hi r.index true) (vEJ S 2 r.index)) (vDV r)).2=true
   then some (vD4 r (vCN (S.q.g.ins+r.index)) S.q.g.units[r.index.toNat]!.Q (vD5 S r.lo) (vD5 S r.hi) (vCT S r.lo r.index false) (vCT S r.hi r.index true) (onP r (vD5 S r.lo) (vCT S r.lo r.index false) (vEJ S 1 r.index)) (vFF r (vD5 S r.hi) (vCT S r.hi r.index true) (vEJ S 2 r.index)) (vDV r)).1 else none):=by
 have hon:onB S r=onP r (vD5 S r.lo) (vCT S r.lo r.index false) (vEJ S 1 r.index):=by unfold onB onP; rw[uGI]
 have hoff:vPB S r=vFF r (vD5 S r.hi) (vCT S r.hi r.index true) (vEJ S 2 r.index):=by unfold vPB vFF; rw[uGD]
 have hpl:(r.lo=0/\r.hi=0)↔vDV r=true:=by unfold vDV; simp
 have bl:∀ {g:QF} {b:Bool},vC2 S r.lo r.index false=(if vCT S r.lo r.index false=true then some (qv (vD5 S r.lo)) else none):=by
  intro g b;cases h:vCT S r.lo r.index false with
  | true=>rw[rAU rfl,zK2 h]
  | false=>rw[rAM zdd,zIQ h]
 have bu:vC2 S r.hi r.index true=(if vCT S r.hi r.index true=true then some (qv (vD5 S r.hi)) else none):=by
  cases h:vCT S r.hi r.index true with
  | true=>rw[rAU rfl,zK2 h]
  | false=>rw[rAM zdd,zIQ h]
 unfold vDB unO;rw[rAM zom,rAM zom,hon,hoff,bl (g:=zeroQ) (b:=true),bu];generalize onP r (vD5 S r.lo) (vCT S r.lo r.index false) (vEJ S 1 r.index)=on;generalize vFF r (vD5 S r.hi) (vCT S r.hi r.index true) (vEJ S 2 r.index)=off;generalize vCT S r.lo r.index false=lw;generalize vCT S r.hi r.index true=up;generalize vD5 S r.lo=L;generalize vD5 S r.hi=U;generalize vCN (S.q.g.ins+r.index)=v;generalize S.q.g.units[r.index.toNat]!.Q=p;unfold vD4;by_cases k5:r.kind=5
 .rw[rAU k5,rAU k5]; simp only[hpl]
 rw[rAM k5,rAM k5];by_cases k6:r.kind=6
 .rw[rAU k6,rAU k6]; simp only[hpl]
 rw[rAM k6,rAM k6];by_cases k7:r.kind=7
 .rw[rAU k7,rAU k7]
 rw[rAM k7,rAM k7];by_cases k8:r.kind=8
 .rw[rAU k8,rAU k8]
 rw[rAM k8,rAM k8];by_cases k9:r.kind=9
 .rw[rAU k9,rAU k9]
 rw[rAM k9,rAM k9];by_cases k10:r.kind=10
 .rw[rAU k10,rAU k10]
 rw[rAM k10,rAM k10];by_cases k11:r.kind=11
 .rw[rAU k11,rAU k11]
  cases lw<;>simp
 rw[rAM k11,rAM k11];by_cases k12:r.kind=12
 .rw[rAU k12,rAU k12]
  cases up<;>simp
 rw[rAM k12,rAM k12];by_cases k13:r.kind=13
 .rw [rAU k13]
  cases lw
  .simp
  .cases up
   .simp
   .simp only[rCI,k13,rEM]
    by_cases hc:vDL (qv L)<0/\0<vDL (qv U)
    .rw[rAU (show qv L<0/\0<qv U from⟨sgnQ_neg.1 hc.1,sgnQ_pos.1 hc.2⟩),rAU hc]; rfl
    .rw[rAM (show ¬ (qv L<0/\0<qv U) from fun e=>hc ⟨sgnQ_neg.2 e.1,sgnQ_pos.2 e.2⟩),rAM hc]; rfl
 .have e13:(if r.kind=13/\lw=true/\up=true/\vDL (qv L)<0/\0<vDL (qv U) then(uG6 v p (qv L) (qv U),true) else(zeroQ,false))=(zeroQ,false):=rAM (fun e=>k13 e.1)
  rw[rAM k13,e13]; rfl
theorem vJY:FO 137 Tryz.f137 [.cell 4 46,.tmp 5] 206:=mkO Tryz.func137 Tryz.ntmps137 Tryz.results137
theorem uK3(S:ScpL)(r:RowL)(P V:Nat)(hS:vB6 S)(hz:szS S P V):∃ f b,((b=true/\vDB S r=some f)\/(b=false/\vDB S r=none))/\Fn 137 [vBD S,vBI r] (.data (.tup [vBP f,.bool b])):=by
 have hnu:=hS.1.1.2.1;by_cases hk:r.kind<5
 .have ci:=uQB S r P V hS hz
  refine⟨(inO S r).getD zeroQ,(inO S r).isSome,?_,?_⟩
  .unfold vDB
   rw[rAU hk];cases inO S r with
   | none=>exact rA0 ⟨rfl,rfl⟩
   | some f=>exact rAW ⟨rfl,rfl⟩
  .generalize (inO S r).getD zeroQ=f at *
   generalize (inO S r).isSome=b at *
   refine zAL vBC hT vJY (by simp[vBD,vBI]) ?_
   (repeat' (first|refine stp ?_|with_reducible(refine brr ?_ ?_<;>intro h)));all_goals try(conv=>whnf)
   all_goals try (exfalso; omega)
   refine zAA ci rfl ?_;refine sts ?_;exact rGV
 .by_cases hi:0<=r.index/\r.index<S.q.g.units.length
  .have c:=uE3 S r P V hS hz zom hi _ _ _ _ _ _ _ _ _ _ _ rfl rfl rfl rfl rfl rfl rfl rfl rfl rfl rfl
   have e:=uEB (S:=S) (r:=r) zom hi;refine⟨_,_,?_,c⟩;rw[e];cases h:(vD4 r (vCN (S.q.g.ins+r.index)) S.q.g.units[r.index.toNat]!.Q (vD5 S r.lo) (vD5 S r.hi) (vCT S r.lo r.index false) (vCT S r.hi r.index true) (onP r (vD5 S r.lo) (vCT S r.lo r.index false) (vEJ S 1 r.index)) (vFF r (vD5 S r.hi) (vCT S r.hi r.index true) (vEJ S 2 r.index)) (vDV r)).2 with
   | true=>exact rAW ⟨rfl,rfl⟩
   | false=>exact rA0 ⟨rfl,rfl⟩
  .refine⟨zeroQ,false,rA0 ⟨rfl,?_⟩,?_⟩
   .unfold vDB unO; rw[rAM hk,rAU zom]
   .refine zAL vBC hT vJY (by simp[vBD,vBI]) ?_
    (repeat' (first|refine stp ?_|with_reducible(refine brr ?_ ?_<;>intro h)));all_goals try(conv=>whnf)
    all_goals try (exfalso; omega)
    all_goals exact zAB rfl (by rw[<- zA7])
end Go.PI.Tryz
