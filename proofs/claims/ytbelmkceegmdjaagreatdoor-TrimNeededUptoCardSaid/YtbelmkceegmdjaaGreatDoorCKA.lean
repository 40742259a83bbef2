/-
  The checker: rows, derivations.
-/
import Derived.Test.YtbelmkceegmdjaaGreatDoorCGA
set_option linter.unusedVariables false
set_option linter.unusedSimpArgs false
set_option linter.unnecessarySimpa false
set_option maxHeartbeats 0
namespace Go.PI.Tryz
open Go.Proofs Go.PI
theorem vYX(v:Int):vBP (vCR v)=.agg [.imm [vIY (v,1)],.bool false,.imm [],.imm []]:=by unfold vBP vCR; rw[zOW]; rfl
theorem uI0:FO 164 Tryz.f164 [.cell 2 46] 8:=mkO Tryz.func164 Tryz.ntmps164 Tryz.results164
theorem vQ2(v:Int):Fn 164 [.int .i64 v] (.data (vBP (vCR v))):=by
 have c1:=uKU 1 zdd;rw[show((1:Int):Rat)=1 by rfl]at c1;rw[vYX];refine zAM vBC hT uI0 zsm ?_;refine sts ?_;refine zAA c1 rfl ?_;refine sts ?_;exact rGX
theorem uI4:FO 100 Tryz.f100 [.cell 2 46] 6:=mkO Tryz.func100 Tryz.ntmps100 Tryz.results100
theorem zQU(c:RatL)(k:Nat)(hc:okQ k c)(hk:k<=950000000):Fn 100 [vA5 c] (.data (vBP (vBM (qv c)))):=by
 have c1:=zNT c hc.1 (by have:=hc.2; omega) (by have:=hc.2; omega);refine zAM vBC hT uI4 (by simp[vA5]) ?_;refine sts ?_;refine zAA c1 rfl ?_;refine sts ?_;exact rGX
theorem vXE:FO 101 Tryz.f101 [.cell 2 46] 6:=mkO Tryz.func101 Tryz.ntmps101 Tryz.results101
theorem vIJ(f:QF)(k:Nat)(hf:szF k f)(hk:k<=900000000)(hl:f.ts.length<=1048576):Fn 101 [vBP f] (.data (vBP (vDF f (-1)))):=by
 have c1:=uKU (-1) zdd;rw[show(((-1:Int)):Rat)=-1 by rfl]at c1;have c2:=zLC f (-1) k 1 hf (zFE (z:=-1) zdd) zom hl;refine zAM vBC hT vXE (by simp[vBP]) ?_;refine sts ?_;refine zAA c1 rfl ?_;refine sts ?_;refine zAA c2 rfl ?_;refine sts ?_;exact rGX
theorem uC4:FO 68 Tryz.f68 [.tmp 4] 61:=mkO Tryz.func68 Tryz.ntmps68 Tryz.results68
theorem uKX(q:QryL)(d:DecL)(hu:q.g.units.length<=1048576)(hd:okQ 950000000 d.rat):Fn 68 [vBI q,vA9 d] (.data (.bool (dB (vF7 q d)))):=by
 have cv:=zG6 d.rat hd.1 (by have:=hd.2; omega) (by have:=hd.2; omega);have l2:=hd.2.1;have l3:=hd.2.2;have bad:¬ vF7 q d->false=dB (vF7 q d):=zGV;refine zAM vBC hT uC4 (by simp[vBI,vA9]) ?_
 (repeat' (first|refine stp ?_|with_reducible(refine brr ?_ ?_<;>intro h)));all_goals try(conv=>whnf)
 all_goals try (refine zAB rfl (rA3 PV.bool (bad fun e=>?_)); rcases e with⟨e1,e2,e3,e4,e5,e6⟩ | ⟨e1,e2,e3,e4⟩<;>first | omega | (simp_all; done))
 all_goals first
  | (refine zAA cv rfl ?_
     refine sts ?_;refine zAB rfl (rA3 PV.bool ?_);rw[rA1,dB_true,rAX]
     exact⟨fun e=>rAZ ⟨zom,zom,zom,e⟩,fun e=>by rcases e with⟨e1,_⟩ | ⟨_,_,_,e4⟩; (exfalso; omega); exact e4⟩)
  | (refine zAB rfl (rA3 PV.bool ?_)
     rw[rA1,dB_true,rDL];simp only[rAM]
     exact⟨fun e=>rAW ⟨zom,zom,zom,by assumption,zom,zom⟩,fun e=>by rcases e with⟨_,_,_,_,_,e6⟩ | ⟨e1,_⟩; omega; (exfalso; omega)⟩)
theorem uI3:FO 69 Tryz.f69 [.cell 2 28] 16:=mkO Tryz.func69 Tryz.ntmps69 Tryz.results69
theorem uN5(d:DecL)(hk:1<=d.kind/\d.kind<=4):Fn 69 [vA9 d] (.data (vA9 (opp d))):=by
 refine zAM vBC hT uI3 (by simp[vA9]) ?_
 (repeat' (first|refine stp ?_|with_reducible(refine brr ?_ ?_<;>intro h)));all_goals try(conv=>whnf)
 all_goals refine zAB rfl ?_
 all_goals (unfold vA9 opp uLK; simp only[PV.agg.injEq,rE2,PV.int.injEq,rEG,rFG])
 all_goals (repeat' split)<;>omega
theorem uI5:FO 166 Tryz.f166 [.tmp 6] 27:=mkO Tryz.func166 Tryz.ntmps166 Tryz.results166
theorem uGP(S:ScpL)(k j:Int)(hp:S.path.length<=1048576):Fn 166 [vBD S,.int .i64 k,.int .i64 j] (.data (.bool (vE1 S k j))):=by
 refine zAM vBC hT uI5 (by simp[vBD]) ?_;refine sts ?_
 refine zAO hT (fun(i:Nat)=>[(1,.int .i64 k),(2,.int .i64 j),(10,.imm (S.path.map vA9)),(11,.int .i64 S.path.length),(12,.int .i64 i)]) (fun _=>[]) [] 1
  (fun i=>i<=S.path.length/\∀ m,m<i->¬ (S.path[m]!.kind=k/\S.path[m]!.index=j)) (fun i=>S.path.length - i) 0 ⟨rA9 _,fun m h=>by omega⟩ zdd zsm ?_ ?_
 .exact⟨[0],[],[],[],ttt,⟨rAI,rAI,rAJ,zAC rfl zsm,rAI,rGW⟩,rGW,rAA⟩
 intro i ⟨i1,i2⟩;by_cases hi:i<S.path.length
 .have hm:S.path[i]! ∈ S.path:=get_mem hi
  (repeat' (first|refine stp ?_|with_reducible(refine brr ?_ ?_<;>intro h)));all_goals try(conv=>whnf)
  all_goals try (exfalso; omega)
  all_goals first
   | (refine zAB rfl (rA3 PV.bool ?_)
      refine(rCY.2 ⟨_,hm,?_⟩).symm;simp only[rAQ,rAX]
      exact⟨by assumption,rAC⟩)
   | exact⟨i+1,⟨⟨zom,fun m hm=>zA8 (p:=fun m=>¬ (S.path[m]!.kind=k/\S.path[m]!.index=j)) i2 zom hm⟩,by show S.path.length - (i+1)<S.path.length - i; omega⟩,[0],[],[],[],ttt,⟨rAI,rAI,rAJ,rAI,rAI,rGW⟩,rGW,rAA⟩
   | skip
 ·(repeat' (first|refine stp ?_|with_reducible(refine brr ?_ ?_<;>intro h)));all_goals try(conv=>whnf)
  all_goals try (exfalso; omega)
  refine zAB rfl (rA3 PV.bool ?_);refine(rD4.2 fun d hd=>?_).symm;obtain⟨m,hm,rfl⟩:=rBD hd;have:=i2 m zom;rw[rAS S.path m hm]at this;simp only[rAQ,rAX];exact this
def vD7(S:ScpL)(n:Int):RatL:=if 1<=n/\n<=S.lems.length then S.lems[n.toNat - 1]!.value else⟨false,[],[]⟩
def vCW(S:ScpL)(n j:Int)(up:Bool):Bool:=decide (1<=n/\n<=S.lems.length) && (decide (S.lems[n.toNat - 1]!.unit=j) && decide (S.lems[n.toNat - 1]!.upper=up))
theorem uI6:FO 165 Tryz.f165 [.cell 8 26,.tmp 9] 39:=mkO Tryz.func165 Tryz.ntmps165 Tryz.results165
theorem uGQ(S:ScpL)(n j:Int)(up:Bool)(hl:S.lems.length<=1048576):Fn 165 [vBD S,.int .i64 n,.int .i64 j,.bool up] (.data (.tup [vA5 (vD7 S n),.bool (vCW S n j up)])):=by
 refine zAM vBC hT uI6 (by simp[vBD]) ?_
 (repeat' (first|refine stp ?_|with_reducible(refine brr ?_ ?_<;>intro h)));all_goals try(conv=>whnf)
 .have e1:vD7 S n=⟨false,[],[]⟩:=rAN (fun e=>by omega)
  have e2:vCW S n j up=false:=by unfold vCW; rw[rBC (fun e=>by omega)]; rfl
  rw[e1,e2]; exact rGX
 .have e1:vD7 S n=⟨false,[],[]⟩:=rAN (fun e=>by omega)
  have e2:vCW S n j up=false:=by unfold vCW; rw[rBC (fun e=>by omega)]; rfl
  rw[e1,e2]; exact rGX
 .have hlt:n.toNat - 1<S.lems.length:=by omega
  refine zA7 (j:=n.toNat - 1) (show n - 1=_ by omega) hlt ?_;have e1:vD7 S n=S.lems[n.toNat - 1]!.value:=rAV ⟨zom,zom⟩;have e2:vCW S n j up=(decide (S.lems[n.toNat - 1]!.unit=j) && decide (S.lems[n.toNat - 1]!.upper=up)):=by unfold vCW; rw[rB4 (show 1<=n/\n<=S.lems.length from⟨zom,zom⟩)]; rfl
  rw[e1,e2];generalize S.lems[n.toNat - 1]! = m at *
  refine gob ?_ ?_<;>intro h
  .refine zAB rfl ?_
   simp_all
   exact⟨rfl,by cases m.upper<;>cases up<;>rfl⟩
  .refine zAB rfl ?_
   simp_all
   rfl
theorem uC2:FO 136 Tryz.f136 [.tmp 4] 44:=mkO Tryz.func136 Tryz.ntmps136 Tryz.results136
theorem uKV(a b:RowL):Fn 136 [vBJ a,vBJ b] (.data (.bool (dB (vEU a b)))):=by
 refine zAM vBC hT uC2 (by simp[vBJ]) ?_;refine sts ?_;have no:¬ vEU a b->false=dB (vEU a b):=zGV
 refine zAO hT (fun(i:Nat)=>[(5,.ptr 0 0 0),(6,.ptr 1 0 0),(26,.int .i64 i)]) (fun _=>[(0,⟨[vBJ a],4,true⟩),(1,⟨[vBJ b],4,true⟩)]) [] 2
  (fun i=>i<=4/\(0<i->a.kind=b.kind)/\(1<i->a.index=b.index)/\(2<i->a.lo=b.lo)/\(3<i->a.hi=b.hi)) (fun i=>4 - i) 0 ⟨zom,zom,zom,zom,zom⟩ zdd zsm ?_ ?_
 .exact⟨[_,_],[],[],[],ttt,⟨(apy rfl),(apy rfl),zAC rfl rfl,rGW⟩,⟨bbx,bbx,rGW⟩,rAA⟩
 rintro i ⟨i1,i2,i3,i4,i5⟩
 obtain rfl | rfl | rfl | rfl | rfl:i=0\/i=1\/i=2\/i=3\/i=4:=by omega
 all_goals (repeat' (first|refine stp ?_|with_reducible(refine brr ?_ ?_<;>intro h)));all_goals try(conv=>whnf)
 all_goals first
  | (refine zAB rfl (rA3 PV.bool ?_)
     rw[rA1,dB_true,rAX];unfold vEU
     omega)
  | (refine zAB rfl (rA3 PV.bool (no fun e=>?_))
     unfold vEU at e
     omega)
  | exact⟨1,⟨⟨zom,zom,zom,zom,zom⟩,zom⟩,[0,1],[],[],[],ttt,⟨apx,apx,rAI,rGW⟩,⟨bbx,bbx,rGW⟩,rAA⟩
  | exact⟨2,⟨⟨zom,zom,zom,zom,zom⟩,zom⟩,[0,1],[],[],[],ttt,⟨apx,apx,rAI,rGW⟩,⟨bbx,bbx,rGW⟩,rAA⟩
  | exact⟨3,⟨⟨zom,zom,zom,zom,zom⟩,zom⟩,[0,1],[],[],[],ttt,⟨apx,apx,rAI,rGW⟩,⟨bbx,bbx,rGW⟩,rAA⟩
  | exact⟨4,⟨⟨zom,zom,zom,zom,zom⟩,zom⟩,[0,1],[],[],[],ttt,⟨apx,apx,rAI,rGW⟩,⟨bbx,bbx,rGW⟩,rAA⟩
  | skip
theorem sgnQ_nn'{q:Rat}:0<=vDN q↔0<=q:=by
 rw[<- Int.not_lt,sgnQ_neg,rFY]
def vEV(r:RatL):Nat:=r.num.length+r.den.length
theorem zL4{k:Nat}{r:RatL}(h:okQ k r):okQ (vEV r) r:=⟨h.1,by unfold vEV; omega,by unfold vEV; omega⟩
structure szS(S:ScpL)(P V:Nat):Prop where
 P1:1<=P
 units:∀ f∈S.q.g.units,okA P f
 lo:vXM P S.q.r.lo
 hi:vXM P S.q.r.hi
 rows:uJB P S.q.r.rows
 path:S.path.length<=1048576/\∀ d∈S.path,okQ P d.rat
 lems:S.lems.length<=1048576/\∀ m∈S.lems,okQ V m.value
 can:∀ m∈S.lems,vE8 m.value
 two:∀ i j,i<S.lems.length->j<S.lems.length->S.lems[i]!.upper=false->S.lems[j]!.upper=true->vEV S.lems[i]!.value+vEV S.lems[j]!.value<=V
 B:P+2 * V+20<=100000000
 nv:vDI S<=1280
theorem zD3{k:Nat}{q:Rat}(h:sz k q):szF k (vBM q):=⟨h,fun p hp=>by cases hp⟩
theorem zEZ{f g:QF}{kf kg K:Nat}(hf:szF kf f)(hg:szF kg g)(hK:kf+kg+2<=K):szF K (vCG f g):=zKH hf hg (zFE (z:=-1) zdd) zom
theorem zGK{f:QF}{c:Rat}{kf kc K:Nat}(hf:szF kf f)(hc:sz kc c)(hK:kf+kc+2<=K):szF K (vDF f c):=zKH (zEH 1 zdd) hf hc zom
theorem zI8{f:QF}{c:Rat}:(vDF f c).ts.length<=f.ts.length:=by
 have:=zQH (f:=zeroQ) (g:=f) (c:=c)
 simpa [zeroQ,vDF]using this
theorem zH9{f:QF}{c:Rat}:(vCG f (vBM c)).ts.length<=f.ts.length:=by
 have:=zQH (f:=f) (g:=vBM c) (c:=-1)
 simpa [vBM,vCG]using this
theorem zGN{k:Nat}{r:RatL}(h:okQ k r)(hk:1<=k):sz k (qv r):=vI8 h.1 h.2.1 h.2.2 hk
section
variable {S:ScpL} {r:RowL}
theorem uGB(h:r.index<0\/r.lo≠0\/r.hi≠0):inO S r=none:=by unfold inO; rw[rAV h]
theorem uQR(h:¬ (r.index<0\/r.lo≠0\/r.hi≠0))(h1:r.kind=1/\r.index<S.q.r.lo.length):inO S r=some (vCG (vCR r.index) (vBM (qv S.q.r.lo[r.index.toNat]!))):=by unfold inO; rw[rAN h,rAV h1]
theorem uQQ(h:¬ (r.index<0\/r.lo≠0\/r.hi≠0))(h1:r.kind=2/\r.index<S.q.r.hi.length):inO S r=some (vCG (vBM (qv S.q.r.hi[r.index.toNat]!)) (vCR r.index)):=by unfold inO; rw[rAN h,rAN (fun e=>by omega),rAV h1]
theorem uQP(h:¬ (r.index<0\/r.lo≠0\/r.hi≠0))(h1:r.kind=3/\r.index<S.q.r.rows.length):inO S r=some S.q.r.rows[r.index.toNat]!.Q:=by unfold inO; rw[rAN h,rAN (fun e=>by omega),rAN (fun e=>by omega),rAV h1]
theorem uQO(h:¬ (r.index<0\/r.lo≠0\/r.hi≠0))(h1:r.kind=4/\r.index<S.path.length)(h2:S.path[r.index.toNat]!.kind=3):inO S r=some (vCG (vCR S.path[r.index.toNat]!.index) (vBM (qv S.path[r.index.toNat]!.rat))):=by unfold inO; rw[rAN h,rAN (fun e=>by omega),rAN (fun e=>by omega),rAN (fun e=>by omega),rAV h1,rAV h2]
theorem uND(h:¬ (r.index<0\/r.lo≠0\/r.hi≠0))(h1:r.kind=4/\r.index<S.path.length)(h2:S.path[r.index.toNat]!.kind=4):inO S r=some (vCG (vBM (qv S.path[r.index.toNat]!.rat)) (vCR S.path[r.index.toNat]!.index)):=by unfold inO; rw[rAN h,rAN (fun e=>by omega),rAN (fun e=>by omega),rAN (fun e=>by omega),rAV h1,rAN zom,rAV h2]
theorem vH2(h1:¬ (r.kind=1/\r.index<S.q.r.lo.length))(h2:¬ (r.kind=2/\r.index<S.q.r.hi.length))(h3:¬ (r.kind=3/\r.index<S.q.r.rows.length))(h4:¬ (r.kind=4/\r.index<S.path.length/\(S.path[r.index.toNat]!.kind=3\/S.path[r.index.toNat]!.kind=4))):inO S r=none:=by
 unfold inO;rw[rAN h1,rAN h2,rAN h3]
 split
 .rfl
 .split
  .rw[rAN (fun e=>h4 ⟨zom,zom,rAW e⟩),rAN (fun e=>h4 ⟨zom,zom,rAZ e⟩)]
  .rfl
end
theorem uMU:FO 163 Tryz.f163 [.cell 4 46,.tmp 5] 120:=mkO Tryz.func163 Tryz.ntmps163 Tryz.results163
theorem uP4(S:ScpL)(r:RowL)(P V:Nat)(hS:vCA S)(hz:szS S P V):Fn 163 [vBD S,vBJ r] (.data (.tup [vBP ((inO S r).getD zeroQ),.bool (inO S r).isSome])):=by
 have l1:=hz.lo.1;have l2:=hz.hi.1;have l3:=hz.rows.1;have l4:=hz.path.1;have hB:=hz.B;have hP:=hz.P1;have none:inO S r=none->PV.tup [.agg [.imm [],.bool false,.imm [],.imm []],.bool false]=.tup [vBP ((inO S r).getD zeroQ),.bool (inO S r).isSome]:=fun e=>by rw[e,<- zA9]; rfl
 have some:∀ f,inO S r=some f->PV.tup [vBP f,.bool true]=.tup [vBP ((inO S r).getD zeroQ),.bool (inO S r).isSome]:=fun f e=>by rw[e]; rfl
 refine zAM vBC hT uMU (by simp[vBD,vBJ]) ?_
 (repeat' (first|refine stp ?_|with_reducible(refine brr ?_ ?_<;>intro h)));all_goals try(conv=>whnf)
 all_goals first
  | exact zAB rfl (none (uGB zom))
  | exact zAB rfl (none (vH2 zom zom zom zom))
  | skip
 all_goals try (exfalso; omega)
 .have hj:r.index.toNat<S.q.r.lo.length:=by omega
  have hq:=zD8 hz.lo hj;have cv:=vQ2 r.index;have cn:=zQU _ P hq zom;have cs:=zHB (vCR r.index) (vBM (qv S.q.r.lo[r.index.toNat]!)) 1 P (zDX _) (zD3 (zGN hq hP)) zom (by simp[vCR]) (by simp[vBM]);refine zAA cv rfl ?_;refine sts ?_;refine zA7 (j:=r.index.toNat) (show r.index=_ by omega) hj ?_;refine sts ?_;refine zAA cn rfl ?_;refine sts ?_;refine zAA cs rfl ?_;refine sts ?_;exact zAB rfl (some _ (uQR zom ⟨zom,zom⟩))
 .have hj:r.index.toNat<S.q.r.hi.length:=by omega
  have hq:=zD8 hz.hi hj;have cv:=vQ2 r.index;have cn:=zQU _ P hq zom;have cs:=zHB (vBM (qv S.q.r.hi[r.index.toNat]!)) (vCR r.index) P 1 (zD3 (zGN hq hP)) (zDX _) zom (by simp[vBM]) (by simp[vCR]);refine zA7 (j:=r.index.toNat) (show r.index=_ by omega) hj ?_;refine sts ?_;refine zAA cn rfl ?_;refine sts ?_;refine zAA cv rfl ?_;refine sts ?_;refine zAA cs rfl ?_;refine sts ?_;exact zAB rfl (some _ (uQQ zom ⟨zom,zom⟩))
 .have hj:r.index.toNat<S.q.r.rows.length:=by omega
  have e:=some _ (uQP (S:=S) (r:=r) zom ⟨zom,zom⟩);rw[<- vNR (hS.1.2.1.2.2.2.2.2 _ hj)]at e;refine zA7 (j:=r.index.toNat) (show r.index=_ by omega) hj ?_;refine sts ?_;exact zAB rfl e
 .have hj:r.index.toNat<S.path.length:=by omega
  have hm:S.path[r.index.toNat]! ∈ S.path:=get_mem hj;have hq:=hz.path.2 _ hm;have cv:=vQ2 S.path[r.index.toNat]!.index;have cn:=zQU _ P hq zom;have cs:=zHB (vCR S.path[r.index.toNat]!.index) (vBM (qv S.path[r.index.toNat]!.rat)) 1 P (zDX _) (zD3 (zGN hq hP)) zom (by simp[vCR]) (by simp[vBM]);have cs2:=zHB (vBM (qv S.path[r.index.toNat]!.rat)) (vCR S.path[r.index.toNat]!.index) P 1 (zD3 (zGN hq hP)) (zDX _) zom (by simp[vBM]) (by simp[vCR]);refine zA7 (j:=r.index.toNat) (show r.index=_ by omega) hj ?_
  (repeat' (first|refine stp ?_|with_reducible(refine brr ?_ ?_<;>intro h)));all_goals try(conv=>whnf)
  .refine zAA cv rfl ?_
   refine sts ?_;refine zAA cn rfl ?_;refine sts ?_;refine zAA cs rfl ?_;refine sts ?_;exact zAB rfl (some _ (uQO zom ⟨zom,zom⟩ rAC))
  .refine zAA cn rfl ?_
   refine sts ?_;refine zAA cv rfl ?_;refine sts ?_;refine zAA cs2 rfl ?_;refine sts ?_;exact zAB rfl (some _ (uND zom ⟨zom,zom⟩ rAC))
  .exact zAB rfl (none (vH2 zom zom zom (fun e=>by rcases e.2.2 with q | q<;>contradiction)))
open Go.Proofs Go.PI
theorem uIH:FO 167 Tryz.f167 [.cell 4 26] 12:=mkO Tryz.func167 Tryz.ntmps167 Tryz.results167
theorem uNV(x y:RatL)(hx:okR x)(hy:okR y)(hl1:x.num.length<1000000000)(hl2:x.den.length<1000000000)(hl3:y.num.length<1000000000)(hl4:y.den.length<1000000000):Fn 167 [vA5 x,vA5 y] (.data (vA5 (cr (qv x - qv y)))):=by
 have e:qv (⟨!y.neg,y.num,y.den⟩:RatL)=- qv y:=by
  unfold qv; dsimp only; rw[zP1];rw[show -(sg y.neg (nv y.num))=(-1) * sg y.neg (nv y.num) by omega];have:∀ (z:Int) (d:Nat),mkRat (-1 * z) d=- mkRat z d:=fun z d=>by rw[rGD,Int.one_mul,rGO]
  exact this _ _
 have ca:=vQX x ⟨!y.neg,y.num,y.den⟩ hx hy hl1 hl2 hl3 hl4;rw[e,show qv x+-qv y=qv x - qv y by grind]at ca;refine zAM vBC hT uIH (by simp[vA5]) ?_;refine sts ?_;refine zAA ca rfl ?_;refine sts ?_;exact rGX
def vDY(r:RowL):Bool:=(decide (r.lo=0) && decide (r.hi=0))
def onP(r:RowL)(L:RatL)(lw D1:Bool):Bool:=(decide (r.hi=0) && ((decide (r.lo=0) && D1) || (lw && decide (0<=vDN (qv L)))))
def vFL(r:RowL)(U:RatL)(up D2:Bool):Bool:=(decide (r.lo=0) && ((decide (r.hi=0) && D2) || (up && decide (vDN (qv U)<=0))))
def vD6(r:RowL)(v p:QF)(L U:RatL)(lw up on off pl:Bool):QF×Bool :=
 if r.kind=5 then(v,pl)
 else if r.kind=6 then(vCG v p,pl)
 else if r.kind=7 then(p,on)
 else if r.kind=8 then(vCG p v,on)
 else if r.kind=9 then(vDF p (-1),off)
 else if r.kind=10 then(vDF v (-1),off)
 else if r.kind=11 then(vCG p (vBM (qv L)),lw && decide (r.hi=0))
 else if r.kind=12 then(vCG (vBM (qv U)) p,up && decide (r.lo=0))
 else if r.kind=13/\lw=true/\up=true/\vDN (qv L)<0/\0<vDN (qv U) then(uG1 v p (qv L) (qv U),true)
 else(zeroQ,false)
theorem vN6{S:ScpL}{P V:Nat}(hz:szS S P V)(n:Int):okQ (V+1) (vD7 S n):=by
 unfold vD7
 split
 .exact zC6 zom (hz.lems.2 _ (get_mem zom))
 .exact⟨⟨by simp[okN],by simp[okN]⟩,rA9 _,rA9 _⟩
theorem vQ3{S:ScpL}{P V:Nat}(hz:szS S P V)(n:Int):vE8 (vD7 S n):=by
 unfold vD7
 split
 .exact hz.can _ (get_mem zom)
 .rfl
theorem uC3:FO 137 Tryz.f137 [.cell 4 46,.tmp 5] 206:=mkO Tryz.func137 Tryz.ntmps137 Tryz.results137
theorem uEZ(S:ScpL)(r:RowL)(P V:Nat)(hS:vCA S)(hz:szS S P V)(hk:5<=r.kind)(hi:0<=r.index/\r.index<S.q.g.units.length)(v p:QF)(L U:RatL)(lw up D1 D2 on off pl:Bool)(hL:vD7 S r.lo=L)(hU:vD7 S r.hi=U)(hlw:vCW S r.lo r.index false=lw)(hup:vCW S r.hi r.index true=up)(hvv:vCR (S.q.g.ins+r.index)=v)(hp:S.q.g.units[r.index.toNat]!.Q=p)(hD1:vE1 S 1 r.index=D1)(hD2:vE1 S 2 r.index=D2)(hon:onP r L lw D1=on)(hoff:vFL r U up D2=off)(hpl:vDY r=pl):Fn 137 [vBD S,vBJ r] (.data (.tup [vBP (vD6 r v p L U lw up on off pl).1,.bool (vD6 r v p L U lw up on off pl).2])):=by
 have hj:r.index.toNat<S.q.g.units.length:=by omega
 have hnu:=hS.1.1.2.1;have hni:=hS.1.1.1;have hvu:=hS.1.1.2.2.2.1 _ hj;have hpu:=vNR hvu;have hB:=hz.B;have hP:=hz.P1;have cv:=vQ2 (S.q.g.ins+r.index);have cl:=uGQ S r.lo r.index false hz.lems.1;have cu:=uGQ S r.hi r.index true hz.lems.1;have cd1:=uGP S 1 r.index hz.path.1;have cd2:=uGP S 2 r.index hz.path.1;have hLk:=vN6 hz r.lo;have hUk:=vN6 hz r.hi;rw[hL]at cl hLk;rw[hU]at cu hUk;rw[hlw]at cl;rw[hup]at cu;have sl:=zGC L hLk.1 (by have:=hLk.2; omega);have su:=zGC U hUk.1 (by have:=hUk.2; omega);have cnl:=zQU L (V+1) hLk zom;have cnu:=zQU U (V+1) hUk zom;have hUc:cr (qv U)=U:=by have:=vQ3 hz r.hi; rw[hU]at this; exact this.symm
 have szL:=zGN hLk zom;have szU:=zGN hUk zom;have hpa:=hz.units _ (get_mem hj);have szp:szF P p:=by rw[<- hp]; exact zHH hpa hP
 have szv:szF 1 v:=by rw[<- hvv]; exact zDX _
 have lv:v.ts.length<=1:=by rw[<- hvv]; simp[vCR]
 have lp:p.ts.length<=1048576:=by rw[<- hp,uOI]; exact hpa.2.2
 rw[hvv]at cv;rw[hp]at hpu;rw[hD1]at cd1;rw[hD2]at cd2;have c6:=zHB v p 1 P szv szp zom zom lp;have c8:=zHB p v P 1 szp szv zom lp zom;have c9:=vIJ p P szp zom lp;have c10:=vIJ v 1 szv zom zom;have c11:=zHB p (vBM (qv L)) P (V+1) szp (zD3 szL) zom lp (by simp[vBM]);have c12:=zHB (vBM (qv U)) p (V+1) P (zD3 szU) szp zom (by simp[vBM]) lp;refine zAM vBC hT uC3 (by simp[vBD,vBJ]) ?_
 (repeat' (first|refine stp ?_|with_reducible(refine brr ?_ ?_<;>intro h)));all_goals try(conv=>whnf)
 all_goals try (exfalso; omega)
 refine zAA cv rfl ?_;refine sts ?_;refine zA7 (j:=r.index.toNat) (show r.index=_ by omega) hj ?_;refine sts ?_;refine zAA cl rfl ?_;refine sts ?_;refine zAA cu rfl ?_;refine sus ?_;refine vBW [] [(2,.ptr 0 0 0),(3,.ptr 1 0 0),(4,.ptr 2 0 0),(6,.int .i64 r.index),(7,.ptr 3 0 0),(8,.ptr 4 0 0),(9,.ptr 5 0 0),(10,.bool lw),(11,.ptr 6 0 0),(12,.bool up)] [(0,⟨[vBD S],12,true⟩),(1,⟨[vBJ r],4,true⟩),(2,⟨[.agg [.nilsl,.bool false,.nilsl,.nilsl]],4,true⟩),(3,⟨[vBP v],4,true⟩),(4,⟨[vBP p],4,true⟩),(5,⟨[vA5 L],3,true⟩),(6,⟨[vA5 U],3,true⟩)] [] 7 zdd zsm trivial ⟨[0,1,2,_,_,_,_],[],[],[],ttt,⟨(apy rfl),(apy rfl),(apy rfl),zAC rfl rfl,(apy rfl),(apy rfl),(apy rfl),zAK rfl rfl,(apy rfl),zAK rfl rfl,rGW⟩,⟨bbx,bbx,bbx,bbx,zEY zdd rfl hpu rfl rfl rfl,bbx,bbx,rGW⟩,rAA⟩ ?_;refine vVS ⟨sv [(2,.ptr 0 0 0),(3,.ptr 1 0 0),(4,.ptr 2 0 0),(6,.int .i64 r.index),(7,.ptr 3 0 0),(8,.ptr 4 0 0),(9,.ptr 5 0 0),(10,.bool lw),(11,.ptr 6 0 0),(12,.bool up),(13,.bool on)],hv [(0,⟨[vBD S],12,true⟩),(1,⟨[vBJ r],4,true⟩),(2,⟨[.agg [.nilsl,.bool false,.nilsl,.nilsl]],4,true⟩),(3,⟨[vBP v],4,true⟩),(4,⟨[vBP p],4,true⟩),(5,⟨[vA5 L],3,true⟩),(6,⟨[vA5 U],3,true⟩)],zv [],7⟩ ?_ fun H9=>?_
 rotate_left
 ·(repeat' (first|refine stu ?_|with_reducible(refine brr ?_ ?_<;>intro h)));all_goals try(conv=>whnf)
  .refine zAA cd1 rfl ?_
   (repeat' (first|refine stu ?_|with_reducible(refine brr ?_ ?_<;>intro h)));all_goals try(conv=>whnf)
   .refine vBW [] [(2,.ptr 0 0 0),(3,.ptr 1 0 0),(4,.ptr 2 0 0),(6,.int .i64 r.index),(7,.ptr 3 0 0),(8,.ptr 4 0 0),(9,.ptr 5 0 0),(10,.bool lw),(11,.ptr 6 0 0),(12,.bool up),(13,.bool on)] [(0,⟨[vBD S],12,true⟩),(1,⟨[vBJ r],4,true⟩),(2,⟨[.agg [.nilsl,.bool false,.nilsl,.nilsl]],4,true⟩),(3,⟨[vBP v],4,true⟩),(4,⟨[vBP p],4,true⟩),(5,⟨[vA5 L],3,true⟩),(6,⟨[vA5 U],3,true⟩)] [] 7 zdd zsm trivial ⟨[0,1,2,3,4,5,6],[],[],[],ttt,⟨apx,apx,apx,rAI,apx,apx,apx,rAK,apx,rAK,zAK rfl (by rw[<- hon]; unfold onP; rw[rA1]; clear sl su cd1 cd2 hL hU hlw hup hvv hp hD1 hD2 cv cl cu cnl cnu c6 c8 c9 c10 c11 c12 hpu; simp_all),rGW⟩,⟨bbx,bbx,bbx,bbx,bbx,bbx,bbx,rGW⟩,rAA⟩ ?_; exact H9
   .refine zAA sl rfl ?_
    refine sus ?_;refine vBW [] [(2,.ptr 0 0 0),(3,.ptr 1 0 0),(4,.ptr 2 0 0),(6,.int .i64 r.index),(7,.ptr 3 0 0),(8,.ptr 4 0 0),(9,.ptr 5 0 0),(10,.bool lw),(11,.ptr 6 0 0),(12,.bool up),(13,.bool on)] [(0,⟨[vBD S],12,true⟩),(1,⟨[vBJ r],4,true⟩),(2,⟨[.agg [.nilsl,.bool false,.nilsl,.nilsl]],4,true⟩),(3,⟨[vBP v],4,true⟩),(4,⟨[vBP p],4,true⟩),(5,⟨[vA5 L],3,true⟩),(6,⟨[vA5 U],3,true⟩)] [] 7 zdd zsm trivial ⟨[0,1,2,3,4,5,6],[],[],[],ttt,⟨apx,apx,apx,rAI,apx,apx,apx,rAK,apx,rAK,zAK rfl (by rw[<- hon]; unfold onP; rw[rA1]; clear sl su cd1 cd2 hL hU hlw hup hvv hp hD1 hD2 cv cl cu cnl cnu c6 c8 c9 c10 c11 c12 hpu; simp_all),rGW⟩,⟨bbx,bbx,bbx,bbx,bbx,bbx,bbx,rGW⟩,rAA⟩ ?_; exact H9
   .refine vBW [] [(2,.ptr 0 0 0),(3,.ptr 1 0 0),(4,.ptr 2 0 0),(6,.int .i64 r.index),(7,.ptr 3 0 0),(8,.ptr 4 0 0),(9,.ptr 5 0 0),(10,.bool lw),(11,.ptr 6 0 0),(12,.bool up),(13,.bool on)] [(0,⟨[vBD S],12,true⟩),(1,⟨[vBJ r],4,true⟩),(2,⟨[.agg [.nilsl,.bool false,.nilsl,.nilsl]],4,true⟩),(3,⟨[vBP v],4,true⟩),(4,⟨[vBP p],4,true⟩),(5,⟨[vA5 L],3,true⟩),(6,⟨[vA5 U],3,true⟩)] [] 7 zdd zsm trivial ⟨[0,1,2,3,4,5,6],[],[],[],ttt,⟨apx,apx,apx,rAI,apx,apx,apx,rAK,apx,rAK,zAK rfl (by rw[<- hon]; unfold onP; rw[rA1]; clear sl su cd1 cd2 hL hU hlw hup hvv hp hD1 hD2 cv cl cu cnl cnu c6 c8 c9 c10 c11 c12 hpu; simp_all),rGW⟩,⟨bbx,bbx,bbx,bbx,bbx,bbx,bbx,rGW⟩,rAA⟩ ?_; exact H9
  .refine zAA sl rfl ?_
   refine sus ?_;refine vBW [] [(2,.ptr 0 0 0),(3,.ptr 1 0 0),(4,.ptr 2 0 0),(6,.int .i64 r.index),(7,.ptr 3 0 0),(8,.ptr 4 0 0),(9,.ptr 5 0 0),(10,.bool lw),(11,.ptr 6 0 0),(12,.bool up),(13,.bool on)] [(0,⟨[vBD S],12,true⟩),(1,⟨[vBJ r],4,true⟩),(2,⟨[.agg [.nilsl,.bool false,.nilsl,.nilsl]],4,true⟩),(3,⟨[vBP v],4,true⟩),(4,⟨[vBP p],4,true⟩),(5,⟨[vA5 L],3,true⟩),(6,⟨[vA5 U],3,true⟩)] [] 7 zdd zsm trivial ⟨[0,1,2,3,4,5,6],[],[],[],ttt,⟨apx,apx,apx,rAI,apx,apx,apx,rAK,apx,rAK,zAK rfl (by rw[<- hon]; unfold onP; rw[rA1]; clear sl su cd1 cd2 hL hU hlw hup hvv hp hD1 hD2 cv cl cu cnl cnu c6 c8 c9 c10 c11 c12 hpu; simp_all),rGW⟩,⟨bbx,bbx,bbx,bbx,bbx,bbx,bbx,rGW⟩,rAA⟩ ?_; exact H9
  .refine vBW [] [(2,.ptr 0 0 0),(3,.ptr 1 0 0),(4,.ptr 2 0 0),(6,.int .i64 r.index),(7,.ptr 3 0 0),(8,.ptr 4 0 0),(9,.ptr 5 0 0),(10,.bool lw),(11,.ptr 6 0 0),(12,.bool up),(13,.bool on)] [(0,⟨[vBD S],12,true⟩),(1,⟨[vBJ r],4,true⟩),(2,⟨[.agg [.nilsl,.bool false,.nilsl,.nilsl]],4,true⟩),(3,⟨[vBP v],4,true⟩),(4,⟨[vBP p],4,true⟩),(5,⟨[vA5 L],3,true⟩),(6,⟨[vA5 U],3,true⟩)] [] 7 zdd zsm trivial ⟨[0,1,2,3,4,5,6],[],[],[],ttt,⟨apx,apx,apx,rAI,apx,apx,apx,rAK,apx,rAK,zAK rfl (by rw[<- hon]; unfold onP; rw[rA1]; clear sl su cd1 cd2 hL hU hlw hup hvv hp hD1 hD2 cv cl cu cnl cnu c6 c8 c9 c10 c11 c12 hpu; simp_all),rGW⟩,⟨bbx,bbx,bbx,bbx,bbx,bbx,bbx,rGW⟩,rAA⟩ ?_; exact H9
  .refine vBW [] [(2,.ptr 0 0 0),(3,.ptr 1 0 0),(4,.ptr 2 0 0),(6,.int .i64 r.index),(7,.ptr 3 0 0),(8,.ptr 4 0 0),(9,.ptr 5 0 0),(10,.bool lw),(11,.ptr 6 0 0),(12,.bool up),(13,.bool on)] [(0,⟨[vBD S],12,true⟩),(1,⟨[vBJ r],4,true⟩),(2,⟨[.agg [.nilsl,.bool false,.nilsl,.nilsl]],4,true⟩),(3,⟨[vBP v],4,true⟩),(4,⟨[vBP p],4,true⟩),(5,⟨[vA5 L],3,true⟩),(6,⟨[vA5 U],3,true⟩)] [] 7 zdd zsm trivial ⟨[0,1,2,3,4,5,6],[],[],[],ttt,⟨apx,apx,apx,rAI,apx,apx,apx,rAK,apx,rAK,zAK rfl (by rw[<- hon]; unfold onP; rw[rA1]; clear sl su cd1 cd2 hL hU hlw hup hvv hp hD1 hD2 cv cl cu cnl cnu c6 c8 c9 c10 c11 c12 hpu; simp_all),rGW⟩,⟨bbx,bbx,bbx,bbx,bbx,bbx,bbx,rGW⟩,rAA⟩ ?_; exact H9
 refine vVS ⟨sv [(2,.ptr 0 0 0),(3,.ptr 1 0 0),(4,.ptr 2 0 0),(6,.int .i64 r.index),(7,.ptr 3 0 0),(8,.ptr 4 0 0),(9,.ptr 5 0 0),(10,.bool lw),(11,.ptr 6 0 0),(12,.bool up),(13,.bool on),(14,.bool off)],hv [(0,⟨[vBD S],12,true⟩),(1,⟨[vBJ r],4,true⟩),(2,⟨[.agg [.nilsl,.bool false,.nilsl,.nilsl]],4,true⟩),(3,⟨[vBP v],4,true⟩),(4,⟨[vBP p],4,true⟩),(5,⟨[vA5 L],3,true⟩),(6,⟨[vA5 U],3,true⟩)],zv [],7⟩ ?_ fun H10=>?_
 rotate_left
 ·(repeat' (first|refine stu ?_|with_reducible(refine brr ?_ ?_<;>intro h)));all_goals try(conv=>whnf)
  .refine zAA cd2 rfl ?_
   (repeat' (first|refine stu ?_|with_reducible(refine brr ?_ ?_<;>intro h)));all_goals try(conv=>whnf)
   .refine vBW [] [(2,.ptr 0 0 0),(3,.ptr 1 0 0),(4,.ptr 2 0 0),(6,.int .i64 r.index),(7,.ptr 3 0 0),(8,.ptr 4 0 0),(9,.ptr 5 0 0),(10,.bool lw),(11,.ptr 6 0 0),(12,.bool up),(13,.bool on),(14,.bool off)] [(0,⟨[vBD S],12,true⟩),(1,⟨[vBJ r],4,true⟩),(2,⟨[.agg [.nilsl,.bool false,.nilsl,.nilsl]],4,true⟩),(3,⟨[vBP v],4,true⟩),(4,⟨[vBP p],4,true⟩),(5,⟨[vA5 L],3,true⟩),(6,⟨[vA5 U],3,true⟩)] [] 7 zdd zsm trivial ⟨[0,1,2,3,4,5,6],[],[],[],ttt,⟨apx,apx,apx,rAI,apx,apx,apx,rAK,apx,rAK,rAK,zAK rfl (by rw[<- hoff]; unfold vFL; rw[rA1]; clear sl su cd1 cd2 hL hU hlw hup hvv hp hD1 hD2 cv cl cu cnl cnu c6 c8 c9 c10 c11 c12 hpu; simp_all),rGW⟩,⟨bbx,bbx,bbx,bbx,bbx,bbx,bbx,rGW⟩,rAA⟩ ?_; exact H10
   .refine zAA su rfl ?_
    refine sus ?_;refine vBW [] [(2,.ptr 0 0 0),(3,.ptr 1 0 0),(4,.ptr 2 0 0),(6,.int .i64 r.index),(7,.ptr 3 0 0),(8,.ptr 4 0 0),(9,.ptr 5 0 0),(10,.bool lw),(11,.ptr 6 0 0),(12,.bool up),(13,.bool on),(14,.bool off)] [(0,⟨[vBD S],12,true⟩),(1,⟨[vBJ r],4,true⟩),(2,⟨[.agg [.nilsl,.bool false,.nilsl,.nilsl]],4,true⟩),(3,⟨[vBP v],4,true⟩),(4,⟨[vBP p],4,true⟩),(5,⟨[vA5 L],3,true⟩),(6,⟨[vA5 U],3,true⟩)] [] 7 zdd zsm trivial ⟨[0,1,2,3,4,5,6],[],[],[],ttt,⟨apx,apx,apx,rAI,apx,apx,apx,rAK,apx,rAK,rAK,zAK rfl (by rw[<- hoff]; unfold vFL; rw[rA1]; clear sl su cd1 cd2 hL hU hlw hup hvv hp hD1 hD2 cv cl cu cnl cnu c6 c8 c9 c10 c11 c12 hpu; simp_all),rGW⟩,⟨bbx,bbx,bbx,bbx,bbx,bbx,bbx,rGW⟩,rAA⟩ ?_; exact H10
   .refine vBW [] [(2,.ptr 0 0 0),(3,.ptr 1 0 0),(4,.ptr 2 0 0),(6,.int .i64 r.index),(7,.ptr 3 0 0),(8,.ptr 4 0 0),(9,.ptr 5 0 0),(10,.bool lw),(11,.ptr 6 0 0),(12,.bool up),(13,.bool on),(14,.bool off)] [(0,⟨[vBD S],12,true⟩),(1,⟨[vBJ r],4,true⟩),(2,⟨[.agg [.nilsl,.bool false,.nilsl,.nilsl]],4,true⟩),(3,⟨[vBP v],4,true⟩),(4,⟨[vBP p],4,true⟩),(5,⟨[vA5 L],3,true⟩),(6,⟨[vA5 U],3,true⟩)] [] 7 zdd zsm trivial ⟨[0,1,2,3,4,5,6],[],[],[],ttt,⟨apx,apx,apx,rAI,apx,apx,apx,rAK,apx,rAK,rAK,zAK rfl (by rw[<- hoff]; unfold vFL; rw[rA1]; clear sl su cd1 cd2 hL hU hlw hup hvv hp hD1 hD2 cv cl cu cnl cnu c6 c8 c9 c10 c11 c12 hpu; simp_all),rGW⟩,⟨bbx,bbx,bbx,bbx,bbx,bbx,bbx,rGW⟩,rAA⟩ ?_; exact H10
  .refine zAA su rfl ?_
   refine sus ?_;refine vBW [] [(2,.ptr 0 0 0),(3,.ptr 1 0 0),(4,.ptr 2 0 0),(6,.int .i64 r.index),(7,.ptr 3 0 0),(8,.ptr 4 0 0),(9,.ptr 5 0 0),(10,.bool lw),(11,.ptr 6 0 0),(12,.bool up),(13,.bool on),(14,.bool off)] [(0,⟨[vBD S],12,true⟩),(1,⟨[vBJ r],4,true⟩),(2,⟨[.agg [.nilsl,.bool false,.nilsl,.nilsl]],4,true⟩),(3,⟨[vBP v],4,true⟩),(4,⟨[vBP p],4,true⟩),(5,⟨[vA5 L],3,true⟩),(6,⟨[vA5 U],3,true⟩)] [] 7 zdd zsm trivial ⟨[0,1,2,3,4,5,6],[],[],[],ttt,⟨apx,apx,apx,rAI,apx,apx,apx,rAK,apx,rAK,rAK,zAK rfl (by rw[<- hoff]; unfold vFL; rw[rA1]; clear sl su cd1 cd2 hL hU hlw hup hvv hp hD1 hD2 cv cl cu cnl cnu c6 c8 c9 c10 c11 c12 hpu; simp_all),rGW⟩,⟨bbx,bbx,bbx,bbx,bbx,bbx,bbx,rGW⟩,rAA⟩ ?_; exact H10
  .refine vBW [] [(2,.ptr 0 0 0),(3,.ptr 1 0 0),(4,.ptr 2 0 0),(6,.int .i64 r.index),(7,.ptr 3 0 0),(8,.ptr 4 0 0),(9,.ptr 5 0 0),(10,.bool lw),(11,.ptr 6 0 0),(12,.bool up),(13,.bool on),(14,.bool off)] [(0,⟨[vBD S],12,true⟩),(1,⟨[vBJ r],4,true⟩),(2,⟨[.agg [.nilsl,.bool false,.nilsl,.nilsl]],4,true⟩),(3,⟨[vBP v],4,true⟩),(4,⟨[vBP p],4,true⟩),(5,⟨[vA5 L],3,true⟩),(6,⟨[vA5 U],3,true⟩)] [] 7 zdd zsm trivial ⟨[0,1,2,3,4,5,6],[],[],[],ttt,⟨apx,apx,apx,rAI,apx,apx,apx,rAK,apx,rAK,rAK,zAK rfl (by rw[<- hoff]; unfold vFL; rw[rA1]; clear sl su cd1 cd2 hL hU hlw hup hvv hp hD1 hD2 cv cl cu cnl cnu c6 c8 c9 c10 c11 c12 hpu; simp_all),rGW⟩,⟨bbx,bbx,bbx,bbx,bbx,bbx,bbx,rGW⟩,rAA⟩ ?_; exact H10
  .refine vBW [] [(2,.ptr 0 0 0),(3,.ptr 1 0 0),(4,.ptr 2 0 0),(6,.int .i64 r.index),(7,.ptr 3 0 0),(8,.ptr 4 0 0),(9,.ptr 5 0 0),(10,.bool lw),(11,.ptr 6 0 0),(12,.bool up),(13,.bool on),(14,.bool off)] [(0,⟨[vBD S],12,true⟩),(1,⟨[vBJ r],4,true⟩),(2,⟨[.agg [.nilsl,.bool false,.nilsl,.nilsl]],4,true⟩),(3,⟨[vBP v],4,true⟩),(4,⟨[vBP p],4,true⟩),(5,⟨[vA5 L],3,true⟩),(6,⟨[vA5 U],3,true⟩)] [] 7 zdd zsm trivial ⟨[0,1,2,3,4,5,6],[],[],[],ttt,⟨apx,apx,apx,rAI,apx,apx,apx,rAK,apx,rAK,rAK,zAK rfl (by rw[<- hoff]; unfold vFL; rw[rA1]; clear sl su cd1 cd2 hL hU hlw hup hvv hp hD1 hD2 cv cl cu cnl cnu c6 c8 c9 c10 c11 c12 hpu; simp_all),rGW⟩,⟨bbx,bbx,bbx,bbx,bbx,bbx,bbx,rGW⟩,rAA⟩ ?_; exact H10
 refine vVS ⟨sv [(2,.ptr 0 0 0),(3,.ptr 1 0 0),(4,.ptr 2 0 0),(6,.int .i64 r.index),(7,.ptr 3 0 0),(8,.ptr 4 0 0),(9,.ptr 5 0 0),(10,.bool lw),(11,.ptr 6 0 0),(12,.bool up),(13,.bool on),(14,.bool off),(15,.bool pl)],hv [(0,⟨[vBD S],12,true⟩),(1,⟨[vBJ r],4,true⟩),(2,⟨[.agg [.nilsl,.bool false,.nilsl,.nilsl]],4,true⟩),(3,⟨[vBP v],4,true⟩),(4,⟨[vBP p],4,true⟩),(5,⟨[vA5 L],3,true⟩),(6,⟨[vA5 U],3,true⟩)],zv [],7⟩ ?_ fun H11=>?_
 rotate_left
 ·(repeat' (first|refine stu ?_|with_reducible(refine brr ?_ ?_<;>intro h)));all_goals try(conv=>whnf)
  all_goals (refine vBW [] [(2,.ptr 0 0 0),(3,.ptr 1 0 0),(4,.ptr 2 0 0),(6,.int .i64 r.index),(7,.ptr 3 0 0),(8,.ptr 4 0 0),(9,.ptr 5 0 0),(10,.bool lw),(11,.ptr 6 0 0),(12,.bool up),(13,.bool on),(14,.bool off),(15,.bool pl)] [(0,⟨[vBD S],12,true⟩),(1,⟨[vBJ r],4,true⟩),(2,⟨[.agg [.nilsl,.bool false,.nilsl,.nilsl]],4,true⟩),(3,⟨[vBP v],4,true⟩),(4,⟨[vBP p],4,true⟩),(5,⟨[vA5 L],3,true⟩),(6,⟨[vA5 U],3,true⟩)] [] 7 zdd zsm trivial ⟨[0,1,2,3,4,5,6],[],[],[],ttt,⟨apx,apx,apx,rAI,apx,apx,apx,rAK,apx,rAK,rAK,rAK,zAK rfl (by rw[<- hpl]; unfold vDY; rw[rA1]; clear sl su cd1 cd2 hL hU hlw hup hvv hp hD1 hD2 cv cl cu cnl cnu c6 c8 c9 c10 c11 c12 hpu; simp_all),rGW⟩,⟨bbx,bbx,bbx,bbx,bbx,bbx,bbx,rGW⟩,rAA⟩ ?_; exact H11)
 clear cd1 cd2 hon hoff hpl
 (repeat' (first|refine stp ?_|with_reducible(refine brr ?_ ?_<;>intro h)));all_goals try(conv=>whnf)
 .have e:vD6 r v p L U lw up on off pl=(v,pl):=by unfold vD6; (repeat rw[rAN zom]); rw[rAV zom]
  exact zAB rfl (by rw[e]; rfl)
 .have e:vD6 r v p L U lw up on off pl=(vCG v p,pl):=by unfold vD6; (repeat rw[rAN zom]); rw[rAV zom]
  refine zAA c6 rfl ?_;refine sts ?_;exact zAB rfl (by rw[e]; rfl)
 .have e:vD6 r v p L U lw up on off pl=(p,on):=by unfold vD6; (repeat rw[rAN zom]); rw[rAV zom]
  exact zAB rfl (by rw[e]; rfl)
 .have e:vD6 r v p L U lw up on off pl=(vCG p v,on):=by unfold vD6; (repeat rw[rAN zom]); rw[rAV zom]
  refine zAA c8 rfl ?_;refine sts ?_;exact zAB rfl (by rw[e]; rfl)
 .have e:vD6 r v p L U lw up on off pl=(vDF p (-1),off):=by unfold vD6; (repeat rw[rAN zom]); rw[rAV zom]
  refine zAA c9 rfl ?_;refine sts ?_;exact zAB rfl (by rw[e]; rfl)
 .have e:vD6 r v p L U lw up on off pl=(vDF v (-1),off):=by unfold vD6; (repeat rw[rAN zom]); rw[rAV zom]
  refine zAA c10 rfl ?_;refine sts ?_;exact zAB rfl (by rw[e]; rfl)
 .have e:vD6 r v p L U lw up on off pl=(vCG p (vBM (qv L)),lw && decide (r.hi=0)):=by unfold vD6; (repeat rw[rAN zom]); rw[rAV zom]
  refine zAA cnl rfl ?_;refine sts ?_;refine zAA c11 rfl ?_
  refine gob ?_ ?_<;>intro h
  .have hb:(lw && decide (r.hi=0))=(r.hi == 0):=by rw[show lw=true by assumption,rDS,rA1]; simp
   exact zAB rfl (by rw[e,hb]; rfl)
  .have hb:(lw && decide (r.hi=0))=false:=by rw[show lw=false by assumption,Bool.false_and]
   exact zAB rfl (by rw[e,hb]; rfl)
 .have e:vD6 r v p L U lw up on off pl=(vCG (vBM (qv U)) p,up && decide (r.lo=0)):=by unfold vD6; (repeat rw[rAN zom]); rw[rAV zom]
  refine zAA cnu rfl ?_;refine sts ?_;refine zAA c12 rfl ?_
  refine gob ?_ ?_<;>intro h
  .have hb:(up && decide (r.lo=0))=(r.lo == 0):=by rw[show up=true by assumption,rDS,rA1]; simp
   exact zAB rfl (by rw[e,hb]; rfl)
  .have hb:(up && decide (r.lo=0))=false:=by rw[show up=false by assumption,Bool.false_and]
   exact zAB rfl (by rw[e,hb]; rfl)
 .have hlw1:lw=true:=by assumption
  have hup1:up=true:=by assumption
  refine zAA sl rfl ?_
  refine gob ?_ ?_<;>intro h
  .have e:vD6 r v p L U lw up on off pl=(zeroQ,false):=by unfold vD6; repeat rw[rAN zom]
   exact zAB rfl (by rw[e,<- zA9])
  .refine zAA su rfl ?_
   refine gob ?_ ?_<;>intro h
   .have e:vD6 r v p L U lw up on off pl=(zeroQ,false):=by unfold vD6; repeat rw[rAN zom]
    exact zAB rfl (by rw[e,<- zA9])
   .have e:vD6 r v p L U lw up on off pl=(uG1 v p (qv L) (qv U),true):=by unfold vD6; (repeat rw[rAN zom]); rw[rAV ⟨zom,hlw1,hup1,zom,zom⟩]
    have z1:szF (P+V+3) (vCG p (vBM (qv L))):=zEZ szp (zD3 szL) zom;have q1:=zLC (vCG p (vBM (qv L))) (qv U) _ _ z1 szU zom (rBV zH9 lp);rw[hUc]at q1;have q2:=uNV U L hUk.1 hLk.1 (by have:=hUk.2; omega) (by have:=hUk.2; omega) (by have:=hLk.2; omega) (by have:=hLk.2; omega);have z2:sz (2 * V+4) (qv U - qv L):=zI6 zom (vT7 szU szL);have q3:=zLC v (qv U - qv L) _ _ szv z2 zom zom;have z3:szF (P+2 * V+8) (vDF (vCG p (vBM (qv L))) (qv U)):=zGK z1 szU zom;have z4:szF (2 * V+8) (vDF v (qv U - qv L)):=zGK szv z2 zom;have q4:=zHB (vDF (vCG p (vBM (qv L))) (qv U)) (vDF v (qv U - qv L)) _ _ z3 z4 zom (rBV zI8 (rBV zH9 lp)) (rBV zI8 zom);refine zAA cnl rfl ?_;refine sts ?_;refine zAA c11 rfl ?_;refine sts ?_;refine zAA q1 rfl ?_;refine sts ?_;refine zAA q2 rfl ?_;refine sts ?_;refine zAA q3 rfl ?_;refine sts ?_;refine zAA q4 rfl ?_;refine sts ?_;exact zAB rfl (by rw[e]; rfl)
 .have e:vD6 r v p L U lw up on off pl=(zeroQ,false):=by unfold vD6; (repeat rw[rAN zom]); rw[rAN (fun q=>by have:=q.2.2.1; simp_all)]
  exact zAB rfl (by rw[e,<- zA9])
 .have e:vD6 r v p L U lw up on off pl=(zeroQ,false):=by unfold vD6; (repeat rw[rAN zom]); rw[rAN (fun q=>by have:=q.2.1; simp_all)]
  exact zAB rfl (by rw[e,<- zA9])
 .have e:vD6 r v p L U lw up on off pl=(zeroQ,false):=by unfold vD6; repeat rw[rAN zom]
  exact zAB rfl (by rw[e,<- zA9])
theorem zLG{S:ScpL}{n j:Int}{up:Bool}(h:vCW S n j up=true):vDE S n j up=some (qv (vD7 S n)):=by
 unfold vCW at h;simp only[rAQ,rAX]at h;unfold vDE vD7;rw[rAV ⟨h.1.1,h.1.2,h.2.1,h.2.2⟩,rAV h.1]
theorem zIV{S:ScpL}{n j:Int}{up:Bool}(h:vCW S n j up=false):vDE S n j up=none:=by
 unfold vDE;rw[rAN]
 rintro⟨h1,h2,h3,h4⟩
 unfold vCW at h;rw[rB4 (show 1<=n/\n<=S.lems.length from⟨h1,h2⟩),rB4 h3,rB4 h4]at h;cases h
theorem uGD{S:ScpL}{n j:Int}{up:Bool}:geO (vDE S n j up)=(vCW S n j up && decide (0<=vDN (qv (vD7 S n)))):=by
 cases h:vCW S n j up with
 | true=>rw[zLG h]; simp only[geO,rDS]; exact rCW.2 sgnQ_nn'.symm
 | false=>rw[zIV h]; rfl
theorem uF9{S:ScpL}{n j:Int}{up:Bool}:leO (vDE S n j up)=(vCW S n j up && decide (vDN (qv (vD7 S n))<=0)):=by
 cases h:vCW S n j up with
 | true =>
   rw[zLG h]; simp only[leO,rDS];refine rCW.2 ?_;rw[<- Int.not_lt,sgnQ_pos,rFY]
 | false=>rw[zIV h]; rfl
theorem uD6{S:ScpL}{r:RowL}(hk:5<=r.kind)(hi:0<=r.index/\r.index<S.q.g.units.length):vDM S r =
 (if (vD6 r (vCR (S.q.g.ins+r.index)) S.q.g.units[r.index.toNat]!.Q (vD7 S r.lo) (vD7 S r.hi) (vCW S r.lo r.index false) (vCW S r.hi r.index true) (onP r (vD7 S r.lo) (vCW S r.lo r.index false) (vE1 S 1 r.index)) (vFL r (vD7 S r.hi) (vCW S r.hi r.index true) (vE1 S 2 r.index)) (vDY r)).2=true
   then some (vD6 r (vCR (S.q.g.ins+r.index)) S.q.g.units[r.index.toNat]!.Q (vD7 S r.lo) (vD7 S r.hi) (vCW S r.lo r.index false) (vCW S r.hi r.index true) (onP r (vD7 S r.lo) (vCW S r.lo r.index false) (vE1 S 1 r.index)) (vFL r (vD7 S r.hi) (vCW S r.hi r.index true) (vE1 S 2 r.index)) (vDY r)).1 else none):=by
 have hon:onB S r=onP r (vD7 S r.lo) (vCW S r.lo r.index false) (vE1 S 1 r.index):=by unfold onB onP; rw[uGD]
 have hoff:vXP S r=vFL r (vD7 S r.hi) (vCW S r.hi r.index true) (vE1 S 2 r.index):=by unfold vXP vFL; rw[uF9]
 have hpl:(r.lo=0/\r.hi=0)↔vDY r=true:=by unfold vDY; simp
 have bl:∀ {g:QF} {b:Bool},vDE S r.lo r.index false=(if vCW S r.lo r.index false=true then some (qv (vD7 S r.lo)) else none):=by
  intro g b;cases h:vCW S r.lo r.index false with
  | true=>rw[rAV rfl,zLG h]
  | false=>rw[rAN zdd,zIV h]
 have bu:vDE S r.hi r.index true=(if vCW S r.hi r.index true=true then some (qv (vD7 S r.hi)) else none):=by
  cases h:vCW S r.hi r.index true with
  | true=>rw[rAV rfl,zLG h]
  | false=>rw[rAN zdd,zIV h]
 unfold vDM unO;rw[rAN zom,rAN zom,hon,hoff,bl (g:=zeroQ) (b:=true),bu];generalize onP r (vD7 S r.lo) (vCW S r.lo r.index false) (vE1 S 1 r.index)=on;generalize vFL r (vD7 S r.hi) (vCW S r.hi r.index true) (vE1 S 2 r.index)=off;generalize vCW S r.lo r.index false=lw;generalize vCW S r.hi r.index true=up;generalize vD7 S r.lo=L;generalize vD7 S r.hi=U;generalize vCR (S.q.g.ins+r.index)=v;generalize S.q.g.units[r.index.toNat]!.Q=p;unfold vD6;by_cases k5:r.kind=5
 .rw[rAV k5,rAV k5]; simp only[hpl]
 rw[rAN k5,rAN k5];by_cases k6:r.kind=6
 .rw[rAV k6,rAV k6]; simp only[hpl]
 rw[rAN k6,rAN k6];by_cases k7:r.kind=7
 .rw[rAV k7,rAV k7]
 rw[rAN k7,rAN k7];by_cases k8:r.kind=8
 .rw[rAV k8,rAV k8]
 rw[rAN k8,rAN k8];by_cases k9:r.kind=9
 .rw[rAV k9,rAV k9]
 rw[rAN k9,rAN k9];by_cases k10:r.kind=10
 .rw[rAV k10,rAV k10]
 rw[rAN k10,rAN k10];by_cases k11:r.kind=11
 .rw[rAV k11,rAV k11]
  cases lw<;>simp
 rw[rAN k11,rAN k11];by_cases k12:r.kind=12
 .rw[rAV k12,rAV k12]
  cases up<;>simp
 rw[rAN k12,rAN k12];by_cases k13:r.kind=13
 .rw [rAV k13]
  cases lw
  .simp
  .cases up
   .simp
   .simp only[rCI,k13,rEG]
    by_cases hc:vDN (qv L)<0/\0<vDN (qv U)
    .rw[rAV (show qv L<0/\0<qv U from⟨sgnQ_neg.1 hc.1,sgnQ_pos.1 hc.2⟩),rAV hc]; rfl
    .rw[rAN (show ¬ (qv L<0/\0<qv U) from fun e=>hc ⟨sgnQ_neg.2 e.1,sgnQ_pos.2 e.2⟩),rAN hc]; rfl
 .have e13:(if r.kind=13/\lw=true/\up=true/\vDN (qv L)<0/\0<vDN (qv U) then(uG1 v p (qv L) (qv U),true) else(zeroQ,false))=(zeroQ,false):=rAN (fun e=>k13 e.1)
  rw[rAN k13,e13]; rfl
theorem vJ5:FO 137 Tryz.f137 [.cell 4 46,.tmp 5] 206:=mkO Tryz.func137 Tryz.ntmps137 Tryz.results137
theorem uKW(S:ScpL)(r:RowL)(P V:Nat)(hS:vCA S)(hz:szS S P V):∃ f b,((b=true/\vDM S r=some f)\/(b=false/\vDM S r=none))/\Fn 137 [vBD S,vBJ r] (.data (.tup [vBP f,.bool b])):=by
 have hnu:=hS.1.1.2.1;by_cases hk:r.kind<5
 .have ci:=uP4 S r P V hS hz
  refine⟨(inO S r).getD zeroQ,(inO S r).isSome,?_,?_⟩
  .unfold vDM
   rw[rAV hk];cases inO S r with
   | none=>exact rAZ ⟨rfl,rfl⟩
   | some f=>exact rAW ⟨rfl,rfl⟩
  .generalize (inO S r).getD zeroQ=f at *
   generalize (inO S r).isSome=b at *
   refine zAM vBC hT vJ5 (by simp[vBD,vBJ]) ?_
   (repeat' (first|refine stp ?_|with_reducible(refine brr ?_ ?_<;>intro h)));all_goals try(conv=>whnf)
   all_goals try (exfalso; omega)
   refine zAA ci rfl ?_;refine sts ?_;exact rGX
 .by_cases hi:0<=r.index/\r.index<S.q.g.units.length
  .have c:=uEZ S r P V hS hz zom hi _ _ _ _ _ _ _ _ _ _ _ rfl rfl rfl rfl rfl rfl rfl rfl rfl rfl rfl
   have e:=uD6 (S:=S) (r:=r) zom hi;refine⟨_,_,?_,c⟩;rw[e];cases h:(vD6 r (vCR (S.q.g.ins+r.index)) S.q.g.units[r.index.toNat]!.Q (vD7 S r.lo) (vD7 S r.hi) (vCW S r.lo r.index false) (vCW S r.hi r.index true) (onP r (vD7 S r.lo) (vCW S r.lo r.index false) (vE1 S 1 r.index)) (vFL r (vD7 S r.hi) (vCW S r.hi r.index true) (vE1 S 2 r.index)) (vDY r)).2 with
   | true=>exact rAW ⟨rfl,rfl⟩
   | false=>exact rAZ ⟨rfl,rfl⟩
  .refine⟨zeroQ,false,rAZ ⟨rfl,?_⟩,?_⟩
   .unfold vDM unO; rw[rAN hk,rAV zom]
   .refine zAM vBC hT vJ5 (by simp[vBD,vBJ]) ?_
    (repeat' (first|refine stp ?_|with_reducible(refine brr ?_ ?_<;>intro h)));all_goals try(conv=>whnf)
    all_goals try (exfalso; omega)
    all_goals exact zAB rfl (by rw[<- zA9])
end Go.PI.Tryz
