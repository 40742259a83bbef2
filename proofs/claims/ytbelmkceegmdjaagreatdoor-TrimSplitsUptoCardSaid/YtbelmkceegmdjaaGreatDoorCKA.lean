/-
  The checker: rows, derivations.
-/
import Derived.Test.YtbelmkceegmdjaaGreatDoorCPD
import Derived.Test.YtbelmkceegmdjaaGreatDoorCLB
import Derived.Test.YtbelmkceegmdjaaGreatDoorCGA
import Derived.Test.YtbelmkceegmdjaaGreatDoorCPE
import Derived.Test.YtbelmkceegmdjaaGreatDoorCIB
set_option linter.unusedVariables false
set_option linter.unusedSimpArgs false
set_option linter.unnecessarySimpa false
set_option maxHeartbeats 0
namespace Go.PI.Tryz
open Go.Proofs Go.PI
theorem vWG(v:Int):vBN (vCB v)=.agg [.imm [vHZ (v,1)],.bool false,.imm [],.imm []]:=by unfold vBN vCB; rw[zNL]; rfl
theorem uF3:FO 164 Tryz.f164 [.cell 2 46] 8:=mkO Tryz.func164 Tryz.ntmps164 Tryz.results164
theorem vO7(v:Int):Fn 164 [.int .i64 v] (.data (vBN (vCB v))):=by
 have c1:=uHW 1 zdd;rw[show((1:Int):Rat)=1 by rfl]at c1;rw[vWG];refine zAL vBD hT uF3 zsm ?_;refine sts ?_;refine zAA c1 rfl ?_;refine sts ?_;exact zAB rfl rfl
theorem uF7:FO 100 Tryz.f100 [.cell 2 46] 6:=mkO Tryz.func100 Tryz.ntmps100 Tryz.results100
theorem zO6(c:RatL)(k:Nat)(hc:okQ k c)(hk:k≤950000000):Fn 100 [vA5 c] (.data (vBN (vBM (qv c)))):=by
 have c1:=zMJ c hc.1 (by have:=hc.2; omega) (by have:=hc.2; omega);refine zAL vBD hT uF7 (by simp[vA5]) ?_;refine sts ?_;refine zAA c1 rfl ?_;refine sts ?_;exact zAB rfl rfl
theorem vVD:FO 101 Tryz.f101 [.cell 2 46] 6:=mkO Tryz.func101 Tryz.ntmps101 Tryz.results101
theorem vHO(f:QF)(k:Nat)(hf:szF k f)(hk:k≤900000000)(hl:f.ts.length≤1048576):Fn 101 [vBN f] (.data (vBN (vC0 f (-1)))):=by
 have c1:=uHW (-1) zdd;rw[show(((-1:Int)):Rat)=-1 by rfl]at c1;have c2:=zKF f (-1) k 1 hf (zE1 (z:=-1) zdd) zom hl;refine zAL vBD hT vVD (by simp[vBN]) ?_;refine sts ?_;refine zAA c1 rfl ?_;refine sts ?_;refine zAA c2 rfl ?_;refine sts ?_;exact zAB rfl rfl
theorem uAK:FO 68 Tryz.f68 [.tmp 4] 61:=mkO Tryz.func68 Tryz.ntmps68 Tryz.results68
theorem uHZ(q:QryL)(d:DecL)(hu:q.g.units.length≤1048576)(hd:okQ 950000000 d.rat):Fn 68 [vBK q,vA9 d] (.data (.bool (dB (vE8 q d)))):=by
 have cv:=zGU d.rat hd.1 (by have:=hd.2; omega) (by have:=hd.2; omega);have l2:=hd.2.1;have l3:=hd.2.2;have bad:¬ vE8 q d→false=dB (vE8 q d):=zGG;refine zAL vBD hT uAK (by simp[vBK,vA9]) ?_
 (repeat' (first|refine stp ?_|with_reducible(refine brr ?_ ?_<;>intro h)));all_goals try(conv=>whnf)
 all_goals try (refine zAB rfl (congrArg PV.bool (bad fun e=>?_)); rcases e with⟨e1,e2,e3,e4,e5,e6⟩ | ⟨e1,e2,e3,e4⟩<;>first | omega | (simp_all; done))
 all_goals first
  | (refine zAA cv rfl ?_
     refine sts ?_;refine zAB rfl (congrArg PV.bool ?_);rw[Bool.eq_iff_iff,dB_true,decide_eq_true_eq]
     exact⟨fun e=>Or.inr ⟨zom,zom,zom,e⟩,fun e=>by rcases e with⟨e1,_⟩ | ⟨_,_,_,e4⟩; (exfalso; omega); exact e4⟩)
  | (refine zAB rfl (congrArg PV.bool ?_)
     rw[Bool.eq_iff_iff,dB_true,beq_iff_eq];simp only[List.length_map]
     exact⟨fun e=>Or.inl ⟨zom,zom,zom,by assumption,zom,zom⟩,fun e=>by rcases e with⟨_,_,_,_,_,e6⟩ | ⟨e1,_⟩; omega; (exfalso; omega)⟩)
theorem uF6:FO 69 Tryz.f69 [.cell 2 28] 16:=mkO Tryz.func69 Tryz.ntmps69 Tryz.results69
theorem uK1(d:DecL)(hk:1≤d.kind∧d.kind≤4):Fn 69 [vA9 d] (.data (vA9 (opp d))):=by
 refine zAL vBD hT uF6 (by simp[vA9]) ?_
 (repeat' (first|refine stp ?_|with_reducible(refine brr ?_ ?_<;>intro h)));all_goals try(conv=>whnf)
 all_goals refine zAB rfl ?_
 all_goals (unfold vA9 opp uIH; simp only[PV.agg.injEq,List.cons.injEq,PV.int.injEq,true_and,and_true])
 all_goals (repeat' split)<;>omega
theorem uF8:FO 166 Tryz.f166 [.tmp 6] 27:=mkO Tryz.func166 Tryz.ntmps166 Tryz.results166
theorem uDW(S:ScpL)(k j:Int)(hp:S.path.length≤1048576):Fn 166 [vBB S,.int .i64 k,.int .i64 j] (.data (.bool (vE1 S k j))):=by
 refine zAL vBD hT uF8 (by simp[vBB]) ?_;refine sts ?_
 refine zAP hT (fun(i:Nat)=>[(1,.int .i64 k),(2,.int .i64 j),(10,.imm (S.path.map vA9)),(11,.int .i64 S.path.length),(12,.int .i64 i)]) (fun _=>[]) [] 1
  (fun i=>i≤S.path.length∧∀ m,m<i→¬ (S.path[m]!.kind=k∧S.path[m]!.index=j)) (fun i=>S.path.length - i) 0 ⟨Nat.zero_le _,fun m h=>by omega⟩ zdd zsm ?_ ?_
 ·exact⟨[0],[],[],[],ttt,⟨zAC rfl rfl,zAC rfl rfl,zAE rfl rfl,zAC rfl zsm,zAC rfl rfl,trivial⟩,trivial,by simp[ren]⟩
 intro i ⟨i1,i2⟩;by_cases hi:i<S.path.length
 ·have hm:S.path[i]! ∈ S.path:=get_mem hi
  (repeat' (first|refine stp ?_|with_reducible(refine brr ?_ ?_<;>intro h)));all_goals try(conv=>whnf)
  all_goals try (exfalso; omega)
  all_goals first
   | (refine zAB rfl (congrArg PV.bool ?_)
      refine(List.any_eq_true.2 ⟨_,hm,?_⟩).symm;simp only[Bool.and_eq_true,decide_eq_true_eq]
      exact⟨by assumption,by assumption⟩)
   | exact⟨i+1,⟨⟨zom,fun m hm=>zA2 (p:=fun m=>¬ (S.path[m]!.kind=k∧S.path[m]!.index=j)) i2 zom hm⟩,by show S.path.length - (i+1)<S.path.length - i; omega⟩,[0],[],[],[],ttt,⟨zAC rfl rfl,zAC rfl rfl,zAE rfl rfl,zAC rfl rfl,zAC rfl rfl,trivial⟩,trivial,by simp[ren]⟩
   | skip
 ·(repeat' (first|refine stp ?_|with_reducible(refine brr ?_ ?_<;>intro h)));all_goals try(conv=>whnf)
  all_goals try (exfalso; omega)
  refine zAB rfl (congrArg PV.bool ?_);refine(List.any_eq_false.2 fun d hd=>?_).symm;obtain⟨m,hm,rfl⟩:=List.getElem_of_mem hd;have:=i2 m zom;rw[getElem!_pos S.path m hm]at this;simp only[Bool.and_eq_true,decide_eq_true_eq];exact this
def vDU(S:ScpL)(n:Int):RatL:=if 1≤n∧n≤S.lems.length then S.lems[n.toNat - 1]!.value else⟨false,[],[]⟩
def vCE(S:ScpL)(n j:Int)(up:Bool):Bool:=decide (1≤n∧n≤S.lems.length) && (decide (S.lems[n.toNat - 1]!.unit=j) && decide (S.lems[n.toNat - 1]!.upper=up))
theorem uF9:FO 165 Tryz.f165 [.cell 8 26,.tmp 9] 39:=mkO Tryz.func165 Tryz.ntmps165 Tryz.results165
theorem uDX(S:ScpL)(n j:Int)(up:Bool)(hl:S.lems.length≤1048576):Fn 165 [vBB S,.int .i64 n,.int .i64 j,.bool up] (.data (.tup [vA5 (vDU S n),.bool (vCE S n j up)])):=by
 refine zAL vBD hT uF9 (by simp[vBB]) ?_
 (repeat' (first|refine stp ?_|with_reducible(refine brr ?_ ?_<;>intro h)));all_goals try(conv=>whnf)
 ·have e1:vDU S n=⟨false,[],[]⟩:=if_neg (fun e=>by omega)
  have e2:vCE S n j up=false:=by unfold vCE; rw[decide_eq_false (fun e=>by omega)]; rfl
  rw[e1,e2]; exact zAB rfl rfl
 ·have e1:vDU S n=⟨false,[],[]⟩:=if_neg (fun e=>by omega)
  have e2:vCE S n j up=false:=by unfold vCE; rw[decide_eq_false (fun e=>by omega)]; rfl
  rw[e1,e2]; exact zAB rfl rfl
 ·have hlt:n.toNat - 1<S.lems.length:=by omega
  refine zA1 (j:=n.toNat - 1) (show n - 1=_ by omega) hlt ?_;have e1:vDU S n=S.lems[n.toNat - 1]!.value:=if_pos ⟨zom,zom⟩;have e2:vCE S n j up=(decide (S.lems[n.toNat - 1]!.unit=j) && decide (S.lems[n.toNat - 1]!.upper=up)):=by unfold vCE; rw[decide_eq_true (show 1≤n∧n≤S.lems.length from⟨zom,zom⟩)]; rfl
  rw[e1,e2];generalize S.lems[n.toNat - 1]! = m at *
  (refine gob ?_ ?_<;>intro h)
  ·refine zAB rfl ?_
   simp_all
   exact⟨rfl,by cases m.upper<;>cases up<;>rfl⟩
  ·refine zAB rfl ?_
   simp_all
   rfl
theorem uAI:FO 136 Tryz.f136 [.tmp 4] 44:=mkO Tryz.func136 Tryz.ntmps136 Tryz.results136
theorem uHX(a b:RowL):Fn 136 [vBG a,vBG b] (.data (.bool (dB (vET a b)))):=by
 refine zAL vBD hT uAI (by simp[vBG]) ?_;refine sts ?_;have no:¬ vET a b→false=dB (vET a b):=zGG
 refine zAP hT (fun(i:Nat)=>[(5,.ptr 0 0 0),(6,.ptr 1 0 0),(26,.int .i64 i)]) (fun _=>[(0,⟨[vBG a],4,true⟩),(1,⟨[vBG b],4,true⟩)]) [] 2
  (fun i=>i≤4∧(0<i→a.kind=b.kind)∧(1<i→a.index=b.index)∧(2<i→a.lo=b.lo)∧(3<i→a.hi=b.hi)) (fun i=>4 - i) 0 ⟨zom,zom,zom,zom,zom⟩ zdd zsm ?_ ?_
 ·exact⟨[_,_],[],[],[],ttt,⟨(apy rfl),(apy rfl),zAC rfl rfl,trivial⟩,⟨bbx,bbx,trivial⟩,by simp[ren]⟩
 rintro i ⟨i1,i2,i3,i4,i5⟩
 obtain rfl | rfl | rfl | rfl | rfl:i=0∨i=1∨i=2∨i=3∨i=4:=by omega
 all_goals (repeat' (first|refine stp ?_|with_reducible(refine brr ?_ ?_<;>intro h)));all_goals try(conv=>whnf)
 all_goals first
  | (refine zAB rfl (congrArg PV.bool ?_)
     rw[Bool.eq_iff_iff,dB_true,decide_eq_true_eq];unfold vET
     omega)
  | (refine zAB rfl (congrArg PV.bool (no fun e=>?_))
     unfold vET at e
     omega)
  | exact⟨1,⟨⟨zom,zom,zom,zom,zom⟩,zom⟩,[0,1],[],[],[],ttt,⟨apx,apx,zAC rfl rfl,trivial⟩,⟨bbx,bbx,trivial⟩,by simp[ren]⟩
  | exact⟨2,⟨⟨zom,zom,zom,zom,zom⟩,zom⟩,[0,1],[],[],[],ttt,⟨apx,apx,zAC rfl rfl,trivial⟩,⟨bbx,bbx,trivial⟩,by simp[ren]⟩
  | exact⟨3,⟨⟨zom,zom,zom,zom,zom⟩,zom⟩,[0,1],[],[],[],ttt,⟨apx,apx,zAC rfl rfl,trivial⟩,⟨bbx,bbx,trivial⟩,by simp[ren]⟩
  | exact⟨4,⟨⟨zom,zom,zom,zom,zom⟩,zom⟩,[0,1],[],[],[],ttt,⟨apx,apx,zAC rfl rfl,trivial⟩,⟨bbx,bbx,trivial⟩,by simp[ren]⟩
  | skip
theorem sgnQ_nn'{q:Rat}:0≤vC9 q↔0≤q:=by
 rw[← Int.not_lt,sgnQ_neg,Rat.not_lt]
def vEG(r:RatL):Nat:=r.num.length+r.den.length
theorem zKZ{k:Nat}{r:RatL}(h:okQ k r):okQ (vEG r) r:=⟨h.1,by unfold vEG; omega,by unfold vEG; omega⟩
structure szS(S:ScpL)(P V:Nat):Prop where
 P1:1≤P
 units:∀ f∈S.q.g.units,okA P f
 lo:vVJ P S.q.r.lo
 hi:vVJ P S.q.r.hi
 rows:uGE P S.q.r.rows
 path:S.path.length≤1048576∧∀ d∈S.path,okQ P d.rat
 lems:S.lems.length≤1048576∧∀ m∈S.lems,okQ V m.value
 can:∀ m∈S.lems,vEO m.value
 two:∀ i j,i<S.lems.length→j<S.lems.length→S.lems[i]!.upper=false→S.lems[j]!.upper=true→vEG S.lems[i]!.value+vEG S.lems[j]!.value≤V
 B:P+2 * V+20≤100000000
 nv:vCZ S≤1280
theorem zDS{k:Nat}{q:Rat}(h:sz k q):szF k (vBM q):=⟨h,fun p hp=>by cases hp⟩
theorem zER{f g:QF}{kf kg K:Nat}(hf:szF kf f)(hg:szF kg g)(hK:kf+kg+2≤K):szF K (vB8 f g):=zJU hf hg (zE1 (z:=-1) zdd) zom
theorem zF3{f:QF}{c:Rat}{kf kc K:Nat}(hf:szF kf f)(hc:sz kc c)(hK:kf+kc+2≤K):szF K (vC0 f c):=zJU (zEA 1 zdd) hf hc zom
theorem zIP{f:QF}{c:Rat}:(vC0 f c).ts.length≤f.ts.length:=by
 have:=zOT (f:=zeroQ) (g:=f) (c:=c)
 simpa [zeroQ,vC0]using this
theorem zHS{f:QF}{c:Rat}:(vB8 f (vBM c)).ts.length≤f.ts.length:=by
 have:=zOT (f:=f) (g:=vBM c) (c:=-1)
 simpa [vBM,vB8]using this
theorem zF6{k:Nat}{r:RatL}(h:okQ k r)(hk:1≤k):sz k (qv r):=vH8 h.1 h.2.1 h.2.2 hk
section
variable {S:ScpL} {r:RowL}
theorem uDI(h:r.index<0∨r.lo≠0∨r.hi≠0):inO S r=none:=by unfold inO; rw[if_pos h]
theorem uNO(h:¬ (r.index<0∨r.lo≠0∨r.hi≠0))(h1:r.kind=1∧r.index<S.q.r.lo.length):inO S r=some (vB8 (vCB r.index) (vBM (qv S.q.r.lo[r.index.toNat]!))):=by unfold inO; rw[if_neg h,if_pos h1]
theorem uNN(h:¬ (r.index<0∨r.lo≠0∨r.hi≠0))(h1:r.kind=2∧r.index<S.q.r.hi.length):inO S r=some (vB8 (vBM (qv S.q.r.hi[r.index.toNat]!)) (vCB r.index)):=by unfold inO; rw[if_neg h,if_neg (fun e=>by omega),if_pos h1]
theorem uNM(h:¬ (r.index<0∨r.lo≠0∨r.hi≠0))(h1:r.kind=3∧r.index<S.q.r.rows.length):inO S r=some S.q.r.rows[r.index.toNat]!.Q:=by unfold inO; rw[if_neg h,if_neg (fun e=>by omega),if_neg (fun e=>by omega),if_pos h1]
theorem uNL(h:¬ (r.index<0∨r.lo≠0∨r.hi≠0))(h1:r.kind=4∧r.index<S.path.length)(h2:S.path[r.index.toNat]!.kind=3):inO S r=some (vB8 (vCB S.path[r.index.toNat]!.index) (vBM (qv S.path[r.index.toNat]!.rat))):=by unfold inO; rw[if_neg h,if_neg (fun e=>by omega),if_neg (fun e=>by omega),if_neg (fun e=>by omega),if_pos h1,if_pos h2]
theorem uKA(h:¬ (r.index<0∨r.lo≠0∨r.hi≠0))(h1:r.kind=4∧r.index<S.path.length)(h2:S.path[r.index.toNat]!.kind=4):inO S r=some (vB8 (vBM (qv S.path[r.index.toNat]!.rat)) (vCB S.path[r.index.toNat]!.index)):=by unfold inO; rw[if_neg h,if_neg (fun e=>by omega),if_neg (fun e=>by omega),if_neg (fun e=>by omega),if_pos h1,if_neg zom,if_pos h2]
theorem vG9(h1:¬ (r.kind=1∧r.index<S.q.r.lo.length))(h2:¬ (r.kind=2∧r.index<S.q.r.hi.length))(h3:¬ (r.kind=3∧r.index<S.q.r.rows.length))(h4:¬ (r.kind=4∧r.index<S.path.length∧(S.path[r.index.toNat]!.kind=3∨S.path[r.index.toNat]!.kind=4))):inO S r=none:=by
 unfold inO;rw[if_neg h1,if_neg h2,if_neg h3]
 split
 ·rfl
 ·split
  ·rw[if_neg (fun e=>h4 ⟨zom,zom,Or.inl e⟩),if_neg (fun e=>h4 ⟨zom,zom,Or.inr e⟩)]
  ·rfl
end
theorem uJT:FO 163 Tryz.f163 [.cell 4 46,.tmp 5] 120:=mkO Tryz.func163 Tryz.ntmps163 Tryz.results163
theorem uM2(S:ScpL)(r:RowL)(P V:Nat)(hS:vB0 S)(hz:szS S P V):Fn 163 [vBB S,vBG r] (.data (.tup [vBN ((inO S r).getD zeroQ),.bool (inO S r).isSome])):=by
 have l1:=hz.lo.1;have l2:=hz.hi.1;have l3:=hz.rows.1;have l4:=hz.path.1;have hB:=hz.B;have hP:=hz.P1;have none:inO S r=none→PV.tup [.agg [.imm [],.bool false,.imm [],.imm []],.bool false]=.tup [vBN ((inO S r).getD zeroQ),.bool (inO S r).isSome]:=fun e=>by rw[e,← zA4]; rfl
 have some:∀ f,inO S r=some f→PV.tup [vBN f,.bool true]=.tup [vBN ((inO S r).getD zeroQ),.bool (inO S r).isSome]:=fun f e=>by rw[e]; rfl
 refine zAL vBD hT uJT (by simp[vBB,vBG]) ?_
 (repeat' (first|refine stp ?_|with_reducible(refine brr ?_ ?_<;>intro h)));all_goals try(conv=>whnf)
 all_goals first
  | exact zAB rfl (none (uDI zom))
  | exact zAB rfl (none (vG9 zom zom zom zom))
  | skip
 all_goals try (exfalso; omega)
 ·have hj:r.index.toNat<S.q.r.lo.length:=by omega
  have hq:=zDY hz.lo hj;have cv:=vO7 r.index;have cn:=zO6 _ P hq zom;have cs:=zGY (vCB r.index) (vBM (qv S.q.r.lo[r.index.toNat]!)) 1 P (zDM _) (zDS (zF6 hq hP)) zom (by simp[vCB]) (by simp[vBM]);refine zAA cv rfl ?_;refine sts ?_;refine zA1 (j:=r.index.toNat) (show r.index=_ by omega) hj ?_;refine sts ?_;refine zAA cn rfl ?_;refine sts ?_;refine zAA cs rfl ?_;refine sts ?_;exact zAB rfl (some _ (uNO zom ⟨zom,zom⟩))
 ·have hj:r.index.toNat<S.q.r.hi.length:=by omega
  have hq:=zDY hz.hi hj;have cv:=vO7 r.index;have cn:=zO6 _ P hq zom;have cs:=zGY (vBM (qv S.q.r.hi[r.index.toNat]!)) (vCB r.index) P 1 (zDS (zF6 hq hP)) (zDM _) zom (by simp[vBM]) (by simp[vCB]);refine zA1 (j:=r.index.toNat) (show r.index=_ by omega) hj ?_;refine sts ?_;refine zAA cn rfl ?_;refine sts ?_;refine zAA cv rfl ?_;refine sts ?_;refine zAA cs rfl ?_;refine sts ?_;exact zAB rfl (some _ (uNN zom ⟨zom,zom⟩))
 ·have hj:r.index.toNat<S.q.r.rows.length:=by omega
  have e:=some _ (uNM (S:=S) (r:=r) zom ⟨zom,zom⟩);rw[← vMB (hS.1.2.1.2.2.2.2.2 _ hj)]at e;refine zA1 (j:=r.index.toNat) (show r.index=_ by omega) hj ?_;refine sts ?_;exact zAB rfl e
 ·have hj:r.index.toNat<S.path.length:=by omega
  have hm:S.path[r.index.toNat]! ∈ S.path:=get_mem hj;have hq:=hz.path.2 _ hm;have cv:=vO7 S.path[r.index.toNat]!.index;have cn:=zO6 _ P hq zom;have cs:=zGY (vCB S.path[r.index.toNat]!.index) (vBM (qv S.path[r.index.toNat]!.rat)) 1 P (zDM _) (zDS (zF6 hq hP)) zom (by simp[vCB]) (by simp[vBM]);have cs2:=zGY (vBM (qv S.path[r.index.toNat]!.rat)) (vCB S.path[r.index.toNat]!.index) P 1 (zDS (zF6 hq hP)) (zDM _) zom (by simp[vBM]) (by simp[vCB]);refine zA1 (j:=r.index.toNat) (show r.index=_ by omega) hj ?_
  (repeat' (first|refine stp ?_|with_reducible(refine brr ?_ ?_<;>intro h)));all_goals try(conv=>whnf)
  ·refine zAA cv rfl ?_
   refine sts ?_;refine zAA cn rfl ?_;refine sts ?_;refine zAA cs rfl ?_;refine sts ?_;exact zAB rfl (some _ (uNL zom ⟨zom,zom⟩ (by assumption)))
  ·refine zAA cn rfl ?_
   refine sts ?_;refine zAA cv rfl ?_;refine sts ?_;refine zAA cs2 rfl ?_;refine sts ?_;exact zAB rfl (some _ (uKA zom ⟨zom,zom⟩ (by assumption)))
  ·exact zAB rfl (none (vG9 zom zom zom (fun e=>by rcases e.2.2 with q | q<;>contradiction)))
open Go.Proofs Go.PI
theorem uFL:FO 167 Tryz.f167 [.cell 4 26] 12:=mkO Tryz.func167 Tryz.ntmps167 Tryz.results167
theorem uKS(x y:RatL)(hx:okR x)(hy:okR y)(hl1:x.num.length<1000000000)(hl2:x.den.length<1000000000)(hl3:y.num.length<1000000000)(hl4:y.den.length<1000000000):Fn 167 [vA5 x,vA5 y] (.data (vA5 (cr (qv x - qv y)))):=by
 have e:qv (⟨!y.neg,y.num,y.den⟩:RatL)=- qv y:=by
  unfold qv; dsimp only; rw[zOH];rw[show -(sg y.neg (nv y.num))=(-1) * sg y.neg (nv y.num) by omega];have:∀ (z:Int) (d:Nat),mkRat (-1 * z) d=- mkRat z d:=fun z d=>by rw[Int.neg_mul,Int.one_mul,Rat.neg_mkRat]
  exact this _ _
 have ca:=vO2 x ⟨!y.neg,y.num,y.den⟩ hx hy hl1 hl2 hl3 hl4;rw[e,show qv x+-qv y=qv x - qv y by grind]at ca;refine zAL vBD hT uFL (by simp[vA5]) ?_;refine sts ?_;refine zAA ca rfl ?_;refine sts ?_;exact zAB rfl rfl
def vDI(r:RowL):Bool:=(decide (r.lo=0) && decide (r.hi=0))
def onP(r:RowL)(L:RatL)(lw D1:Bool):Bool:=(decide (r.hi=0) && ((decide (r.lo=0) && D1) || (lw && decide (0≤vC9 (qv L)))))
def vE6(r:RowL)(U:RatL)(up D2:Bool):Bool:=(decide (r.lo=0) && ((decide (r.hi=0) && D2) || (up && decide (vC9 (qv U)≤0))))
def vDS(r:RowL)(v p:QF)(L U:RatL)(lw up on off pl:Bool):QF×Bool :=
 if r.kind=5 then(v,pl)
 else if r.kind=6 then(vB8 v p,pl)
 else if r.kind=7 then(p,on)
 else if r.kind=8 then(vB8 p v,on)
 else if r.kind=9 then(vC0 p (-1),off)
 else if r.kind=10 then(vC0 v (-1),off)
 else if r.kind=11 then(vB8 p (vBM (qv L)),lw && decide (r.hi=0))
 else if r.kind=12 then(vB8 (vBM (qv U)) p,up && decide (r.lo=0))
 else if r.kind=13∧lw=true∧up=true∧vC9 (qv L)<0∧0<vC9 (qv U) then(uD7 v p (qv L) (qv U),true)
 else(zeroQ,false)
theorem vMP{S:ScpL}{P V:Nat}(hz:szS S P V)(n:Int):okQ (V+1) (vDU S n):=by
 unfold vDU
 split
 ·exact zCX zom (hz.lems.2 _ (get_mem zom))
 ·exact⟨⟨by simp[okN],by simp[okN]⟩,Nat.zero_le _,Nat.zero_le _⟩
theorem vO8{S:ScpL}{P V:Nat}(hz:szS S P V)(n:Int):vEO (vDU S n):=by
 unfold vDU
 split
 ·exact hz.can _ (get_mem zom)
 ·rfl
theorem uAJ:FO 137 Tryz.f137 [.cell 4 46,.tmp 5] 206:=mkO Tryz.func137 Tryz.ntmps137 Tryz.results137
theorem uB9(S:ScpL)(r:RowL)(P V:Nat)(hS:vB0 S)(hz:szS S P V)(hk:5≤r.kind)(hi:0≤r.index∧r.index<S.q.g.units.length)(v p:QF)(L U:RatL)(lw up D1 D2 on off pl:Bool)(hL:vDU S r.lo=L)(hU:vDU S r.hi=U)(hlw:vCE S r.lo r.index false=lw)(hup:vCE S r.hi r.index true=up)(hvv:vCB (S.q.g.ins+r.index)=v)(hp:S.q.g.units[r.index.toNat]!.Q=p)(hD1:vE1 S 1 r.index=D1)(hD2:vE1 S 2 r.index=D2)(hon:onP r L lw D1=on)(hoff:vE6 r U up D2=off)(hpl:vDI r=pl):Fn 137 [vBB S,vBG r] (.data (.tup [vBN (vDS r v p L U lw up on off pl).1,.bool (vDS r v p L U lw up on off pl).2])):=by
 have hj:r.index.toNat<S.q.g.units.length:=by omega
 have hnu:=hS.1.1.2.1;have hni:=hS.1.1.1;have hvu:=hS.1.1.2.2.2.1 _ hj;have hpu:=vMB hvu;have hB:=hz.B;have hP:=hz.P1;have cv:=vO7 (S.q.g.ins+r.index);have cl:=uDX S r.lo r.index false hz.lems.1;have cu:=uDX S r.hi r.index true hz.lems.1;have cd1:=uDW S 1 r.index hz.path.1;have cd2:=uDW S 2 r.index hz.path.1;have hLk:=vMP hz r.lo;have hUk:=vMP hz r.hi;rw[hL]at cl hLk;rw[hU]at cu hUk;rw[hlw]at cl;rw[hup]at cu;have sl:=zFW L hLk.1 (by have:=hLk.2; omega);have su:=zFW U hUk.1 (by have:=hUk.2; omega);have cnl:=zO6 L (V+1) hLk zom;have cnu:=zO6 U (V+1) hUk zom;have hUc:cr (qv U)=U:=by have:=vO8 hz r.hi; rw[hU]at this; exact this.symm
 have szL:=zF6 hLk zom;have szU:=zF6 hUk zom;have hpa:=hz.units _ (get_mem hj);have szp:szF P p:=by rw[← hp]; exact zG4 hpa hP
 have szv:szF 1 v:=by rw[← hvv]; exact zDM _
 have lv:v.ts.length≤1:=by rw[← hvv]; simp[vCB]
 have lp:p.ts.length≤1048576:=by rw[← hp,uLF]; exact hpa.2.2
 rw[hvv]at cv;rw[hp]at hpu;rw[hD1]at cd1;rw[hD2]at cd2;have c6:=zGY v p 1 P szv szp zom zom lp;have c8:=zGY p v P 1 szp szv zom lp zom;have c9:=vHO p P szp zom lp;have c10:=vHO v 1 szv zom zom;have c11:=zGY p (vBM (qv L)) P (V+1) szp (zDS szL) zom lp (by simp[vBM]);have c12:=zGY (vBM (qv U)) p (V+1) P (zDS szU) szp zom (by simp[vBM]) lp;refine zAL vBD hT uAJ (by simp[vBB,vBG]) ?_
 (repeat' (first|refine stp ?_|with_reducible(refine brr ?_ ?_<;>intro h)));all_goals try(conv=>whnf)
 all_goals try (exfalso; omega)
 refine zAA cv rfl ?_
 (repeat' (first|refine stp ?_|with_reducible(refine brr ?_ ?_<;>intro h)));all_goals try(conv=>whnf)
 refine zA1 (j:=r.index.toNat) (show r.index=_ by omega) hj ?_
 (repeat' (first|refine stp ?_|with_reducible(refine brr ?_ ?_<;>intro h)));all_goals try(conv=>whnf)
 refine zAA cl rfl ?_
 (repeat' (first|refine stp ?_|with_reducible(refine brr ?_ ?_<;>intro h)));all_goals try(conv=>whnf)
 refine zAA cu rfl ?_
 (repeat' (first|refine stu ?_|with_reducible(refine brr ?_ ?_<;>intro h)));all_goals try(conv=>whnf)
 refine vBT [] [(2,.ptr 0 0 0),(3,.ptr 1 0 0),(4,.ptr 2 0 0),(6,.int .i64 r.index),(7,.ptr 3 0 0),(8,.ptr 4 0 0),(9,.ptr 5 0 0),(10,.bool lw),(11,.ptr 6 0 0),(12,.bool up)] [(0,⟨[vBB S],12,true⟩),(1,⟨[vBG r],4,true⟩),(2,⟨[.agg [.nilsl,.bool false,.nilsl,.nilsl]],4,true⟩),(3,⟨[vBN v],4,true⟩),(4,⟨[vBN p],4,true⟩),(5,⟨[vA5 L],3,true⟩),(6,⟨[vA5 U],3,true⟩)] [] 7 zdd zsm trivial ⟨[0,1,2,_,_,_,_],[],[],[],ttt,⟨(apy rfl),(apy rfl),(apy rfl),zAC rfl rfl,(apy rfl),(apy rfl),(apy rfl),zAI rfl rfl,(apy rfl),zAI rfl rfl,trivial⟩,⟨bbx,bbx,bbx,bbx,zEQ zdd rfl hpu rfl rfl rfl,bbx,bbx,trivial⟩,by simp[ren]⟩ ?_;refine vTU ⟨sv [(2,.ptr 0 0 0),(3,.ptr 1 0 0),(4,.ptr 2 0 0),(6,.int .i64 r.index),(7,.ptr 3 0 0),(8,.ptr 4 0 0),(9,.ptr 5 0 0),(10,.bool lw),(11,.ptr 6 0 0),(12,.bool up),(13,.bool on)],hv [(0,⟨[vBB S],12,true⟩),(1,⟨[vBG r],4,true⟩),(2,⟨[.agg [.nilsl,.bool false,.nilsl,.nilsl]],4,true⟩),(3,⟨[vBN v],4,true⟩),(4,⟨[vBN p],4,true⟩),(5,⟨[vA5 L],3,true⟩),(6,⟨[vA5 U],3,true⟩)],zv [],7⟩ ?_ fun H9=>?_
 rotate_left
 ·(repeat' (first|refine stu ?_|with_reducible(refine brr ?_ ?_<;>intro h)));all_goals try(conv=>whnf)
  ·refine zAA cd1 rfl ?_
   (repeat' (first|refine stu ?_|with_reducible(refine brr ?_ ?_<;>intro h)));all_goals try(conv=>whnf)
   ·refine vBT [] [(2,.ptr 0 0 0),(3,.ptr 1 0 0),(4,.ptr 2 0 0),(6,.int .i64 r.index),(7,.ptr 3 0 0),(8,.ptr 4 0 0),(9,.ptr 5 0 0),(10,.bool lw),(11,.ptr 6 0 0),(12,.bool up),(13,.bool on)] [(0,⟨[vBB S],12,true⟩),(1,⟨[vBG r],4,true⟩),(2,⟨[.agg [.nilsl,.bool false,.nilsl,.nilsl]],4,true⟩),(3,⟨[vBN v],4,true⟩),(4,⟨[vBN p],4,true⟩),(5,⟨[vA5 L],3,true⟩),(6,⟨[vA5 U],3,true⟩)] [] 7 zdd zsm trivial ⟨[0,1,2,3,4,5,6],[],[],[],ttt,⟨apx,apx,apx,zAC rfl rfl,apx,apx,apx,zAI rfl rfl,apx,zAI rfl rfl,zAI rfl (by rw[← hon]; unfold onP; rw[Bool.eq_iff_iff]; clear sl su cd1 cd2 hL hU hlw hup hvv hp hD1 hD2 cv cl cu cnl cnu c6 c8 c9 c10 c11 c12 hpu; simp_all),trivial⟩,⟨bbx,bbx,bbx,bbx,bbx,bbx,bbx,trivial⟩,by simp[ren]⟩ ?_; exact H9
   ·refine zAA sl rfl ?_
    (repeat' (first|refine stu ?_|with_reducible(refine brr ?_ ?_<;>intro h)));all_goals try(conv=>whnf)
    refine vBT [] [(2,.ptr 0 0 0),(3,.ptr 1 0 0),(4,.ptr 2 0 0),(6,.int .i64 r.index),(7,.ptr 3 0 0),(8,.ptr 4 0 0),(9,.ptr 5 0 0),(10,.bool lw),(11,.ptr 6 0 0),(12,.bool up),(13,.bool on)] [(0,⟨[vBB S],12,true⟩),(1,⟨[vBG r],4,true⟩),(2,⟨[.agg [.nilsl,.bool false,.nilsl,.nilsl]],4,true⟩),(3,⟨[vBN v],4,true⟩),(4,⟨[vBN p],4,true⟩),(5,⟨[vA5 L],3,true⟩),(6,⟨[vA5 U],3,true⟩)] [] 7 zdd zsm trivial ⟨[0,1,2,3,4,5,6],[],[],[],ttt,⟨apx,apx,apx,zAC rfl rfl,apx,apx,apx,zAI rfl rfl,apx,zAI rfl rfl,zAI rfl (by rw[← hon]; unfold onP; rw[Bool.eq_iff_iff]; clear sl su cd1 cd2 hL hU hlw hup hvv hp hD1 hD2 cv cl cu cnl cnu c6 c8 c9 c10 c11 c12 hpu; simp_all),trivial⟩,⟨bbx,bbx,bbx,bbx,bbx,bbx,bbx,trivial⟩,by simp[ren]⟩ ?_; exact H9
   ·refine vBT [] [(2,.ptr 0 0 0),(3,.ptr 1 0 0),(4,.ptr 2 0 0),(6,.int .i64 r.index),(7,.ptr 3 0 0),(8,.ptr 4 0 0),(9,.ptr 5 0 0),(10,.bool lw),(11,.ptr 6 0 0),(12,.bool up),(13,.bool on)] [(0,⟨[vBB S],12,true⟩),(1,⟨[vBG r],4,true⟩),(2,⟨[.agg [.nilsl,.bool false,.nilsl,.nilsl]],4,true⟩),(3,⟨[vBN v],4,true⟩),(4,⟨[vBN p],4,true⟩),(5,⟨[vA5 L],3,true⟩),(6,⟨[vA5 U],3,true⟩)] [] 7 zdd zsm trivial ⟨[0,1,2,3,4,5,6],[],[],[],ttt,⟨apx,apx,apx,zAC rfl rfl,apx,apx,apx,zAI rfl rfl,apx,zAI rfl rfl,zAI rfl (by rw[← hon]; unfold onP; rw[Bool.eq_iff_iff]; clear sl su cd1 cd2 hL hU hlw hup hvv hp hD1 hD2 cv cl cu cnl cnu c6 c8 c9 c10 c11 c12 hpu; simp_all),trivial⟩,⟨bbx,bbx,bbx,bbx,bbx,bbx,bbx,trivial⟩,by simp[ren]⟩ ?_; exact H9
  ·refine zAA sl rfl ?_
   (repeat' (first|refine stu ?_|with_reducible(refine brr ?_ ?_<;>intro h)));all_goals try(conv=>whnf)
   refine vBT [] [(2,.ptr 0 0 0),(3,.ptr 1 0 0),(4,.ptr 2 0 0),(6,.int .i64 r.index),(7,.ptr 3 0 0),(8,.ptr 4 0 0),(9,.ptr 5 0 0),(10,.bool lw),(11,.ptr 6 0 0),(12,.bool up),(13,.bool on)] [(0,⟨[vBB S],12,true⟩),(1,⟨[vBG r],4,true⟩),(2,⟨[.agg [.nilsl,.bool false,.nilsl,.nilsl]],4,true⟩),(3,⟨[vBN v],4,true⟩),(4,⟨[vBN p],4,true⟩),(5,⟨[vA5 L],3,true⟩),(6,⟨[vA5 U],3,true⟩)] [] 7 zdd zsm trivial ⟨[0,1,2,3,4,5,6],[],[],[],ttt,⟨apx,apx,apx,zAC rfl rfl,apx,apx,apx,zAI rfl rfl,apx,zAI rfl rfl,zAI rfl (by rw[← hon]; unfold onP; rw[Bool.eq_iff_iff]; clear sl su cd1 cd2 hL hU hlw hup hvv hp hD1 hD2 cv cl cu cnl cnu c6 c8 c9 c10 c11 c12 hpu; simp_all),trivial⟩,⟨bbx,bbx,bbx,bbx,bbx,bbx,bbx,trivial⟩,by simp[ren]⟩ ?_; exact H9
  ·refine vBT [] [(2,.ptr 0 0 0),(3,.ptr 1 0 0),(4,.ptr 2 0 0),(6,.int .i64 r.index),(7,.ptr 3 0 0),(8,.ptr 4 0 0),(9,.ptr 5 0 0),(10,.bool lw),(11,.ptr 6 0 0),(12,.bool up),(13,.bool on)] [(0,⟨[vBB S],12,true⟩),(1,⟨[vBG r],4,true⟩),(2,⟨[.agg [.nilsl,.bool false,.nilsl,.nilsl]],4,true⟩),(3,⟨[vBN v],4,true⟩),(4,⟨[vBN p],4,true⟩),(5,⟨[vA5 L],3,true⟩),(6,⟨[vA5 U],3,true⟩)] [] 7 zdd zsm trivial ⟨[0,1,2,3,4,5,6],[],[],[],ttt,⟨apx,apx,apx,zAC rfl rfl,apx,apx,apx,zAI rfl rfl,apx,zAI rfl rfl,zAI rfl (by rw[← hon]; unfold onP; rw[Bool.eq_iff_iff]; clear sl su cd1 cd2 hL hU hlw hup hvv hp hD1 hD2 cv cl cu cnl cnu c6 c8 c9 c10 c11 c12 hpu; simp_all),trivial⟩,⟨bbx,bbx,bbx,bbx,bbx,bbx,bbx,trivial⟩,by simp[ren]⟩ ?_; exact H9
  ·refine vBT [] [(2,.ptr 0 0 0),(3,.ptr 1 0 0),(4,.ptr 2 0 0),(6,.int .i64 r.index),(7,.ptr 3 0 0),(8,.ptr 4 0 0),(9,.ptr 5 0 0),(10,.bool lw),(11,.ptr 6 0 0),(12,.bool up),(13,.bool on)] [(0,⟨[vBB S],12,true⟩),(1,⟨[vBG r],4,true⟩),(2,⟨[.agg [.nilsl,.bool false,.nilsl,.nilsl]],4,true⟩),(3,⟨[vBN v],4,true⟩),(4,⟨[vBN p],4,true⟩),(5,⟨[vA5 L],3,true⟩),(6,⟨[vA5 U],3,true⟩)] [] 7 zdd zsm trivial ⟨[0,1,2,3,4,5,6],[],[],[],ttt,⟨apx,apx,apx,zAC rfl rfl,apx,apx,apx,zAI rfl rfl,apx,zAI rfl rfl,zAI rfl (by rw[← hon]; unfold onP; rw[Bool.eq_iff_iff]; clear sl su cd1 cd2 hL hU hlw hup hvv hp hD1 hD2 cv cl cu cnl cnu c6 c8 c9 c10 c11 c12 hpu; simp_all),trivial⟩,⟨bbx,bbx,bbx,bbx,bbx,bbx,bbx,trivial⟩,by simp[ren]⟩ ?_; exact H9
 refine vTU ⟨sv [(2,.ptr 0 0 0),(3,.ptr 1 0 0),(4,.ptr 2 0 0),(6,.int .i64 r.index),(7,.ptr 3 0 0),(8,.ptr 4 0 0),(9,.ptr 5 0 0),(10,.bool lw),(11,.ptr 6 0 0),(12,.bool up),(13,.bool on),(14,.bool off)],hv [(0,⟨[vBB S],12,true⟩),(1,⟨[vBG r],4,true⟩),(2,⟨[.agg [.nilsl,.bool false,.nilsl,.nilsl]],4,true⟩),(3,⟨[vBN v],4,true⟩),(4,⟨[vBN p],4,true⟩),(5,⟨[vA5 L],3,true⟩),(6,⟨[vA5 U],3,true⟩)],zv [],7⟩ ?_ fun H10=>?_
 rotate_left
 ·(repeat' (first|refine stu ?_|with_reducible(refine brr ?_ ?_<;>intro h)));all_goals try(conv=>whnf)
  ·refine zAA cd2 rfl ?_
   (repeat' (first|refine stu ?_|with_reducible(refine brr ?_ ?_<;>intro h)));all_goals try(conv=>whnf)
   ·refine vBT [] [(2,.ptr 0 0 0),(3,.ptr 1 0 0),(4,.ptr 2 0 0),(6,.int .i64 r.index),(7,.ptr 3 0 0),(8,.ptr 4 0 0),(9,.ptr 5 0 0),(10,.bool lw),(11,.ptr 6 0 0),(12,.bool up),(13,.bool on),(14,.bool off)] [(0,⟨[vBB S],12,true⟩),(1,⟨[vBG r],4,true⟩),(2,⟨[.agg [.nilsl,.bool false,.nilsl,.nilsl]],4,true⟩),(3,⟨[vBN v],4,true⟩),(4,⟨[vBN p],4,true⟩),(5,⟨[vA5 L],3,true⟩),(6,⟨[vA5 U],3,true⟩)] [] 7 zdd zsm trivial ⟨[0,1,2,3,4,5,6],[],[],[],ttt,⟨apx,apx,apx,zAC rfl rfl,apx,apx,apx,zAI rfl rfl,apx,zAI rfl rfl,zAI rfl rfl,zAI rfl (by rw[← hoff]; unfold vE6; rw[Bool.eq_iff_iff]; clear sl su cd1 cd2 hL hU hlw hup hvv hp hD1 hD2 cv cl cu cnl cnu c6 c8 c9 c10 c11 c12 hpu; simp_all),trivial⟩,⟨bbx,bbx,bbx,bbx,bbx,bbx,bbx,trivial⟩,by simp[ren]⟩ ?_; exact H10
   ·refine zAA su rfl ?_
    (repeat' (first|refine stu ?_|with_reducible(refine brr ?_ ?_<;>intro h)));all_goals try(conv=>whnf)
    refine vBT [] [(2,.ptr 0 0 0),(3,.ptr 1 0 0),(4,.ptr 2 0 0),(6,.int .i64 r.index),(7,.ptr 3 0 0),(8,.ptr 4 0 0),(9,.ptr 5 0 0),(10,.bool lw),(11,.ptr 6 0 0),(12,.bool up),(13,.bool on),(14,.bool off)] [(0,⟨[vBB S],12,true⟩),(1,⟨[vBG r],4,true⟩),(2,⟨[.agg [.nilsl,.bool false,.nilsl,.nilsl]],4,true⟩),(3,⟨[vBN v],4,true⟩),(4,⟨[vBN p],4,true⟩),(5,⟨[vA5 L],3,true⟩),(6,⟨[vA5 U],3,true⟩)] [] 7 zdd zsm trivial ⟨[0,1,2,3,4,5,6],[],[],[],ttt,⟨apx,apx,apx,zAC rfl rfl,apx,apx,apx,zAI rfl rfl,apx,zAI rfl rfl,zAI rfl rfl,zAI rfl (by rw[← hoff]; unfold vE6; rw[Bool.eq_iff_iff]; clear sl su cd1 cd2 hL hU hlw hup hvv hp hD1 hD2 cv cl cu cnl cnu c6 c8 c9 c10 c11 c12 hpu; simp_all),trivial⟩,⟨bbx,bbx,bbx,bbx,bbx,bbx,bbx,trivial⟩,by simp[ren]⟩ ?_; exact H10
   ·refine vBT [] [(2,.ptr 0 0 0),(3,.ptr 1 0 0),(4,.ptr 2 0 0),(6,.int .i64 r.index),(7,.ptr 3 0 0),(8,.ptr 4 0 0),(9,.ptr 5 0 0),(10,.bool lw),(11,.ptr 6 0 0),(12,.bool up),(13,.bool on),(14,.bool off)] [(0,⟨[vBB S],12,true⟩),(1,⟨[vBG r],4,true⟩),(2,⟨[.agg [.nilsl,.bool false,.nilsl,.nilsl]],4,true⟩),(3,⟨[vBN v],4,true⟩),(4,⟨[vBN p],4,true⟩),(5,⟨[vA5 L],3,true⟩),(6,⟨[vA5 U],3,true⟩)] [] 7 zdd zsm trivial ⟨[0,1,2,3,4,5,6],[],[],[],ttt,⟨apx,apx,apx,zAC rfl rfl,apx,apx,apx,zAI rfl rfl,apx,zAI rfl rfl,zAI rfl rfl,zAI rfl (by rw[← hoff]; unfold vE6; rw[Bool.eq_iff_iff]; clear sl su cd1 cd2 hL hU hlw hup hvv hp hD1 hD2 cv cl cu cnl cnu c6 c8 c9 c10 c11 c12 hpu; simp_all),trivial⟩,⟨bbx,bbx,bbx,bbx,bbx,bbx,bbx,trivial⟩,by simp[ren]⟩ ?_; exact H10
  ·refine zAA su rfl ?_
   (repeat' (first|refine stu ?_|with_reducible(refine brr ?_ ?_<;>intro h)));all_goals try(conv=>whnf)
   refine vBT [] [(2,.ptr 0 0 0),(3,.ptr 1 0 0),(4,.ptr 2 0 0),(6,.int .i64 r.index),(7,.ptr 3 0 0),(8,.ptr 4 0 0),(9,.ptr 5 0 0),(10,.bool lw),(11,.ptr 6 0 0),(12,.bool up),(13,.bool on),(14,.bool off)] [(0,⟨[vBB S],12,true⟩),(1,⟨[vBG r],4,true⟩),(2,⟨[.agg [.nilsl,.bool false,.nilsl,.nilsl]],4,true⟩),(3,⟨[vBN v],4,true⟩),(4,⟨[vBN p],4,true⟩),(5,⟨[vA5 L],3,true⟩),(6,⟨[vA5 U],3,true⟩)] [] 7 zdd zsm trivial ⟨[0,1,2,3,4,5,6],[],[],[],ttt,⟨apx,apx,apx,zAC rfl rfl,apx,apx,apx,zAI rfl rfl,apx,zAI rfl rfl,zAI rfl rfl,zAI rfl (by rw[← hoff]; unfold vE6; rw[Bool.eq_iff_iff]; clear sl su cd1 cd2 hL hU hlw hup hvv hp hD1 hD2 cv cl cu cnl cnu c6 c8 c9 c10 c11 c12 hpu; simp_all),trivial⟩,⟨bbx,bbx,bbx,bbx,bbx,bbx,bbx,trivial⟩,by simp[ren]⟩ ?_; exact H10
  ·refine vBT [] [(2,.ptr 0 0 0),(3,.ptr 1 0 0),(4,.ptr 2 0 0),(6,.int .i64 r.index),(7,.ptr 3 0 0),(8,.ptr 4 0 0),(9,.ptr 5 0 0),(10,.bool lw),(11,.ptr 6 0 0),(12,.bool up),(13,.bool on),(14,.bool off)] [(0,⟨[vBB S],12,true⟩),(1,⟨[vBG r],4,true⟩),(2,⟨[.agg [.nilsl,.bool false,.nilsl,.nilsl]],4,true⟩),(3,⟨[vBN v],4,true⟩),(4,⟨[vBN p],4,true⟩),(5,⟨[vA5 L],3,true⟩),(6,⟨[vA5 U],3,true⟩)] [] 7 zdd zsm trivial ⟨[0,1,2,3,4,5,6],[],[],[],ttt,⟨apx,apx,apx,zAC rfl rfl,apx,apx,apx,zAI rfl rfl,apx,zAI rfl rfl,zAI rfl rfl,zAI rfl (by rw[← hoff]; unfold vE6; rw[Bool.eq_iff_iff]; clear sl su cd1 cd2 hL hU hlw hup hvv hp hD1 hD2 cv cl cu cnl cnu c6 c8 c9 c10 c11 c12 hpu; simp_all),trivial⟩,⟨bbx,bbx,bbx,bbx,bbx,bbx,bbx,trivial⟩,by simp[ren]⟩ ?_; exact H10
  ·refine vBT [] [(2,.ptr 0 0 0),(3,.ptr 1 0 0),(4,.ptr 2 0 0),(6,.int .i64 r.index),(7,.ptr 3 0 0),(8,.ptr 4 0 0),(9,.ptr 5 0 0),(10,.bool lw),(11,.ptr 6 0 0),(12,.bool up),(13,.bool on),(14,.bool off)] [(0,⟨[vBB S],12,true⟩),(1,⟨[vBG r],4,true⟩),(2,⟨[.agg [.nilsl,.bool false,.nilsl,.nilsl]],4,true⟩),(3,⟨[vBN v],4,true⟩),(4,⟨[vBN p],4,true⟩),(5,⟨[vA5 L],3,true⟩),(6,⟨[vA5 U],3,true⟩)] [] 7 zdd zsm trivial ⟨[0,1,2,3,4,5,6],[],[],[],ttt,⟨apx,apx,apx,zAC rfl rfl,apx,apx,apx,zAI rfl rfl,apx,zAI rfl rfl,zAI rfl rfl,zAI rfl (by rw[← hoff]; unfold vE6; rw[Bool.eq_iff_iff]; clear sl su cd1 cd2 hL hU hlw hup hvv hp hD1 hD2 cv cl cu cnl cnu c6 c8 c9 c10 c11 c12 hpu; simp_all),trivial⟩,⟨bbx,bbx,bbx,bbx,bbx,bbx,bbx,trivial⟩,by simp[ren]⟩ ?_; exact H10
 refine vTU ⟨sv [(2,.ptr 0 0 0),(3,.ptr 1 0 0),(4,.ptr 2 0 0),(6,.int .i64 r.index),(7,.ptr 3 0 0),(8,.ptr 4 0 0),(9,.ptr 5 0 0),(10,.bool lw),(11,.ptr 6 0 0),(12,.bool up),(13,.bool on),(14,.bool off),(15,.bool pl)],hv [(0,⟨[vBB S],12,true⟩),(1,⟨[vBG r],4,true⟩),(2,⟨[.agg [.nilsl,.bool false,.nilsl,.nilsl]],4,true⟩),(3,⟨[vBN v],4,true⟩),(4,⟨[vBN p],4,true⟩),(5,⟨[vA5 L],3,true⟩),(6,⟨[vA5 U],3,true⟩)],zv [],7⟩ ?_ fun H11=>?_
 rotate_left
 ·(repeat' (first|refine stu ?_|with_reducible(refine brr ?_ ?_<;>intro h)));all_goals try(conv=>whnf)
  all_goals (refine vBT [] [(2,.ptr 0 0 0),(3,.ptr 1 0 0),(4,.ptr 2 0 0),(6,.int .i64 r.index),(7,.ptr 3 0 0),(8,.ptr 4 0 0),(9,.ptr 5 0 0),(10,.bool lw),(11,.ptr 6 0 0),(12,.bool up),(13,.bool on),(14,.bool off),(15,.bool pl)] [(0,⟨[vBB S],12,true⟩),(1,⟨[vBG r],4,true⟩),(2,⟨[.agg [.nilsl,.bool false,.nilsl,.nilsl]],4,true⟩),(3,⟨[vBN v],4,true⟩),(4,⟨[vBN p],4,true⟩),(5,⟨[vA5 L],3,true⟩),(6,⟨[vA5 U],3,true⟩)] [] 7 zdd zsm trivial ⟨[0,1,2,3,4,5,6],[],[],[],ttt,⟨apx,apx,apx,zAC rfl rfl,apx,apx,apx,zAI rfl rfl,apx,zAI rfl rfl,zAI rfl rfl,zAI rfl rfl,zAI rfl (by rw[← hpl]; unfold vDI; rw[Bool.eq_iff_iff]; clear sl su cd1 cd2 hL hU hlw hup hvv hp hD1 hD2 cv cl cu cnl cnu c6 c8 c9 c10 c11 c12 hpu; simp_all),trivial⟩,⟨bbx,bbx,bbx,bbx,bbx,bbx,bbx,trivial⟩,by simp[ren]⟩ ?_; exact H11)
 clear cd1 cd2 hon hoff hpl
 (repeat' (first|refine stp ?_|with_reducible(refine brr ?_ ?_<;>intro h)));all_goals try(conv=>whnf)
 ·have e:vDS r v p L U lw up on off pl=(v,pl):=by unfold vDS; (repeat rw[if_neg zom]); rw[if_pos zom]
  exact zAB rfl (by rw[e]; rfl)
 ·have e:vDS r v p L U lw up on off pl=(vB8 v p,pl):=by unfold vDS; (repeat rw[if_neg zom]); rw[if_pos zom]
  refine zAA c6 rfl ?_
  (repeat' (first|refine stp ?_|with_reducible(refine brr ?_ ?_<;>intro h)));all_goals try(conv=>whnf)
  exact zAB rfl (by rw[e]; rfl)
 ·have e:vDS r v p L U lw up on off pl=(p,on):=by unfold vDS; (repeat rw[if_neg zom]); rw[if_pos zom]
  exact zAB rfl (by rw[e]; rfl)
 ·have e:vDS r v p L U lw up on off pl=(vB8 p v,on):=by unfold vDS; (repeat rw[if_neg zom]); rw[if_pos zom]
  refine zAA c8 rfl ?_
  (repeat' (first|refine stp ?_|with_reducible(refine brr ?_ ?_<;>intro h)));all_goals try(conv=>whnf)
  exact zAB rfl (by rw[e]; rfl)
 ·have e:vDS r v p L U lw up on off pl=(vC0 p (-1),off):=by unfold vDS; (repeat rw[if_neg zom]); rw[if_pos zom]
  refine zAA c9 rfl ?_
  (repeat' (first|refine stp ?_|with_reducible(refine brr ?_ ?_<;>intro h)));all_goals try(conv=>whnf)
  exact zAB rfl (by rw[e]; rfl)
 ·have e:vDS r v p L U lw up on off pl=(vC0 v (-1),off):=by unfold vDS; (repeat rw[if_neg zom]); rw[if_pos zom]
  refine zAA c10 rfl ?_
  (repeat' (first|refine stp ?_|with_reducible(refine brr ?_ ?_<;>intro h)));all_goals try(conv=>whnf)
  exact zAB rfl (by rw[e]; rfl)
 ·have e:vDS r v p L U lw up on off pl=(vB8 p (vBM (qv L)),lw && decide (r.hi=0)):=by unfold vDS; (repeat rw[if_neg zom]); rw[if_pos zom]
  refine zAA cnl rfl ?_
  (repeat' (first|refine stp ?_|with_reducible(refine brr ?_ ?_<;>intro h)));all_goals try(conv=>whnf)
  refine zAA c11 rfl ?_
  (repeat' (first|refine stp ?_|with_reducible(refine brr ?_ ?_<;>intro h)));all_goals try(conv=>whnf)
  ·have hb:(lw && decide (r.hi=0))=(r.hi == 0):=by rw[show lw=true by assumption,Bool.true_and,Bool.eq_iff_iff]; simp
   exact zAB rfl (by rw[e,hb]; rfl)
  ·have hb:(lw && decide (r.hi=0))=false:=by rw[show lw=false by assumption,Bool.false_and]
   exact zAB rfl (by rw[e,hb]; rfl)
 ·have e:vDS r v p L U lw up on off pl=(vB8 (vBM (qv U)) p,up && decide (r.lo=0)):=by unfold vDS; (repeat rw[if_neg zom]); rw[if_pos zom]
  refine zAA cnu rfl ?_
  (repeat' (first|refine stp ?_|with_reducible(refine brr ?_ ?_<;>intro h)));all_goals try(conv=>whnf)
  refine zAA c12 rfl ?_
  (repeat' (first|refine stp ?_|with_reducible(refine brr ?_ ?_<;>intro h)));all_goals try(conv=>whnf)
  ·have hb:(up && decide (r.lo=0))=(r.lo == 0):=by rw[show up=true by assumption,Bool.true_and,Bool.eq_iff_iff]; simp
   exact zAB rfl (by rw[e,hb]; rfl)
  ·have hb:(up && decide (r.lo=0))=false:=by rw[show up=false by assumption,Bool.false_and]
   exact zAB rfl (by rw[e,hb]; rfl)
 ·have hlw1:lw=true:=by assumption
  have hup1:up=true:=by assumption
  refine zAA sl rfl ?_
  (repeat' (first|refine stp ?_|with_reducible(refine brr ?_ ?_<;>intro h)));all_goals try(conv=>whnf)
  ·have e:vDS r v p L U lw up on off pl=(zeroQ,false):=by unfold vDS; repeat rw[if_neg zom]
   exact zAB rfl (by rw[e,← zA4])
  ·refine zAA su rfl ?_
   (repeat' (first|refine stp ?_|with_reducible(refine brr ?_ ?_<;>intro h)));all_goals try(conv=>whnf)
   ·have e:vDS r v p L U lw up on off pl=(zeroQ,false):=by unfold vDS; repeat rw[if_neg zom]
    exact zAB rfl (by rw[e,← zA4])
   ·have e:vDS r v p L U lw up on off pl=(uD7 v p (qv L) (qv U),true):=by unfold vDS; (repeat rw[if_neg zom]); rw[if_pos ⟨zom,hlw1,hup1,zom,zom⟩]
    have z1:szF (P+V+3) (vB8 p (vBM (qv L))):=zER szp (zDS szL) zom;have q1:=zKF (vB8 p (vBM (qv L))) (qv U) _ _ z1 szU zom (Nat.le_trans zHS lp);rw[hUc]at q1;have q2:=uKS U L hUk.1 hLk.1 (by have:=hUk.2; omega) (by have:=hUk.2; omega) (by have:=hLk.2; omega) (by have:=hLk.2; omega);have z2:sz (2 * V+4) (qv U - qv L):=zIO zom (vSD szU szL);have q3:=zKF v (qv U - qv L) _ _ szv z2 zom zom;have z3:szF (P+2 * V+8) (vC0 (vB8 p (vBM (qv L))) (qv U)):=zF3 z1 szU zom;have z4:szF (2 * V+8) (vC0 v (qv U - qv L)):=zF3 szv z2 zom;have q4:=zGY (vC0 (vB8 p (vBM (qv L))) (qv U)) (vC0 v (qv U - qv L)) _ _ z3 z4 zom (Nat.le_trans zIP (Nat.le_trans zHS lp)) (Nat.le_trans zIP zom);refine zAA cnl rfl ?_
    (repeat' (first|refine stp ?_|with_reducible(refine brr ?_ ?_<;>intro h)));all_goals try(conv=>whnf)
    refine zAA c11 rfl ?_
    (repeat' (first|refine stp ?_|with_reducible(refine brr ?_ ?_<;>intro h)));all_goals try(conv=>whnf)
    refine zAA q1 rfl ?_
    (repeat' (first|refine stp ?_|with_reducible(refine brr ?_ ?_<;>intro h)));all_goals try(conv=>whnf)
    refine zAA q2 rfl ?_
    (repeat' (first|refine stp ?_|with_reducible(refine brr ?_ ?_<;>intro h)));all_goals try(conv=>whnf)
    refine zAA q3 rfl ?_
    (repeat' (first|refine stp ?_|with_reducible(refine brr ?_ ?_<;>intro h)));all_goals try(conv=>whnf)
    refine zAA q4 rfl ?_
    (repeat' (first|refine stp ?_|with_reducible(refine brr ?_ ?_<;>intro h)));all_goals try(conv=>whnf)
    exact zAB rfl (by rw[e]; rfl)
 ·have e:vDS r v p L U lw up on off pl=(zeroQ,false):=by unfold vDS; (repeat rw[if_neg zom]); rw[if_neg (fun q=>by have:=q.2.2.1; simp_all)]
  exact zAB rfl (by rw[e,← zA4])
 ·have e:vDS r v p L U lw up on off pl=(zeroQ,false):=by unfold vDS; (repeat rw[if_neg zom]); rw[if_neg (fun q=>by have:=q.2.1; simp_all)]
  exact zAB rfl (by rw[e,← zA4])
 ·have e:vDS r v p L U lw up on off pl=(zeroQ,false):=by unfold vDS; repeat rw[if_neg zom]
  exact zAB rfl (by rw[e,← zA4])
theorem zKI{S:ScpL}{n j:Int}{up:Bool}(h:vCE S n j up=true):vEW S n j up=some (qv (vDU S n)):=by
 unfold vCE at h;simp only[Bool.and_eq_true,decide_eq_true_eq]at h;unfold vEW vDU;rw[if_pos ⟨h.1.1,h.1.2,h.2.1,h.2.2⟩,if_pos h.1]
theorem zIF{S:ScpL}{n j:Int}{up:Bool}(h:vCE S n j up=false):vEW S n j up=none:=by
 unfold vEW;rw[if_neg]
 rintro⟨h1,h2,h3,h4⟩
 unfold vCE at h;rw[decide_eq_true (show 1≤n∧n≤S.lems.length from⟨h1,h2⟩),decide_eq_true h3,decide_eq_true h4]at h;cases h
theorem uDL{S:ScpL}{n j:Int}{up:Bool}:geO (vEW S n j up)=(vCE S n j up && decide (0≤vC9 (qv (vDU S n)))):=by
 cases h:vCE S n j up with
 | true=>rw[zKI h]; simp only[geO,Bool.true_and]; exact decide_eq_decide.2 sgnQ_nn'.symm
 | false=>rw[zIF h]; rfl
theorem uDG{S:ScpL}{n j:Int}{up:Bool}:leO (vEW S n j up)=(vCE S n j up && decide (vC9 (qv (vDU S n))≤0)):=by
 cases h:vCE S n j up with
 | true =>
   rw[zKI h]; simp only[leO,Bool.true_and];refine decide_eq_decide.2 ?_;rw[← Int.not_lt,sgnQ_pos,Rat.not_lt]
 | false=>rw[zIF h]; rfl
theorem uBL{S:ScpL}{r:RowL}(hk:5≤r.kind)(hi:0≤r.index∧r.index<S.q.g.units.length):vDR S r =
 (if (vDS r (vCB (S.q.g.ins+r.index)) S.q.g.units[r.index.toNat]!.Q (vDU S r.lo) (vDU S r.hi) (vCE S r.lo r.index false) (vCE S r.hi r.index true) (onP r (vDU S r.lo) (vCE S r.lo r.index false) (vE1 S 1 r.index)) (vE6 r (vDU S r.hi) (vCE S r.hi r.index true) (vE1 S 2 r.index)) (vDI r)).2=true
   then some (vDS r (vCB (S.q.g.ins+r.index)) S.q.g.units[r.index.toNat]!.Q (vDU S r.lo) (vDU S r.hi) (vCE S r.lo r.index false) (vCE S r.hi r.index true) (onP r (vDU S r.lo) (vCE S r.lo r.index false) (vE1 S 1 r.index)) (vE6 r (vDU S r.hi) (vCE S r.hi r.index true) (vE1 S 2 r.index)) (vDI r)).1 else none):=by
 have hon:onB S r=onP r (vDU S r.lo) (vCE S r.lo r.index false) (vE1 S 1 r.index):=by unfold onB onP; rw[uDL]
 have hoff:uIJ S r=vE6 r (vDU S r.hi) (vCE S r.hi r.index true) (vE1 S 2 r.index):=by unfold uIJ vE6; rw[uDG]
 have hpl:(r.lo=0∧r.hi=0)↔vDI r=true:=by unfold vDI; simp
 have bl:∀ {g:QF} {b:Bool},vEW S r.lo r.index false=(if vCE S r.lo r.index false=true then some (qv (vDU S r.lo)) else none):=by
  intro g b;cases h:vCE S r.lo r.index false with
  | true=>rw[if_pos rfl,zKI h]
  | false=>rw[if_neg zdd,zIF h]
 have bu:vEW S r.hi r.index true=(if vCE S r.hi r.index true=true then some (qv (vDU S r.hi)) else none):=by
  cases h:vCE S r.hi r.index true with
  | true=>rw[if_pos rfl,zKI h]
  | false=>rw[if_neg zdd,zIF h]
 unfold vDR unO;rw[if_neg zom,if_neg zom,hon,hoff,bl (g:=zeroQ) (b:=true),bu];generalize onP r (vDU S r.lo) (vCE S r.lo r.index false) (vE1 S 1 r.index)=on;generalize vE6 r (vDU S r.hi) (vCE S r.hi r.index true) (vE1 S 2 r.index)=off;generalize vCE S r.lo r.index false=lw;generalize vCE S r.hi r.index true=up;generalize vDU S r.lo=L;generalize vDU S r.hi=U;generalize vCB (S.q.g.ins+r.index)=v;generalize S.q.g.units[r.index.toNat]!.Q=p;unfold vDS;by_cases k5:r.kind=5
 ·rw[if_pos k5,if_pos k5]; simp only[hpl]
 rw[if_neg k5,if_neg k5];by_cases k6:r.kind=6
 ·rw[if_pos k6,if_pos k6]; simp only[hpl]
 rw[if_neg k6,if_neg k6];by_cases k7:r.kind=7
 ·rw[if_pos k7,if_pos k7]
 rw[if_neg k7,if_neg k7];by_cases k8:r.kind=8
 ·rw[if_pos k8,if_pos k8]
 rw[if_neg k8,if_neg k8];by_cases k9:r.kind=9
 ·rw[if_pos k9,if_pos k9]
 rw[if_neg k9,if_neg k9];by_cases k10:r.kind=10
 ·rw[if_pos k10,if_pos k10]
 rw[if_neg k10,if_neg k10];by_cases k11:r.kind=11
 ·rw[if_pos k11,if_pos k11]
  cases lw<;>simp
 rw[if_neg k11,if_neg k11];by_cases k12:r.kind=12
 ·rw[if_pos k12,if_pos k12]
  cases up<;>simp
 rw[if_neg k12,if_neg k12];by_cases k13:r.kind=13
 ·rw [if_pos k13]
  cases lw
  ·simp
  ·cases up
   ·simp
   ·simp only[if_true,k13,true_and]
    by_cases hc:vC9 (qv L)<0∧0<vC9 (qv U)
    ·rw[if_pos (show qv L<0∧0<qv U from⟨sgnQ_neg.1 hc.1,sgnQ_pos.1 hc.2⟩),if_pos hc]; rfl
    ·rw[if_neg (show ¬ (qv L<0∧0<qv U) from fun e=>hc ⟨sgnQ_neg.2 e.1,sgnQ_pos.2 e.2⟩),if_neg hc]; rfl
 ·have e13:(if r.kind=13∧lw=true∧up=true∧vC9 (qv L)<0∧0<vC9 (qv U) then(uD7 v p (qv L) (qv U),true) else(zeroQ,false))=(zeroQ,false):=if_neg (fun e=>k13 e.1)
  rw[if_neg k13,e13]; rfl
theorem vI1:FO 137 Tryz.f137 [.cell 4 46,.tmp 5] 206:=mkO Tryz.func137 Tryz.ntmps137 Tryz.results137
theorem uHY(S:ScpL)(r:RowL)(P V:Nat)(hS:vB0 S)(hz:szS S P V):∃ f b,((b=true∧vDR S r=some f)∨(b=false∧vDR S r=none))∧Fn 137 [vBB S,vBG r] (.data (.tup [vBN f,.bool b])):=by
 have hnu:=hS.1.1.2.1;by_cases hk:r.kind<5
 ·have ci:=uM2 S r P V hS hz
  refine⟨(inO S r).getD zeroQ,(inO S r).isSome,?_,?_⟩
  ·unfold vDR
   rw[if_pos hk];cases inO S r with
   | none=>exact Or.inr ⟨rfl,rfl⟩
   | some f=>exact Or.inl ⟨rfl,rfl⟩
  ·generalize (inO S r).getD zeroQ=f at *
   generalize (inO S r).isSome=b at *
   refine zAL vBD hT vI1 (by simp[vBB,vBG]) ?_
   (repeat' (first|refine stp ?_|with_reducible(refine brr ?_ ?_<;>intro h)));all_goals try(conv=>whnf)
   all_goals try (exfalso; omega)
   refine zAA ci rfl ?_;refine sts ?_;exact zAB rfl rfl
 ·by_cases hi:0≤r.index∧r.index<S.q.g.units.length
  ·have c:=uB9 S r P V hS hz zom hi _ _ _ _ _ _ _ _ _ _ _ rfl rfl rfl rfl rfl rfl rfl rfl rfl rfl rfl
   have e:=uBL (S:=S) (r:=r) zom hi;refine⟨_,_,?_,c⟩;rw[e];cases h:(vDS r (vCB (S.q.g.ins+r.index)) S.q.g.units[r.index.toNat]!.Q (vDU S r.lo) (vDU S r.hi) (vCE S r.lo r.index false) (vCE S r.hi r.index true) (onP r (vDU S r.lo) (vCE S r.lo r.index false) (vE1 S 1 r.index)) (vE6 r (vDU S r.hi) (vCE S r.hi r.index true) (vE1 S 2 r.index)) (vDI r)).2 with
   | true=>exact Or.inl ⟨rfl,rfl⟩
   | false=>exact Or.inr ⟨rfl,rfl⟩
  ·refine⟨zeroQ,false,Or.inr ⟨rfl,?_⟩,?_⟩
   ·unfold vDR unO; rw[if_neg hk,if_pos zom]
   ·refine zAL vBD hT vI1 (by simp[vBB,vBG]) ?_
    (repeat' (first|refine stp ?_|with_reducible(refine brr ?_ ?_<;>intro h)));all_goals try(conv=>whnf)
    all_goals try (exfalso; omega)
    all_goals exact zAB rfl (by rw[← zA4])
end Go.PI.Tryz
