/-
  Graphs of the program: Valid, run, Pre.
-/
import Derived.Test.YtbelmkceegmdjaaGreatDoorKGA
set_option linter.unusedVariables false
set_option linter.unusedSimpArgs false
set_option linter.unnecessarySimpa false
set_option maxHeartbeats 0
namespace Go.PI.Tryz
open Go.Proofs Go.PI
theorem uAE{l:List AffL}{n:Int}:l.any (fun f=>!vC4 f n)=false↔∀ j,j<l.length->vB8 l[j]! n:=by
 rw[rC8];constructor
 .intro e j hj
  have:=e _ (get_mem hj);exact validB_true.1 (by simpa using this)
 .intro e f hf
  obtain⟨j,hj,rfl⟩:=rA8 hf;have:=validB_true.2 (e j hj);rw[rAT l j hj]at this;simp[this]
theorem uM2:FO 151 Tryz.f151 [.tmp 3] 8:=mkO Tryz.func151 Tryz.ntmps151 Tryz.results151
theorem uQE(f:AffL)(n:Int)(hf:okA 2147483596 f):Fn 151 [vBM f,.cptr (.int .i64 n) 0] (.data (.bool (!vC4 f n))):=by
 have cc:=zM9 f n hf;refine zAL vBC hT uM2 zsm ?_;refine sts ?_;refine zAA cc rfl ?_;refine sts ?_;exact rGV
theorem uM1:FO 124 Tryz.f124 [.tmp 4] 9:=mkO Tryz.func124 Tryz.ntmps124 Tryz.results124
theorem uQD(l:List AffL)(n:Int)(hl:uJG 950000000 l):Fn 124 [.imm (l.map vBM),.int .i64 n] (.data (.bool (dB (vTX l n)))):=by
 have cc:=zOR l (fun f=>!vC4 f n) 151 (.int .i64 n) hl.1 (fun f hf=>uQE f n (zCN zdd (hl.2 f hf)));refine zAL vBC hT uM1 zsm ?_;refine sts ?_;refine zAA cc rfl ?_;refine sts ?_;refine zAB rfl (rA3 PV.bool ?_);rw[rA1,dB_true,rEL,uAE];exact Iff.rfl
theorem vXH:FO 93 Tryz.f93 [.tmp 2] 56:=mkO Tryz.func93 Tryz.ntmps93 Tryz.results93
theorem uE5(g:GraL)(hg:vHI 950000000 g):Fn 93 [vEF g] (.data (.bool (dB (VaG g)))):=by
 obtain⟨hu,ho⟩:=hg;have no:¬ VaG g->false=dB (VaG g):=zGR;have l1:=hu.1;have l2:=ho.1;have cc:=uQD g.outs (g.ins+g.units.length) ho;refine zAL vBC hT vXH (by simp[vEF]) ?_
 (repeat' (first|refine stp ?_|with_reducible(refine brr ?_ ?_<;>intro h)));all_goals try(conv=>whnf)
 .exact zAB rfl (rA3 PV.bool (no fun e=>by have:=e.1.1; omega))
 .exact zAB rfl (rA3 PV.bool (no fun e=>by have:=e.1.2; omega))
 .exact zAB rfl (rA3 PV.bool (no fun e=>by have:=e.2.1; omega))
 .exact zAB rfl (rA3 PV.bool (no fun e=>by have:=e.2.2.1.1; omega))
 .exact zAB rfl (rA3 PV.bool (no fun e=>by have:=e.2.2.1.2; omega))
 .have h0:(1<=g.ins/\g.ins<=256)/\g.units.length<=1024/\(1<=g.outs.length/\g.outs.length<=256):=⟨⟨zom,zom⟩,zom,zom,zom⟩
  obtain⟨h1,h2,h3⟩:=h0
  refine zAN hT (fun(i:Nat)=>[(1,.ptr 0 0 0),(32,.imm (g.units.map vBM)),(33,.int .i64 g.units.length),(34,.int .i64 i)]) (fun _=>[(0,⟨[vEF g],3,true⟩)]) [] 1
   (fun i=>i<=g.units.length/\∀ j,j<i->vB8 g.units[j]! (g.ins+j)) (fun i=>g.units.length - i) 0 ⟨rA7 _,fun j h=>zom⟩ zdd zsm ?_ ?_
  .exact⟨[0],[],[],[],ttt,⟨apx,rAJ,zAC rfl zsm,rAI,rGU⟩,⟨bbx,rGU⟩,rAA⟩
  intro i ⟨i1,i2⟩;by_cases hi:i<g.units.length
  .have c1:=zM9 g.units[i]! (g.ins+i) (zCN zdd (hu.2 _ (get_mem hi)))
   refine gob ?_ ?_<;>intro h
   .refine zAA c1 rfl ?_
    refine gob ?_ ?_<;>intro h
    .exact⟨i+1,⟨⟨zom,fun j hj=>zA6 (p:=fun(j:Nat)=>vB8 g.units[j]! (g.ins+j)) i2 (validB_true.1 rAC) hj⟩,by show g.units.length - (i+1)<g.units.length - i; omega⟩,[0],[],[],[],ttt,⟨apx,rAJ,rAI,rAI,rGU⟩,⟨bbx,rGU⟩,rAA⟩
    .exact zAB rfl (rA3 PV.bool (no fun e=>by have:=validB_true.2 (e.2.2.2.1 i hi); simp_all))
   all_goals (exfalso; omega)
  ·refine gob ?_ ?_<;>intro h
   all_goals try (exfalso; omega)
   rw[rAN];refine zAA cc rfl ?_;refine sts ?_;refine zAB rfl (rA3 PV.bool ?_);rw[rA1,dB_true,dB_true];exact⟨fun e=>⟨h1,h2,h3,fun j hj=>i2 j zom,e⟩,fun e=>e.2.2.2.2⟩
end Go.PI.Tryz
namespace Go.PI
def GraL.us(g:GraL):List QF:=g.units.map AffL.Q
end Go.PI
namespace Go.PI.Tryz
open Go.Proofs Go.PI
end Go.PI.Tryz
