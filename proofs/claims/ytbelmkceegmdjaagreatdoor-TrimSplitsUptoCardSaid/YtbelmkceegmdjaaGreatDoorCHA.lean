/-
  Graphs of the program: Valid, run, Pre.
-/
import Derived.Test.YtbelmkceegmdjaaGreatDoorCGA
import Derived.Test.YtbelmkceegmdjaaGreatDoorCRC
import Derived.Test.YtbelmkceegmdjaaGreatDoorCPE
import Derived.Test.YtbelmkceegmdjaaGreatDoorCPD
set_option linter.unusedVariables false
set_option linter.unusedSimpArgs false
set_option linter.unnecessarySimpa false
set_option maxHeartbeats 0
namespace Go.PI.Tryz
open Go.Proofs Go.PI
theorem vXX{l:List AffL}{n:Int}:l.any (fun f=>!vCK f n)=false↔∀ j,j<l.length→vB3 l[j]! n:=by
 rw[List.any_eq_false];constructor
 ·intro e j hj
  have:=e _ (get_mem hj);exact validB_true.1 (by simpa using this)
 ·intro e f hf
  obtain⟨j,hj,rfl⟩:=List.getElem_of_mem hf;have:=validB_true.2 (e j hj);rw[getElem!_pos l j hj]at this;simp[this]
theorem uJW:FO 151 Tryz.f151 [.tmp 3] 8:=mkO Tryz.func151 Tryz.ntmps151 Tryz.results151
theorem uM5(f:AffL)(n:Int)(hf:okA 2147483596 f):Fn 151 [vBL f,.cptr (.int .i64 n) 0] (.data (.bool (!vCK f n))):=by
 have cc:=zMK f n hf;refine zAL vBD hT uJW zsm ?_;refine sts ?_;refine zAA cc rfl ?_;refine sts ?_;exact zAB rfl rfl
theorem uJV:FO 124 Tryz.f124 [.tmp 4] 9:=mkO Tryz.func124 Tryz.ntmps124 Tryz.results124
theorem uM4(l:List AffL)(n:Int)(hl:uGE 950000000 l):Fn 124 [.imm (l.map vBL),.int .i64 n] (.data (.bool (dB (vR4 l n)))):=by
 have cc:=zN2 l (fun f=>!vCK f n) 151 (.int .i64 n) hl.1 (fun f hf=>uM5 f n (zCI zdd (hl.2 f hf)));refine zAL vBD hT uJV zsm ?_;refine sts ?_;refine zAA cc rfl ?_;refine sts ?_;refine zAB rfl (congrArg PV.bool ?_);rw[Bool.eq_iff_iff,dB_true,Bool.not_eq_true',vXX];exact Iff.rfl
theorem vVG:FO 93 Tryz.f93 [.tmp 2] 56:=mkO Tryz.func93 Tryz.ntmps93 Tryz.results93
theorem uCB(g:GraL)(hg:vGY 950000000 g):Fn 93 [vD2 g] (.data (.bool (dB (VaG g)))):=by
 obtain⟨hu,ho⟩:=hg;have no:¬ VaG g→false=dB (VaG g):=zGG;have l1:=hu.1;have l2:=ho.1;have cc:=uM4 g.outs (g.ins+g.units.length) ho;refine zAL vBD hT vVG (by simp[vD2]) ?_
 (repeat' (first|refine stp ?_|with_reducible(refine brr ?_ ?_<;>intro h)));all_goals try(conv=>whnf)
 ·exact zAB rfl (congrArg PV.bool (no fun e=>by have:=e.1.1; omega))
 ·exact zAB rfl (congrArg PV.bool (no fun e=>by have:=e.1.2; omega))
 ·exact zAB rfl (congrArg PV.bool (no fun e=>by have:=e.2.1; omega))
 ·exact zAB rfl (congrArg PV.bool (no fun e=>by have:=e.2.2.1.1; omega))
 ·exact zAB rfl (congrArg PV.bool (no fun e=>by have:=e.2.2.1.2; omega))
 ·have h0:(1≤g.ins∧g.ins≤256)∧g.units.length≤1024∧(1≤g.outs.length∧g.outs.length≤256):=⟨⟨zom,zom⟩,zom,zom,zom⟩
  obtain⟨h1,h2,h3⟩:=h0
  refine zAP hT (fun(i:Nat)=>[(1,.ptr 0 0 0),(32,.imm (g.units.map vBL)),(33,.int .i64 g.units.length),(34,.int .i64 i)]) (fun _=>[(0,⟨[vD2 g],3,true⟩)]) [] 1
   (fun i=>i≤g.units.length∧∀ j,j<i→vB3 g.units[j]! (g.ins+j)) (fun i=>g.units.length - i) 0 ⟨Nat.zero_le _,fun j h=>zom⟩ zdd zsm ?_ ?_
  ·exact⟨[0],[],[],[],ttt,⟨apx,zAE rfl rfl,zAC rfl zsm,zAC rfl rfl,trivial⟩,⟨bbx,trivial⟩,by simp[ren]⟩
  intro i ⟨i1,i2⟩;by_cases hi:i<g.units.length
  ·have c1:=zMK g.units[i]! (g.ins+i) (zCI zdd (hu.2 _ (get_mem hi)))
   (refine gob ?_ ?_<;>intro h)
   ·refine zAA c1 rfl ?_
    (refine gob ?_ ?_<;>intro h)
    ·exact⟨i+1,⟨⟨zom,fun j hj=>zA2 (p:=fun(j:Nat)=>vB3 g.units[j]! (g.ins+j)) i2 (validB_true.1 (by assumption)) hj⟩,by show g.units.length - (i+1)<g.units.length - i; omega⟩,[0],[],[],[],ttt,⟨apx,zAE rfl rfl,zAC rfl rfl,zAC rfl rfl,trivial⟩,⟨bbx,trivial⟩,by simp[ren]⟩
    ·exact zAB rfl (congrArg PV.bool (no fun e=>by have:=validB_true.2 (e.2.2.2.1 i hi); simp_all))
   all_goals (exfalso; omega)
  ·(refine gob ?_ ?_<;>intro h)
   all_goals try (exfalso; omega)
   rw[List.length_map];refine zAA cc rfl ?_;refine sts ?_;refine zAB rfl (congrArg PV.bool ?_);rw[Bool.eq_iff_iff,dB_true,dB_true];exact⟨fun e=>⟨h1,h2,h3,fun j hj=>i2 j zom,e⟩,fun e=>e.2.2.2.2⟩
def _root_.Go.PI.GraL.us(g:GraL):List QF:=g.units.map AffL.Q
end Go.PI.Tryz
