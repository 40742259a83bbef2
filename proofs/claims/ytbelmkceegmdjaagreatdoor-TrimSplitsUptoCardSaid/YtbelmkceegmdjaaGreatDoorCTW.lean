/-
  The law's own functions: how large a tree and a query are.
-/
import Derived.Test.YtbelmkceegmdjaaGreatDoorCTS
import Derived.Test.YtbelmkceegmdjaaGreatDoorCPE
import Derived.Test.YtbelmkceegmdjaaGreatDoorCPD
import Derived.Test.YtbelmkceegmdjaaGreatDoorCKA
import Derived.Test.YtbelmkceegmdjaaGreatDoorCTR
set_option linter.unusedVariables false
set_option linter.unusedSimpArgs false
set_option linter.unnecessarySimpa false
set_option maxHeartbeats 0
namespace Go.PI.Tryz
open Go.Proofs Go.PI
theorem uDJ{q:QryL}{n:NodeL}{Bq Bn:Nat}(h:inB q n Bq Bn)(hw:n.wt≤400)(hr:NodeRg n):inS q (Bq+n.tot spF) (n.tot vlF) (n.tot uF) n :=
 have hz:=h.z hw
 ⟨hz.q,hz.hv,hz.B,hz.z,uI1 _ _ (Nat.lt_succ_self _) h.sm hr,zom⟩
theorem uCR(k i l h:Int)(hk:0≤k∧k≤100)(hi:0≤i∧i≤100)(hl:0≤l∧l≤100)(hh:0≤h∧h≤100):vK0 ⟨k,i,l,h⟩∧vQ5 ⟨k,i,l,h⟩:=by
 refine⟨⟨⟨?_,?_⟩,⟨?_,?_⟩⟩,⟨?_,?_⟩⟩<;>dsimp only<;>omega
theorem vN6:NodeRg leafT:=.mk _ zdd (fun m hm=>by cases hm) ⟨zdd,fun m hm=>by rw[List.mem_singleton.1 hm]; exact uCR 1 0 0 0 zdd zdd zdd zdd⟩ zdd (fun k hk=>by cases hk)
theorem uMM:NodeRg nT:=.mk _ zdd (fun m hm=>by cases hm) ⟨zdd,fun m hm=>by cases hm⟩ zdd (fun k hk=>by
 rw[zK5]at hk;rcases List.mem_cons.1 hk with rfl | hk
 ·exact vN6
 ·rw[List.mem_singleton.1 hk]; exact vN6)
theorem uLY:NodeRg wT:=.mk _ zdd (fun m hm=>by
 rcases List.mem_cons.1 hm with rfl | hm
 ·exact⟨zdd,fun p hp=>by cases hp⟩
 ·rw[List.mem_singleton.1 hm]; exact⟨zdd,fun p hp=>by cases hp⟩) ⟨zdd,fun m hm=>by rw[List.mem_singleton.1 hm]; exact uCR 11 0 2 0 zdd zdd zdd zdd⟩ zdd (fun k hk=>by cases hk)
theorem uMH:szQ qT 2:=by
 have h1:szF 2 (vCB 0):=⟨zIO zdd (zE1 (z:=0) zdd),fun p hp=>by rw[List.mem_singleton.1 hp]; exact sz1 1 zdd⟩;have a1:=vI6 (sz1 1 zdd);have a2:=vI6 (sz1 2 zdd);refine⟨zdd,⟨⟨zdd,fun f hf=>?_⟩,⟨zdd,fun f hf=>?_⟩⟩,⟨⟨zdd,fun x hx=>?_⟩,⟨zdd,fun x hx=>?_⟩,(fun f hf=>by cases hf),zdd⟩,?_⟩
 ·rw[List.mem_singleton.1 hf]; exact uAR h1 zdd
 ·rw[List.mem_singleton.1 hf]; exact uAR h1 zdd
 ·rw[List.mem_singleton.1 hx]; exact a1
 ·rw[List.mem_singleton.1 hx]; exact a2
 ·exact zCI zdd (uAR h1 zdd)
theorem vWQ:vCM (vCL (-1) 0) leafT=leafT:=by
 rw[zFT]; rfl
theorem vVU:vBY nT 0 0=leafT:=by
 unfold vBY;rw[show nT.kids[0]! = leafT from rfl,vWQ];rfl
theorem vZM:onN leafT 0=false:=by rw[vIV]; rfl
theorem uI0:vCW ⟨qT,[],[]⟩ nT=leafT:=by
 have hg:vDB ⟨qT,[],[]⟩ nT 0=true:=by
  unfold vDB;rw[show nT.kids[0]! = leafT from rfl];show(!onN leafT 0 && (vBE ⟨qT,[],[]⟩ (vBY nT 0 0)).isNone)=true
  rw[vZM,vVU,uGS]; rfl
 rw[zDV (zNG zdd hg (fun j hj=>by omega))];show vCW ⟨qT,[],[]⟩ (vBY nT 0 0)=_
 rw[vVU,zI7 rfl]
theorem uD8:vCV qT nT=([],0):=by unfold vCV; rw[if_pos ⟨uAY,uMI⟩,uCF]
theorem uEC:vPP qT nT=(leafT,0):=by
 unfold vPP;rw[uD8,if_pos rfl,uI0]
theorem vVX:vD5 wT=wT':=by
 unfold vD5;rw[if_pos vYL,uIS]
theorem uGT:vBI leafT=.agg [.imm [],.int .i64 0,.int .i64 0,.bool false,.imm [],.imm [],.imm [],.bool false,.imm [vBC (mE 1)]]:=by
 rw[zBZ]; rfl
theorem uNX:vA7 nT=.agg [.imm [],.int .i64 1,.int .i64 0,.bool false,.imm [],.imm [],.imm [.agg [.imm [],.int .i64 0,.int .i64 0,.bool false,.imm [],.imm [],.imm [],.bool false,.imm [vBC (mE 1)]],.agg [.imm [],.int .i64 0,.int .i64 0,.bool false,.imm [],.imm [],.imm [],.bool false,.imm [vBC (mE 1)]]],.bool false,.imm []]:=by
 have e:vA7 nT=.agg [.imm [],.int .i64 1,.int .i64 0,.bool false,.imm [],.imm [],.imm [vBI leafT,vBI leafT],.bool false,.imm []]:=rfl;rw[e,uGT]
theorem uNW:vBK qT=.agg [.int .i64 1,.imm [vBN (vCB 0)],.imm [vBN (vCB 0)],.imm [vA5 (cr 1)],.imm [vA5 (cr 2)],.imm [],.imm ((vCB 0).ts.map vHZ),.bool (cr (vCB 0).c).neg,vBJ (cr (vCB 0).c).num,vBJ (cr (vCB 0).c).den]:=by
 have e1:=vHG (vCB 0)
 have e3:(vCB 0).L.terms.map vB6=(vCB 0).ts.map vHZ:=by
  unfold QF.L; simp only[List.map_map]; rfl
 rw[e1,← e3];rfl
theorem vU7:FO 30 Tryz.f30 [.cell 4 72] 10:=mkO Tryz.func30 Tryz.ntmps30 Tryz.results30
theorem vO5(k l:Int):Fn 30 [.int .i64 k,.int .i64 l] (.data (vBC ⟨⟨k,0,l,0⟩,cr 1⟩)):=by
 have co:=zLU 1 zdd;refine zAL vBD hT vU7 zsm ?_;refine sts ?_;refine zAA co rfl ?_;refine sts ?_;exact zAB rfl rfl
theorem vQU:FO 10 Tryz.f10 [.tmp 0] 73:=mkO Tryz.func10 Tryz.ntmps10 Tryz.results10
theorem zN3:Fn 10 [] (.data (.bool true)):=by
 have c1:=zLU 1 zdd;have c2:=zLU 2 zdd;have v0:=zKE 0;have hin:inB qT nT 2 9:=⟨uMH,zdd,uMN,uML,uMO,by rw[uJ2]; decide⟩;have t1:=vJ2 qT _ _ _ nT (uDJ hin (by rw[uJ2]; decide) uMM);have t2:=vWZ wT uLX uLY (by rw[uLW]; decide);rw[uEC,uNX,uNW]at t1;rw[vVX]at t2;refine zAL vBD hT vQU zsm ?_;refine sts ?_;refine zAA v0 rfl ?_;refine sts ?_;refine zAA c1 rfl ?_;refine sts ?_;refine zAA c2 rfl ?_;refine sts ?_;refine zAA (vO5 1 0) rfl ?_;refine sts ?_;refine zAA t1 (zAD rfl (zAD rfl rfl)) ?_;refine sts ?_;refine zAA (vO5 11 2) rfl ?_;refine sts ?_;refine zAA t2 (zAD rfl rfl) ?_;refine sts ?_;exact zAB rfl rfl
theorem vQQ:FO 11 Tryz.f11 [.tmp 4] 54:=mkO Tryz.func11 Tryz.ntmps11 Tryz.results11
theorem vXH:∀ (n:Nat) (x:NodeL) (most:Int),SizeOf.sizeOf x<n→x.wt≤2097152→Fn 11 [vA7 x,.int .i64 most] (.data (.int .i64 (lsz most x))):=by
 intro n
 induction n with
 | zero=>intro x y h; omega
 | succ n ih =>
   intro x most hx hs;have hw:=x.wt_eq;have hlw:=zHK x.lemmas;have hk:=zIU most x.kids (fun k _=>zHH most _ k (Nat.lt_succ_self _)) (1+x.lemmas.length+x.proof.length+((x.lemmas.map fun x=>x.proof.length).sum:Nat));have hlz:=zOV most x;have hkl:=vL3 x;refine zAL vBD hT vQQ zsm ?_;refine sns ?_
   refine zC5 hT (fun i:Nat=>[(1,.int .i64 most),(2,.ptr 0 0 0),(5,.int .i64 (1+x.lemmas.length+x.proof.length+(((x.lemmas.take i).map fun x=>x.proof.length).sum:Nat))),(6,.int .i64 i)]) (fun _=>[(0,⟨[vA7 x],9,true⟩)]) [] 1 (fun i=>i≤x.lemmas.length) (fun i=>x.lemmas.length - i) 0 zsm zdd zsm
    [0] ⟨zAC rfl rfl,apx,zAC rfl zsm,zAC rfl rfl,trivial⟩ ⟨bbx,trivial⟩ zsm ?_
   intro i hi;have hsl:=@sum_take_le _ (fun x:LemL=>x.proof.length) x.lemmas i
   (refine gon ?_ ?_<;>intro h)
   ·have hi':i<x.lemmas.length:=by omega
    have hs1:=zGM (f:=fun x:LemL=>x.proof.length) hi';have hs2:=@sum_take_le _ (fun x:LemL=>x.proof.length) x.lemmas (i+1);refine vZI (by simp only[List.length_map]; omega) ?_;refine sns ?_;exact⟨i+1,[0],⟨zom,zom⟩,⟨zAC rfl rfl,apx,zAC rfl (by simp only[List.length_map]; omega),zAC rfl zom,trivial⟩,⟨bbx,trivial⟩,by simp[ren]⟩
   ·have e:x.lemmas.take i=x.lemmas:=List.take_of_length_le zom
    rw[e];generalize hk0:(1+(x.lemmas.length:Int)+x.proof.length+((x.lemmas.map fun x=>x.proof.length).sum:Nat))=k0 at *
    have kb:∀ i,k0≤((x.kids.take i).map (lsz most)).foldl (fun k c=>if k≤most then k+c else k) k0∧((x.kids.take i).map (lsz most)).foldl (fun k c=>if k≤most then k+c else k) k0≤k0+(x.kids.map NodeL.wt).sum:=fun i=>by
     have h1:=zIU most (x.kids.take i) (fun k _=>zHH most _ k (Nat.lt_succ_self _)) k0;have h2:=@sum_take_le _ NodeL.wt x.kids i;omega
    refine zC5 hT (fun i:Nat=>[(1,.int .i64 most),(2,.ptr 0 0 0),(5,.int .i64 (((x.kids.take i).map (lsz most)).foldl (fun k c=>if k≤most then k+c else k) k0)),(7,.int .i64 i)]) (fun _=>[(0,⟨[vA7 x],9,true⟩)]) [] 1 (fun i=>i≤x.kids.length) (fun i=>x.kids.length - i) 0 zsm zdd zsm
     [0] ⟨zAC rfl rfl,apx,zAC rfl rfl,zAC rfl rfl,trivial⟩ ⟨bbx,trivial⟩ (by simp[ren]) ?_
    intro i hi;have kb0:=kb i;have kb1:=kb (i+1)
    (repeat' (first|refine stn ?_|(with_reducible refine brr ?_ ?_<;>intro h)|(with_reducible refine zAS ?_ ?_<;>intro h)|with_reducible refine zBD ?_ ?_)); all_goals try (conv=>whnf)
    ·have hi':i<x.kids.length:=by omega
     have hkm:x.kids[i]! ∈ x.kids:=zA7 hi';have hwk:=uCJ hkm;have hlb:=zHH most _ x.kids[i]! (Nat.lt_succ_self _)
     have hst:((x.kids.take (i+1)).map (lsz most)).foldl (fun k c=>if k≤most then k+c else k) k0=((x.kids.take i).map (lsz most)).foldl (fun k c=>if k≤most then k+c else k) k0+lsz most x.kids[i]! := by
      rw[List.take_succ_eq_append_getElem hi',List.map_append,List.foldl_append,getElem!_pos x.kids i hi'];simp only[List.map_cons,List.map_nil,List.foldl_cons,List.foldl_nil];rw[if_pos h]
     refine zAA (ih x.kids[i]! most (by have:=NodeL.sizeOf_kid hkm; omega) zom) rfl ?_;refine sns ?_;exact⟨i+1,[0],⟨zom,zom⟩,⟨zAC rfl rfl,apx,zAC rfl zom,zAC rfl zom,trivial⟩,⟨bbx,trivial⟩,by simp[ren]⟩
    ·refine zAB rfl ?_
     rw[hlz]
     conv=>rhs; rw[← List.take_append_drop i x.kids,List.map_append,List.foldl_append,zK9 most _ _ h]
    ·refine zAB rfl ?_
     rw[hlz,List.take_of_length_le zom]
theorem vI2:FO 15 Tryz.f15 [.tmp 4] 28:=mkO Tryz.func15 Tryz.ntmps15 Tryz.results15
theorem uCC(q:QryL)(x:NodeL)(hs:x.wt≤2097152)(hu:q.g.units.length≤1048576)(hr:q.r.rows.length≤1048576):∃ b,(b=true→q.g.units.length≤6∧q.g.ins≤6∧q.r.rows.length≤6∧x.wt≤250)∧Fn 15 [vBK q,vA7 x] (.data (.bool b)):=by
 have hr:=vXH _ x 250 (Nat.lt_succ_self _) hs;by_cases hb:q.g.units.length≤6∧q.g.ins≤6∧q.r.rows.length≤6
 ·refine⟨decide (lsz 250 x≤250),fun h=>⟨hb.1,hb.2.1,hb.2.2,?_⟩,?_⟩
  ·have h:=of_decide_eq_true h
   have:=uDE 250 _ x (Nat.lt_succ_self _) h;omega
  obtain⟨h1,h2,h3⟩:=hb;refine zAL vBD hT vI2 (by simp[vBK]) ?_
  (repeat' (first|refine stn ?_|(with_reducible refine brr ?_ ?_<;>intro h)|(with_reducible refine zAS ?_ ?_<;>intro h)|with_reducible refine zBD ?_ ?_)); all_goals try (conv=>whnf)
  all_goals try (exfalso; omega)
  refine zAA hr rfl ?_;refine sns ?_;exact zAB rfl rfl
 ·refine⟨false,fun h=>absurd h zdd,?_⟩
  refine zAL vBD hT vI2 (by simp[vBK]) ?_
  (repeat' (first|refine stn ?_|(with_reducible refine brr ?_ ?_<;>intro h)|(with_reducible refine zAS ?_ ?_<;>intro h)|with_reducible refine zBD ?_ ?_)); all_goals try (conv=>whnf)
  all_goals try (exfalso; omega)
  all_goals exact zAB rfl rfl
end Go.PI.Tryz
