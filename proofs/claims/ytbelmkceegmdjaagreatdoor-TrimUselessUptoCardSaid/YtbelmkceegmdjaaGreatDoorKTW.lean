/-
  The law's own functions: how large a tree and a query are.
-/
import Derived.Test.YtbelmkceegmdjaaGreatDoorKTS
set_option linter.unusedVariables false
set_option linter.unusedSimpArgs false
set_option maxHeartbeats 0
namespace Go.PI.Tryz
open Go.Proofs Go.PI
theorem uNI{q:QryL}{n:NodeL}{Bq Bn:Nat}(h:inB q n Bq Bn)(hw:n.wt<=400)(hr:NodeRg n):inS q (Bq+n.tot spF) (n.tot vlF) (n.tot uF) n :=
 have hz:=h.z hw
 ⟨hz.q,hz.hv,hz.B,hz.z,uFL _ _ (rAL _) h.sm hr,zom⟩
theorem zL5(k i l h:Int)(hk:0<=k/\k<=100)(hi:0<=i/\i<=100)(hl:0<=l/\l<=100)(hh:0<=h/\h<=100):vL0 ⟨k,i,l,h⟩/\vSZ ⟨k,i,l,h⟩:=by
 refine⟨⟨⟨?_,?_⟩,⟨?_,?_⟩⟩,⟨?_,?_⟩⟩<;>dsimp only<;>omega
theorem vPR:NodeRg leafT:=.mk _ zdd (fun m hm=>by cases hm) ⟨zdd,fun m hm=>by rw[rBI.1 hm]; exact zL5 1 0 0 0 zdd zdd zdd zdd⟩ zdd (fun k hk=>by cases hk)
theorem uPV:NodeRg nT:=.mk _ zdd (fun m hm=>by cases hm) ⟨zdd,fun m hm=>by cases hm⟩ zdd (fun k hk=>by
 rw[zLR]at hk;rcases rBA.1 hk with rfl | hk
 .exact vPR
 .rw[rBI.1 hk]; exact vPR)
theorem uO8:NodeRg wT:=.mk _ zdd (fun m hm=>by
 rcases rBA.1 hm with rfl | hm
 .exact⟨zdd,fun p hp=>by cases hp⟩
 .rw[rBI.1 hm]; exact⟨zdd,fun p hp=>by cases hp⟩) ⟨zdd,fun m hm=>by rw[rBI.1 hm]; exact zL5 11 0 2 0 zdd zdd zdd zdd⟩ zdd (fun k hk=>by cases hk)
theorem uPQ:szQ qT 2:=by
 have h1:szF 2 (vCN 0):=⟨zI1 zdd (zE7 (z:=0) zdd),fun p hp=>by rw[rBI.1 hp]; exact sz1 1 zdd⟩;have a1:=vJ3 (sz1 1 zdd);have a2:=vJ3 (sz1 2 zdd);refine⟨zdd,⟨⟨zdd,fun f hf=>?_⟩,⟨zdd,fun f hf=>?_⟩⟩,⟨⟨zdd,fun x hx=>?_⟩,⟨zdd,fun x hx=>?_⟩,(fun f hf=>by cases hf),zdd⟩,?_⟩
 .rw[rBI.1 hf]; exact uDE h1 zdd
 .rw[rBI.1 hf]; exact uDE h1 zdd
 .rw[rBI.1 hx]; exact a1
 .rw[rBI.1 hx]; exact a2
 .exact zCN zdd (uDE h1 zdd)
theorem vY3:vCO (vCM (-1) 0) leafT=leafT:=by
 rw[zEV]; rfl
theorem vXZ:vBZ nT 0 0=leafT:=by
 unfold vBZ;rw[show nT.kids[0]! = leafT from rfl,vY3];rfl
theorem uB6:onN leafT 0=false:=by rw[zPG]; rfl
theorem uL5:vCS ⟨qT,[],[]⟩ nT=leafT:=by
 have hg:vDI ⟨qT,[],[]⟩ nT 0=true:=by
  unfold vDI;rw[show nT.kids[0]! = leafT from rfl];show(!onN leafT 0 && (vBE ⟨qT,[],[]⟩ (vBZ nT 0 0)).isNone)=true
  rw[uB6,vXZ,uJV]; rfl
 rw[zC4 (zKI zdd hg (fun j hj=>by omega))];show vCS ⟨qT,[],[]⟩ (vBZ nT 0 0)=_
 rw[vXZ,zE8 rfl]
theorem uG7:vCF qT nT=([],0):=by unfold vCF; rw[rAU ⟨uDJ,uPR⟩,uFB]
theorem uG9:splV qT nT=(leafT,0):=by
 unfold splV;rw[uG7,rAU rfl,uL5]
theorem vX3:vBO wT=wT':=by
 unfold vBO;rw[rAU uA2,uLY]
theorem uJW:vBF leafT=.agg [.imm [],.int .i64 0,.int .i64 0,.bool false,.imm [],.imm [],.imm [],.bool false,.imm [vBB (mE 1)]]:=by
 rw[zBR]; rfl
theorem uQ5:vA7 nT=.agg [.imm [],.int .i64 1,.int .i64 0,.bool false,.imm [],.imm [],.imm [.agg [.imm [],.int .i64 0,.int .i64 0,.bool false,.imm [],.imm [],.imm [],.bool false,.imm [vBB (mE 1)]],.agg [.imm [],.int .i64 0,.int .i64 0,.bool false,.imm [],.imm [],.imm [],.bool false,.imm [vBB (mE 1)]]],.bool false,.imm []]:=by
 have e:vA7 nT=.agg [.imm [],.int .i64 1,.int .i64 0,.bool false,.imm [],.imm [],.imm [vBF leafT,vBF leafT],.bool false,.imm []]:=rfl;rw[e,uJW]
theorem uQ4:vBJ qT=.agg [.int .i64 1,.imm [vBP (vCN 0)],.imm [vBP (vCN 0)],.imm [vA5 (cr 1)],.imm [vA5 (cr 2)],.imm [],.imm ((vCN 0).ts.map vIN),.bool (cr (vCN 0).c).neg,vBK (cr (vCN 0).c).num,vBK (cr (vCN 0).c).den]:=by
 have e1:=vH3 (vCN 0)
 have e3:(vCN 0).L.terms.map vCB=(vCN 0).ts.map vIN:=by
  unfold QF.L; simp only[rCQ]; rfl
 rw[e1,<- e3];rfl
theorem vW8:FO 30 Tryz.f30 [.cell 4 72] 10:=mkO Tryz.func30 Tryz.ntmps30 Tryz.results30
theorem vQU(k l:Int):Fn 30 [.int .i64 k,.int .i64 l] (.data (vBB ⟨⟨k,0,l,0⟩,cr 1⟩)):=by
 have co:=zMI 1 zdd;refine zAL vBC hT vW8 zsm ?_;refine sts ?_;refine zAA co rfl ?_;refine sts ?_;exact rGV
theorem vSN:FO 10 Tryz.f10 [.tmp 0] 73:=mkO Tryz.func10 Tryz.ntmps10 Tryz.results10
theorem zFN:Fn 10 [] (.data (.bool true)):=by
 have c1:=zMI 1 zdd;have c2:=zMI 2 zdd;have v0:=zKY 0;have hin:inB qT nT 2 9:=⟨uPQ,zdd,uPW,uPU,uPX,by rw[uM8]; decide⟩;have t1:=vK0 qT _ _ _ nT (uNI hin (by rw[uM8]; decide) uPV);have t2:=vK1 wT uO7 uO8 (by rw[uO6]; decide);rw[uG9,uQ5,uQ4]at t1;rw[vX3]at t2;refine zAL vBC hT vSN zsm ?_;refine sts ?_;refine zAA v0 rfl ?_;refine sts ?_;refine zAA c1 rfl ?_;refine sts ?_;refine zAA c2 rfl ?_;refine sts ?_;refine zAA (vQU 1 0) rfl ?_;refine sts ?_;refine zAA t1 (zAD rfl (zAD rfl rfl)) ?_;refine sts ?_;refine zAA (vQU 11 2) rfl ?_;refine sts ?_;refine zAA t2 (zAD rfl rfl) ?_;refine sts ?_;exact rGV
theorem vSI:FO 11 Tryz.f11 [.tmp 4] 54:=mkO Tryz.func11 Tryz.ntmps11 Tryz.results11
theorem vZW:∀ (n:Nat) (x:NodeL) (most:Int),SizeOf.sizeOf x<n->x.wt<=2097152->Fn 11 [vA7 x,.int .i64 most] (.data (.int .i64 (lsz most x))):=by
 intro n
 induction n with
 | zero=>intro x y h; omega
 | succ n ih =>
   intro x most hx hs;have hw:=x.wt_eq;have hlw:=zGN x.lemmas;have hk:=zI9 most x.kids (fun k _=>zKB most _ k (rAL _)) (1+x.lemmas.length+x.proof.length+((x.lemmas.map fun x=>x.proof.length).sum:Nat));have hlz:=vPK most x;have hkl:=vM4 x;refine zAL vBC hT vSI zsm ?_;refine sns ?_
   refine zC8 hT (fun i:Nat=>[(1,.int .i64 most),(2,.ptr 0 0 0),(5,.int .i64 (1+x.lemmas.length+x.proof.length+(((x.lemmas.take i).map fun x=>x.proof.length).sum:Nat))),(6,.int .i64 i)]) (fun _=>[(0,⟨[vA7 x],9,true⟩)]) [] 1 (fun i=>i<=x.lemmas.length) (fun i=>x.lemmas.length - i) 0 zsm zdd zsm
    [0] ⟨rAI,apx,zAC rfl zsm,rAI,rGU⟩ ⟨bbx,rGU⟩ zsm ?_
   intro i hi;have hsl:=@sum_take_le _ (fun x:LemL=>x.proof.length) x.lemmas i
   refine gon ?_ ?_<;>intro h
   .have hi':i<x.lemmas.length:=by omega
    have hs1:=zGW (f:=fun x:LemL=>x.proof.length) hi';have hs2:=@sum_take_le _ (fun x:LemL=>x.proof.length) x.lemmas (i+1);refine uB3 rAG ?_;refine sns ?_;exact⟨i+1,[0],⟨zom,zom⟩,⟨rAI,apx,zAC rfl rAG,zAC rfl zom,rGU⟩,⟨bbx,rGU⟩,rAA⟩
   .have e:x.lemmas.take i=x.lemmas:=rBR zom
    rw[e];generalize hk0:(1+(x.lemmas.length:Int)+x.proof.length+((x.lemmas.map fun x=>x.proof.length).sum:Nat))=k0 at *
    have kb:∀ i,k0<=((x.kids.take i).map (lsz most)).foldl (fun k c=>if k<=most then k+c else k) k0/\((x.kids.take i).map (lsz most)).foldl (fun k c=>if k<=most then k+c else k) k0<=k0+(x.kids.map NodeL.wt).sum:=fun i=>by
     have h1:=zI9 most (x.kids.take i) (fun k _=>zKB most _ k (rAL _)) k0;have h2:=@sum_take_le _ NodeL.wt x.kids i;omega
    refine zC8 hT (fun i:Nat=>[(1,.int .i64 most),(2,.ptr 0 0 0),(5,.int .i64 (((x.kids.take i).map (lsz most)).foldl (fun k c=>if k<=most then k+c else k) k0)),(7,.int .i64 i)]) (fun _=>[(0,⟨[vA7 x],9,true⟩)]) [] 1 (fun i=>i<=x.kids.length) (fun i=>x.kids.length - i) 0 zsm zdd zsm
     [0] ⟨rAI,apx,rAI,rAI,rGU⟩ ⟨bbx,rGU⟩ rAA ?_
    intro i hi;have kb0:=kb i;have kb1:=kb (i+1)
    (repeat' (first|refine stn ?_|(with_reducible refine brr ?_ ?_<;>intro h)|(with_reducible refine zAT ?_ ?_<;>intro h)|with_reducible refine zBC ?_ ?_)); all_goals try (conv=>whnf)
    .have hi':i<x.kids.length:=by omega
     have hkm:x.kids[i]! ∈ x.kids:=zA2 hi';have hwk:=uFF hkm;have hlb:=zKB most _ x.kids[i]! (rAL _)
     have hst:((x.kids.take (i+1)).map (lsz most)).foldl (fun k c=>if k<=most then k+c else k) k0=((x.kids.take i).map (lsz most)).foldl (fun k c=>if k<=most then k+c else k) k0+lsz most x.kids[i]! := by
      rw[rA2 hi',rBE,rEK,rAT x.kids i hi'];simp only[rBM,rEQ,List.foldl_cons,List.foldl_nil];rw[rAU h]
     refine zAA (ih x.kids[i]! most (by have:=NodeL.sizeOf_kid hkm; omega) zom) rfl ?_;refine sns ?_;exact⟨i+1,[0],⟨zom,zom⟩,⟨rAI,apx,zAC rfl zom,zAC rfl zom,rGU⟩,⟨bbx,rGU⟩,rAA⟩
    .refine zAB rfl ?_
     rw[hlz]
     conv=>rhs; rw[<- rC6 i x.kids,rBE,rEK,zLU most _ _ h]
    .refine zAB rfl ?_
     rw[hlz,rBR zom]
theorem vJZ:FO 15 Tryz.f15 [.tmp 4] 28:=mkO Tryz.func15 Tryz.ntmps15 Tryz.results15
theorem uE6(q:QryL)(x:NodeL)(hs:x.wt<=2097152)(hu:q.g.units.length<=1048576)(hr:q.r.rows.length<=1048576):∃ b,(b=true->q.g.units.length<=6/\q.g.ins<=6/\q.r.rows.length<=6/\x.wt<=250)/\Fn 15 [vBJ q,vA7 x] (.data (.bool b)):=by
 have hr:=vZW _ x 250 (rAL _) hs;by_cases hb:q.g.units.length<=6/\q.g.ins<=6/\q.r.rows.length<=6
 .refine⟨decide (lsz 250 x<=250),fun h=>⟨hb.1,hb.2.1,hb.2.2,?_⟩,?_⟩
  .have h:=rCD h
   have:=uND 250 _ x (rAL _) h;omega
  obtain⟨h1,h2,h3⟩:=hb;refine zAL vBC hT vJZ (by simp[vBJ]) ?_
  (repeat' (first|refine stn ?_|(with_reducible refine brr ?_ ?_<;>intro h)|(with_reducible refine zAT ?_ ?_<;>intro h)|with_reducible refine zBC ?_ ?_)); all_goals try (conv=>whnf)
  all_goals try (exfalso; omega)
  refine zAA hr rfl ?_;refine sns ?_;exact rGV
 .refine⟨false,fun h=>absurd h zdd,?_⟩
  refine zAL vBC hT vJZ (by simp[vBJ]) ?_
  (repeat' (first|refine stn ?_|(with_reducible refine brr ?_ ?_<;>intro h)|(with_reducible refine zAT ?_ ?_<;>intro h)|with_reducible refine zBC ?_ ?_)); all_goals try (conv=>whnf)
  all_goals try (exfalso; omega)
  all_goals exact rGV
end Go.PI.Tryz
