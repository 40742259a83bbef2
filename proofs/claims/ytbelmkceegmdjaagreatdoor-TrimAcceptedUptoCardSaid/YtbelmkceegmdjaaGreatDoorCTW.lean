/-
  The law's own functions: how large a tree and a query are.
-/
import Derived.Test.YtbelmkceegmdjaaGreatDoorCTS
set_option linter.unusedVariables false
set_option linter.unusedSimpArgs false
set_option maxHeartbeats 0
namespace Go.PI.Tryz
open Go.Proofs Go.PI
theorem vP6{q:QryL}{n:NodeL}{Bq Bn:Nat}(h:inB q n Bq Bn)(hw:n.wt<=400)(hr:NodeRg n):inS q (Bq+n.tot spF) (n.tot vlF) (n.tot uF) n :=
 have hz:=h.z hw
 ⟨hz.q,hz.hv,hz.B,hz.z,uL4 _ _ (rAL _) h.sm hr,zom⟩
theorem zP4(k i l h:Int)(hk:0<=k/\k<=100)(hi:0<=i/\i<=100)(hl:0<=l/\l<=100)(hh:0<=h/\h<=100):vL8 ⟨k,i,l,h⟩/\vSY ⟨k,i,l,h⟩:=by
 refine⟨⟨⟨?_,?_⟩,⟨?_,?_⟩⟩,⟨?_,?_⟩⟩<;>dsimp only<;>omega
theorem vP2:NodeRg leafT:=.mk _ zdd (fun m hm=>by cases hm) ⟨zdd,fun m hm=>by rw[rBL.1 hm]; exact zP4 1 0 0 0 zdd zdd zdd zdd⟩ zdd (fun k hk=>by cases hk)
theorem uPO:NodeRg nT:=.mk _ zdd (fun m hm=>by cases hm) ⟨zdd,fun m hm=>by cases hm⟩ zdd (fun k hk=>by
 rw[zMA]at hk;rcases rA7.1 hk with rfl | hk
 .exact vP2
 .rw[rBL.1 hk]; exact vP2)
theorem uO1:NodeRg wT:=.mk _ zdd (fun m hm=>by
 rcases rA7.1 hm with rfl | hm
 .exact⟨zdd,fun p hp=>by cases hp⟩
 .rw[rBL.1 hm]; exact⟨zdd,fun p hp=>by cases hp⟩) ⟨zdd,fun m hm=>by rw[rBL.1 hm]; exact zP4 11 0 2 0 zdd zdd zdd zdd⟩ zdd (fun k hk=>by cases hk)
theorem uPJ:szQ qT 2:=by
 have h1:szF 2 (vCR 0):=⟨zI6 zdd (zFE (z:=0) zdd),fun p hp=>by rw[rBL.1 hp]; exact sz1 1 zdd⟩;have a1:=vKA (sz1 1 zdd);have a2:=vKA (sz1 2 zdd);refine⟨zdd,⟨⟨zdd,fun f hf=>?_⟩,⟨zdd,fun f hf=>?_⟩⟩,⟨⟨zdd,fun x hx=>?_⟩,⟨zdd,fun x hx=>?_⟩,(fun f hf=>by cases hf),zdd⟩,?_⟩
 .rw[rBL.1 hf]; exact uDE h1 zdd
 .rw[rBL.1 hf]; exact uDE h1 zdd
 .rw[rBL.1 hx]; exact a1
 .rw[rBL.1 hx]; exact a2
 .exact zCQ zdd (uDE h1 zdd)
theorem vY9:vCL (vCV (-1) 0) leafT=leafT:=by
 rw[zEX]; rfl
theorem vX2:vBY nT 0 0=leafT:=by
 unfold vBY;rw[show nT.kids[0]! = leafT from rfl,vY9];rfl
theorem uB4:onN leafT 0=false:=by rw[vJZ]; rfl
theorem uL2:vCH ⟨qT,[],[]⟩ nT=leafT:=by
 have hg:vD4 ⟨qT,[],[]⟩ nT 0=true:=by
  unfold vD4;rw[show nT.kids[0]! = leafT from rfl];show(!onN leafT 0 && (vBE ⟨qT,[],[]⟩ (vBY nT 0 0)).isNone)=true
  rw[uB4,vX2,uJP]; rfl
 rw[zCE (vKX zdd hg (fun j hj=>by omega))];show vCH ⟨qT,[],[]⟩ (vBY nT 0 0)=_
 rw[vX2,zJT rfl]
theorem uG2:vCK qT nT=([],0):=by unfold vCK; rw[rAV ⟨uDJ,uPK⟩,uE7]
theorem uG4:splV qT nT=(leafT,0):=by
 unfold splV;rw[uG2,rAV rfl,uL2]
theorem vX6:vBN wT=wT':=by
 unfold vBN;rw[rAV uA3,uLU]
theorem uJQ:vBF leafT=.agg [.imm [],.int .i64 0,.int .i64 0,.bool false,.imm [],.imm [],.imm [],.bool false,.imm [vBA (mE 1)]]:=by
 rw[zBQ]; rfl
theorem uQ0:vA7 nT=.agg [.imm [],.int .i64 1,.int .i64 0,.bool false,.imm [],.imm [],.imm [.agg [.imm [],.int .i64 0,.int .i64 0,.bool false,.imm [],.imm [],.imm [],.bool false,.imm [vBA (mE 1)]],.agg [.imm [],.int .i64 0,.int .i64 0,.bool false,.imm [],.imm [],.imm [],.bool false,.imm [vBA (mE 1)]]],.bool false,.imm []]:=by
 have e:vA7 nT=.agg [.imm [],.int .i64 1,.int .i64 0,.bool false,.imm [],.imm [],.imm [vBF leafT,vBF leafT],.bool false,.imm []]:=rfl;rw[e,uJQ]
theorem uQZ:vBI qT=.agg [.int .i64 1,.imm [vBP (vCR 0)],.imm [vBP (vCR 0)],.imm [vA5 (cr 1)],.imm [vA5 (cr 2)],.imm [],.imm ((vCR 0).ts.map vIY),.bool (cr (vCR 0).c).neg,vBK (cr (vCR 0).c).num,vBK (cr (vCR 0).c).den]:=by
 have e1:=vH9 (vCR 0)
 have e3:(vCR 0).L.terms.map vCJ=(vCR 0).ts.map vIY:=by
  unfold QF.L; simp only[rB7]; rfl
 rw[e1,<- e3];rfl
theorem vW8:FO 30 Tryz.f30 [.cell 4 72] 10:=mkO Tryz.func30 Tryz.ntmps30 Tryz.results30
theorem vQ0(k l:Int):Fn 30 [.int .i64 k,.int .i64 l] (.data (vBA ⟨⟨k,0,l,0⟩,cr 1⟩)):=by
 have co:=zM0 1 zdd;refine zAM vBC hT vW8 zsm ?_;refine sts ?_;refine zAA co rfl ?_;refine sts ?_;exact rGX
theorem vSQ:FO 10 Tryz.f10 [.tmp 0] 73:=mkO Tryz.func10 Tryz.ntmps10 Tryz.results10
theorem zC0:Fn 10 [] (.data (.bool true)):=by
 have c1:=zM0 1 zdd;have c2:=zM0 2 zdd;have v0:=zLB 0;have hin:inB qT nT 2 9:=⟨uPJ,zdd,uPP,uPN,uPQ,by rw[uM4]; decide⟩;have t1:=zO2 qT _ _ _ nT (vP6 hin (by rw[uM4]; decide) uPO);have t2:=zO3 wT uO0 uO1 (by rw[uOZ]; decide);rw[uG4,uQ0,uQZ]at t1;rw[vX6]at t2;refine zAM vBC hT vSQ zsm ?_;refine sts ?_;refine zAA v0 rfl ?_;refine sts ?_;refine zAA c1 rfl ?_;refine sts ?_;refine zAA c2 rfl ?_;refine sts ?_;refine zAA (vQ0 1 0) rfl ?_;refine sts ?_;refine zAA t1 (zAD rfl (zAD rfl rfl)) ?_;refine sts ?_;refine zAA (vQ0 11 2) rfl ?_;refine sts ?_;refine zAA t2 (zAD rfl rfl) ?_;refine sts ?_;exact rGX
theorem vSK:FO 11 Tryz.f11 [.tmp 4] 54:=mkO Tryz.func11 Tryz.ntmps11 Tryz.results11
theorem vZ0:∀ (n:Nat) (x:NodeL) (most:Int),SizeOf.sizeOf x<n->x.wt<=2097152->Fn 11 [vA7 x,.int .i64 most] (.data (.int .i64 (lsz most x))):=by
 intro n
 induction n with
 | zero=>intro x y h; omega
 | succ n ih =>
   intro x most hx hs;have hw:=x.wt_eq;have hlw:=zGS x.lemmas;have hk:=zJG most x.kids (fun k _=>zKL most _ k (rAL _)) (1+x.lemmas.length+x.proof.length+((x.lemmas.map fun x=>x.proof.length).sum:Nat));have hlz:=vPV most x;have hkl:=vNJ x;refine zAM vBC hT vSK zsm ?_;refine sns ?_
   refine zDE hT (fun i:Nat=>[(1,.int .i64 most),(2,.ptr 0 0 0),(5,.int .i64 (1+x.lemmas.length+x.proof.length+(((x.lemmas.take i).map fun x=>x.proof.length).sum:Nat))),(6,.int .i64 i)]) (fun _=>[(0,⟨[vA7 x],9,true⟩)]) [] 1 (fun i=>i<=x.lemmas.length) (fun i=>x.lemmas.length - i) 0 zsm zdd zsm
    [0] ⟨rAI,apx,zAC rfl zsm,rAI,rGW⟩ ⟨bbx,rGW⟩ zsm ?_
   intro i hi;have hsl:=@sum_take_le _ (fun x:LemL=>x.proof.length) x.lemmas i
   refine gon ?_ ?_<;>intro h
   .have hi':i<x.lemmas.length:=by omega
    have hs1:=zD6 (f:=fun x:LemL=>x.proof.length) hi';have hs2:=@sum_take_le _ (fun x:LemL=>x.proof.length) x.lemmas (i+1);refine uB1 rAG ?_;refine sns ?_;exact⟨i+1,[0],⟨zom,zom⟩,⟨rAI,apx,zAC rfl rAG,zAC rfl zom,rGW⟩,⟨bbx,rGW⟩,rAA⟩
   .have e:x.lemmas.take i=x.lemmas:=rBO zom
    rw[e];generalize hk0:(1+(x.lemmas.length:Int)+x.proof.length+((x.lemmas.map fun x=>x.proof.length).sum:Nat))=k0 at *
    have kb:∀ i,k0<=((x.kids.take i).map (lsz most)).foldl (fun k c=>if k<=most then k+c else k) k0/\((x.kids.take i).map (lsz most)).foldl (fun k c=>if k<=most then k+c else k) k0<=k0+(x.kids.map NodeL.wt).sum:=fun i=>by
     have h1:=zJG most (x.kids.take i) (fun k _=>zKL most _ k (rAL _)) k0;have h2:=@sum_take_le _ NodeL.wt x.kids i;omega
    refine zDE hT (fun i:Nat=>[(1,.int .i64 most),(2,.ptr 0 0 0),(5,.int .i64 (((x.kids.take i).map (lsz most)).foldl (fun k c=>if k<=most then k+c else k) k0)),(7,.int .i64 i)]) (fun _=>[(0,⟨[vA7 x],9,true⟩)]) [] 1 (fun i=>i<=x.kids.length) (fun i=>x.kids.length - i) 0 zsm zdd zsm
     [0] ⟨rAI,apx,rAI,rAI,rGW⟩ ⟨bbx,rGW⟩ rAA ?_
    intro i hi;have kb0:=kb i;have kb1:=kb (i+1)
    (repeat' (first|refine stn ?_|(with_reducible refine brr ?_ ?_<;>intro h)|(with_reducible refine zAF ?_ ?_<;>intro h)|with_reducible refine zAL ?_ ?_)); all_goals try (conv=>whnf)
    .have hi':i<x.kids.length:=by omega
     have hkm:x.kids[i]! ∈ x.kids:=zAX hi';have hwk:=vOC hkm;have hlb:=zKL most _ x.kids[i]! (rAL _)
     have hst:((x.kids.take (i+1)).map (lsz most)).foldl (fun k c=>if k<=most then k+c else k) k0=((x.kids.take i).map (lsz most)).foldl (fun k c=>if k<=most then k+c else k) k0+lsz most x.kids[i]! := by
      rw[rA0 hi',rBB,rD3,rAS x.kids i hi'];simp only[rBJ,rFL,List.foldl_cons,List.foldl_nil];rw[rAV h]
     refine zAA (ih x.kids[i]! most (by have:=NodeL.sizeOf_kid hkm; omega) zom) rfl ?_;refine sns ?_;exact⟨i+1,[0],⟨zom,zom⟩,⟨rAI,apx,zAC rfl zom,zAC rfl zom,rGW⟩,⟨bbx,rGW⟩,rAA⟩
    .refine zAB rfl ?_
     rw[hlz]
     conv=>rhs; rw[<- rCP i x.kids,rBB,rD3,zME most _ _ h]
    .refine zAB rfl ?_
     rw[hlz,rBO zom]
theorem vJ6:FO 15 Tryz.f15 [.tmp 4] 28:=mkO Tryz.func15 Tryz.ntmps15 Tryz.results15
theorem vIK(q:QryL)(x:NodeL)(hs:x.wt<=2097152)(hu:q.g.units.length<=1048576)(hr:q.r.rows.length<=1048576):∃ b,(b=true->q.g.units.length<=6/\q.g.ins<=6/\q.r.rows.length<=6/\x.wt<=250)/\Fn 15 [vBI q,vA7 x] (.data (.bool b)):=by
 have hr:=vZ0 _ x 250 (rAL _) hs;by_cases hb:q.g.units.length<=6/\q.g.ins<=6/\q.r.rows.length<=6
 .refine⟨decide (lsz 250 x<=250),fun h=>⟨hb.1,hb.2.1,hb.2.2,?_⟩,?_⟩
  .have h:=rB2 h
   have:=uM9 250 _ x (rAL _) h;omega
  obtain⟨h1,h2,h3⟩:=hb;refine zAM vBC hT vJ6 (by simp[vBI]) ?_
  (repeat' (first|refine stn ?_|(with_reducible refine brr ?_ ?_<;>intro h)|(with_reducible refine zAF ?_ ?_<;>intro h)|with_reducible refine zAL ?_ ?_)); all_goals try (conv=>whnf)
  all_goals try (exfalso; omega)
  refine zAA hr rfl ?_;refine sns ?_;exact rGX
 .refine⟨false,fun h=>absurd h zdd,?_⟩
  refine zAM vBC hT vJ6 (by simp[vBI]) ?_
  (repeat' (first|refine stn ?_|(with_reducible refine brr ?_ ?_<;>intro h)|(with_reducible refine zAF ?_ ?_<;>intro h)|with_reducible refine zAL ?_ ?_)); all_goals try (conv=>whnf)
  all_goals try (exfalso; omega)
  all_goals exact rGX
end Go.PI.Tryz
