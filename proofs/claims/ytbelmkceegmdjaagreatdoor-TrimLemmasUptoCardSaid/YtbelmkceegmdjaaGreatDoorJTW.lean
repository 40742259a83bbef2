/-
  The law's own functions: how large a tree and a query are.
-/
import Derived.Test.YtbelmkceegmdjaaGreatDoorJTS
set_option linter.unusedVariables false
set_option linter.unusedSimpArgs false
set_option maxHeartbeats 0
namespace Go.PI.Tryz
open Go.Proofs Go.PI
theorem vX5{q:QryL}{n:NodeL}{Bq Bn:Nat}(h:inB q n Bq Bn)(hw:n.wt<=400)(hr:NodeRg n):inS q (Bq+n.tot spF) (n.tot vlF) (n.tot uF) n :=
 have hz:=h.z hw
 ⟨hz.q,hz.hv,hz.B,hz.z,uLP _ _ (rAL _) h.sm hr,zom⟩
theorem zPQ(k i l h:Int)(hk:0<=k/\k<=100)(hi:0<=i/\i<=100)(hl:0<=l/\l<=100)(hh:0<=h/\h<=100):vL4 ⟨k,i,l,h⟩/\vSV ⟨k,i,l,h⟩:=by
 refine⟨⟨⟨?_,?_⟩,⟨?_,?_⟩⟩,⟨?_,?_⟩⟩<;>dsimp only<;>omega
theorem vPT:NodeRg leafT:=.mk _ zdd (fun m hm=>by cases hm) ⟨zdd,fun m hm=>by rw[rBM.1 hm]; exact zPQ 1 0 0 0 zdd zdd zdd zdd⟩ zdd (fun k hk=>by cases hk)
theorem uPC:NodeRg nT:=.mk _ zdd (fun m hm=>by cases hm) ⟨zdd,fun m hm=>by cases hm⟩ zdd (fun k hk=>by
 rw[zLR]at hk;rcases rA7.1 hk with rfl | hk
 .exact vPT
 .rw[rBM.1 hk]; exact vPT)
theorem uOP:NodeRg wT:=.mk _ zdd (fun m hm=>by
 rcases rA7.1 hm with rfl | hm
 .exact⟨zdd,fun p hp=>by cases hp⟩
 .rw[rBM.1 hm]; exact⟨zdd,fun p hp=>by cases hp⟩) ⟨zdd,fun m hm=>by rw[rBM.1 hm]; exact zPQ 11 0 2 0 zdd zdd zdd zdd⟩ zdd (fun k hk=>by cases hk)
theorem uO7:szQ qT 2:=by
 have h1:szF 2 (vCM 0):=⟨zIW zdd (zE8 (z:=0) zdd),fun p hp=>by rw[rBM.1 hp]; exact sz1 1 zdd⟩;have a1:=vJ3 (sz1 1 zdd);have a2:=vJ3 (sz1 2 zdd);refine⟨zdd,⟨⟨zdd,fun f hf=>?_⟩,⟨zdd,fun f hf=>?_⟩⟩,⟨⟨zdd,fun x hx=>?_⟩,⟨zdd,fun x hx=>?_⟩,(fun f hf=>by cases hf),zdd⟩,?_⟩
 .rw[rBM.1 hf]; exact uC1 h1 zdd
 .rw[rBM.1 hf]; exact uC1 h1 zdd
 .rw[rBM.1 hx]; exact a1
 .rw[rBM.1 hx]; exact a2
 .exact zCO zdd (uC1 h1 zdd)
theorem vYW:vCV (vCY (-1) 0) leafT=leafT:=by
 rw[zEU]; rfl
theorem vXQ:vB4 nT 0 0=leafT:=by
 unfold vB4;rw[show nT.kids[0]! = leafT from rfl,vYW];rfl
theorem uBR:onN leafT 0=false:=by rw[vJQ]; rfl
theorem uLN:vCS ⟨qT,[],[]⟩ nT=leafT:=by
 have hg:vDM ⟨qT,[],[]⟩ nT 0=true:=by
  unfold vDM;rw[show nT.kids[0]! = leafT from rfl];show(!onN leafT 0 && (vBE ⟨qT,[],[]⟩ (vB4 nT 0 0)).isNone)=true
  rw[uBR,vXQ,uI8]; rfl
 rw[zDK (zOF zdd hg (fun j hj=>by omega))];show vCS ⟨qT,[],[]⟩ (vB4 nT 0 0)=_
 rw[vXQ,zJI rfl]
theorem uGL:vCJ qT nT=([],0):=by unfold vCJ; rw[rAV ⟨uC6,uO8⟩,uER]
theorem uGO:splV qT nT=(leafT,0):=by
 unfold splV;rw[uGL,rAV rfl,uLN]
theorem vXU:vBO wT=wT':=by
 unfold vBO;rw[rAV uAQ,uLF]
theorem uI9:vBF leafT=.agg [.imm [],.int .i64 0,.int .i64 0,.bool false,.imm [],.imm [],.imm [],.bool false,.imm [vBA (mE 1)]]:=by
 rw[zBM]; rfl
theorem uQP:vA6 nT=.agg [.imm [],.int .i64 1,.int .i64 0,.bool false,.imm [],.imm [],.imm [.agg [.imm [],.int .i64 0,.int .i64 0,.bool false,.imm [],.imm [],.imm [],.bool false,.imm [vBA (mE 1)]],.agg [.imm [],.int .i64 0,.int .i64 0,.bool false,.imm [],.imm [],.imm [],.bool false,.imm [vBA (mE 1)]]],.bool false,.imm []]:=by
 have e:vA6 nT=.agg [.imm [],.int .i64 1,.int .i64 0,.bool false,.imm [],.imm [],.imm [vBF leafT,vBF leafT],.bool false,.imm []]:=rfl;rw[e,uI9]
theorem uQO:vBJ qT=.agg [.int .i64 1,.imm [vBP (vCM 0)],.imm [vBP (vCM 0)],.imm [vA5 (cr 1)],.imm [vA5 (cr 2)],.imm [],.imm ((vCM 0).ts.map vIO),.bool (cr (vCM 0).c).neg,vBK (cr (vCM 0).c).num,vBK (cr (vCM 0).c).den]:=by
 have e1:=vH4 (vCM 0)
 have e3:(vCM 0).L.terms.map vCB=(vCM 0).ts.map vIO:=by
  unfold QF.L; simp only[rCO]; rfl
 rw[e1,<- e3];rfl
theorem vWZ:FO 30 Tryz.f30 [.cell 4 72] 10:=mkO Tryz.func30 Tryz.ntmps30 Tryz.results30
theorem vQS(k l:Int):Fn 30 [.int .i64 k,.int .i64 l] (.data (vBA ⟨⟨k,0,l,0⟩,cr 1⟩)):=by
 have co:=zMI 1 zdd;refine zAK vBC hT vWZ zsm ?_;refine sts ?_;refine zAA co rfl ?_;refine sts ?_;exact rGV
theorem vSM:FO 10 Tryz.f10 [.tmp 0] 73:=mkO Tryz.func10 Tryz.ntmps10 Tryz.results10
theorem zEQ:Fn 10 [] (.data (.bool true)):=by
 have c1:=zMI 1 zdd;have c2:=zMI 2 zdd;have v0:=zKY 0;have hin:inB qT nT 2 9:=⟨uO7,zdd,uPD,uPB,uPE,by rw[uMQ]; decide⟩;have t1:=zOQ qT _ _ _ nT (vX5 hin (by rw[uMQ]; decide) uPC);have t2:=zOR wT uOO uOP (by rw[uON]; decide);rw[uGO,uQP,uQO]at t1;rw[vXU]at t2;refine zAK vBC hT vSM zsm ?_;refine sts ?_;refine zAA v0 rfl ?_;refine sts ?_;refine zAA c1 rfl ?_;refine sts ?_;refine zAA c2 rfl ?_;refine sts ?_;refine zAA (vQS 1 0) rfl ?_;refine sts ?_;refine zAA t1 (zAD rfl (zAD rfl rfl)) ?_;refine sts ?_;refine zAA (vQS 11 2) rfl ?_;refine sts ?_;refine zAA t2 (zAD rfl rfl) ?_;refine sts ?_;exact rGV
theorem vSF:FO 11 Tryz.f11 [.tmp 4] 54:=mkO Tryz.func11 Tryz.ntmps11 Tryz.results11
theorem vK5:∀ (n:Nat) (x:NodeL) (most:Int),SizeOf.sizeOf x<n->x.wt<=2097152->Fn 11 [vA6 x,.int .i64 most] (.data (.int .i64 (lsz most x))):=by
 intro n
 induction n with
 | zero=>intro x y h; omega
 | succ n ih =>
   intro x most hx hs;have hw:=x.wt_eq;have hlw:=zKC x.lemmas;have hk:=zI4 most x.kids (fun k _=>zKA most _ k (rAL _)) (1+x.lemmas.length+x.proof.length+((x.lemmas.map fun x=>x.proof.length).sum:Nat));have hlz:=vPM most x;have hkl:=vNC x;refine zAK vBC hT vSF zsm ?_;refine sns ?_
   refine zC8 hT (fun i:Nat=>[(1,.int .i64 most),(2,.ptr 0 0 0),(5,.int .i64 (1+x.lemmas.length+x.proof.length+(((x.lemmas.take i).map fun x=>x.proof.length).sum:Nat))),(6,.int .i64 i)]) (fun _=>[(0,⟨[vA6 x],9,true⟩)]) [] 1 (fun i=>i<=x.lemmas.length) (fun i=>x.lemmas.length - i) 0 zsm zdd zsm
    [0] ⟨rAI,apx,zAC rfl zsm,rAI,rGU⟩ ⟨bbx,rGU⟩ zsm ?_
   intro i hi;have hsl:=@sum_take_le _ (fun x:LemL=>x.proof.length) x.lemmas i
   refine gon ?_ ?_<;>intro h
   .have hi':i<x.lemmas.length:=by omega
    have hs1:=zGW (f:=fun x:LemL=>x.proof.length) hi';have hs2:=@sum_take_le _ (fun x:LemL=>x.proof.length) x.lemmas (i+1);refine uBO rAG ?_;refine sns ?_;exact⟨i+1,[0],⟨zom,zom⟩,⟨rAI,apx,zAC rfl rAG,zAC rfl zom,rGU⟩,⟨bbx,rGU⟩,rAA⟩
   .have e:x.lemmas.take i=x.lemmas:=rBO zom
    rw[e];generalize hk0:(1+(x.lemmas.length:Int)+x.proof.length+((x.lemmas.map fun x=>x.proof.length).sum:Nat))=k0 at *
    have kb:∀ i,k0<=((x.kids.take i).map (lsz most)).foldl (fun k c=>if k<=most then k+c else k) k0/\((x.kids.take i).map (lsz most)).foldl (fun k c=>if k<=most then k+c else k) k0<=k0+(x.kids.map NodeL.wt).sum:=fun i=>by
     have h1:=zI4 most (x.kids.take i) (fun k _=>zKA most _ k (rAL _)) k0;have h2:=@sum_take_le _ NodeL.wt x.kids i;omega
    refine zC8 hT (fun i:Nat=>[(1,.int .i64 most),(2,.ptr 0 0 0),(5,.int .i64 (((x.kids.take i).map (lsz most)).foldl (fun k c=>if k<=most then k+c else k) k0)),(7,.int .i64 i)]) (fun _=>[(0,⟨[vA6 x],9,true⟩)]) [] 1 (fun i=>i<=x.kids.length) (fun i=>x.kids.length - i) 0 zsm zdd zsm
     [0] ⟨rAI,apx,rAI,rAI,rGU⟩ ⟨bbx,rGU⟩ rAA ?_
    intro i hi;have kb0:=kb i;have kb1:=kb (i+1)
    (repeat' (first|refine stn ?_|(with_reducible refine brr ?_ ?_<;>intro h)|(with_reducible refine zAT ?_ ?_<;>intro h)|with_reducible refine zBC ?_ ?_)); all_goals try (conv=>whnf)
    .have hi':i<x.kids.length:=by omega
     have hkm:x.kids[i]! ∈ x.kids:=zAY hi';have hwk:=vN6 hkm;have hlb:=zKA most _ x.kids[i]! (rAL _)
     have hst:((x.kids.take (i+1)).map (lsz most)).foldl (fun k c=>if k<=most then k+c else k) k0=((x.kids.take i).map (lsz most)).foldl (fun k c=>if k<=most then k+c else k) k0+lsz most x.kids[i]! := by
      rw[rA2 hi',rBD,rEM,rAT x.kids i hi'];simp only[rBN,rFH,List.foldl_cons,List.foldl_nil];rw[rAV h]
     refine zAA (ih x.kids[i]! most (by have:=NodeL.sizeOf_kid hkm; omega) zom) rfl ?_;refine sns ?_;exact⟨i+1,[0],⟨zom,zom⟩,⟨rAI,apx,zAC rfl zom,zAC rfl zom,rGU⟩,⟨bbx,rGU⟩,rAA⟩
    .refine zAB rfl ?_
     rw[hlz]
     conv=>rhs; rw[<- rC8 i x.kids,rBD,rEM,zLV most _ _ h]
    .refine zAB rfl ?_
     rw[hlz,rBO zom]
theorem vJZ:FO 15 Tryz.f15 [.tmp 4] 28:=mkO Tryz.func15 Tryz.ntmps15 Tryz.results15
theorem vQV(q:QryL)(x:NodeL)(hs:x.wt<=2097152)(hu:q.g.units.length<=1048576)(hr:q.r.rows.length<=1048576):∃ b,(b=true->q.g.units.length<=6/\q.g.ins<=6/\q.r.rows.length<=6/\x.wt<=250)/\Fn 15 [vBJ q,vA6 x] (.data (.bool b)):=by
 have hr:=vK5 _ x 250 (rAL _) hs;by_cases hb:q.g.units.length<=6/\q.g.ins<=6/\q.r.rows.length<=6
 .refine⟨decide (lsz 250 x<=250),fun h=>⟨hb.1,hb.2.1,hb.2.2,?_⟩,?_⟩
  .have h:=rB3 h
   have:=uMV 250 _ x (rAL _) h;omega
  obtain⟨h1,h2,h3⟩:=hb;refine zAK vBC hT vJZ (by simp[vBJ]) ?_
  (repeat' (first|refine stn ?_|(with_reducible refine brr ?_ ?_<;>intro h)|(with_reducible refine zAT ?_ ?_<;>intro h)|with_reducible refine zBC ?_ ?_)); all_goals try (conv=>whnf)
  all_goals try (exfalso; omega)
  refine zAA hr rfl ?_;refine sns ?_;exact rGV
 .refine⟨false,fun h=>absurd h zdd,?_⟩
  refine zAK vBC hT vJZ (by simp[vBJ]) ?_
  (repeat' (first|refine stn ?_|(with_reducible refine brr ?_ ?_<;>intro h)|(with_reducible refine zAT ?_ ?_<;>intro h)|with_reducible refine zBC ?_ ?_)); all_goals try (conv=>whnf)
  all_goals try (exfalso; omega)
  all_goals exact rGV
end Go.PI.Tryz
