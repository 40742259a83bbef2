/-
  For every input of bulk at most 1048576, with the listed variable as the text lays it: TrimSplits returns true and leaves all that came in as it was.
-/
import Derived.Test.YtbelmkceegmdjaaGreatDoorJTL
import Derived.Test.YtbelmkceegmdjaaGreatDoorJDK
set_option linter.unusedVariables false
set_option linter.unusedSimpArgs false
set_option linter.unnecessarySimpa false
set_option maxHeartbeats 0
namespace Go.Proofs.YtbelmkceegmdjaaGreatDoor
open Go Go.PI Go.PI.Tryz
open Go.ChangeShapes Go.WideShapes Go.ChangeAt Go.RowKit
theorem vSG:FO 4 Tryz.f4 [.tmp 4] 38:=mkO Tryz.func4 Tryz.ntmps4 Tryz.results4
set_option maxRecDepth 100000 in
theorem trimSplits_contract(H:Type)(enc:TypeId×Value->H)(W:World)(args:Array Value)(ds gs:List (DataW H))(before:List MemPlace)(base:Nat)(hb:Rows.uptoBulkAll ds<=1048576)
 (hvl:∀ (j:Nat) t v,Tryz.f4.params[j]?=some t->args[j]?=some v->Value.okWide Tryz.prog W .any base t v)
 (hW:DataW.Whole enc Tryz.prog Tryz.f4.params.toList Rows.trimSplitsSpec.vars false W args.toList ds gs before) (hL:laidMetH Tryz.prog vX1 W) :
 Calls Tryz.prog 4 args W fun e W'=>∃ v,e=.returned v/\Rows.trimSplitsSpec.post enc Tryz.prog Tryz.f4 false true false false W args v W':=by
 have hW':=hW;obtain⟨p,q,hA0,hV,hpq,hfz,hnd⟩:=hW;have hA:DataW.TrodAll enc Tryz.prog W 0 (fun _=>true) true Tryz.f4.params.toList args.toList ds p:=hA0;rw[Tryz.params4]at hA hvl;obtain⟨v0,vs0,d0,ds0,p0,q0',hargs,rfl,hp0,⟨fuel0,h0⟩,r0⟩:=trodAll_cons hA;obtain⟨v1,vs1,d1,ds1,p1,q1',rfl,rfl,hp1,⟨fuel1,h1⟩,r1⟩:=trodAll_cons r0;obtain⟨rfl,rfl,rfl⟩:=trodAll_nil r1;have hargs2:args=#[v0,v1]:=by cases args; simp_all
 rw[hargs2]at hvl;simp only[zED,vCW]at hb;obtain⟨x0,g0,q0⟩:=(uL1 _) fuel0 (rAR _) _ _ _ h0;obtain⟨x1,g1,q1⟩:=(vVG _) fuel1 (rAR _) _ _ _ h1
 have hval:∀ (j:Nat) (d:PV),[vBJ x0,vA6 x1][j]?=some d->RD W (vN4 W) d (args.toList.getD j undef):=by
  intro j d hj;rw[hargs]
  match j,hj with
  | 0,hj=>cases hj; exact vJH (zGV hvl 0 (t:=48) (v:=v0) rfl rfl Tryz.underlying48) g0
  | 1,hj=>cases hj; exact vJH (zGV hvl 1 (t:=32) (v:=v1) rfl rfl Tryz.underlying32) g1
  | n+2,hj=>simp at hj
 refine vHV (G:=G0) laidOut rAB rfl Tryz.underlying4 rfl (fun gs hgs=>by subst hgs; rfl) hW' (gok hL) (pvs:=[vBJ x0,vA6 x1]) ⟨by rw[hargs]; rfl,hval⟩ ?_;obtain⟨hi,hr⟩:=uFW q0 q1 zom;exact vK0 x0 x1 _ _ hi hr
theorem zIT(os:Os):laidMet Tryz.prog Rows.trimSplitsUptoRow.laid ((vC0 os).forCall (fun _ _=>0) ⟨#[],#[.agg #[.int .i64 0,.slice none 0 0,.slice none 0 0,.slice none 0 0,.slice none 0 0,.slice none 0 0,.slice none 0 0,.bool false,.slice none 0 0,.slice none 0 0],vFE],[]⟩).memory :=
 laidMet_of_run' 8 rAB rAB
theorem zMN(os:Os){H:Type}(enc:TypeId×Value->H):∃ places,DataW.whole enc Tryz.prog ((vC0 os).forCall (fun _ _=>0) ⟨#[],#[.agg #[.int .i64 0,.slice none 0 0,.slice none 0 0,.slice none 0 0,.slice none 0 0,.slice none 0 0,.slice none 0 0,.bool false,.slice none 0 0,.slice none 0 0],vFE],[]⟩).memory Tryz.f4.params.toList Rows.trimSplitsSpec.vars false (#[.agg #[.int .i64 0,.slice none 0 0,.slice none 0 0,.slice none 0 0,.slice none 0 0,.slice none 0 0,.slice none 0 0,.bool false,.slice none 0 0,.slice none 0 0],vFE]:Array Value).toList 8=some ([.agg [.agg [.lit (.int .i64 0),.nil,.nil],.agg [.nil,.nil,.nil],.agg [.nil,.agg [.lit (.bool false),.nil,.nil]]],uJN],[],places) :=
 ⟨[],rAB⟩
set_option maxRecDepth 100000 in
theorem trimSplits_lifted(os:Os)(started:os.Started)(H:Type)(enc:TypeId×Value->H)(F:Stop.Interp) :
 ReturnsInHanded {} Tryz.checked os 4 .any ((Rows.OpenSpec.upto Rows.trimSplitsSpec).preRow enc Tryz.prog Tryz.f4 Rows.trimSplitsUptoRow.domain false Rows.trimSplitsUptoRow.laid) (((Rows.OpenSpec.upto Rows.trimSplitsSpec).at F).post enc Tryz.prog Tryz.f4 false true false false):=by
 obtain⟨places,hx⟩:=zMN os enc
 refine returnsInHanded_of_row (C:=Tryz.checked) (s:=Rows.OpenSpec.upto Rows.trimSplitsSpec) own started rAB Tryz.func4
  (witness_row_at (enc:=enc) (C:=Tryz.checked) false (vC0 os) #[.agg #[.int .i64 0,.slice none 0 0,.slice none 0 0,.slice none 0 0,.slice none 0 0,.slice none 0 0,.slice none 0 0,.bool false,.slice none 0 0,.slice none 0 0],vFE] rfl rAB rAB rAB
    (OpenSpec.preRow_of_cond 8 hx rAB (fun k hk=>by cases hk; kernel_rfl) rAB (zIT os))) ?_
 intro W base args ds gs before hval hW _ hcond _ hL _ _;have hb:Rows.uptoBulkAll (ds++gs)<=1048576:=rB3 (hcond _ rfl);have hgs:gs=[]:=by obtain⟨p,q,_,hV,_⟩:=hW; exact(trodVars_none hV).1
 rw[hgs,rBR]at hb;exact trimSplits_contract H enc W args ds gs before base hb hval hW hL
theorem zNL:Rows.TrimSplitsUptoSaid :=
 OpenClaim.holds_of_cond 4 Tryz.f4 rfl rfl rfl rfl rfl rfl rfl ⟨rfl,rfl,rfl,rfl,rfl⟩ rfl rfl rfl rfl rfl rAB Tryz.func4 rAB
  (rB3 rAB) (by unfold Func.isWrapper; first | (rw[rAV (by decide +kernel)]; kernel_rfl) | (rw[rAN (by decide +kernel)]; exact⟨rfl,rfl⟩))
  (fun os started H enc _ F=>by rw[OpenClaim.pre_eq_preRow]; exact trimSplits_lifted os started H enc F)
theorem zMO (f : FuncId) (fn : Func) (hf : Tryz.pinned.checked.prog.funcNamed "relucert/relucertlaw49.TrimSplits" = some f) (hfn : Tryz.pinned.checked.prog.funcs[f]? = some fn) :
 false=Tryz.pinned.checked.prog.looks []/\∀ (j:Nat) t,fn.params[j]?=some t->Tryz.pinned.checked.prog.wantsStandIn t=false:=by
 obtain rfl : f = 4 := rDJ ((show Tryz.prog.funcNamed "relucert/relucertlaw49.TrimSplits" = some 4 by kernel_rfl).symm.trans hf) |>.symm
 obtain rfl:fn=Tryz.f4:=(rDJ (Tryz.func4.symm.trans hfn)).symm;refine⟨by kernel_rfl,fun j t ht=>?_⟩;rw[Tryz.params4]at ht;have hall:(#[48,32]:Array TypeId).all (fun t=>!Tryz.prog.wantsStandIn t)=true:=by kernel_rfl
 have hm:=rC0 ht;rw[rEG]at hall;have hq:=hall t hm;exact(by simpa using hq:Tryz.prog.wantsStandIn t=false)
theorem trimSplits_holds:Rows.TrimSplitsUptoCardSaid :=
 Claim7.holds_tied_plain_at .later [] _ _ _ _ zNL (fun _ h=>by cases h) rAB (fun _ h=>by cases h) trimSplitsUpto_row_tie rfl ⟨rfl,rfl⟩ rAB rfl zMO rAB
end Go.Proofs.YtbelmkceegmdjaaGreatDoor
