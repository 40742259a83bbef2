/-
  For every input of bulk at most 1048576, with the listed variable as the text lays it: TrimTrims returns true and leaves all that came in as it was.
-/
import Derived.Test.YtbelmkceegmdjaaGreatDoorJTX
import Derived.Test.YtbelmkceegmdjaaGreatDoorJDK
set_option linter.unusedVariables false
set_option linter.unusedSimpArgs false
set_option linter.unnecessarySimpa false
set_option maxHeartbeats 0
namespace Go.Proofs.YtbelmkceegmdjaaGreatDoor
open Go Go.PI Go.PI.Tryz
open Go.ChangeShapes Go.WideShapes Go.ChangeAt Go.RowKit
theorem vTK:FO 5 Tryz.f5 [.tmp 4] 56:=mkO Tryz.func5 Tryz.ntmps5 Tryz.results5
set_option maxRecDepth 100000 in
theorem trimTrims_contract(H:Type)(enc:TypeId×Value->H)(W:World)(args:Array Value)(ds gs:List (DataW H))(before:List MemPlace)(base:Nat)(hb:Rows.uptoBulkAll ds<=1048576)
 (hvl:∀ (j:Nat) t v,Tryz.f5.params[j]?=some t->args[j]?=some v->Value.okWide Tryz.prog W .any base t v)
 (hW:DataW.Whole enc Tryz.prog Tryz.f5.params.toList Rows.trimTrimsSpec.vars false W args.toList ds gs before) (hL:laidMetH Tryz.prog vX1 W) :
 Calls Tryz.prog 5 args W fun e W'=>∃ v,e=.returned v/\Rows.trimTrimsSpec.post enc Tryz.prog Tryz.f5 false true false false W args v W':=by
 have hW':=hW;obtain⟨p,q,hA0,hV,hpq,hfz,hnd⟩:=hW;have hA:DataW.TrodAll enc Tryz.prog W 0 (fun _=>true) true Tryz.f5.params.toList args.toList ds p:=hA0;rw[Tryz.params5]at hA hvl;obtain⟨v0,vs0,d0,ds0,p0,q0',hargs,rfl,hp0,⟨fuel0,h0⟩,r0⟩:=trodAll_cons hA;obtain⟨v1,vs1,d1,ds1,p1,q1',rfl,rfl,hp1,⟨fuel1,h1⟩,r1⟩:=trodAll_cons r0;obtain⟨rfl,rfl,rfl⟩:=trodAll_nil r1;have hargs2:args=#[v0,v1]:=by cases args; simp_all
 rw[hargs2]at hvl;simp only[zED,vCW]at hb;obtain⟨x0,g0,q0⟩:=(uL1 _) fuel0 (rAR _) _ _ _ h0;obtain⟨x1,g1,q1⟩:=(vVG _) fuel1 (rAR _) _ _ _ h1
 have hval:∀ (j:Nat) (d:PV),[vBJ x0,vA6 x1][j]?=some d->RD W (vN4 W) d (args.toList.getD j undef):=by
  intro j d hj;rw[hargs]
  match j,hj with
  | 0,hj=>cases hj; exact vJH (zGV hvl 0 (t:=48) (v:=v0) rfl rfl Tryz.underlying48) g0
  | 1,hj=>cases hj; exact vJH (zGV hvl 1 (t:=32) (v:=v1) rfl rfl Tryz.underlying32) g1
  | n+2,hj=>simp at hj
 refine vHV (G:=G0) laidOut rAB rfl Tryz.underlying4 rfl (fun gs hgs=>by subst hgs; rfl) hW' (gok hL) (pvs:=[vBJ x0,vA6 x1]) ⟨by rw[hargs]; rfl,hval⟩ ?_;obtain⟨hi,hr⟩:=uFW q0 q1 zom;exact vNS x0 x1 _ _ hi hr
theorem zJF(os:Os):laidMet Tryz.prog Rows.trimTrimsUptoRow.laid ((vC0 os).forCall (fun _ _=>0) ⟨#[],#[.agg #[.int .i64 0,.slice none 0 0,.slice none 0 0,.slice none 0 0,.slice none 0 0,.slice none 0 0,.slice none 0 0,.bool false,.slice none 0 0,.slice none 0 0],vFE],[]⟩).memory :=
 laidMet_of_run' 8 rAB rAB
theorem zNJ(os:Os){H:Type}(enc:TypeId×Value->H):∃ places,DataW.whole enc Tryz.prog ((vC0 os).forCall (fun _ _=>0) ⟨#[],#[.agg #[.int .i64 0,.slice none 0 0,.slice none 0 0,.slice none 0 0,.slice none 0 0,.slice none 0 0,.slice none 0 0,.bool false,.slice none 0 0,.slice none 0 0],vFE],[]⟩).memory Tryz.f5.params.toList Rows.trimTrimsSpec.vars false (#[.agg #[.int .i64 0,.slice none 0 0,.slice none 0 0,.slice none 0 0,.slice none 0 0,.slice none 0 0,.slice none 0 0,.bool false,.slice none 0 0,.slice none 0 0],vFE]:Array Value).toList 8=some ([.agg [.agg [.lit (.int .i64 0),.nil,.nil],.agg [.nil,.nil,.nil],.agg [.nil,.agg [.lit (.bool false),.nil,.nil]]],uJN],[],places) :=
 ⟨[],rAB⟩
set_option maxRecDepth 100000 in
theorem trimTrims_lifted(os:Os)(started:os.Started)(H:Type)(enc:TypeId×Value->H)(F:Stop.Interp) :
 ReturnsInHanded {} Tryz.checked os 5 .any ((Rows.OpenSpec.upto Rows.trimTrimsSpec).preRow enc Tryz.prog Tryz.f5 Rows.trimTrimsUptoRow.domain false Rows.trimTrimsUptoRow.laid) (((Rows.OpenSpec.upto Rows.trimTrimsSpec).at F).post enc Tryz.prog Tryz.f5 false true false false):=by
 obtain⟨places,hx⟩:=zNJ os enc
 refine returnsInHanded_of_row (C:=Tryz.checked) (s:=Rows.OpenSpec.upto Rows.trimTrimsSpec) own started rAB Tryz.func5
  (witness_row_at (enc:=enc) (C:=Tryz.checked) false (vC0 os) #[.agg #[.int .i64 0,.slice none 0 0,.slice none 0 0,.slice none 0 0,.slice none 0 0,.slice none 0 0,.slice none 0 0,.bool false,.slice none 0 0,.slice none 0 0],vFE] rfl rAB rAB rAB
    (OpenSpec.preRow_of_cond 8 hx rAB (fun k hk=>by cases hk; kernel_rfl) rAB (zJF os))) ?_
 intro W base args ds gs before hval hW _ hcond _ hL _ _;have hb:Rows.uptoBulkAll (ds++gs)<=1048576:=rB3 (hcond _ rfl);have hgs:gs=[]:=by obtain⟨p,q,_,hV,_⟩:=hW; exact(trodVars_none hV).1
 rw[hgs,rBR]at hb;exact trimTrims_contract H enc W args ds gs before base hb hval hW hL
theorem zPA:Rows.TrimTrimsUptoSaid :=
 OpenClaim.holds_of_cond 5 Tryz.f5 rfl rfl rfl rfl rfl rfl rfl ⟨rfl,rfl,rfl,rfl,rfl⟩ rfl rfl rfl rfl rfl rAB Tryz.func5 rAB
  (rB3 rAB) (by unfold Func.isWrapper; first | (rw[rAV (by decide +kernel)]; kernel_rfl) | (rw[rAN (by decide +kernel)]; exact⟨rfl,rfl⟩))
  (fun os started H enc _ F=>by rw[OpenClaim.pre_eq_preRow]; exact trimTrims_lifted os started H enc F)
theorem zNK (f : FuncId) (fn : Func) (hf : Tryz.pinned.checked.prog.funcNamed "relucert/relucertlaw49.TrimTrims" = some f) (hfn : Tryz.pinned.checked.prog.funcs[f]? = some fn) :
 false=Tryz.pinned.checked.prog.looks []/\∀ (j:Nat) t,fn.params[j]?=some t->Tryz.pinned.checked.prog.wantsStandIn t=false:=by
 obtain rfl : f = 5 := rDJ ((show Tryz.prog.funcNamed "relucert/relucertlaw49.TrimTrims" = some 5 by kernel_rfl).symm.trans hf) |>.symm
 obtain rfl:fn=Tryz.f5:=(rDJ (Tryz.func5.symm.trans hfn)).symm;refine⟨by kernel_rfl,fun j t ht=>?_⟩;rw[Tryz.params5]at ht;have hall:(#[48,32]:Array TypeId).all (fun t=>!Tryz.prog.wantsStandIn t)=true:=by kernel_rfl
 have hm:=rC0 ht;rw[rEG]at hall;have hq:=hall t hm;exact(by simpa using hq:Tryz.prog.wantsStandIn t=false)
theorem trimTrims_holds:Rows.TrimTrimsUptoCardSaid :=
 Claim7.holds_tied_plain_at .later [] _ _ _ _ zPA (fun _ h=>by cases h) rAB (fun _ h=>by cases h) trimTrimsUpto_row_tie rfl ⟨rfl,rfl⟩ rAB rfl zNK rAB
end Go.Proofs.YtbelmkceegmdjaaGreatDoor
