/-
  For every input of bulk at most 1048576, with the listed variable as the text lays it: TrimLemmas returns true and leaves all that came in as it was.
-/
import Derived.Test.YtbelmkceegmdjaaGreatDoorJTL
import Derived.Test.YtbelmkceegmdjaaGreatDoorJDK
set_option linter.unusedVariables false
set_option linter.unusedSimpArgs false
set_option linter.unnecessarySimpa false
set_option maxHeartbeats 0
namespace Go.Proofs.YtbelmkceegmdjaaGreatDoor
open Go Go.PI Go.PI.Tryz
open Go.ChangeShapes Go.WideShapes Go.ChangeAt Go.RowKit
theorem vSH:FO 3 Tryz.f3 [.tmp 2] 16:=mkO Tryz.func3 Tryz.ntmps3 Tryz.results3
set_option maxRecDepth 100000 in
theorem trimLemmas_contract(H:Type)(enc:TypeId×Value->H)(W:World)(args:Array Value)(ds gs:List (DataW H))(before:List MemPlace)(base:Nat)(hb:Rows.uptoBulkAll ds<=1048576)
 (hvl:∀ (j:Nat) t v,Tryz.f3.params[j]?=some t->args[j]?=some v->Value.okWide Tryz.prog W .any base t v)
 (hW:DataW.Whole enc Tryz.prog Tryz.f3.params.toList Rows.trimLemmasSpec.vars false W args.toList ds gs before) (hL:laidMetH Tryz.prog vX1 W) :
 Calls Tryz.prog 3 args W fun e W'=>∃ v,e=.returned v/\Rows.trimLemmasSpec.post enc Tryz.prog Tryz.f3 false true false false W args v W':=by
 have hW':=hW;obtain⟨p,q,hA0,hV,hpq,hfz,hnd⟩:=hW;have hA:DataW.TrodAll enc Tryz.prog W 0 (fun _=>true) true Tryz.f3.params.toList args.toList ds p:=hA0;rw[Tryz.params3]at hA hvl;obtain⟨v0,vs0,d0,ds0,p0,q0',hargs,rfl,hp0,⟨fuel0,h0⟩,r0⟩:=trodAll_cons hA;obtain⟨rfl,rfl,rfl⟩:=trodAll_nil r0;have hargs2:args=#[v0]:=by cases args; simp_all
 rw[hargs2]at hvl;simp only[zED,vCW]at hb;obtain⟨x0,g0,q0⟩:=(vVG _) fuel0 (rAR _) _ _ _ h0
 have hval:∀ (j:Nat) (d:PV),[vA6 x0][j]?=some d->RD W (vN4 W) d (args.toList.getD j undef):=by
  intro j d hj;rw[hargs]
  match j,hj with
  | 0,hj=>cases hj; exact vJH (zGV hvl 0 (t:=32) (v:=v0) rfl rfl Tryz.underlying32) g0
  | n+1,hj=>simp at hj
 refine vHV (G:=G0) laidOut rAB rfl Tryz.underlying4 rfl (fun gs hgs=>by subst hgs; rfl) hW' (gok hL) (pvs:=[vA6 x0]) ⟨by rw[hargs]; rfl,hval⟩ ?_;exact vK1 x0 (q0.2.2 zom).1 (q0.2.2 zom).2 (by have:=q0.1.1; omega)
theorem zIU(os:Os):laidMet Tryz.prog Rows.trimLemmasUptoRow.laid ((vC0 os).forCall (fun _ _=>0) ⟨#[],#[vFE],[]⟩).memory :=
 laidMet_of_run' 8 rAB rAB
theorem zMP(os:Os){H:Type}(enc:TypeId×Value->H):∃ places,DataW.whole enc Tryz.prog ((vC0 os).forCall (fun _ _=>0) ⟨#[],#[vFE],[]⟩).memory Tryz.f3.params.toList Rows.trimLemmasSpec.vars false (#[vFE]:Array Value).toList 8=some ([uJN],[],places) :=
 ⟨[],rAB⟩
set_option maxRecDepth 100000 in
theorem trimLemmas_lifted(os:Os)(started:os.Started)(H:Type)(enc:TypeId×Value->H)(F:Stop.Interp) :
 ReturnsInHanded {} Tryz.checked os 3 .any ((Rows.OpenSpec.upto Rows.trimLemmasSpec).preRow enc Tryz.prog Tryz.f3 Rows.trimLemmasUptoRow.domain false Rows.trimLemmasUptoRow.laid) (((Rows.OpenSpec.upto Rows.trimLemmasSpec).at F).post enc Tryz.prog Tryz.f3 false true false false):=by
 obtain⟨places,hx⟩:=zMP os enc
 refine returnsInHanded_of_row (C:=Tryz.checked) (s:=Rows.OpenSpec.upto Rows.trimLemmasSpec) own started rAB Tryz.func3
  (witness_row_at (enc:=enc) (C:=Tryz.checked) false (vC0 os) #[vFE] rfl rAB rAB rAB
    (OpenSpec.preRow_of_cond 8 hx rAB (fun k hk=>by cases hk; kernel_rfl) rAB (zIU os))) ?_
 intro W base args ds gs before hval hW _ hcond _ hL _ _;have hb:Rows.uptoBulkAll (ds++gs)<=1048576:=rB3 (hcond _ rfl);have hgs:gs=[]:=by obtain⟨p,q,_,hV,_⟩:=hW; exact(trodVars_none hV).1
 rw[hgs,rBR]at hb;exact trimLemmas_contract H enc W args ds gs before base hb hval hW hL
theorem zNM:Rows.TrimLemmasUptoSaid :=
 OpenClaim.holds_of_cond 3 Tryz.f3 rfl rfl rfl rfl rfl rfl rfl ⟨rfl,rfl,rfl,rfl,rfl⟩ rfl rfl rfl rfl rfl rAB Tryz.func3 rAB
  (rB3 rAB) (by unfold Func.isWrapper; first | (rw[rAV (by decide +kernel)]; kernel_rfl) | (rw[rAN (by decide +kernel)]; exact⟨rfl,rfl⟩))
  (fun os started H enc _ F=>by rw[OpenClaim.pre_eq_preRow]; exact trimLemmas_lifted os started H enc F)
theorem zMQ (f : FuncId) (fn : Func) (hf : Tryz.pinned.checked.prog.funcNamed "relucert/relucertlaw49.TrimLemmas" = some f) (hfn : Tryz.pinned.checked.prog.funcs[f]? = some fn) :
 false=Tryz.pinned.checked.prog.looks []/\∀ (j:Nat) t,fn.params[j]?=some t->Tryz.pinned.checked.prog.wantsStandIn t=false:=by
 obtain rfl : f = 3 := rDJ ((show Tryz.prog.funcNamed "relucert/relucertlaw49.TrimLemmas" = some 3 by kernel_rfl).symm.trans hf) |>.symm
 obtain rfl:fn=Tryz.f3:=(rDJ (Tryz.func3.symm.trans hfn)).symm;refine⟨by kernel_rfl,fun j t ht=>?_⟩;rw[Tryz.params3]at ht;have hall:(#[32]:Array TypeId).all (fun t=>!Tryz.prog.wantsStandIn t)=true:=by kernel_rfl
 have hm:=rC0 ht;rw[rEG]at hall;have hq:=hall t hm;exact(by simpa using hq:Tryz.prog.wantsStandIn t=false)
theorem trimLemmas_holds:Rows.TrimLemmasUptoCardSaid :=
 Claim7.holds_tied_plain_at .later [] _ _ _ _ zNM (fun _ h=>by cases h) rAB (fun _ h=>by cases h) trimLemmasUpto_row_tie rfl ⟨rfl,rfl⟩ rAB rfl zMQ rAB
end Go.Proofs.YtbelmkceegmdjaaGreatDoor
