/-
  For every input of bulk at most 1048576, with the listed variable as the text lays it: TrimUseless returns true and leaves all that came in as it was.
-/
import Derived.Test.YtbelmkceegmdjaaGreatDoorKTY
import Derived.Test.YtbelmkceegmdjaaGreatDoorKDK
set_option linter.unusedVariables false
set_option linter.unusedSimpArgs false
set_option linter.unnecessarySimpa false
set_option maxHeartbeats 0
namespace Go.Proofs.YtbelmkceegmdjaaGreatDoor
open Go Go.PI Go.PI.Tryz
open Go.ChangeShapes Go.WideShapes Go.ChangeAt Go.RowKit
theorem vO4:FO 9 Tryz.f9 [.tmp 6] 100:=mkO Tryz.func9 Tryz.ntmps9 Tryz.results9
set_option maxRecDepth 100000 in
theorem trimUseless_contract(H:Type)(enc:TypeId×Value->H)(W:World)(args:Array Value)(ds gs:List (DataW H))(before:List MemPlace)(base:Nat)(hb:Rows.uptoBulkAll ds<=1048576)
 (hvl:∀ (j:Nat) t v,Tryz.f9.params[j]?=some t->args[j]?=some v->Value.okWide Tryz.prog W .any base t v)
 (hW:DataW.Whole enc Tryz.prog Tryz.f9.params.toList Rows.trimUselessSpec.vars false W args.toList ds gs before) (hL:laidMetH Tryz.prog uJY W) :
 Calls Tryz.prog 9 args W fun e W'=>∃ v,e=.returned v/\Rows.trimUselessSpec.post enc Tryz.prog Tryz.f9 false true false false W args v W':=by
 have hW':=hW;obtain⟨p,q,hA0,hV,hpq,hfz,hnd⟩:=hW;have hA:DataW.TrodAll enc Tryz.prog W 0 (fun _=>true) true Tryz.f9.params.toList args.toList ds p:=hA0;rw[Tryz.params9]at hA hvl;obtain⟨v0,vs0,d0,ds0,p0,q0',hargs,rfl,hp0,⟨fuel0,h0⟩,r0⟩:=trodAll_cons hA;obtain⟨v1,vs1,d1,ds1,p1,q1',rfl,rfl,hp1,⟨fuel1,h1⟩,r1⟩:=trodAll_cons r0;obtain⟨v2,vs2,d2,ds2,p2,q2',rfl,rfl,hp2,⟨fuel2,h2⟩,r2⟩:=trodAll_cons r1;obtain⟨rfl,rfl,rfl⟩:=trodAll_nil r2;have hargs2:args=#[v0,v1,v2]:=by cases args; simp_all
 rw[hargs2]at hvl;simp only[zGV,vC9]at hb;obtain⟨x0,g0,q0⟩:=(uPM _) fuel0 (rAR _) _ _ _ h0;obtain⟨x1,g1,q1⟩:=(uMI _) fuel1 (rAR _) _ _ _ h1;obtain⟨x2,g2,q2⟩:=(uMM _) fuel2 (rAR _) _ _ _ h2
 have hval:∀ (j:Nat) (d:PV),[vBJ x0,vA7 x1,vA9 x2][j]?=some d->RD W (vTJ W) d (args.toList.getD j undef):=by
  intro j d hj;rw[hargs]
  match j,hj with
  | 0,hj=>cases hj; exact vVJ (zL1 hvl 0 (t:=48) (v:=v0) rfl rfl Tryz.underlying48) g0
  | 1,hj=>cases hj; exact vVJ (zL1 hvl 1 (t:=32) (v:=v1) rfl rfl Tryz.underlying32) g1
  | 2,hj=>cases hj; exact vVJ (zL1 hvl 2 (t:=28) (v:=v2) rfl rfl Tryz.underlying28) g2
  | n+3,hj=>simp at hj
 refine uDW (G:=G0) laidOut rAB rfl Tryz.underlying4 rfl (fun gs hgs=>by subst hgs; rfl) hW' (gok hL) (pvs:=[vBJ x0,vA7 x1,vA9 x2]) ⟨by rw[hargs]; rfl,hval⟩ ?_;obtain⟨hi,hr⟩:=uNJ q0 q1 zom;obtain⟨b,hb,hb2⟩:=q2;have hl:=hb.ln;unfold lnQ at hl;exact vH9 x0 x1 x2 _ _ b hi hr hl.2 (by have:=hl.1; omega) (vOQ hb zom) zom
theorem zIT(os:Os):laidMet Tryz.prog Rows.trimUselessUptoRow.laid ((vFU os).forCall (fun _ _=>0) ⟨#[],#[.agg #[.int .i64 0,.slice none 0 0,.slice none 0 0,.slice none 0 0,.slice none 0 0,.slice none 0 0,.slice none 0 0,.bool false,.slice none 0 0,.slice none 0 0],uAS,.agg #[.int .i64 0,.int .i64 0,.bool false,.slice none 0 0,.slice none 0 0]],[]⟩).memory :=
 laidMet_of_run' 8 rAB rAB
theorem zK7(os:Os){H:Type}(enc:TypeId×Value->H):∃ places,DataW.whole enc Tryz.prog ((vFU os).forCall (fun _ _=>0) ⟨#[],#[.agg #[.int .i64 0,.slice none 0 0,.slice none 0 0,.slice none 0 0,.slice none 0 0,.slice none 0 0,.slice none 0 0,.bool false,.slice none 0 0,.slice none 0 0],uAS,.agg #[.int .i64 0,.int .i64 0,.bool false,.slice none 0 0,.slice none 0 0]],[]⟩).memory Tryz.f9.params.toList Rows.trimUselessSpec.vars false (#[.agg #[.int .i64 0,.slice none 0 0,.slice none 0 0,.slice none 0 0,.slice none 0 0,.slice none 0 0,.slice none 0 0,.bool false,.slice none 0 0,.slice none 0 0],uAS,.agg #[.int .i64 0,.int .i64 0,.bool false,.slice none 0 0,.slice none 0 0]]:Array Value).toList 8=some ([.agg [.agg [.lit (.int .i64 0),.nil,.nil],.agg [.nil,.nil,.nil],.agg [.nil,.agg [.lit (.bool false),.nil,.nil]]],uP9,.agg [.lit (.int .i64 0),.lit (.int .i64 0),.agg [.lit (.bool false),.nil,.nil]]],[],places) :=
 ⟨[],rAB⟩
set_option maxRecDepth 100000 in
theorem trimUseless_lifted(os:Os)(started:os.Started)(H:Type)(enc:TypeId×Value->H)(F:Stop.Interp) :
 ReturnsInHanded {} Tryz.checked os 9 .any ((Rows.OpenSpec.upto Rows.trimUselessSpec).preRow enc Tryz.prog Tryz.f9 Rows.trimUselessUptoRow.domain false Rows.trimUselessUptoRow.laid) (((Rows.OpenSpec.upto Rows.trimUselessSpec).at F).post enc Tryz.prog Tryz.f9 false true false false):=by
 obtain⟨places,hx⟩:=zK7 os enc
 refine returnsInHanded_of_row (C:=Tryz.checked) (s:=Rows.OpenSpec.upto Rows.trimUselessSpec) own started rAB Tryz.func9
  (witness_row_at (enc:=enc) (C:=Tryz.checked) false (vFU os) #[.agg #[.int .i64 0,.slice none 0 0,.slice none 0 0,.slice none 0 0,.slice none 0 0,.slice none 0 0,.slice none 0 0,.bool false,.slice none 0 0,.slice none 0 0],uAS,.agg #[.int .i64 0,.int .i64 0,.bool false,.slice none 0 0,.slice none 0 0]] rfl rAB rAB rAB
    (OpenSpec.preRow_of_cond 8 hx rAB (fun k hk=>by cases hk; kernel_rfl) rAB (zIT os))) ?_
 intro W base args ds gs before hval hW _ hcond _ hL _ _;have hb:Rows.uptoBulkAll (ds++gs)<=1048576:=rCD (hcond _ rfl);have hgs:gs=[]:=by obtain⟨p,q,_,hV,_⟩:=hW; exact(trodVars_none hV).1
 rw[hgs,rBQ]at hb;exact trimUseless_contract H enc W args ds gs before base hb hval hW hL
theorem zMN:Rows.TrimUselessUptoSaid :=
 OpenClaim.holds_of_cond 9 Tryz.f9 rfl rfl rfl rfl rfl rfl rfl ⟨rfl,rfl,rfl,rfl,rfl⟩ rfl rfl rfl rfl rfl rAB Tryz.func9 rAB
  (rCD rAB) (by unfold Func.isWrapper; first | (rw[rAU (by decide +kernel)]; kernel_rfl) | (rw[rAM (by decide +kernel)]; exact⟨rfl,rfl⟩))
  (fun os started H enc _ F=>by rw[OpenClaim.pre_eq_preRow]; exact trimUseless_lifted os started H enc F)
theorem zK8 (f : FuncId) (fn : Func) (hf : Tryz.pinned.checked.prog.funcNamed "relucert/relucertlaw49.TrimUseless" = some f) (hfn : Tryz.pinned.checked.prog.funcs[f]? = some fn) :
 false=Tryz.pinned.checked.prog.looks []/\∀ (j:Nat) t,fn.params[j]?=some t->Tryz.pinned.checked.prog.wantsStandIn t=false:=by
 obtain rfl : f = 9 := rF0 ((show Tryz.prog.funcNamed "relucert/relucertlaw49.TrimUseless" = some 9 by kernel_rfl).symm.trans hf) |>.symm
 obtain rfl:fn=Tryz.f9:=(rF0 (Tryz.func9.symm.trans hfn)).symm;refine⟨by kernel_rfl,fun j t ht=>?_⟩;rw[Tryz.params9]at ht;have hall:(#[48,32,28]:Array TypeId).all (fun t=>!Tryz.prog.wantsStandIn t)=true:=by kernel_rfl
 have hm:=rDF ht;rw[Array.all_eq_true_iff_forall_mem]at hall;have hq:=hall t hm;exact(by simpa using hq:Tryz.prog.wantsStandIn t=false)
theorem trimUseless_holds:Rows.TrimUselessUptoCardSaid :=
 Claim7.holds_tied_plain_at .later [] _ _ _ _ zMN (fun _ h=>by cases h) rAB (fun _ h=>by cases h) trimUselessUpto_row_tie rfl ⟨rfl,rfl⟩ rAB rfl zK8 rAB
end Go.Proofs.YtbelmkceegmdjaaGreatDoor
