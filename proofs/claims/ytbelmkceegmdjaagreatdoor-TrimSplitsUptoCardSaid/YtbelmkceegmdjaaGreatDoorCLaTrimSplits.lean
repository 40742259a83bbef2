/-
  For every input of bulk at most 1048576, with the listed variable as the text lays it: TrimSplits returns true and leaves all that came in as it was.
-/
import Derived.Test.YtbelmkceegmdjaaGreatDoorCTL
import Derived.Test.YtbelmkceegmdjaaGreatDoorCDK
set_option linter.unusedVariables false
set_option linter.unusedSimpArgs false
set_option linter.unnecessarySimpa false
set_option maxHeartbeats 0
namespace Go.Proofs.YtbelmkceegmdjaaGreatDoor
open Go Go.PI Go.PI.Tryz
open Go.ChangeShapes Go.WideShapes Go.ChangeAt Go.RowKit
theorem vQR:FO 4 Tryz.f4 [.tmp 4] 38:=mkO Tryz.func4 Tryz.ntmps4 Tryz.results4
set_option maxRecDepth 100000 in
theorem trimSplits_contract(H:Type)(enc:TypeId×Value→H)(W:World)(args:Array Value)(ds gs:List (DataW H))(before:List MemPlace)(base:Nat)(hb:Rows.uptoBulkAll ds≤1048576)
 (hvl:∀ (j:Nat) t v,Tryz.f4.params[j]?=some t→args[j]?=some v→Value.okWide Tryz.prog W .any base t v)
 (hW:DataW.Whole enc Tryz.prog Tryz.f4.params.toList Rows.trimSplitsSpec.vars false W args.toList ds gs before) (hL:laidMetH Tryz.prog uGV W) :
 Calls Tryz.prog 4 args W fun e W'=>∃ v,e=.returned v∧Rows.trimSplitsSpec.post enc Tryz.prog Tryz.f4 false true false false W args v W':=by
 have hW':=hW;obtain⟨p,q,hA0,hV,hpq,hfz,hnd⟩:=hW;have hA:DataW.TrodAll enc Tryz.prog W 0 (fun _=>true) true Tryz.f4.params.toList args.toList ds p:=hA0;rw[Tryz.params4]at hA hvl;obtain⟨v0,vs0,d0,ds0,p0,q0',hargs,rfl,hp0,⟨fuel0,h0⟩,r0⟩:=trodAll_cons hA;obtain⟨v1,vs1,d1,ds1,p1,q1',rfl,rfl,hp1,⟨fuel1,h1⟩,r1⟩:=trodAll_cons r0;obtain⟨rfl,rfl,rfl⟩:=trodAll_nil r1;have hargs2:args=#[v0,v1]:=by cases args; simp_all
 rw[hargs2]at hvl;simp only[zGK,vCU]at hb;obtain⟨x0,g0,q0⟩:=(uMC _) fuel0 (Nat.le_refl _) _ _ _ h0;obtain⟨x1,g1,q1⟩:=(uJD _) fuel1 (Nat.le_refl _) _ _ _ h1
 have hval:∀ (j:Nat) (d:PV),[vBK x0,vA7 x1][j]?=some d→RD W (vRR W) d (args.toList.getD j undef):=by
  intro j d hj;rw[hargs]
  match j,hj with
  | 0,hj=>cases hj; exact uCW (zO9 hvl 0 (t:=48) (v:=v0) rfl rfl Tryz.underlying48) g0
  | 1,hj=>cases hj; exact uCW (zO9 hvl 1 (t:=32) (v:=v1) rfl rfl Tryz.underlying32) g1
  | n+2,hj=>simp at hj
 refine uA7 (G:=G0) laidOut (by kernel_rfl) rfl Tryz.underlying4 rfl (fun gs hgs=>by subst hgs; rfl) hW' (gok hL) (pvs:=[vBK x0,vA7 x1]) ⟨by rw[hargs]; rfl,hval⟩ ?_;obtain⟨hi,hr⟩:=uKB q0 q1 zom;exact vJ3 x0 x1 _ _ hi hr
theorem zIM(os:Os):laidMet Tryz.prog Rows.trimSplitsUptoRow.laid ((vFI os).forCall (fun _ _=>0) ⟨#[],#[.agg #[.int .i64 0,.slice none 0 0,.slice none 0 0,.slice none 0 0,.slice none 0 0,.slice none 0 0,.slice none 0 0,.bool false,.slice none 0 0,.slice none 0 0],vYB],[]⟩).memory :=
 laidMet_of_run' 8 (by kernel_rfl) (by kernel_rfl)
theorem zLZ(os:Os){H:Type}(enc:TypeId×Value→H):∃ places,DataW.whole enc Tryz.prog ((vFI os).forCall (fun _ _=>0) ⟨#[],#[.agg #[.int .i64 0,.slice none 0 0,.slice none 0 0,.slice none 0 0,.slice none 0 0,.slice none 0 0,.slice none 0 0,.bool false,.slice none 0 0,.slice none 0 0],vYB],[]⟩).memory Tryz.f4.params.toList Rows.trimSplitsSpec.vars false (#[.agg #[.int .i64 0,.slice none 0 0,.slice none 0 0,.slice none 0 0,.slice none 0 0,.slice none 0 0,.slice none 0 0,.bool false,.slice none 0 0,.slice none 0 0],vYB]:Array Value).toList 8=some ([.agg [.agg [.lit (.int .i64 0),.nil,.nil],.agg [.nil,.nil,.nil],.agg [.nil,.agg [.lit (.bool false),.nil,.nil]]],uM0],[],places) :=
 ⟨[],by kernel_rfl⟩
set_option maxRecDepth 100000 in
theorem trimSplits_lifted(os:Os)(started:os.Started)(H:Type)(enc:TypeId×Value→H)(F:Stop.Interp) :
 ReturnsInHanded {} Tryz.checked os 4 .any ((Rows.OpenSpec.upto Rows.trimSplitsSpec).preRow enc Tryz.prog Tryz.f4 Rows.trimSplitsUptoRow.domain false Rows.trimSplitsUptoRow.laid) (((Rows.OpenSpec.upto Rows.trimSplitsSpec).at F).post enc Tryz.prog Tryz.f4 false true false false):=by
 obtain⟨places,hx⟩:=zLZ os enc
 refine returnsInHanded_of_row (C:=Tryz.checked) (s:=Rows.OpenSpec.upto Rows.trimSplitsSpec) own started (by kernel_rfl) Tryz.func4
  (witness_row_at (enc:=enc) (C:=Tryz.checked) false (vFI os) #[.agg #[.int .i64 0,.slice none 0 0,.slice none 0 0,.slice none 0 0,.slice none 0 0,.slice none 0 0,.slice none 0 0,.bool false,.slice none 0 0,.slice none 0 0],vYB] rfl (by kernel_rfl) (by kernel_rfl) (by kernel_rfl)
    (OpenSpec.preRow_of_cond 8 hx (by kernel_rfl) (fun k hk=>by cases hk; kernel_rfl) (by kernel_rfl) (zIM os))) ?_
 intro W base args ds gs before hval hW _ hcond _ hL _ _;have hb:Rows.uptoBulkAll (ds++gs)≤1048576:=of_decide_eq_true (hcond _ rfl);have hgs:gs=[]:=by obtain⟨p,q,_,hV,_⟩:=hW; exact(trodVars_none hV).1
 rw[hgs,List.append_nil]at hb;exact trimSplits_contract H enc W args ds gs before base hb hval hW hL
theorem zMP:Rows.TrimSplitsUptoSaid :=
 OpenClaim.holds_of_cond 4 Tryz.f4 rfl rfl rfl rfl rfl rfl rfl ⟨rfl,rfl,rfl,rfl,rfl⟩ rfl rfl rfl rfl rfl (by kernel_rfl) Tryz.func4 (by kernel_rfl)
  (of_decide_eq_true (by kernel_rfl)) (by unfold Func.isWrapper; first | (rw[if_pos (by decide +kernel)]; kernel_rfl) | (rw[if_neg (by decide +kernel)]; exact⟨rfl,rfl⟩))
  (fun os started H enc _ F=>by rw[OpenClaim.pre_eq_preRow]; exact trimSplits_lifted os started H enc F)
theorem zL0 (f : FuncId) (fn : Func) (hf : Tryz.pinned.checked.prog.funcNamed "relucert/relucertlaw49.TrimSplits" = some f) (hfn : Tryz.pinned.checked.prog.funcs[f]? = some fn) :
 false=Tryz.pinned.checked.prog.looks []∧∀ (j:Nat) t,fn.params[j]?=some t→Tryz.pinned.checked.prog.wantsStandIn t=false:=by
 obtain rfl : f = 4 := Option.some.inj ((show Tryz.prog.funcNamed "relucert/relucertlaw49.TrimSplits" = some 4 by kernel_rfl).symm.trans hf) |>.symm
 obtain rfl:fn=Tryz.f4:=(Option.some.inj (Tryz.func4.symm.trans hfn)).symm;refine⟨by kernel_rfl,fun j t ht=>?_⟩;rw[Tryz.params4]at ht;have hall:(#[48,32]:Array TypeId).all (fun t=>!Tryz.prog.wantsStandIn t)=true:=by kernel_rfl
 have hm:=Array.mem_of_getElem? ht;rw[Array.all_eq_true_iff_forall_mem]at hall;have hq:=hall t hm;exact(by simpa using hq:Tryz.prog.wantsStandIn t=false)
theorem trimSplits_holds:Rows.TrimSplitsUptoCardSaid :=
 Claim7.holds_tied_plain_at .later [] _ _ _ _ zMP (fun _ h=>by cases h) (by kernel_rfl) (fun _ h=>by cases h) trimSplitsUpto_row_tie rfl ⟨rfl,rfl⟩ (by kernel_rfl) rfl zL0 (by kernel_rfl)
end Go.Proofs.YtbelmkceegmdjaaGreatDoor
