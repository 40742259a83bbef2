/-
  For every input of bulk at most 1048576, with the listed variable as the text lays it: TrimAccepted returns true and leaves all that came in as it was.
-/
import Derived.Test.YtbelmkceegmdjaaGreatDoorCTX
import Derived.Test.YtbelmkceegmdjaaGreatDoorCDK
set_option linter.unusedVariables false
set_option linter.unusedSimpArgs false
set_option linter.unnecessarySimpa false
set_option maxHeartbeats 0
namespace Go.PI.Tryz
open Go.Proofs Go.PI
theorem zF7:FO 6 Tryz.f6 [.tmp 4] 96:=mkO Tryz.func6 Tryz.ntmps6 Tryz.results6
theorem zPO(q:QryL)(n:NodeL)(Bq Bn:Nat)(hi:inB q n Bq Bn)(hr:NodeRg n):Fn 6 [vBI q,vA7 n] (.data (.bool true)):=by
 have hwb:=hi.wt;have hBB:=hi.B;obtain⟨b,hb,cf⟩:=vIK q n zom hi.q.g.1.1 hi.q.r.2.2.2;cases b with
 | true =>
   obtain⟨f1,f2,f3,f4⟩:=hb rfl;have hS:=vP6 hi zom hr;have hq:=hS.q;have hv:=hS.hv;have hB:=hS.B;have ct:=zH3 q n _ _ _ hS.hv hS.q hS.sm.1 hS.z hB zom;have c1:=vIF q _ _ _ n hS;unfold vLU at c1;by_cases h0:(vCK q n).2=0
   .have hA:=hS.acc h0
    have cl:=zO3 n hS.sm.1 hS.sm.2 (by have:=hS.wt; omega);have cs:=zO2 q _ _ _ n hS;rw[hA.splV]at cs;rw[rAV h0]at c1;rw[h0]at ct;have A1:=zML hA;have A2:=uAK hA;have A3:=(zGI _ n (rAL _) hA).1;have S1:=A1.inS hq hv hB;have S2:=A2.inS hq hv hB;have S3:=A3.inS hq hv hB;have t1:=zH3 q (vBN n) _ _ _ hv hq S1.sm.1 S1.z hB zom;have t2:=zH3 q (vCH ⟨q,[],[]⟩ n) _ _ _ hv hq S2.sm.1 S2.z hB zom;have t3:=zH3 q (vCM q n) _ _ _ hv hq S3.sm.1 S3.z hB zom;rw[A1.tree]at t1;rw[A2.tree]at t2;rw[A3.tree]at t3;generalize vBN n=a at *
    generalize vCH ⟨q,[],[]⟩ n=b at *
    generalize vCM q n=c at *
    refine zAM vBC hT zF7 (by simp[vBI]) ?_
    (repeat' (first|refine stn ?_|(with_reducible refine brr ?_ ?_<;>intro h)|(with_reducible refine zAF ?_ ?_<;>intro h)|with_reducible refine zAL ?_ ?_)); all_goals try (conv=>whnf)
    refine zAA zC0 rfl ?_
    (repeat' (first|refine stn ?_|(with_reducible refine brr ?_ ?_<;>intro h)|(with_reducible refine zAF ?_ ?_<;>intro h)|with_reducible refine zAL ?_ ?_)); all_goals try (conv=>whnf)
    refine zAA cf rfl ?_
    (repeat' (first|refine stn ?_|(with_reducible refine brr ?_ ?_<;>intro h)|(with_reducible refine zAF ?_ ?_<;>intro h)|with_reducible refine zAL ?_ ?_)); all_goals try (conv=>whnf)
    refine zAA ct rfl ?_
    (repeat' (first|refine stn ?_|(with_reducible refine brr ?_ ?_<;>intro h)|(with_reducible refine zAF ?_ ?_<;>intro h)|with_reducible refine zAL ?_ ?_)); all_goals try (conv=>whnf)
    refine zAA cl rfl ?_
    (repeat' (first|refine stn ?_|(with_reducible refine brr ?_ ?_<;>intro h)|(with_reducible refine zAF ?_ ?_<;>intro h)|with_reducible refine zAL ?_ ?_)); all_goals try (conv=>whnf)
    refine zAA cs rfl ?_
    (repeat' (first|refine stn ?_|(with_reducible refine brr ?_ ?_<;>intro h)|(with_reducible refine zAF ?_ ?_<;>intro h)|with_reducible refine zAL ?_ ?_)); all_goals try (conv=>whnf)
    refine zAA c1 rfl ?_
    (repeat' (first|refine stn ?_|(with_reducible refine brr ?_ ?_<;>intro h)|(with_reducible refine zAF ?_ ?_<;>intro h)|with_reducible refine zAL ?_ ?_)); all_goals try (conv=>whnf)
    refine zAA t1 rfl ?_
    (repeat' (first|refine stn ?_|(with_reducible refine brr ?_ ?_<;>intro h)|(with_reducible refine zAF ?_ ?_<;>intro h)|with_reducible refine zAL ?_ ?_)); all_goals try (conv=>whnf)
    refine zAA t2 rfl ?_
    (repeat' (first|refine stn ?_|(with_reducible refine brr ?_ ?_<;>intro h)|(with_reducible refine zAF ?_ ?_<;>intro h)|with_reducible refine zAL ?_ ?_)); all_goals try (conv=>whnf)
    refine zAA t3 rfl ?_
    (repeat' (first|refine stn ?_|(with_reducible refine brr ?_ ?_<;>intro h)|(with_reducible refine zAF ?_ ?_<;>intro h)|with_reducible refine zAL ?_ ?_)); all_goals try (conv=>whnf)
    exact rGX
   .rw[rAN h0]at c1
    generalize (vCK q n).2=e at *
    refine zAM vBC hT zF7 (by simp[vBI]) ?_
    (repeat' (first|refine stn ?_|(with_reducible refine brr ?_ ?_<;>intro h)|(with_reducible refine zAF ?_ ?_<;>intro h)|with_reducible refine zAL ?_ ?_)); all_goals try (conv=>whnf)
    refine zAA zC0 rfl ?_
    (repeat' (first|refine stn ?_|(with_reducible refine brr ?_ ?_<;>intro h)|(with_reducible refine zAF ?_ ?_<;>intro h)|with_reducible refine zAL ?_ ?_)); all_goals try (conv=>whnf)
    refine zAA cf rfl ?_
    (repeat' (first|refine stn ?_|(with_reducible refine brr ?_ ?_<;>intro h)|(with_reducible refine zAF ?_ ?_<;>intro h)|with_reducible refine zAL ?_ ?_)); all_goals try (conv=>whnf)
    refine zAA ct rfl ?_
    (repeat' (first|refine stn ?_|(with_reducible refine brr ?_ ?_<;>intro h)|(with_reducible refine zAF ?_ ?_<;>intro h)|with_reducible refine zAL ?_ ?_)); all_goals try (conv=>whnf)
    all_goals try (exfalso; omega)
    refine zAA c1 rfl ?_
    (repeat' (first|refine stn ?_|(with_reducible refine brr ?_ ?_<;>intro h)|(with_reducible refine zAF ?_ ?_<;>intro h)|with_reducible refine zAL ?_ ?_)); all_goals try (conv=>whnf)
    exact zAB rfl zsm
 | false =>
   refine zAM vBC hT zF7 (by simp[vBI]) ?_
   (repeat' (first|refine stn ?_|(with_reducible refine brr ?_ ?_<;>intro h)|(with_reducible refine zAF ?_ ?_<;>intro h)|with_reducible refine zAL ?_ ?_)); all_goals try (conv=>whnf)
   refine zAA zC0 rfl ?_
   (repeat' (first|refine stn ?_|(with_reducible refine brr ?_ ?_<;>intro h)|(with_reducible refine zAF ?_ ?_<;>intro h)|with_reducible refine zAL ?_ ?_)); all_goals try (conv=>whnf)
   refine zAA cf rfl ?_
   (repeat' (first|refine stn ?_|(with_reducible refine brr ?_ ?_<;>intro h)|(with_reducible refine zAF ?_ ?_<;>intro h)|with_reducible refine zAL ?_ ?_)); all_goals try (conv=>whnf)
   refine zAA zC0 rfl ?_
   (repeat' (first|refine stn ?_|(with_reducible refine brr ?_ ?_<;>intro h)|(with_reducible refine zAF ?_ ?_<;>intro h)|with_reducible refine zAL ?_ ?_)); all_goals try (conv=>whnf)
   exact rGX
end Go.PI.Tryz
namespace Go.Proofs.YtbelmkceegmdjaaGreatDoor
open Go Go.PI Go.PI.Tryz
open Go.ChangeShapes Go.WideShapes Go.ChangeAt Go.RowKit
theorem vM6:FO 6 Tryz.f6 [.tmp 4] 96:=mkO Tryz.func6 Tryz.ntmps6 Tryz.results6
set_option maxRecDepth 100000 in
theorem trimAccepted_contract(H:Type)(enc:TypeId×Value->H)(W:World)(args:Array Value)(ds gs:List (DataW H))(before:List MemPlace)(base:Nat)(hb:Rows.uptoBulkAll ds<=1048576)
 (hvl:∀ (j:Nat) t v,Tryz.f6.params[j]?=some t->args[j]?=some v->Value.okWide Tryz.prog W .any base t v)
 (hW:DataW.Whole enc Tryz.prog Tryz.f6.params.toList Rows.trimAcceptedSpec.vars false W args.toList ds gs before) (hL:laidMetH Tryz.prog vYC W) :
 Calls Tryz.prog 6 args W fun e W'=>∃ v,e=.returned v/\Rows.trimAcceptedSpec.post enc Tryz.prog Tryz.f6 false true false false W args v W':=by
 have hW':=hW;obtain⟨p,q,hA0,hV,hpq,hfz,hnd⟩:=hW;have hA:DataW.TrodAll enc Tryz.prog W 0 (fun _=>true) true Tryz.f6.params.toList args.toList ds p:=hA0;rw[Tryz.params6]at hA hvl;obtain⟨v0,vs0,d0,ds0,p0,q0',hargs,rfl,hp0,⟨fuel0,h0⟩,r0⟩:=trodAll_cons hA;obtain⟨v1,vs1,d1,ds1,p1,q1',rfl,rfl,hp1,⟨fuel1,h1⟩,r1⟩:=trodAll_cons r0;obtain⟨rfl,rfl,rfl⟩:=trodAll_nil r1;have hargs2:args=#[v0,v1]:=by cases args; simp_all
 rw[hargs2]at hvl;simp only[zEF,vC1]at hb;obtain⟨x0,g0,q0⟩:=(uHW _) fuel0 (rAO _) _ _ _ h0;obtain⟨x1,g1,q1⟩:=(vVO _) fuel1 (rAO _) _ _ _ h1
 have hval:∀ (j:Nat) (d:PV),[vBI x0,vA7 x1][j]?=some d->RD W (vOB W) d (args.toList.getD j undef):=by
  intro j d hj;rw[hargs]
  match j,hj with
  | 0,hj=>cases hj; exact zP8 (zFC hvl 0 (t:=48) (v:=v0) rfl rfl Tryz.underlying48) g0
  | 1,hj=>cases hj; exact zP8 (zFC hvl 1 (t:=32) (v:=v1) rfl rfl Tryz.underlying32) g1
  | n+2,hj=>simp at hj
 refine vHZ (G:=G0) laidOut rAB rfl Tryz.underlying4 rfl (fun gs hgs=>by subst hgs; rfl) hW' (gok hL) (pvs:=[vBI x0,vA7 x1]) ⟨by rw[hargs]; rfl,hval⟩ ?_;obtain⟨hi,hr⟩:=vYH q0 q1 zom;exact zPO x0 x1 _ _ hi hr
theorem zHG(os:Os):laidMet Tryz.prog Rows.trimAcceptedUptoRow.laid ((vC4 os).forCall (fun _ _=>0) ⟨#[],#[.agg #[.int .i64 0,.slice none 0 0,.slice none 0 0,.slice none 0 0,.slice none 0 0,.slice none 0 0,.slice none 0 0,.bool false,.slice none 0 0,.slice none 0 0],vFG],[]⟩).memory :=
 laidMet_of_run' 8 rAB rAB
theorem zJQ(os:Os){H:Type}(enc:TypeId×Value->H):∃ places,DataW.whole enc Tryz.prog ((vC4 os).forCall (fun _ _=>0) ⟨#[],#[.agg #[.int .i64 0,.slice none 0 0,.slice none 0 0,.slice none 0 0,.slice none 0 0,.slice none 0 0,.slice none 0 0,.bool false,.slice none 0 0,.slice none 0 0],vFG],[]⟩).memory Tryz.f6.params.toList Rows.trimAcceptedSpec.vars false (#[.agg #[.int .i64 0,.slice none 0 0,.slice none 0 0,.slice none 0 0,.slice none 0 0,.slice none 0 0,.slice none 0 0,.bool false,.slice none 0 0,.slice none 0 0],vFG]:Array Value).toList 8=some ([.agg [.agg [.lit (.int .i64 0),.nil,.nil],.agg [.nil,.nil,.nil],.agg [.nil,.agg [.lit (.bool false),.nil,.nil]]],uJ4],[],places) :=
 ⟨[],rAB⟩
set_option maxRecDepth 100000 in
theorem trimAccepted_lifted(os:Os)(started:os.Started)(H:Type)(enc:TypeId×Value->H)(F:Stop.Interp) :
 ReturnsInHanded {} Tryz.checked os 6 .any ((Rows.OpenSpec.upto Rows.trimAcceptedSpec).preRow enc Tryz.prog Tryz.f6 Rows.trimAcceptedUptoRow.domain false Rows.trimAcceptedUptoRow.laid) (((Rows.OpenSpec.upto Rows.trimAcceptedSpec).at F).post enc Tryz.prog Tryz.f6 false true false false):=by
 obtain⟨places,hx⟩:=zJQ os enc
 refine returnsInHanded_of_row (C:=Tryz.checked) (s:=Rows.OpenSpec.upto Rows.trimAcceptedSpec) own started rAB Tryz.func6
  (witness_row_at (enc:=enc) (C:=Tryz.checked) false (vC4 os) #[.agg #[.int .i64 0,.slice none 0 0,.slice none 0 0,.slice none 0 0,.slice none 0 0,.slice none 0 0,.slice none 0 0,.bool false,.slice none 0 0,.slice none 0 0],vFG] rfl rAB rAB rAB
    (OpenSpec.preRow_of_cond 8 hx rAB (fun k hk=>by cases hk; kernel_rfl) rAB (zHG os))) ?_
 intro W base args ds gs before hval hW _ hcond _ hL _ _;have hb:Rows.uptoBulkAll (ds++gs)<=1048576:=rB2 (hcond _ rfl);have hgs:gs=[]:=by obtain⟨p,q,_,hV,_⟩:=hW; exact(trodVars_none hV).1
 rw[hgs,rBS]at hb;exact trimAccepted_contract H enc W args ds gs before base hb hval hW hL
theorem zLO:Rows.TrimAcceptedUptoSaid :=
 OpenClaim.holds_of_cond 6 Tryz.f6 rfl rfl rfl rfl rfl rfl rfl ⟨rfl,rfl,rfl,rfl,rfl⟩ rfl rfl rfl rfl rfl rAB Tryz.func6 rAB
  (rB2 rAB) (by unfold Func.isWrapper; first | (rw[rAV (by decide +kernel)]; kernel_rfl) | (rw[rAN (by decide +kernel)]; exact⟨rfl,rfl⟩))
  (fun os started H enc _ F=>by rw[OpenClaim.pre_eq_preRow]; exact trimAccepted_lifted os started H enc F)
theorem zJR (f : FuncId) (fn : Func) (hf : Tryz.pinned.checked.prog.funcNamed "relucert/relucertlaw49.TrimAccepted" = some f) (hfn : Tryz.pinned.checked.prog.funcs[f]? = some fn) :
 false=Tryz.pinned.checked.prog.looks []/\∀ (j:Nat) t,fn.params[j]?=some t->Tryz.pinned.checked.prog.wantsStandIn t=false:=by
 obtain rfl : f = 6 := rDM ((show Tryz.prog.funcNamed "relucert/relucertlaw49.TrimAccepted" = some 6 by kernel_rfl).symm.trans hf) |>.symm
 obtain rfl:fn=Tryz.f6:=(rDM (Tryz.func6.symm.trans hfn)).symm;refine⟨by kernel_rfl,fun j t ht=>?_⟩;rw[Tryz.params6]at ht;have hall:(#[48,32]:Array TypeId).all (fun t=>!Tryz.prog.wantsStandIn t)=true:=by kernel_rfl
 have hm:=rC1 ht;rw[rEM]at hall;have hq:=hall t hm;exact(by simpa using hq:Tryz.prog.wantsStandIn t=false)
theorem trimAccepted_holds:Rows.TrimAcceptedUptoCardSaid :=
 Claim7.holds_tied_plain_at .later [] _ _ _ _ zLO (fun _ h=>by cases h) rAB (fun _ h=>by cases h) trimAcceptedUpto_row_tie rfl ⟨rfl,rfl⟩ rAB rfl zJR rAB
end Go.Proofs.YtbelmkceegmdjaaGreatDoor
