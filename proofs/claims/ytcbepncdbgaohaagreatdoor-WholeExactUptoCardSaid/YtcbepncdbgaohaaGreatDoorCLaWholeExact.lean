/-
  For every input of bulk at most 1048576, with the listed variable as the text lays it: WholeExact returns true and leaves all that came in as it was.
-/
import Derived.Test.YtcbepncdbgaohaaGreatDoorCX0
import Derived.Test.YtcbepncdbgaohaaGreatDoorCards
import Derived.Test.YtcbepncdbgaohaaGreatDoorTie
import Derived.Deep.DeepHandedRow
set_option linter.all false
set_option maxHeartbeats 0
namespace Go.Proofs.YtcbepncdbgaohaaGreatDoor
open Go Go.PI Go.PI.Tryz
open Go.ChangeShapes Go.WideShapes Go.ChangeAt Go.RowKit
def pG:DataW Unit->Array Value
 |.agg ps=>(ps.map fun|.lit l=>l.value|_=>undef).toArray
 |_=>#[]
def lay(d:DataW Unit):Obj->Obj
 |.cells _ t f=>.cells (pG d) t f
 |o=>o
noncomputable def TY(os:Os):World :=
 { World.holding Tryz.prog os ⟨#[],#[],[]⟩ with heap:=(((World.holding Tryz.prog os ⟨#[],#[],[]⟩).heap.modify 0 (lay Rows.laid_internal_strconv_uint64pow10)).modify 1 (lay Rows.laid_math_bits_deBruijn32tab)).modify 2 (lay Rows.laid_math_bits_deBruijn64tab) }
def vSG:FO 3 Tryz.f3 [.tmp 2] 112:=mkO Tryz.func3 Tryz.ntmps3 Tryz.results3
set_option maxRecDepth 100000 in
def wholeExact_contract(H:Type)(enc:TypeId×Value->H)(W:World)(args:Array Value)(ds gs:List (DataW H))(before:List MemPlace)(base:Nat)(hb:Rows.uptoBulkAll ds<=1048576)
 (hvl:∀ (j:Nat) t v,Tryz.f3.params[j]?=some t->args[j]?=some v->Value.okWide Tryz.prog W .any base t v)
 (hW:DataW.Whole enc Tryz.prog Tryz.f3.params.toList Rows.wholeExactSpec.vars false W args.toList ds gs before) :
 Calls Tryz.prog 3 args W fun e W'=>∃ v,e=.returned v/\Rows.wholeExactSpec.post enc Tryz.prog Tryz.f3 false true false false W args v W':=by
 have hW':=hW;obtain⟨p,q,hA0,hV,hpq,hfz,hnd⟩:=hW;have hA:DataW.TrodAll enc Tryz.prog W 0 (fun _=>true) true Tryz.f3.params.toList args.toList ds p:=hA0;rw[Tryz.params3]at hA hvl;obtain⟨v0,vs0,d0,ds0,p0,q0',hargs,rfl,hp0,⟨fuel0,h0⟩,r0⟩:=trodAll_cons hA;obtain⟨rfl,rfl,rfl⟩:=trodAll_nil r0;have hargs2:args=#[v0]:=by cases args;simp_all
 rw[hargs2]at hvl;simp only[I9,dC]at hb;obtain⟨x0,g0,q0⟩:=(uMG _) fuel0 (zX _) _ _ _ h0
 have hval:∀ (j:Nat) (d:PV),[.imm (x0.map (.int .u8))][j]?=some d->RD W (gM W) d (args.toList.getD j undef):=by
  intro j d hj;rw[hargs]
  match j,hj with
  |0,hj=>cases hj;exact uSH (uB3 hvl 0 (t:=22) (v:=v0) rfl rfl Tryz.underlying22) g0
  |n+1,hj=>simp at hj
 refine uFP (G:=G0) laidOut x7 rfl Tryz.underlying4 rfl (fun gs hgs=>by subst hgs;rfl) hW' gok (pvs:=[.imm (x0.map (.int .u8))]) ⟨by rw[hargs];rfl,hval⟩ ?_;exact uHE uBW x0 (uNZ q0 zom)
def zIX(os:Os):laidMet Tryz.prog Rows.wholeExactUptoRow.laid ((TY os).forCall (fun _ _=>0) ⟨#[],#[.slice none 0 0],[]⟩).memory :=
 laidMet_of_run' 8 x7 x7
def zLS(os:Os){H:Type}(enc:TypeId×Value->H):∃ places,DataW.whole enc Tryz.prog ((TY os).forCall (fun _ _=>0) ⟨#[],#[.slice none 0 0],[]⟩).memory Tryz.f3.params.toList Rows.wholeExactSpec.vars false (#[.slice none 0 0]:Array Value).toList 8=some ([.nil],[],places) :=
 ⟨[],x7⟩
set_option maxRecDepth 100000 in
def wholeExact_lifted(os:Os)(started:os.Started)(H:Type)(enc:TypeId×Value->H)(F:Stop.Interp) :
 ReturnsInHanded {} Tryz.checked os 3 .any ((Rows.OpenSpec.upto Rows.wholeExactSpec).preRow enc Tryz.prog Tryz.f3 Rows.wholeExactUptoRow.domain false Rows.wholeExactUptoRow.laid) (((Rows.OpenSpec.upto Rows.wholeExactSpec).at F).post enc Tryz.prog Tryz.f3 false true false false):=by
 obtain⟨places,hx⟩:=zLS os enc
 refine returnsInHanded_of_row (C:=Tryz.checked) (s:=Rows.OpenSpec.upto Rows.wholeExactSpec) own started x7 Tryz.func3
  (witness_row_at (enc:=enc) (C:=Tryz.checked) false (TY os) #[.slice none 0 0] rfl x7 x7 x7
    (OpenSpec.preRow_of_cond 8 hx x7 (fun k hk=>by cases hk;kernel_rfl) x7 (zIX os))) ?_
 intro W base args ds gs before hval hW _ hcond _ hL _ _;have hb:Rows.uptoBulkAll (ds++gs)<=1048576:=mS (hcond _ rfl);have hgs:gs=[]:=by obtain⟨p,q,_,hV,_⟩:=hW;exact(trodVars_none hV).1
 rw[hgs,mV]at hb;exact wholeExact_contract H enc W args ds gs before base hb hval hW
def jf1:(Rows.wholeExactUptoRow.inPlace == Tryz.pinned.checked.prog.inPlace 3)=true:=by kernel_rfl
def jf2:(Rows.wholeExactUptoRow.unfollowed == Tryz.pinned.checked.prog.unfollowed 3)=true:=by kernel_rfl
def jf3:(Rows.wholeExactUptoRow.recurses == Tryz.pinned.checked.prog.recurses 3)=true:=by kernel_rfl
def jf4:(Rows.wholeExactUptoRow.named == Tryz.pinned.checked.prog.varsNamed 3)=true:=by kernel_rfl
def jf5:laidOutB Tryz.pinned.checked.prog=true:=by kernel_rfl
def jf6:mapsRowed Tryz.pinned.checked.prog=true:=by kernel_rfl
def jf0:joinedFacts Tryz.pinned.checked.prog 3 Tryz.f3 (OpenSpec.bare (Rows.OpenSpec.upto Rows.wholeExactSpec)) Rows.wholeExactUptoRow=true:=by
 unfold joinedFacts;rw[jf1,jf2,jf3,jf4,jf5,jf6]
 kernel_rfl
def zMX:Rows.WholeExactUptoSaid :=
 OpenClaim.holds_of_cond 3 Tryz.f3 rfl rfl rfl rfl rfl rfl rfl ⟨rfl,rfl,rfl,rfl,rfl⟩ rfl rfl rfl rfl rfl x7 Tryz.func3 jf0
  (mS x7) (by unfold Func.isWrapper;first|(rw[zE (by decide +kernel)];kernel_rfl)|(rw[zB (by decide +kernel)];exact⟨rfl,rfl⟩))
  (fun os started H enc _ F=>by rw[OpenClaim.pre_eq_preRow];exact wholeExact_lifted os started H enc F)
def zLT(f:FuncId)(fn:Func)(hf:Tryz.pinned.checked.prog.funcNamed Rows.wholeExactUptoRow.func=some f)(hfn:Tryz.pinned.checked.prog.funcs[f]?=some fn) :
 false=Tryz.pinned.checked.prog.looks []/\∀ (j:Nat) t,fn.params[j]?=some t->Tryz.pinned.checked.prog.wantsStandIn t=false:=by
 obtain rfl:f=3:=Ak ((show Tryz.prog.funcNamed Rows.wholeExactUptoRow.func=some 3 by kernel_rfl).symm.trans hf) |>.symm
 obtain rfl:fn=Tryz.f3:=(Ak (Tryz.func3.symm.trans hfn)).symm;refine⟨by kernel_rfl,fun j t ht=>?_⟩;rw[Tryz.params3]at ht;have hall:(#[22]:Array TypeId).all (fun t=>!Tryz.prog.wantsStandIn t)=true:=by kernel_rfl
 have hm:=EB ht;rw[Array.all_eq_true_iff_forall_mem]at hall;have hq:=hall t hm;exact(by simpa using hq:Tryz.prog.wantsStandIn t=false)
theorem wholeExact_holds:Rows.WholeExactUptoCardSaid :=
 Claim7.holds_tied_plain_at .later [] _ _ _ _ zMX (fun _ h=>by cases h) x7 (fun _ h=>by cases h) wholeExactUpto_row_tie rfl ⟨rfl,rfl⟩ x7 rfl zLT x7
end Go.Proofs.YtcbepncdbgaohaaGreatDoor
