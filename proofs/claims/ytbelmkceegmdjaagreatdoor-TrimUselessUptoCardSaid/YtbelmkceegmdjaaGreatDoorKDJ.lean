/-
  What is read at the types of numbers, forms and lists; the rows' ends.
-/
import Derived.Test.YtbelmkceegmdjaaGreatDoorKNA
import Derived.Test.YtbelmkceegmdjaaGreatDoorCards
import Derived.Test.YtbelmkceegmdjaaGreatDoorTie
import Derived.Test.YtbelmkceegmdjaaGreatDoorRows
import Derived.ProofKit
import Derived.JoinedCond
import Derived.Deep.DeepHandedRow
set_option linter.unusedVariables false
set_option linter.unusedSimpArgs false
set_option linter.unnecessarySimpa false
set_option maxHeartbeats 0
namespace Go.PI.Tryz
open Go Go.Proofs Go.PI Go.Proofs.YtbelmkceegmdjaaGreatDoor
open Go.ChangeShapes Go.WideShapes Go.ChangeAt Go.RowKit
section
variable {H:Type} {enc:TypeId×Value->H} {w:World}
def QNat(xs:List Int)(B:Nat):Prop:=QL (fun x b=>(Lit.int .u32 x).wf=true/\1<=b) xs B
theorem uMJ(n:Nat):Reads enc Tryz.prog w (n+1) 24 (fun xs:List Int=>[vBK xs]) QNat :=
 zDS Tryz.underlying24 rAB zdd (fun _=>⟨rfl,rfl⟩) (zDK Tryz.underlying167)
theorem QNat.ok{x:List Int}{B:Nat}(h:QNat x B):okN x:=fun y hy=>by
 obtain⟨b,⟨h1,_⟩,_⟩:=QL.mem h y hy;have:0<=y/\y<=4294967295:=by simpa [Lit.wf,IntKind.min,IntKind.max,IntKind.signed,IntKind.bits]using h1
 omega
theorem QNat.len{x:List Int}{B:Nat}(h:QNat x B):x.length<B:=QL.len (fun _ _ h=>h.2) h
def QRat(x:RatL)(B:Nat):Prop:=∃ b c,QNat x.num b/\QNat x.den c/\b+c+2<=B
def uRB(x:RatL):List PV:=[.bool x.neg,vBK x.num,vBK x.den]
theorem vRQ(n:Nat):Reads enc Tryz.prog w (n+2) 26 uRB QRat:=by
 refine(zBP (tot:=3) Tryz.underlying26 rAB (zAS rfl (k:=1) rAB zdd (zLF Tryz.underlying4)
  (zAS rfl (k:=1) rAB zdd (uMJ n) (zAS rfl (k:=1) rAB zdd (uMJ n) (zCJ zdd))))).to (fun x=>(⟨x.1,x.2.1,x.2.2.1⟩:RatL)) (fun _=>rfl) ?_
 rintro⟨a,b,c,u⟩ B ⟨b0,⟨b1,b2,h1,⟨b3,b4,h3,⟨b5,b6,h5,_,h6⟩,h4⟩,h2⟩,h0⟩
 exact⟨b3,b5,h3,h5,zom⟩
theorem QRat.ok{x:RatL}{B:Nat}(h:QRat x B):okQ B x:=by
 obtain⟨b,c,h1,h2,h3⟩:=h;have:=h1.len; have:=h2.len;exact⟨⟨h1.ok,h2.ok⟩,zom,zom⟩
theorem QRat.pos(x:RatL)(B:Nat)(h:QRat x B):1<=B:=by obtain⟨b,c,h1,h2,h3⟩:=h; omega
theorem uFW(m:Nat):Reads enc Tryz.prog w m 41 (fun xs:List RatL=>[.imm (xs.map vA5)]) (QL QRat) :=
 (zDS (n:=m+2) (sz:=3) Tryz.underlying41 rAB zdd (fun _=>⟨rfl,rfl⟩) (vRQ m)).le zom
def uQF(x:TermL):List PV:=[.int .i64 x.var,.bool x.coef.neg,vBK x.coef.num,vBK x.coef.den]
def QTerm(x:TermL)(B:Nat):Prop:=∃ b,QRat x.coef b/\b+2<=B
theorem uMH(m:Nat):Reads enc Tryz.prog w m 99 uQF QTerm:=by
 refine((zBP (n:=m+2) (tot:=4) Tryz.underlying99 rAB (zAS rfl (k:=1) rAB zdd (zDK Tryz.underlying3)
  (zAS rfl (k:=3) rAB zdd (vRQ m) (zCJ zdd)))).le zom).to (fun x=>(⟨x.1,x.2.1⟩:TermL)) (fun _=>rfl) ?_
 rintro⟨a,c,u⟩ B ⟨b0,⟨b1,b2,h1,⟨b3,b4,h3,_,h4⟩,h2⟩,h0⟩
 exact⟨b3,h3,by have:=h1.2; omega⟩
theorem QTerm.pos(x:TermL)(B:Nat)(h:QTerm x B):1<=B:=by obtain⟨b,h1,h3⟩:=h; omega
theorem uHY(m:Nat):Reads enc Tryz.prog w m 44 (fun xs:List TermL=>[.imm (xs.map vCB)]) (QL QTerm) :=
 (zDS (n:=m) (sz:=4) Tryz.underlying44 rAB zdd (fun _=>⟨rfl,rfl⟩) (uMH m)).le zom
def uRG(x:AffL):List PV:=[.imm (x.terms.map vCB),.bool x.const.neg,vBK x.const.num,vBK x.const.den]
def QAff(x:AffL)(B:Nat):Prop:=∃ b c,QL QTerm x.terms b/\QRat x.const c/\b+c<=B
theorem uMO(m:Nat):Reads enc Tryz.prog w m 46 uRG QAff:=by
 refine((zBP (n:=m+2) (tot:=4) Tryz.underlying46 rAB (zAS rfl (k:=1) rAB zdd (uHY (m+2))
  (zAS rfl (k:=3) rAB zdd (vRQ m) (zCJ zdd)))).le zom).to (fun x=>(⟨x.1,x.2.1⟩:AffL)) (fun _=>rfl) ?_
 rintro⟨a,c,u⟩ B ⟨b0,⟨b1,b2,h1,⟨b3,b4,h3,_,h4⟩,h2⟩,h0⟩
 exact⟨b1,b3,h1,h3,zom⟩
theorem QAff.ok{x:AffL}{B:Nat}(h:QAff x B)(hB:B<=1048576):okA 1048576 x:=by
 obtain⟨b,c,h1,h2,h3⟩:=h;refine⟨zCZ zom h2.ok,fun t ht=>?_,by have:=QL.len QTerm.pos h1; omega⟩;obtain⟨d,⟨e,h4,h5⟩,h6⟩:=h1.mem t ht;exact zCZ zom h4.ok
theorem QAff.pos(x:AffL)(B:Nat)(h:QAff x B):1<=B:=by
 obtain⟨b,c,_,⟨d,e,_,_,h4⟩,h3⟩:=h; omega
theorem vVN(m:Nat):Reads enc Tryz.prog w m 38 (fun xs:List AffL=>[.imm (xs.map vBM)]) (QL QAff) :=
 (zDS (n:=m) (sz:=4) Tryz.underlying38 rAB zdd (fun _=>⟨rfl,rfl⟩) (uMO m)).le zom
theorem QInt.pos{k:IntKind}(x:Int)(B:Nat)(h:(Lit.int k x).wf=true/\1<=B):1<=B:=h.2
end
theorem own:ownKnob Tryz.prog.godebug=none:=by kernel_rfl
theorem laidOut:laidOutB Tryz.prog=true:=by kernel_rfl
theorem uQY : Tryz.prog.globalNamed "relucert/phase.opposites" = some 0 := by kernel_rfl
theorem uD5:(Tryz.prog.globals[0]?).map (·.type)=some 205:=by kernel_rfl
abbrev uJY {H : Type} : List (String × DataW H) := [("relucert/phase.opposites", Rows.laid_relucert_phase_opposites)]
theorem table {W : World} (h : laidMetH Tryz.prog uJY W) : Lib.TabIs Tryz.prog W "relucert/phase.opposites" .i64 [0, 2, 1, 4, 3] :=
 Lib.tabIs_of_head (rest:=[]) uQY uD5 Tryz.underlying205 Tryz.underlying3 rAB rAB h
theorem gok{W:World}(h:laidMetH Tryz.prog uJY W):Gok G0 W (vTJ W):=by
 intro g e hg;unfold G0 at hg
 split at hg
 .rename_i h0
  subst h0;cases hg
  have c:∀ i,i<5->W.cell? ⟨0,i,none⟩=some (.int .i64 ([0,2,1,4,3].getD i 0)):=fun i hi=>(table h).cell uQY i (by simpa using hi)
  refine .data _ _ (.cptr (.agg [.int .i64 0,.int .i64 2,.int .i64 1,.int .i64 4,.int .i64 3]) 0 0 0 (fun i=>.int .i64 ([0,2,1,4,3].getD i 0)) ?_ (fun i hi=>⟨?_,rfl⟩) (fun i d hd=>?_))
  .have c0:=c 0 zdd
   simp only[World.cell?]at c0;by_cases hb:0<W.heap.size
   .exact hb
   .rw[rCS zom]at c0; simp at c0
  .rw[rC5]; exact c i hi
  .match i,hd with
   | 0,hd=>cases hd; exact .int _ _
   | 1,hd=>cases hd; exact .int _ _
   | 2,hd=>cases hd; exact .int _ _
   | 3,hd=>cases hd; exact .int _ _
   | 4,hd=>cases hd; exact .int _ _
   | n+5,hd=>simp at hd
 .cases hg
mutual
theorem vID{H:Type}:∀ d:DataW H,Rows.uptoBulk d=vK7 d
 | .lit l=>by cases l<;>rfl
 | .nil=>rfl
 | .ptr d=>by simp only[Rows.uptoBulk,vK7,vID d]
 | .slice elems spare=>by simp only[Rows.uptoBulk,vK7,zGV elems,zGV spare]
 | .agg parts=>by simp only[Rows.uptoBulk,vK7,zGV parts]
 | .iface _ d=>by simp only[Rows.uptoBulk,vK7,vID d]
 | .map entries=>by simp only[Rows.uptoBulk,vK7,zIY entries]
 | .held _=>rfl
theorem zGV{H:Type}:∀ d:List (DataW H),Rows.uptoBulkAll d=vC9 d
 | []=>rfl
 | d::r=>by simp only[Rows.uptoBulkAll,vC9,vID d,zGV r]
theorem zIY{H:Type}:∀ d:List (Lit×DataW H),Rows.uptoBulkEntries d=vD3 d
 | []=>rfl
 | x::r=>by simp only[Rows.uptoBulkEntries,vD3,vK6 x,zIY r]
theorem vK6{H:Type}:∀ d:Lit×DataW H,Rows.uptoBulkEntry d=vFY d
 | (l,d)=>by cases l<;>simp only[Rows.uptoBulkEntry,vFY,vID d]
end
noncomputable def vFU(os:Os):World :=
 { World.holding Tryz.prog os ⟨#[],#[],[]⟩ with heap:=(World.holding Tryz.prog os ⟨#[],#[],[]⟩).heap.modify 0 fun
    | .cells _ t frozen=>.cells #[.int .i64 0,.int .i64 2,.int .i64 1,.int .i64 4,.int .i64 3] t frozen
    | o=>o }
abbrev uAS:Value:=.agg #[.slice none 0 0,.int .i64 0,.int .i64 0,.bool false,.slice none 0 0,.slice none 0 0,.slice none 0 0,.bool false,.slice none 0 0]
abbrev uP9{H:Type}:DataW H:=.agg [.nil,.agg [.lit (.int .i64 0),.lit (.int .i64 0),.agg [.lit (.bool false),.nil,.nil]],.nil,.lit (.bool false),.nil]
end Go.PI.Tryz
