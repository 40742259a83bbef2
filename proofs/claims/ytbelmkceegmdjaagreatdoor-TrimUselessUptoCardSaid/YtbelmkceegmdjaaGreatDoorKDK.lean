/-
  What is read at the types of queries, trees, cases.
-/
import Derived.Test.YtbelmkceegmdjaaGreatDoorKDJ
import Derived.Test.YtbelmkceegmdjaaGreatDoorKTM
import Derived.Test.YtbelmkceegmdjaaGreatDoorKSB
set_option linter.unusedVariables false
set_option linter.unusedSimpArgs false
set_option linter.unnecessarySimpa false
set_option maxHeartbeats 0
namespace Go.PI.Tryz
open Go Go.Proofs Go.PI Go.Proofs.YtbelmkceegmdjaaGreatDoor
open Go.ChangeShapes Go.WideShapes Go.ChangeAt Go.RowKit
section
variable {H:Type} {enc:TypeId×Value->H} {w:World}
def uRA(x:RegL):List PV:=[.imm (x.lo.map vA5),.imm (x.hi.map vA5),.imm (x.rows.map vBM)]
def QReg(x:RegL)(B:Nat):Prop:=∃ a b c,QL QRat x.lo a/\QL QRat x.hi b/\QL QAff x.rows c/\a+b+c<=B
theorem uPL(m:Nat):Reads enc Tryz.prog w m 43 uRA QReg:=by
 refine((zBP (n:=m) (tot:=3) Tryz.underlying43 rAB (zAS rfl (k:=1) rAB zdd (uFW m)
  (zAS rfl (k:=1) rAB zdd (uFW m) (zAS rfl (k:=1) rAB zdd (vVN m) (zCJ zdd))))).le zom).to (fun x=>(⟨x.1,x.2.1,x.2.2.1⟩:RegL)) (fun _=>rfl) ?_
 rintro⟨a,b,c,u⟩ B ⟨b0,⟨b1,b2,h1,⟨b3,b4,h3,⟨b5,b6,h5,_,h6⟩,h4⟩,h2⟩,h0⟩
 exact⟨b1,b3,b5,h1,h3,h5,zom⟩
def uRE(x:GraL):List PV:=[.int .i64 x.ins,.imm (x.units.map vBM),.imm (x.outs.map vBM)]
def QGra(x:GraL)(B:Nat):Prop:=∃ b c,QL QAff x.units b/\QL QAff x.outs c/\b+c<=B
theorem uPP(m:Nat):Reads enc Tryz.prog w m 40 uRE QGra:=by
 refine((zBP (n:=m) (tot:=3) Tryz.underlying40 rAB (zAS rfl (k:=1) rAB zdd (zDK Tryz.underlying3)
  (zAS rfl (k:=1) rAB zdd (vVN m) (zAS rfl (k:=1) rAB zdd (vVN m) (zCJ zdd))))).le zom).to (fun x=>(⟨x.1,x.2.1,x.2.2.1⟩:GraL)) (fun _=>rfl) ?_
 rintro⟨a,b,c,u⟩ B ⟨b0,⟨b1,b2,h1,⟨b3,b4,h3,⟨b5,b6,h5,_,h6⟩,h4⟩,h2⟩,h0⟩
 exact⟨b3,b5,h3,h5,zom⟩
theorem QRat.ln{x:RatL}{B:Nat}(h:QRat x B):lnQ x+3<=B/\okR x:=by
 obtain⟨b,c,h1,h2,h3⟩:=h;have:=h1.len; have:=h2.len;exact⟨by unfold lnQ; omega,h1.ok,h2.ok⟩
theorem QTerm.ln{x:TermL}{B:Nat}(h:QTerm x B):lnQ x.coef+1<=B:=by
 obtain⟨b,h1,h3⟩:=h;have:=h1.ln; omega
theorem QAff.ln{x:AffL}{B:Nat}(h:QAff x B):lnA x<=B:=by
 obtain⟨b,c,h1,h2,h3⟩:=h;have:=QL.sum (f:=fun t:TermL=>lnQ t.coef+1) (fun _ _ h=>h.ln) h1;have:=h2.ln;unfold lnA tL; omega
theorem uF4{x:AffL}{B:Nat}(h:QAff x B)(hB:B<=1048576):okA B x:=by
 obtain⟨b,c,h1,h2,h3⟩:=h;refine⟨zCZ zom h2.ok,fun t ht=>?_,by have:=QL.len QTerm.pos h1; omega⟩;obtain⟨d,⟨e,h4,h5⟩,h6⟩:=h1.mem t ht;exact zCZ zom h4.ok
theorem vHJ{xs:List AffL}{B:Nat}(h:QL QAff xs B)(hB:B<=1048576):uJG B xs:=by
 refine⟨by have:=QL.len QAff.pos h; omega,fun f hf=>?_⟩;obtain⟨d,h5,h6⟩:=h.mem f hf;exact zCN h6 (uF4 h5 zom)
theorem vO9{xs:List RatL}{B:Nat}(h:QL QRat xs B)(hB:B<=1048576):vXM B xs:=by
 refine⟨by have:=QL.len QRat.pos h; omega,fun x hx=>?_⟩;obtain⟨b,h1,h2⟩:=h.mem x hx;exact zCZ h2 h1.ok
def uRC(q:QryL):List PV:=[.int .i64 q.g.ins,.imm (q.g.units.map vBM),.imm (q.g.outs.map vBM),.imm (q.r.lo.map vA5),.imm (q.r.hi.map vA5),.imm (q.r.rows.map vBM),.imm (q.goal.terms.map vCB),.bool q.goal.const.neg,vBK q.goal.const.num,vBK q.goal.const.den]
def QQry(q:QryL)(B:Nat):Prop:=∃ a b c,QGra q.g a/\QReg q.r b/\QAff q.goal c/\a+b+c<=B
theorem uPM(m:Nat):Reads enc Tryz.prog w m 48 uRC QQry:=by
 refine((zBP (n:=m) (tot:=10) Tryz.underlying48 rAB (zAS rfl (k:=3) rAB zdd (uPP m)
  (zAS rfl (k:=3) rAB zdd (uPL m) (zAS rfl (k:=4) rAB zdd (uMO m) (zCJ zdd))))).le zom).to (fun x=>(⟨x.1,x.2.1,x.2.2.1⟩:QryL)) (fun _=>rfl) ?_
 rintro⟨a,b,c,u⟩ B ⟨b0,⟨b1,b2,h1,⟨b3,b4,h3,⟨b5,b6,h5,_,h6⟩,h4⟩,h2⟩,h0⟩
 exact⟨b1,b3,b5,h1,h3,h5,zom⟩
def uRF(x:DecL):List PV:=[.int .i64 x.kind,.int .i64 x.index,.bool x.rat.neg,vBK x.rat.num,vBK x.rat.den]
def uRJ(x:DecL)(B:Nat):Prop:=∃ b,QRat x.rat b/\b+3<=B
theorem uMM(m:Nat):Reads enc Tryz.prog w m 28 uRF uRJ:=by
 refine((zBP (n:=m+2) (tot:=5) Tryz.underlying28 rAB (zAS rfl (k:=1) rAB zdd (zDK Tryz.underlying3)
  (zAS rfl (k:=1) rAB zdd (zDK Tryz.underlying3) (zAS rfl (k:=3) rAB zdd (vRQ m) (zCJ zdd))))).le zom).to (fun x=>(⟨x.1,x.2.1,x.2.2.1⟩:DecL)) (fun _=>rfl) ?_
 rintro⟨a,b,c,u⟩ B ⟨b0,⟨b1,b2,h1,⟨b3,b4,h3,⟨b5,b6,h5,_,h6⟩,h4⟩,h2⟩,h0⟩
 exact⟨b5,h5,by have:=h1.2; have:=h3.2; omega⟩
def uQ9(x:RowL):List PV:=[.int .i64 x.kind,.int .i64 x.index,.int .i64 x.lo,.int .i64 x.hi]
theorem vYE{x:Int}(h:(Lit.int .i64 x).wf=true):-9223372036854775808<=x/\x<9223372036854775808:=by
 have:-9223372036854775808<=x/\x<=9223372036854775807:=by simpa [Lit.wf,IntKind.min,IntKind.max,IntKind.signed,IntKind.bits]using h
 omega
theorem uPK(m:Nat):Reads enc Tryz.prog w m 70 uQ9 (fun x B=>(vL0 x/\vSZ x)/\1<=B):=by
 refine((zBP (n:=m) (tot:=4) Tryz.underlying70 rAB (zAS rfl (k:=1) rAB zdd (zDK Tryz.underlying3)
  (zAS rfl (k:=1) rAB zdd (zDK Tryz.underlying3) (zAS rfl (k:=1) rAB zdd (zDK Tryz.underlying3)
  (zAS rfl (k:=1) rAB zdd (zDK Tryz.underlying3) (zCJ zdd)))))).le zom).to (fun x=>(⟨x.1,x.2.1,x.2.2.1,x.2.2.2.1⟩:RowL)) (fun _=>rfl) ?_
 rintro⟨k,i,l,h,u⟩ B ⟨b0,⟨b1,b2,h1,⟨b3,b4,h3,⟨b5,b6,h5,⟨b7,b8,h7,_,h8⟩,h6⟩,h4⟩,h2⟩,h0⟩
 exact⟨⟨⟨vYE h5.1,vYE h7.1⟩,vYE h3.1⟩,zom⟩
def QMult(x:MultL)(B:Nat):Prop:=(vL0 x.row/\vSZ x.row)/\∃ b,QRat x.coef b/\b+2<=B
def uQG(x:MultL):List PV:=[.int .i64 x.row.kind,.int .i64 x.row.index,.int .i64 x.row.lo,.int .i64 x.row.hi,.bool x.coef.neg,vBK x.coef.num,vBK x.coef.den]
theorem uMK(m:Nat):Reads enc Tryz.prog w m 72 uQG QMult:=by
 refine((zBP (n:=m+2) (tot:=7) Tryz.underlying72 rAB (zAS rfl (k:=4) rAB zdd (uPK _)
  (zAS rfl (k:=3) rAB zdd (vRQ m) (zCJ zdd)))).le zom).to (fun x=>(⟨x.1,x.2.1⟩:MultL)) (fun _=>rfl) ?_
 rintro⟨a,c,u⟩ B ⟨b0,⟨b1,b2,h1,⟨b3,b4,h3,_,h4⟩,h2⟩,h0⟩
 exact⟨h1.1,b3,h3,by have:=h1.2; omega⟩
theorem QMult.pos(x:MultL)(B:Nat)(h:QMult x B):1<=B:=by obtain⟨_,b,h1,h3⟩:=h; omega
theorem QMult.ln(x:MultL)(B:Nat)(h:QMult x B):lQ x.coef+1<=B:=by
 obtain⟨_,b,h1,h3⟩:=h;have:=h1.ln.1;unfold lnQ at this; unfold lQ; omega
theorem vVO(m:Nat):Reads enc Tryz.prog w m 30 (fun xs:List MultL=>[.imm (xs.map vBB)]) (QL QMult) :=
 (zDS (n:=m) (sz:=7) Tryz.underlying30 rAB zdd (fun _=>⟨rfl,rfl⟩) (uMK m)).le zom
theorem vOQ{x:RatL}{B:Nat}(h:QRat x B)(hB:B<=1048576):x.sm:=by
 have:=h.ok.2.1; have:=h.ok.2.2;exact⟨zom,zom⟩
theorem zO6{xs:List MultL}{B:Nat}(h:QL QMult xs B)(hB:B<=1048576):vCK xs:=by
 refine⟨by have:=QL.len QMult.pos h; omega,fun d hd=>?_⟩;obtain⟨b,⟨_,c,h1,h3⟩,h2⟩:=h.mem d hd;exact vOQ h1 zom
theorem vJD{xs:List MultL}{B:Nat}(h:QL QMult xs B)(hB:B<=1048576):vCX xs:=by
 refine⟨by have:=QL.len QMult.pos h; omega,fun d hd=>?_⟩;obtain⟨b,⟨g,_⟩,_⟩:=h.mem d hd;exact g
theorem vXK{xs:List MultL}{B:Nat}(h:QL QMult xs B):∀ p∈xs,okR p.coef:=fun p hp=>by
 obtain⟨b,⟨_,c,h1,h3⟩,h2⟩:=h.mem p hp;exact h1.ln.2
def QLem(x:LemL)(B:Nat):Prop:=∃ b c,QRat x.value b/\QL QMult x.proof c/\b+c+3<=B
def uRD(l:LemL):List PV:=[.int .i64 l.unit,.bool l.upper,.bool l.value.neg,vBK l.value.num,vBK l.value.den,.imm (l.proof.map vBB)]
theorem uPO(m:Nat):Reads enc Tryz.prog w m 65 uRD QLem:=by
 refine((zBP (n:=m+2) (tot:=6) Tryz.underlying65 rAB (zAS rfl (k:=1) rAB zdd (zDK Tryz.underlying3)
  (zAS rfl (k:=1) rAB zdd (zLF Tryz.underlying4) (zAS rfl (k:=3) rAB zdd (vRQ m)
  (zAS rfl (k:=1) rAB zdd (vVO _) (zCJ zdd)))))).le zom).to (fun x=>(⟨x.1,x.2.1,x.2.2.1,x.2.2.2.1⟩:LemL)) (fun _=>rfl) ?_
 rintro⟨a,b,c,d,u⟩ B ⟨b0,⟨b1,b2,h1,⟨b3,b4,h3,⟨b5,b6,h5,⟨b7,b8,h7,_,h8⟩,h6⟩,h4⟩,h2⟩,h0⟩
 exact⟨b5,b7,h5,h7,by have:=h1.2; omega⟩
theorem QLem.pos(x:LemL)(B:Nat)(h:QLem x B):1<=B:=by obtain⟨b,c,h1,h2,h3⟩:=h; omega
theorem QLem.ln(x:LemL)(B:Nat)(h:QLem x B):lQ x.value+sC x.proof<=B:=by
 obtain⟨b,c,h1,h2,h3⟩:=h;have:=h1.ln.1;have h4:=QL.sum (f:=fun p:MultL=>lQ p.coef+1) QMult.ln h2;unfold lnQ at this; unfold lQ sC; omega
theorem uML(m:Nat):Reads enc Tryz.prog w m 22 (fun xs:List LemL=>[.imm (xs.map vBA)]) (QL QLem) :=
 (zDS (n:=m) (sz:=6) Tryz.underlying22 rAB zdd (fun _=>⟨rfl,rfl⟩) (uPO m)).le zom
theorem vUS{xs:List LemL}{B:Nat}(h:QL QLem xs B)(hB:B<=1048576):vI9 xs:=by
 refine⟨by have:=QL.len QLem.pos h; omega,fun d hd=>?_⟩;obtain⟨b,⟨c,e,h1,h3,h4⟩,h2⟩:=h.mem d hd;exact⟨vOQ h1 zom,zO6 h3 zom⟩
theorem uDR(x:LemL)(B:Nat)(h:QLem x B):vCD x<=B:=by
 obtain⟨c,e,h1,h3,h4⟩:=h;have:=QL.len QMult.pos h3;unfold vCD;omega
def QNode(x:NodeL)(B:Nat):Prop:=(x.wt<=B/\x.bk<=B)/\x.NOk/\(B<=1048576->x.Sm/\NodeRg x)
def uE9(n:NodeL):List PV:=[.imm (n.lemmas.map vBA),.int .i64 n.split.kind,.int .i64 n.split.index,.bool n.split.rat.neg,vBK n.split.rat.num,vBK n.split.rat.den,.imm (n.kids.map vBF),.bool n.empty,.imm (n.proof.map vBB)]
theorem QNode.pos(x:NodeL)(B:Nat)(h:QNode x B):1<=B:=by have:=x.wt_eq; have:=h.1.1; omega
theorem zPC{α:Type}{t:TypeId}{e:α->List PV}{Q:α->Nat->Prop}:Reads enc Tryz.prog w 0 t e Q:=by
 intro fuel hf cs d ps h;obtain rfl:fuel=0:=by omega
 simp[DataW.trod]at h
theorem vMC{n:Nat}(hk:Reads enc Tryz.prog w n 29 (fun xs:List NodeL=>[.imm (xs.map vBF)]) (QL QNode)):Reads enc Tryz.prog w (n+1) 32 uE9 QNode:=by
 refine((zBP (n:=n) (tot:=9) Tryz.underlying32 rAB (zAS rfl (k:=1) rAB zdd (uML _)
  (zAS rfl (k:=5) rAB zdd (uMM _) (zAS rfl (k:=1) rAB zdd hk
  (zAS rfl (k:=1) rAB zdd (zLF Tryz.underlying4) (zAS rfl (k:=1) rAB zdd (vVO _) (zCJ zdd)))))))).to (fun x=>NodeL.mk x.1 x.2.1 x.2.2.1 x.2.2.2.1 x.2.2.2.2.1) (fun _=>rfl) ?_
 rintro⟨a,b,c,d,e,u⟩ B ⟨b0,⟨b1,b2,h1,⟨b3,b4,h3,⟨b5,b6,h5,⟨b7,b8,h7,⟨b9,b10,h9,_,h10⟩,h8⟩,h6⟩,h4⟩,h2⟩,h0⟩
 refine⟨⟨?_,?_⟩,?_,fun hB=>?_⟩
 .rw[NodeL.wt_eq]
  have g1:=QL.sum uDR h1;have g2:=QL.len QMult.pos h9;have g3:=QL.sum (f:=NodeL.wt) (fun _ _ h=>h.1.1) h5;simp only[NodeL.lemmas,NodeL.proof,NodeL.kids]at *
  omega
 .unfold NodeL.bk
  rw[NodeL.tot_eq];have g1:=QL.sum (f:=fun m:LemL=>lQ m.value+sC m.proof) QLem.ln h1;rw[vGM (fun m:LemL=>lQ m.value) (fun m=>sC m.proof)]at g1;have g2:=QL.sum (f:=fun p:MultL=>lQ p.coef+1) QMult.ln h9;have g3:=QL.sum (f:=NodeL.bk) (fun _ _ h=>h.1.2) h5;obtain⟨f,h11,h12⟩:=h3;have g4:=h11.ln.1;have g5:(c.map (NodeL.tot fun x=>spF x+vlF x+coF x)).sum<b5:=g3;unfold lnQ at g4;simp only[spF,vlF,coF,vL,sC,lQ,NodeL.lemmas,NodeL.proof,NodeL.kids,NodeL.split]at *
  omega
 .refine .mk _ (fun m hm=>?_) ?_ (vXK h9) (fun k hk=>?_)
  .obtain⟨q,⟨f,g,h11,h12,h13⟩,_⟩:=h1.mem m hm
   exact⟨h11.ln.2,vXK h12⟩
  .obtain⟨f,h11,_⟩:=h3
   exact h11.ln.2
  .obtain⟨q,h11,h12⟩:=h5.mem k hk
   exact h11.2.1
 .have hk:∀ k∈c,k.Sm/\NodeRg k:=fun k hk=>by
   obtain⟨q,h11,h12⟩:=h5.mem k hk;exact h11.2.2 zom
  have hcl:c.length<2097152:=by have:c.length<b5:=QL.len QNode.pos h5; omega
  exact⟨.mk _ (vUS h1 zom) (by obtain⟨f,h11,h12⟩:=h3; exact vOQ h11 zom) hcl (fun k h=>(hk k h).1) (zO6 h9 zom),
   .mk _ (by have:a.length<b1:=QL.len QLem.pos h1; simp only[NodeL.lemmas]; omega) (fun m hm=>by
    obtain⟨q,⟨f,g,h11,h12,h13⟩,h14⟩:=h1.mem m hm
    exact vJD h12 zom) (vJD h9 zom) hcl (fun k h=>(hk k h).2)⟩
theorem vME{n:Nat}(hk:Reads enc Tryz.prog w n 32 uE9 QNode):Reads enc Tryz.prog w (n+1) 29 (fun xs:List NodeL=>[.imm (xs.map vBF)]) (QL QNode) :=
 zDS (sz:=9) Tryz.underlying29 rAB zdd (fun x=>⟨by rw[zBR]; rfl,rfl⟩) hk
theorem uH2(n:Nat):Reads enc Tryz.prog w n 32 uE9 QNode/\Reads enc Tryz.prog w n 29 (fun xs:List NodeL=>[.imm (xs.map vBF)]) (QL QNode):=by
 induction n with
 | zero=>exact⟨zPC,zPC⟩
 | succ n ih=>exact⟨vMC ih.2,vME ih.1⟩
theorem uMI(n:Nat):Reads enc Tryz.prog w n 32 uE9 QNode:=(uH2 n).1
theorem QGra.okB{x:GraL}{B:Nat}(h:QGra x B)(hB:B<=1048576):vHI B x:=by
 obtain⟨b,c,h1,h2,h3⟩:=h;have g1:=vHJ h1 zom;have g2:=vHJ h2 zom;exact⟨⟨g1.1,fun f hf=>zCN zom (g1.2 f hf)⟩,⟨g2.1,fun f hf=>zCN zom (g2.2 f hf)⟩⟩
theorem QReg.okB{x:RegL}{B:Nat}(h:QReg x B)(hB:B<=1048576):vSO B x:=by
 obtain⟨a,b,c,h1,h2,h3,h4⟩:=h;have g3:=vHJ h3 zom;exact⟨zF3 zom (vO9 h1 zom),zF3 zom (vO9 h2 zom),fun f hf=>zCN zom (g3.2 f hf),g3.1⟩
theorem QQry.szB{q:QryL}{B:Nat}(h:QQry q B)(hB:B<=1048576):szQ q B:=by
 obtain⟨a,b,c,h1,h2,h3,h4⟩:=h;have hp:=QAff.pos _ _ h3;have g1:=h1.okB zom;have g2:=h2.okB zom;exact⟨zom,⟨⟨g1.1.1,fun f hf=>zCN zom (g1.1.2 f hf)⟩,⟨g1.2.1,fun f hf=>zCN zom (g1.2.2 f hf)⟩⟩,vO5 zom g2,zCN zom (uF4 h3 zom)⟩
theorem uNJ{q:QryL}{n:NodeL}{a b:Nat}(h1:QQry q a)(h2:QNode n b)(hB:a+b<=1048576):inB q n a b/\NodeRg n :=
 ⟨⟨h1.szB zom,zom,h2.2.1,(h2.2.2 zom).1,h2.1.2,h2.1.1⟩,(h2.2.2 zom).2⟩
end
end Go.PI.Tryz
