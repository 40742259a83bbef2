/-
  What is read at the types of numbers, forms and lists; the rows' ends.
-/
import Derived.Test.YtcbepncdbgaohaaGreatDoorCF1
import Derived.Test.YtcbepncdbgaohaaGreatDoorRows
import Derived.ProofKit
import Derived.JoinedCond
set_option linter.all false
set_option maxHeartbeats 0
namespace Go.PI.Tryz
open Go.Proofs Go.PI Go.Proofs.Tryz
def vIL{v:QF}(hv:Srt v.ts)(c:Rat):rB v c=yA zeroQ v c:=by
 have h1:=cL c _ zeroQ.ts v.ts (zX _) pV hv;obtain⟨h3,h4,_⟩:=He c hv;have e:rA c v.ts=mrg c zeroQ.ts v.ts:=HZ h3 h1.1 fun w=>by rw[h1.2,h4];simp only[zeroQ,cf];grind
 unfold yA rB;simp only[e,QF.mk.injEq,dK];simp only[zeroQ];grind
def vS0(g:GraL)(p:List Int)(n k:Nat)(κ:Nat->Nat)(hg:j6 k g)(hk:k<=950000000)(hk1:1<=k)(hc:MM g p)(hpl:p.length<=1048576)(hin:g.ins=(n:Int))(hs:szR g p n k κ):Fn 24 [sD g,ints p] (.data (.tup [.imm ((xA g.us n p g.us.length).map zP),.imm ((jL g n p).map zP),.int .i64 0])):=by
 have ca:=vQ1 g p n k κ hg hk hk1 hc hpl hin hs;refine yJ zU hT (mkO func24 ntmps24 results24) (by simp[sD]) (sts ?_);refine lI ca rfl (sts ?_);exact yD
def vSY(g:GraL)(p:List Int)(n k:Nat)(κ:Nat->Nat)(hg:j6 k g)(hk:k<=950000000)(hk1:1<=k)(hc:MM g p)(hpl:p.length<=1048576)(hin:g.ins=(n:Int))(hs:szR g p n k κ):Fn 25 [sD g,ints p] (.data (.tup [.imm ((MN g.us n p).map zP),.int .i64 0])):=by
 have ca:=vQ1 g p n k κ hg hk hk1 hc hpl hin hs;rw[vV2,vO2]at ca;obtain⟨hv,hp,hd⟩:=hc;have co:=Db (-1) zdd;rw[show(((-1:Int)):Rat)=-1 by rfl]at co;have lu:=SD g;have l2:=hg.1.1;have hn2:n<=256:=by have:=hv.1.2;omega
 have hnu:=hv.2.1;refine yJ zU hT (mkO func25 ntmps25 results25) (by simp[sD]) (sts ?_);refine lI ca rfl (sts ?_)
 all_goals try omega
 refine xG hT (fun(i:Nat)=>[(1,ints p),(7,.own 0 0 g.us.length),(10,.int .i64 i)]) (fun i=>[(0,nU (oM g.us n p i))]) [] 1
  (fun i=>i<=g.us.length) (fun i=>g.us.length-i) 0 (z8 _) zdd zsm ?_ ?_
 .exact⟨[_],[],[],[],ttt,⟨xI rfl rfl,zI zdd rfl rfl,zG rfl rfl,zA⟩,⟨zH zdd rfl rfl (vY _) rfl,zA⟩,zO⟩
 intro i i1;have hil:=vO2 g.us n p i;by_cases hi:i<g.us.length
 .have hvu:=hv.2.2.2.1 i zom
  have hou:=hg.1.2 _ (nT (show i<g.units.length by omega));have hoq:=p8 hvu;have hfl:=mM g.us n p i;rw[hin,show((n:Int)+(i:Int))=((xA g.us n p i).length:Nat) by omega]at hoq;obtain⟨s1,s2⟩:=hs i zom;rw[<- hfl]at s2;obtain⟨b1,b2,b3⟩:=Kk s1 (jZ hou hk1) hoq;have cs:=FN (vQ g.units[i]!.Q (xA g.us n p i)) (-1) _ 1 b2 (pX (z:=-1) zdd) zom zom;rw[vIL b1.1]at cs;have hgt:=uDP (us:=g.us) (n:=n) (p:=p) hi;rw[Ft zom]at hgt
  (refine gob ?_ ?_<;>intro h;refine gob ?_ ?_<;>intro h)
  .have hr:nN g.us n p i=yA zeroQ (vQ g.units[i]!.Q (xA g.us n p i)) (-1):=by unfold nN;rw[zE xU,Ft zom]
   refine yB i (z7 _) zom ?_;rw[hgt];refine sts ?_;refine cvd co ?_;refine cvd cs ?_;refine yB i (z7 _) zom ?_;rw[hgt];refine sts ?_;exact⟨i+1,⟨zom,zbo⟩,[_],[],[],[],ttt,⟨xI rfl rfl,zI zdd rfl rfl,zG rfl rfl,zA⟩,⟨zH zdd rfl (by rw[<- uDO hi,hr];exact x5 zom rfl) (vY _) rfl,zA⟩,zO⟩
  .exact⟨i+1,⟨zom,zbo⟩,[_],[],[],[],ttt,⟨xI rfl rfl,zI zdd rfl rfl,zG rfl rfl,zA⟩,⟨zH zdd rfl (zV (List.map zP) (vV3 hi xU)) (vY _) rfl,zA⟩,zO⟩
  all_goals (exfalso;omega)
 .have ei:i=g.us.length:=zom
  (refine gob ?_ ?_<;>intro h;refine gob ?_ ?_<;>intro h)
  all_goals try omega
  exact zL (Cz (yL (xP rfl rfl zom Dq) rfl)) (by rw[ei];rfl)
def vSZ(F:QF)(vars:List QF)(n k:Nat)(κ:Nat->Nat)(hv:DK n κ vars)(hn:n<=1000)(hf:szF k F)(ho:okF vars.length F)(hfl:F.ts.length<=1048576)(hS:k+qQ (fun v=>κ v+k+1) 0 vars.length<=100000)(hl:vars.length<=1048576):Fn 27 [zP F,.imm (vars.map zP)] (.data (zP (vQ F vars))):=by
 refine yJ zU hT (mkO func27 ntmps27 results27) (by simp[zP]) (sts ?_)
 refine xG hT (fun(i:Nat)=>[(1,.imm (vars.map zP)),(2,.ptr 0 0 0),(4,.ptr 1 0 0),(5,.ptr 2 0 0),(6,.int .i64 i)])
  (fun i=>[(0,⟨[zP F],4,true⟩),(1,⟨[.agg [.nilsl,.bool false,.nilsl,.nilsl]],4,true⟩),(2,⟨[zP (mL F vars i)],4,true⟩)]) [] 3
  (fun i=>i<=F.ts.length) (fun i=>F.ts.length-i) 0 (z8 _) zdd zsm ?_ ?_
 .exact⟨[_,_,_],[],[],[(5,[zP ⟨[],F.c⟩])],⟨zA,zA,⟨⟨_,6,_,rfl,rfl,rfl⟩,zA⟩⟩,⟨xI rfl rfl,(apy rfl),(apy rfl),(apy rfl),zG rfl rfl,zA⟩,
   ⟨bbx,bbx,bbx,zA⟩,zO⟩
 intro i i1;obtain⟨a1,a2,a3⟩:=uB5 hv hf ho i zom;by_cases hi:i<F.ts.length
 .have hmem:F.ts[i]! ∈ F.ts:=nT hi
  have hvi:=ho.2 _ hmem;have hvi2:0<=(tQ F.ts[i]!).var/\(tQ F.ts[i]!).var<vars.length:=hvi;have hj:F.ts[i]!.1.toNat<vars.length:=zom
  obtain⟨v1,v2,v3⟩:=hv _ hj;have hk1:κ F.ts[i]!.1.toNat+k+1<=qQ (fun v=>κ v+k+1) 0 vars.length:=vWC (fun v=>κ v+k+1) hj;have cs:=FN vars[F.ts[i]!.1.toNat]! F.ts[i]!.2 (κ F.ts[i]!.1.toNat) k v2 (hf.2 _ hmem) zom zom;have sm:=RJ v2 (hf.2 _ hmem);have sl:(rB vars[F.ts[i]!.1.toNat]! F.ts[i]!.2).ts.length<=n:=wS Lg v3;have hmul:((rB vars[F.ts[i]!.1.toNat]! F.ts[i]!.2).ts.length+1)*(κ F.ts[i]!.1.toNat+k+1)<=1001*100000:=gW zom zom;have ca:=RI (mL F vars i) (rB vars[F.ts[i]!.1.toNat]! F.ts[i]!.2) _ _ a2 sm zom zom;rw[En a1.1 v1.1,<- Pd hi]at ca
  refine gob ?_ ?_<;>intro h
  all_goals try omega
  refine wP (j:=F.ts[i]!.1.toNat) (show F.ts[i]!.1=_ by omega) hj (sts ?_);refine cvd cs ?_;refine cvd ca ?_
  exact⟨i+1,⟨zom,zbo⟩,[0,1,2],[],[],[],ttt,⟨zM,apx,apx,apx,zD,zA⟩,
   ⟨bbx,bbx,bbx,zA⟩,zO⟩
 .have e:i=F.ts.length:=zom
  refine gob ?_ ?_<;>intro h
  all_goals try omega
  subst e;rw[Pe];exact yD
open Go Go.Proofs Go.PI Go.Proofs.Tryz Go.Proofs.YtcbepncdbgaohaaGreatDoor
open Go.ChangeShapes Go.WideShapes Go.ChangeAt Go.RowKit
section
variable {H:Type} {enc:TypeId×Value->H} {w:World}
def QInt.pos{k:IntKind}(x:Int)(B:Nat)(h:(Lit.int k x).wf=true/\1<=B):1<=B:=h.2
def uMG(m:Nat):Reads enc prog w m 22 (fun xs:List Int=>[.imm (xs.map (.int .u8))]) (QL (fun x b=>(Lit.int .u8 x).wf=true/\1<=b)) :=
 (vLN (n:=m) (sz:=1) underlying22 x7 zdd (fun _=>⟨rfl,rfl⟩) (vVK underlying5)).le zom
def uNZ{xs:List Int}{B:Nat}(h:QL (fun x b=>(Lit.int .u8 x).wf=true/\1<=b) xs B)(hB:B<=1048576):Hm xs:=by
 refine⟨by have:=QL.len QInt.pos h;omega,fun x hx=>?_⟩;obtain⟨b,⟨h1,_⟩,_⟩:=h.mem x hx;have:0<=x/\x<=255:=by simpa [Lit.wf,IntKind.min,IntKind.max,IntKind.signed,IntKind.bits]using h1
 omega
end
def own:ownKnob prog.godebug=none:=by kernel_rfl
def laidOut:laidOutB prog=true:=by kernel_rfl
def gok{W:World}:Gok G0 W (gM W):=fun g e hg=>by simp[G0]at hg
mutual
def MW{H:Type}:∀ d:DataW H,Rows.uptoBulk d=kF d
 |.lit l=>by cases l<;>rfl
 |.nil=>rfl
 |.ptr d=>by simp only[Rows.uptoBulk,kF,MW d]
 |.slice elems spare=>by simp only[Rows.uptoBulk,kF,I9 elems,I9 spare]
 |.agg parts=>by simp only[Rows.uptoBulk,kF,I9 parts]
 |.iface _ d=>by simp only[Rows.uptoBulk,kF,MW d]
 |.map entries=>by simp only[Rows.uptoBulk,kF,zIV entries]
 |.held _=>rfl
def I9{H:Type}:∀ d:List (DataW H),Rows.uptoBulkAll d=dC d
 |[]=>rfl
 |d::r=>by simp only[Rows.uptoBulkAll,dC,MW d,I9 r]
def zIV{H:Type}:∀ d:List (Lit×DataW H),Rows.uptoBulkEntries d=MG d
 |[]=>rfl
 |x::r=>by simp only[Rows.uptoBulkEntries,MG,vKL x,zIV r]
def vKL{H:Type}:∀ d:Lit×DataW H,Rows.uptoBulkEntry d=R5 d
 |(l,d)=>by cases l<;>simp only[Rows.uptoBulkEntry,R5,MW d]
end
end Go.PI.Tryz
