/-
  All that WholeExact needs.
-/
import Derived.Test.YtcbepncdbgaohaaGreatDoorCA6
import Derived.Test.YtcbepncdbgaohaaGreatDoorCG0
import Derived.Shelf.Strings.Builder1
import Derived.Shelf.Strconv.Itoa3
import Derived.Test.YtcbepncdbgaohaaGreatDoorProg
import Derived.BigCall
import Derived.LoopN
import Derived.Deep.RegionWith
set_option linter.all false
set_option maxHeartbeats 0
set_option maxRecDepth 100000
namespace Go.PI.Tryz
open Go.Proofs Go.PI Go.Proofs.Tryz
def JC:List PV->Option (List Int)
 |[]=>some []
 | .int .u32 n::l=>(match JC l,decide (0<=n/\n<4294967296) with
   |some xs,true=>some (n::xs)
   |_,_=>none)
 |_=>none
def TF:∀ {l:List PV} {xs:List Int},JC l=some xs->l=xs.map (.int .u32)/\okN xs
 |[],xs,h=>by cases h;exact⟨rfl,fun x hx=>by cases hx⟩
 | .int .u32 n::l,xs,h=>by
   simp only[JC]at h
   split at h
   .rename_i ys e1 e2
    cases h
    obtain⟨h1,h2⟩:=TF e1;refine⟨by rw[h1];rfl,fun x hx=>?_⟩;rcases yI.1 hx with rfl|hx
    .exact mS e2
    .exact h2 x hx
   .cases h
variable {α:Type}
def F4:PV->Option RatL
 | .agg [.bool b,.imm n,.imm d]=>(match JC n,JC d,Nat.ble n.length 99&&Nat.ble d.length 99 with
   |some x,some y,true=>some ⟨b,x,y⟩
   |_,_,_=>none)
 |_=>none
def Mg{v:PV}{x:RatL}(h:F4 v=some x):v=zR x/\okR x/\x.num.length<=99/\x.den.length<=99:=by
 unfold F4 at h
 split at h
 .split at h
  .rename_i e1 e2 e3
   cases h
   obtain⟨h1,h2⟩:=TF e1;obtain⟨g1,g2⟩:=TF e2;rw[xO,rM,rM,h1,g1,z6,z6]at e3;exact⟨by rw[h1,g1];rfl,⟨h2,g2⟩,e3.1,e3.2⟩
  .cases h
 .cases h
def fNn  (m:Nat)(K:Nat->α):α:=match m with
 |0=>K 0
 |m+1=>K (m+1)
def fI  (n:Int)(K:Int->α):α:=match n with
 |.ofNat m=>fNn m fun m=>K (.ofNat m)
 |.negSucc m=>fNn m fun m=>K (.negSucc m)
def TG  {m:Nat}{K:Nat->α}:fNn m K=K m:=by cases m<;>rfl
def JD  {n:Int}{K:Int->α}:fI n K=K n:=by cases n<;>(unfold fI;dsimp only;rw[TG])
def bP(q:Rat)(K:PV->PV):Option CRes:=fI q.num fun n=>fNn q.den fun d=>some (.data (K (zR ⟨decide (n<0),zJ n.natAbs,if d=1 then [] else zJ d⟩)))
def CN{q:Rat}{K:PV->PV}:bP q K=some (.data (K (yF q))):=by unfold bP;rw[JD,TG];rfl
def JE(n:Int):Option CRes:=fI n fun n=>some (.data (.int .i64 n))
def TH{n:Int}:JE n=some (.data (.int .i64 n)):=by unfold JE;rw[JD]
abbrev Han:=List PV->Option CRes
def h1(g:Rat->Option CRes):Han
 | [a]=>(match F4 a with
   |some x=>g (qv x)
   |none=>none)
 |_=>none
def h2(g:Rat->Rat->Option CRes):Han
 | [a,b]=>(match F4 a,F4 b with
   |some x,some y=>g (qv x) (qv y)
   |_,_=>none)
 |_=>none
def hOf:Han
 | [.int .i64 n]=>(match decide (-9223372036854775808<=n/\n<9223372036854775808) with
   |true=>bP n id
   |false=>none)
 |_=>none
def Mh{f:FuncId}{g:Rat->Option CRes}(h:∀ x,okR x->x.num.length<=99->x.den.length<=99->∀ r,g (qv x)=some r->Fn f [zR x] r):∀ ds r,h1 g ds=some r->Fn f ds r:=fun ds r e=>by
 unfold h1 at e
 split at e
 .split at e
  .rename_i x hx
   obtain⟨rfl,a1,a2,a3⟩:=Mg hx;exact h x a1 a2 a3 r e
  .cases e
 .cases e
def F5{f:FuncId}{g:Rat->Rat->Option CRes}(h:∀ x y,okR x->okR y->x.num.length<=99->x.den.length<=99->y.num.length<=99->y.den.length<=99->∀ r,g (qv x) (qv y)=some r->Fn f [zR x,zR y] r):∀ ds r,h2 g ds=some r->Fn f ds r:=fun ds r e=>by
 unfold h2 at e
 split at e
 .split at e
  .rename_i x y hx hy
   obtain⟨rfl,a1,a2,a3⟩:=Mg hx;obtain⟨rfl,b1,b2,b3⟩:=Mg hy;exact h x y a1 b1 a2 a3 b2 b3 r e
  .cases e
 .cases e
def uJS{f:FuncId}(h:∀ n:Int,-9223372036854775808<=n/\n<9223372036854775808->Fn f [.int .i64 n] (.data (yF n))):∀ ds r,hOf ds=some r->Fn f ds r:=fun ds r e=>by
 unfold hOf at e
 split at e
 .split at e
  .rename_i hd
   rw[CN]at e;cases e;exact h _ (mS hd)
  .cases e
 .cases e
def lookO:List (Nat×Han)->FuncId->List PV->Option CRes
 |[],_,_=>none
 | (k,g)::l,f,ds=>(match Nat.beq f k with
   |true=>g ds
   |false=>lookO l f ds)
def lN:OOk prog G0 (lookO []):=fun f ds r h=>by cases h
def lC{k:Nat}{g:Han}{l:List (Nat×Han)}(h:∀ ds r,g ds=some r->Fn k ds r)(ih:OOk prog G0 (lookO l)):OOk prog G0 (lookO ((k,g)::l)):=fun f ds r e=>by
 unfold lookO at e
 split at e
 .rename_i hb
  have hb:=CR hb;subst hb;exact h ds r e
 .exact ih f ds r e
noncomputable def xO0:List (Nat×Han):=[(53,hOf),(16,hOf),(49,h1 fun x=>JE (xQ x)),(39,h1 fun x=>JE (xQ x)),(64,h1 fun x=>bP (-x) id),(108,h1 fun x=>bP (-x) id),
 (65,h2 fun x y=>JE (xQ (x-y))),(93,h2 fun x y=>bP (x+y) id),(107,h2 fun x y=>bP (x+y) id),(127,h2 fun x y=>bP (x*y) id),(110,h2 fun x y=>bP (x*y) id),
 (184,h2 fun x y=>match decide (y=0) with
   |true=>none
   |false=>bP (x/y) fun v=>.tup [v,.int .i64 0])]
def uRP:OOk prog G0 (lookO xO0) :=
 lC (uJS fun n h=>bE n h) (lC (uJS fun n h=>Db n h)
 (lC (Mh fun x a1 a2 a3 r e=>by rw[TH]at e;cases e;exact r9 x a1 zom) (lC (Mh fun x a1 a2 a3 r e=>by rw[TH]at e;cases e;exact IW x a1 zom)
 (lC (Mh fun x a1 a2 a3 r e=>by rw[CN]at e;cases e;exact SE x a1 zom zom) (lC (Mh fun x a1 a2 a3 r e=>by rw[CN]at e;cases e;exact X3 x a1 zom zom)
 (lC (F5 fun x y a1 b1 a2 a3 b2 b3 r e=>by rw[TH]at e;cases e;exact DX x y a1 b1 zom zom zom zom)
 (lC (F5 fun x y a1 b1 a2 a3 b2 b3 r e=>by rw[CN]at e;cases e;exact Bq x y a1 b1 zom zom zom zom) (lC (F5 fun x y a1 b1 a2 a3 b2 b3 r e=>by rw[CN]at e;cases e;exact aY x y a1 b1 zom zom zom zom)
 (lC (F5 fun x y a1 b1 a2 a3 b2 b3 r e=>by rw[CN]at e;cases e;exact gD x y a1 b1 zom zom zom zom) (lC (F5 fun x y a1 b1 a2 a3 b2 b3 r e=>by rw[CN]at e;cases e;exact QQ x y a1 b1 zom zom zom zom)
 (lC (F5 fun x y a1 b1 a2 a3 b2 b3 r e=>by
   split at e
   .cases e
   .rename_i hd
    rw[CN]at e;cases e;exact Iz x y a1 b1 zom zom zom zom (GJ hd)) lN)))))))))))
end Go.PI.Tryz
namespace Go.Proofs
open Go.Shelf
def Tryz.shR:Ren where
 f:=fun|166=>237|240=>260|276=>267|n=>n
 t:=fun|37=>22|70=>280|72=>282|75=>285|80=>291|164=>314|n=>n
 g:=fun n=>n
def Tryz.sh166:Lays.n166 Tryz.prog Tryz.shR where
 mixed:=by kernel_rfl
 f166:=by kernel_rfl
 f240:=by kernel_rfl
 f276:=by kernel_rfl
 t0:=Tryz.underlying0
 a0:=Tryz.isAgg0
 z0:=Tryz.sizeOf0
 v0:=Tryz.zeroValue0
 t3:=Tryz.underlying3
 a3:=Tryz.isAgg3
 z3:=Tryz.sizeOf3
 v3:=Tryz.zeroValue3
 t4:=Tryz.underlying4
 a4:=Tryz.isAgg4
 z4:=Tryz.sizeOf4
 v4:=Tryz.zeroValue4
 t9:=Tryz.underlying9
 a9:=Tryz.isAgg9
 z9:=Tryz.sizeOf9
 v9:=Tryz.zeroValue9
 t20:=Tryz.underlying20
 a20:=Tryz.isAgg20
 z20:=Tryz.sizeOf20
 v20:=Tryz.zeroValue20
 t37:=Tryz.underlying22
 a37:=Tryz.isAgg22
 z37:=Tryz.sizeOf22
 v37:=Tryz.zeroValue22
 t70:=Tryz.underlying280
 a70:=Tryz.isAgg280
 z70:=Tryz.sizeOf280
 v70:=Tryz.zeroValue280
 t72:=Tryz.underlying282
 a72:=Tryz.isAgg282
 z72:=Tryz.sizeOf282
 v72:=Tryz.zeroValue282
 t75:=Tryz.underlying285
 a75:=Tryz.isAgg285
 z75:=Tryz.sizeOf285
 v75:=Tryz.zeroValue285
 t164:=Tryz.underlying314
 a164:=Tryz.isAgg314
 z164:=Tryz.sizeOf314
 v164:=Tryz.zeroValue314
def Tryz.shX:Builder.Extra Tryz.prog Tryz.shR where
 sizeBuilder:=by kernel_rfl
 liesBuilder:=by kernel_rfl
 t5:=Tryz.underlying5
 a5:=Tryz.isAgg5
 z5:=Tryz.sizeOf5
 v5:=Tryz.zeroValue5
 infoByte:=by kernel_rfl
 cellsByte:=by kernel_rfl
 sizeByte:=by kernel_rfl
 neB5:=by decide
def Tryz.lays169_ren:Ren:=⟨fun|169=>240|n=>n,fun|70=>280|9=>9|0=>0|72=>282|37=>22|127=>311|3=>3|5=>5|n=>n,fun|n=>n⟩
def Tryz.lays169:Lays.n169 Tryz.prog Tryz.lays169_ren where
 mixed:=by kernel_rfl
 f169:=Tryz.func240.trans (congrArg some (by kernel_rfl))
 t0:=Tryz.underlying0
 a0:=Tryz.isAgg0
 z0:=Tryz.sizeOf0
 v0:=Tryz.zeroValue0
 t3:=Tryz.underlying3
 a3:=Tryz.isAgg3
 z3:=Tryz.sizeOf3
 v3:=Tryz.zeroValue3
 t9:=Tryz.underlying9
 a9:=Tryz.isAgg9
 z9:=Tryz.sizeOf9
 v9:=Tryz.zeroValue9
 t37:=Tryz.underlying22
 a37:=Tryz.isAgg22
 z37:=Tryz.sizeOf22
 v37:=Tryz.zeroValue22
 t70:=Tryz.underlying280
 a70:=Tryz.isAgg280
 z70:=Tryz.sizeOf280
 v70:=Tryz.zeroValue280
 t72:=Tryz.underlying282
 a72:=Tryz.isAgg282
 z72:=Tryz.sizeOf282
 v72:=Tryz.zeroValue282
 t127:=Tryz.underlying311
 a127:=Tryz.isAgg311
 z127:=Tryz.sizeOf311
 v127:=Tryz.zeroValue311
def Tryz.shX9:Builder.Extra Tryz.prog Tryz.lays169_ren where
 sizeBuilder:=by kernel_rfl
 liesBuilder:=by kernel_rfl
 t5:=Tryz.underlying5
 a5:=Tryz.isAgg5
 z5:=Tryz.sizeOf5
 v5:=Tryz.zeroValue5
 infoByte:=by kernel_rfl
 cellsByte:=by kernel_rfl
 sizeByte:=by kernel_rfl
 neB5:=by decide
def Tryz.lays170_ren:Ren:=⟨fun|170=>236|n=>n,fun|70=>280|3=>3|0=>0|72=>282|37=>22|5=>5|n=>n,fun|n=>n⟩
def Tryz.lays170:Lays.n170 Tryz.prog Tryz.lays170_ren where
 mixed:=by kernel_rfl
 f170:=Tryz.func236.trans (congrArg some (by kernel_rfl))
 t0:=Tryz.underlying0
 a0:=Tryz.isAgg0
 z0:=Tryz.sizeOf0
 v0:=Tryz.zeroValue0
 t3:=Tryz.underlying3
 a3:=Tryz.isAgg3
 z3:=Tryz.sizeOf3
 v3:=Tryz.zeroValue3
 t37:=Tryz.underlying22
 a37:=Tryz.isAgg22
 z37:=Tryz.sizeOf22
 v37:=Tryz.zeroValue22
 t70:=Tryz.underlying280
 a70:=Tryz.isAgg280
 z70:=Tryz.sizeOf280
 v70:=Tryz.zeroValue280
 t72:=Tryz.underlying282
 a72:=Tryz.isAgg282
 z72:=Tryz.sizeOf282
 v72:=Tryz.zeroValue282
def Tryz.lays171_ren:Ren:=⟨fun|171=>238|243=>261|246=>268|283=>278|284=>279|285=>280|286=>281|129=>289|317=>288|318=>290|319=>291|320=>292|337=>297|338=>298|n=>n,fun|3=>3|9=>9|2=>2|4=>4|171=>325|0=>0|53=>151|37=>22|5=>5|173=>327|212=>334|51=>185|20=>20|213=>335|46=>244|232=>342|233=>343|n=>n,fun|17=>0|18=>1|19=>2|n=>n⟩
def Tryz.lays171:Lays.n171 Tryz.prog Tryz.lays171_ren where
 mixed:=by kernel_rfl
 f129:=Tryz.func289.trans (congrArg some (by kernel_rfl))
 f171:=Tryz.func238.trans (congrArg some (by kernel_rfl))
 f243:=Tryz.func261.trans (congrArg some (by kernel_rfl))
 f246:=Tryz.func268.trans (congrArg some (by kernel_rfl))
 f283:=Tryz.func278.trans (congrArg some (by kernel_rfl))
 f284:=Tryz.func279.trans (congrArg some (by kernel_rfl))
 f285:=Tryz.func280.trans (congrArg some (by kernel_rfl))
 f286:=Tryz.func281.trans (congrArg some (by kernel_rfl))
 f317:=Tryz.func288.trans (congrArg some (by kernel_rfl))
 f318:=Tryz.func290.trans (congrArg some (by kernel_rfl))
 f319:=Tryz.func291.trans (congrArg some (by kernel_rfl))
 f320:=Tryz.func292.trans (congrArg some (by kernel_rfl))
 f337:=Tryz.func297.trans (congrArg some (by kernel_rfl))
 f338:=Tryz.func298.trans (congrArg some (by kernel_rfl))
 t0:=Tryz.underlying0
 a0:=Tryz.isAgg0
 z0:=Tryz.sizeOf0
 v0:=Tryz.zeroValue0
 t2:=Tryz.underlying2
 a2:=Tryz.isAgg2
 z2:=Tryz.sizeOf2
 v2:=Tryz.zeroValue2
 t3:=Tryz.underlying3
 a3:=Tryz.isAgg3
 z3:=Tryz.sizeOf3
 v3:=Tryz.zeroValue3
 t4:=Tryz.underlying4
 a4:=Tryz.isAgg4
 z4:=Tryz.sizeOf4
 v4:=Tryz.zeroValue4
 t5:=Tryz.underlying5
 a5:=Tryz.isAgg5
 z5:=Tryz.sizeOf5
 v5:=Tryz.zeroValue5
 t9:=Tryz.underlying9
 a9:=Tryz.isAgg9
 z9:=Tryz.sizeOf9
 v9:=Tryz.zeroValue9
 t20:=Tryz.underlying20
 a20:=Tryz.isAgg20
 z20:=Tryz.sizeOf20
 v20:=Tryz.zeroValue20
 t37:=Tryz.underlying22
 a37:=Tryz.isAgg22
 z37:=Tryz.sizeOf22
 v37:=Tryz.zeroValue22
 t46:=Tryz.underlying244
 a46:=Tryz.isAgg244
 z46:=Tryz.sizeOf244
 v46:=Tryz.zeroValue244
 t51:=Tryz.underlying185
 a51:=Tryz.isAgg185
 z51:=Tryz.sizeOf185
 v51:=Tryz.zeroValue185
 t53:=Tryz.underlying151
 a53:=Tryz.isAgg151
 z53:=Tryz.sizeOf151
 v53:=Tryz.zeroValue151
 t171:=Tryz.underlying325
 a171:=Tryz.isAgg325
 z171:=Tryz.sizeOf325
 v171:=Tryz.zeroValue325
 t173:=Tryz.underlying327
 a173:=Tryz.isAgg327
 z173:=Tryz.sizeOf327
 v173:=Tryz.zeroValue327
 t212:=Tryz.underlying334
 a212:=Tryz.isAgg334
 z212:=Tryz.sizeOf334
 v212:=Tryz.zeroValue334
 t213:=Tryz.underlying335
 a213:=Tryz.isAgg335
 z213:=Tryz.sizeOf335
 t232:=Tryz.underlying342
 a232:=Tryz.isAgg342
 z232:=Tryz.sizeOf342
 v232:=Tryz.zeroValue342
 t233:=Tryz.underlying343
 a233:=Tryz.isAgg343
 z233:=Tryz.sizeOf343
 v233:=Tryz.zeroValue343
 g17:=by kernel_rfl
 g18:=by kernel_rfl
 g19:=by kernel_rfl
def Tryz.lays283_ren:Ren:=⟨fun|283=>278|n=>n,fun|3=>3|9=>9|4=>4|n=>n,fun|n=>n⟩
def Tryz.lays283:Lays.n283 Tryz.prog Tryz.lays283_ren where
 mixed:=by kernel_rfl
 f283:=Tryz.func278.trans (congrArg some (by kernel_rfl))
 t3:=Tryz.underlying3
 a3:=Tryz.isAgg3
 z3:=Tryz.sizeOf3
 v3:=Tryz.zeroValue3
 t4:=Tryz.underlying4
 a4:=Tryz.isAgg4
 z4:=Tryz.sizeOf4
 v4:=Tryz.zeroValue4
 t9:=Tryz.underlying9
 a9:=Tryz.isAgg9
 z9:=Tryz.sizeOf9
 v9:=Tryz.zeroValue9
namespace Sh
open Go.RowKit
def len(B b:Nat)(bs:List Value)(w:World)(h:Lib.IsBuilder 282 5 B b bs w) :
 Calls Tryz.prog 236 #[.pointer (some ⟨b,0,none⟩)] w fun e w'=>e=.returned (.int .i64 bs.length)/\w'=w:=Any.Builder_Len Tryz.lays170 B b bs w h
def write(B b:Nat)(bs:List Value)(s:ByteArray)(w:World)(h:Lib.IsBuilder 282 5 B b bs w)(hlen:bs.length+s.size<=140737488355328)(hB:B<=w.heap.size) :
 Calls Tryz.prog 237 #[.pointer (some ⟨b,0,none⟩),.string s] w fun e w'=>e=.returned (.tuple #[.int .i64 s.size,.nilIface])/\(Lib.BuilderAt 282 5 B b (.pointer (some ⟨b,0,none⟩)) (bs++Lib.strCells s) w'/\Below B w w') :=
 Any.Builder_WriteString Tryz.sh166 Tryz.shX B b bs s w h hlen hB
def string(B b:Nat)(l:List UInt8)(w:World)(h:Lib.IsBuilder 282 5 B b (Lib.byteCells l) w)(hB:B<=w.heap.size) :
 Calls Tryz.prog 240 #[.pointer (some ⟨b,0,none⟩)] w fun e w'=>e=.returned (.string ⟨l.toArray⟩)/\Below B w w':=Any.Builder_String_any Tryz.lays169 Tryz.shX9 B b l w h hB
def itoa(i:Nat)(hi:i<100)(w:World):Calls Tryz.prog 238 #[.int .i64 i] w fun e w'=>e=.returned (.string ⟨(Lib.decDigits i).toArray⟩)/\w'=w:=Any.strconv_Itoa_small Tryz.lays171 i hi w
def small(i:Nat)(hi:i<100)(w:World):Calls Tryz.prog 278 #[.int .i64 i] w fun e w'=>e=.returned (.string ⟨(Lib.decDigits i).toArray⟩)/\w'=w:=Any.internal_strconv_small Tryz.lays283 i hi w
end Sh
end Go.Proofs
namespace Go.PI.Tryz
open Go Go.Proofs Go.PI Go.Proofs.Tryz
def JF(v:PV):Option Rat:=match F4 v with
 | some x=>(match decide ((cr (qv x)).neg=x.neg/\(cr (qv x)).num=x.num/\(cr (qv x)).den=x.den) with
   |true=>some (qv x)
   |false=>none)
 |none=>none
def TK{v:PV}{q:Rat}(h:JF v=some q):v=yF q/\sz 99 q:=by
 unfold JF at h
 split at h
 .rename_i x hx
  split at h
  .rename_i hd
   cases h
   obtain⟨e1,e2,e3⟩:=mS hd;obtain⟨rfl,h1,h2,h3⟩:=Mg hx;refine⟨?_,kT h1 h2 h3 zdd⟩;obtain⟨a,b,c⟩:=x;exact zV zR (show(⟨a,b,c⟩:RatL)=cr (qv ⟨a,b,c⟩) from(by rw[show cr (qv ⟨a,b,c⟩)=⟨(cr (qv ⟨a,b,c⟩)).neg,(cr (qv ⟨a,b,c⟩)).num,(cr (qv ⟨a,b,c⟩)).den⟩ from rfl,e1,e2,e3]))
  .cases h
 .cases h
def Mi:List PV->Option (List QT)
 |[]=>some []
 | .agg [.int .i64 v,a,b,c]::l=>(match JF (.agg [a,b,c]),Mi l with
   |some q,some ts=>some ((v,q)::ts)
   |_,_=>none)
 |_=>none
def vQO:∀ {l:List PV} {ts:List QT},Mi l=some ts->l=ts.map uY/\∀ p∈ts,sz 99 p.2
 |[],ts,h=>by cases h;exact⟨rfl,fun p hp=>by cases hp⟩
 | .agg [.int .i64 v,a,b,c]::l,ts,h=>by
   simp only[Mi]at h
   split at h
   .rename_i q ts' e1 e2
    cases h
    obtain⟨h1,h2⟩:=TK e1;obtain⟨g1,g2⟩:=vQO e2;cases h1
    refine⟨by rw[g1];rfl,fun p hp=>?_⟩;rcases yI.1 hp with rfl|hp
    .exact h2
    .exact g2 p hp
   .cases h
def JG:PV->Option QF
 | .agg [.imm ts,a,b,c]=>(match Mi ts,JF (.agg [a,b,c]),Nat.ble ts.length 99 with
   |some l,some q,true=>some ⟨l,q⟩
   |_,_,_=>none)
 |_=>none
def TL{v:PV}{f:QF}(h:JG v=some f):v=zP f/\szF 99 f/\f.ts.length<=1048576:=by
 unfold JG at h
 split at h
 .split at h
  .rename_i e1 e2 e3
   cases h
   obtain⟨h1,h2⟩:=vQO e1;obtain⟨g1,g2⟩:=TK e2;cases g1
   rw[rM,h1,z6]at e3;exact⟨by rw[h1];rfl,⟨g2,h2⟩,wS e3 zdd⟩
  .cases h
 .cases h
def Mj{α:Type}(q:Rat)(K:PV->PV->PV->α):α:=fI q.num fun n=>fNn q.den fun d=>K (.bool (decide (n<0))) (zQ (zJ n.natAbs)) (zQ (if d=1 then [] else zJ d))
def vV9{α:Type}{q:Rat}{K:PV->PV->PV->α}:Mj q K=K (.bool (cr q).neg) (zQ (cr q).num) (zQ (cr q).den):=by unfold Mj;rw[JD,TG];rfl
def Mk{α:Type}:List QT->(List PV->α)->α
 |[],K=>K []
 |p::l,K=>fI p.1 fun v=>Mj p.2 fun a b c=>Mk l fun r=>K (.agg [.int .i64 v,a,b,c]::r)
def vO9{α:Type}:∀ {l:List QT} {K:List PV->α},Mk l K=K (l.map uY)
 |[],K=>rfl
 |p::l,K=>by unfold Mk;rw[JD,vV9,vO9];rfl
def Ml(f:QF):Option CRes:=Mk f.ts fun l=>Mj f.c fun a b c=>some (.data (.agg [.imm l,a,b,c]))
def vWA{f:QF}:Ml f=some (.data (zP f)):=by unfold Ml;rw[vO9,vV9];rfl
def hFF(g:QF->QF->QF):Han
 | [a,b]=>(match JG a,JG b with
   |some x,some y=>Ml (g x y)
   |_,_=>none)
 |_=>none
def hFX(g:QF->Rat->QF):Han
 | [a,b]=>(match JG a,JF b with
   |some x,some y=>Ml (g x y)
   |_,_=>none)
 |_=>none
def uJT{f:FuncId}{g:QF->QF->QF}(h:∀ x y,szF 99 x->szF 99 y->x.ts.length<=1048576->y.ts.length<=1048576->Fn f [zP x,zP y] (.data (zP (g x y)))):∀ ds r,hFF g ds=some r->Fn f ds r:=fun ds r e=>by
 unfold hFF at e
 split at e
 .split at e
  .rename_i x y hx hy
   rw[vWA]at e;cases e;obtain⟨rfl,a1,a2⟩:=TL hx;obtain⟨rfl,b1,b2⟩:=TL hy;exact h x y a1 b1 a2 b2
  .cases e
 .cases e
def uTY{f:FuncId}{g:QF->Rat->QF}(h:∀ x y,szF 99 x->sz 99 y->x.ts.length<=1048576->Fn f [zP x,yF y] (.data (zP (g x y)))):∀ ds r,hFX g ds=some r->Fn f ds r:=fun ds r e=>by
 unfold hFX at e
 split at e
 .split at e
  .rename_i x y hx hy
   rw[vWA]at e;cases e;obtain⟨rfl,a1,a2⟩:=TL hx;obtain⟨rfl,b1⟩:=TK hy;exact h x y a1 b1 a2
  .cases e
 .cases e
def TM{w:World}{A:Nat->Prop}{d:PV}{vs:List Value}(h:RDs w A [d] vs):∃ v,vs=[v]/\RD w A d v:=by
 obtain⟨h1,h2⟩:=h
 match vs,h1 with
 |[v],_=>exact⟨v,rfl,h2 0 d rfl⟩
def hSm:Han
 | [.int .i64 n]=>(match decide (0<=n/\n<10) with
   |true=>fI n fun n=>some (.data (.str ⟨#[UInt8.ofNat (48+n.toNat)]⟩))
   |false=>none)
 |_=>none
def uTX:∀ ds r,hSm ds=some r->Fn 278 ds r:=fun ds r e=>by
 unfold hSm at e
 split at e
 .rename_i n
  split at e
  .rename_i hd
   obtain⟨h0,h1⟩:=mS hd;rw[JD]at e;cases e;refine⟨by kernel_rfl,fun w A vs hA hg hd=>?_⟩;obtain⟨v,rfl,hv⟩:=TM hd;cases hv
   have:=Sh.small n.toNat zom w;rw[show((n.toNat:Nat):Int)=n by omega,Lib.decDigits_one zom]at this;exact this.mono fun e w' ⟨he,hw⟩=>⟨_,he,hw ▸ RowKit.Below.refl _ _,.str _⟩
  .cases e
 .cases e
noncomputable def xO1:List (Nat×Han):=(278,hSm)::(193,hFF fun x y=>yA x y 1)::(60,hFF fun x y=>yA x y (-1))::(62,hFX fun x y=>yA zeroQ x y)::xO0
def Mm:OOk prog G0 (lookO xO1):=lC uTX <|
 lC (uJT fun x y a b c d=>QK x y 99 99 a b zdd c d) <| lC (uJT fun x y a b c d=>FE x y 99 99 a b zdd c d) <| lC (uTY fun x y a b c=>Xm x y 99 99 a b zdd c) uRP
open Go Go.Proofs Go.PI Go.Proofs.Tryz
def vS5:Fn 199 [.imm []] (.fresh [] 5 true):=by
 refine dV zU hT (mkO func199 ntmps199 results199) zsm ?_
 (repeat' (first|refine stp ?_|(with_reducible refine brr ?_ ?_<;>intro h)|(with_reducible refine Gz ?_ ?_<;>intro h)|with_reducible refine G3 ?_ ?_));all_goals try (conv=>whnf)
 .exact KF
 all_goals refine dU rfl rfl ?_ rfl rfl
 all_goals simp
def vS4:Fn 200 [.imm []] (.fresh [] 6 true):=by
 refine dV zU hT (mkO func200 ntmps200 results200) zsm ?_
 (repeat' (first|refine stp ?_|(with_reducible refine brr ?_ ?_<;>intro h)|(with_reducible refine Gz ?_ ?_<;>intro h)|with_reducible refine G3 ?_ ?_));all_goals try (conv=>whnf)
 .exact KF
 all_goals refine dU rfl rfl ?_ rfl rfl
 all_goals simp
open Go Go.Proofs Go.PI Go.Proofs.Tryz
def xM : TypeId->Value->String->Option (FuncId×Value):=fun u v m=>match v with
 | .agg a => (match m == "Lower" with
   | true=>(match Nat.beq u 293 with
     | true=>(match a.toList with
       |[.iface t1 x1,.iface t2 x2]=>some (337,.agg #[.iface t1 x1,.iface t2 x2])
       |_=>none)
     | false=>(match a.toList with
       | []=>(match Nat.beq u 254 with
         |true=>some (315,.agg #[])
         | false=>(match Nat.beq u 256 with
           |true=>some (325,.agg #[])
           |false=>none))
       |_=>none))
   |false=>none)
 |_=>none
def uYM (v : Value) : ∀ w, (Go.method (prog.types.size + Made.depth) 293 v "Lower").run prog w = .ok (337, v) w := fun w => by kernel_rfl
def uYO (v : Value) : ∀ w, (Go.method (prog.types.size + Made.depth) 254 v "Lower").run prog w = .ok (315, v) w := fun w => by kernel_rfl
def uYN (v : Value) : ∀ w, (Go.method (prog.types.size + Made.depth) 256 v "Lower").run prog w = .ok (325, v) w := fun w => by kernel_rfl
def uRQ:MOk prog xM:=fun u v m f r h=>by
 unfold xM at h
 split at h
 .rename_i a
  obtain⟨l⟩:=a
  split at h
  .rename_i hm
   have hm:=eq_of_beq hm;subst hm
   split at h
   .rename_i hu
    have hu:=CR hu;subst hu
    split at h
    .rename_i t1 x1 t2 x2 ha
     cases h
     cases ha
     exact⟨uYM _,rfl⟩
    .cases h
   .split at h
    .rename_i ha
     cases ha
     split at h
     .rename_i hu
      have hu:=CR hu;subst hu;cases h
      exact⟨uYO _,rfl⟩
     .split at h
      .rename_i hu
       have hu:=CR hu;subst hu;cases h
       exact⟨uYN _,rfl⟩
      .cases h
    .cases h
  .cases h
 .cases h
open Go Go.Proofs Go.Proofs.Tryz Go.Lib Go.Shelf Go.RowKit
variable {B:Nat}{bs:List Value}{W:World}
def uXZ(n:Nat)(neg:Bool):List UInt8:=if n=0 then(if neg then [45] else []) else if neg then [32,45,32] else [32,43,32]
def Aa(l:List UInt8)(neg:Bool)(s:ByteArray):List UInt8:=l++uXZ l.length neg++s.data.toList
def Mo(B b:Nat)(l:List UInt8)(t:ByteArray)(w:World)(h:IsBuilder 282 5 B b (Lib.byteCells l) w)(hl:l.length+t.size<=2000000)(hB:B<=w.heap.size){Q:Ending->World->Prop}
 (hQ:∀ W,IsBuilder 282 5 B b (Lib.byteCells (l++t.data.toList)) W->Below B w W->Q (.returned (.tuple #[.int .i64 t.size,.nilIface])) W):Calls prog 237 #[.pointer (some ⟨b,0,none⟩),.string t] w Q :=
 (Sh.write B b _ t w h (by rw[Lib.byteCells_length];omega) hB).mono fun e W q=>by
  obtain⟨rfl,q1,q2⟩:=q;rw[strCells_eq,<- Lib.byteCells_append]at q1;exact hQ W (.inr q1) q2
def TN{T e:TypeId}{b:Nat}{p:Value}  {W':World}(h:BuilderAt T e B b p bs W)(hb:Below W.heap.size W W'):BuilderAt T e B b p bs W':=by
 have hlt:=h.lt;obtain⟨hB,v,hv,hown,hne⟩:=h;exact⟨hB,v,(hb.block b hlt).trans hv,hown.kept (row:=none) ⟨hb.os,hb.tape,hb.output,hb.size,fun k hk _=>hb.block k hk⟩ (Classical.em _),hne⟩
def vRF{T e:TypeId}{b:Nat}{p:Value}   (h:BuilderAt T e B b p bs W)(o:Obj):BuilderAt T e B b p bs (W.alloc o):=TN h ((Below.refl _ W).alloc (zX _) o)
def TP{b:Nat}  {W':World}(h:IsBuilder 282 5 B b bs W)(hb:Below W.heap.size W W'):IsBuilder 282 5 B b bs W':=h.elim (fun x=>.inl (TN x hb)) fun x=>.inr (TN x hb)
set_option maxHeartbeats 4000000 in
def TQ(B b:Nat)(l:List UInt8)(neg:Bool)(s:ByteArray)(w:World)(h:IsBuilder 282 5 B b (Lib.byteCells l) w)(hl:l.length+s.size<=1000000)(hB:B<=w.heap.size) :
 Calls prog 235 #[.bool neg,.string s,.pointer (some ⟨b,0,none⟩)] w fun e w'=>e=.returned (.tuple #[])/\IsBuilder 282 5 B b (Lib.byteCells (Aa l neg s)) w'/\Below B w w':=by
 have mixed:prog.follows .mixedOrders=true:=by kernel_rfl
 have hlen:(Lib.byteCells l).length=l.length:=Lib.byteCells_length l
 have two:∀ (t:List UInt8) (W:World),IsBuilder 282 5 B b (Lib.byteCells (l++t)) W->t.length<=3->Below B w W->∀ {Q},(∀ W',Hid (IsBuilder 282 5 B b (Lib.byteCells (l++t++s.data.toList)) W')->Below B w W'->Q (.returned (.tuple #[.int .i64 s.size,.nilIface])) W')->Calls prog 237 #[.pointer (some ⟨b,0,none⟩),.string s] W Q:=fun t W hW ht hw Q hQ =>
  Mo B b _ s W hW (by rw[xR];omega) (by have:=hw.size;omega) fun W' q1 q2=>hQ W' q1 (hw.trans q2)
 unfold Aa uXZ;by_cases hn:l.length=0<;>cases neg
 case pos.false =>
  rw[zE hn,zB zdd]
  go_enter func235,ntmps235
  go_wp2_with (first|(go_at_call 236;refine(Sh.len B b _ _ h).mono ?_;rintro e W1 ⟨rfl,rfl⟩)|(go_at_call 237;refine two [] _ (by rw[mV];exact h) zdd (Below.refl _ _) ?_))
  intro W' k1 k3
  go_wp2
  go_end0
  exact⟨rfl,by simpa using k1.out,k3⟩
 case pos.true =>
  rw[zE hn,zE rfl]
  go_enter func235,ntmps235
  go_wp2_with (first|(go_at_call 236;refine(Sh.len B b _ _ h).mono ?_;rintro e W1 ⟨rfl,rfl⟩)|(go_at_call 237;refine Mo B b l _ _ h (by show _+1<=_;omega) hB ?_))
  intro W1 q1 q3
  go_wp2_with (go_at_call 237;refine two _ _ q1 zdd q3 ?_)
  intro W' k1 k3
  go_wp2
  go_end0
  exact⟨rfl,by simpa using k1.out,k3⟩
 case neg.true =>
  rw[zB hn,zE rfl]
  go_enter func235,ntmps235
  go_wp2_with (first|(go_at_call 236;refine(Sh.len B b _ _ h).mono ?_;rintro e W1 ⟨rfl,rfl⟩)|(go_at_call 237;refine Mo B b l _ _ h (by show _+3<=_;omega) hB ?_))
  intro W1 q1 q3
  go_wp2_with (go_at_call 237;refine two _ _ q1 zdd q3 ?_)
  intro W' k1 k3
  go_wp2
  go_end0
  exact⟨rfl,by simpa using k1.out,k3⟩
 case neg.false =>
  rw[zB hn,zB zdd]
  go_enter func235,ntmps235
  go_wp2_with (first|(go_at_call 236;refine(Sh.len B b _ _ h).mono ?_;rintro e W1 ⟨rfl,rfl⟩)|(go_at_call 237;refine Mo B b l _ _ h (by show _+3<=_;omega) hB ?_))
  intro W1 q1 q3
  go_wp2_with (go_at_call 237;refine two _ _ q1 zdd q3 ?_)
  intro W' k1 k3
  go_wp2
  go_end0
  exact⟨rfl,by simpa using k1.out,k3⟩
open Go Go.Proofs Go.Proofs.Tryz Go.Lib Go.Shelf Go.RowKit
set_option maxHeartbeats 4000000 in
def vT3(z:ByteArray)(hz:z.size<=100)(w:World)(a1 a2 a3:Option Addr)(c1 c2 c3:Nat)
 (h239:∀ W,Calls prog 239 #[.agg #[.bool false,.slice a2 0 c2,.slice a3 0 c3]] W fun e W'=>e=.returned (.string z)/\Below W.heap.size W W') :
 Calls prog 195 #[.agg #[.slice a1 0 c1,.bool false,.slice a2 0 c2,.slice a3 0 c3]] w fun e w'=>e=.returned (.string ⟨(Aa [] false z).toArray⟩)/\Below w.heap.size w w':=by
 have mixed:prog.follows .mixedOrders=true:=by kernel_rfl
 have hI:∀ (o:Obj),IsBuilder 282 5 (w.heap.size+1) (w.heap.size+1) (Lib.byteCells []) ((w.alloc o).alloc (Obj.cells #[Value.pointer none,Value.slice none 0 0] 282)):=fun o=>by
  have:=fresh_isBuilder 282 5 (w.alloc o)
  rwa [show(w.alloc o).heap.size=w.heap.size+1 by simp]at this
 have hJ:∀ (o:Obj),IsBuilder 282 5 (w.heap.size+1) (w.heap.size+1) (Lib.byteCells []) ((w.alloc o).alloc (Obj.cells #[Value.pointer none,Value.slice none 0 0] 282)).drew:=fun o=>(hI o).elim (fun h=>.inl h.drew) fun h=>.inr h.drew
 go_enter func195,ntmps195
 go_wp2_with fail
 refine wp_loop_rounds 1 ?_;rw[rounds_succ]
 go_wp2_with (first|(go_at_call 236;refine(Sh.len _ _ _ _ (hI _)).mono ?_;rintro e W1 ⟨rfl,rfl⟩)|(go_at_call 239;refine(h239 _).mono ?_))
 go_region_with (first|(go_at_call 239;refine(h239 _).mono ?_;rintro e W ⟨rfl,hW⟩;(have k1:W.cell? ⟨w.heap.size,1,none⟩=some (.bool false):=by(rw[hW.cell yE];simp[go_sem]));(have k2:W.cell? ⟨w.heap.size,2,none⟩=some (.slice a2 0 c2):=by(rw[hW.cell yE];simp[go_sem]));(have k3:W.cell? ⟨w.heap.size,3,none⟩=some (.slice a3 0 c3):=by(rw[hW.cell yE];simp[go_sem])))|(go_at_call 235;refine(TQ _ _ [] false z W (TP (hJ _) hW) yE (by have hs:=hW.size;simp at hs;omega)).mono ?_;rintro e W2 ⟨rfl,hq,hb⟩))
 all_goals have hs:=hW.size
 all_goals have hs2:=hb.size
 all_goals simp at hs
 all_goals go_wp2_with (go_at_call 240;refine(Sh.string _ _ _ W2 hq zom).mono ?_;rintro e W3 ⟨rfl,h3⟩)
 all_goals go_wp2
 all_goals go_ret
 all_goals exact⟨rfl,((((((Below.refl _ w).alloc (zX _) _).alloc zsm _).drew).trans (hW.mono yE)).trans (hb.mono zom)).trans (h3.mono zom)⟩
set_option maxHeartbeats 8000000 in
def vT2(z:ByteArray)(hz:z.size<=100)(w:World)(b off c1 c2 c3 k1 k2 d1 d2:Nat)(p2 p3 q1 q2:Option Addr)(hb0:b<w.heap.size)(hcx:1<=c1)
 (m0:w.cell? ⟨b,off,none⟩=some (.int .i64 1)) (m1:w.cell? ⟨b,off+1,none⟩=some (.bool false)) (m2:w.cell? ⟨b,off+2,none⟩=some (.slice q1 k1 d1)) (m3:w.cell? ⟨b,off+3,none⟩=some (.slice q2 k2 d2))
 (h239a:∀ W,Below w.heap.size w W->Calls prog 239 #[.agg #[.bool false,.slice q1 k1 d1,.slice q2 k2 d2]] W fun e W'=>e=.returned (.string ⟨#[49]⟩)/\Below W.heap.size W W')
 (h239:∀ W,Below w.heap.size w W->Calls prog 239 #[.agg #[.bool true,.slice p2 1 c2,.slice p3 0 c3]] W fun e W'=>e=.returned (.string z)/\Below W.heap.size W W') :
 Calls prog 195 #[.agg #[.slice (some ⟨b,off,none⟩) 1 c1,.bool true,.slice p2 1 c2,.slice p3 0 c3]] w fun e w'=>e=.returned (.string ⟨(Aa (Aa [] false ⟨#[120,49]⟩) true z).toArray⟩)/\Below w.heap.size w w':=by
 have mixed:prog.follows .mixedOrders=true:=by kernel_rfl
 have hI:∀ (o:Obj),IsBuilder 282 5 (w.heap.size+1) (w.heap.size+1) (Lib.byteCells []) ((w.alloc o).alloc (Obj.cells #[Value.pointer none,Value.slice none 0 0] 282)):=fun o=>by
  have:=fresh_isBuilder 282 5 (w.alloc o)
  rwa [show(w.alloc o).heap.size=w.heap.size+1 by simp]at this
 have h238:∀ W,Calls prog 238 #[.int .i64 1] W fun e W'=>e=.returned (.string ⟨#[49]⟩)/\W'=W:=fun W=>by
  have:=Sh.itoa 1 zdd W
  rwa [show decDigits 1=[49] by simp[decDigits]]at this
 go_enter func195,ntmps195
 go_wp2_with fail
 refine wp_loop_rounds 2 ?_;rw[rounds_succ];have hz1:=fun o p q=>((((Below.refl w.heap.size w).alloc (zX _) o).alloc zsm p).alloc yE q)
 go_wp2_with (first|(go_at_call 238;refine(h238 _).mono ?_;rintro e W ⟨rfl,rfl⟩)|(go_at_call 239;refine(h239a _ (hz1 _ _ _)).mono ?_))
 rintro e W1 ⟨rfl,hW1⟩
 have hs1:=hW1.size;have j0:W1.cell? ⟨w.heap.size+1+1,1,none⟩=some (.bool false):=by rw[hW1.cell zsm];simp[go_sem]
 have j1:W1.cell? ⟨w.heap.size,1,none⟩=some (.bool true):=by rw[hW1.cell yE];simp[go_sem]
 have j2:W1.cell? ⟨w.heap.size,2,none⟩=some (.slice p2 1 c2):=by rw[hW1.cell yE];simp[go_sem]
 have j3:W1.cell? ⟨w.heap.size,3,none⟩=some (.slice p3 0 c3):=by rw[hW1.cell yE];simp[go_sem]
 have hB1:=TP ((hI _).elim (fun x=>.inl (vRF x _)) fun x=>.inr (vRF x _)) hW1;have hb1:Below w.heap.size w W1:=(hz1 _ _ _).trans (hW1.mono yE);simp at hs1
 go_wp2_with (go_at_call 235;refine(TQ _ _ [] false ⟨#[120,49]⟩ W1 hB1 zdd zom).mono ?_)
 rintro e W2 ⟨rfl,hq2,hb2⟩
 have hs2:=hb2.size;have i1:W2.cell? ⟨w.heap.size,1,none⟩=some (.bool true):=by rw[hb2.cell zsm,j1]
 have i2:W2.cell? ⟨w.heap.size,2,none⟩=some (.slice p2 1 c2):=by rw[hb2.cell zsm,j2]
 have i3:W2.cell? ⟨w.heap.size,3,none⟩=some (.slice p3 0 c3):=by rw[hb2.cell zsm,j3]
 have hb3:=hb1.trans (hb2.mono (by omega:w.heap.size<=_));clear j0 j1 j2 j3 hB1
 go_wp2_with fail
 rw[rounds_succ]
 go_wp2_with fail
 have hq3:IsBuilder 282 5 (w.heap.size+1) (w.heap.size+1) (Lib.byteCells (Aa [] false ⟨#[120,49]⟩)) W2.drew:=hq2.elim (fun h=>.inl h.drew) fun h=>.inr h.drew
 have hb4:=hb3.drew;have hlt:w.heap.size<W2.drew.heap.size:=by simp;omega
 go_region_with (first|(go_at_call 239;refine(h239 _ hb4).mono ?_;rintro e W ⟨rfl,hW⟩;(have k1:W.cell? ⟨w.heap.size,1,none⟩=some (.bool true):=by(rw[hW.cell hlt];exact i1));(have k2:W.cell? ⟨w.heap.size,2,none⟩=some (.slice p2 1 c2):=by(rw[hW.cell hlt];exact i2));(have k3:W.cell? ⟨w.heap.size,3,none⟩=some (.slice p3 0 c3):=by(rw[hW.cell hlt];exact i3)))|(go_at_call 235;refine(TQ _ _ _ true z W (TP hq3 hW) (by show 2+_<=_;omega) (by have hs:=hW.size;simp at hs;omega)).mono ?_;rintro e W3 ⟨rfl,hq,hb⟩))
 all_goals have hs5:=hW.size
 all_goals have hs6:=hb.size
 all_goals simp at hs5
 all_goals go_wp2_with (go_at_call 240;refine(Sh.string _ _ _ W3 hq zom).mono ?_;rintro e W4 ⟨rfl,h3⟩)
 all_goals go_wp2
 all_goals go_ret
 all_goals exact⟨rfl,((hb4.trans (hW.mono yE)).trans (hb.mono zom)).trans (h3.mono zom)⟩
open Go.Proofs Go.PI Go.Proofs.Tryz
noncomputable def xF:List (Nat×Func):=[(4,f4),(12,f12),(13,f13),(14,f14),(15,f15),(16,f16),(18,f18),(19,f19),(20,f20),(30,f30),(31,f31),(32,f32),(35,f35),(37,f37),(39,f39),(41,f41),(42,f42),(43,f43),(44,f44),(45,f45),(49,f49),(53,f53),(58,f58),(59,f59),(60,f60),(61,f61),(62,f62),(63,f63),(64,f64),(65,f65),(66,f66),(67,f67),(68,f68),(69,f69),(70,f70),(71,f71),(72,f72),(73,f73),(74,f74),(84,f84),(86,f86),(87,f87),(88,f88),(89,f89),(90,f90),(91,f91),(92,f92),(93,f93),(94,f94),(95,f95),(96,f96),(97,f97),(99,f99),(101,f101),(103,f103),(104,f104),(105,f105),(106,f106),(107,f107),(109,f109),(110,f110),(111,f111),(112,f112),(113,f113),(125,f125),(126,f126),(127,f127),(128,f128),(129,f129),(132,f132),(133,f133),(134,f134),(135,f135),(136,f136),(137,f137),(138,f138),(139,f139),(140,f140),(141,f141),(142,f142),(143,f143),(144,f144),(145,f145),(146,f146),(147,f147),(148,f148),(149,f149),(160,f160),(162,f162),(163,f163),(164,f164),(165,f165),(166,f166),(167,f167),(168,f168),(169,f169),(170,f170),(171,f171),(172,f172),(173,f173),(174,f174),(175,f175),(176,f176),(177,f177),(178,f178),(179,f179),(180,f180),(181,f181),(182,f182),(183,f183),(184,f184),(188,f188),(189,f189),(190,f190),(191,f191),(192,f192),(193,f193),(194,f194),(196,f196),(197,f197),(198,f198),(199,f199),(200,f200),(201,f201),(202,f202),(203,f203),(204,f204),(205,f205),(209,f209),(210,f210),(211,f211),(212,f212),(213,f213),(214,f214),(215,f215),(216,f216),(217,f217),(218,f218),(219,f219),(220,f220),(221,f221),(222,f222),(223,f223),(224,f224),(225,f225),(226,f226),(227,f227),(228,f228),(229,f229),(230,f230),(231,f231),(232,f232),(234,f234),(239,f239),(241,f241),(242,f242),(243,f243),(244,f244),(245,f245),(247,f247),(248,f248),(249,f249),(250,f250),(251,f251),(252,f252),(253,f253),(254,f254),(255,f255),(256,f256),(257,f257),(258,f258),(262,f262),(263,f263),(264,f264),(265,f265),(266,f266),(269,f269),(271,f271),(272,f272),(273,f273),(274,f274),(275,f275),(276,f276),(277,f277),(282,f282),(286,f286),(287,f287),(297,f297),(315,f315),(317,f317),(318,f318),(319,f319),(320,f320),(321,f321),(322,f322),(323,f323),(324,f324),(325,f325),(327,f327),(328,f328),(329,f329),(330,f330),(331,f331),(332,f332),(333,f333),(334,f334),(335,f335),(337,f337)]
set_option maxRecDepth 100000
def JH{p}:gP prog (D6 p xF):=oC func4 (oC func12 (oC func13 (oC func14 (oC func15 (oC func16 (oC func18 (oC func19 (oC func20 (oC func30 (oC func31 (oC func32 (oC func35 (oC func37 (oC func39 (oC func41 (oC func42 (oC func43 (oC func44 (oC func45 (oC func49 (oC func53 (oC func58 (oC func59 (oC func60 (oC func61 (oC func62 (oC func63 (oC func64 (oC func65 (oC func66 (oC func67 (oC func68 (oC func69 (oC func70 (oC func71 (oC func72 (oC func73 (oC func74 (oC func84 (oC func86 (oC func87 (oC func88 (oC func89 (oC func90 (oC func91 (oC func92 (oC func93 (oC func94 (oC func95 (oC func96 (oC func97 (oC func99 (oC func101 (oC func103 (oC func104 (oC func105 (oC func106 (oC func107 (oC func109 (oC func110 (oC func111 (oC func112 (oC func113 (oC func125 (oC func126 (oC func127 (oC func128 (oC func129 (oC func132 (oC func133 (oC func134 (oC func135 (oC func136 (oC func137 (oC func138 (oC func139 (oC func140 (oC func141 (oC func142 (oC func143 (oC func144 (oC func145 (oC func146 (oC func147 (oC func148 (oC func149 (oC func160 (oC func162 (oC func163 (oC func164 (oC func165 (oC func166 (oC func167 (oC func168 (oC func169 (oC func170 (oC func171 (oC func172 (oC func173 (oC func174 (oC func175 (oC func176 (oC func177 (oC func178 (oC func179 (oC func180 (oC func181 (oC func182 (oC func183 (oC func184 (oC func188 (oC func189 (oC func190 (oC func191 (oC func192 (oC func193 (oC func194 (oC func196 (oC func197 (oC func198 (oC func199 (oC func200 (oC func201 (oC func202 (oC func203 (oC func204 (oC func205 (oC func209 (oC func210 (oC func211 (oC func212 (oC func213 (oC func214 (oC func215 (oC func216 (oC func217 (oC func218 (oC func219 (oC func220 (oC func221 (oC func222 (oC func223 (oC func224 (oC func225 (oC func226 (oC func227 (oC func228 (oC func229 (oC func230 (oC func231 (oC func232 (oC func234 (oC func239 (oC func241 (oC func242 (oC func243 (oC func244 (oC func245 (oC func247 (oC func248 (oC func249 (oC func250 (oC func251 (oC func252 (oC func253 (oC func254 (oC func255 (oC func256 (oC func257 (oC func258 (oC func262 (oC func263 (oC func264 (oC func265 (oC func266 (oC func269 (oC func271 (oC func272 (oC func273 (oC func274 (oC func275 (oC func276 (oC func277 (oC func282 (oC func286 (oC func287 (oC func297 (oC func315 (oC func317 (oC func318 (oC func319 (oC func320 (oC func321 (oC func322 (oC func323 (oC func324 (oC func325 (oC func327 (oC func328 (oC func329 (oC func330 (oC func331 (oC func332 (oC func333 (oC func334 (oC func335 (oC func337 (oN))))))))))))))))))))))))))))))))))))))))))))))))))))))))))))))))))))))))))))))))))))))))))))))))))))))))))))))))))))))))))))))))))))))))))))))))))))))))))))))))))))))))))))))))))))))))))))))))))))))))))))))))
open Go Go.Proofs Go.PI Go.Proofs.Tryz
variable {v:Value}
def noM:TypeId->Value->String->Option (FuncId×Value):=fun _ _ _=>none
def TR:MOk prog noM:=fun u v m f r h=>by cases h
noncomputable abbrev JI:FuncId->Option Fx:=D6 (fun _=>false) xF
def pv1:PV:=.agg [.bool false,.imm [.int .u32 1],.imm []]
def pv2:PV:=.agg [.bool true,.imm [.int .u32 2],.imm []]
def pv0:PV:=.agg [.bool false,.imm [],.imm []]
def uQH:Fn 239 [pv1] (.data (.str ⟨#[49]⟩)):=JB (F:=JI) (n:=100000) zU Mm JH TR x7
def uQG:Fn 239 [pv2] (.data (.str ⟨#[50]⟩)):=JB (F:=JI) (n:=100000) zU Mm JH TR x7
def uQI:Fn 239 [pv0] (.data (.str ⟨#[48]⟩)):=JB (F:=JI) (n:=100000) zU Mm JH TR x7
def D7{w:World}{A:Nat->Prop}{es:List PV}  (h:RD w A (.imm es) v):∃ a c,v=.slice a es.length c:=(RV.data (κ:=fun _=>none) _ _ h).imm_len
def uCA{w:World}{A:Nat->Prop}{cs:List PV}  (h:RD w A (.agg cs) v):∃ l:List Value,v=.agg ⟨l⟩/\l.length=cs.length/\∀ i d,cs[i]?=some d->RD w A d (l.getD i undef):=by
 cases h with
 | agg _ vs hl h h1 =>
   obtain⟨l⟩:=vs;refine⟨l,rfl,by simpa using hl,fun i d hd=>?_⟩;have:=h i d hd;have e:(⟨l⟩:Array Value).getD i undef=l.getD i undef:=by by_cases hi:i<l.length<;>simp[Array.getD,hi]
   rwa [e]at this
def size_at{d:PV}{s:ByteArray}(hC:Fn 239 [d] (.data (.str s))){w:World}{A:Nat->Prop}  (hA:∀ b,A b->b<w.heap.size)(hg:Gok G0 w A)(hd:RD w A d v) :
 ∀ W,RowKit.Below w.heap.size w W->Calls prog 239 #[v] W fun e W'=>e=.returned (.string s)/\RowKit.Below W.heap.size W W':=fun W hW=>by
 have hc:∀ b o,A b->W.cell? ⟨b,o,none⟩=w.cell? ⟨b,o,none⟩:=fun b o hb=>hW.cell (hA b hb)
 refine(hC.2 W A [v] (fun b hb=>w9 (hA b hb) hW.size) (fun g e h=>(by cases h)) ⟨rfl,fun i d' h=>?_⟩).mono fun e W' ⟨u,he,hb,hr⟩=>?_
 .cases i with
  |zero=>cases h;exact hd.mono (fun _ h=>h) hc
  |succ i=>cases h
 .cases hr;exact⟨he,hb⟩
def uXX:ByteArray:=⟨(Aa [] false ⟨#[48]⟩).toArray⟩
def uXW:ByteArray:=⟨(Aa (Aa [] false ⟨#[120,49]⟩) true ⟨#[50]⟩).toArray⟩
def uT6:PV:=.agg [.imm [],.bool false,.imm [],.imm []]
def uT5:PV:=.agg [.imm [.agg [.int .i64 1,.bool false,.imm [.int .u32 1],.imm []]],.bool true,.imm [.int .u32 2],.imm []]
def TT{w:World}{A:Nat->Prop}{b:Bool}{x y:PV}{a2 a3:Value}(h2:RD w A x a2)(h3:RD w A y a3)(o2:a2.oneCell'=true)(o3:a3.oneCell'=true):RD w A (.agg [.bool b,x,y]) (.agg #[.bool b,a2,a3]):=by
 refine .agg _ _ rfl (fun i d h=>?_) fun i hi=>?_
 .match i,h with
  |0,h=>cases h;exact .bool b
  |1,h=>cases h;exact h2
  |2,h=>cases h;exact h3
 .match i,hi with
  |0,_=>rfl
  |1,_=>exact o2
  |2,_=>exact o3
def uQF:Fn 195 [uT6] (.data (.str uXX)):=by
 refine⟨by kernel_rfl,fun w A vs hA hg hd=>?_⟩;obtain⟨v,rfl,hv⟩:=TM hd;obtain⟨l,rfl,hl,h⟩:=uCA hv
 match l,hl,h with
 | [x0,x1,x2,x3],_,h =>
   have h0:=D7 (h 0 _ rfl);have h1:=(RV.data (κ:=fun _=>none) _ _ (h 1 _ rfl)).bool_inv;have h2:=h 2 _ rfl;have h3:=h 3 _ rfl;obtain⟨a1,c1,rfl⟩:∃ a c,x0=.slice a 0 c:=h0;obtain⟨a2,c2,rfl⟩:∃ a c,x2=.slice a 0 c:=D7 h2;obtain⟨a3,c3,rfl⟩:∃ a c,x3=.slice a 0 c:=D7 h3;obtain rfl:x1=.bool false:=h1;refine(vT3 ⟨#[48]⟩ zdd w a1 a2 a3 c1 c2 c3 fun W=>?_).mono fun e w' ⟨he,hb⟩=>⟨_,he,hb,.str _⟩
   exact size_at (A:=fun _=>False) (w:=W) uQI (fun b hb=>hb.elim) (fun g e h=>(by cases h)) (TT (.imm0 a2 c2) (.imm0 a3 c3) rfl rfl) W (RowKit.Below.refl _ _)
def uQE:Fn 195 [uT5] (.data (.str uXW)):=by
 refine⟨by kernel_rfl,fun w A vs hA hg hd=>?_⟩;obtain⟨v,rfl,hv⟩:=TM hd;obtain⟨l,rfl,hl,h⟩:=uCA hv
 match l,hl,h with
 | [x0,x1,x2,x3],_,h =>
   have h1:=(RV.data (κ:=fun _=>none) _ _ (h 1 _ rfl)).bool_inv;have h2:=h 2 _ rfl;have h3:=h 3 _ rfl;obtain rfl:x1=.bool true:=h1;obtain⟨a2,c2,rfl⟩:∃ a c,x2=.slice a 1 c:=D7 h2;obtain⟨a3,c3,rfl⟩:∃ a c,x3=.slice a 0 c:=D7 h3;have h0:=h 0 _ rfl;cases h0 with
   | imm _ sz b off cap val hb hcap hsz hc ht =>
     have hs:sz=4:=(hsz _ (yG.2 rfl)).symm;subst hs;have t:=fun(c:Nat) (d:PV)=>ht 0 _ rfl c d
     have g:=fun(c:Nat) (h:c<4)=>(hc 0 c zdd h).1
     simp only[Ao,Nat.add_zero]at g;have u0:=(RV.data (κ:=fun _=>none) _ _ (t 0 _ rfl)).int_inv;have u1:=(RV.data (κ:=fun _=>none) _ _ (t 1 _ rfl)).bool_inv;have t2:=t 2 _ rfl;have t3:=t 3 _ rfl;obtain⟨q1,d1,e2⟩:∃ a c,val 0 2=.slice a 1 c:=D7 t2;obtain⟨q2,d2,e3⟩:∃ a c,val 0 3=.slice a 0 c:=D7 t3;have g0:=g 0 zdd;have g1:=g 1 zdd;have g2:=g 2 zdd;have g3:=g 3 zdd;rw[u0]at g0;rw[u1]at g1;rw[e2]at g2 t2;rw[e3]at g3 t3
     exact(vT2 ⟨#[50]⟩ zdd w b off cap c2 c3 1 0 d1 d2 a2 a3 q1 q2 (hA b hb) hcap g0 g1 g2 g3
      (size_at uQH hA hg (TT t2 t3 rfl rfl)) (size_at uQG hA hg (TT h2 h3 rfl rfl))).mono fun e w' ⟨he,hb⟩=>⟨_,he,hb,.str _⟩
def TU:Han
 | [d]=>(match eqP 12 d uT6 with
   |true=>some (.data (.str uXX))
   | false=>(match eqP 12 d uT5 with
     |true=>some (.data (.str uXW))
     |false=>none))
 |_=>none
def uFV:∀ ds r,TU ds=some r->Fn 195 ds r:=fun ds r e=>by
 unfold TU at e
 split at e
 .split at e
  .rename_i h
   cases e
   rw[JA _ _ _ h];exact uQF
  .split at e
   .rename_i h
    cases e
    rw[JA _ _ _ h];exact uQE
   .cases e
 .cases e
def Mq(sz:Nat):Han
 |[.imm []]=>some (.fresh [] sz true)
 |_=>none
def vZH{f sz:Nat}(h:Fn f [.imm []] (.fresh [] sz true)):∀ ds r,Mq sz ds=some r->Fn f ds r:=fun ds r e=>by
 unfold Mq at e
 split at e
 .cases e;exact h
 .cases e
noncomputable def xO2:List (Nat×Han):=(195,TU)::(199,Mq 5)::(200,Mq 6)::xO1
def uID:OOk prog G0 (lookO xO2):=lC uFV <| lC (vZH vS5) <| lC (vZH vS4) Mm
open Go Go.Proofs Go.PI Go.Proofs.Tryz Go.PI.SX
def exP:QP:=⟨1,[⟨[(0,1)],-2⟩],⟨[(0,1)],0⟩⟩
def TV:PV:=.agg [.int .i64 1,.bool false,.imm [.int .u32 2],.imm [],.imm [.agg [.bool false,.imm [.int .u32 2],.imm []]],.imm [.agg [.bool false,.imm [.int .u32 1],.imm []]],.imm [],.imm [.int .i64 0],.int .i64 1]
def uLJ:iW (qH (solF 1 (A0 exP 1) (frX exP.obj 1)))=TV:=by with_unfolding_all rfl
def uPF:SolH exP 1 (lvB 7):=vUG rfl zdd (fun f hf=>by obtain rfl:=yG.1 hf;exact⟨by refine⟨by simp[Srt,exP],fun t ht=>?_⟩;obtain rfl:=yG.1 ht;decide,pX (z:=-2) zdd |> xV zdd,fun p hp=>by obtain rfl:=yG.1 hp;exact xV zdd (pX (z:=1) zdd)⟩) ⟨by refine⟨by simp[Srt,exP],fun t ht=>?_⟩;obtain rfl:=yG.1 ht;decide,xV zdd (pX (z:=0) zdd),fun p hp=>by obtain rfl:=yG.1 hp;exact xV zdd (pX (z:=1) zdd)⟩ zdd zdd (by
 have:∀ M,M<3->∀ k,k<3->chF M k<=31824:=by decide
 exact fun M k h1 h2=>this M (by simp[exP]at h1;omega) k zom)
def uHG:Fn 17 [nM exP] (.data (.tup [TV,.int .i64 0])):=by
 have:=vQS exP 1 (lvB 7) uPF
 rwa [uLJ]at this
def TW:Han
 | [d]=>(match eqP 12 d (nM exP) with
   |true=>some (.data (.tup [TV,.int .i64 0]))
   |false=>none)
 |_=>none
def uOU:∀ ds r,TW ds=some r->Fn 17 ds r:=fun ds r e=>by
 unfold TW at e
 split at e
 .split at e
  .rename_i h
   cases e
   rw[JA _ _ _ h];exact uHG
  .cases e
 .cases e
def uBX:Fn 19 [] (.data (.bool true)):=JB (F:=JI) (n:=100000) zU uID JH uRQ x7
def hAw:Han
 |[]=>some (.data (.bool true))
 |_=>none
def uTZ:∀ ds r,hAw ds=some r->Fn 19 ds r:=fun ds r e=>by
 unfold hAw at e
 split at e
 .cases e;exact uBX
 .cases e
noncomputable def xO3:List (Nat×Han):=(17,TW)::(19,hAw)::xO2
def uRO:OOk prog G0 (lookO xO3):=lC uOU <| lC uTZ uID
def uBW:Fn 4 [] (.data (.bool true)):=JB (F:=JI) (n:=100000) zU uRO JH uRQ x7
end Go.PI.Tryz
