/-
  PI: regions, code and functions by 'vOp'; 'vc' gives 'wp'.
-/
import Derived.Test.YtcbepncdbgaohaaGreatDoorCA1
set_option linter.all false
set_option maxHeartbeats 0
namespace Go.PI
variable {α:Type}{c:Prop}{k:IntKind}{off:Nat}{a:Int}{v:PV}{A:Prop}{agg:Bool}{B:Prop}
@[reducible] def brB (b:Bool) (A B:Prop):Prop:=match b with
  |true=>A
  |false=>B
inductive Sd where
 |ok
 |bad
def OH(c:Prop)[Decidable c]:Sd:=match decide c with
 |true=>.ok
 |false=>.bad
def sdB(b:Bool):Sd:=match b with
 |true=>.ok
 |false=>.bad
@[reducible] def brT (b:Bool) (A:Prop):Prop:=match sdB b with
  |.ok=>A
  |.bad=>False
@[reducible] def qX (c:Prop) [Decidable c] (A:Prop):Prop:=match OH c with
  |.ok=>A
  |.bad=>False
structure sideP(c:Prop)(A:Prop):Prop where
 c:c
 k:A
@[reducible] def oK  (o:Option α) (K:α->Prop):Prop:=match o with
  |some a=>K a
  |none=>False
structure ov(k:IntKind)(n:Int)(K:Int->Prop):Prop where
 k:K (k.wrap n)
def brB_iff{b:Bool}  : brB b A B↔(b=true->A)/\(b=false->B):=by cases b<;>simp[brB]
def VK{b:Bool}  (h1:b=true->A)(h2:b=false->B):brB b A B:=brB_iff.2 ⟨h1,h2⟩
def OI{b:Bool}  (h:brB b B A):brB (!b) A B:=by cases b<;>exact h
def Gu{b:Bool}  (h:b=true)(k:A):brT b A:=by subst h;exact k
def x4{b:Bool}  (h:brT b A):b=true/\A:=by cases b;exact h.elim;exact⟨rfl,h⟩
def jU  [Decidable c]  (h:c)(k:A):qX c A:=by unfold qX OH;rw[sJ h];exact k
def mG  [Decidable c]  (h:qX c A):c/\A:=by
 unfold qX OH at h;by_cases hc:c
 .rw[sJ hc]at h;exact⟨hc,h⟩
 .rw[qL hc]at h;exact h.elim
def vRT  (h:sideP c A):c/\A:=⟨h.c,h.k⟩
def BN  {o:Option α}{K:α->Prop}{a:α}(h:o=some a)(k:K a):oK o K:=by subst h;exact k
def xS  {o:Option α}{K:α->Prop}(h:oK o K):∃ a,o=some a/\K a:=by
 cases o with
 |none=>exact h.elim
 |some a=>exact⟨a,rfl,h⟩
def EY  {n m:Int}{K:Int->Prop}(e:k.wrap n=m)(h:K m):ov k n K:=by subst e;exact⟨h⟩
def OJ{n:Int}{K:Int->Prop}(h1:-9223372036854775808<=n/\n<9223372036854775808)(h:K n):ov .i64 n K:=EY (uWK h1.1 h1.2) h
def lD{n:Int}{K:Int->Prop}(h1:0<=n/\n<18446744073709551616)(h:K n):ov .u64 n K:=EY (VJ h1.1 h1.2) h
def Gv{n:Int}{K:Int->Prop}(h1:0<=n/\n<4294967296)(h:K n):ov .u32 n K:=EY (uWJ h1.1 h1.2) h
def Cr  {n:Int}{K:Int->Prop}(h:ov k n K):K (k.wrap n):=h.k
structure slK(es:List PV)(a b:Int)(K:List PV->Prop):Prop where
 k:K ((es.take b.toNat).drop a.toNat)
def uR8{es es':List PV}{b:Int}{K:List PV->Prop}(e:(es.take b.toNat).drop a.toNat=es')(k:K es'):slK es a b K:=by subst e;exact⟨k⟩
def uC1{es:List PV}{b:Int}{K:List PV->Prop}(h:slK es a b K):K ((es.take b.toNat).drop a.toNat):=h.k
def nH  {f:α->PV}{l l':List α}{b:Int}{K:List PV->Prop}(e:(l.take b.toNat).drop a.toNat=l')(k:K (l'.map f)):slK (l.map f) a b K:=uR8 (by rw[<- e,List.map_drop,Jc]) k
def OL  {f:α->PV}{l:List α}{n:Nat}  (h:∀ x,(f x).cells.length=n)(k:A):sideP (∀ e'∈l.map f,e'.cells.length=n) A:=⟨fun e he=>by obtain⟨x,_,rfl⟩:=zW.1 he;exact h x,k⟩
def nth{α:Type}:List α->Nat->Option α
 |[],_=>none
 |a::_,0=>some a
 |_::l,n+1=>nth l n
def pQ{α:Type}:∀ (l:List α) (i:Nat),nth l i=l[i]?
 |[],_=>by simp[nth]
 |a::l,0=>by simp[nth]
 |a::l,n+1=>by simp[nth,pQ l n]
def ts(t:Tm)(d:Nat)(v:PV)(j:Nat):PV:=match Nat.beq j d with
 |true=>v
 |false=>t j
def hs(h:Hp)(r:Nat)(b:Option Blk)(j:Nat):Option Blk:=match Nat.beq j r with
 |true=>b
 |false=>h j
def rQ:List Nat->Nat->Bool
 |[],_=>false
 | k::ks,j=>match Nat.beq j k with
   |true=>true
   |false=>rQ ks j
def fs(z:Fz)(ks:List Nat)(j:Nat):Bool:=match rQ ks j with
 |true=>true
 |false=>z j
def vL(j d:Nat):Nat.beq j d=decide (j=d):=by
 by_cases h:j=d
 .subst h;simp
 .rw[qL h,GQ];intro e;exact h (CR e)
def EZ{t:Tm}{d:Nat}  : ts t d v=mE t d v:=by
 funext j
 unfold ts mE;rw[vL];by_cases h:j=d<;>simp[h]
def pR{h:Hp}{d:Nat}{v:Option Blk}:hs h d v=hset h d v:=by
 funext j
 unfold hs hset;rw[vL];by_cases h:j=d<;>simp[h]
def fF:∀ (ks:List Nat) (j:Nat),rQ ks j=ks.contains j
 |[],_=>by simp[rQ]
 | k::ks,j=>by
   unfold rQ;rw[vL,fF ks j,JW];by_cases h:j=k
   .simp[h]
   .simp[h]
def OM{z:Fz}{ks:List Nat}:fs z ks=yY z ks:=by
 funext j
 unfold fs yY;rw[fF];cases ks.contains j<;>simp
def fN(n:Nat)(K:Nat->Prop):Prop:=match n with
 |0=>K 0
 |m+1=>K (m+1)
def jV{n:Nat}{K:Nat->Prop}:fN n K=K n:=by cases n<;>rfl
def bq(a b:Bool):Bool:=match a,b with
 |true,true=>true
 |false,false=>true
 |_,_=>false
def aJ{a b:Bool}:bq a b=true↔a=b:=by cases a<;>cases b<;>simp[bq]
def an(a b:Bool):Bool:=match a with
 |true=>b
 |false=>false
def uB{a b:Bool}:an a b=true↔a=true/\b=true:=by cases a<;>simp[an]
def oU{a b:Nat}:Nat.beq a b=true↔a=b:=by rw[vL];simp
def Ct{a b:Nat}:Nat.ble a b=true↔a<=b:=by rw[rM]
def nz(n:Nat):Bool:=match n with
 |0=>false
 |_+1=>true
def kQ{n:Nat}:nz n=true↔n≠0:=by cases n<;>simp[nz]
def no(b:Bool):Bool:=match b with
 |true=>false
 |false=>true
def Gw{b:Bool}:no b=true↔b=false:=by cases b<;>simp[no]
def fL:List PV->(List PV->Prop)->Prop
 |[],K=>K []
 |c::cs,K=>fL cs fun l=>K (c::l)
def BO:∀ {l:List PV} {K:List PV->Prop},fL l K=K l
 |[],_=>rfl
 |c::cs,K=>by unfold fL;rw[BO]
@[reducible] def force (v:PV) (K:PV->Prop):Prop:=match v with
  |.int k n=>K (.int k n)
  |.bool b=>K (.bool b)
  |.str s=>K (.str s)
  |.agg cs=>fL cs fun l=>K (.agg l)
  |.imm es=>K (.imm es)
  |.nilsl=>K .nilsl
  |.own r off len=>K (.own r off len)
  |.ptr r i off=>K (.ptr r i off)
  |.cptr e off=>K (.cptr e off)
  |.func fn f c=>K (.func fn f c)
  |.nilfunc=>K .nilfunc
  |.raw v=>K (.raw v)
  |.tup vs=>fL vs fun l=>K (.tup l)
  |.mp r=>K (.mp r)
  |.anyb=>K .anyb
  |.any=>K .any
def force_eq  {K:PV->Prop}:force v K=K v:=by cases v<;>simp[force,BO]
abbrev KK:=PV->Hp->List Nat->List Nat->Prop
abbrev Ti:=TypeId->Option TI
section
variable (T:Ti) (G:Gl)
def evs(t:Tm):List Operand->(List PV->Prop)->Prop
 |[],K=>K []
 |x::xs,K=>force (ev G t x) fun v=>evs t xs fun vs=>K (v::vs)
def J6{t:Tm}:∀ {l:List Operand} {K:List PV->Prop},evs G t l K=K (l.map (ev G t))
 |[],_=>rfl
 |x::xs,K=>by unfold evs;rw[force_eq,J6];rfl
def evp(t:Tm):List (Nat×Operand)->(List (Nat×PV)->Prop)->Prop
 |[],K=>K []
 |(i,x)::xs,K=>force (ev G t x) fun v=>evp t xs fun vs=>K ((i,v)::vs)
def J7{t:Tm}:∀ {l:List (Nat×Operand)} {K:List (Nat×PV)->Prop},evp G t l K=K (l.map fun(j,x)=>(j,ev G t x))
 |[],_=>rfl
 |(i,x)::xs,K=>by unfold evp;rw[force_eq,J7];rfl
def Cu(e:PV)(off n:Nat)(agg:Bool)(K:PV->Prop):Prop :=
 brB (an (Nat.beq off 0) (an (Nat.beq e.cells.length n) (bq e.isAgg agg))) (force e K)
  (brT (Nat.ble (off+n) e.cells.length) (brB agg (fL ((e.cells.drop off).take n) fun l=>K (.agg l)) (brT (Nat.beq n 1) (oK (nth e.cells off) fun v=>force v K))))
def Gx{e:PV}{n:Nat}  {K:PV->Prop}(h:Cu e off n agg K):∃ v,part e off n agg=some v/\K v:=by
 unfold Cu at h;unfold part;by_cases h1:off=0/\e.cells.length=n/\e.isAgg=agg
 .have:an (Nat.beq off 0) (an (Nat.beq e.cells.length n) (bq e.isAgg agg))=true:=by simp only[uB,oU,aJ];exact h1
  rw[this]at h;rw[zE h1];exact⟨e,rfl,by rw[<- force_eq (v:=e) (K:=K)];exact h⟩
 .have:an (Nat.beq off 0) (an (Nat.beq e.cells.length n) (bq e.isAgg agg))=false:=by
   rw[GQ];intro h2;simp only[uB,oU,aJ]at h2;exact h1 h2
  rw[this]at h;rw[zB h1];obtain⟨h2,h⟩:=x4 h;rw[Ct]at h2;rw[zE h2];cases agg with
  |true=>exact⟨_,rfl,by rw[<- BO (l:=(e.cells.drop off).take n) (K:=fun l=>K (.agg l))];exact h⟩
  | false =>
    obtain⟨h3,h⟩:=x4 h;obtain⟨v,h4,h⟩:=xS h;rw[oU]at h3;rw[pQ]at h4;refine⟨v,by simp[h3,h4],by rw[<- force_eq (v:=v) (K:=K)];exact h⟩
def OO(e:PV)(off:Nat)(v:PV)(K:PV->Prop):Prop :=
 brB (an (Nat.beq off 0) (an (Nat.beq e.cells.length v.cells.length) (bq e.isAgg v.isAgg))) (K v)
  (brT (an (Nat.ble (off+v.cells.length) e.cells.length) e.isAgg) (fL (e.cells.take off++v.cells++e.cells.drop (off+v.cells.length)) fun l=>K (.agg l)))
def vIH{e:PV}   {K:PV->Prop}(h:OO e off v K):∃ e',splice e off v=some e'/\K e':=by
 unfold OO at h;unfold splice;by_cases h1:off=0/\e.cells.length=v.cells.length/\e.isAgg=v.isAgg
 .have:an (Nat.beq off 0) (an (Nat.beq e.cells.length v.cells.length) (bq e.isAgg v.isAgg))=true:=by simp only[uB,oU,aJ];exact h1
  rw[this]at h;rw[zE h1];exact⟨v,rfl,h⟩
 .have:an (Nat.beq off 0) (an (Nat.beq e.cells.length v.cells.length) (bq e.isAgg v.isAgg))=false:=by
   rw[GQ];intro h2;simp only[uB,oU,aJ]at h2;exact h1 h2
  rw[this]at h;rw[zB h1];obtain⟨h2,h⟩:=x4 h;rw[uB,Ct]at h2;rw[zE h2];exact⟨_,rfl,by rw[<- BO (l:=e.cells.take off++v.cells++e.cells.drop (off+v.cells.length)) (K:=fun l=>K (.agg l))];exact h⟩
def Gy(fs:List (Nat×Nat×Nat)):List PV->List (Nat×PV)->(List PV->Prop)->Prop
 |cells,[],K=>K cells
 | cells,(i,v)::rest,K=>oK (nth fs i) fun f =>
   brT (an v.storable (an (Nat.beq v.cells.length f.2.2) (Nat.ble (f.1+f.2.2) cells.length))) (fL (cells.take f.1++v.cells++cells.drop (f.1+f.2.2)) fun cs=>Gy fs cs rest K)
def OP{fs:List (Nat×Nat×Nat)}:∀ {parts:List (Nat×PV)} {cells:List PV} {K:List PV->Prop},Gy fs cells parts K->∃ cs,Aw fs cells parts=some cs/\K cs
 |[],cells,K,h=>⟨cells,rfl,h⟩
 | (i,v)::rest,cells,K,h=>by
   unfold Gy at h;obtain⟨f,h1,h⟩:=xS h;obtain⟨h2,h⟩:=x4 h;rw[BO]at h;obtain⟨cs,h3,h4⟩:=OP h;obtain⟨a,b,c⟩:=f;simp only[uB,oU,Ct]at h2;rw[pQ]at h1;refine⟨cs,?_,h4⟩;unfold Aw;rw[h1];dsimp only;rw[zE h2];exact h3
def J8(sz:Nat)(agg:Bool):List PV->List (Nat×PV)->(List PV->Prop)->Prop
 |els,[],K=>K els
 |els,(i,v)::rest,K=>brT (an v.storable (an (Nat.beq v.cells.length sz) (an (bq v.isAgg agg) (Nat.ble (i+1) els.length)))) (fL (els.set i v) fun l=>J8 sz agg l rest K)
def VL{sz:Nat}{agg:Bool}:∀ {parts:List (Nat×PV)} {els:List PV} {K:List PV->Prop},J8 sz agg els parts K->∃ cs,Ci sz agg els parts=some cs/\K cs
 |[],els,K,h=>⟨els,rfl,h⟩
 | (i,v)::rest,els,K,h=>by
   unfold J8 at h;obtain⟨h2,h⟩:=x4 h;rw[BO]at h;obtain⟨cs,h3,h4⟩:=VL h;simp only[uB,oU,Ct,aJ]at h2;refine⟨cs,?_,h4⟩;unfold Ci;rw[zE ⟨h2.1,h2.2.1,h2.2.2.1,h2.2.2.2⟩];exact h3
def BP(sz:Nat)(agg:Bool):List PV->Bool
 |[]=>true
 |e::es=>an (Nat.beq e.cells.length sz) (an (bq e.isAgg agg) (BP sz agg es))
def allE_iff{sz:Nat}{agg:Bool}:∀ {es:List PV},BP sz agg es=true↔∀ e∈es,e.cells.length=sz/\e.isAgg=agg
 |[]=>by simp[BP]
 | e::es=>by
   unfold BP;rw[uB,uB,oU,aJ,allE_iff (es:=es)];simp[and_assoc]
def VM  {sz:Nat}  {f:α->PV}(h:∀ x,(f x).cells.length=sz/\(f x).isAgg=agg)(l:List α):BP sz agg (l.map f)=true :=
 allE_iff.2 fun e he=>by obtain⟨x,_,rfl⟩:=zW.1 he;exact h x
def kk(k k':IntKind):Bool:=decide (k=k')
def fG(k:IntKind)(b:Int):Int:=2^(min b.toNat k.bits)
def lG(op:BinOp)(k:IntKind)(x y:Int):Int:=match op with
 |.and=>k.wrap (BitVec.ofInt k.bits x &&& BitVec.ofInt k.bits y).toNat
 |.or=>k.wrap (BitVec.ofInt k.bits x ||| BitVec.ofInt k.bits y).toNat
 |.xor=>k.wrap (BitVec.ofInt k.bits x ^^^ BitVec.ofInt k.bits y).toNat
 |.andNot=>k.wrap (BitVec.ofInt k.bits x &&& ~~~BitVec.ofInt k.bits y).toNat
 |_=>0
noncomputable def tF:BinOp->IntKind->Int->Int->Int:=Classical.choose (⟨lG,rfl⟩:∃ f,f=lG)
noncomputable def vM:IntKind->Int->Int:=Classical.choose (⟨fG,rfl⟩:∃ f,f=fG)
def fH:tF=lG:=M6 (⟨lG,rfl⟩:∃ f,f=lG)
def Ea:vM=fG:=M6 (⟨fG,rfl⟩:∃ f,f=fG)
attribute [irreducible] tF vM
def uYU(op:BinOp)(k k':IntKind)(a b:Int)(K:PV->Prop):Prop:=match op with
 |.add=>brT (kk k k') (ov k (a+b) fun m=>K (.int k m))
 |.sub=>brT (kk k k') (ov k (a-b) fun m=>K (.int k m))
 |.mul=>brT (kk k k') (ov k (a*b) fun m=>K (.int k m))
 |.eql=>brT (kk k k') (K (.bool (a == b)))
 |.neq=>brT (kk k k') (K (.bool (a != b)))
 |.lss=>brT (kk k k') (K (.bool (decide (a<b))))
 |.leq=>brT (kk k k') (K (.bool (decide (a<=b))))
 |.gtr=>brT (kk k k') (K (.bool (decide (a > b))))
 |.geq=>brT (kk k k') (K (.bool (decide (a>=b))))
 |.quo=>brT (kk k k') (qX (b≠0) (ov k (a.tdiv b) fun m=>K (.int k m)))
 |.rem=>brT (kk k k') (qX (b≠0) (K (.int k (a.tmod b))))
 |.shl=>qX (0<=b) (ov k (a*vM k b) fun m=>K (.int k m))
 |.shr=>qX (0<=b) (K (.int k (a.fdiv (vM k b))))
 |.and|.or|.xor|.andNot=>brT (kk k k') (K (.int k (tF op k a b)))
def lH{k':IntKind}:kk k k'=true↔k=k':=by unfold kk;simp
@[reducible] def VN (es:List PV) (A B:Prop):Prop:=match es with
  |[]=>A
  |_::_=>B
@[reducible] def VO (len:Nat) (A B:Prop):Prop:=match len with
  |0=>A
  |_+1=>B
def Gz  {f:α->PV}{l:List α}  (h1:l=[]->A)(h2:l≠[]->B):VN (l.map f) A B:=by
 cases l with
 |nil=>exact h1 rfl
 |cons=>exact h2 zsm
def vYB{len:Nat}  (h1:len=0->A)(h2:len≠0->B):VO len A B:=by
 cases len with
 |zero=>exact h1 rfl
 |succ=>exact h2 zsm
def BQ(xt:TypeId)(ng:Bool)(v:PV)(K:PV->Prop):Prop:=oK (T xt) fun i=>brT i.isSlice (match v with
 |.nilsl=>K (.bool (no ng))
 |.imm es=>VN es (K .anyb) (K (.bool ng))
 |.own _ _ len=>VO len (K .anyb) (K (.bool ng))
 |_=>False)
def OQ(op:BinOp)(xt:TypeId)(x y:PV)(K:PV->Prop):Prop:=match x,y with
 |.int k a,.int k' b=>uYU op k k' a b K
 | .bool a,.bool b=>(match op with
   |.eql=>oK (T xt) fun i=>brT i.isBool (K (.bool (a == b)))
   |.neq=>oK (T xt) fun i=>brT i.isBool (K (.bool (a != b)))
   |_=>False)
 | .agg aq,.agg bs=>(match op with
   |.eql=>oK (T xt) fun i=>brT (an i.eqInts (an (Nat.beq aq.length i.fields.length) (Nat.beq bs.length i.fields.length))) (oK (jS aq bs) fun r=>K (.bool r))
   |.neq=>oK (T xt) fun i=>brT (an i.eqInts (an (Nat.beq aq.length i.fields.length) (Nat.beq bs.length i.fields.length))) (oK (jS aq bs) fun r=>K (.bool (!r)))
   |_=>False)
 | .nilsl,.nilsl=>(match op with
   |.eql=>BQ T xt false .nilsl K
   |.neq=>BQ T xt true .nilsl K
   |_=>False)
 | .imm es,.nilsl=>(match op with
   |.eql=>BQ T xt false (.imm es) K
   |.neq=>BQ T xt true (.imm es) K
   |_=>False)
 | .own r off len,.nilsl=>(match op with
   |.eql=>BQ T xt false (.own r off len) K
   |.neq=>BQ T xt true (.own r off len) K
   |_=>False)
 |_,_=>False
def Eb(t:Tm)(o:Option Operand)(d:Int)(K:Int->Prop):Prop:=match o with
 |none=>K d
 | some o=>(match ev G t o with
   |.int _ n=>K n
   |_=>False)
def OT(h:Hp)(v:PV)(K:List PV->List Nat->Prop):Prop:=match v with
 |.imm es=>K es []
 |.nilsl=>K [] []
 |.own r off len=>oK (h r) fun b=>qX (off+len<=b.els.length) (K ((b.els.drop off).take len) [r])
 |_=>False
def vOp (z:Fz) (key:Nat) (op:Op) (t:Tm) (h:Hp) (K:KK):Prop :=
 match op with
 |.move x|.assign x=>force (ev G t x) fun v=>K v h [] []
 | .pick c a b=>(match ev G t c with
   |.bool v=>brB v (force (ev G t a) fun v=>K v h [] []) (force (ev G t b) fun v=>K v h [] [])
   |_=>False)
 |.alloc e=>oK (T e) fun i=>brT (i.zok&&i.zero.ne0) (K (.ptr key 0 0) (hs h key (some ⟨[i.zero],i.zero.cells.length,i.zero.isAgg⟩)) [] [key])
 |.box _ x=>force (ev G t x) fun v=>brT (v.storable&&v.ne0) (K (.ptr key 0 0) (hs h key (some ⟨[v],v.cells.length,v.isAgg⟩)) [] [key])
 | .build ty parts=>oK (T ty) fun i=>(match i.alen with
   |0=>brT (an i.zok i.isStruct) (evp G t parts.toList fun ps=>Gy i.fields i.zero.cells ps fun cs=>K (.agg cs) h [] [])
   |n+1=>oK (T i.elem) fun e=>brT (an i.zok (nz e.size)) (evp G t parts.toList fun ps=>Gy ((List.range (n+1)).map fun j=>(j*e.size,i.elem,e.size)) i.zero.cells ps fun cs=>K (.agg cs) h [] []))
 | .buildSlice ty len parts=>oK (T ty) fun i=>oK (T i.elem) fun e =>
   brT (an (Nat.ble (len*e.size) (2^24)) (an e.zok (an i.isSlice (an (Nat.beq e.zero.cells.length e.size) (an (bq e.zero.isAgg e.agg) (nz e.size))))))
    (evp G t parts.toList fun ps=>J8 e.size e.agg (List.replicate len e.zero) ps fun els=>K (.own key 0 len) (hs h key (some ⟨els,e.size,e.agg⟩)) [] [key])
 | .load ty x=>oK (T ty) fun i=>(match ev G t x with
   |.ptr r j off=>oK (h r) fun b=>oK (nth b.els j) fun e=>Cu e off i.size i.agg fun v=>K v h [r] []
   |.cptr e off=>Cu e off i.size i.agg fun v=>K v h [] []
   |_=>False)
 | .store ty x y=>force (ev G t y) fun v=>oK (T ty) fun i=>(match ev G t x with
   |.ptr r j off=>oK (h r) fun b=>oK (nth b.els j) fun e=>brT (an (no (z r)) (an v.storable (an (Nat.beq v.cells.length i.size) (nz i.size)))) <|
    OO e off v fun e'=>K (.tup []) (hs h r (some { b with els:=b.els.set j e' })) [r] [r]
   |_=>False)
 | .nilCheck x=>(match ev G t x with
   |.ptr r i off=>K (.ptr r i off) h [] []
   |.cptr e off=>K (.cptr e off) h [] []
   |_=>False)
 |.binOp op xt x y _=>OQ T op xt (ev G t x) (ev G t y) fun v=>K v h [] []
 | .unOp op _ x=>(match op,ev G t x with
   |.not,.bool b=>K (.bool (!b)) h [] []
   |.neg,.int k n=>ov k (0-n) fun m=>K (.int k m) h [] []
   |_,_=>False)
 | .convert src dst x=>oK (T src) fun i=>oK (T dst) fun j=>(match i.kind,j.kind,ev G t x with
   |some _,some k,.int _ n=>ov k n fun m=>K (.int k m) h [] []
   |_,_,_=>False)
 |.makeFunc fn first captured=>evs G t first.toList fun f=>evs G t captured.toList fun c=>K (.func fn f c) h [] []
 | .makeSlice ty l c=>oK (T ty) fun i=>oK (T i.elem) fun e=>(match ev G t l,ev G t c with
   |.int .i64 n,.int .i64 m=>brT (an (Nat.ble e.bytes 4096) (an e.zok (an i.isSlice (an (Nat.beq e.zero.cells.length e.size) (an (bq e.zero.isAgg e.agg) (nz e.size)))))) <| qX (n=m/\0<=n/\n<=2^32) (K (.own key 0 n.toNat) (hs h key (some ⟨List.replicate n.toNat e.zero,e.size,e.agg⟩)) [] [key])
   |_,_=>False)
 | .slice ty x lo hi none=>oK (T ty) fun i=>oK (T i.elem) fun e=>(match ev G t x with
   |.imm es=>Eb G t lo 0 fun a=>Eb G t hi es.length fun b=>brT (an i.isSlice (nz e.size)) (sideP (∀ e'∈es,e'.cells.length=e.size) (qX (0<=a/\a<=b/\b<=es.length) (slK es a b fun l=>K (.imm l) h [] [])))
   |.own r off len=>Eb G t lo 0 fun a=>Eb G t hi len fun b=>oK (h r) fun k=>brT (an i.isSlice (an (Nat.beq k.sz e.size) (nz e.size))) (qX (0<=a/\a<=b/\b<=len) (K (.own r (off+a.toNat) (b.toNat-a.toNat)) h [r] []))
   |_=>False)
 | .fieldAddr s x f=>oK (T s) fun i=>oK (nth i.fields f) fun q=>(match ev G t x with
   |.ptr r j off=>brT (nz q.2.2) (K (.ptr r j (off+q.1)) h [] [])
   |.cptr e off=>brT (nz q.2.2) (K (.cptr e (off+q.1)) h [] [])
   |_=>False)
 | .field s x f=>oK (T s) fun i=>oK (nth i.fields f) fun q=>oK (T q.2.1) fun u=>(match ev G t x with
   |.agg cs=>Cu (.agg cs) q.1 u.size u.agg fun v=>K v h [] []
   |_=>False)
 | .indexAddr ty x ix=>oK (T ty) fun i=>oK (T i.elem) fun e=>(match ev G t x,ev G t ix with
   |.imm es,.int _ n=>brT (an i.isSlice (nz e.size)) (qX (0<=n/\n<es.length) (oK (nth es n.toNat) fun d=>brT (Nat.beq d.cells.length e.size) (force d fun d=>K (.cptr d 0) h [] [])))
   |.own r off len,.int _ n=>brT (an i.isSlice (nz e.size)) (qX (0<=n/\n<len) (oK (h r) fun b=>brT (Nat.beq b.sz e.size) (K (.ptr r (off+n.toNat) 0) h [r] [])))
   |.cptr d off,.int _ n=>brT (an (nz i.alen) (nz e.size)) (qX (0<=n/\n<i.alen) (K (.cptr d (off+n.toNat*e.size)) h [] []))
   |.ptr r j off,.int _ n=>brT (an (nz i.alen) (nz e.size)) (qX (0<=n/\n<i.alen) (K (.ptr r j (off+n.toNat*e.size)) h [] []))
   |_,_=>False)
 | .index ty x ix=>oK (T ty) fun i=>(match ev G t x,ev G t ix with
   |.agg cs,.int _ n=>oK (T i.elem) fun e=>brT (an (nz i.alen) (nz e.size)) (qX (0<=n/\n<i.alen) (Cu (.agg cs) (n.toNat*e.size) e.size e.agg fun v=>K v h [] []))
   |.str s,.int _ n=>brT i.isStr (qX (0<=n) (oK (s[n.toNat]?) fun b=>K (.int .u8 b.toNat) h [] []))
   |_,_=>False)
 | .extract x i=>(match ev G t x with
   |.tup vs=>oK (nth vs i) fun v=>force v fun v=>K v h [] []
   |_=>False)
 | .call { callee:=.builtin .len,args:=⟨[x]⟩,argTypes:=⟨[ty]⟩ }=>oK (T ty) fun i=>brT i.isSlice (match ev G t x with
   |.imm es=>K (.int .i64 es.length) h [] []
   |.own _ _ len=>K (.int .i64 len) h [] []
   |.nilsl=>K (.int .i64 0) h [] []
   |_=>False)
 | .call { callee:=.builtin .max,args:=⟨[x,y]⟩,argTypes:=_ }=>(match ev G t x,ev G t y with
   |.int k a,.int _ b=>K (.int k (if b > a then b else a)) h [] []
   |_,_=>False)
 | .call { callee:=.builtin .min,args:=⟨[x,y]⟩,argTypes:=_ }=>(match ev G t x,ev G t y with
   |.int k a,.int _ b=>K (.int k (if b<a then b else a)) h [] []
   |_,_=>False)
 | .call { callee:=.builtin .append,args:=⟨[x,y]⟩,argTypes:=⟨[ty,ty2]⟩ }=>oK (T ty) fun i=>oK (T ty2) fun i2=>oK (T i.elem) fun e =>
   OT h (ev G t y) fun es ks=>brT (an (BP e.size e.agg es) (an (Nat.ble e.bytes 4096) (an e.zok (an i.isSlice (an i2.isSlice (an (Nat.beq e.zero.cells.length e.size) (nz e.size))))))) (match ev G t x with
    |.nilsl=>qX (es.length<=2^32) (K (.own key 0 es.length) (hs h key (some ⟨es,e.size,e.agg⟩)) ks [key])
    |.own r off len=>oK (h r) fun b=>brT (an (Nat.beq b.sz e.size) (an (bq b.agg e.agg) (an (no (z r)) (no (rQ ks r))))) (qX (off=0/\len=b.els.length/\len+es.length<=2^32)
     (K (.own key 0 (len+es.length)) (hs (hs h r none) key (some ⟨b.els++es,e.size,e.agg⟩)) (r::ks) [r,key]))
    |_=>False)
 |_=>False
end
variable {h:Hp}
section
variable {P:Program} {T:Ti} {G:Gl}
def wT{c:Prop}[Decidable c]{x:Res}{r:PV×Hp×List Nat×List Nat}(hc:c)(hx:x=some r):need c x=some r:=by unfold need;rw[zE hc];exact hx
def Ec(hT:∀ i x,T i=some x->zK P i=x){xt:TypeId}{ng:Bool}{v:PV}{K:PV->Prop}(h:BQ T xt ng v K) :
 (zK P xt).isSlice=true/\∃ r,isNil v=some r/\K (if ng then NY r else r):=by
 unfold BQ at h;obtain⟨i,h1,h⟩:=xS h;obtain⟨h2,h⟩:=x4 h;rw[hT _ _ h1];refine⟨h2,?_⟩;cases v with
 |nilsl=>exact⟨_,rfl,by cases ng<;>exact h⟩
 | imm es =>
   cases es with
   |nil=>exact⟨_,rfl,by cases ng<;>exact h⟩
   |cons=>exact⟨_,rfl,by cases ng<;>exact h⟩
 | own r off len =>
   cases len with
   |zero=>exact⟨.anyb,by simp[isNil],by cases ng<;>exact h⟩
   |succ n=>exact⟨.bool false,by simp[isNil],by cases ng<;>exact h⟩
 |_=>exact h.elim
def uB0(hT:∀ i x,T i=some x->zK P i=x){op:BinOp}{xt yt:TypeId}{x y:Operand}{z:Fz}{key:Nat}{t:Tm}  {K:PV->Prop}(hv:OQ T op xt (ev G t x) (ev G t y) K) :
 ∃ v,zN P G z key (.binOp op xt x y yt) t h=some (v,h,[],[])/\K v:=by
 unfold OQ at hv;simp only[zN]
 split at hv
 .rename_i k a k' b e1 e2
  rw[e1,e2];dsimp only;cases op with
  |add=>obtain⟨h1,hv⟩:=x4 hv;rw[lH]at h1;rw[zE h1];exact⟨_,rfl,Cr hv⟩
  |sub=>obtain⟨h1,hv⟩:=x4 hv;rw[lH]at h1;rw[zE h1];exact⟨_,rfl,Cr hv⟩
  |mul=>obtain⟨h1,hv⟩:=x4 hv;rw[lH]at h1;rw[zE h1];exact⟨_,rfl,Cr hv⟩
  |quo=>obtain⟨h1,hv⟩:=x4 hv;rw[lH]at h1;rw[zE h1];obtain⟨h2,hv⟩:=mG hv;exact⟨_,wT h2 rfl,Cr hv⟩
  |rem=>obtain⟨h1,hv⟩:=x4 hv;rw[lH]at h1;rw[zE h1];obtain⟨h2,hv⟩:=mG hv;exact⟨_,wT h2 rfl,hv⟩
  |and=>obtain⟨h1,hv⟩:=x4 hv;rw[lH]at h1;rw[zE h1];rw[fH]at hv;unfold lG at hv;exact⟨_,rfl,hv⟩
  |or=>obtain⟨h1,hv⟩:=x4 hv;rw[lH]at h1;rw[zE h1];rw[fH]at hv;unfold lG at hv;exact⟨_,rfl,hv⟩
  |xor=>obtain⟨h1,hv⟩:=x4 hv;rw[lH]at h1;rw[zE h1];rw[fH]at hv;unfold lG at hv;exact⟨_,rfl,hv⟩
  |andNot=>obtain⟨h1,hv⟩:=x4 hv;rw[lH]at h1;rw[zE h1];rw[fH]at hv;unfold lG at hv;exact⟨_,rfl,hv⟩
  | shl =>
    obtain⟨h2,hv⟩:=mG hv;have hv:=Cr hv;rw[Ea]at hv;unfold fG at hv;by_cases e:k=k'
    .rw[zE e];exact⟨_,wT h2 rfl,hv⟩
    .rw[zB e];exact⟨_,wT h2 rfl,hv⟩
  | shr =>
    obtain⟨h2,hv⟩:=mG hv;rw[Ea]at hv;unfold fG at hv;by_cases e:k=k'
    .rw[zE e];exact⟨_,wT h2 rfl,hv⟩
    .rw[zB e];exact⟨_,wT h2 rfl,hv⟩
  |eql=>obtain⟨h1,hv⟩:=x4 hv;rw[lH]at h1;rw[zE h1];exact⟨_,rfl,hv⟩
  |neq=>obtain⟨h1,hv⟩:=x4 hv;rw[lH]at h1;rw[zE h1];exact⟨_,rfl,hv⟩
  |lss=>obtain⟨h1,hv⟩:=x4 hv;rw[lH]at h1;rw[zE h1];exact⟨_,rfl,hv⟩
  |leq=>obtain⟨h1,hv⟩:=x4 hv;rw[lH]at h1;rw[zE h1];exact⟨_,rfl,hv⟩
  |gtr=>obtain⟨h1,hv⟩:=x4 hv;rw[lH]at h1;rw[zE h1];exact⟨_,rfl,hv⟩
  |geq=>obtain⟨h1,hv⟩:=x4 hv;rw[lH]at h1;rw[zE h1];exact⟨_,rfl,hv⟩
 .rename_i a b e1 e2
  rw[e1,e2];cases op with
  |eql=>obtain⟨i,h1,hv⟩:=xS hv;obtain⟨h2,hv⟩:=x4 hv;exact⟨_,wT (by rw[hT _ _ h1];exact h2) rfl,hv⟩
  |neq=>obtain⟨i,h1,hv⟩:=xS hv;obtain⟨h2,hv⟩:=x4 hv;exact⟨_,wT (by rw[hT _ _ h1];exact h2) rfl,hv⟩
  |_=>exact hv.elim
 .rename_i aq bs e1 e2
  rw[e1,e2];cases op with
  | eql =>
    obtain⟨i,h1,hv⟩:=xS hv;obtain⟨h2,hv⟩:=x4 hv;obtain⟨r,h3,hv⟩:=xS hv;simp only[uB,oU]at h2;exact⟨_,wT (by rw[hT _ _ h1];exact h2) (by rw[h3];rfl),hv⟩
  | neq =>
    obtain⟨i,h1,hv⟩:=xS hv;obtain⟨h2,hv⟩:=x4 hv;obtain⟨r,h3,hv⟩:=xS hv;simp only[uB,oU]at h2;exact⟨_,wT (by rw[hT _ _ h1];exact h2) (by rw[h3];rfl),hv⟩
  |_=>exact hv.elim
 .rename_i e1 e2
  rw[e1,e2];cases op with
  |eql=>obtain⟨h1,r,h2,h3⟩:=Ec hT hv;exact⟨_,wT h1 (by rw[h2];rfl),h3⟩
  |neq=>obtain⟨h1,r,h2,h3⟩:=Ec hT hv;exact⟨_,wT h1 (by rw[h2];rfl),h3⟩
  |_=>exact hv.elim
 .rename_i es e1 e2
  rw[e1,e2];cases op with
  |eql=>obtain⟨h1,r,h2,h3⟩:=Ec hT hv;exact⟨_,wT h1 (by rw[h2];rfl),h3⟩
  |neq=>obtain⟨h1,r,h2,h3⟩:=Ec hT hv;exact⟨_,wT h1 (by rw[h2];rfl),h3⟩
  |_=>exact hv.elim
 .rename_i r0 off len e1 e2
  rw[e1,e2];cases op with
  |eql=>obtain⟨h1,r,h2,h3⟩:=Ec hT hv;exact⟨_,wT h1 (by rw[h2];rfl),h3⟩
  |neq=>obtain⟨h1,r,h2,h3⟩:=Ec hT hv;exact⟨_,wT h1 (by rw[h2];rfl),h3⟩
  |_=>exact hv.elim
 .exact hv.elim
def J9{t:Tm}{o:Option Operand}{d:Int}{K:Int->Prop}(h:Eb G t o d K):∃ n,((o=none/\n=d)\/∃ x k,o=some x/\ev G t x=.int k n)/\K n:=by
 unfold Eb at h;cases o with
 |none=>exact⟨d,zF ⟨rfl,rfl⟩,h⟩
 | some o =>
   dsimp only at h
   split at h
   .rename_i k n e;exact⟨n,zC ⟨o,k,rfl,e⟩,h⟩
   .exact h.elim
def vUD  {v:PV}{K:List PV->List Nat->Prop}(hv:OT h v K):∃ es ks,Ay h v=some (es,ks)/\K es ks:=by
 unfold OT at hv
 split at hv
 .exact⟨_,_,rfl,hv⟩
 .exact⟨_,_,rfl,hv⟩
 .obtain⟨b,h1,hv⟩:=xS hv
  obtain⟨h2,hv⟩:=mG hv;exact⟨_,_,by simp[Ay,h1,h2],hv⟩
 .exact hv.elim
def vTX(hT:∀ i x,T i=some x->zK P i=x){z:Fz}{key:Nat}{op:Op}{t:Tm}  {K:KK}(hv:vOp T G z key op t h K) :
 ∃ v h' rd wr,zN P G z key op t h=some (v,h',rd,wr)/\K v h' rd wr:=by
 unfold vOp at hv
 split at hv
 .rw[force_eq]at hv;exact⟨_,_,_,_,rfl,hv⟩
 .rw[force_eq]at hv;exact⟨_,_,_,_,rfl,hv⟩
 .split at hv
  .rename_i v e
   simp only[zN,e];rw[force_eq,force_eq]at hv;cases v with
   |true=>exact⟨_,_,_,_,rfl,hv⟩
   |false=>exact⟨_,_,_,_,rfl,hv⟩
  .exact hv.elim
 .obtain⟨i,h1,hv⟩:=xS hv;obtain⟨h2,hv⟩:=x4 hv
  rw[pR]at hv;have h1:=hT _ _ h1;subst h1;exact⟨_,_,_,_,wT h2 rfl,hv⟩
 .rw[force_eq]at hv
  obtain⟨h2,hv⟩:=x4 hv;rw[pR]at hv;exact⟨_,_,_,_,zE h2,hv⟩
 .obtain⟨i,h1,hv⟩:=xS hv
  have h1:=hT _ _ h1;subst h1;simp only[zN]
  split at hv
  .rename_i ha
   obtain⟨h2,hv⟩:=x4 hv;rw[J7]at hv;obtain⟨cs,h3,hv⟩:=OP hv;rw[uB]at h2;rw[ha];exact⟨_,_,_,_,wT h2 (by rw[h3]),hv⟩
  .rename_i n ha
   obtain⟨e,h1,hv⟩:=xS hv;have h1:=hT _ _ h1;subst h1;obtain⟨h2,hv⟩:=x4 hv;rw[J7]at hv;obtain⟨cs,h3,hv⟩:=OP hv;rw[uB,kQ]at h2;rw[ha];exact⟨_,_,_,_,wT h2 (by rw[h3]),hv⟩
 .obtain⟨i,h1,hv⟩:=xS hv
  have h1:=hT _ _ h1;subst h1;obtain⟨e,h1,hv⟩:=xS hv;have h1:=hT _ _ h1;subst h1;obtain⟨h2,hv⟩:=x4 hv;rw[J7]at hv;obtain⟨cs,h3,hv⟩:=VL hv;simp only[uB,oU,Ct,aJ,kQ]at h2;rw[pR]at hv;exact⟨_,_,_,_,wT h2 (by rw[h3]),hv⟩
 .obtain⟨i,h1,hv⟩:=xS hv
  have h1:=hT _ _ h1;subst h1
  split at hv
  .rename_i r j off e
   obtain⟨b,h1,hv⟩:=xS hv;obtain⟨d,h2,hv⟩:=xS hv;obtain⟨v,h3,hv⟩:=Gx hv;rw[pQ]at h2;exact⟨_,_,_,_,by simp only[zN,e,h1,h2,h3,Option.map_some],hv⟩
  .rename_i d off e
   obtain⟨v,h3,hv⟩:=Gx hv;exact⟨_,_,_,_,by simp only[zN,e,h3,Option.map_some],hv⟩
  .exact hv.elim
 .rw[force_eq]at hv
  obtain⟨i,h1,hv⟩:=xS hv;have h1:=hT _ _ h1;subst h1
  split at hv
  .rename_i r j off e
   obtain⟨b,h1,hv⟩:=xS hv;obtain⟨d,h2,hv⟩:=xS hv;obtain⟨h3,hv⟩:=x4 hv;obtain⟨e',h4,hv⟩:=vIH hv;rw[pQ]at h2;simp only[uB,oU,Gw,kQ]at h3;rw[pR]at hv;exact⟨_,_,_,_,by simp only[zN,e,h1,h2];exact wT h3 (by rw[h4];rfl),hv⟩
  .exact hv.elim
 .split at hv
  .rename_i e;exact⟨_,_,_,_,by simp only[zN,e],hv⟩
  .rename_i e;exact⟨_,_,_,_,by simp only[zN,e],hv⟩
  .exact hv.elim
 .obtain⟨v,h1,hv⟩:=uB0 hT (z:=z) (key:=key) (h:=h) hv
  exact⟨_,_,_,_,h1,hv⟩
 .split at hv
  .rename_i e;exact⟨_,_,_,_,by simp only[zN,e],hv⟩
  .rename_i e;exact⟨_,_,_,_,by simp only[zN,e],Cr hv⟩
  .exact hv.elim
 .obtain⟨i,h1,hv⟩:=xS hv
  have h1:=hT _ _ h1;subst h1;obtain⟨j,h1,hv⟩:=xS hv;have h1:=hT _ _ h1;subst h1
  split at hv
  .rename_i e1 e2 e3;exact⟨_,_,_,_,by simp only[zN,e1,e2,e3],Cr hv⟩
  .exact hv.elim
 .rw[J6,J6]at hv;exact⟨_,_,_,_,rfl,hv⟩
 .obtain⟨i,h1,hv⟩:=xS hv
  have h1:=hT _ _ h1;subst h1;obtain⟨j,h1,hv⟩:=xS hv;have h1:=hT _ _ h1;subst h1
  split at hv
  .rename_i n m e1 e2
   obtain⟨h2,hv⟩:=x4 hv;obtain⟨h3,hv⟩:=mG hv;simp only[uB,oU,Ct,aJ,kQ]at h2;rw[pR]at hv;obtain⟨g1,g2,g3,g4,g5,g6⟩:=h2;obtain⟨k1,k2,k3⟩:=h3;exact⟨_,_,_,_,by simp only[zN,e1,e2];exact wT ⟨k1,k2,k3,g1,g2,g3,g4,g5,g6⟩ rfl,hv⟩
  .exact hv.elim
 .obtain⟨i,h1,hv⟩:=xS hv
  have h1:=hT _ _ h1;subst h1;obtain⟨j,h1,hv⟩:=xS hv;have h1:=hT _ _ h1;subst h1
  split at hv
  .rename_i es e
   obtain⟨a,h1,hv⟩:=J9 hv;obtain⟨b,h2,hv⟩:=J9 hv;obtain⟨h3,hv⟩:=x4 hv;obtain⟨h4,hv⟩:=vRT hv;obtain⟨h5,hv⟩:=mG hv;have hv:=uC1 hv;simp only[uB,kQ]at h3;refine⟨_,_,_,_,?_,hv⟩;rcases h1 with⟨rfl,rfl⟩|⟨x1,k1,rfl,e1⟩<;>rcases h2 with⟨rfl,rfl⟩|⟨x2,k2,rfl,e2⟩<;>(first|simp only[zN,e,e1,e2]|simp only[zN,e,e1]|simp only[zN,e,e2]|simp only[zN,e])<;>exact wT ⟨h3.1,h4,h5.1,h5.2.1,h5.2.2,h3.2⟩ rfl
  .rename_i r off len e
   obtain⟨a,h1,hv⟩:=J9 hv;obtain⟨b,h2,hv⟩:=J9 hv;obtain⟨k,h6,hv⟩:=xS hv;obtain⟨h3,hv⟩:=x4 hv;obtain⟨h5,hv⟩:=mG hv;simp only[uB,kQ,oU]at h3;refine⟨_,_,_,_,?_,hv⟩;rcases h1 with⟨rfl,rfl⟩|⟨x1,k1,rfl,e1⟩<;>rcases h2 with⟨rfl,rfl⟩|⟨x2,k2,rfl,e2⟩<;>(first|simp only[zN,e,e1,e2,h6]|simp only[zN,e,e1,h6]|simp only[zN,e,e2,h6]|simp only[zN,e,h6])<;>exact wT ⟨h3.1,h3.2.1,h5.1,h5.2.1,h5.2.2,h3.2.2⟩ rfl
  .exact hv.elim
 .obtain⟨i,h1,hv⟩:=xS hv
  have h1:=hT _ _ h1;subst h1;obtain⟨q,h1,hv⟩:=xS hv;rw[pQ]at h1
  split at hv
  .rename_i e;obtain⟨h2,hv⟩:=x4 hv;rw[kQ]at h2;exact⟨_,_,_,_,by simp only[zN,e,h1];exact zE h2,hv⟩
  .rename_i e;obtain⟨h2,hv⟩:=x4 hv;rw[kQ]at h2;exact⟨_,_,_,_,by simp only[zN,e,h1];exact wT h2 rfl,hv⟩
  .exact hv.elim
 .obtain⟨i,h1,hv⟩:=xS hv
  have h1:=hT _ _ h1;subst h1;obtain⟨q,h1,hv⟩:=xS hv;rw[pQ]at h1;obtain⟨u,h2,hv⟩:=xS hv;have h2:=hT _ _ h2;subst h2
  split at hv
  .rename_i e
   obtain⟨v,h3,hv⟩:=Gx hv;exact⟨_,_,_,_,by simp only[zN,e,h1,h3,Option.map_some],hv⟩
  .exact hv.elim
 .obtain⟨i,h1,hv⟩:=xS hv
  have h1:=hT _ _ h1;subst h1;obtain⟨j,h1,hv⟩:=xS hv;have h1:=hT _ _ h1;subst h1
  split at hv
  .rename_i es k n e1 e2
   obtain⟨h2,hv⟩:=x4 hv;obtain⟨h3,hv⟩:=mG hv;obtain⟨d,h4,hv⟩:=xS hv;obtain⟨h5,hv⟩:=x4 hv;rw[force_eq]at hv;rw[pQ]at h4;simp only[uB,oU,kQ]at h2 h5;exact⟨_,_,_,_,by simp only[zN,e1,e2];exact wT ⟨h2.1,h3⟩ (by rw[h4];exact wT ⟨h5,h2.2⟩ rfl),hv⟩
  .rename_i r off len k n e1 e2
   obtain⟨h2,hv⟩:=x4 hv;obtain⟨h3,hv⟩:=mG hv;obtain⟨d,h4,hv⟩:=xS hv;obtain⟨h5,hv⟩:=x4 hv;simp only[uB,oU,kQ]at h2 h5;exact⟨_,_,_,_,by simp only[zN,e1,e2];exact wT ⟨h2.1,h3⟩ (by rw[h4];exact wT ⟨h5,h2.2⟩ rfl),hv⟩
  .rename_i d off k n e1 e2
   obtain⟨h2,hv⟩:=x4 hv;obtain⟨h3,hv⟩:=mG hv;simp only[uB,kQ]at h2;exact⟨_,_,_,_,by simp only[zN,e1,e2];exact wT ⟨h2.1,h3.1,h3.2,h2.2⟩ rfl,hv⟩
  .rename_i r j off k n e1 e2
   obtain⟨h2,hv⟩:=x4 hv;obtain⟨h3,hv⟩:=mG hv;simp only[uB,kQ]at h2;exact⟨_,_,_,_,by simp only[zN,e1,e2];exact wT ⟨h2.1,h3.1,h3.2,h2.2⟩ rfl,hv⟩
  .exact hv.elim
 .obtain⟨i,h1,hv⟩:=xS hv
  have h1:=hT _ _ h1;subst h1
  split at hv
  .rename_i cs k n e1 e2
   obtain⟨j,h1,hv⟩:=xS hv;have h1:=hT _ _ h1;subst h1;obtain⟨h2,hv⟩:=x4 hv;obtain⟨h3,hv⟩:=mG hv;obtain⟨v,h4,hv⟩:=Gx hv;simp only[uB,kQ]at h2;exact⟨_,_,_,_,by simp only[zN,e1,e2];exact wT ⟨h2.1,h3.1,h3.2,h2.2⟩ (by rw[h4];rfl),hv⟩
  .rename_i s k n e1 e2
   obtain⟨h2,hv⟩:=x4 hv;obtain⟨h3,hv⟩:=mG hv;obtain⟨b,h4,hv⟩:=xS hv;exact⟨_,_,_,_,by simp only[zN,e1,e2];exact wT ⟨h2,h3⟩ (by rw[h4];rfl),hv⟩
  .exact hv.elim
 .split at hv
  .rename_i vs e
   obtain⟨v,h1,hv⟩:=xS hv;rw[force_eq]at hv;rw[pQ]at h1;exact⟨_,_,_,_,by simp only[zN,e,h1,Option.map_some],hv⟩
  .exact hv.elim
 .obtain⟨i,h1,hv⟩:=xS hv
  have h1:=hT _ _ h1;subst h1;obtain⟨h2,hv⟩:=x4 hv
  split at hv
  .rename_i e;exact⟨_,_,_,_,by simp only[zN,e];exact wT h2 rfl,hv⟩
  .rename_i e;exact⟨_,_,_,_,by simp only[zN,e];exact wT h2 rfl,hv⟩
  .rename_i e;exact⟨_,_,_,_,by simp only[zN,e];exact wT h2 rfl,hv⟩
  .exact hv.elim
 .split at hv
  .rename_i e1 e2;exact⟨_,_,_,_,by simp only[zN,e1,e2],hv⟩
  .exact hv.elim
 .split at hv
  .rename_i e1 e2;exact⟨_,_,_,_,by simp only[zN,e1,e2],hv⟩
  .exact hv.elim
 .obtain⟨i,h1,hv⟩:=xS hv
  have h1:=hT _ _ h1;subst h1;obtain⟨i2,h1,hv⟩:=xS hv;have h1:=hT _ _ h1;subst h1;obtain⟨e,h1,hv⟩:=xS hv;have h1:=hT _ _ h1;subst h1;obtain⟨es,ks,h2,hv⟩:=vUD hv;obtain⟨h3,hv⟩:=x4 hv;simp only[uB,oU,Ct,kQ,allE_iff]at h3
  split at hv
  .rename_i e1
   obtain⟨h4,hv⟩:=mG hv;rw[pR]at hv;exact⟨_,_,_,_,by simp only[zN,h2,e1];exact wT h3 (wT h4 rfl),hv⟩
  .rename_i r off len e1
   obtain⟨b,h4,hv⟩:=xS hv;obtain⟨h5,hv⟩:=x4 hv;obtain⟨h6,hv⟩:=mG hv;simp only[uB,oU,aJ,Gw,fF]at h5;rw[pR,pR]at hv;exact⟨_,_,_,_,by simp only[zN,h2,e1,h4];exact wT h3 (wT ⟨h6.1,h6.2.1,h5.1,h5.2.1,h5.2.2.1,h5.2.2.2,h6.2.2⟩ rfl),hv⟩
  .exact hv.elim
 .exact hv.elim
end
variable {n0:Nat}{fn:Func}{C:wK}{c:Code}{I:rP}{D:Bool}{rs:List ResultVar}{els els':List PV}{s:St}{fp:FP}{v:PV}{args ds:List PV}{agg:Bool}{res:PV}{r:Nat}{h:Hp}{b1:Blk}{d:Option Nat}{z:Fz}{nx:Nat}
def KA(s:St)(d:Nat)(b:Bool):St:=match s with
 |⟨t,h,z,nx⟩=>⟨ts t d (.bool b),h,z,nx⟩
def VP  {d:Nat}{b:Bool}(h:s.t d=.bool b):KA s d b=s:=by
 obtain⟨t,hh,z,nx⟩:=s;unfold KA;dsimp only at h ⊢;rw[EZ]
 congr 1
 funext j
 unfold mE
 split
 .rename_i e;rw[e];exact h.symm
 .rfl
inductive Next(p:Prop):Prop
 |mk (h:p):Next p
def Next.out{p:Prop}(h:Next p):p:=by cases h;assumption
def rR(C:wK)(I:rP)(D:Bool)(f:FuncId)(args:List PV)(d:Option Nat)(K:FP->St->Prop)(s:St):Prop:=fE C I D f args d K s
def touch(a b:FP):Bool:=FP.apart a b
def rch(os:List Oper)(k:Nat):Nat->List Edge->Bool
 |0,_=>false
 | f + 1,after=>match after.any (fun e=>an (Nat.beq e.on k) (Region.binds .any e)) with
   |true=>true
   | false=>after.any fun e=>an (Region.binds .any e) (match nth os e.on with
     |some o'=>rch os k f o'.after.toList
     |none=>false)
def VQ{os:List Oper}{k:Nat}:∀ (f:Nat) (o:Oper),rch os k f o.after.toList=rN os f o k
 |0,_=>rfl
 | f+1,o=>by
   have e:(o.after.toList.any fun e=>an (Nat.beq e.on k) (Region.binds .any e))=o.after.any (fun e=>e.on == k&&Region.binds .any e):=by
    rw[<- Array.any_toList]
    congr 1
    funext e
    rw[vL,mW,uB]
    simp
   have e2:(o.after.toList.any fun e=>an (Region.binds .any e) (match nth os e.on with
    |some o'=>rch os k f o'.after.toList
    |none=>false))=o.after.any fun e=>Region.binds .any e&&(match os[e.on]? with
    |some o'=>rN os f o' k
    |none=>false):=by
    rw[<- Array.any_toList]
    congr 1
    funext e
    rw[pQ];cases os[e.on]? with
    |none=>cases Region.binds .any e<;>rfl
    |some o'=>dsimp only;rw[VQ f o'];cases Region.binds .any e<;>rfl
   unfold rch rN;rw[e,e2];cases o.after.any (fun e=>e.on == k&&Region.binds .any e) with
   |true=>rw[gY]
   |false=>rw[Bool.false_or];rfl
def clr(os:List Oper)(after:List Edge)(fp:FP):List (Nat×FP)->Bool
 |[]=>true
 | (k,f)::acc=>an (match touch f fp with
   |true=>true
   |false=>rch os k 4 after) (clr os after fp acc)
def VR{os:List Oper}{o:Oper}{fp:FP}:∀ {acc:List (Nat×FP)},clr os o.after.toList fp acc=true->rO os o fp acc=true
 |[],_=>rfl
 | (k,f)::acc,h=>by
   unfold clr at h;rw[uB]at h;rw[VQ]at h;have ih:=VR h.2;rw[J5,ih,GX];cases hb:touch f fp with
   | true =>
     have:FP.apart f fp=true:=hb;rw[this,gZ]
   | false =>
     rw[hb]at h;have:rN os 4 o k=true:=h.1;rw[this,gY]
def kR(P:Program)(G:Gl)(C:wK)(I:rP)(Le:LeT)(c:Code)(Q:Exit->St->Prop)(s:St):Prop:=Nb P G C I Le c Q s
section
variable (P:Program) (T:Ti) (G:Gl) (C:wK) (I:rP) (Le:LeT)
def goV(K:FP->St->Prop)(t:Tm)(z:Fz)(nx:Nat)(d:Option Nat)(v:PV)(h':Hp)(rd wr:List Nat):Prop:=fN (nx+1) fun nx'=>match d with
 |some d=>K ⟨rd,wr,[]⟩ ⟨ts t d v,h',z,nx'⟩
 |none=>K ⟨rd,wr,[]⟩ ⟨t,h',z,nx'⟩
def Cv(D:Bool)(o:Oper)(K:FP->St->Prop)(s:St):Prop :=
 match s with
 | ⟨t,h,z,nx⟩=>match o.op with
   | .call { callee:=.value g,args,argTypes:=_ }=>(match ev G t g with
     |.func (.func f) first captured=>evs G t args.toList fun vs=>fL (first++vs++captured) fun aq=>rR C I D f aq o.dst K ⟨t,h,z,nx⟩
     |_=>False)
   |op=>vOp T G z nx op t h (goV K t z nx o.dst)
def OU (i:Nat) (fp:FP) (acc:List (Nat×FP)):List (Nat×FP):=match fp with
    |⟨[],[],[]⟩=>acc
    |fp=>(i,fp)::acc
def Cw(R:St->Prop)(t:Tm)(h:Hp)(z:Fz)(nx:Nat)(d:Option Nat):Prop:=fN (nx+1) fun nx'=>match d with
 |some d=>R ⟨ts t d (.tup []),h,z,nx'⟩
 |none=>R ⟨t,h,z,nx'⟩
def G1(os:List Oper)(D:Bool)(i:Nat)(acc:List (Nat×FP))(o:Oper)(R:Nat->List (Nat×FP)->St->Prop)(fp:FP)(s':St):Prop:=match D with
 |true=>brT (clr os o.after.toList fp acc) (fN (i+1) fun j=>R j (OU i fp acc) s')
 |false=>R i acc s'
def KC (D:Bool) (os:List Oper) (i:Nat) (acc:List (Nat×FP)) (o:Oper) (R:Nat->List (Nat×FP)->St->Prop) (s:St):Prop :=
 match o.guard with
 |none=>Cv T G C I D o (G1 os D i acc o R) s
 | some (j,want)=>oK (nth os j) fun q=>oK q.dst fun d=>(match s with
   | ⟨t,h,z,nx⟩=>(match t d with
     | .bool b=>brB b
      (match want with
        |true=>Cv T G C I D o (G1 os D i acc o R) ⟨ts t d (.bool true),h,z,nx⟩
        |false=>Cw (R (i+1) acc) (ts t d (.bool true)) h z nx o.dst)
      (match want with
        |true=>Cw (R (i+1) acc) (ts t d (.bool false)) h z nx o.dst
        |false=>Cv T G C I D o (G1 os D i acc o R) ⟨ts t d (.bool false),h,z,nx⟩)
     |.tup []=>Cw (R (i+1) acc) t h z nx o.dst
     |_=>False))
def nI(D:Bool)(os:List Oper):Nat->List (Nat×FP)->List Oper->(St->Prop)->St->Prop
 |_,_,[],K,s=>K s
 |i,acc,o::rest,K,s=>KC T G C I D os i acc o (fun i acc s=>Next (nI D os i acc rest K s)) s
def vc:Code->(Exit->St->Prop)->St->Prop
 |.skip,Q,s=>Q .normal s
 |.label _,Q,s=>Q .normal s
 |.scope c,Q,s=>vc c (Gd Q) s
 |.seq a b,Q,s=>vc a (tX Le (vc b Q) Q) s
 | .cond c a b,Q,s=>(match ev G s.t c with
   | .bool t=>(match c with
     |.tmp i=>brB t (vc a Q (KA s i true)) (vc b Q (KA s i false))
     |_=>brB t (vc a Q s) (vc b Q s))
   |.anyb=>vc a Q s/\vc b Q s
   |_=>False)
 |.block id c,Q,s=>vc c (dO id Q) s
 |.loop c,Q,s=>kR P G C I Le c Q s
 |.exit id,Q,s=>Q (.exit id) s
 |.ret,Q,s=>Q .ret s
 | .region _ ops D,Q,s=>(match D with
   |true=>nI T G C I true ops.toList 0 [] ops.toList (Q .normal) s
   |false=>nI T G C I false ops.toList 0 [] ops.toList (Q .normal) s)
 |_,_,_=>False
end
section
variable {P:Program} {T:Ti} {G:Gl} {C:wK} {I:rP} {Le:LeT}
def uT1{K:FP->St->Prop}{t:Tm}{h':Hp}     {rd wr:List Nat}(hk:goV K t z nx d v h' rd wr):K ⟨rd,wr,[]⟩ (put { (⟨t,h,z,nx⟩:St) with h:=h',nx:=nx+1 } d v):=by
 unfold goV at hk;rw[jV]at hk;cases d with
 |none=>exact hk
 |some d=>dsimp only at hk;rw[EZ]at hk;exact hk
def VS{R:St->Prop}{t:Tm}     (hk:Cw R t h z nx d):R (put { (⟨t,h,z,nx⟩:St) with nx:=nx+1 } d (.tup [])):=by
 unfold Cw at hk;rw[jV]at hk;cases d with
 |none=>exact hk
 |some d=>dsimp only at hk;rw[EZ]at hk;exact hk
def KD{t:Tm}{d:Nat}{b:Bool}(e:t d=.bool b):ts t d (.bool b)=t:=by
 rw[EZ]
 funext j
 unfold mE
 split
 .rename_i q;rw[q];exact e.symm
 .rfl
def VT(hT:∀ i x,T i=some x->zK P i=x)  {o:Oper}{K:FP->St->Prop}  (h:Cv T G C I D o K s):uG P G C I D o K s:=by
 obtain⟨t,hh,z,nx⟩:=s;unfold Cv at h;unfold uG;dsimp only at h
 split at h
 .rename_i g args ts e
  rw[e];dsimp only
  split at h
  .rename_i f first captured e2
   rw[e2];rw[J6,BO]at h;exact h
  .exact h.elim
 .rename_i op hne
  obtain⟨v,h',rd,wr,h1,h2⟩:=vTX hT h;have h2:=uT1 (h:=hh) h2
  split
  .rename_i g args ts e;exact absurd e (hne g args ts)
  .rename_i g m args ts e;rw[e]at h1;simp[zN]at h1
  .rw[h1];exact h2
def OV (hI:∀ f args (J J':PV->St->Prop) s,(∀ v s,J v s->J' v s)->I f args J s->I f args J' s) (hT:∀ i x,T i=some x->zK P i=x) {os:List Oper} {K:St->Prop} :
 ∀ (l:List Oper) (i:Nat) (acc:List (Nat×FP)) (s:St),nI T G C I false os i acc l K s->wpF P G C I (os.map (·.dst)) l K s
 |[],_,_,_,h=>h
 | o :: rest,i,acc,s,h=>by
   have run:∀ s,Cv T G C I false o (G1 os false i acc o (fun i acc s=>Next (nI T G C I false os i acc rest K s))) s->uG P G C I false o (fun _ s'=>wpF P G C I (os.map (·.dst)) rest K s') s :=
    fun s h=>Gf hI (fun fp s' h=>OV hI hT rest _ _ _ (Next.out h)) (VT hT h)
   have pass:∀ t hh z nx,Cw (fun s=>Next (nI T G C I false os (i+1) acc rest K s)) t hh z nx o.dst->wpF P G C I (os.map (·.dst)) rest K (put { (⟨t,hh,z,nx⟩:St) with nx:=nx+1 } o.dst (.tup [])) :=
    fun t hh z nx h=>OV hI hT rest _ _ _ (VS h).out
   unfold nI KC at h;unfold wpF;cases hg:o.guard with
   |none=>rw[hg]at h;exact run s h
   | some jw =>
     obtain⟨j,want⟩:=jw;rw[hg]at h;dsimp only at h ⊢;obtain⟨q,h1,h3⟩:=xS h;clear h;obtain⟨d,h2,h⟩:=xS h3;clear h3;rw[pQ]at h1;rw[<- VB,h1];dsimp only[Option.bind_some];rw[h2];dsimp only;obtain⟨t,hh,z,nx⟩:=s;dsimp only at h ⊢;unfold guarded
     split at h
     .rename_i b e
      rw[e];cases b with
      | true =>
        rw[KD e]at h;cases want with
        |true=>exact⟨fun _=>run _ h,fun hw=>by cases hw⟩
        |false=>exact⟨fun hw=>(by cases hw),fun _=>pass _ _ _ _ h⟩
      | false =>
        rw[KD (b:=false) e]at h;cases want with
        |true=>exact⟨fun hw=>(by cases hw),fun _=>pass _ _ _ _ h⟩
        |false=>exact⟨fun _=>run _ h,fun hw=>by cases hw⟩
     .rename_i e
      rw[e];exact pass _ _ _ _ h
     .exact h.elim
def uQ6{i:Nat}  {acc:List (Nat×FP)}:OU i fp acc=BL i fp acc:=by
 obtain⟨a,b,c⟩:=fp;unfold OU BL;cases a<;>cases b<;>cases c<;>rfl
def OW (hI:∀ f args (J J':PV->St->Prop) s,(∀ v s,J v s->J' v s)->I f args J s->I f args J' s) (hT:∀ i x,T i=some x->zK P i=x) {os:List Oper} {K:St->Prop} :
 ∀ (l:List Oper) (i:Nat) (acc:List (Nat×FP)) (s:St),nI T G C I true os i acc l K s->wpT P G C I os i acc l K s
 |[],_,_,_,h=>by unfold wpT;exact h
 | o :: rest,i,acc,s,h=>by
   have run:∀ s,Cv T G C I true o (G1 os true i acc o (fun i acc s=>Next (nI T G C I true os i acc rest K s))) s ->
    uG P G C I true o (fun fp s'=>rO os o fp acc=true/\wpT P G C I os (i+1) (BL i fp acc) rest K s') s :=
    fun s h=>Gf hI (fun fp s' h=>by
     obtain⟨h1,h⟩:=x4 h;rw[jV,uQ6]at h
     exact⟨VR h1,OW hI hT rest _ _ _ h.out⟩) (VT hT h)
   have pass:∀ t hh z nx,Cw (fun s=>Next (nI T G C I true os (i+1) acc rest K s)) t hh z nx o.dst->wpT P G C I os (i+1) acc rest K (put { (⟨t,hh,z,nx⟩:St) with nx:=nx+1 } o.dst (.tup [])) :=
    fun t hh z nx h=>OW hI hT rest _ _ _ (VS h).out
   unfold nI KC at h;unfold wpT;cases hg:o.guard with
   |none=>rw[hg]at h;exact run s h
   | some jw =>
     obtain⟨j,want⟩:=jw;rw[hg]at h;dsimp only at h ⊢;obtain⟨q,h1,h3⟩:=xS h;clear h;obtain⟨d,h2,h⟩:=xS h3;clear h3;rw[pQ]at h1;rw[h1];dsimp only[Option.bind_some];rw[h2];dsimp only;obtain⟨t,hh,z,nx⟩:=s;dsimp only at h ⊢;unfold guarded
     split at h
     .rename_i b e
      rw[e];cases b with
      | true =>
        rw[KD e]at h;cases want with
        |true=>exact⟨fun _=>run _ h,fun hw=>by cases hw⟩
        |false=>exact⟨fun hw=>(by cases hw),fun _=>pass _ _ _ _ h⟩
      | false =>
        rw[KD (b:=false) e]at h;cases want with
        |true=>exact⟨fun hw=>(by cases hw),fun _=>pass _ _ _ _ h⟩
        |false=>exact⟨fun _=>run _ h,fun hw=>by cases hw⟩
     .rename_i e
      rw[e];exact pass _ _ _ _ h
     .exact h.elim
def fJ(hI:∀ f args (J J':PV->St->Prop) s,(∀ v s,J v s->J' v s)->I f args J s->I f args J' s)(hT:∀ i x,T i=some x->zK P i=x) :
 ∀ (c:Code) (Q:Exit->St->Prop) (s:St),vc P T G C I Le c Q s->wp P G C I Le c Q s
 |.skip,_,_,h=>h
 |.label _,_,_,h=>h
 | .seq a b,Q,s,h=>by
   refine wp_mono hI a _ _ s (fun e s h=>?_) (fJ hI hT a _ s h);cases e<;>unfold tX at h ⊢<;>first|exact h|(obtain⟨s',h1,h2⟩:=h;exact⟨s',h1,fJ hI hT b _ s' h2⟩)
 | .cond c a b,Q,s,h=>by
   unfold vc at h;unfold wp
   split at h
   .rename_i t e
    rw[e];dsimp only
    split at h
    .rename_i i
     refine⟨fun ht=>?_,fun ht=>?_⟩
     .subst ht;rw[VP e]at h;exact fJ hI hT a _ s h
     .subst ht;exact fJ hI hT b _ s (by rw[VP (b:=false) e]at h;exact h)
    .refine⟨fun ht=>?_,fun ht=>?_⟩
     .subst ht;exact fJ hI hT a _ s h
     .subst ht;exact fJ hI hT b _ s h
   .rename_i e;rw[e];exact⟨fJ hI hT a _ s h.1,fJ hI hT b _ s h.2⟩
   .exact h.elim
 |.block id c,Q,s,h=>fJ hI hT c _ s h
 |.loop c,Q,s,h=>h
 |.exit id,_,_,h=>h
 |.ret,_,_,h=>h
 | .region id ops D,Q,s,h=>by
   obtain⟨l⟩:=ops;cases D with
   |false=>exact uK0 (OV hI hT _ _ _ _ h)
   |true=>exact uKZ (OW hI hT _ _ _ _ h)
 |.rangeFunc ..,_,_,h=>h
 |.scope c,Q,s,h=>fJ hI hT c _ s h
 |.goto _,_,_,h=>h
 |.refuse _,_,_,h=>h
end
section
variable {P:Program} {T:Ti} {G:Gl} {C:wK} {I:rP} {Le:LeT} {Q:Exit->St->Prop} {K:St->Prop} {s:St}
def OX(h:Q .normal s):vc P T G C I Le .skip Q s:=h
def OY{l:Nat}(h:Q .normal s):vc P T G C I Le (.label l) Q s:=h
def OZ  (h:vc P T G C I Le c (Gd Q) s):vc P T G C I Le (.scope c) Q s:=h
def Oa{a b:Code}(h:vc P T G C I Le a (tX Le (vc P T G C I Le b Q) Q) s):vc P T G C I Le (.seq a b) Q s:=h
def Ob{id:Nat}  (h:vc P T G C I Le c (dO id Q) s):vc P T G C I Le (.block id c) Q s:=h
def Oc  (h:kR P G C I Le c Q s):vc P T G C I Le (.loop c) Q s:=h
def Od{id:Nat}(h:Q (.exit id) s):vc P T G C I Le (.exit id) Q s:=h
def Oe(h:Q .ret s):vc P T G C I Le .ret Q s:=h
def Og{id:Nat}{ops:List Oper}  (h:match D with
 |true=>nI T G C I true ops 0 [] ops (Q .normal) s
 |false=>nI T G C I false ops 0 [] ops (Q .normal) s):vc P T G C I Le (.region id ops.toArray D) Q s:=h
def VU(G:Gl)(c:Operand)(A B:St->Prop)(s:St):Prop:=match s with
 | ⟨t,h,z,nx⟩=>match ev G t c with
   | .bool b=>(match c with
     |.tmp i=>brB b (Next (A ⟨ts t i (.bool true),h,z,nx⟩)) (Next (B ⟨ts t i (.bool false),h,z,nx⟩))
     |_=>brB b (Next (A ⟨t,h,z,nx⟩)) (Next (B ⟨t,h,z,nx⟩)))
   |.anyb=>Next (A ⟨t,h,z,nx⟩)/\Next (B ⟨t,h,z,nx⟩)
   |_=>False
def Oh{c:Operand}{a b:Code}(h:VU G c (vc P T G C I Le a Q) (vc P T G C I Le b Q) s):vc P T G C I Le (.cond c a b) Q s:=by
 obtain⟨t,hh,z,nx⟩:=s;unfold VU at h;dsimp only at h;unfold vc;dsimp only;cases e:ev G t c with
 | bool x =>
   rw[e]at h;dsimp only at h ⊢;cases c with
   |tmp i=>cases x<;>exact h.out
   |_=>cases x<;>exact h.out
 |anyb=>rw[e]at h;exact⟨h.1.out,h.2.out⟩
 |_=>rw[e]at h;exact h.elim
def G3{A B:Prop}(h1:Next A)(h2:Next B):Next A/\Next B:=⟨h1,h2⟩
def wR  (h:K s):tX (LeS G,n0) K Q .normal s:=by
 unfold tX;exact⟨s,fun _ _ _ _ _ A κ _ hR=>⟨A,κ,hR⟩,h⟩
def Oi{id:Nat}(h:Q (.exit id) s):tX Le K Q (.exit id) s:=by unfold tX;exact h
def Oj(h:Q .ret s):tX Le K Q .ret s:=by unfold tX;exact h
def VV  {s':St}(hle:LeS G n0 s s')(h:K s'):tX (LeS G,n0) K Q .normal s:=by unfold tX;exact⟨s',hle,h⟩
def Ol(h:K s):nG K Q .normal s:=h
def Om{id:Nat}(h:Q (.exit id) s):nG K Q (.exit id) s:=h
def Oo(h:Q .ret s):nG K Q .ret s:=h
def Oq{id:Nat}(h:Q .normal s):dO id Q .normal s:=h
def Ot{id id':Nat}(h:brB (Nat.beq id' id) (Next (Q .normal s)) (Next (Q (.exit id') s))):dO id Q (.exit id') s:=by
 unfold dO;rw[vL]at h;by_cases e:id'=id
 .simp only[e,fA]at h;simp only[e,uA];exact h.out
 .simp only[e,iL]at h;simp only[e,tE];exact h.out
def Ou{id:Nat}(h:Q .ret s):dO id Q .ret s:=h
def Ov(h:Q .ret s):Gd Q .ret s:=h
section
variable {D:Bool} {os:List Oper} {i:Nat} {acc:List (Nat×FP)} {o:Oper} {rest:List Oper}
def Ow(h:K s):nI T G C I D os i acc [] K s:=by unfold nI;exact h
def Ox(h:KC T G C I D os i acc o (fun i acc s=>Next (nI T G C I D os i acc rest K s)) s):nI T G C I D os i acc (o::rest) K s:=h
end
end
def fK(ds:List PV)(i:Nat):PV:=match nth ds i with
 |some v=>v
 |none=>.tup []
def G5  : fK ds=iO ds:=by
 funext i
 unfold fK iO;rw[pQ];cases h:ds[i]? with
 |none=>simp[List.getD,h]
 |some v=>simp[List.getD,h]
def noH:Hp:=fun _=>none
def noZ:Fz:=fun _=>false
def G6(ds:List PV):St:=⟨fK ds,noH,noZ,0⟩
def VW  : G6 ds=start ds:=by unfold G6 start;rw[G5];rfl
def G7(T:Ti)(s:St)(r:ResultVar)(K:PV->Prop):Prop:=match r with
 |.tmp t=>force (s.t t) K
 | .cell x ty=>oK (T ty) fun i=>(match s.t x with
   |.ptr r j off=>oK (s.h r) fun b=>oK (nth b.els j) fun e=>Cu e off i.size i.agg K
   |_=>False)
def G8(T:Ti)(s:St):List ResultVar->(List PV->Prop)->Prop
 |[],K=>K []
 |r::rs,K=>G7 T s r fun v=>G8 T s rs fun vs=>K (v::vs)
def rS(T:Ti)(rs:List ResultVar)(K:PV->St->Prop)(e:Exit)(s:St):Prop:=match e with
 | .normal|.ret=>(match rs with
   |[r]=>G7 T s r fun v=>K v s
   |rs=>G8 T s rs fun vs=>K (.tup vs) s)
 |_=>False
section
variable {P:Program} {T:Ti} {G:Gl}
def VX(hT:∀ i x,T i=some x->zK P i=x)  {r:ResultVar}{K:PV->Prop}(h:G7 T s r K):∃ v,EW P s r=some v/\K v:=by
 unfold G7 at h;unfold EW;cases r with
 |tmp t=>dsimp only at h;rw[force_eq]at h;exact⟨_,rfl,h⟩
 | cell x ty =>
   dsimp only at h ⊢;obtain⟨i,h1,h⟩:=xS h;have h1:=hT _ _ h1;subst h1
   split at h
   .rename_i r j off e
    obtain⟨b,h2,h⟩:=xS h;obtain⟨d,h3,h⟩:=xS h;obtain⟨v,h4,h⟩:=Gx h;rw[pQ]at h3;exact⟨v,by rw[e];dsimp only;rw[h2];dsimp only;rw[h3];exact h4,h⟩
   .exact h.elim
def VY(hT:∀ i x,T i=some x->zK P i=x){s:St}:∀ {rs:List ResultVar} {K:List PV->Prop},G8 T s rs K->∃ vs,iP P s rs=some vs/\K vs
 |[],K,h=>⟨[],rfl,h⟩
 | r::rs,K,h=>by
   obtain⟨v,h1,h⟩:=VX hT h;obtain⟨vs,h2,h⟩:=VY hT h;exact⟨v::vs,by unfold iP;rw[h1,h2],h⟩
def VZ{s:St}:∀ {rs:List ResultVar} {vs:List PV},iP P s rs=some vs->vs.length=rs.length
 |[],vs,h=>by simp[iP]at h;subst h;rfl
 | r::rs,vs,h=>by
   unfold iP at h
   split at h
   .rename_i v vs' h1 h2;cases h;simp[VZ h2]
   .cases h
def Ed(hT:∀ i x,T i=some x->zK P i=x)  {K:PV->St->Prop}{e:Exit}  (h:rS T rs K e s):aH P rs K e s:=by
 have key:∀ rs:List ResultVar,(match rs with
  |[r]=>G7 T s r fun v=>K v s
  |rs=>G8 T s rs fun vs=>K (.tup vs) s)->∃ v,BI P rs s=some v/\K v s:=by
  intro rs h
  have many:(∀ r,rs≠[r])->(G8 T s rs fun vs=>K (.tup vs) s)->∃ v,BI P rs s=some v/\K v s:=by
   intro hne h;obtain⟨vs,h1,h⟩:=VY hT h;refine⟨.tup vs,?_,h⟩;have hl:=VZ h1;unfold BI;rw[h1]
   match vs,hl with
   |[],_=>rfl
   | [v],hl =>
     obtain⟨r,hr⟩:=JN.1 hl.symm;exact absurd hr (hne r)
   |_::_::_,_=>rfl
  match rs,h,many with
  |[],h,many=>exact many (fun r=>by simp) h
  | [r],h,_ =>
    obtain⟨v,h1,h⟩:=VX hT h;exact⟨v,by unfold BI iP;rw[h1];simp[iP],h⟩
  |_::_::_,h,many=>exact many (fun r=>by simp) h
 unfold rS at h;cases e with
 |normal=>exact key rs h
 |ret=>exact key rs h
 |_=>exact h.elim
abbrev VC(P:Program)(T:Ti)(G:Gl)(n0:Nat):Code->(Exit->St->Prop)->St->Prop:=vc P T G (FnC P G) (FnH P G) (LeS G,n0)
def fM(hT:∀ i x,T i=some x->zK P i=x)   {Q Q':Exit->St->Prop}  (hq:∀ e s,Q e s->Q' e s)(h:VC P T G n0 c Q s):wp P G (FnC P G) (FnH P G) (LeS G,n0) c Q' s :=
 wp_mono FnH.mono c _ _ s hq (fJ FnH.mono hT c _ s h)
def Ee(h:Hp)(v d:PV):Prop:=gives h v d
def zL  {d d':PV}{ks:List Nat}(e:frz h 4 v=some (d',ks))(e':d'=d):Ee h v d:=⟨ks,e' ▸ e⟩
def KE(els:List PV)(sz:Nat)(agg:Bool)(v:PV)(s:St):Prop:=OC els sz agg v s
def KF{sz:Nat}   : KE [] sz agg .nilsl s:=zF ⟨rfl,rfl⟩
def dU  {sz:Nat}  {len:Nat}  (hb:s.h r=some ⟨els',sz,agg⟩)(e:els'=els)(hl:len=els.length)(hz:s.z r=false)(hf:zZ (frz s.h 4) els=some (els,[])):KE els sz agg (.own r 0 len) s:=by subst e;exact vMU hl hb hz hf
def yJ(hm:P.follows .mixedOrders=true)(hT:∀ i x,T i=some x->zK P i=x){f:FuncId}    {nt:Nat}(ok:FnOk P f fn c rs nt)  (hl:ds.length<=nt){d:PV}
 (h:VC P T G 0 c (rS T rs fun v s=>Ee s.h v d) (G6 ds)):FnC P G f ds (.data d) :=
 uUA hm ok hl (by rw[<- VW];exact fM hT (fun e s h=>Ed hT h) h)
def dV(hm:P.follows .mixedOrders=true)(hT:∀ i x,T i=some x->zK P i=x){f:FuncId}    {nt:Nat}(ok:FnOk P f fn c rs nt)  (hl:ds.length<=nt)  {sz:Nat} 
 (h:VC P T G 0 c (rS T rs (KE els sz agg)) (G6 ds)) (hd:sz≠0:=by decide):FnC P G f ds (.fresh els sz agg) :=
 uO6 hm ok hl hd (by rw[<- VW];exact fM hT (fun e s h=>Ed hT h) h)
def fZ(z:Fz)(ks:List Nat)(K:Fz->Prop):Prop:=match ks with
 |[]=>K z
 |k::ks=>K (fs z (k::ks))
def G9  {ks:List Nat}{K:Fz->Prop}(h:fZ z ks K):K (yY z ks):=by
 cases ks with
 |nil=>rw[uFX];exact h
 |cons k ks=>rw[<- OM];exact h
def oV(K:FP->St->Prop)(t:Tm)(d:Option Nat)(v:PV)(h:Hp)(z:Fz)(nx:Nat)(fp:FP):Prop:=force v fun v=>match d with
 |some d=>K fp ⟨ts t d v,h,z,nx⟩
 |none=>K fp ⟨t,h,z,nx⟩
def BR{K:FP->St->Prop}{t:Tm}       (hk:oV K t d v h z nx fp):K fp (put ⟨t,h,z,nx⟩ d v):=by
 unfold oV at hk;rw[force_eq]at hk;cases d with
 |none=>exact hk
 |some d=>dsimp only at hk;rw[EZ]at hk;exact hk
def zT    {f:FuncId}  {ks:List Nat}   {K:FP->St->Prop}{t:Tm}    (hC:C f ds (.data v))(hf:zZ (frz h 6) args=some (ds,ks))
 (hk:fZ z ks fun z=>fN (nx+1) fun nx=>oV K t d v h z nx ⟨ks,[],ks⟩):rR C I D f args d K ⟨t,h,z,nx⟩ :=
 uA7 (s:=⟨t,h,z,nx⟩) hC hf (by
  have:=G9 hk;rw[jV]at this
  exact BR this)
def BS    {f:FuncId}  {ks:List Nat}  {sz:Nat}   {K:FP->St->Prop}{t:Tm}    (hC:C f ds (.fresh els sz agg))(hf:zZ (frz h 6) args=some (ds,ks))
 (hk:fZ z ks fun z=>fN nx fun key=>fN (nx+1) fun nx=>oV K t d (.own key 0 els.length) (hs h key (some ⟨els,sz,agg⟩)) z nx ⟨ks,[key],ks⟩):rR C I D f args d K ⟨t,h,z,nx⟩ :=
 vSW (s:=⟨t,h,z,nx⟩) hC hf (by
  have:=G9 hk;rw[jV,jV,pR]at this
  exact BR this)
def uA8   {f:FuncId}   {K:FP->St->Prop}  (h:I f args (fun v s'=>K ⟨[],[],[]⟩ (put { s' with t:=s.t } d v)) s):rR C I false f args d K s :=
 uG7 h
end
def qY    {f:FuncId}  {ks:List Nat}  {b:Blk}   {K:FP->St->Prop}{t:Tm}    (hC:C f ds (.own (some b) res b1))(hf:zZ (cv h 6 (some r)) args=some (ds,ks))(hb:h r=some b)(hz:z r=false)(hr:ks.contains r=false)(hn:nrs b)
 (hk:fZ z ks fun z=>fN nx fun key=>fN (nx+1) fun nx=>oV K t d (rk key res) (hs (hs h r none) key (some b1)) z nx ⟨r::ks,[r,key],ks⟩):rR C I D f args d K ⟨t,h,z,nx⟩ :=
 zF ⟨⟨r::ks,[r,nx],ks⟩,_,_,zC (zF ⟨6,ds,some (r,b),res,b1,hf,hC,(fun r' b' e=>by cases e;exact⟨hb,hz,by simpa using hr,hn⟩),rfl,rfl,rfl,rfl⟩),by
  have:=G9 hk;rw[jV,jV,pR,pR]at this
  exact BR this⟩
def lI    {f:FuncId}  {ks:List Nat}    {K:FP->St->Prop}{t:Tm}    (hC:C f ds (.own none res b1))(hf:zZ (cv h 6 none) args=some (ds,ks))
 (hk:fZ z ks fun z=>fN nx fun key=>fN (nx+1) fun nx=>oV K t d (rk key res) (hs h key (some b1)) z nx ⟨ks,[key],ks⟩):rR C I D f args d K ⟨t,h,z,nx⟩ :=
 zF ⟨⟨ks,[nx],ks⟩,_,_,zC (zF ⟨6,ds,none,res,b1,hf,hC,(fun r' b' e=>by cases e),rfl,rfl,rfl,rfl⟩),by
  have:=G9 hk;rw[jV,jV,pR]at this
  exact BR this⟩
def tG    {f:FuncId}  {ks:List Nat}  {b:Blk}   {K:FP->St->Prop}{t:Tm}    (hC:C f ds (.wrt b v b1))(hf:zZ (cv h 6 (some r)) args=some (ds,ks))(hb:h r=some b)(hz:z r=false)(hr:ks.contains r=false)(hn:nrs b)
 (hk:fZ z ks fun z=>fN (nx+1) fun nx=>oV K t d v (hs h r (some b1)) z nx ⟨r::ks,[r],ks⟩):rR C I D f args d K ⟨t,h,z,nx⟩ :=
 zF ⟨⟨r::ks,[r],ks⟩,_,_,zC (zC (zF ⟨6,ds,r,b,b1,hf,hC,⟨hb,hz,by simpa using hr,hn⟩,rfl,rfl,rfl⟩)),by
  have:=G9 hk;rw[jV,pR]at this
  exact BR this⟩
def Oy(v:PV)(b1:Blk)(pv:PV)(s:St):Prop:=Gi v b1 pv s
def qZ{pv:PV}  {sz:Nat}   (hv:pv=v)(hnv:nr 3 v=true)(hb:s.h 0=some ⟨els',sz,agg⟩)(e:els'=els)(hz:s.z 0=false)(hn:∀ e∈els,nr 3 e=true):Oy v ⟨els,sz,agg⟩ pv s:=by
 subst e;exact⟨hv,hnv,hb,hz,hn⟩
def HB(res:PV)(b1:Blk)(v:PV)(s:St):Prop:=ES res b1 v s
def BU   {sz:Nat}    (hv:v=rk r res)(hb:s.h r=some ⟨els',sz,agg⟩)(e:els'=els)(hz:s.z r=false)(hn:∀ e∈els,nr 3 e=true)(ho:A8 ⟨els,sz,agg⟩ res):HB res ⟨els,sz,agg⟩ v s:=by
 subst e;exact⟨hn,ho,zF ⟨r,hv,hb,hz⟩⟩
def Va   {sz:Nat}   (hv:v=rkn res)(e:els=[])(ho:A8 ⟨els,sz,agg⟩ res):HB res ⟨els,sz,agg⟩ v s :=
 ⟨fun x hx=>(by rw[show(⟨els,sz,agg⟩:Blk).els=[] from e]at hx;cases hx),ho,zC ⟨hv,e⟩⟩
def rT  {sz:Nat}  (h:∀ e∈els,nr 3 e=true/\e≠.any):nrs ⟨els,sz,agg⟩:=fun e he=>(h e he).1
section
variable {P:Program} {T:Ti} {G:Gl}
def Vb(hm:P.follows .mixedOrders=true)(hT:∀ i x,T i=some x->zK P i=x){f:FuncId}    {nt:Nat}(ok:FnOk P f fn c rs nt)  (hl:ds.length<=nt){b:Blk} 
 (h:VC P T G 1 c (rS T rs (HB res b1)) ⟨fK ds,hs noH 0 (some b),noZ,1⟩):FnC P G f ds (.own (some b) res b1) :=
 ⟨ok.callable,by
   have:=EX hm ok hl (G:=G) (K:=ES res b1) (s:=wE (some b)) (by
    show wp P G (FnC P G) (FnH P G) (LeS G,1) c _ ⟨iO ds,hset noH 0 (some b),noZ,1⟩
    rw[<- G5,<- pR];exact fM hT (fun e s h=>Ed hT h) h)
   exact this⟩
def KG(hm:P.follows .mixedOrders=true)(hT:∀ i x,T i=some x->zK P i=x){f:FuncId}    {nt:Nat}(ok:FnOk P f fn c rs nt)  (hl:ds.length<=nt)  
 (h:VC P T G 1 c (rS T rs (HB res b1)) ⟨fK ds,noH,noZ,1⟩):FnC P G f ds (.own none res b1) :=
 ⟨ok.callable,by
   have:=EX hm ok hl (G:=G) (K:=ES res b1) (s:=wE none) (by
    show wp P G (FnC P G) (FnH P G) (LeS G,1) c _ ⟨iO ds,noH,noZ,1⟩
    rw[<- G5];exact fM hT (fun e s h=>Ed hT h) h)
   exact this⟩
def iQ(hm:P.follows .mixedOrders=true)(hT:∀ i x,T i=some x->zK P i=x){f:FuncId}    {nt:Nat}(ok:FnOk P f fn c rs nt)  (hl:ds.length<=nt){b:Blk} 
 (h:VC P T G 1 c (rS T rs (Oy v b1)) ⟨fK ds,hs noH 0 (some b),noZ,1⟩):FnC P G f ds (.wrt b v b1) :=
 ⟨ok.callable,by
   have:=EX hm ok hl (G:=G) (K:=Gi v b1) (s:=wE (some b)) (by
    show wp P G (FnC P G) (FnH P G) (LeS G,1) c _ ⟨iO ds,hset noH 0 (some b),noZ,1⟩
    rw[<- G5,<- pR];exact fM hT (fun e s h=>Ed hT h) h)
   exact this⟩
end
attribute [irreducible] rR kR Ee KE HB Oy
def yD{p:Prop}(h:p:=by exact zL rfl rfl):p:=h
end Go.PI
