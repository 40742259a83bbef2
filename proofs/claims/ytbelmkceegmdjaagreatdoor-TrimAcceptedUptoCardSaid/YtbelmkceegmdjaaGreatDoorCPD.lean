/-
  A walk's steps up to a branch, and behind it in both sides.
-/
import Derived.Test.YtbelmkceegmdjaaGreatDoorCPC
import Derived.OpenShut
import Derived.OpenVars
import Derived.Lib.LaidTab
set_option linter.unusedVariables false
set_option linter.unusedSimpArgs false
set_option linter.unnecessarySimpa false
set_option maxHeartbeats 0
namespace Go.PI
@[reducible] def brB (b:Bool) (A B:Prop):Prop:=match b with
  | true=>A
  | false=>B
inductive Sd where
 | ok
 | bad
def uPA(c:Prop)[Decidable c]:Sd:=match decide c with
 | true=>.ok
 | false=>.bad
def sdB(b:Bool):Sd:=match b with
 | true=>.ok
 | false=>.bad
@[reducible] def brT (b:Bool) (A:Prop):Prop:=match sdB b with
  | .ok=>A
  | .bad=>False
@[reducible] def vDW (c:Prop) [Decidable c] (A:Prop):Prop:=match uPA c with
  | .ok=>A
  | .bad=>False
structure sideP(c:Prop)(A:Prop):Prop where
 c:c
 k:A
@[reducible] def oK {α:Type} (o:Option α) (K:α->Prop):Prop:=match o with
  | some a=>K a
  | none=>False
structure ov(k:IntKind)(n:Int)(K:Int->Prop):Prop where
 k:K (k.wrap n)
theorem brB_iff{b:Bool}{A B:Prop}:brB b A B↔(b=true->A)/\(b=false->B):=by cases b<;>simp[brB]
theorem vN5{b:Bool}{A B:Prop}(h1:b=true->A)(h2:b=false->B):brB b A B:=brB_iff.2 ⟨h1,h2⟩
theorem vN4{b:Bool}{A B:Prop}(h:brB b B A):brB (!b) A B:=by cases b<;>exact h
theorem vLE{b:Bool}{A:Prop}(h:b=true)(k:A):brT b A:=by subst h; exact k
theorem zAZ{b:Bool}{A:Prop}(h:brT b A):b=true/\A:=by cases b; exact h.elim; exact⟨rfl,h⟩
theorem zBJ{c:Prop}[Decidable c]{A:Prop}(h:c)(k:A):vDW c A:=by unfold vDW uPA; rw[rB4 h]; exact k
theorem zBL{c:Prop}[Decidable c]{A:Prop}(h:vDW c A):c/\A:=by
 unfold vDW uPA at h;by_cases hc:c
 .rw[rB4 hc]at h; exact⟨hc,h⟩
 .rw[rBC hc]at h; exact h.elim
theorem vRL{c A:Prop}(h:sideP c A):c/\A:=⟨h.c,h.k⟩
theorem zKC{α:Type}{o:Option α}{K:α->Prop}{a:α}(h:o=some a)(k:K a):oK o K:=by subst h; exact k
theorem zA0{α:Type}{o:Option α}{K:α->Prop}(h:oK o K):∃ a,o=some a/\K a:=by
 cases o with
 | none=>exact h.elim
 | some a=>exact⟨a,rfl,h⟩
theorem vRZ{k:IntKind}{n m:Int}{K:Int->Prop}(e:k.wrap n=m)(h:K m):ov k n K:=by subst e; exact⟨h⟩
theorem uB1{n:Int}{K:Int->Prop}(h1:-9223372036854775808<=n/\n<9223372036854775808)(h:K n):ov .i64 n K:=vRZ (uOX h1.1 h1.2) h
theorem zFH{n:Int}{K:Int->Prop}(h1:0<=n/\n<18446744073709551616)(h:K n):ov .u64 n K:=vRZ (uOW h1.1 h1.2) h
theorem vJY{n:Int}{K:Int->Prop}(h1:0<=n/\n<4294967296)(h:K n):ov .u32 n K:=vRZ (uOV h1.1 h1.2) h
theorem zJC{k:IntKind}{n:Int}{K:Int->Prop}(h:ov k n K):K (k.wrap n):=h.k
structure slK(es:List PV)(a b:Int)(K:List PV->Prop):Prop where
 k:K ((es.take b.toNat).drop a.toNat)
theorem uL6{es es':List PV}{a b:Int}{K:List PV->Prop}(e:(es.take b.toNat).drop a.toNat=es')(k:K es'):slK es a b K:=by subst e; exact⟨k⟩
theorem uBF{es:List PV}{a b:Int}{K:List PV->Prop}(h:slK es a b K):K ((es.take b.toNat).drop a.toNat):=h.k
theorem zB2{α:Type}{f:α->PV}{l l':List α}{a b:Int}{K:List PV->Prop}(e:(l.take b.toNat).drop a.toNat=l')(k:K (l'.map f)):slK (l.map f) a b K:=uL6 (by rw[<- e,List.map_drop,List.map_take]) k
theorem zJV{α:Type}{f:α->PV}{l:List α}{n:Nat}{A:Prop}(h:∀ x,(f x).cells.length=n)(k:A):sideP (∀ e'∈l.map f,e'.cells.length=n) A:=⟨fun e he=>by obtain⟨x,_,rfl⟩:=rA5.1 he; exact h x,k⟩
def nth{α:Type}:List α->Nat->Option α
 | [],_=>none
 | a::_,0=>some a
 | _::l,n+1=>nth l n
theorem zD9{α:Type}:∀ (l:List α) (i:Nat),nth l i=l[i]?
 | [],_=>by simp[nth]
 | a::l,0=>by simp[nth]
 | a::l,n+1=>by simp[nth,zD9 l n]
def ts(t:Tm)(d:Nat)(v:PV)(j:Nat):PV:=match Nat.beq j d with
 | true=>v
 | false=>t j
def hs(h:Hp)(r:Nat)(b:Option Blk)(j:Nat):Option Blk:=match Nat.beq j r with
 | true=>b
 | false=>h j
def vPT:List Nat->Nat->Bool
 | [],_=>false
 | k::ks,j=>match Nat.beq j k with
   | true=>true
   | false=>vPT ks j
def fs(z:Fz)(ks:List Nat)(j:Nat):Bool:=match vPT ks j with
 | true=>true
 | false=>z j
theorem zGF(j d:Nat):Nat.beq j d=decide (j=d):=by
 by_cases h:j=d
 .subst h; simp
 .rw[rBC h,rDB]; intro e; exact h (Nat.eq_of_beq_eq_true e)
theorem vLT{t:Tm}{d:Nat}{v:PV}:ts t d v=vGB t d v:=by
 funext j
 unfold ts vGB;rw[zGF];by_cases h:j=d<;>simp[h]
theorem zFU{h:Hp}{d:Nat}{v:Option Blk}:hs h d v=hset h d v:=by
 funext j
 unfold hs hset;rw[zGF];by_cases h:j=d<;>simp[h]
theorem zJE:∀ (ks:List Nat) (j:Nat),vPT ks j=ks.contains j
 | [],_=>by simp[vPT]
 | k::ks,j=>by
   unfold vPT;rw[zGF,zJE ks j,rFV];by_cases h:j=k
   .simp[h]
   .simp[h]
theorem uNI{z:Fz}{ks:List Nat}:fs z ks=vCI z ks:=by
 funext j
 unfold fs vCI;rw[zJE];cases ks.contains j<;>simp
def fN(n:Nat)(K:Nat->Prop):Prop:=match n with
 | 0=>K 0
 | m+1=>K (m+1)
theorem zKV{n:Nat}{K:Nat->Prop}:fN n K=K n:=by cases n<;>rfl
def bq(a b:Bool):Bool:=match a,b with
 | true,true=>true
 | false,false=>true
 | _,_=>false
theorem zLF{a b:Bool}:bq a b=true↔a=b:=by cases a<;>cases b<;>simp[bq]
def an(a b:Bool):Bool:=match a with
 | true=>b
 | false=>false
theorem zCH{a b:Bool}:an a b=true↔a=true/\b=true:=by cases a<;>simp[an]
theorem zC4{a b:Nat}:Nat.beq a b=true↔a=b:=by rw[zGF]; simp
theorem zJK{a b:Nat}:Nat.ble a b=true↔a<=b:=by rw[Nat.ble_eq]
def nz(n:Nat):Bool:=match n with
 | 0=>false
 | _+1=>true
theorem zFZ{n:Nat}:nz n=true↔n≠0:=by cases n<;>simp[nz]
def no(b:Bool):Bool:=match b with
 | true=>false
 | false=>true
theorem uF1{b:Bool}:no b=true↔b=false:=by cases b<;>simp[no]
def fL:List PV->(List PV->Prop)->Prop
 | [],K=>K []
 | c::cs,K=>fL cs fun l=>K (c::l)
theorem vNP:∀ {l:List PV} {K:List PV->Prop},fL l K=K l
 | [],_=>rfl
 | c::cs,K=>by unfold fL; rw[vNP]
@[reducible] def force (v:PV) (K:PV->Prop):Prop:=match v with
  | .int k n=>K (.int k n)
  | .bool b=>K (.bool b)
  | .str s=>K (.str s)
  | .agg cs=>fL cs fun l=>K (.agg l)
  | .imm es=>K (.imm es)
  | .nilsl=>K .nilsl
  | .own r off len=>K (.own r off len)
  | .ptr r i off=>K (.ptr r i off)
  | .cptr e off=>K (.cptr e off)
  | .func fn f c=>K (.func fn f c)
  | .nilfunc=>K .nilfunc
  | .raw v=>K (.raw v)
  | .tup vs=>fL vs fun l=>K (.tup l)
  | .anyb=>K .anyb
  | .any=>K .any
theorem force_eq{v:PV}{K:PV->Prop}:force v K=K v:=by cases v<;>simp[force,vNP]
abbrev KK:=PV->Hp->List Nat->List Nat->Prop
abbrev Ti:=TypeId->Option TI
section
variable (T:Ti) (G:Gl)
def evs(t:Tm):List Operand->(List PV->Prop)->Prop
 | [],K=>K []
 | x::xs,K=>force (ev G t x) fun v=>evs t xs fun vs=>K (v::vs)
theorem vK1{t:Tm}:∀ {l:List Operand} {K:List PV->Prop},evs G t l K=K (l.map (ev G t))
 | [],_=>rfl
 | x::xs,K=>by unfold evs; rw[force_eq,vK1]; rfl
def evp(t:Tm):List (Nat×Operand)->(List (Nat×PV)->Prop)->Prop
 | [],K=>K []
 | (i,x)::xs,K=>force (ev G t x) fun v=>evp t xs fun vs=>K ((i,v)::vs)
theorem vQC{t:Tm}:∀ {l:List (Nat×Operand)} {K:List (Nat×PV)->Prop},evp G t l K=K (l.map fun(j,x)=>(j,ev G t x))
 | [],_=>rfl
 | (i,x)::xs,K=>by unfold evp; rw[force_eq,vQC]; rfl
def vMU(e:PV)(off n:Nat)(agg:Bool)(K:PV->Prop):Prop :=
 brB (an (Nat.beq off 0) (an (Nat.beq e.cells.length n) (bq e.isAgg agg))) (force e K)
  (brT (Nat.ble (off+n) e.cells.length) (brB agg (fL ((e.cells.drop off).take n) fun l=>K (.agg l)) (brT (Nat.beq n 1) (oK (nth e.cells off) fun v=>force v K))))
theorem zGP{e:PV}{off n:Nat}{agg:Bool}{K:PV->Prop}(h:vMU e off n agg K):∃ v,part e off n agg=some v/\K v:=by
 unfold vMU at h;unfold part;by_cases h1:off=0/\e.cells.length=n/\e.isAgg=agg
 .have:an (Nat.beq off 0) (an (Nat.beq e.cells.length n) (bq e.isAgg agg))=true:=by simp only[zCH,zC4,zLF]; exact h1
  rw[this]at h;rw[rAV h1];exact⟨e,rfl,by rw[<- force_eq (v:=e) (K:=K)]; exact h⟩
 .have:an (Nat.beq off 0) (an (Nat.beq e.cells.length n) (bq e.isAgg agg))=false:=by
   rw[rDB]; intro h2; simp only[zCH,zC4,zLF]at h2; exact h1 h2
  rw[this]at h;rw[rAN h1];obtain⟨h2,h⟩:=zAZ h;rw[zJK]at h2;rw[rAV h2];cases agg with
  | true=>exact⟨_,rfl,by rw[<- vNP (l:=(e.cells.drop off).take n) (K:=fun l=>K (.agg l))]; exact h⟩
  | false =>
    obtain⟨h3,h⟩:=zAZ h;obtain⟨v,h4,h⟩:=zA0 h;rw[zC4]at h3;rw[zD9]at h4;refine⟨v,by simp[h3,h4],by rw[<- force_eq (v:=v) (K:=K)]; exact h⟩
def vL0(e:PV)(off:Nat)(v:PV)(K:PV->Prop):Prop :=
 brB (an (Nat.beq off 0) (an (Nat.beq e.cells.length v.cells.length) (bq e.isAgg v.isAgg))) (K v)
  (brT (an (Nat.ble (off+v.cells.length) e.cells.length) e.isAgg) (fL (e.cells.take off++v.cells++e.cells.drop (off+v.cells.length)) fun l=>K (.agg l)))
theorem vJE{e:PV}{off:Nat}{v:PV}{K:PV->Prop}(h:vL0 e off v K):∃ e',splice e off v=some e'/\K e':=by
 unfold vL0 at h;unfold splice;by_cases h1:off=0/\e.cells.length=v.cells.length/\e.isAgg=v.isAgg
 .have:an (Nat.beq off 0) (an (Nat.beq e.cells.length v.cells.length) (bq e.isAgg v.isAgg))=true:=by simp only[zCH,zC4,zLF]; exact h1
  rw[this]at h;rw[rAV h1];exact⟨v,rfl,h⟩
 .have:an (Nat.beq off 0) (an (Nat.beq e.cells.length v.cells.length) (bq e.isAgg v.isAgg))=false:=by
   rw[rDB]; intro h2; simp only[zCH,zC4,zLF]at h2; exact h1 h2
  rw[this]at h;rw[rAN h1];obtain⟨h2,h⟩:=zAZ h;rw[zCH,zJK]at h2;rw[rAV h2];exact⟨_,rfl,by rw[<- vNP (l:=e.cells.take off++v.cells++e.cells.drop (off+v.cells.length)) (K:=fun l=>K (.agg l))]; exact h⟩
def vKY(fs:List (Nat×Nat×Nat)):List PV->List (Nat×PV)->(List PV->Prop)->Prop
 | cells,[],K=>K cells
 | cells,(i,v)::rest,K=>oK (nth fs i) fun f =>
   brT (an v.storable (an (Nat.beq v.cells.length f.2.2) (Nat.ble (f.1+f.2.2) cells.length))) (fL (cells.take f.1++v.cells++cells.drop (f.1+f.2.2)) fun cs=>vKY fs cs rest K)
theorem zJH{fs:List (Nat×Nat×Nat)}:∀ {parts:List (Nat×PV)} {cells:List PV} {K:List PV->Prop},vKY fs cells parts K->∃ cs,vKZ fs cells parts=some cs/\K cs
 | [],cells,K,h=>⟨cells,rfl,h⟩
 | (i,v)::rest,cells,K,h=>by
   unfold vKY at h;obtain⟨f,h1,h⟩:=zA0 h;obtain⟨h2,h⟩:=zAZ h;rw[vNP]at h;obtain⟨cs,h3,h4⟩:=zJH h;obtain⟨a,b,c⟩:=f;simp only[zCH,zC4,zJK]at h2;rw[zD9]at h1;refine⟨cs,?_,h4⟩;unfold vKZ;rw[h1];dsimp only;rw[rAV h2];exact h3
def vQB(sz:Nat)(agg:Bool):List PV->List (Nat×PV)->(List PV->Prop)->Prop
 | els,[],K=>K els
 | els,(i,v)::rest,K=>brT (an v.storable (an (Nat.beq v.cells.length sz) (an (bq v.isAgg agg) (Nat.ble (i+1) els.length)))) (fL (els.set i v) fun l=>vQB sz agg l rest K)
theorem zOT{sz:Nat}{agg:Bool}:∀ {parts:List (Nat×PV)} {els:List PV} {K:List PV->Prop},vQB sz agg els parts K->∃ cs,vNO sz agg els parts=some cs/\K cs
 | [],els,K,h=>⟨els,rfl,h⟩
 | (i,v)::rest,els,K,h=>by
   unfold vQB at h;obtain⟨h2,h⟩:=zAZ h;rw[vNP]at h;obtain⟨cs,h3,h4⟩:=zOT h;simp only[zCH,zC4,zJK,zLF]at h2;refine⟨cs,?_,h4⟩;unfold vNO;rw[rAV ⟨h2.1,h2.2.1,h2.2.2.1,h2.2.2.2⟩];exact h3
def uGW(sz:Nat)(agg:Bool):List PV->Bool
 | []=>true
 | e::es=>an (Nat.beq e.cells.length sz) (an (bq e.isAgg agg) (uGW sz agg es))
theorem allE_iff{sz:Nat}{agg:Bool}:∀ {es:List PV},uGW sz agg es=true↔∀ e∈es,e.cells.length=sz/\e.isAgg=agg
 | []=>by simp[uGW]
 | e::es=>by
   unfold uGW;rw[zCH,zCH,zC4,zLF,allE_iff (es:=es)];simp[and_assoc]
theorem vRA{α:Type}{sz:Nat}{agg:Bool}{f:α->PV}(h:∀ x,(f x).cells.length=sz/\(f x).isAgg=agg)(l:List α):uGW sz agg (l.map f)=true :=
 allE_iff.2 fun e he=>by obtain⟨x,_,rfl⟩:=rA5.1 he; exact h x
def kk(k k':IntKind):Bool:=decide (k=k')
def vF9(k:IntKind)(b:Int):Int:=2 ^ (min b.toNat k.bits)
def vEZ(op:BinOp)(k:IntKind)(x y:Int):Int:=match op with
 | .and=>k.wrap (BitVec.ofInt k.bits x &&& BitVec.ofInt k.bits y).toNat
 | .or=>k.wrap (BitVec.ofInt k.bits x ||| BitVec.ofInt k.bits y).toNat
 | .xor=>k.wrap (BitVec.ofInt k.bits x ^^^ BitVec.ofInt k.bits y).toNat
 | .andNot=>k.wrap (BitVec.ofInt k.bits x &&& ~~~BitVec.ofInt k.bits y).toNat
 | _=>0
noncomputable def vF3:BinOp->IntKind->Int->Int->Int:=Classical.choose (⟨vEZ,rfl⟩:∃ f,f=vEZ)
noncomputable def vEM:IntKind->Int->Int:=Classical.choose (⟨vF9,rfl⟩:∃ f,f=vF9)
theorem zE5:vF3=vEZ:=Classical.choose_spec (⟨vEZ,rfl⟩:∃ f,f=vEZ)
theorem zJW:vEM=vF9:=Classical.choose_spec (⟨vF9,rfl⟩:∃ f,f=vF9)
attribute [irreducible] vF3 vEM
def uRC(op:BinOp)(k k':IntKind)(a b:Int)(K:PV->Prop):Prop:=match op with
 | .add=>brT (kk k k') (ov k (a+b) fun m=>K (.int k m))
 | .sub=>brT (kk k k') (ov k (a - b) fun m=>K (.int k m))
 | .mul=>brT (kk k k') (ov k (a * b) fun m=>K (.int k m))
 | .eql=>brT (kk k k') (K (.bool (a == b)))
 | .neq=>brT (kk k k') (K (.bool (a != b)))
 | .lss=>brT (kk k k') (K (.bool (decide (a<b))))
 | .leq=>brT (kk k k') (K (.bool (decide (a<=b))))
 | .gtr=>brT (kk k k') (K (.bool (decide (a > b))))
 | .geq=>brT (kk k k') (K (.bool (decide (a>=b))))
 | .quo=>brT (kk k k') (vDW (b≠0) (ov k (a.tdiv b) fun m=>K (.int k m)))
 | .rem=>brT (kk k k') (vDW (b≠0) (K (.int k (a.tmod b))))
 | .shl=>vDW (0<=b) (ov k (a * vEM k b) fun m=>K (.int k m))
 | .shr=>vDW (0<=b) (K (.int k (a.fdiv (vEM k b))))
 | .and | .or | .xor | .andNot=>brT (kk k k') (K (.int k (vF3 op k a b)))
theorem zFM{k k':IntKind}:kk k k'=true↔k=k':=by unfold kk; simp
@[reducible] def uF3 (es:List PV) (A B:Prop):Prop:=match es with
  | []=>A
  | _::_=>B
@[reducible] def uM3 (len:Nat) (A B:Prop):Prop:=match len with
  | 0=>A
  | _+1=>B
theorem zAF{α:Type}{f:α->PV}{l:List α}{A B:Prop}(h1:l=[]->A)(h2:l≠[]->B):uF3 (l.map f) A B:=by
 cases l with
 | nil=>exact h1 rfl
 | cons=>exact h2 zsm
def vFE(xt:TypeId)(ng:Bool)(v:PV)(K:PV->Prop):Prop:=oK (T xt) fun i=>brT i.isSlice (match v with
 | .nilsl=>K (.bool (no ng))
 | .imm es=>uF3 es (K .anyb) (K (.bool ng))
 | .own _ _ len=>uM3 len (K .anyb) (K (.bool ng))
 | _=>False)
def uQD(op:BinOp)(xt:TypeId)(x y:PV)(K:PV->Prop):Prop:=match x,y with
 | .int k a,.int k' b=>uRC op k k' a b K
 | .bool a,.bool b=>(match op with
   | .eql=>oK (T xt) fun i=>brT i.isBool (K (.bool (a == b)))
   | .neq=>oK (T xt) fun i=>brT i.isBool (K (.bool (a != b)))
   | _=>False)
 | .agg as,.agg bs=>(match op with
   | .eql=>oK (T xt) fun i=>brT (an i.eqInts (an (Nat.beq as.length i.fields.length) (Nat.beq bs.length i.fields.length))) (oK (vC7 as bs) fun r=>K (.bool r))
   | .neq=>oK (T xt) fun i=>brT (an i.eqInts (an (Nat.beq as.length i.fields.length) (Nat.beq bs.length i.fields.length))) (oK (vC7 as bs) fun r=>K (.bool (!r)))
   | _=>False)
 | .nilsl,.nilsl=>(match op with
   | .eql=>vFE T xt false .nilsl K
   | .neq=>vFE T xt true .nilsl K
   | _=>False)
 | .imm es,.nilsl=>(match op with
   | .eql=>vFE T xt false (.imm es) K
   | .neq=>vFE T xt true (.imm es) K
   | _=>False)
 | .own r off len,.nilsl=>(match op with
   | .eql=>vFE T xt false (.own r off len) K
   | .neq=>vFE T xt true (.own r off len) K
   | _=>False)
 | _,_=>False
def uLJ(t:Tm)(o:Option Operand)(d:Int)(K:Int->Prop):Prop:=match o with
 | none=>K d
 | some o=>(match ev G t o with
   | .int _ n=>K n
   | _=>False)
def uO7(h:Hp)(v:PV)(K:List PV->List Nat->Prop):Prop:=match v with
 | .imm es=>K es []
 | .nilsl=>K [] []
 | .own r off len=>oK (h r) fun b=>vDW (off+len<=b.els.length) (K ((b.els.drop off).take len) [r])
 | _=>False
def vOp (z:Fz) (key:Nat) (op:Op) (t:Tm) (h:Hp) (K:KK):Prop :=
 match op with
 | .move x | .assign x=>force (ev G t x) fun v=>K v h [] []
 | .pick c a b=>(match ev G t c with
   | .bool v=>brB v (force (ev G t a) fun v=>K v h [] []) (force (ev G t b) fun v=>K v h [] [])
   | _=>False)
 | .alloc e=>oK (T e) fun i=>brT i.zok (K (.ptr key 0 0) (hs h key (some ⟨[i.zero],i.zero.cells.length,i.zero.isAgg⟩)) [] [key])
 | .box _ x=>force (ev G t x) fun v=>brT v.storable (K (.ptr key 0 0) (hs h key (some ⟨[v],v.cells.length,v.isAgg⟩)) [] [key])
 | .build ty parts=>oK (T ty) fun i=>(match i.alen with
   | 0=>brT (an i.zok i.isStruct) (evp G t parts.toList fun ps=>vKY i.fields i.zero.cells ps fun cs=>K (.agg cs) h [] [])
   | n+1=>oK (T i.elem) fun e=>brT (an i.zok (nz e.size)) (evp G t parts.toList fun ps=>vKY ((List.range (n+1)).map fun j=>(j * e.size,i.elem,e.size)) i.zero.cells ps fun cs=>K (.agg cs) h [] []))
 | .buildSlice ty len parts=>oK (T ty) fun i=>oK (T i.elem) fun e =>
   brT (an (Nat.ble (len * e.size) (2 ^ 24)) (an e.zok (an i.isSlice (an (Nat.beq e.zero.cells.length e.size) (an (bq e.zero.isAgg e.agg) (nz e.size))))))
    (evp G t parts.toList fun ps=>vQB e.size e.agg (List.replicate len e.zero) ps fun els=>K (.own key 0 len) (hs h key (some ⟨els,e.size,e.agg⟩)) [] [key])
 | .load ty x=>oK (T ty) fun i=>(match ev G t x with
   | .ptr r j off=>oK (h r) fun b=>oK (nth b.els j) fun e=>vMU e off i.size i.agg fun v=>K v h [r] []
   | .cptr e off=>vMU e off i.size i.agg fun v=>K v h [] []
   | _=>False)
 | .store ty x y=>force (ev G t y) fun v=>oK (T ty) fun i=>(match ev G t x with
   | .ptr r j off=>oK (h r) fun b=>oK (nth b.els j) fun e=>brT (an (no (z r)) (an v.storable (an (Nat.beq v.cells.length i.size) (nz i.size)))) <|
    vL0 e off v fun e'=>K (.tup []) (hs h r (some { b with els:=b.els.set j e' })) [r] [r]
   | _=>False)
 | .nilCheck x=>(match ev G t x with
   | .ptr r i off=>K (.ptr r i off) h [] []
   | .cptr e off=>K (.cptr e off) h [] []
   | _=>False)
 | .binOp op xt x y _=>uQD T op xt (ev G t x) (ev G t y) fun v=>K v h [] []
 | .unOp op _ x=>(match op,ev G t x with
   | .not,.bool b=>K (.bool (!b)) h [] []
   | .neg,.int k n=>ov k (0 - n) fun m=>K (.int k m) h [] []
   | _,_=>False)
 | .convert src dst x=>oK (T src) fun i=>oK (T dst) fun j=>(match i.kind,j.kind,ev G t x with
   | some _,some k,.int _ n=>ov k n fun m=>K (.int k m) h [] []
   | _,_,_=>False)
 | .makeFunc fn first captured=>evs G t first.toList fun f=>evs G t captured.toList fun c=>K (.func fn f c) h [] []
 | .makeSlice ty l c=>oK (T ty) fun i=>oK (T i.elem) fun e=>(match ev G t l,ev G t c with
   | .int .i64 n,.int .i64 m=>brT (an (Nat.ble e.bytes 4096) (an e.zok (an i.isSlice (an (Nat.beq e.zero.cells.length e.size) (an (bq e.zero.isAgg e.agg) (nz e.size)))))) <| vDW (n=m/\0<=n/\n<=2 ^ 32) (K (.own key 0 n.toNat) (hs h key (some ⟨List.replicate n.toNat e.zero,e.size,e.agg⟩)) [] [key])
   | _,_=>False)
 | .slice ty x lo hi none=>oK (T ty) fun i=>oK (T i.elem) fun e=>(match ev G t x with
   | .imm es=>uLJ G t lo 0 fun a=>uLJ G t hi es.length fun b=>brT (an i.isSlice (nz e.size)) (sideP (∀ e'∈es,e'.cells.length=e.size) (vDW (0<=a/\a<=b/\b<=es.length) (slK es a b fun l=>K (.imm l) h [] [])))
   | .own r off len=>uLJ G t lo 0 fun a=>uLJ G t hi len fun b=>oK (h r) fun k=>brT (an i.isSlice (an (Nat.beq k.sz e.size) (nz e.size))) (vDW (0<=a/\a<=b/\b<=len) (K (.own r (off+a.toNat) (b.toNat - a.toNat)) h [r] []))
   | _=>False)
 | .fieldAddr s x f=>oK (T s) fun i=>oK (nth i.fields f) fun q=>(match ev G t x with
   | .ptr r j off=>brT (nz q.2.2) (K (.ptr r j (off+q.1)) h [] [])
   | .cptr e off=>brT (nz q.2.2) (K (.cptr e (off+q.1)) h [] [])
   | _=>False)
 | .field s x f=>oK (T s) fun i=>oK (nth i.fields f) fun q=>oK (T q.2.1) fun u=>(match ev G t x with
   | .agg cs=>vMU (.agg cs) q.1 u.size u.agg fun v=>K v h [] []
   | _=>False)
 | .indexAddr ty x ix=>oK (T ty) fun i=>oK (T i.elem) fun e=>(match ev G t x,ev G t ix with
   | .imm es,.int _ n=>brT (an i.isSlice (nz e.size)) (vDW (0<=n/\n<es.length) (oK (nth es n.toNat) fun d=>brT (Nat.beq d.cells.length e.size) (force d fun d=>K (.cptr d 0) h [] [])))
   | .own r off len,.int _ n=>brT (an i.isSlice (nz e.size)) (vDW (0<=n/\n<len) (oK (h r) fun b=>brT (Nat.beq b.sz e.size) (K (.ptr r (off+n.toNat) 0) h [r] [])))
   | .cptr d off,.int _ n=>brT (an (nz i.alen) (nz e.size)) (vDW (0<=n/\n<i.alen) (K (.cptr d (off+n.toNat * e.size)) h [] []))
   | .ptr r j off,.int _ n=>brT (an (nz i.alen) (nz e.size)) (vDW (0<=n/\n<i.alen) (K (.ptr r j (off+n.toNat * e.size)) h [] []))
   | _,_=>False)
 | .index ty x ix=>oK (T ty) fun i=>(match ev G t x,ev G t ix with
   | .agg cs,.int _ n=>oK (T i.elem) fun e=>brT (an (nz i.alen) (nz e.size)) (vDW (0<=n/\n<i.alen) (vMU (.agg cs) (n.toNat * e.size) e.size e.agg fun v=>K v h [] []))
   | .str s,.int _ n=>brT i.isStr (vDW (0<=n) (oK (s[n.toNat]?) fun b=>K (.int .u8 b.toNat) h [] []))
   | _,_=>False)
 | .extract x i=>(match ev G t x with
   | .tup vs=>oK (nth vs i) fun v=>force v fun v=>K v h [] []
   | _=>False)
 | .call { callee:=.builtin .len,args:=⟨[x]⟩,argTypes:=⟨[ty]⟩ }=>oK (T ty) fun i=>brT i.isSlice (match ev G t x with
   | .imm es=>K (.int .i64 es.length) h [] []
   | .own _ _ len=>K (.int .i64 len) h [] []
   | .nilsl=>K (.int .i64 0) h [] []
   | _=>False)
 | .call { callee:=.builtin .max,args:=⟨[x,y]⟩,argTypes:=_ }=>(match ev G t x,ev G t y with
   | .int k a,.int _ b=>K (.int k (if b > a then b else a)) h [] []
   | _,_=>False)
 | .call { callee:=.builtin .min,args:=⟨[x,y]⟩,argTypes:=_ }=>(match ev G t x,ev G t y with
   | .int k a,.int _ b=>K (.int k (if b<a then b else a)) h [] []
   | _,_=>False)
 | .call { callee:=.builtin .append,args:=⟨[x,y]⟩,argTypes:=⟨[ty,ty2]⟩ }=>oK (T ty) fun i=>oK (T ty2) fun i2=>oK (T i.elem) fun e =>
   uO7 h (ev G t y) fun es ks=>brT (an (uGW e.size e.agg es) (an (Nat.ble e.bytes 4096) (an e.zok (an i.isSlice (an i2.isSlice (an (Nat.beq e.zero.cells.length e.size) (nz e.size))))))) (match ev G t x with
    | .nilsl=>vDW (es.length<=2 ^ 32) (K (.own key 0 es.length) (hs h key (some ⟨es,e.size,e.agg⟩)) ks [key])
    | .own r off len=>oK (h r) fun b=>brT (an (Nat.beq b.sz e.size) (an (bq b.agg e.agg) (an (no (z r)) (no (vPT ks r))))) (vDW (off=0/\len=b.els.length/\len+es.length<=2 ^ 32)
     (K (.own key 0 (len+es.length)) (hs (hs h r none) key (some ⟨b.els++es,e.size,e.agg⟩)) (r::ks) [r,key]))
    | _=>False)
 | _=>False
end
section
variable {P:Program} {T:Ti} {G:Gl}
theorem zAV{c:Prop}[Decidable c]{x:Res}{r:PV×Hp×List Nat×List Nat}(hc:c)(hx:x=some r):need c x=some r:=by unfold need; rw[rAV hc]; exact hx
theorem zEG(hT:∀ i x,T i=some x->vA6 P i=x){xt:TypeId}{ng:Bool}{v:PV}{K:PV->Prop}(h:vFE T xt ng v K) :
 (vA6 P xt).isSlice=true/\∃ r,isNil v=some r/\K (if ng then uPM r else r):=by
 unfold vFE at h;obtain⟨i,h1,h⟩:=zA0 h;obtain⟨h2,h⟩:=zAZ h;rw[hT _ _ h1];refine⟨h2,?_⟩;cases v with
 | nilsl=>exact⟨_,rfl,by cases ng<;>exact h⟩
 | imm es =>
   cases es with
   | nil=>exact⟨_,rfl,by cases ng<;>exact h⟩
   | cons=>exact⟨_,rfl,by cases ng<;>exact h⟩
 | own r off len =>
   cases len with
   | zero=>exact⟨.anyb,by simp[isNil],by cases ng<;>exact h⟩
   | succ n=>exact⟨.bool false,by simp[isNil],by cases ng<;>exact h⟩
 | _=>exact h.elim
theorem uAA(hT:∀ i x,T i=some x->vA6 P i=x){op:BinOp}{xt yt:TypeId}{x y:Operand}{z:Fz}{key:Nat}{t:Tm}{h:Hp}{K:PV->Prop}(hv:uQD T op xt (ev G t x) (ev G t y) K) :
 ∃ v,vA4 P G z key (.binOp op xt x y yt) t h=some (v,h,[],[])/\K v:=by
 unfold uQD at hv;simp only[vA4]
 split at hv
 .rename_i k a k' b e1 e2
  rw[e1,e2];dsimp only;cases op with
  | add=>obtain⟨h1,hv⟩:=zAZ hv; rw[zFM]at h1; rw[rAV h1]; exact⟨_,rfl,zJC hv⟩
  | sub=>obtain⟨h1,hv⟩:=zAZ hv; rw[zFM]at h1; rw[rAV h1]; exact⟨_,rfl,zJC hv⟩
  | mul=>obtain⟨h1,hv⟩:=zAZ hv; rw[zFM]at h1; rw[rAV h1]; exact⟨_,rfl,zJC hv⟩
  | quo=>obtain⟨h1,hv⟩:=zAZ hv; rw[zFM]at h1; rw[rAV h1]; obtain⟨h2,hv⟩:=zBL hv; exact⟨_,zAV h2 rfl,zJC hv⟩
  | rem=>obtain⟨h1,hv⟩:=zAZ hv; rw[zFM]at h1; rw[rAV h1]; obtain⟨h2,hv⟩:=zBL hv; exact⟨_,zAV h2 rfl,hv⟩
  | and=>obtain⟨h1,hv⟩:=zAZ hv; rw[zFM]at h1; rw[rAV h1]; rw[zE5]at hv; unfold vEZ at hv; exact⟨_,rfl,hv⟩
  | or=>obtain⟨h1,hv⟩:=zAZ hv; rw[zFM]at h1; rw[rAV h1]; rw[zE5]at hv; unfold vEZ at hv; exact⟨_,rfl,hv⟩
  | xor=>obtain⟨h1,hv⟩:=zAZ hv; rw[zFM]at h1; rw[rAV h1]; rw[zE5]at hv; unfold vEZ at hv; exact⟨_,rfl,hv⟩
  | andNot=>obtain⟨h1,hv⟩:=zAZ hv; rw[zFM]at h1; rw[rAV h1]; rw[zE5]at hv; unfold vEZ at hv; exact⟨_,rfl,hv⟩
  | shl =>
    obtain⟨h2,hv⟩:=zBL hv;have hv:=zJC hv;rw[zJW]at hv; unfold vF9 at hv;by_cases e:k=k'
    .rw[rAV e]; exact⟨_,zAV h2 rfl,hv⟩
    .rw[rAN e]; exact⟨_,zAV h2 rfl,hv⟩
  | shr =>
    obtain⟨h2,hv⟩:=zBL hv;rw[zJW]at hv; unfold vF9 at hv;by_cases e:k=k'
    .rw[rAV e]; exact⟨_,zAV h2 rfl,hv⟩
    .rw[rAN e]; exact⟨_,zAV h2 rfl,hv⟩
  | eql=>obtain⟨h1,hv⟩:=zAZ hv; rw[zFM]at h1; rw[rAV h1]; exact⟨_,rfl,hv⟩
  | neq=>obtain⟨h1,hv⟩:=zAZ hv; rw[zFM]at h1; rw[rAV h1]; exact⟨_,rfl,hv⟩
  | lss=>obtain⟨h1,hv⟩:=zAZ hv; rw[zFM]at h1; rw[rAV h1]; exact⟨_,rfl,hv⟩
  | leq=>obtain⟨h1,hv⟩:=zAZ hv; rw[zFM]at h1; rw[rAV h1]; exact⟨_,rfl,hv⟩
  | gtr=>obtain⟨h1,hv⟩:=zAZ hv; rw[zFM]at h1; rw[rAV h1]; exact⟨_,rfl,hv⟩
  | geq=>obtain⟨h1,hv⟩:=zAZ hv; rw[zFM]at h1; rw[rAV h1]; exact⟨_,rfl,hv⟩
 .rename_i a b e1 e2
  rw[e1,e2];cases op with
  | eql=>obtain⟨i,h1,hv⟩:=zA0 hv; obtain⟨h2,hv⟩:=zAZ hv; exact⟨_,zAV (by rw[hT _ _ h1]; exact h2) rfl,hv⟩
  | neq=>obtain⟨i,h1,hv⟩:=zA0 hv; obtain⟨h2,hv⟩:=zAZ hv; exact⟨_,zAV (by rw[hT _ _ h1]; exact h2) rfl,hv⟩
  | _=>exact hv.elim
 .rename_i as bs e1 e2
  rw[e1,e2];cases op with
  | eql =>
    obtain⟨i,h1,hv⟩:=zA0 hv; obtain⟨h2,hv⟩:=zAZ hv; obtain⟨r,h3,hv⟩:=zA0 hv;simp only[zCH,zC4]at h2;exact⟨_,zAV (by rw[hT _ _ h1]; exact h2) (by rw[h3]; rfl),hv⟩
  | neq =>
    obtain⟨i,h1,hv⟩:=zA0 hv; obtain⟨h2,hv⟩:=zAZ hv; obtain⟨r,h3,hv⟩:=zA0 hv;simp only[zCH,zC4]at h2;exact⟨_,zAV (by rw[hT _ _ h1]; exact h2) (by rw[h3]; rfl),hv⟩
  | _=>exact hv.elim
 .rename_i e1 e2
  rw[e1,e2];cases op with
  | eql=>obtain⟨h1,r,h2,h3⟩:=zEG hT hv; exact⟨_,zAV h1 (by rw[h2]; rfl),h3⟩
  | neq=>obtain⟨h1,r,h2,h3⟩:=zEG hT hv; exact⟨_,zAV h1 (by rw[h2]; rfl),h3⟩
  | _=>exact hv.elim
 .rename_i es e1 e2
  rw[e1,e2];cases op with
  | eql=>obtain⟨h1,r,h2,h3⟩:=zEG hT hv; exact⟨_,zAV h1 (by rw[h2]; rfl),h3⟩
  | neq=>obtain⟨h1,r,h2,h3⟩:=zEG hT hv; exact⟨_,zAV h1 (by rw[h2]; rfl),h3⟩
  | _=>exact hv.elim
 .rename_i r0 off len e1 e2
  rw[e1,e2];cases op with
  | eql=>obtain⟨h1,r,h2,h3⟩:=zEG hT hv; exact⟨_,zAV h1 (by rw[h2]; rfl),h3⟩
  | neq=>obtain⟨h1,r,h2,h3⟩:=zEG hT hv; exact⟨_,zAV h1 (by rw[h2]; rfl),h3⟩
  | _=>exact hv.elim
 .exact hv.elim
theorem zJ5{t:Tm}{o:Option Operand}{d:Int}{K:Int->Prop}(h:uLJ G t o d K):∃ n,((o=none/\n=d)\/∃ x k,o=some x/\ev G t x=.int k n)/\K n:=by
 unfold uLJ at h;cases o with
 | none=>exact⟨d,rAW ⟨rfl,rfl⟩,h⟩
 | some o =>
   dsimp only at h
   split at h
   .rename_i k n e; exact⟨n,rAZ ⟨o,k,rfl,e⟩,h⟩
   .exact h.elim
theorem vUF{h:Hp}{v:PV}{K:List PV->List Nat->Prop}(hv:uO7 h v K):∃ es ks,vJD h v=some (es,ks)/\K es ks:=by
 unfold uO7 at hv
 split at hv
 .exact⟨_,_,rfl,hv⟩
 .exact⟨_,_,rfl,hv⟩
 .obtain⟨b,h1,hv⟩:=zA0 hv
  obtain⟨h2,hv⟩:=zBL hv;exact⟨_,_,by simp[vJD,h1,h2],hv⟩
 .exact hv.elim
theorem vTZ(hT:∀ i x,T i=some x->vA6 P i=x){z:Fz}{key:Nat}{op:Op}{t:Tm}{h:Hp}{K:KK}(hv:vOp T G z key op t h K) :
 ∃ v h' rd wr,vA4 P G z key op t h=some (v,h',rd,wr)/\K v h' rd wr:=by
 unfold vOp at hv
 split at hv
 .rw[force_eq]at hv; exact⟨_,_,_,_,rfl,hv⟩
 .rw[force_eq]at hv; exact⟨_,_,_,_,rfl,hv⟩
 .split at hv
  .rename_i v e
   simp only[vA4,e];rw[force_eq,force_eq]at hv;cases v with
   | true=>exact⟨_,_,_,_,rfl,hv⟩
   | false=>exact⟨_,_,_,_,rfl,hv⟩
  .exact hv.elim
 .obtain⟨i,h1,hv⟩:=zA0 hv; obtain⟨h2,hv⟩:=zAZ hv
  rw[zFU]at hv;have h1:=hT _ _ h1;subst h1;exact⟨_,_,_,_,zAV h2 rfl,hv⟩
 .rw[force_eq]at hv
  obtain⟨h2,hv⟩:=zAZ hv;rw[zFU]at hv;exact⟨_,_,_,_,zAV h2 rfl,hv⟩
 .obtain⟨i,h1,hv⟩:=zA0 hv
  have h1:=hT _ _ h1;subst h1;simp only[vA4]
  split at hv
  .rename_i ha
   obtain⟨h2,hv⟩:=zAZ hv;rw[vQC]at hv;obtain⟨cs,h3,hv⟩:=zJH hv;rw[zCH]at h2;rw[ha];exact⟨_,_,_,_,zAV h2 (by rw[h3]),hv⟩
  .rename_i n ha
   obtain⟨e,h1,hv⟩:=zA0 hv;have h1:=hT _ _ h1;subst h1;obtain⟨h2,hv⟩:=zAZ hv;rw[vQC]at hv;obtain⟨cs,h3,hv⟩:=zJH hv;rw[zCH,zFZ]at h2;rw[ha];exact⟨_,_,_,_,zAV h2 (by rw[h3]),hv⟩
 .obtain⟨i,h1,hv⟩:=zA0 hv
  have h1:=hT _ _ h1;subst h1;obtain⟨e,h1,hv⟩:=zA0 hv;have h1:=hT _ _ h1;subst h1;obtain⟨h2,hv⟩:=zAZ hv;rw[vQC]at hv;obtain⟨cs,h3,hv⟩:=zOT hv;simp only[zCH,zC4,zJK,zLF,zFZ]at h2;rw[zFU]at hv;exact⟨_,_,_,_,zAV h2 (by rw[h3]),hv⟩
 .obtain⟨i,h1,hv⟩:=zA0 hv
  have h1:=hT _ _ h1;subst h1
  split at hv
  .rename_i r j off e
   obtain⟨b,h1,hv⟩:=zA0 hv;obtain⟨d,h2,hv⟩:=zA0 hv;obtain⟨v,h3,hv⟩:=zGP hv;rw[zD9]at h2;exact⟨_,_,_,_,by simp only[vA4,e,h1,h2,h3,Option.map_some],hv⟩
  .rename_i d off e
   obtain⟨v,h3,hv⟩:=zGP hv;exact⟨_,_,_,_,by simp only[vA4,e,h3,Option.map_some],hv⟩
  .exact hv.elim
 .rw[force_eq]at hv
  obtain⟨i,h1,hv⟩:=zA0 hv;have h1:=hT _ _ h1;subst h1
  split at hv
  .rename_i r j off e
   obtain⟨b,h1,hv⟩:=zA0 hv;obtain⟨d,h2,hv⟩:=zA0 hv;obtain⟨h3,hv⟩:=zAZ hv;obtain⟨e',h4,hv⟩:=vJE hv;rw[zD9]at h2;simp only[zCH,zC4,uF1,zFZ]at h3;rw[zFU]at hv;exact⟨_,_,_,_,by simp only[vA4,e,h1,h2]; exact zAV h3 (by rw[h4]; rfl),hv⟩
  .exact hv.elim
 .split at hv
  .rename_i e; exact⟨_,_,_,_,by simp only[vA4,e],hv⟩
  .rename_i e; exact⟨_,_,_,_,by simp only[vA4,e],hv⟩
  .exact hv.elim
 .obtain⟨v,h1,hv⟩:=uAA hT (z:=z) (key:=key) (h:=h) hv
  exact⟨_,_,_,_,h1,hv⟩
 .split at hv
  .rename_i e; exact⟨_,_,_,_,by simp only[vA4,e],hv⟩
  .rename_i e; exact⟨_,_,_,_,by simp only[vA4,e],zJC hv⟩
  .exact hv.elim
 .obtain⟨i,h1,hv⟩:=zA0 hv
  have h1:=hT _ _ h1;subst h1;obtain⟨j,h1,hv⟩:=zA0 hv;have h1:=hT _ _ h1;subst h1
  split at hv
  .rename_i e1 e2 e3; exact⟨_,_,_,_,by simp only[vA4,e1,e2,e3],zJC hv⟩
  .exact hv.elim
 .rw[vK1,vK1]at hv; exact⟨_,_,_,_,rfl,hv⟩
 .obtain⟨i,h1,hv⟩:=zA0 hv
  have h1:=hT _ _ h1;subst h1;obtain⟨j,h1,hv⟩:=zA0 hv;have h1:=hT _ _ h1;subst h1
  split at hv
  .rename_i n m e1 e2
   obtain⟨h2,hv⟩:=zAZ hv;obtain⟨h3,hv⟩:=zBL hv;simp only[zCH,zC4,zJK,zLF,zFZ]at h2;rw[zFU]at hv;obtain⟨g1,g2,g3,g4,g5,g6⟩:=h2;obtain⟨k1,k2,k3⟩:=h3;exact⟨_,_,_,_,by simp only[vA4,e1,e2]; exact zAV ⟨k1,k2,k3,g1,g2,g3,g4,g5,g6⟩ rfl,hv⟩
  .exact hv.elim
 .obtain⟨i,h1,hv⟩:=zA0 hv
  have h1:=hT _ _ h1;subst h1;obtain⟨j,h1,hv⟩:=zA0 hv;have h1:=hT _ _ h1;subst h1
  split at hv
  .rename_i es e
   obtain⟨a,h1,hv⟩:=zJ5 hv;obtain⟨b,h2,hv⟩:=zJ5 hv;obtain⟨h3,hv⟩:=zAZ hv;obtain⟨h4,hv⟩:=vRL hv;obtain⟨h5,hv⟩:=zBL hv;have hv:=uBF hv;simp only[zCH,zFZ]at h3;refine⟨_,_,_,_,?_,hv⟩;rcases h1 with⟨rfl,rfl⟩ | ⟨x1,k1,rfl,e1⟩<;>rcases h2 with⟨rfl,rfl⟩ | ⟨x2,k2,rfl,e2⟩<;>(first | simp only[vA4,e,e1,e2] | simp only[vA4,e,e1] | simp only[vA4,e,e2] | simp only[vA4,e])<;>exact zAV ⟨h3.1,h4,h5.1,h5.2.1,h5.2.2,h3.2⟩ rfl
  .rename_i r off len e
   obtain⟨a,h1,hv⟩:=zJ5 hv;obtain⟨b,h2,hv⟩:=zJ5 hv;obtain⟨k,h6,hv⟩:=zA0 hv;obtain⟨h3,hv⟩:=zAZ hv;obtain⟨h5,hv⟩:=zBL hv;simp only[zCH,zFZ,zC4]at h3;refine⟨_,_,_,_,?_,hv⟩;rcases h1 with⟨rfl,rfl⟩ | ⟨x1,k1,rfl,e1⟩<;>rcases h2 with⟨rfl,rfl⟩ | ⟨x2,k2,rfl,e2⟩<;>(first | simp only[vA4,e,e1,e2,h6] | simp only[vA4,e,e1,h6] | simp only[vA4,e,e2,h6] | simp only[vA4,e,h6])<;>exact zAV ⟨h3.1,h3.2.1,h5.1,h5.2.1,h5.2.2,h3.2.2⟩ rfl
  .exact hv.elim
 .obtain⟨i,h1,hv⟩:=zA0 hv
  have h1:=hT _ _ h1;subst h1;obtain⟨q,h1,hv⟩:=zA0 hv;rw[zD9]at h1
  split at hv
  .rename_i e; obtain⟨h2,hv⟩:=zAZ hv; rw[zFZ]at h2; exact⟨_,_,_,_,by simp only[vA4,e,h1]; exact zAV h2 rfl,hv⟩
  .rename_i e; obtain⟨h2,hv⟩:=zAZ hv; rw[zFZ]at h2; exact⟨_,_,_,_,by simp only[vA4,e,h1]; exact zAV h2 rfl,hv⟩
  .exact hv.elim
 .obtain⟨i,h1,hv⟩:=zA0 hv
  have h1:=hT _ _ h1;subst h1;obtain⟨q,h1,hv⟩:=zA0 hv;rw[zD9]at h1;obtain⟨u,h2,hv⟩:=zA0 hv;have h2:=hT _ _ h2;subst h2
  split at hv
  .rename_i e
   obtain⟨v,h3,hv⟩:=zGP hv;exact⟨_,_,_,_,by simp only[vA4,e,h1,h3,Option.map_some],hv⟩
  .exact hv.elim
 .obtain⟨i,h1,hv⟩:=zA0 hv
  have h1:=hT _ _ h1;subst h1;obtain⟨j,h1,hv⟩:=zA0 hv;have h1:=hT _ _ h1;subst h1
  split at hv
  .rename_i es k n e1 e2
   obtain⟨h2,hv⟩:=zAZ hv;obtain⟨h3,hv⟩:=zBL hv;obtain⟨d,h4,hv⟩:=zA0 hv;obtain⟨h5,hv⟩:=zAZ hv;rw[force_eq]at hv;rw[zD9]at h4;simp only[zCH,zC4,zFZ]at h2 h5;exact⟨_,_,_,_,by simp only[vA4,e1,e2]; exact zAV ⟨h2.1,h3⟩ (by rw[h4]; exact zAV ⟨h5,h2.2⟩ rfl),hv⟩
  .rename_i r off len k n e1 e2
   obtain⟨h2,hv⟩:=zAZ hv;obtain⟨h3,hv⟩:=zBL hv;obtain⟨d,h4,hv⟩:=zA0 hv;obtain⟨h5,hv⟩:=zAZ hv;simp only[zCH,zC4,zFZ]at h2 h5;exact⟨_,_,_,_,by simp only[vA4,e1,e2]; exact zAV ⟨h2.1,h3⟩ (by rw[h4]; exact zAV ⟨h5,h2.2⟩ rfl),hv⟩
  .rename_i d off k n e1 e2
   obtain⟨h2,hv⟩:=zAZ hv;obtain⟨h3,hv⟩:=zBL hv;simp only[zCH,zFZ]at h2;exact⟨_,_,_,_,by simp only[vA4,e1,e2]; exact zAV ⟨h2.1,h3.1,h3.2,h2.2⟩ rfl,hv⟩
  .rename_i r j off k n e1 e2
   obtain⟨h2,hv⟩:=zAZ hv;obtain⟨h3,hv⟩:=zBL hv;simp only[zCH,zFZ]at h2;exact⟨_,_,_,_,by simp only[vA4,e1,e2]; exact zAV ⟨h2.1,h3.1,h3.2,h2.2⟩ rfl,hv⟩
  .exact hv.elim
 .obtain⟨i,h1,hv⟩:=zA0 hv
  have h1:=hT _ _ h1;subst h1
  split at hv
  .rename_i cs k n e1 e2
   obtain⟨j,h1,hv⟩:=zA0 hv;have h1:=hT _ _ h1;subst h1;obtain⟨h2,hv⟩:=zAZ hv;obtain⟨h3,hv⟩:=zBL hv;obtain⟨v,h4,hv⟩:=zGP hv;simp only[zCH,zFZ]at h2;exact⟨_,_,_,_,by simp only[vA4,e1,e2]; exact zAV ⟨h2.1,h3.1,h3.2,h2.2⟩ (by rw[h4]; rfl),hv⟩
  .rename_i s k n e1 e2
   obtain⟨h2,hv⟩:=zAZ hv;obtain⟨h3,hv⟩:=zBL hv;obtain⟨b,h4,hv⟩:=zA0 hv;exact⟨_,_,_,_,by simp only[vA4,e1,e2]; exact zAV ⟨h2,h3⟩ (by rw[h4]; rfl),hv⟩
  .exact hv.elim
 .split at hv
  .rename_i vs e
   obtain⟨v,h1,hv⟩:=zA0 hv;rw[force_eq]at hv;rw[zD9]at h1;exact⟨_,_,_,_,by simp only[vA4,e,h1,Option.map_some],hv⟩
  .exact hv.elim
 .obtain⟨i,h1,hv⟩:=zA0 hv
  have h1:=hT _ _ h1;subst h1;obtain⟨h2,hv⟩:=zAZ hv
  split at hv
  .rename_i e; exact⟨_,_,_,_,by simp only[vA4,e]; exact zAV h2 rfl,hv⟩
  .rename_i e; exact⟨_,_,_,_,by simp only[vA4,e]; exact zAV h2 rfl,hv⟩
  .rename_i e; exact⟨_,_,_,_,by simp only[vA4,e]; exact zAV h2 rfl,hv⟩
  .exact hv.elim
 .split at hv
  .rename_i e1 e2; exact⟨_,_,_,_,by simp only[vA4,e1,e2],hv⟩
  .exact hv.elim
 .split at hv
  .rename_i e1 e2; exact⟨_,_,_,_,by simp only[vA4,e1,e2],hv⟩
  .exact hv.elim
 .obtain⟨i,h1,hv⟩:=zA0 hv
  have h1:=hT _ _ h1;subst h1;obtain⟨i2,h1,hv⟩:=zA0 hv;have h1:=hT _ _ h1;subst h1;obtain⟨e,h1,hv⟩:=zA0 hv;have h1:=hT _ _ h1;subst h1;obtain⟨es,ks,h2,hv⟩:=vUF hv;obtain⟨h3,hv⟩:=zAZ hv;simp only[zCH,zC4,zJK,zFZ,allE_iff]at h3
  split at hv
  .rename_i e1
   obtain⟨h4,hv⟩:=zBL hv;rw[zFU]at hv;exact⟨_,_,_,_,by simp only[vA4,h2,e1]; exact zAV h3 (zAV h4 rfl),hv⟩
  .rename_i r off len e1
   obtain⟨b,h4,hv⟩:=zA0 hv;obtain⟨h5,hv⟩:=zAZ hv;obtain⟨h6,hv⟩:=zBL hv;simp only[zCH,zC4,zLF,uF1,zJE]at h5;rw[zFU,zFU]at hv;exact⟨_,_,_,_,by simp only[vA4,h2,e1,h4]; exact zAV h3 (zAV ⟨h6.1,h6.2.1,h5.1,h5.2.1,h5.2.2.1,h5.2.2.2,h6.2.2⟩ rfl),hv⟩
  .exact hv.elim
 .exact hv.elim
end
def uOM(s:St)(d:Nat)(b:Bool):St:=match s with
 | ⟨t,h,z,nx⟩=>⟨ts t d (.bool b),h,z,nx⟩
theorem vUE{s:St}{d:Nat}{b:Bool}(h:s.t d=.bool b):uOM s d b=s:=by
 obtain⟨t,hh,z,nx⟩:=s;unfold uOM;dsimp only at h ⊢;rw[vLT]
 congr 1
 funext j
 unfold vGB
 split
 .rename_i e; rw[e]; exact h.symm
 .rfl
inductive Next(p:Prop):Prop
 | mk (h:p):Next p
theorem Next.out{p:Prop}(h:Next p):p:=by cases h; assumption
def vFO(C:vA8)(I:vB2)(D:Bool)(f:FuncId)(args:List PV)(d:Option Nat)(K:FP->St->Prop)(s:St):Prop:=vFD C I D f args d K s
def vTQ(C:vA8)(l:Nat)(args:List PV)(d:Option Nat)(K:FP->St->Prop)(s:St):Prop:=vLN C l args d K s
def touch(a b:FP):Bool:=FP.apart a b
def rch(os:List Oper)(k:Nat):Nat->List Edge->Bool
 | 0,_=>false
 | f + 1,after=>match after.any (fun e=>an (Nat.beq e.on k) (Region.binds .any e)) with
   | true=>true
   | false=>after.any fun e=>an (Region.binds .any e) (match nth os e.on with
     | some o'=>rch os k f o'.after.toList
     | none=>false)
theorem vVI{os:List Oper}{k:Nat}:∀ (f:Nat) (o:Oper),rch os k f o.after.toList=vCZ os f o k
 | 0,_=>rfl
 | f+1,o=>by
   have e:(o.after.toList.any fun e=>an (Nat.beq e.on k) (Region.binds .any e))=o.after.any (fun e=>e.on == k && Region.binds .any e):=by
    rw[<- Array.any_toList]
    congr 1
    funext e
    rw[zGF,rA1,zCH]
    simp
   have e2:(o.after.toList.any fun e=>an (Region.binds .any e) (match nth os e.on with
    | some o'=>rch os k f o'.after.toList
    | none=>false))=o.after.any fun e=>Region.binds .any e && (match os[e.on]? with
    | some o'=>vCZ os f o' k
    | none=>false):=by
    rw[<- Array.any_toList]
    congr 1
    funext e
    rw[zD9];cases os[e.on]? with
    | none=>cases Region.binds .any e<;>rfl
    | some o'=>dsimp only; rw[vVI f o']; cases Region.binds .any e<;>rfl
   unfold rch vCZ;rw[e,e2];cases o.after.any (fun e=>e.on == k && Region.binds .any e) with
   | true=>rw[rDO]
   | false=>rw[Bool.false_or]; rfl
def clr(os:List Oper)(after:List Edge)(fp:FP):List (Nat×FP)->Bool
 | []=>true
 | (k,f)::acc=>an (match touch f fp with
   | true=>true
   | false=>rch os k 4 after) (clr os after fp acc)
theorem vY8{os:List Oper}{o:Oper}{fp:FP}:∀ {acc:List (Nat×FP)},clr os o.after.toList fp acc=true->vCE os o fp acc=true
 | [],_=>rfl
 | (k,f)::acc,h=>by
   unfold clr at h;rw[zCH]at h;rw[vVI]at h;have ih:=vY8 h.2;rw[zE2,ih,rDT];cases hb:touch f fp with
   | true =>
     have:FP.apart f fp=true:=hb;rw[this,rDH]
   | false =>
     rw[hb]at h;have:vCZ os 4 o k=true:=h.1;rw[this,rDO]
def vE3(P:Program)(G:Gl)(C:vA8)(I:vB2)(Le:LeT)(c:Code)(Q:Exit->St->Prop)(s:St):Prop:=vIZ P G C I Le c Q s
def vO8(P:Program)(G:Gl)(C:vA8)(I:vB2)(Le:LeT)(g:Operand)(ps:Array Tmp)(a b:Code)(Q:Exit->St->Prop)(s:St):Prop:=wp P G C I Le (.rangeFunc g ps a b) Q s
section
variable (P:Program) (T:Ti) (G:Gl) (C:vA8) (I:vB2) (Le:LeT)
def goV(K:FP->St->Prop)(t:Tm)(z:Fz)(nx:Nat)(d:Option Nat)(v:PV)(h':Hp)(rd wr:List Nat):Prop:=fN (nx+1) fun nx'=>match d with
 | some d=>K ⟨rd,wr,[]⟩ ⟨ts t d v,h',z,nx'⟩
 | none=>K ⟨rd,wr,[]⟩ ⟨t,h',z,nx'⟩
def uG0(D:Bool)(o:Oper)(K:FP->St->Prop)(s:St):Prop :=
 match s with
 | ⟨t,h,z,nx⟩=>match o.op with
   | .call { callee:=.value g,args,argTypes:=_ }=>(match ev G t g with
     | .func (.func f) first captured=>evs G t args.toList fun vs=>fL (first++vs++captured) fun as=>vFO C I D f as o.dst K ⟨t,h,z,nx⟩
     | .func (.yield l) [] []=>evs G t args.toList fun vs=>vTQ C l vs o.dst K ⟨t,h,z,nx⟩
     | _=>False)
   | op=>vOp T G z nx op t h (goV K t z nx o.dst)
def uQG (i:Nat) (fp:FP) (acc:List (Nat×FP)):List (Nat×FP):=match fp with
    | ⟨[],[],[]⟩=>acc
    | fp=>(i,fp)::acc
def vMS(R:St->Prop)(t:Tm)(h:Hp)(z:Fz)(nx:Nat)(d:Option Nat):Prop:=fN (nx+1) fun nx'=>match d with
 | some d=>R ⟨ts t d (.tup []),h,z,nx'⟩
 | none=>R ⟨t,h,z,nx'⟩
def vY5(os:List Oper)(D:Bool)(i:Nat)(acc:List (Nat×FP))(o:Oper)(R:Nat->List (Nat×FP)->St->Prop)(fp:FP)(s':St):Prop:=match D with
 | true=>brT (clr os o.after.toList fp acc) (fN (i+1) fun j=>R j (uQG i fp acc) s')
 | false=>R i acc s'
def uA7 (D:Bool) (os:List Oper) (i:Nat) (acc:List (Nat×FP)) (o:Oper) (R:Nat->List (Nat×FP)->St->Prop) (s:St):Prop :=
 match o.guard with
 | none=>uG0 T G C I D o (vY5 os D i acc o R) s
 | some (j,want)=>oK (nth os j) fun q=>oK q.dst fun d=>(match s with
   | ⟨t,h,z,nx⟩=>(match t d with
     | .bool b=>brB b
      (match want with
        | true=>uG0 T G C I D o (vY5 os D i acc o R) ⟨ts t d (.bool true),h,z,nx⟩
        | false=>vMS (R (i+1) acc) (ts t d (.bool true)) h z nx o.dst)
      (match want with
        | true=>vMS (R (i+1) acc) (ts t d (.bool false)) h z nx o.dst
        | false=>uG0 T G C I D o (vY5 os D i acc o R) ⟨ts t d (.bool false),h,z,nx⟩)
     | .tup []=>vMS (R (i+1) acc) t h z nx o.dst
     | _=>False))
def vI2(D:Bool)(os:List Oper):Nat->List (Nat×FP)->List Oper->(St->Prop)->St->Prop
 | _,_,[],K,s=>K s
 | i,acc,o::rest,K,s=>uA7 T G C I D os i acc o (fun i acc s=>Next (vI2 D os i acc rest K s)) s
def vc:Code->(Exit->St->Prop)->St->Prop
 | .skip,Q,s=>Q .normal s
 | .label _,Q,s=>Q .normal s
 | .scope c,Q,s=>vc c (vOT Q) s
 | .seq a b,Q,s=>vc a (vDQ Le (vc b Q) Q) s
 | .cond c a b,Q,s=>(match ev G s.t c with
   | .bool t=>(match c with
     | .tmp i=>brB t (vc a Q (uOM s i true)) (vc b Q (uOM s i false))
     | _=>brB t (vc a Q s) (vc b Q s))
   | .anyb=>vc a Q s/\vc b Q s
   | _=>False)
 | .block id c,Q,s=>vc c (vDK id Q) s
 | .loop c,Q,s=>vE3 P G C I Le c Q s
 | .exit id,Q,s=>Q (.exit id) s
 | .ret,Q,s=>Q .ret s
 | .region _ ops D,Q,s=>(match vDL D ops.toList with
   | true=>vI2 T G C I true ops.toList 0 [] ops.toList (Q .normal) s
   | false=>vI2 T G C I false ops.toList 0 [] ops.toList (Q .normal) s)
 | .rangeFunc g ps a b,Q,s=>vO8 P G C I Le g ps a b Q s
 | _,_,_=>False
end
section
variable {P:Program} {T:Ti} {G:Gl} {C:vA8} {I:vB2} {Le:LeT}
theorem uNH{K:FP->St->Prop}{t:Tm}{h h':Hp}{z:Fz}{nx:Nat}{d:Option Nat}{v:PV}{rd wr:List Nat}(hk:goV K t z nx d v h' rd wr):K ⟨rd,wr,[]⟩ (put { (⟨t,h,z,nx⟩:St) with h:=h',nx:=nx+1 } d v):=by
 unfold goV at hk;rw[zKV]at hk;cases d with
 | none=>exact hk
 | some d=>dsimp only at hk; rw[vLT]at hk; exact hk
theorem vPB{R:St->Prop}{t:Tm}{h:Hp}{z:Fz}{nx:Nat}{d:Option Nat}(hk:vMS R t h z nx d):R (put { (⟨t,h,z,nx⟩:St) with nx:=nx+1 } d (.tup [])):=by
 unfold vMS at hk;rw[zKV]at hk;cases d with
 | none=>exact hk
 | some d=>dsimp only at hk; rw[vLT]at hk; exact hk
theorem uOL{t:Tm}{d:Nat}{b:Bool}(e:t d=.bool b):ts t d (.bool b)=t:=by
 rw[vLT]
 funext j
 unfold vGB
 split
 .rename_i q; rw[q]; exact e.symm
 .rfl
theorem zPT(hT:∀ i x,T i=some x->vA6 P i=x){D:Bool}{o:Oper}{K:FP->St->Prop}{s:St}(h:uG0 T G C I D o K s):vFC P G C I D o K s:=by
 obtain⟨t,hh,z,nx⟩:=s;unfold uG0 at h;unfold vFC;dsimp only at h
 split at h
 .rename_i g args ts e
  rw[e];dsimp only
  split at h
  .rename_i f first captured e2
   rw[e2];rw[vK1,vNP]at h;exact h
  .rename_i l e2
   rw[e2];rw[vK1]at h;exact h
  .exact h.elim
 .rename_i op hne
  obtain⟨v,h',rd,wr,h1,h2⟩:=vTZ hT h;have h2:=uNH (h:=hh) h2
  split
  .rename_i g args ts e; exact absurd e (hne g args ts)
  .rw[h1]; exact h2
theorem vOF (hI:∀ f args (J J':PV->St->Prop) s,(∀ v s,J v s->J' v s)->I f args J s->I f args J' s) (hT:∀ i x,T i=some x->vA6 P i=x) {os:List Oper} {K:St->Prop} :
 ∀ (l:List Oper) (i:Nat) (acc:List (Nat×FP)) (s:St),vI2 T G C I false os i acc l K s->wpF P G C I (os.map (·.dst)) l K s
 | [],_,_,_,h=>h
 | o :: rest,i,acc,s,h=>by
   have run:∀ s,uG0 T G C I false o (vY5 os false i acc o (fun i acc s=>Next (vI2 T G C I false os i acc rest K s))) s->vFC P G C I false o (fun _ s'=>wpF P G C I (os.map (·.dst)) rest K s') s :=
    fun s h=>zJ8 hI (fun fp s' h=>vOF hI hT rest _ _ _ (Next.out h)) (zPT hT h)
   have pass:∀ t hh z nx,vMS (fun s=>Next (vI2 T G C I false os (i+1) acc rest K s)) t hh z nx o.dst->wpF P G C I (os.map (·.dst)) rest K (put { (⟨t,hh,z,nx⟩:St) with nx:=nx+1 } o.dst (.tup [])) :=
    fun t hh z nx h=>vOF hI hT rest _ _ _ (vPB h).out
   unfold vI2 uA7 at h;unfold wpF;cases hg:o.guard with
   | none=>rw[hg]at h; exact run s h
   | some jw =>
     obtain⟨j,want⟩:=jw;rw[hg]at h;dsimp only at h ⊢;obtain⟨q,h1,h3⟩:=zA0 h;clear h;obtain⟨d,h2,h⟩:=zA0 h3;clear h3;rw[zD9]at h1;rw[<- vYN,h1];dsimp only[Option.bind_some];rw[h2];dsimp only;obtain⟨t,hh,z,nx⟩:=s;dsimp only at h ⊢;unfold guarded
     split at h
     .rename_i b e
      rw[e];cases b with
      | true =>
        rw[uOL e]at h;cases want with
        | true=>exact⟨fun _=>run _ h,fun hw=>by cases hw⟩
        | false=>exact⟨fun hw=>(by cases hw),fun _=>pass _ _ _ _ h⟩
      | false =>
        rw[uOL (b:=false) e]at h;cases want with
        | true=>exact⟨fun hw=>(by cases hw),fun _=>pass _ _ _ _ h⟩
        | false=>exact⟨fun _=>run _ h,fun hw=>by cases hw⟩
     .rename_i e
      rw[e];exact pass _ _ _ _ h
     .exact h.elim
theorem uLA{i:Nat}{fp:FP}{acc:List (Nat×FP)}:uQG i fp acc=vLK i fp acc:=by
 obtain⟨a,b,c⟩:=fp;unfold uQG vLK;cases a<;>cases b<;>cases c<;>rfl
theorem vTY (hI:∀ f args (J J':PV->St->Prop) s,(∀ v s,J v s->J' v s)->I f args J s->I f args J' s) (hT:∀ i x,T i=some x->vA6 P i=x) {os:List Oper} {K:St->Prop} :
 ∀ (l:List Oper) (i:Nat) (acc:List (Nat×FP)) (s:St),vI2 T G C I true os i acc l K s->wpT P G C I os i acc l K s
 | [],_,_,_,h=>by unfold wpT; exact h
 | o :: rest,i,acc,s,h=>by
   have run:∀ s,uG0 T G C I true o (vY5 os true i acc o (fun i acc s=>Next (vI2 T G C I true os i acc rest K s))) s ->
    vFC P G C I true o (fun fp s'=>vCE os o fp acc=true/\wpT P G C I os (i+1) (vLK i fp acc) rest K s') s :=
    fun s h=>zJ8 hI (fun fp s' h=>by
     obtain⟨h1,h⟩:=zAZ h;rw[zKV,uLA]at h
     exact⟨vY8 h1,vTY hI hT rest _ _ _ h.out⟩) (zPT hT h)
   have pass:∀ t hh z nx,vMS (fun s=>Next (vI2 T G C I true os (i+1) acc rest K s)) t hh z nx o.dst->wpT P G C I os (i+1) acc rest K (put { (⟨t,hh,z,nx⟩:St) with nx:=nx+1 } o.dst (.tup [])) :=
    fun t hh z nx h=>vTY hI hT rest _ _ _ (vPB h).out
   unfold vI2 uA7 at h;unfold wpT;cases hg:o.guard with
   | none=>rw[hg]at h; exact run s h
   | some jw =>
     obtain⟨j,want⟩:=jw;rw[hg]at h;dsimp only at h ⊢;obtain⟨q,h1,h3⟩:=zA0 h;clear h;obtain⟨d,h2,h⟩:=zA0 h3;clear h3;rw[zD9]at h1;rw[h1];dsimp only[Option.bind_some];rw[h2];dsimp only;obtain⟨t,hh,z,nx⟩:=s;dsimp only at h ⊢;unfold guarded
     split at h
     .rename_i b e
      rw[e];cases b with
      | true =>
        rw[uOL e]at h;cases want with
        | true=>exact⟨fun _=>run _ h,fun hw=>by cases hw⟩
        | false=>exact⟨fun hw=>(by cases hw),fun _=>pass _ _ _ _ h⟩
      | false =>
        rw[uOL (b:=false) e]at h;cases want with
        | true=>exact⟨fun hw=>(by cases hw),fun _=>pass _ _ _ _ h⟩
        | false=>exact⟨fun _=>run _ h,fun hw=>by cases hw⟩
     .rename_i e
      rw[e];exact pass _ _ _ _ h
     .exact h.elim
theorem zDR(hI:∀ f args (J J':PV->St->Prop) s,(∀ v s,J v s->J' v s)->I f args J s->I f args J' s)(hT:∀ i x,T i=some x->vA6 P i=x) :
 ∀ (c:Code) (Q:Exit->St->Prop) (s:St),vc P T G C I Le c Q s->wp P G C I Le c Q s
 | .skip,_,_,h=>h
 | .label _,_,_,h=>h
 | .seq a b,Q,s,h=>by
   refine wp_mono hI a _ _ s (fun e s h=>?_) (zDR hI hT a _ s h);cases e<;>unfold vDQ at h ⊢<;>first | exact h | (obtain⟨s',h1,h2⟩:=h; exact⟨s',h1,zDR hI hT b _ s' h2⟩)
 | .cond c a b,Q,s,h=>by
   unfold vc at h;unfold wp
   split at h
   .rename_i t e
    rw[e];dsimp only
    split at h
    .rename_i i
     refine⟨fun ht=>?_,fun ht=>?_⟩
     .subst ht; rw[vUE e]at h; exact zDR hI hT a _ s h
     .subst ht; exact zDR hI hT b _ s (by rw[vUE (b:=false) e]at h; exact h)
    .refine⟨fun ht=>?_,fun ht=>?_⟩
     .subst ht; exact zDR hI hT a _ s h
     .subst ht; exact zDR hI hT b _ s h
   .rename_i e; rw[e]; exact⟨zDR hI hT a _ s h.1,zDR hI hT b _ s h.2⟩
   .exact h.elim
 | .block id c,Q,s,h=>zDR hI hT c _ s h
 | .loop c,Q,s,h=>h
 | .exit id,_,_,h=>h
 | .ret,_,_,h=>h
 | .region id ops D,Q,s,h=>by
   obtain⟨l⟩:=ops;cases D with
   | false=>rw[uAV]; exact vOF hI hT _ _ _ _ h
   | true =>
     unfold vc at h;cases hc:vDL true l with
     | true=>rw[show vDL true l.toArray.toList=true by simpa using hc]at h; rw[uAU hc]; exact vTY hI hT _ _ _ _ h
     | false=>rw[show vDL true l.toArray.toList=false by simpa using hc]at h; rw[uAW hc]; exact vOF hI hT _ _ _ _ h
 | .rangeFunc ..,_,_,h=>h
 | .scope c,Q,s,h=>zDR hI hT c _ s h
 | .goto _,_,_,h=>h
 | .refuse _,_,_,h=>h
end
section
variable {P:Program} {T:Ti} {G:Gl} {C:vA8} {I:vB2} {Le:LeT} {Q:Exit->St->Prop} {K:St->Prop} {s:St}
theorem vVM(h:Q .normal s):vc P T G C I Le .skip Q s:=h
theorem vMN{l:Nat}(h:Q .normal s):vc P T G C I Le (.label l) Q s:=h
theorem vML{c:Code}(h:vc P T G C I Le c (vOT Q) s):vc P T G C I Le (.scope c) Q s:=h
theorem uHT{a b:Code}(h:vc P T G C I Le a (vDQ Le (vc P T G C I Le b Q) Q) s):vc P T G C I Le (.seq a b) Q s:=h
theorem vMP{id:Nat}{c:Code}(h:vc P T G C I Le c (vDK id Q) s):vc P T G C I Le (.block id c) Q s:=h
theorem vVQ{c:Code}(h:vE3 P G C I Le c Q s):vc P T G C I Le (.loop c) Q s:=h
theorem vVR{id:Nat}(h:Q (.exit id) s):vc P T G C I Le (.exit id) Q s:=h
theorem uHV(h:Q .ret s):vc P T G C I Le .ret Q s:=h
theorem vHD{id:Nat}{ops:List Oper}{D:Bool}(h:match vDL D ops with
 | true=>vI2 T G C I true ops 0 [] ops (Q .normal) s
 | false=>vI2 T G C I false ops 0 [] ops (Q .normal) s):vc P T G C I Le (.region id ops.toArray D) Q s:=h
def uNP(G:Gl)(c:Operand)(A B:St->Prop)(s:St):Prop:=match s with
 | ⟨t,h,z,nx⟩=>match ev G t c with
   | .bool b=>(match c with
     | .tmp i=>brB b (Next (A ⟨ts t i (.bool true),h,z,nx⟩)) (Next (B ⟨ts t i (.bool false),h,z,nx⟩))
     | _=>brB b (Next (A ⟨t,h,z,nx⟩)) (Next (B ⟨t,h,z,nx⟩)))
   | .anyb=>Next (A ⟨t,h,z,nx⟩)/\Next (B ⟨t,h,z,nx⟩)
   | _=>False
theorem vVT{c:Operand}{a b:Code}(h:uNP G c (vc P T G C I Le a Q) (vc P T G C I Le b Q) s):vc P T G C I Le (.cond c a b) Q s:=by
 obtain⟨t,hh,z,nx⟩:=s;unfold uNP at h;dsimp only at h;unfold vc;dsimp only;cases e:ev G t c with
 | bool x =>
   rw[e]at h;dsimp only at h ⊢;cases c with
   | tmp i=>cases x<;>exact h.out
   | _=>cases x<;>exact h.out
 | anyb=>rw[e]at h; exact⟨h.1.out,h.2.out⟩
 | _=>rw[e]at h; exact h.elim
theorem zAL{A B:Prop}(h1:Next A)(h2:Next B):Next A/\Next B:=⟨h1,h2⟩
theorem zA3{n0:Nat}(h:K s):vDQ (LeS G,n0) K Q .normal s:=by
 unfold vDQ; exact⟨s,fun _ _ _ _ _ A κ _ hR=>⟨A,κ,hR⟩,h⟩
theorem vHC{id:Nat}(h:Q (.exit id) s):vDQ Le K Q (.exit id) s:=by unfold vDQ; exact h
theorem vHB(h:Q .ret s):vDQ Le K Q .ret s:=by unfold vDQ; exact h
theorem vT6{n0:Nat}{s':St}(hle:LeS G n0 s s')(h:K s'):vDQ (LeS G,n0) K Q .normal s:=by unfold vDQ; exact⟨s',hle,h⟩
theorem vVL(h:K s):vDV K Q .normal s:=h
theorem vMK{id:Nat}(h:Q (.exit id) s):vDV K Q (.exit id) s:=h
theorem vMJ(h:Q .ret s):vDV K Q .ret s:=h
theorem uH0{id:Nat}(h:Q .normal s):vDK id Q .normal s:=h
theorem uH1{id id':Nat}(h:brB (Nat.beq id' id) (Next (Q .normal s)) (Next (Q (.exit id') s))):vDK id Q (.exit id') s:=by
 unfold vDK;rw[zGF]at h;by_cases e:id'=id
 .simp only[e,rDI]at h; simp only[e,rCI]; exact h.out
 .simp only[e,rC7]at h; simp only[e,rCN]; exact h.out
theorem uHZ{id:Nat}(h:Q .ret s):vDK id Q .ret s:=h
theorem uHU(h:Q .ret s):vOT Q .ret s:=h
section
variable {D:Bool} {os:List Oper} {i:Nat} {acc:List (Nat×FP)} {o:Oper} {rest:List Oper}
theorem uHY(h:K s):vI2 T G C I D os i acc [] K s:=by unfold vI2; exact h
theorem uPF(h:uA7 T G C I D os i acc o (fun i acc s=>Next (vI2 T G C I D os i acc rest K s)) s):vI2 T G C I D os i acc (o::rest) K s:=h
end
end
def uAR(ds:List PV)(i:Nat):PV:=match nth ds i with
 | some v=>v
 | none=>.tup []
theorem zH6{ds:List PV}:uAR ds=vEC ds:=by
 funext i
 unfold uAR vEC;rw[zD9];cases h:ds[i]? with
 | none=>simp[List.getD,h]
 | some v=>simp[List.getD,h]
def noH:Hp:=fun _=>none
def noZ:Fz:=fun _=>false
def vOK(ds:List PV):St:=⟨uAR ds,noH,noZ,0⟩
theorem vJC{ds:List PV}:vOK ds=start ds:=by unfold vOK start; rw[zH6]; rfl
def uMD(T:Ti)(s:St)(r:ResultVar)(K:PV->Prop):Prop:=match r with
 | .tmp t=>force (s.t t) K
 | .cell x ty=>oK (T ty) fun i=>(match s.t x with
   | .ptr r j off=>oK (s.h r) fun b=>oK (nth b.els j) fun e=>vMU e off i.size i.agg K
   | _=>False)
def vVE(T:Ti)(s:St):List ResultVar->(List PV->Prop)->Prop
 | [],K=>K []
 | r::rs,K=>uMD T s r fun v=>vVE T s rs fun vs=>K (v::vs)
def vOG(T:Ti)(rs:List ResultVar)(K:PV->St->Prop)(e:Exit)(s:St):Prop:=match e with
 | .normal | .ret=>(match rs with
   | [r]=>uMD T s r fun v=>K v s
   | rs=>vVE T s rs fun vs=>K (.tup vs) s)
 | _=>False
section
variable {P:Program} {T:Ti} {G:Gl}
theorem vJQ(hT:∀ i x,T i=some x->vA6 P i=x){s:St}{r:ResultVar}{K:PV->Prop}(h:uMD T s r K):∃ v,vGD P s r=some v/\K v:=by
 unfold uMD at h;unfold vGD;cases r with
 | tmp t=>dsimp only at h; rw[force_eq]at h; exact⟨_,rfl,h⟩
 | cell x ty =>
   dsimp only at h ⊢;obtain⟨i,h1,h⟩:=zA0 h;have h1:=hT _ _ h1;subst h1
   split at h
   .rename_i r j off e
    obtain⟨b,h2,h⟩:=zA0 h;obtain⟨d,h3,h⟩:=zA0 h;obtain⟨v,h4,h⟩:=zGP h;rw[zD9]at h3;exact⟨v,by rw[e]; dsimp only; rw[h2]; dsimp only; rw[h3]; exact h4,h⟩
   .exact h.elim
theorem zP5(hT:∀ i x,T i=some x->vA6 P i=x){s:St}:∀ {rs:List ResultVar} {K:List PV->Prop},vVE T s rs K->∃ vs,vDG P s rs=some vs/\K vs
 | [],K,h=>⟨[],rfl,h⟩
 | r::rs,K,h=>by
   obtain⟨v,h1,h⟩:=vJQ hT h;obtain⟨vs,h2,h⟩:=zP5 hT h;exact⟨v::vs,by unfold vDG; rw[h1,h2],h⟩
theorem zOB{s:St}:∀ {rs:List ResultVar} {vs:List PV},vDG P s rs=some vs->vs.length=rs.length
 | [],vs,h=>by simp[vDG]at h; subst h; rfl
 | r::rs,vs,h=>by
   unfold vDG at h
   split at h
   .rename_i v vs' h1 h2; cases h; simp[zOB h2]
   .cases h
theorem zB9(hT:∀ i x,T i=some x->vA6 P i=x){rs:List ResultVar}{K:PV->St->Prop}{e:Exit}{s:St}(h:vOG T rs K e s):vF4 P rs K e s:=by
 have key:∀ rs:List ResultVar,(match rs with
  | [r]=>uMD T s r fun v=>K v s
  | rs=>vVE T s rs fun vs=>K (.tup vs) s)->∃ v,vFJ P rs s=some v/\K v s:=by
  intro rs h
  have many:(∀ r,rs≠[r])->(vVE T s rs fun vs=>K (.tup vs) s)->∃ v,vFJ P rs s=some v/\K v s:=by
   intro hne h;obtain⟨vs,h1,h⟩:=zP5 hT h;refine⟨.tup vs,?_,h⟩;have hl:=zOB h1;unfold vFJ;rw[h1]
   match vs,hl with
   | [],_=>rfl
   | [v],hl =>
     obtain⟨r,hr⟩:=rFJ.1 hl.symm;exact absurd hr (hne r)
   | _::_::_,_=>rfl
  match rs,h,many with
  | [],h,many=>exact many (fun r=>by simp) h
  | [r],h,_ =>
    obtain⟨v,h1,h⟩:=vJQ hT h;exact⟨v,by unfold vFJ vDG; rw[h1]; simp[vDG],h⟩
  | _::_::_,h,many=>exact many (fun r=>by simp) h
 unfold vOG at h;cases e with
 | normal=>exact key rs h
 | ret=>exact key rs h
 | _=>exact h.elim
abbrev VC(P:Program)(T:Ti)(G:Gl)(n0:Nat):Code->(Exit->St->Prop)->St->Prop:=vc P T G (FnC P G) (FnH P G) (LeS G,n0)
theorem zHF(hT:∀ i x,T i=some x->vA6 P i=x){n0:Nat}{c:Code}{Q Q':Exit->St->Prop}{s:St}(hq:∀ e s,Q e s->Q' e s)(h:VC P T G n0 c Q s):wp P G (FnC P G) (FnH P G) (LeS G,n0) c Q' s :=
 wp_mono FnH.mono c _ _ s hq (zDR FnH.mono hT c _ s h)
def vFY(h:Hp)(v d:PV):Prop:=gives h v d
theorem zAB{h:Hp}{v d d':PV}{ks:List Nat}(e:frz h 4 v=some (d',ks))(e':d'=d):vFY h v d:=⟨ks,e' ▸ e⟩
def vEW(els:List PV)(sz:Nat)(agg:Bool)(v:PV)(s:St):Prop:=vH4 els sz agg v s
theorem zDJ{sz:Nat}{agg:Bool}{s:St}:vEW [] sz agg .nilsl s:=rAW ⟨rfl,rfl⟩
theorem zBH{els els':List PV}{sz:Nat}{agg:Bool}{r len:Nat}{s:St}(hb:s.h r=some ⟨els',sz,agg⟩)(e:els'=els)(hl:len=els.length)(hz:s.z r=false)(hf:vB6 (frz s.h 4) els=some (els,[])):vEW els sz agg (.own r 0 len) s:=by subst e; exact vNM hl hb hz hf
theorem zAM(hm:P.follows .mixedOrders=true)(hT:∀ i x,T i=some x->vA6 P i=x){f:FuncId}{fn:Func}{c:Code}{rs:List ResultVar}{nt:Nat}(ok:FnOk P f fn c rs nt){ds:List PV}(hl:ds.length<=nt){d:PV}
 (h:VC P T G 0 c (vOG T rs fun v s=>vFY s.h v d) (vOK ds)):FnC P G f ds (.data d) :=
 uNK hm ok hl (by rw[<- vJC]; exact zHF hT (fun e s h=>zB9 hT h) h)
theorem zDU(hm:P.follows .mixedOrders=true)(hT:∀ i x,T i=some x->vA6 P i=x){f:FuncId}{fn:Func}{c:Code}{rs:List ResultVar}{nt:Nat}(ok:FnOk P f fn c rs nt){ds:List PV}(hl:ds.length<=nt){els:List PV}{sz:Nat}{agg:Bool}
 (h:VC P T G 0 c (vOG T rs (vEW els sz agg)) (vOK ds)):FnC P G f ds (.fresh els sz agg) :=
 uJW hm ok hl (by rw[<- vJC]; exact zHF hT (fun e s h=>zB9 hT h) h)
def fZ(z:Fz)(ks:List Nat)(K:Fz->Prop):Prop:=match ks with
 | []=>K z
 | k::ks=>K (fs z (k::ks))
theorem vK0{z:Fz}{ks:List Nat}{K:Fz->Prop}(h:fZ z ks K):K (vCI z ks):=by
 cases ks with
 | nil=>rw[uDZ]; exact h
 | cons k ks=>rw[<- uNI]; exact h
def vFP(K:FP->St->Prop)(t:Tm)(d:Option Nat)(v:PV)(h:Hp)(z:Fz)(nx:Nat)(fp:FP):Prop:=force v fun v=>match d with
 | some d=>K fp ⟨ts t d v,h,z,nx⟩
 | none=>K fp ⟨t,h,z,nx⟩
theorem zE6{K:FP->St->Prop}{t:Tm}{d:Option Nat}{v:PV}{h:Hp}{z:Fz}{nx:Nat}{fp:FP}(hk:vFP K t d v h z nx fp):K fp (put ⟨t,h,z,nx⟩ d v):=by
 unfold vFP at hk;rw[force_eq]at hk;cases d with
 | none=>exact hk
 | some d=>dsimp only at hk; rw[vLT]at hk; exact hk
theorem zAA{C:vA8}{I:vB2}{D:Bool}{f:FuncId}{args ds:List PV}{ks:List Nat}{v:PV}{d:Option Nat}{K:FP->St->Prop}{t:Tm}{h:Hp}{z:Fz}{nx:Nat}(hC:C f ds (.data v))(hf:vB6 (frz h 6) args=some (ds,ks))
 (hk:fZ z ks fun z=>fN (nx+1) fun nx=>vFP K t d v h z nx ⟨ks,[],ks⟩):vFO C I D f args d K ⟨t,h,z,nx⟩ :=
 vZG (s:=⟨t,h,z,nx⟩) hC hf (by
  have:=vK0 hk;rw[zKV]at this
  exact zE6 this)
theorem zA4{C:vA8}{I:vB2}{D:Bool}{f:FuncId}{args ds:List PV}{ks:List Nat}{els:List PV}{sz:Nat}{agg:Bool}{d:Option Nat}{K:FP->St->Prop}{t:Tm}{h:Hp}{z:Fz}{nx:Nat}(hC:C f ds (.fresh els sz agg))(hf:vB6 (frz h 6) args=some (ds,ks))
 (hk:fZ z ks fun z=>fN nx fun key=>fN (nx+1) fun nx=>vFP K t d (.own key 0 els.length) (hs h key (some ⟨els,sz,agg⟩)) z nx ⟨ks,[key],ks⟩):vFO C I D f args d K ⟨t,h,z,nx⟩ :=
 vS3 (s:=⟨t,h,z,nx⟩) hC hf (by
  have:=vK0 hk;rw[zKV,zKV,zFU]at this
  exact zE6 this)
theorem vZH{C:vA8}{I:vB2}{f:FuncId}{args:List PV}{d:Option Nat}{K:FP->St->Prop}{s:St}(h:I f args (fun v s'=>K ⟨[],[],[]⟩ (put { s' with t:=s.t } d v)) s):vFO C I false f args d K s :=
 uEK h
end
theorem vTP{C:vA8}{l:Nat}{args ds:List PV}{ks:List Nat}{i j:Nat}{b:Bool}{d:Option Nat}{K:FP->St->Prop}{t:Tm}{h:Hp}{z:Fz}{nx:Nat}(hC:C l (.anyb::ds) (.gh i j b))(hf:vB6 (frz h 6) args=some (ds,ks))(hi:h 0=some (vC6 i))
 (hk:fZ z ks fun z=>fN (nx+1) fun nx=>vFP K t d (.bool b) (hs h 0 (some (vC6 j))) z nx ⟨0::ks,[0],ks⟩):vTQ C l args d K ⟨t,h,z,nx⟩ :=
 ⟨6,ds,ks,i,j,b,hf,hC,hi,by
   have:=vK0 hk;rw[zKV,zFU]at this
   exact zE6 this⟩
theorem vQI{C:vA8}{I:vB2}{D:Bool}{f:FuncId}{args ds:List PV}{ks:List Nat}{i j:Nat}{b:Bool}{d:Option Nat}{K:FP->St->Prop}{t:Tm}{h:Hp}{z:Fz}{nx:Nat}(hC:C f ds (.gh i j b))(hf:vB6 (frz h 6) args=some (ds,ks))(hi:h 0=some (vC6 i))
 (hk:fZ z ks fun z=>fN (nx+1) fun nx=>vFP K t d (.bool b) (hs h 0 (some (vC6 j))) z nx ⟨0::ks,[0],ks⟩):vFO C I D f args d K ⟨t,h,z,nx⟩ :=
 rAW ⟨6,ds,ks,.gh i j b,hf,hC,hi,by
  have:=vK0 hk;rw[zKV,zFU]at this
  exact zE6 this⟩
theorem zBS{C:vA8}{I:vB2}{D:Bool}{f:FuncId}{args ds:List PV}{ks:List Nat}{r:Nat}{b b1:Blk}{res:PV}{d:Option Nat}{K:FP->St->Prop}{t:Tm}{h:Hp}{z:Fz}{nx:Nat}(hC:C f ds (.own (some b) res b1))(hf:vB6 (cv h 6 (some r)) args=some (ds,ks))(hb:h r=some b)(hz:z r=false)(hr:ks.contains r=false)(hn:nrs b)
 (hk:fZ z ks fun z=>fN nx fun key=>fN (nx+1) fun nx=>vFP K t d (rk key res) (hs (hs h r none) key (some b1)) z nx ⟨r::ks,[r,key],ks⟩):vFO C I D f args d K ⟨t,h,z,nx⟩ :=
 rAZ (rAZ (rAW ⟨6,ds,ks,some (r,b),res,b1,hf,hC,fun r' b' e=>by cases e; exact⟨hb,hz,by simpa using hr,hn⟩,by
  have:=vK0 hk;rw[zKV,zKV,zFU,zFU]at this
  exact zE6 this⟩))
theorem zCB{C:vA8}{I:vB2}{D:Bool}{f:FuncId}{args ds:List PV}{ks:List Nat}{b1:Blk}{res:PV}{d:Option Nat}{K:FP->St->Prop}{t:Tm}{h:Hp}{z:Fz}{nx:Nat}(hC:C f ds (.own none res b1))(hf:vB6 (cv h 6 none) args=some (ds,ks))
 (hk:fZ z ks fun z=>fN nx fun key=>fN (nx+1) fun nx=>vFP K t d (rk key res) (hs h key (some b1)) z nx ⟨ks,[key],ks⟩):vFO C I D f args d K ⟨t,h,z,nx⟩ :=
 rAZ (rAZ (rAW ⟨6,ds,ks,none,res,b1,hf,hC,fun r' b' e=>(by cases e),by
  have:=vK0 hk;rw[zKV,zKV,zFU]at this
  exact zE6 this⟩))
theorem vK7{C:vA8}{I:vB2}{D:Bool}{f:FuncId}{args ds:List PV}{ks:List Nat}{r:Nat}{b b1:Blk}{v:PV}{d:Option Nat}{K:FP->St->Prop}{t:Tm}{h:Hp}{z:Fz}{nx:Nat}(hC:C f ds (.wrt b v b1))(hf:vB6 (cv h 6 (some r)) args=some (ds,ks))(hb:h r=some b)(hz:z r=false)(hr:ks.contains r=false)(hn:nrs b)(hr0:0<r)
 (hk:fZ z ks fun z=>fN (nx+1) fun nx=>vFP K t d v (hs h r (some b1)) z nx ⟨r::ks,[r],ks⟩):vFO C I D f args d K ⟨t,h,z,nx⟩ :=
 rAZ (rAZ (rAZ (rAW ⟨6,ds,ks,r,b,v,b1,hf,hC,⟨hb,hz,by simpa using hr,hn,rAW hr0⟩,by
  have:=vK0 hk;rw[zKV,zFU]at this
  exact zE6 this⟩)))
theorem zMG{C:vA8}{I:vB2}{D:Bool}{f:FuncId}{args ds:List PV}{ks:List Nat}{r:Nat}{b b1:Blk}{v:PV}{d:Option Nat}{K:FP->St->Prop}{t:Tm}{h:Hp}{z:Fz}{nx:Nat}(hC:C f ds (.wrt b v b1))(hf:vB6 (cv h 6 (some r)) args=some (ds,ks))(hb:h r=some b)(hz:z r=false)(hr:ks.contains r=false)(hn:nrs b)(hr0:∀ i,b≠vC6 i)
 (hk:fZ z ks fun z=>fN (nx+1) fun nx=>vFP K t d v (hs h r (some b1)) z nx ⟨r::ks,[r],ks⟩):vFO C I D f args d K ⟨t,h,z,nx⟩ :=
 rAZ (rAZ (rAZ (rAW ⟨6,ds,ks,r,b,v,b1,hf,hC,⟨hb,hz,by simpa using hr,hn,rAZ (rAZ hr0)⟩,by
  have:=vK0 hk;rw[zKV,zFU]at this
  exact zE6 this⟩)))
def uQ2(v:PV)(bs':List Blk)(pv:PV)(s:St):Prop:=vD6 v bs' pv s
def uPR(v:PV)(b1:Blk)(pv:PV)(s:St):Prop:=uM7 v b1 pv s
theorem zL6{v pv:PV}{els els':List PV}{sz:Nat}{agg:Bool}{s:St}(hv:pv=v)(hnv:nr 3 v=true)(hb:s.h 0=some ⟨els',sz,agg⟩)(e:els'=els)(hz:s.z 0=false)(hn:∀ e∈els,nr 3 e=true):uPR v ⟨els,sz,agg⟩ pv s:=by
 subst e; exact⟨hv,hnv,hb,hz,hn⟩
def uMN(res:PV)(b1:Blk)(v:PV)(s:St):Prop:=uMO res b1 v s
theorem zL0{res v:PV}{els els':List PV}{sz:Nat}{agg:Bool}{r:Nat}{s:St}(hv:v=rk r res)(hb:s.h r=some ⟨els',sz,agg⟩)(e:els'=els)(hz:s.z r=false)(hn:∀ e∈els,nr 3 e=true)(ho:vJ9 ⟨els,sz,agg⟩ res):uMN res ⟨els,sz,agg⟩ v s:=by
 subst e; exact⟨hn,ho,rAW ⟨r,hv,hb,hz⟩⟩
theorem vPF{res v:PV}{els:List PV}{sz:Nat}{agg:Bool}{s:St}(hv:v=rkn res)(e:els=[])(ho:vJ9 ⟨els,sz,agg⟩ res):uMN res ⟨els,sz,agg⟩ v s :=
 ⟨fun x hx=>(by rw[show(⟨els,sz,agg⟩:Blk).els=[] from e]at hx; cases hx),ho,rAZ ⟨hv,e⟩⟩
theorem zF0{els:List PV}{sz:Nat}{agg:Bool}(h:∀ e∈els,nr 3 e=true/\e≠.any):nrs ⟨els,sz,agg⟩:=fun e he=>(h e he).1
section
variable {P:Program} {T:Ti} {G:Gl}
theorem vKU(hm:P.follows .mixedOrders=true)(hT:∀ i x,T i=some x->vA6 P i=x){f:FuncId}{fn:Func}{c:Code}{rs:List ResultVar}{nt:Nat}(ok:FnOk P f fn c rs nt){ds:List PV}(hl:ds.length<=nt){b b1:Blk}{res:PV}
 (h:VC P T G 1 c (vOG T rs (uMN res b1)) ⟨uAR ds,hs noH 0 (some b),noZ,1⟩):FnC P G f ds (.own (some b) res b1) :=
 ⟨ok.callable,by
   have:=zH7 hm ok hl (G:=G) (K:=uMO res b1) (s:=vDJ (some b)) (by
    show wp P G (FnC P G) (FnH P G) (LeS G,1) c _ ⟨vEC ds,hset noH 0 (some b),noZ,1⟩
    rw[<- zH6,<- zFU]; exact zHF hT (fun e s h=>zB9 hT h) h)
   exact this⟩
theorem vKV(hm:P.follows .mixedOrders=true)(hT:∀ i x,T i=some x->vA6 P i=x){f:FuncId}{fn:Func}{c:Code}{rs:List ResultVar}{nt:Nat}(ok:FnOk P f fn c rs nt){ds:List PV}(hl:ds.length<=nt){b1:Blk}{res:PV}
 (h:VC P T G 1 c (vOG T rs (uMN res b1)) ⟨uAR ds,noH,noZ,1⟩):FnC P G f ds (.own none res b1) :=
 ⟨ok.callable,by
   have:=zH7 hm ok hl (G:=G) (K:=uMO res b1) (s:=vDJ none) (by
    show wp P G (FnC P G) (FnH P G) (LeS G,1) c _ ⟨vEC ds,noH,noZ,1⟩
    rw[<- zH6]; exact zHF hT (fun e s h=>zB9 hT h) h)
   exact this⟩
theorem zIP(hm:P.follows .mixedOrders=true)(hT:∀ i x,T i=some x->vA6 P i=x){f:FuncId}{fn:Func}{c:Code}{rs:List ResultVar}{nt:Nat}(ok:FnOk P f fn c rs nt){ds:List PV}(hl:ds.length<=nt){b b1:Blk}{v:PV}
 (h:VC P T G 1 c (vOG T rs (uPR v b1)) ⟨uAR ds,hs noH 0 (some b),noZ,1⟩):FnC P G f ds (.wrt b v b1) :=
 ⟨ok.callable,by
   have:=zH7 hm ok hl (G:=G) (K:=uM7 v b1) (s:=vDJ (some b)) (by
    show wp P G (FnC P G) (FnH P G) (LeS G,1) c _ ⟨vEC ds,hset noH 0 (some b),noZ,1⟩
    rw[<- zH6,<- zFU]; exact zHF hT (fun e s h=>zB9 hT h) h)
   exact this⟩
end
attribute [irreducible] vTQ vO8 vFO vE3 vFY vEW uMN uPR uQ2
def sv:List (Nat×PV)->Nat->PV
 | [],_=>.any
 | (j,v)::l,i=>match Nat.beq i j with
   | true=>v
   | false=>sv l i
def hv:List (Nat×Blk)->Nat->Option Blk
 | [],_=>none
 | (j,b)::l,i=>match Nat.beq i j with
   | true=>some b
   | false=>hv l i
def zv(l:List Nat)(r:Nat):Bool:=vPT l r
theorem zM8:∀ {l:List (Nat×PV)},sv l=sl l
 | []=>rfl
 | (j,v)::l=>by
   funext i
   unfold sv sl;rw[zGF,zM8];by_cases h:i=j<;>simp[h]
theorem zHD:∀ {l:List (Nat×Blk)},hv l=hl l
 | []=>rfl
 | (j,v)::l=>by
   funext i
   unfold hv hl;rw[zGF,zHD];by_cases h:i=j<;>simp[h]
theorem zHC{l:List Nat}:zv l=zl l:=by funext r; unfold zv zl; rw[zJE]
def at'(ρ:Nat->Nat)(k:Nat)(t:Tm)(j:Nat)(v:PV):Prop:=rn ρ k 3 v (t j)
def okV(ρ:Nat->Nat)(k:Nat):List (Nat×PV)->Tm->Prop
 | [],_=>True
 | (j,v)::l,t=>at' ρ k t j v/\okV ρ k l t
theorem zL3{ρ:Nat->Nat}{k:Nat}{t:Tm}:∀ {l:List (Nat×PV)},okV ρ k l t->okS ρ k l t
 | [],_=>trivial
 | (_,_)::_,h=>⟨h.1,zL3 h.2⟩
section
variable {ρ:Nat->Nat} {k:Nat} {t:Tm} {j:Nat}
theorem zAC{κ:IntKind}{n m:Int}(h:t j=.int κ n)(e:n=m):at' ρ k t j (.int κ m):=by subst e; unfold at'; rw[uMB]; exact h
theorem zAK{b c:Bool}(h:t j=.bool b)(e:b=c):at' ρ k t j (.bool c):=by subst e; unfold at'; rw[uHL]; exact h
theorem zAE{es fs:List PV}(h:t j=.imm es)(e:es=fs):at' ρ k t j (.imm fs):=by subst e; unfold at'; rw[vU9]; exact h
theorem vIP(h:t j=.nilsl):at' ρ k t j .nilsl:=by unfold at'; rw[vO0]; exact h
theorem zD5{u:Value}(h:t j=.raw u):at' ρ k t j (.raw u):=by unfold at'; rw[uFK]; exact h
theorem zAH{e:PV}{o:Nat}(h:t j=.cptr e o):at' ρ k t j (.cptr e o):=by unfold at'; rw[vMB]; exact h
theorem zA5{r off len len':Nat}(hr:r<k)(h:t j=.own (ρ r) off len)(e:len=len'):at' ρ k t j (.own r off len'):=by subst e; unfold at'; rw[zD2]; exact⟨hr,h⟩
theorem uGT{r i off:Nat}(hr:r<k)(h:t j=.ptr (ρ r) i off):at' ρ k t j (.ptr r i off):=by unfold at'; rw[uMA]; exact⟨hr,h⟩
theorem apx{r i off:Nat}(hr:r<k:=by decide)(h:t j=.ptr (ρ r) i off:=by exact rfl):at' ρ k t j (.ptr r i off):=uGT hr h
theorem apy{r i off:Nat}(h:t j=.ptr (ρ r) i off)(hr:r<k:=by decide):at' ρ k t j (.ptr r i off):=uGT hr h
theorem ttt:True/\True/\True:=⟨rGW,⟨rGW,rGW⟩⟩
theorem vLH{cs:List PV}(h:t j=.agg cs)(hd:rnL (rn ρ k 2) cs cs):at' ρ k t j (.agg cs):=by unfold at'; rw[h,uFL]; exact hd
theorem zH5{fn:Fn}(h:t j=.func fn [] []):at' ρ k t j (.func fn [] []):=by unfold at'; rw[h,vMA]; exact⟨rfl,rGW,rGW⟩
end
section
variable {P:Program} {T:Ti} {G:Gl} {n0:Nat}
def vTC(ρ:Nat->Nat)(k:Nat)(Z:List Nat)(r:Nat)(b:Blk)(h:Hp)(z:Fz):Prop:=r<k/\(∀ e∈b.els,e≠.any)/\(∃ b',h (ρ r)=some b'/\rnB ρ k b b')/\vPT Z r=z (ρ r)
def uM1(ρ:Nat->Nat)(k:Nat)(Z:List Nat):List (Nat×Blk)->Hp->Fz->Prop
 | [],_,_=>True
 | (r,b)::l,h,z=>vTC ρ k Z r b h z/\uM1 ρ k Z l h z
theorem zIG{ρ:Nat->Nat}{k:Nat}{Z:List Nat}{h:Hp}{z:Fz}:∀ {l:List (Nat×Blk)},uM1 ρ k Z l h z->okH ρ k Z l h z
 | [],_=>trivial
 | (_,_)::_,⟨⟨h1,h2,⟨b,h3,h4⟩,h5⟩,hr⟩=>⟨⟨h1,h2,by rw[h3]; exact h4,by rw[<- zJE]; exact h5⟩,zIG hr⟩
theorem zEY{ρ:Nat->Nat}{k:Nat}{Z:List Nat}{r:Nat}{v v':PV}{sz:Nat}{agg:Bool}{h:Hp}{z:Fz}(hr:r<k)(hb:h (ρ r)=some ⟨[v'],sz,agg⟩)(e:v'=v)(hn:nr 3 v=true)(ha:v.storable=true)(hz:vPT Z r=z (ρ r)):vTC ρ k Z r ⟨[v],sz,agg⟩ h z:=by
 subst e;refine⟨hr,fun e he=>?_,⟨_,hb,rfl,rfl,rAW ⟨rfl,fun e he=>?_⟩⟩,hz⟩
 .simp at he; subst he; intro q; subst q; simp[PV.storable]at ha
 .simp at he; subst he; exact hn
theorem bbx{ρ:Nat->Nat}{k:Nat}{Z:List Nat}{r:Nat}{v v':PV}{sz:Nat}{agg:Bool}{h:Hp}{z:Fz}(hr:r<k:=by decide)(hb:h (ρ r)=some ⟨[v'],sz,agg⟩:=by exact rfl)(e:v'=v:=by exact rfl)(hn:nr 3 v=true:=by exact rfl)(ha:v.storable=true:=by exact rfl)(hz:vPT Z r=z (ρ r):=by exact rfl):vTC ρ k Z r ⟨[v],sz,agg⟩ h z:=zEY hr hb e hn ha hz
theorem zAJ{ρ:Nat->Nat}{k:Nat}{Z:List Nat}{r:Nat}{v v':PV}{sz:Nat}{agg:Bool}{h:Hp}{z:Fz}(hr:r<k)(hb:h (ρ r)=some ⟨[v'],sz,agg⟩)(e:rn ρ k 3 v v')(ha:v.storable=true)(hz:vPT Z r=z (ρ r)):vTC ρ k Z r ⟨[v],sz,agg⟩ h z:=by
 refine⟨hr,fun e he=>?_,⟨_,hb,rfl,rfl,rAZ ⟨e,rGW⟩⟩,hz⟩;simp at he; subst he; intro q; subst q; simp[PV.storable]at ha
theorem zAG{ρ:Nat->Nat}{k:Nat}{Z:List Nat}{r:Nat}{els els':List PV}{sz:Nat}{agg:Bool}{h:Hp}{z:Fz}(hr:r<k)(hb:h (ρ r)=some ⟨els',sz,agg⟩)(e:els'=els)(hn:∀ e∈els,nr 3 e=true/\e≠.any)(hz:vPT Z r=z (ρ r)):vTC ρ k Z r ⟨els,sz,agg⟩ h z:=by
 subst e;exact⟨hr,fun e he=>(hn e he).2,⟨_,hb,rfl,rfl,rAW ⟨rfl,fun e he=>(hn e he).1⟩⟩,hz⟩
theorem zDE(hT:∀ i x,T i=some x->vA6 P i=x){c:Code}{Q:Exit->St->Prop}{s:St}{ι:Type}(L:ι->List (Nat×PV))(H:ι->List (Nat×Blk))(Z:List Nat)(k:Nat)(Inv:ι->Prop)(μ:ι->Nat)(i0:ι)(h0:Inv i0)(hk:n0<=k)(hZ:∀ r∈Z,r<k)
 (ρ0:List Nat) (hs:okV (ren n0 ρ0) k (L i0) s.t) (hH:uM1 (ren n0 ρ0) k Z (H i0) s.h s.z) (hinj:((H i0).map fun q=>ren n0 ρ0 q.1).Pairwise (·≠·))
 (round:∀ i,Inv i->VC P T G n0 c (vDV (fun s'=>∃ i' ρ,(Inv i'/\μ i'<μ i)/\okV (ren n0 ρ) k (L i') s'.t/\uM1 (ren n0 ρ) k Z (H i') s'.h s'.z/\((H i').map fun q=>ren n0 ρ q.1).Pairwise (·≠·)) Q) ⟨sv (L i),hv (H i),zv Z,k⟩) :
 vE3 P G (FnC P G) (FnH P G) (LeS G,n0) c Q s:=by
 unfold vE3;refine zHV L H (fun _=>Z) k Inv μ i0 h0 (vIU ρ0 hk (zL3 hs) (zIG hH) hZ hinj) fun i hi=>?_
 have:=round i hi;rw[zM8,zHD,zHC]at this
 exact zHF hT (fun e s h=>by
  cases e<;>first | (obtain⟨i',ρ,⟨h1,h2⟩,h3,h4,h5⟩:=h; exact⟨i',h1,h2,vIU ρ hk (zL3 h3) (zIG h4) hZ h5⟩) | exact h) this
theorem zA6(hT:∀ i x,T i=some x->vA6 P i=x){c:Code}{Q:Exit->St->Prop}{s:St}{ι:Type}(L:ι->List (Nat×PV))(Inv:ι->Prop)(μ:ι->Nat)(i0:ι)(h0:Inv i0)
 (hs:okV id n0 (L i0) s.t)
 (round:∀ i,Inv i->VC P T G n0 c (vDV (fun s'=>∃ i',(Inv i'/\μ i'<μ i)/\okV id n0 (L i') s'.t) Q) ⟨sv (L i),noH,noZ,n0⟩) :
 vE3 P G (FnC P G) (FnH P G) (LeS G,n0) c Q s:=by
 unfold vE3;refine vSU L Inv μ i0 h0 (zL3 hs) fun i hi=>?_
 have:=round i hi;rw[zM8]at this
 exact zHF hT (fun e s h=>by
  cases e<;>first | (obtain⟨i',h1,h3⟩:=h; exact⟨i',h1,zL3 h3⟩) | exact h) this
end
theorem uL0{P:Program}{tab:List TI}(h:(List.range tab.length).map (vA6 P)=tab):∀ i x,nth tab i=some x->vA6 P i=x:=by
 intro i x hx;rw[zD9,<- h,rBR]at hx
 have hi:i<tab.length:=by
  by_cases hi:i<tab.length
  .exact hi
  .rw[rC0 (by simpa using hi)]at hx; cases hx
 rw[List.getElem?_range hi]at hx
 simpa using hx
theorem zJJ{α:Type}{f:α->PV}{l:List α}{sz:Nat}{agg b:Bool}{A:Prop}(h:∀ x,(f x).cells.length=sz/\(f x).isAgg=agg)(hb:b=true)(k:A):brT (an (uGW sz agg (l.map f)) b) A :=
 vLE (by rw[vRA h,hb]; rfl) k
theorem zLE{α:Type}{f:α->PV}{l:List α}{o n sz:Nat}{agg b:Bool}{A:Prop}(h:∀ x,(f x).cells.length=sz/\(f x).isAgg=agg)(hb:b=true)(k:A):brT (an (uGW sz agg (((l.map f).drop o).take n)) b) A :=
 vLE (by rw[<- List.map_drop,<- List.map_take,vRA h,hb]; rfl) k
theorem vXQ{α:Type}[Inhabited α]{f:α->PV}{l:List α}{i:Nat}{K:PV->Prop}(h:i<l.length)(k:K (f l[i]!)):oK (nth (l.map f) i) K:=by
 refine zKC ?_ k;rw[zD9,rBR,rAR h,rAS l i h];rfl
theorem zA7{α:Type}[Inhabited α]{f:α->PV}{l:List α}{i:Int}{K:PV->Prop}{j:Nat}(e:i=(j:Int))(h:j<l.length)(k:K (f l[j]!)):oK (nth (l.map f) i.toNat) K:=by
 subst e;exact vXQ h k
theorem zBW{α:Type}[Inhabited α]{f:α->PV}{l:List α}{k:Nat}(j:Nat){K:PV->Prop}(e:k=j)(h:j<l.length)(q:K (f l[j]!)):oK (nth (l.map f) k) K:=by subst e; exact vXQ h q
open Go.RowKit
def subs(ks KS:List Nat):Bool:=match ks with
 | []=>true
 | k::ks=>an (vPT KS k) (subs ks KS)
theorem vGT:∀ {ks KS:List Nat},subs ks KS=true->∀ k∈ks,k∈KS
 | k::ks,KS,h,j,hj=>by
   unfold subs at h;rw[zCH,zJE]at h;rcases rA7.1 hj with rfl | hj
   .simpa using h.1
   .exact vGT h.2 j hj
def fzT(KS:List Nat)(h:Hp)(t:Tm):List (Nat×PV)->Prop
 | []=>True
 | (j,d)::l=>(∃ m ks,frz h m (t j)=some (d,ks)/\subs ks KS=true)/\fzT KS h t l
def fzH(KS:List Nat)(h:Hp):List (Nat×List PV)->Prop
 | []=>True
 | (r,els)::l=>(∃ b m ks,h r=some b/\vB6 (frz h m) b.els=some (els,ks)/\subs ks KS=true)/\fzH KS h l
def uDU(h:Hp):List Nat->Prop
 | []=>True
 | k::ks=>(∃ b,h k=some b)/\uDU h ks
def uH3(t:Tm):List (Nat×PV)->Nat->PV
 | [],j=>t j
 | (i,d)::l,j=>match Nat.beq j i with
   | true=>d
   | false=>uH3 t l j
def uH4(h:Hp):List (Nat×List PV)->Nat->Option Blk
 | [],r=>h r
 | (i,els)::l,r=>match Nat.beq r i with
   | true=>match h r with
     | some b=>some ⟨els,b.sz,b.agg⟩
     | none=>none
   | false=>uH4 h l r
theorem vJS{KS:List Nat}{h:Hp}{t:Tm}:∀ {l:List (Nat×PV)},fzT KS h t l->∀ j,uH3 t l j=t j\/∃ m ks,frz h m (t j)=some (uH3 t l j,ks)/\∀ k∈ks,k∈KS
 | [],_,j=>rAW rfl
 | (i,d)::l,hl,j=>by
   unfold uH3;rw[zGF];by_cases e:j=i
   .subst e
    simp only[rDI];obtain⟨⟨m,ks,h1,h2⟩,_⟩:=hl;exact rAZ ⟨m,ks,h1,vGT h2⟩
   .simp only[e,rC7]
    exact vJS hl.2 j
theorem zGO{KS:List Nat}{h:Hp}:∀ {l:List (Nat×List PV)},fzH KS h l->∀ r b',uH4 h l r=some b'->∃ b,h r=some b/\b'.sz=b.sz/\b'.agg=b.agg/\(b'=b\/∃ m ks,vB6 (frz h m) b.els=some (b'.els,ks)/\∀ k∈ks,k∈KS)
 | [],_,r,b',hb=>⟨b',hb,rfl,rfl,rAW rfl⟩
 | (i,els)::l,hl,r,b',hb=>by
   unfold uH4 at hb;rw[zGF]at hb;by_cases e:r=i
   .subst e
    simp only[rDI]at hb;obtain⟨⟨b,m,ks,h1,h2,h3⟩,_⟩:=hl;rw[h1]at hb;cases hb
    exact⟨b,h1,rfl,rfl,rAZ ⟨m,ks,h2,vGT h3⟩⟩
   .simp only[e,rC7]at hb
    exact zGO hl.2 r b' hb
theorem zQN{h:Hp}:∀ {l:List Nat},uDU h l->∀ k∈l,∃ b,h k=some b
 | k::ks,hl,j,hj=>by
   rcases rA7.1 hj with rfl | hj
   .exact hl.1
   .exact zQN hl.2 j hj
theorem vJT{h:Hp}{r:Nat}(hr:h r=none):∀ {l:List (Nat×List PV)},uH4 h l r=none
 | []=>hr
 | (i,els)::l=>by
   unfold uH4;cases Nat.beq r i with
   | true=>simp[hr]
   | false=>exact vJT hr
theorem uLC{G:Gl}{n0:Nat}{s:St}{KS:List Nat}{TS:List (Nat×PV)}{HS:List (Nat×List PV)}(hKS:uDU s.h KS)(hT:fzT KS s.h s.t TS)(hH:fzH KS s.h HS) :
 LeS G n0 s ⟨uH3 s.t TS,uH4 s.h HS,vCI s.z KS,s.nx⟩:=by
 intro E N df a w A κ hE hR;have hKS:=zQN hKS;have H1:=hR.hr.freeze (ks:=KS) hKS;refine⟨fun b=>A b\/vBQ κ KS b,κ,⟨⟨H1.bel,H1.hB,H1.alt,H1.a0,H1.a1,H1.acell,H1.k0,H1.glob,H1.klt,⟨H1.kp.base,H1.kp.keep,H1.kp.wr,fun r b' m sz cap hb hκ hc hz=>?_,H1.kp.mks,H1.kp.nd,H1.kp.kb,H1.kp.kk,H1.kp.zk,H1.kp.mk0,fun hg=>⟨(H1.kp.gk hg).1,(H1.kp.gk hg).2.1,fun b' hb=>?_⟩⟩,fun r b' hb hκ=>?_,fun r r' b b' m m' s1 s2 c c' hne hr hr'=>?_⟩,fun r hr=>⟨?_,?_,?_⟩,hR.n0,fun i hi=>?_,hR.size,hR.df⟩⟩
 .obtain⟨b,h1,_⟩:=zGO hH r b' hb
  exact H1.kp.own r b m sz cap h1 hκ hc hz
 .obtain⟨b,h1,h2,h3,h4⟩:=zGO hH 0 b' hb
  have e:=(H1.kp.gk hg).2.2 b h1;subst e;rcases h4 with rfl | ⟨m0,ks,h4,h5⟩
  .rfl
  .obtain⟨els,sz,agg⟩:=b'
   cases m0<;>simp[vC6,vB6,frz]at h2 h3 h4 ⊢<;>simp[h2,h3,h4.1]
 .obtain⟨b,h1,h2,h3,h4⟩:=zGO hH r b' hb
  rcases h4 with rfl | ⟨m0,ks,h4,h5⟩
  .exact H1.blk r b' h1 hκ
  .obtain⟨m,cap,g1,g2,g3,g4⟩:=H1.blk r b h1 hκ
   obtain⟨q1,q2⟩:=zCG h4;refine⟨m,cap,by rw[h2]; exact g1,zom,fun e he=>?_,?_⟩
   .obtain⟨i,hi,rfl⟩:=rBD he
    obtain⟨x,ks1,e1,e2,e3⟩:=q2 i _ (rAR hi);obtain⟨c1,c2,_⟩:=zFO e2;have:=g3 x (rAT e1);rw[h2,h3,c1,c2]; exact this
   .rcases g4 with g4 | ⟨c,ty,f1,f2,f3,f4,f5,f6,f7⟩
    .exact rAW g4
    .refine rAZ ⟨c,ty,f1,f2,by rw[h2]; exact f3,f4,fun i e he j x hx=>?_,f6,f7⟩
     rw[h2];obtain⟨y,ks1,e1,e2,e3⟩:=q2 i e he;obtain⟨_,_,hcel⟩:=zFO e2;obtain⟨m',y',ks2,p1,p2,p3,p4⟩:=hcel j x hx
     have f5':lies w A κ c (i * b.sz) y:=by
      obtain⟨m2,cap2,z1,z2,z3,z4⟩:=hR.hr.blk r b h1 hκ;rw[g1]at z1; cases z1;rcases z4 with z4 | ⟨c2,ty2,y1,y2,y3,y4,y5,y6,y7⟩
      .exfalso
       have hi:=(rAP.1 e1).1;omega
      .rw[f2]at y2; cases y2
       exact y5 i y e1
     obtain⟨u,t1,t2,t3⟩:=f5' j y' p2;refine⟨u,t1,.data _ _ ?_,t3⟩;exact zFN hR.hr (A':=fun b=>A b\/vBQ κ KS b) (fun b hb=>rAW hb) m' y' x u ks2 p3 t2 (fun b ⟨r,hr,q⟩=>rAZ ⟨r,h5 r (e3 r (p4 r hr)),q⟩)
 .obtain⟨b1,h1,_⟩:=zGO hH r b hr
  obtain⟨b2,h2,_⟩:=zGO hH r' b' hr';exact H1.excl r r' b1 b2 m m' s1 s2 c c' hne h1 h2
 .exact vJT (hR.fresh r hr).1
 .have h2:=(hR.fresh r hr).2.1
  show vCI s.z KS r=false
  simp only[vCI,rD7];refine⟨contains_false.2 fun hm=>?_,h2⟩;obtain⟨b,hb⟩:=hKS r hm;rw[(hR.fresh r hr).1]at hb; cases hb
 .exact(hR.fresh r hr).2.2
 .show RV w _ κ (uH3 s.t TS i) _
  have hv:=hR.tm i hi;rcases vJS hT i with h | ⟨m,ks,h1,h2⟩
  .rw[h]; exact hv.mono (fun _ h=>rAW h) (fun _ _ _=>rfl) (fun _ _ h=>h)
  .exact .data _ _ (zFN hR.hr (A':=fun b=>A b\/vBQ κ KS b) (fun b hb=>rAW hb) m _ _ _ ks h1 hv (fun b ⟨r,hr,q⟩=>rAZ ⟨r,h2 r hr,q⟩))
theorem LeS.trans{G:Gl}{n0:Nat}{s1 s2 s3:St}(h:LeS G n0 s1 s2)(k:LeS G n0 s2 s3):LeS G n0 s1 s3:=by
 intro E N df a w A κ hE hR;obtain⟨A',κ',hR'⟩:=h E N df a w A κ hE hR;exact k E N df a w A' κ' hE hR'
section
variable {P:Program} {T:Ti} {G:Gl} {n0:Nat}
def Kept(n0:Nat)(s:St)(L:List (Nat×PV))(H:List (Nat×Blk))(Z:List Nat)(k:Nat):Prop :=
 ∃ (ρ KS:List Nat) (TS:List (Nat×PV)) (HS:List (Nat×List PV)),(uDU s.h KS/\fzT KS s.h s.t TS/\fzH KS s.h HS)/\okV (ren n0 ρ) k L (uH3 s.t TS)/\uM1 (ren n0 ρ) k Z H (uH4 s.h HS) (fs s.z KS)/\(H.map fun q=>ren n0 ρ q.1).Pairwise (·≠·)
theorem Kept.le{s:St}{L:List (Nat×PV)}{H:List (Nat×Blk)}{Z:List Nat}{k:Nat}(hk:n0<=k)(hZ:∀ r∈Z,r<k)(h:Kept n0 s L H Z k):LeS G n0 s ⟨sl L,hl H,zl Z,k⟩:=by
 obtain⟨ρ,KS,TS,HS,⟨h1,h2,h3⟩,h4,h5,h6⟩:=h;refine(uLC h1 h2 h3).trans (vIU ρ hk (zL3 h4) (zIG ?_) hZ h6);rw[<- uNI]; exact h5
theorem zAO(hT:∀ i x,T i=some x->vA6 P i=x){c:Code}{Q:Exit->St->Prop}{s:St}{ι:Type}(L:ι->List (Nat×PV))(H:ι->List (Nat×Blk))(Z:List Nat)(k:Nat)(Inv:ι->Prop)(μ:ι->Nat)(i0:ι)(h0:Inv i0)(hk:n0<=k)(hZ:∀ r∈Z,r<k)
 (hs:Kept n0 s (L i0) (H i0) Z k)
 (round:∀ i,Inv i->VC P T G n0 c (vDV (fun s'=>∃ i',(Inv i'/\μ i'<μ i)/\Kept n0 s' (L i') (H i') Z k) Q) ⟨sv (L i),hv (H i),zv Z,k⟩) :
 vE3 P G (FnC P G) (FnH P G) (LeS G,n0) c Q s:=by
 unfold vE3;refine zHV L H (fun _=>Z) k Inv μ i0 h0 (hs.le hk hZ) fun i hi=>?_
 have:=round i hi;rw[zM8,zHD,zHC]at this
 exact zHF hT (fun e s h=>by
  cases e<;>first | (obtain⟨i',⟨h1,h2⟩,h3⟩:=h; exact⟨i',h1,h2,h3.le hk hZ⟩) | exact h) this
end
theorem zAI{α:Type}{h:Hp}{n r len sz:Nat}{agg:Bool}{els:List PV}{f:α->PV}{l:List α}(hb:h r=some ⟨els,sz,agg⟩)(he:els=l.map f)(hl:len=l.length)(hf:∀ x,frz h n (f x)=some (f x,[])):frz h (n+1) (.own r 0 len)=some (.imm (l.map f),[r]):=by
 subst hl he;unfold frz;simp only[hb];have e:((l.map f).drop 0).take l.length=l.map f:=by rw[rFE,rBO zsm]
 simp only[e,zDM hf l];rw[rAV zsm]
theorem vKP{h:Hp}{n:Nat}{c d:PV}{cs ds:List PV}{ks ls:List Nat}(h1:frz h n c=some (d,ks))(h2:vB6 (frz h n) cs=some (ds,ls)):frz h (n+1) (.agg (c::cs))=some (.agg (d::ds),ks++ls):=by
 unfold frz;simp only[vB6,h1,h2]
theorem zAD{f:PV->Option (PV×List Nat)}{c d:PV}{cs ds:List PV}{ks ls:List Nat}(h1:f c=some (d,ks))(h2:vB6 f cs=some (ds,ls)):vB6 f (c::cs)=some (d::ds,ks++ls):=by
 simp only[vB6,h1,h2]
theorem zAR{α:Type}{f:α->PV}{l:List α}(hf:∀ x,nr 3 (f x)=true/\f x≠.any):∀ e∈l.map f,nr 3 e=true/\e≠.any:=fun e he=>by obtain⟨x,_,rfl⟩:=rA5.1 he; exact hf x
theorem zBZ{h:Hp}{n:Nat}{cs ds:List PV}{ks:List Nat}(h1:vB6 (frz h n) cs=some (ds,ks)):frz h (n+1) (.agg cs)=some (.agg ds,ks):=by
 unfold frz;simp only[h1]
theorem zKP{h:Hp}{n:Nat}{cs ds:List PV}{ks:List Nat}(h1:vB6 (frz h n) cs=some (ds,ks)):frz h (n+1) (.tup cs)=some (.tup ds,ks):=by
 unfold frz;simp only[h1]
open Go.RowKit
section
variable {P:Program} {G:Gl} {xs:List (List PV)} {k:Nat}
def yX(Y:Cons P xs k):Env->Prop:=fun E=>E.gh=true/\Y.J E.gi E.S E.Wr E.ws
def uOJ(P:Program)(G:Gl)(Y:Cons P xs k)(f:FuncId)(ds:List PV)(i j:Nat)(b:Bool):Prop :=
 ∀ (E:Env) (w:World) (A:Nat->Prop) (κ:Ka) (h:Hp) (z:Fz) (vs:List Value),yX Y E->HR E G w A κ h z->h 0=some (vC6 i)->RDs w A ds vs ->
   Calls P f vs.toArray w fun e w'=>∃ E',(yX Y E'/\E'.re E=E'/\E'.M=E.M)/\e=.returned (.bool b)/\HR E' G w' A κ (hset h 0 (some (vC6 j))) z/\∀ b o,A b->w'.cell? ⟨b,o,none⟩=w.cell? ⟨b,o,none⟩
def FnY(P:Program)(G:Gl)(Y:Cons P xs k):vA8:=fun f ds r=>match r with
 | .gh i j b=>(∃ ds',ds=.anyb::ds'/\f=Y.l/\xs[i]?=some ds'/\i<=k/\j=i+1/\b=decide (i≠k))\/((∀ ds',ds≠.anyb::ds')/\callable P f=true/\uOJ P G Y f ds i j b)
 | r=>FnC P G f ds r
theorem vH6{i j:Nat}(h:vC6 i=vC6 j):i=j:=by
 simp only[vC6,Blk.mk.injEq,rE2,PV.int.injEq,rFG,rEG]at h;omega
theorem uLQ(Y:Cons P xs k):XOk P G (FnY P G Y) (yX Y):=by
 refine⟨fun E F h hg=>⟨by show F.gh=true; rw[hg]; exact h.1,h.2⟩,fun f ds r hr h=>?_,fun f ds i j b h hd=>?_,fun l ds i j b h=>?_⟩
 .cases r<;>first | exact h | cases hr
 .rcases h with⟨ds',e,_⟩ | h
  .exact absurd e (hd ds')
  .exact h.2
 .rcases h with⟨ds',e,rfl,hx,hk,rfl,rfl⟩ | h
  .cases e
   intro E w A κ h z vs hX H h0 hv;obtain⟨hg,hJ⟩:=hX;obtain⟨g1,g2,g3⟩:=H.kp.gk hg;have hi:=vH6 (g3 _ h0);subst hi;have hJ':=Y.stable hJ H.kp.base (fun b hb=>(H.kp.keep b hb).2);obtain⟨f,t,a,c,q1,q2⟩:=Y.yield hJ' hx hk hv (fun b hb=>⟨H.alt b hb,fun hw=>(H.kp.wr b hw).2 hb⟩);refine⟨f,t,a,c,q1,fun ro n=>(q2 ro n).mono fun e W' ⟨S',Wr',p1,p2,p3,p4,p5,p6⟩=>?_⟩;have hA:∀ b,A b->W'.heap[b]?=w.heap[b]?:=fun b hb=>p4 b (H.alt b hb) fun hw=>(H.kp.wr b hw).2 hb
   have hcell:∀ b o,A b->W'.cell? ⟨b,o,none⟩=w.cell? ⟨b,o,none⟩:=fun b o hb=>cell?_of_heap (hA b hb) o
   have mono:∀ {d v},RV w A κ d v->RV W' A κ d v:=fun hv=>hv.mono (fun _ h=>h) hcell (fun _ _ h=>h)
   obtain⟨l1,l2⟩:=Y.lt p2;have ne0:∀ r x,κ r=some x->r≠0:=fun r x hr e=>by subst e; rw[g2]at hr; cases hr
   have hh:∀ r x b',κ r=some x->hset h 0 (some (vC6 (E.gi+1))) r=some b'->h r=some b':=fun r x b' hr hb=>by
    simpa only[hset,rAN (ne0 r x hr)]using hb
   refine⟨{ E with w0:=W',S:=S',Wr:=Wr',ws:=W',gi:=E.gi+1 },⟨⟨hg,p2⟩,rfl,rfl⟩,p1,?_,hcell⟩;refine⟨Below.refl _ _,rBV H.hB p3.size,fun b hb=>rA4 (H.alt b hb) p3.size,H.a0,H.a1,fun b o hb=>(hcell b o (H.a0 b hb)).trans (H.acell b o hb),H.k0,fun g e hg=>mono (H.glob g e hg),fun r m sz cap hr=>?_,⟨Below.refl _ _,fun b hb=>⟨l1 b hb,rfl⟩,fun b hb=>⟨l2 b hb,fun hA=>?_⟩,fun r b' m sz cap hb hr hc hz=>?_,fun D hD=>?_,H.kp.nd,H.kp.kb.trans p3,fun b hb=>?_,fun b hb=>?_,H.kp.mk0,fun _=>⟨g1,g2,fun b' hb=>?_⟩⟩,fun r b' hb hκ=>?_,fun r r' b1 b2 m m' s1 s2 c1 c2 hne hr hr' h1 h2=>?_⟩
   .rcases H.klt r m sz cap hr with q | q
    .exact rAW q
    .exact rAZ (rA4 q p3.size)
   .rcases p5 b hb with q | q
    .exact(H.kp.wr b q).2 hA
    .have:=H.alt b hA; omega
   .have hb':=hh r _ b' hr hb
    have q:=H.kp.own r b' m sz cap hb' hr hc hz;refine⟨fun hS=>?_,q.2⟩;rcases p6 m hS with s | s | s
    .exact q.1 s
    .obtain⟨m0,cap0,e1,_,_,e4⟩:=H.blk r b' hb' (by rw[hr]; simp)
     rw[hr]at e1; cases e1;obtain⟨c,ty,g1,g2,g3,g4,g5,g6,g7⟩:=e4.resolve_left hc;exact g6 hz s
    .have:=(H.klt r m sz cap hr).resolve_left hc; omega
   .have q:=H.kp.mks D hD
    have hlt:=(rA6.1 q.2.2).1;refine⟨q.1,⟨fun hS=>?_,q.2.1.2⟩,(p4 D hlt fun hw=>q.2.1.1 (H.kp.wr D hw).1).trans q.2.2⟩;rcases p6 D hS with s | s | s
    .exact q.2.1.1 s
    .exact q.2.1.2 s
    .omega
   .have q:=H.kp.kk b hb
    refine⟨rA4 q.1 p3.size,(p4 b q.1 q.2.2).trans q.2.1,fun hw=>?_⟩;rcases p5 b hw with s | s
    .exact q.2.2 s
    .have:=q.1; omega
   .have q:=H.kp.zk b hb
    refine⟨q.1,q.2.1,fun hS=>?_⟩;rcases p6 b hS with s | s | s
    .exact q.2.2 s
    .exact q.2.1 s
    .have:=(H.kp.kk b q.1).1; omega
   .simp only[hset,rCI]at hb
    cases hb; rfl
   .obtain⟨x,hx'⟩:=rGE.1 hκ
    have hb':=hh r _ b' hx' hb;obtain⟨m,cap,e1,e2,e3,e4⟩:=H.blk r b' hb' hκ;refine⟨m,cap,e1,e2,e3,?_⟩;by_cases hc:cap=0
    .exact rAW hc
    obtain⟨c,ty,r1,r2,r3,r4,r5,r6,r7⟩:=e4.resolve_left hc;have hlt:=(rA6.1 r2).1;refine rAZ ⟨c,ty,r1,(p4 m hlt fun hw=>?_).trans r2,r3,r4,fun i e he=>(r5 i e he).mono (fun _ h=>h) hcell (fun _ _ h=>h),r6,r7⟩;cases hz:z r with
    | false=>exact(H.kp.own r b' m _ cap hb' e1 hc hz).1 (H.kp.wr m hw).1
    | true=>exact(H.kp.wr m hw).2 (r7 hz)
   .exact H.excl r r' b1 b2 m m' s1 s2 c1 c2 hne (hh r _ b1 h1 hr) (hh r' _ b2 h2 hr') h1 h2
  .exact absurd rfl (h.1 ds)
def vDP(ds:List PV)(i:Nat):St:={ t:=vEC ds,h:=fun r=>if r=0 then some (vC6 i) else none,z:=fun _=>false,nx:=1 }
theorem uGE(i:Nat):vDC 1 (fun _=>none) (vDP [] i).h (vDP [] i).z:=fun r hr=>⟨by show(if r=0 then _ else none)=none; rw[rAN zom],rfl,rfl⟩
theorem vN9(hm:P.follows .mixedOrders=true){f:FuncId}{fn:Func}{c:Code}{rs:List ResultVar}{nt:Nat}(ok:FnOk P f fn c rs nt){ds:List PV}(hl:ds.length<=nt)(Y:Cons P xs k){i j:Nat}{b:Bool}
 (h:wp P G (FnY P G Y) (FnH P G) (LeS G,1) c (vF4 P rs fun v s=>v=.bool b/\s.h 0=some (vC6 j)) (vDP ds i)):uOJ P G Y f ds i j b:=by
 intro E w A κ hh z vs hX H h0 hv;obtain⟨hg,hJ⟩:=hX;obtain⟨g1,g2,g3⟩:=H.kp.gk hg;have hi:=vH6 (g3 _ h0);subst hi
 have ownB:∀ r b' m sz cap,hh r=some b'->κ r=some (m,sz,cap)->cap≠0->z r=false->m<w.heap.size/\¬ E.S m/\¬ A m:=fun r b' m sz cap hb hr hc hz=>by
  obtain⟨m0,cap0,e1,_,_,e4⟩:=H.blk r b' hb (by rw[hr]; simp);rw[hr]at e1; cases e1;obtain⟨c,ty,r1,r2,r3,r4,r5,r6,r7⟩:=e4.resolve_left hc;exact⟨(rA6.1 r2).1,(H.kp.own r b' m _ cap hb hr hc hz).1,r6 hz⟩
 let Ec:Env:={ E with n0:=1,κ0:=fun _=>none,A0:=A,w1:=w,M0:=E.M,kw:=w,K:=fun b=>b<w.heap.size/\¬ E.Wr b,Z:=fun b=>b<w.heap.size/\¬ E.S b/\¬ A b }
 have HC:HR Ec G w A (fun _=>none) (vDP ds E.gi).h (vDP ds E.gi).z:=by
  refine⟨H.bel,H.hB,H.alt,fun _ h=>h,fun _ h=>rAW h,fun _ _ _=>rfl,fun _ _=>rfl,fun g e hg=>?_,fun r m sz cap hr=>(by cases hr),⟨H.kp.base,H.kp.keep,H.kp.wr,fun r b m sz cap _ hr=>(by cases hr),H.kp.mks,H.kp.nd,Below.refl _ _,fun b hb=>⟨hb.1,rfl,hb.2⟩,fun b hb=>⟨⟨hb.1,fun hw=>hb.2.1 (H.kp.wr b hw).1⟩,hb.2.2,hb.2.1⟩,fun D hD=>rAW hD,fun _=>⟨rAL _,rfl,fun b hb=>?_⟩⟩,fun r b _ hr=>absurd rfl hr,fun r r' b b' m m' s s' c c' _ _ _ hr=>(by cases hr)⟩
  .obtain⟨b,o,val,hv,hA,hc,hd⟩:=(H.glob g e hg).cptr_inv
   rw[hv]; exact .data _ _ (.cptr e 0 b o val hA hc hd)
  .have e:(vDP ds E.gi).h 0=some (vC6 E.gi):=rfl
   rw[e]at hb; cases hb; rfl
 have hcall:=zH2 (E:=Ec) (X:=yX Y) (s:=vDP ds E.gi) hm ok (uLQ Y) (fun E M h=>h) rfl ⟨hg,hJ⟩ rfl hl h (rAO _) HC (uGE E.gi) ⟨hv.1,fun i d hd=>.data _ _ (hv.2 i d hd)⟩;refine hcall.mono fun e w' ⟨E',v,pv,A',κ',s',⟨hX',hre⟩,he,H',hf',hn',hpv,hpe,hgj⟩=>?_
 subst hpe;have eK:E'.K=Ec.K:=by rw[<- hre]; rfl
 have eZ:E'.Z=Ec.Z:=by rw[<- hre]; rfl
 have ekw:E'.kw=w:=by rw[<- hre]; rfl
 have eB:E'.B=E.B:=by rw[<- hre]; rfl
 have eA0:E'.A0=A:=by rw[<- hre]; rfl
 have ew1:E'.w1=w:=by rw[<- hre]; rfl
 have egh:E'.gh=E.gh:=by rw[<- hre]; rfl
 have kb:Below 0 w w':=by have:=H'.kp.kb; rwa [show({ E' with M:=E'.M0 }:Env).kw=w from ekw]at this
 have keep:∀ b,b<w.heap.size->¬ E.Wr b->w'.heap[b]?=w.heap[b]?/\¬ E'.Wr b:=fun b hb hw=>by
  have q:=H'.kp.kk b (by show E'.K b; rw[eK]; exact⟨hb,hw⟩);rw[show({ E' with M:=E'.M0 }:Env).kw=w from ekw]at q;exact q.2
 have zed:∀ b,b<w.heap.size->¬ E.S b->¬ A b->¬ A' b/\¬ E'.S b:=fun b h1 h2 h3=>(H'.kp.zk b (by show E'.Z b; rw[eZ]; exact⟨h1,h2,h3⟩)).2
 have hAA:∀ b,A b->A' b:=fun b hb=>H'.a0 b (by show E'.A0 b; rw[eA0]; exact hb)
 have hcell:∀ b o,A b->w'.cell? ⟨b,o,none⟩=w.cell? ⟨b,o,none⟩:=fun b o hb=>by
  have:=H'.acell b o (by show E'.A0 b; rw[eA0]; exact hb)
  rwa [show({ E' with M:=E'.M0 }:Env).w1=w from ew1]at this
 have mono:∀ {d v},RV w A κ d v->RV w' A κ d v:=fun hv=>hv.mono (fun _ h=>h) hcell (fun _ _ h=>h)
 have ne0:∀ r x,κ r=some x->r≠0:=fun r x hr e=>by subst e; rw[g2]at hr; cases hr
 have hs:∀ r x b',κ r=some x->hset hh 0 (some (vC6 j)) r=some b'->hh r=some b':=fun r x b' hr hb=>by
  simpa only[hset,rAN (ne0 r x hr)]using hb
 have nWr:∀ b,¬ E.S b\/A b->¬ E.Wr b:=fun b hb hw=>hb.elim (fun q=>q (H.kp.wr b hw).1) (fun q=>(H.kp.wr b hw).2 q)
 refine⟨({ E' with M:=E.M }:Env).re E,⟨⟨hg,hX'.2⟩,rfl,rfl⟩,by rw[he,hpv.bool_inv],?_,hcell⟩;refine⟨eB ▸ H'.bel,eB ▸ H'.hB,fun b hb=>rA4 (H.alt b hb) kb.size,H.a0,H.a1,fun b o hb=>(hcell b o (H.a0 b hb)).trans (H.acell b o hb),H.k0,fun g e hg=>mono (H.glob g e hg),fun r m sz cap hr=>?_,⟨H'.kp.base,H'.kp.keep,fun b hb=>⟨(H'.kp.wr b hb).1,fun q=>(H'.kp.wr b hb).2 (hAA b q)⟩,fun r b' m sz cap hb hr hc hz=>?_,fun D hD=>?_,H.kp.nd,H.kp.kb.trans kb,fun b hb=>?_,fun b hb=>?_,H.kp.mk0,fun _=>⟨g1,g2,fun b' hb=>?_⟩⟩,fun r b' hb hκ=>?_,fun r r' b1 b2 m m' s1 s2 c1 c2 hne hr hr' h1 h2=>?_⟩
 .rcases H.klt r m sz cap hr with q | q
  .exact rAW q
  .exact rAZ (rA4 q kb.size)
 .have hb':=hs r _ b' hr hb
  obtain⟨q1,q2,q3⟩:=ownB r b' m sz cap hb' hr hc hz;exact⟨(zed m q1 q2 q3).2,(H.kp.own r b' m sz cap hb' hr hc hz).2⟩
 .have q:=H.kp.mks D hD
  have hlt:=(rA6.1 q.2.2).1;exact⟨q.1,⟨(zed D hlt q.2.1.1 q.2.1.2).2,q.2.1.2⟩,(keep D hlt (nWr D (rAW q.2.1.1))).1.trans q.2.2⟩
 .have q:=H.kp.kk b hb
  exact⟨rA4 q.1 kb.size,(keep b q.1 q.2.2).1.trans q.2.1,(keep b q.1 q.2.2).2⟩
 .have q:=H.kp.zk b hb
  exact⟨q.1,q.2.1,(zed b (H.kp.kk b q.1).1 q.2.2 q.2.1).2⟩
 .simp only[hset,rCI]at hb
  cases hb
  exact(H'.kp.gk (by show E'.gh=true; rw[egh]; exact hg)).2.2 _ hgj
 .obtain⟨x,hx'⟩:=rGE.1 hκ
  have hb':=hs r _ b' hx' hb;obtain⟨m,cap,e1,e2,e3,e4⟩:=H.blk r b' hb' hκ;refine⟨m,cap,e1,e2,e3,?_⟩;by_cases hc:cap=0
  .exact rAW hc
  obtain⟨c,ty,r1,r2,r3,r4,r5,r6,r7⟩:=e4.resolve_left hc;have hlt:=(rA6.1 r2).1;refine rAZ ⟨c,ty,r1,(keep m hlt (nWr m ?_)).1.trans r2,r3,r4,fun i e he=>(r5 i e he).mono (fun _ h=>h) hcell (fun _ _ h=>h),r6,r7⟩;cases hz:z r with
  | false=>exact rAW (H.kp.own r b' m _ cap hb' e1 hc hz).1
  | true=>exact rAZ (r7 hz)
 .exact H.excl r r' b1 b2 m m' s1 s2 c1 c2 hne (hs r _ b1 h1 hr) (hs r' _ b2 h2 hr') h1 h2
theorem vTH(hm:P.follows .mixedOrders=true){f:FuncId}{fn:Func}{c:Code}{rs:List ResultVar}{nt:Nat}(ok:FnOk P f fn c rs nt){ds:List PV}(hl:ds.length+1<=nt){xs:List (List PV)}
 (h:∀ k (Y:Cons P xs k),wp P G (FnY P G Y) (FnH P G) (LeS G,1) c (vF4 P rs fun _ s=>s.h 0=some (vC6 (min xs.length (k+1)))) (vDP (.func (.yield Y.l) [] []::ds) 0)):FnC P G f ds (.seq xs):=by
 refine⟨ok.callable,fun k Y w A S Wr vs hA hG hv hJ=>?_⟩;obtain⟨l1,l2⟩:=Y.lt hJ;let E:Env:={ w0:=w,w1:=w,B:=w.heap.size,A0:=A,n0:=1,κ0:=fun _=>none,S:=S,Wr:=Wr,ws:=w,kw:=w,gh:=true }
 have HC:HR E G w A (fun _=>none) (vDP (.func (.yield Y.l) [] []::ds) 0).h (vDP (.func (.yield Y.l) [] []::ds) 0).z:=by
  refine⟨Below.refl _ _,rAO _,fun b hb=>(hA b hb).1,fun _ h=>h,fun _ h=>rAW h,fun _ _ _=>rfl,fun _ _=>rfl,hG,fun r m sz cap hr=>(by cases hr),⟨Below.refl _ _,fun b hb=>⟨l1 b hb,rfl⟩,fun b hb=>⟨l2 b hb,fun q=>(hA b q).2 hb⟩,fun r b m sz cap _ hr=>(by cases hr),fun D hD=>(by cases hD),rDV,Below.refl _ _,fun b hb=>hb.elim,fun b hb=>hb.elim,fun D hD=>(by cases hD),fun _=>⟨rAL _,rfl,fun b hb=>?_⟩⟩,fun r b _ hr=>absurd rfl hr,fun r r' b b' m m' s s' c c' _ _ _ hr=>(by cases hr)⟩;have e:(vDP (.func (.yield Y.l) [] []::ds) 0).h 0=some (vC6 0):=rfl;rw[e]at hb; cases hb; rfl
 have hcall:=zH2 (E:=E) (X:=yX Y) (s:=vDP (.func (.yield Y.l) [] []::ds) 0) hm ok (uLQ Y) (fun E M h=>h) rfl ⟨rfl,hJ⟩ rfl (ds:=.func (.yield Y.l) [] []::ds) (by simpa using hl) (h k Y) (rAO _) HC (uGE 0) (vs:=.func (.yield Y.l) #[] #[]::vs)
  ⟨by simp[hv.1],fun i d hd=>by
    cases i with
    | zero =>
      simp only[List.getElem?_cons_zero,rBU]at hd;subst hd;exact .func _ [] [] _ _ rfl rfl (fun i d hd=>by simp at hd) (fun i d hd=>by simp at hd)
    | succ i=>exact .data _ _ (by have:=hv.2 i d (by simpa using hd); simpa using this)⟩
 have ea:(Value.func (.yield Y.l) #[] #[]::vs).toArray=#[.func (.yield Y.l) #[] #[]]++vs.toArray:=by simp
 rw[ea]at hcall;refine hcall.mono fun e w' ⟨E',v,pv,A',κ',s',⟨⟨hg,hJ'⟩,hre⟩,he,H',hf',hn',hpv,hgj⟩=>?_
 have hgi:E'.gi=min xs.length (k+1):=(vH6 ((H'.kp.gk hg).2.2 _ hgj)).symm;exact⟨v,E'.S,E'.Wr,he,hgi ▸ Y.stable hJ' H'.kp.base (fun b hb=>(H'.kp.keep b hb).2)⟩
end
section
variable {P:Program} {T:Ti} {G:Gl} {n0:Nat} {C:vA8}
abbrev VX(P:Program)(T:Ti)(G:Gl)(C:vA8)(n0:Nat):Code->(Exit->St->Prop)->St->Prop:=vc P T G C (FnH P G) (LeS G,n0)
theorem vLR(hT:∀ i x,T i=some x->vA6 P i=x){n0:Nat}{c:Code}{Q Q':Exit->St->Prop}{s:St}(hq:∀ e s,Q e s->Q' e s)(h:VX P T G C n0 c Q s):wp P G C (FnH P G) (LeS G,n0) c Q' s :=
 wp_mono FnH.mono c _ _ s hq (zDR FnH.mono hT c _ s h)
theorem vSV(hT:∀ i x,T i=some x->vA6 P i=x){c:Code}{Q:Exit->St->Prop}{s:St}{ι:Type}(L:ι->List (Nat×PV))(H:ι->List (Nat×Blk))(Z:List Nat)(k:Nat)(Inv:ι->Prop)(μ:ι->Nat)(i0:ι)(h0:Inv i0)(hk:n0<=k)(hZ:∀ r∈Z,r<k)
 (hs:Kept n0 s (L i0) (H i0) Z k)
 (round:∀ i,Inv i->VX P T G C n0 c (vDV (fun s'=>∃ i',(Inv i'/\μ i'<μ i)/\Kept n0 s' (L i') (H i') Z k) Q) ⟨sv (L i),hv (H i),zv Z,k⟩) :
 vE3 P G C (FnH P G) (LeS G,n0) c Q s:=by
 unfold vE3;refine zHV L H (fun _=>Z) k Inv μ i0 h0 (hs.le hk hZ) fun i hi=>?_
 have:=round i hi;rw[zM8,zHD,zHC]at this
 exact vLR hT (fun e s h=>by
  cases e<;>first | (obtain⟨i',⟨h1,h2⟩,h3⟩:=h; exact⟨i',h1,h2,h3.le hk hZ⟩) | exact h) this
def vL6:Tm->List Tmp->List PV->Tm
 | t,p::ps,x::xs=>vL6 (ts t p x) ps xs
 | t,_,_=>t
theorem vGY:∀ (ps:List Tmp) (xs:List PV) (t:Tm),vL6 t ps xs=vFV t ps xs
 | [],_,t=>by simp[vL6,vFV]
 | _::_,[],t=>by simp[vL6,vFV]
 | p::ps,x::xs,t=>by
   unfold vL6 vFV;rw[vLT,vGY ps xs]
theorem zEN{ρ:Nat->Nat}{k:Nat}{t:Tm}{j:Nat}{fn:Fn}{e:PV}{o:Nat}(h:t j=.func fn [] [.cptr e o]):at' ρ k t j (.func fn [] [.cptr e o]):=by
 unfold at';rw[h,vMA];refine⟨rfl,rGW,?_⟩;rw[uBO,vMB,uHM];exact⟨rfl,rGW⟩
def uPV(Q:Exit->St->Prop)(t:Tm)(e:Exit)(s:St):Prop:=match e,s with
 | .ret,⟨_,h,z,nx⟩=>Q .ret ⟨t,h,z,nx⟩
 | .exit id,⟨_,h,z,nx⟩=>Q (.exit id) ⟨t,h,z,nx⟩
 | _,_=>False
def uPY(R:St->Prop)(e:Exit)(s:St):Prop:=match e with
 | .normal=>R s
 | _=>False
theorem uLP(ks Z:List Nat):zl (ks++Z)=vCI (zl Z) ks:=by
 rw[<- zHC,<- zHC]
 funext r
 simp only[zv,zJE,vCI,List.contains_append]
theorem vMI(hT:∀ i x,T i=some x->vA6 P i=x){g:Operand}{ps:Array Tmp}{a b:Code}{Q:Exit->St->Prop}{s:St}(L:List (Nat×PV))(H:Nat->List (Nat×Blk))(Z:List Nat)(k:Nat){f:FuncId}{captured ds:List PV}{ks:List Nat}{xs:List (List PV)}(stop:Nat)(nxs:Nat->Nat)(h0:nxs 0=k)(hn:∀ i,k<=nxs i)
 (hk:n0<=k) (hZ:∀ r∈Z,r<k) (hZ':∀ r∈ks++Z,r<k) (hs:Kept n0 s L (H 0) Z k)
 (hev:ev G (sv L) g=.func (.func f) [] captured) (hfr:vB6 (frz (hv (H 0)) 6) captured=some (ds,ks)) (hC:C f ds (.seq xs)) (hlen:∀ x∈xs,x.length=ps.size)
 (round:∀ i x,xs[i]?=some x->i<stop->VX P T G C k a (vDV (VX P T G C k b (uPY fun s'=>Kept k s' [] (H (i+1)) (ks++Z) (nxs (i+1)))) (fun _ _=>False)) ⟨vL6 (sv L) ps.toList x,hv (H i),zv (ks++Z),nxs i⟩)
 (last:∀ x,xs[stop]?=some x->VX P T G C k a (vDV (VX P T G C k b (uPV Q (sv L))) (fun _ _=>False)) ⟨vL6 (sv L) ps.toList x,hv (H stop),zv (ks++Z),nxs stop⟩)
 (done:xs.length<=stop->Q .normal ⟨sv L,hv (H xs.length),zv (ks++Z),nxs xs.length⟩):vO8 P G C (FnH P G) (LeS G,n0) g ps a b Q s:=by
 unfold vO8;unfold wp;refine⟨⟨sl L,hl (H 0),zl Z,k⟩,hs.le hk hZ,?_⟩;rw[<- zM8,<- zHD];dsimp only;rw[hev];refine⟨6,ds,ks,xs,stop,hfr,hC,hlen,?_⟩
 have key:∀ (ys:List (List PV)) (i:Nat) (t':Tm),xs.drop i=ys->i<=xs.length->i<=stop ->
  List.rec (motive:=fun _=>Nat->St->Prop) (fun _ s'=>Q .normal { s' with t:=sv L })
   (fun x _ ih k1 s'=>wp P G C (FnH P G) (LeS G,k) a (vDV (wp P G C (FnH P G) (LeS G,k) b (vU8 Q (sv L) ih (LeS G k) k1)) (fun _ _=>False)) { s' with t:=vFV (sv L) ps.toList x })
   ys (stop - i) ⟨t',hv (H i),zl (ks++Z),nxs i⟩:=by
  intro ys
  induction ys with
  | nil =>
    intro i t' hd hi hst
    have:i=xs.length:=by
     have:=rA3 List.length hd;simp at this; omega
    subst this;have:=done hst;rw[zHC]at this;exact this
  | cons x ys ih =>
    intro i t' hd hi hst
    have hx:xs[i]?=some x:=by
     have:(xs.drop i)[0]?=some x:=by rw[hd]; rfl
     simpa using this
    have hd':xs.drop (i+1)=ys:=by
     have:(xs.drop i).drop 1=ys:=by rw[hd]; rfl
     rw[rGK]at this;exact this
    have hlt:i<xs.length:=(rAP.1 hx).1;by_cases hst':i=stop
    .subst hst'
     have:=last x hx;rw[vGY,zHC]at this;refine vLR hT (fun e s1 h=>?_) this;cases e<;>try exact h
     refine vLR hT (fun e s2 h=>?_) h;rw[Nat.sub_self];cases e<;>exact h
    .have:=round i x hx zom
     rw[vGY,zHC]at this;refine vLR hT (fun e s1 h=>?_) this;cases e<;>try exact h
     refine vLR hT (fun e s2 h=>?_) h;obtain⟨m,hm⟩:∃ m,stop - i=m+1:=⟨stop - i - 1,zom⟩;rw[hm];cases e<;>try exact h
     refine⟨_,Kept.le (hn _) (fun r hr=>rA4 (hZ' r hr) (hn _)) h,?_⟩;have hm':m=stop - (i+1):=by omega
     rw[hm',<- zHD];exact ih (i+1) _ hd' zom zom
 have:=key xs 0 (sv L) rfl (rA9 _) (rA9 _);rw[uLP,h0]at this;exact this
def vOJ(ds:List PV)(i:Nat):St:=⟨uAR ds,hv [(0,vC6 i)],noZ,1⟩
theorem vJB{ds:List PV}{i:Nat}:vOJ ds i=vDP ds i:=by
 unfold vOJ vDP;rw[zH6,zHD]
 congr 1
theorem uHF(hm:P.follows .mixedOrders=true)(hT:∀ i x,T i=some x->vA6 P i=x){f:FuncId}{fn:Func}{c:Code}{rs:List ResultVar}{nt:Nat}(ok:FnOk P f fn c rs nt){ds:List PV}(hl:ds.length+1<=nt){xs:List (List PV)}
 (h:∀ k (Y:Cons P xs k),VX P T G (FnY P G Y) 1 c (vOG T rs fun _ s=>s.h 0=some (vC6 (min xs.length (k+1)))) (vOJ (.func (.yield Y.l) [] []::ds) 0)):FnC P G f ds (.seq xs) :=
 vTH hm ok hl fun k Y=>by rw[<- vJB]; exact vLR hT (fun e s h=>zB9 hT h) (h k Y)
theorem uBV(hm:P.follows .mixedOrders=true)(hT:∀ i x,T i=some x->vA6 P i=x){f:FuncId}{fn:Func}{c:Code}{rs:List ResultVar}{nt:Nat}(ok:FnOk P f fn c rs nt){xs:List (List PV)}{k:Nat}(Y:Cons P xs k){ds:List PV}(hl:ds.length<=nt)(hd:∀ ds',ds≠.anyb::ds'){i j:Nat}{b:Bool}
 (h:VX P T G (FnY P G Y) 1 c (vOG T rs fun v s=>v=.bool b/\s.h 0=some (vC6 j)) (vOJ ds i)):FnY P G Y f ds (.gh i j b) :=
 rAZ ⟨hd,ok.callable,vN9 hm ok hl Y (by rw[<- vJB]; exact vLR hT (fun e s h=>zB9 hT h) h)⟩
theorem vYV{xs:List (List PV)}{k:Nat}(Y:Cons P xs k){i:Nat}{ds:List PV}(hx:xs[i]?=some ds)(hi:i<=k):FnY P G Y Y.l (.anyb::ds) (.gh i (i+1) (decide (i≠k))) :=
 rAW ⟨ds,rfl,rfl,hx,hi,rfl,rfl⟩
theorem uJV(hm:P.follows .mixedOrders=true)(hT:∀ i x,T i=some x->vA6 P i=x){f:FuncId}{fn:Func}{c:Code}{rs:List ResultVar}{nt:Nat}(ok:FnOk P f fn c rs nt){ds:List PV}(hl:ds.length<=nt){K:PV->St->Prop}{t:Tm}{h:Hp}{z:Fz}{nx:Nat}
 (hv:VC P T G nx c (vOG T rs K) ⟨uAR ds,h,z,nx⟩):FnH P G f ds K ⟨t,h,z,nx⟩ :=
 zH7 hm ok hl (s:=⟨t,h,z,nx⟩) (by rw[<- zH6]; exact zHF hT (fun e s h=>zB9 hT h) hv)
theorem zGW{f:FuncId}{args:List PV}{d:Option Nat}{K:FP->St->Prop}{t:Tm}{h:Hp}{z:Fz}{nx:Nat}
 (hI:FnH P G f args (fun v s'=>match s' with | ⟨_,h',z',nx'⟩=>vFP K t d v h' z' nx' ⟨[],[],[]⟩) ⟨t,h,z,nx⟩):vFO C (FnH P G) false f args d K ⟨t,h,z,nx⟩ :=
 vZH (FnH.mono _ _ _ _ _ (fun v s' hk=>by obtain⟨t',h',z',nx'⟩:=s'; exact zE6 hk) hI)
end
theorem wrap32(n:Int):IntKind.wrap .u32 n=n % 4294967296:=by simp[IntKind.wrap,IntKind.signed,IntKind.bits]
theorem wrap64(n:Int):IntKind.wrap .u64 n=n % 18446744073709551616:=by simp[IntKind.wrap,IntKind.signed,IntKind.bits]
theorem zCY{n:Int}{K:Int->Prop}(h:K (n % 4294967296)):ov .u32 n K:=vRZ (wrap32 n) h
theorem zIZ{n:Int}{K:Int->Prop}(h:K (n % 18446744073709551616)):ov .u64 n K:=vRZ (wrap64 n) h
theorem zN7{b:Int}(h:0<=b/\b<=64):vEM .u64 b=2 ^ b.toNat:=by
 rw[zJW]; unfold vF9;have:min b.toNat (IntKind.bits .u64)=b.toNat:=by show min b.toNat 64=_; omega
 rw[this]
theorem zG0:vEM .u64 32=4294967296:=by rw[zN7 zdd]; rfl
theorem zDN{a:Int}:a.fdiv (vEM .u64 32)=a / 4294967296:=by rw[zG0,rD6 _ zdd]
theorem uK1{α:Type}[DecidableEq α](a b:α):(a != b)=decide (a≠b):=by by_cases h:a=b<;>simp[h]
theorem vQ7{α:Type}[DecidableEq α](a b:α):(a == b)=decide (a=b):=by by_cases h:a=b<;>simp[h]
theorem uHC:vEM .u64 63=9223372036854775808:=by rw[zN7 zdd]; rfl
theorem zOU{a:Int}:a.fdiv (vEM .u64 63)=a / 9223372036854775808:=by rw[uHC,rD6 _ zdd]
def nv:List Int->Nat
 | []=>0
 | x::xs=>x.toNat+4294967296 * nv xs
def okN(xs:List Int):Prop:=∀ x∈xs,0<=x/\x<4294967296
def pw(k:Nat):Nat:=4294967296 ^ k
theorem zDK:pw 0=1:=rfl
theorem zBB(k:Nat):pw (k+1)=4294967296 * pw k:=by unfold pw; rw[Nat.pow_succ,rBN]
theorem zMP(k:Nat):0<pw k:=rEC zdd
theorem zP9(j k:Nat):pw (j+k)=pw j * pw k:=rDJ ..
theorem zFT{j k:Nat}(h:j<=k):pw j<=pw k:=rEW zdd h
theorem zEC:okN []:=fun x h=>by cases h
theorem okN_cons{x:Int}{xs:List Int}:okN (x::xs)↔(0<=x/\x<4294967296)/\okN xs:=by simp[okN]
theorem okN_append{xs ys:List Int}:okN (xs++ys)↔okN xs/\okN ys:=by
 constructor
 .exact fun h=>⟨fun x hx=>h x (rB0 _ hx),fun x hx=>h x (rBW _ hx)⟩
 .rintro⟨h1,h2⟩ x hx
  rcases rAY.1 hx with hx | hx
  .exact h1 x hx
  .exact h2 x hx
theorem vPM{xs:List Int}(h:okN xs)(k:Nat):okN (xs.take k):=fun x hx=>h x (rCM hx)
theorem uDB{xs:List Int}(h:okN xs)(k:Nat):okN (xs.drop k):=fun x hx=>h x (rDK hx)
theorem zDP(n:Nat):okN (List.replicate n 0):=fun x hx=>by rw[rB9 hx]; omega
theorem zDC{xs:List Int}(h:okN xs){i:Nat}(hi:i<xs.length):0<=xs[i]! /\ xs[i]! < 4294967296:=by
 rw[rAS xs i hi]; exact h _ (rB3 hi)
theorem zB3{xs:List Int}(h:okN xs)(i:Nat){x:Int}(hx:0<=x/\x<4294967296):okN (xs.set i x):=fun y hy=>by
 rcases rCU hy with hy | hy
 .exact h y hy
 .subst hy; exact hx
theorem zHR(ys:List Int):∀ xs:List Int,nv (xs++ys)=nv xs+pw xs.length * nv ys
 | []=>by simp[nv,pw]
 | x::xs=>by
   simp only[List.cons_append,nv,zHR ys xs,List.length_cons,zBB,rBA,rBQ];omega
theorem zEV:∀ {xs:List Int},okN xs->nv xs<pw xs.length
 | [],_=>by simp[nv,pw]
 | x::xs,h=>by
   rw[okN_cons]at h;have:=zEV h.2;simp only[nv,List.length_cons,zBB];omega
theorem zKD:∀ n:Nat,nv (List.replicate n 0)=0
 | 0=>rfl
 | n+1=>by simp[List.replicate_succ,nv,zKD n]
def lb(a:List Int)(i:Nat):Nat:=(a.getD i 0).toNat
def nk(a:List Int)(k:Nat):Nat:=nv (a.take k)
theorem zB4(a:List Int):nk a 0=0:=by simp[nk,nv]
theorem zBC(a:List Int)(k:Nat):nk a (k+1)=nk a k+pw k * lb a k:=by
 unfold nk lb;by_cases h:k<a.length
 .rw[rA0 h,zHR,rBX,rFK zom]
  simp[nv,List.getD,h]
 .rw[rBO zom,rBO zom]
  simp[List.getD,rC0 (rDE h)]
theorem zB0{a:List Int}{k:Nat}(h:a.length<=k):nk a k=nv a:=by unfold nk; rw[rBO h]
theorem zC2{a:List Int}(h:okN a)(k:Nat):lb a k<4294967296:=by
 unfold lb;by_cases hk:k<a.length
 .have:=h _ (rB3 hk)
  simp only[List.getD,rAR hk,Option.getD_some];omega
 .simp[List.getD,rC0 (rDE hk)]
theorem zPM{a:List Int}(h:okN a):∀ k,nk a k<pw k
 | 0=>by simp[nk,nv,pw]
 | k+1=>by
   have h1:=zPM h k;have h2:=zC2 h k;rw[zBC,zBB];have h3:pw k * (lb a k+1)<=pw k * 4294967296:=rBM _ h2;rw[rBA,rFH]at h3;omega
theorem zBF{a:List Int}{k:Nat}(h:k<a.length)(ho:okN a):(lb a k:Int)=a[k]! := by
 have:=zDC ho h;unfold lb;rw[rAS a k h]at *
 simp only[List.getD,rAR h,Option.getD_some];omega
theorem zHX{a:List Int}{k:Nat}(h:a.length<=k):lb a k=0:=by simp[lb,List.getD,rC0 h]
def nt(a:List Int)(k:Nat):Nat:=nv (a.drop k)
theorem vNE{a:List Int}{k:Nat}(h:k<a.length)(ho:okN a):nt a k=lb a k+4294967296 * nt a (k+1):=by
 unfold nt;rw[rBT h,nv]
 congr 1
 have:=zBF h ho;rw[rAS a k h]at this;omega
theorem zEW{a:List Int}{k:Nat}(h:a.length<=k):nt a k=0:=by unfold nt; rw[rC3 h]; rfl
theorem zHT(a:List Int):nt a 0=nv a:=by simp[nt]
theorem zCS(a:List Int)(k:Nat):nv a=nk a k+pw k * nt a k:=by
 unfold nk nt;by_cases h:k<=a.length
 .conv=>lhs; rw[<- rCP k a]
  rw[zHR,rBX,rFK h]
 .rw[rBO zom,rC3 zom]; simp[nv]
def uF8:Nat->Nat->List Int
 | 0,_=>[]
 | f+1,n=>if n=0 then [] else((n % 4294967296:Nat):Int)::uF8 f (n / 4294967296)
def vBG(n:Nat):List Int:=uF8 n n
theorem vKJ:∀ (f g n:Nat),n<=f->n<=g->uF8 f n=uF8 g n
 | 0,g,n,h,_=>by
   obtain rfl:n=0:=by omega
   cases g<;>simp[uF8]
 | f+1,0,n,_,h=>by
   obtain rfl:n=0:=by omega
   simp[uF8]
 | f+1,g+1,n,h1,h2=>by
   simp only[uF8]
   split
   .rfl
   .rw[vKJ f g _ zom zom]
theorem zDQ:vBG 0=[]:=rfl
theorem vHV{n:Nat}(h:n≠0):vBG n=((n % 4294967296:Nat):Int)::vBG (n / 4294967296):=by
 unfold vBG;obtain⟨m,rfl⟩:∃ m,n=m+1:=⟨n - 1,zom⟩;rw[uF8,rAN h,vKJ m _ _ zom (rAO _)]
theorem zIL:∀ (N n:Nat),n<N->okN (vBG n)/\nv (vBG n)=n/\(vBG n=[]\/(vBG n).getLast?≠some 0)
 | 0,n,h=>by omega
 | N + 1,n,h=>by
   by_cases h0:n=0
   .subst h0; exact⟨zEC,rfl,rAW rfl⟩
   .rw[vHV h0]
    obtain⟨h1,h2,h3⟩:=zIL N (n / 4294967296) zom;refine⟨okN_cons.2 ⟨zom,h1⟩,by rw[nv,h2]; omega,rAZ ?_⟩;by_cases hm:n / 4294967296=0
    .rw[hm,zDQ]; simp; omega
    .rw[vHV hm]at h3 ⊢
     rw[rGR];exact h3.resolve_left zsm
theorem zAQ(n:Nat):okN (vBG n):=(zIL _ n (rAL _)).1
theorem zAS(n:Nat):nv (vBG n)=n:=(zIL _ n (rAL _)).2.1
def vNW(xs:List Int):Prop:=okN xs/\(xs=[]\/xs.getLast?≠some 0)
theorem zEM(n:Nat):vNW (vBG n):=⟨zAQ n,(zIL _ n (rAL _)).2.2⟩
theorem vQH{x:Int}{xs:List Int}(h:vNW (x::xs)):vNW xs:=by
 refine⟨(okN_cons.1 h.1).2,?_⟩;cases xs with
 | nil=>exact rAW rfl
 | cons y ys=>right; have:=h.2.resolve_left zsm; rwa [rGR]at this
theorem zO0:∀ {xs:List Int},vNW xs->xs≠[]->pw (xs.length - 1)<=nv xs
 | [],_,h=>absurd rfl h
 | [x],h,_=>by
   have h1:=(okN_cons.1 h.1).1;have h2:=h.2.resolve_left zsm;simp at h2;simp only[List.length_singleton,nv,zDK,Nat.sub_self];omega
 | x::y::ys,h,_=>by
   have:=zO0 (vQH h) zsm;simp only[List.length_cons,Nat.add_sub_cancel]at this ⊢;rw[nv,zBB];omega
theorem zOL:∀ {xs:List Int},vNW xs->vBG (nv xs)=xs
 | [],_=>rfl
 | x::xs,h=>by
   have hp:=zO0 h zsm;have hpp:=zMP ((x::xs).length - 1);have h1:=(okN_cons.1 h.1).1;rw[vHV zom];have e1:nv (x::xs) % 4294967296=x.toNat:=by rw[nv]; omega
   have e2:nv (x::xs) / 4294967296=nv xs:=by rw[nv]; omega
   rw[e1,e2,zOL (vQH h)]
   congr 1
   omega
theorem zB6{n k:Nat}(h:n<pw k):(vBG n).length<=k:=by
 by_cases h0:vBG n=[]
 .rw[h0]; simp
 .have:=zO0 (zEM n) h0
  rw[zAS]at this;by_cases hk:(vBG n).length<=k
  .exact hk
  .have:=zFT (show k<=(vBG n).length - 1 by omega)
   omega
theorem zAW{xs:List Int}(h:okN xs):(vBG (nv xs)).length<=xs.length:=zB6 (zEV h)
theorem zC7{n:Nat}(h:vBG n=[]):n=0:=by rw[<- zAS n,h]; rfl
theorem zJP{l:List Int}(ho:okN l){n:Nat}(hn:n<=l.length)(hz:∀ j,n<=j->j<l.length->l[j]! = 0)(hl:n=0\/l[n - 1]! ≠ 0):l.take n=vBG (nv l):=by
 have hd:l.drop n=List.replicate (l.length - n) 0:=by
  refine rDA zsm fun i h1 h2=>?_
  have:=hz (n+i) zom (by simp at h1; omega);rw[rAS l (n+i) (by simp at h1; omega)]at this;rw[List.getElem_drop,List.getElem_replicate,this]
 have hv:nv l=nv (l.take n):=by
  conv=>lhs; rw[<- rCP n l]
  rw[zHR,hd,zKD]; simp
 rw[hv,zOL];refine⟨vPM ho n,?_⟩;rcases hl with rfl | hl
 .left; simp
 .by_cases h0:n=0
  .subst h0; left; simp
  .right
   rw[rD8,rBX,rFK hn,rCD zom,rAR zom];rw[rAS l (n - 1) zom]at hl
   simpa using hl
theorem zKF{a b:List Int}(ha:okN a)(hb:okN b){i:Nat}(hd:nt a (i+1)=nt b (i+1))(h1:i<a.length\/nt a i=lb a i+4294967296 * nt a (i+1))(h2:i<b.length\/nt b i=lb b i+4294967296 * nt b (i+1))(hlt:lb a i<lb b i):nv a<nv b:=by
 have e1:nt a i=lb a i+4294967296 * nt a (i+1):=h1.elim (fun h=>vNE h ha) id;have e2:nt b i=lb b i+4294967296 * nt b (i+1):=h2.elim (fun h=>vNE h hb) id;rw[zCS a i,zCS b i,e1,e2,hd];have h3:=zPM ha i;have h4:pw i * (lb a i+1)<=pw i * lb b i:=rBM _ hlt;rw[rBA,rFH]at h4;rw[rBA,rBA (pw i) (lb b i)];omega
theorem zDD{a:List Int}(ha:okN a)(i:Nat):nt a i=lb a i+4294967296 * nt a (i+1):=by
 by_cases h:i<a.length
 .exact vNE h ha
 .rw[zEW zom,zEW zom,zHX zom]
theorem zKE{a b:List Int}(ha:vNW a)(hb:vNW b)(h:a.length<b.length):nv a<nv b:=by
 have h1:=zEV ha.1;have h2:=zO0 hb (by intro e; rw[e]at h; simp at h);have h3:=zFT (show a.length<=b.length - 1 by omega);omega
theorem zGQ{a:List Int}{i:Nat}(x:Int)(h:i<a.length):nk (a.set i x) (i+1)=nk a i+pw i * x.toNat:=by
 rw[zBC];have e1:nk (a.set i x) i=nk a i:=by unfold nk; rw[rED (rAO _)]
 have e2:lb (a.set i x) i=x.toNat:=by simp[lb,List.getD,h]
 rw[e1,e2]
theorem zED(p s:Nat):p * (s % 4294967296)+(s / 4294967296) * (4294967296 * p)=p * s:=by
 have h:p * s=p * (4294967296 * (s / 4294967296)+s % 4294967296):=by rw[rEK]
 rw[h,rBA,rBN (s / 4294967296),rBN 4294967296 p,rBQ];omega
theorem uHE{α:Type}(f:α->PV)(l:List α)(i:Nat)(x:α):(l.map f).set i (f x)=(l.set i x).map f:=(rF2 ..).symm
theorem zDB{α:Type}{f:α->PV}{l:List α}{i j:Nat}{x y:α}(e:i=j)(e':x=y):(l.map f).set i (f x)=(l.set j y).map f:=by subst e e'; exact uHE f l i x
theorem zMS{a:List Int}{j:Nat}(x:Int)(h:j<a.length):nv (a.set j x)+pw j * lb a j=nv a+pw j * x.toNat:=by
 have e1:=zCS (a.set j x) (j+1);have e2:=zCS a (j+1);have e3:nt (a.set j x) (j+1)=nt a (j+1):=by unfold nt; rw[rDD zom]
 have e4:=zBC a j;rw[zGQ x h,e3]at e1;omega
theorem vVW{x y:Int}(hx:0<=x/\x<4294967296)(hy:0<=y/\y<4294967296):0<=x * y/\x * y<=18446744065119617025 :=
 ⟨Int.mul_nonneg hx.1 hy.1,by
   have:=Int.mul_le_mul (show x<=4294967295 by omega) (show y<=4294967295 by omega) hy.1 zdd
   omega⟩
theorem zNM(n j:Nat):lb (List.replicate n 0) j=0:=by
 unfold lb;by_cases h:j<n
 .simp[List.getD,h]
 .simp[List.getD,rDE h]
theorem zOC{α:Type}{f:α->PV}{n m:Nat}{x:α}(e:n=m):List.replicate n (f x)=(List.replicate m x).map f:=by subst e; simp
theorem zKO{a:List Int}{i j:Nat}{x:Int}(h:i≠j):lb (a.set i x) j=lb a j:=by simp[lb,List.getD,rER,h]
theorem vKI{a b n:Nat}(h1:a<pw n)(h2:b<pw n):(vBG (a+b)).length<=n+1:=zB6 (by rw[zBB]; omega)
abbrev vBK(ns:List Int):PV:=.imm (ns.map (.int .u32))
structure RatL where
 neg:Bool
 num:List Int
 den:List Int
 deriving DecidableEq,Inhabited
def vA5(r:RatL):PV:=.agg [.bool r.neg,vBK r.num,vBK r.den]
structure DecL where
 kind:Int
 index:Int
 rat:RatL
 deriving DecidableEq,Inhabited
def vA9(d:DecL):PV:=.agg [.int .i64 d.kind,.int .i64 d.index,.bool d.rat.neg,vBK d.rat.num,vBK d.rat.den]
structure RowL where
 kind:Int
 index:Int
 lo:Int
 hi:Int
 deriving DecidableEq,Inhabited
def vBJ(r:RowL):PV:=.agg [.int .i64 r.kind,.int .i64 r.index,.int .i64 r.lo,.int .i64 r.hi]
structure MultL where
 row:RowL
 coef:RatL
 deriving DecidableEq,Inhabited
def vBA(m:MultL):PV:=.agg [.int .i64 m.row.kind,.int .i64 m.row.index,.int .i64 m.row.lo,.int .i64 m.row.hi,.bool m.coef.neg,vBK m.coef.num,vBK m.coef.den]
structure LemL where
 unit:Int
 upper:Bool
 value:RatL
 proof:List MultL
 deriving DecidableEq,Inhabited
def vBB(l:LemL):PV:=.agg [.int .i64 l.unit,.bool l.upper,.bool l.value.neg,vBK l.value.num,vBK l.value.den,.imm (l.proof.map vBA)]
inductive NodeL where
 | mk (lemmas:List LemL) (split:DecL) (kids:List NodeL) (empty:Bool) (proof:List MultL)
instance:Inhabited NodeL:=⟨.mk [] default [] false []⟩
namespace NodeL
def lemmas:NodeL->List LemL | .mk l _ _ _ _=>l
def split:NodeL->DecL | .mk _ s _ _ _=>s
def kids:NodeL->List NodeL | .mk _ _ k _ _=>k
def empty:NodeL->Bool | .mk _ _ _ e _=>e
def proof:NodeL->List MultL | .mk _ _ _ _ p=>p
theorem sizeOf_kid{n k:NodeL}(h:k∈n.kids):SizeOf.sizeOf k<SizeOf.sizeOf n:=by
 cases n with
 | mk l s ks e p =>
   have:=List.sizeOf_lt_of_mem (show k∈ks from h);simp only[NodeL.mk.sizeOf_spec];omega
end NodeL
def vBF(n:NodeL):PV :=
 .agg [.imm (n.lemmas.map vBB),.int .i64 n.split.kind,.int .i64 n.split.index,.bool n.split.rat.neg,vBK n.split.rat.num,vBK n.split.rat.den,.imm (n.kids.attach.map fun⟨k,_⟩=>vBF k),.bool n.empty,.imm (n.proof.map vBA)]
termination_by SizeOf.sizeOf n
decreasing_by exact NodeL.sizeOf_kid ‹_›
theorem zQP(n:NodeL):vBF n =
 .agg [.imm (n.lemmas.map vBB),.int .i64 n.split.kind,.int .i64 n.split.index,.bool n.split.rat.neg,vBK n.split.rat.num,vBK n.split.rat.den,.imm (n.kids.map vBF),.bool n.empty,.imm (n.proof.map vBA)]:=by
 rw[vBF]
 congr 8
 simp[List.attach_map_val]
abbrev vA7(n:NodeL):PV :=
 .agg [.imm (n.lemmas.map vBB),.int .i64 n.split.kind,.int .i64 n.split.index,.bool n.split.rat.neg,vBK n.split.rat.num,vBK n.split.rat.den,.imm (n.kids.map vBF),.bool n.empty,.imm (n.proof.map vBA)]
theorem zBQ(n:NodeL):vBF n=vA7 n:=zQP n
theorem uJD{l:List NodeL}{i:Int}{K:PV->Prop}{j:Nat}(e:i=(j:Int))(h:j<l.length)(k:K (vA7 l[j]!)):oK (nth (l.map vBF) i.toNat) K:=zA7 e h (by rw[zBQ]; exact k)
theorem uJE{α:Type}[Inhabited α]{f:α->PV}{l:List α}{i:Int}(j:Nat){K:PV->Prop}(e:i.toNat=j)(h:j<l.length)(k:K (f l[j]!)):oK (nth (l.map f) i.toNat) K:=by rw[e]; exact vXQ h k
theorem uDG{l:List NodeL}{K:PV->Prop}(h:0<l.length)(k:K (vA7 l[0]!)):oK (nth (l.map vBF) (Int.toNat 0)) K:=uJE 0 rfl h (by rw[zBQ]; exact k)
theorem uDF{l:List NodeL}{K:PV->Prop}(h:1<l.length)(k:K (vA7 l[1]!)):oK (nth (l.map vBF) (Int.toNat 1)) K:=uJE 1 rfl h (by rw[zBQ]; exact k)
theorem vND{α:Type}[Inhabited α]{f:α->PV}{l:List α}{K:PV->Prop}(h:0<l.length)(k:K (f l[0]!)):oK (nth (l.map f) (Int.toNat 0)) K:=uJE 0 rfl h k
theorem zKB{l:List NodeL}{k:Nat}(j:Nat){K:PV->Prop}(e:k=j)(h:j<l.length)(q:K (vA7 l[j]!)):oK (nth (l.map vBF) k) K:=zBW j e h (by rw[zBQ]; exact q)
theorem zIH(x:NodeL):(vBF x).cells.length=9/\(vBF x).isAgg=true:=by rw[zBQ]; exact⟨rfl,rfl⟩
noncomputable instance:DecidableEq NodeL:=fun a b=>Classical.propDecidable (a=b)
def RatL.sm(r:RatL):Prop:=r.num.length<2097152/\r.den.length<2097152
def MultL.sm(m:MultL):Prop:=m.coef.sm
def vCP(l:List MultL):Prop:=l.length<2097152/\∀ m∈l,m.sm
def LemL.sm(l:LemL):Prop:=l.value.sm/\vCP l.proof
def vJJ(l:List LemL):Prop:=l.length<2097152/\∀ m∈l,m.sm
def DecL.sm(d:DecL):Prop:=d.rat.sm
def vON(l:List DecL):Prop:=l.length<2097152/\∀ d∈l,d.sm
inductive NodeL.Sm:NodeL->Prop
 | mk (n:NodeL) (h1:vJJ n.lemmas) (h2:n.split.sm) (h3:n.kids.length<2097152) (h4:∀ k∈n.kids,NodeL.Sm k) (h5:vCP n.proof):NodeL.Sm n
theorem NodeL.Sm.lems{n:NodeL}(h:n.Sm):vJJ n.lemmas:=by cases h; assumption
theorem NodeL.Sm.dec{n:NodeL}(h:n.Sm):n.split.sm:=by cases h; assumption
theorem NodeL.Sm.len{n:NodeL}(h:n.Sm):n.kids.length<2097152:=by cases h; assumption
theorem NodeL.Sm.kid{n:NodeL}(h:n.Sm){k:NodeL}(hk:k∈n.kids):k.Sm:=by
 cases h with | mk _ _ _ _ h4 _=>exact h4 k hk
theorem NodeL.Sm.prf{n:NodeL}(h:n.Sm):vCP n.proof:=by cases h; assumption
theorem zAX{α:Type}[Inhabited α]{l:List α}{i:Nat}(h:i<l.length):l[i]! ∈ l:=by
 rw[rAS l i h]; exact rB3 h
section
variable {h:Hp} {n:Nat}
theorem zB8(x:Int):frz h n (.int .u32 x)=some (.int .u32 x,[]):=by cases n<;>rfl
theorem zEA(r:DecL):frz h (n+1) (vA9 r)=some (vA9 r,[]):=by cases n<;>rfl
theorem zKQ(r:MultL):frz h (n+1) (vBA r)=some (vBA r,[]):=by cases n<;>rfl
theorem zMD(r:LemL):frz h (n+1) (vBB r)=some (vBB r,[]):=by cases n<;>rfl
theorem zF4(r:NodeL):frz h (n+1) (vBF r)=some (vBF r,[]):=by rw[zQP]; cases n<;>rfl
end
theorem uDL{x y:MultL}(h:x.row.kind=y.row.kind/\x.row.index=y.row.index/\x.row.lo=y.row.lo/\x.row.hi=y.row.hi)(e:x.coef=y.coef):x=y:=by
 obtain⟨⟨_,_,_,_⟩,_⟩:=x; obtain⟨⟨_,_,_,_⟩,_⟩:=y; simp_all
theorem vX7{x y:LemL}(h1:x.unit=y.unit)(h2:x.upper=y.upper)(h3:x.value=y.value)(h4:x.proof=y.proof):x=y:=by
 cases x; cases y; simp_all
theorem vPR{x y:NodeL}(h1:x.lemmas=y.lemmas)(h2:x.split=y.split)(h3:x.kids=y.kids)(h4:x.empty=y.empty)(h5:x.proof=y.proof):x=y:=by
 cases x; cases y
 simp only[NodeL.lemmas,NodeL.split,NodeL.kids,NodeL.empty,NodeL.proof]at *
 subst h1 h2 h3 h4 h5; rfl
def vCN(l:LemL):Nat:=1+l.proof.length
def NodeL.wt(n:NodeL):Nat:=1+(n.lemmas.map vCN).sum+n.proof.length+(n.kids.attach.map fun⟨k,_⟩=>NodeL.wt k).sum
termination_by SizeOf.sizeOf n
decreasing_by exact NodeL.sizeOf_kid ‹_›
theorem NodeL.wt_eq(n:NodeL):n.wt=1+(n.lemmas.map vCN).sum+n.proof.length+(n.kids.map NodeL.wt).sum:=by
 rw[NodeL.wt]
 congr 2
 simp
theorem zD6{α:Type}[Inhabited α]{f:α->Nat}{l:List α}{i:Nat}(h:i<l.length):((l.take (i+1)).map f).sum=((l.take i).map f).sum+f l[i]! := by
 rw[rA0 h,rBB,rDC,rAS l i h]; simp
theorem sum_take_le{α:Type}{f:α->Nat}{l:List α}{i:Nat}:((l.take i).map f).sum<=(l.map f).sum:=by
 conv=>rhs; rw[<- rCP i l,rBB,rDC]
 omega
theorem vOC{n k:NodeL}(h:k∈n.kids):k.wt<n.wt:=by
 rw[NodeL.wt_eq n]
 have:∀ (l:List NodeL),k∈l->k.wt<=(l.map NodeL.wt).sum:=by
  intro l
  induction l with
  | nil=>intro h; cases h
  | cons a l ih =>
    intro h;simp only[rBJ,List.sum_cons];rcases rA7.1 h with rfl | h
    .omega
    .have:=ih h; omega
 have:=this _ h;omega
theorem zGS(l:List LemL):l.length+(l.map fun x=>x.proof.length).sum=(l.map vCN).sum:=by
 induction l with
 | nil=>rfl
 | cons a l ih=>simp only[rBJ,List.sum_cons,List.length_cons,vCN]; simp only[<- ih]; omega
def NodeL.cnt(n:NodeL):Nat:=1+(n.kids.attach.map fun⟨k,_⟩=>NodeL.cnt k).sum
termination_by SizeOf.sizeOf n
decreasing_by exact NodeL.sizeOf_kid ‹_›
theorem NodeL.cnt_eq(n:NodeL):n.cnt=1+(n.kids.map NodeL.cnt).sum:=by
 rw[NodeL.cnt]
 congr 1
 simp
def vEE(x:NodeL):Bool:=decide (x.split=⟨0,0,⟨false,[],[]⟩⟩)
def vBV(x:NodeL):Bool:=decide (x.kids.length=2/\1<=x.split.kind/\x.split.kind<=4/\x.empty=false/\x.proof.length=0)
def vBH:Nat->NodeL->Bool
 | d,n=>if n.kids.length=0 then vEE n else vBV n && decide (d≠0) && (n.kids.attach.all fun⟨k,_⟩=>vBH (d - 1) k)
termination_by _ n=>SizeOf.sizeOf n
decreasing_by exact NodeL.sizeOf_kid ‹_›
theorem zBT{d:Nat}{n:NodeL}(h:n.kids.length=0):vBH d n=vEE n:=by rw[vBH,rAV h]
theorem zA2{d:Nat}{n:NodeL}(h:n.kids.length≠0):vBH d n=(vBV n && decide (d≠0) && n.kids.all fun k=>vBH (d - 1) k):=by
 rw[vBH,rAN h]
 congr 1
 simp
theorem zG8{α:Type}[Inhabited α]{l:List α}(h:l.length=2):l=[l[0]!,l[1]!]:=by
 match l,h with
 | [a,b],_=>rfl
theorem zCO{d:Nat}{n:NodeL}(h:n.kids.length=2):vBH d n=(vBV n && decide (d≠0) && (vBH (d - 1) n.kids[0]! && vBH (d - 1) n.kids[1]!)):=by
 rw[zA2 zom]
 congr 1
 have e:=zG8 h;generalize n.kids[0]! = a at *
 generalize n.kids[1]! = b at *
 rw[e]
 simp
theorem vID{n:NodeL}(h:n.kids.length=2):n.cnt=1+n.kids[0]!.cnt+n.kids[1]!.cnt:=by
 rw[NodeL.cnt_eq];have e:=zG8 h;generalize n.kids[0]! = a at *
 generalize n.kids[1]! = b at *
 rw[e]
 simp
 omega
theorem zIR{n:NodeL}(h:n.kids.length=0):n.cnt=1:=by
 rw[NodeL.cnt_eq,rA2.1 h]; rfl
theorem zF9(n:NodeL):1<=n.cnt:=by rw[NodeL.cnt_eq]; omega
def NodeL.valid(n:NodeL):Bool:=vBH 2048 n && decide (n.cnt<=65536)
def uLK(k:Int):Int:=if k=1 then 2 else if k=2 then 1 else if k=3 then 4 else if k=4 then 3 else k
def opp(d:DecL):DecL:={ d with kind:=uLK d.kind }
def vCD(n:NodeL)(i:Nat):DecL:=if i=1 then opp n.split else n.split
theorem uGY{α:Type}{l:List α}{k:Nat}{p:α×Nat}(h:p∈l.zipIdx k):p.1∈l:=by
 have:=List.mem_map_of_mem (f:=Prod.fst) h
 rwa [List.zipIdx_map_fst]at this
def NodeL.all(n:NodeL):List (List DecL×NodeL):=([],n)::(n.kids.zipIdx.attach.flatMap fun⟨p,_⟩=>(NodeL.all p.1).map fun q=>(vCD n p.2::q.1,q.2))
termination_by SizeOf.sizeOf n
decreasing_by exact NodeL.sizeOf_kid (uGY ‹_›)
def NodeL.upto(n:NodeL)(i:Nat):List (List DecL×NodeL):=([],n)::((n.kids.zipIdx.take i).flatMap fun p=>(NodeL.all p.1).map fun q=>(vCD n p.2::q.1,q.2))
theorem NodeL.all_eq(n:NodeL):n.all=n.upto n.kids.length:=by
 unfold NodeL.upto;rw[rBO zsm]
 conv=>lhs; rw[NodeL.all]
 congr 1
 rw[rFN (g:=fun p:NodeL×Nat=>(NodeL.all p.1).map fun q=>(vCD n p.2::q.1,q.2)) (fun _ _=>rfl)]
 simp
theorem NodeL.upto_zero(n:NodeL):n.upto 0=[([],n)]:=by simp[NodeL.upto]
theorem NodeL.upto_succ(n:NodeL){i:Nat}(h:i<n.kids.length):n.upto (i+1)=n.upto i++(n.kids[i]!.all.map fun q=>(vCD n i::q.1,q.2)):=by
 unfold NodeL.upto;rw[rA0 (by simpa using h),List.flatMap_append,List.cons_append]
 congr 2
 simp[rAS n.kids i h]
theorem zCD{α:Type}[DecidableEq α][Inhabited α]{xs ys:List α}(hl:xs.length=ys.length):xs=ys↔∀ j,j<xs.length->xs[j]! = ys[j]! := by
 constructor
 .rintro rfl _ _; rfl
 .intro h
  refine rDA hl fun i h1 h2=>?_
  have:=h i h1
  rwa [rAS xs i h1,rAS ys i h2]at this
theorem uQE{α:Type}[BEq α][LawfulBEq α]{a b:α}(h:(a == b)=false):a≠b:=fun e=>by subst e; simp at h
theorem uQA{α:Type}[BEq α][LawfulBEq α]{a b:α}(h:(a != b)=true):a≠b:=by simpa using h
theorem uQB{α:Type}[BEq α][LawfulBEq α]{a b:α}(h:(a != b)=false):a=b:=by simpa using h
structure Hq(q:Prop):Prop where
 h:q
theorem st1{p q:Prop}(h:q)(e:Hq q->p:=by
 intro hq
 (first
   | (with_reducible first | refine uPF ?_ | refine uHT ?_ | refine zA3 ?_ | refine vVL ?_ | refine uHY ?_ | refine vHD ?_ | refine vMP ?_ | refine vVT ?_ | refine vVQ ?_ | refine uHV ?_ | refine vHB ?_ | refine vMJ ?_ | refine uHZ ?_ | refine uH0 ?_ | refine vVR ?_ | refine vHC ?_ | refine vMK ?_ | refine uH1 ?_ | refine vVM ?_ | refine uHU ?_ | refine vMN ?_ | refine vML ?_)
   | ((conv=>whnf); first
     | with_reducible refine Next.mk ?_
     | with_reducible refine zJJ (fun _=>⟨rfl,rfl⟩) rfl ?_
     | with_reducible refine zLE (fun _=>⟨rfl,rfl⟩) rfl ?_
     | (with_reducible refine zBJ ?_ ?_; · (first | omega | (simp only[rAU,rAM,List.length_nil,List.length_cons,rCA,rBX,rCK,rEG,rFG]; omega) | (simp only[rAU,rAM,List.length_nil,List.length_cons,rCA]; done)))
     | (with_reducible refine uB1 ?_ ?_; · (first | omega | (simp only[rAU,rAM,List.length_nil,List.length_cons,rCA,rBX,rCK,rEG,rFG]; omega) | (simp only[rAU,rAM,List.length_nil,List.length_cons,rCA]; done)))
     | (with_reducible refine zFH ?_ ?_; · omega)
     | (with_reducible refine vJY ?_ ?_; · omega)
     | with_reducible refine vN4 ?_
     | with_reducible refine zJV (fun _=>rfl) ?_
     | (with_reducible refine vND ?_ ?_; · omega)
     | (with_reducible refine zA7 rfl ?_ ?_; · omega)))
 exact hq.h):p:=e ⟨h⟩
theorem stp{p q:Prop}(h:q)(e:Hq q->p:=by
 intro hq;refine st1 ?_
 repeat refine st1 ?_
 (try (conv=>whnf))
 exact hq.h):p:=e ⟨h⟩
theorem sts{p q:Prop}(h:q)(e:Hq q->p:=by
 intro hq
 repeat refine st1 ?_
 (try (conv=>whnf))
 exact hq.h):p:=e ⟨h⟩
theorem su1{p q:Prop}(h:q)(e:Hq q->p:=by
 intro hq
 (first
   | (with_reducible first | refine uPF ?_ | refine uHT ?_ | refine vVL ?_ | refine uHY ?_ | refine vHD ?_ | refine vMP ?_ | refine vVT ?_ | refine vVQ ?_ | refine uHV ?_ | refine vHB ?_ | refine vMJ ?_ | refine uHZ ?_ | refine uH0 ?_ | refine vVR ?_ | refine vHC ?_ | refine vMK ?_ | refine uH1 ?_ | refine vVM ?_ | refine uHU ?_ | refine vMN ?_ | refine vML ?_)
   | ((conv=>whnf); first
     | with_reducible refine Next.mk ?_
     | with_reducible refine zJJ (fun _=>⟨rfl,rfl⟩) rfl ?_
     | with_reducible refine zLE (fun _=>⟨rfl,rfl⟩) rfl ?_
     | (with_reducible refine zBJ ?_ ?_; · (first | omega | (simp only[rAU,rAM,List.length_nil,List.length_cons,rCA,rBX,rCK,rEG,rFG]; omega) | (simp only[rAU,rAM,List.length_nil,List.length_cons,rCA]; done)))
     | (with_reducible refine uB1 ?_ ?_; · (first | omega | (simp only[rAU,rAM,List.length_nil,List.length_cons,rCA,rBX,rCK,rEG,rFG]; omega) | (simp only[rAU,rAM,List.length_nil,List.length_cons,rCA]; done)))
     | (with_reducible refine zFH ?_ ?_; · omega)
     | (with_reducible refine vJY ?_ ?_; · omega)
     | with_reducible refine vN4 ?_
     | with_reducible refine zJV (fun _=>rfl) ?_
     | (with_reducible refine vND ?_ ?_; · omega)
     | (with_reducible refine zA7 rfl ?_ ?_; · omega)))
 exact hq.h):p:=e ⟨h⟩
theorem stu{p q:Prop}(h:q)(e:Hq q->p:=by
 intro hq;refine su1 ?_
 repeat refine su1 ?_
 (try (conv=>whnf))
 exact hq.h):p:=e ⟨h⟩
theorem sus{p q:Prop}(h:q)(e:Hq q->p:=by
 intro hq
 repeat refine su1 ?_
 (try (conv=>whnf))
 exact hq.h):p:=e ⟨h⟩
theorem brr{b:Bool}{A B p q:Prop}(h1:p->A)(h2:q->B)(e1:b=true->p:=by
 intro h
 (first
   | (replace h:=rB2 h; try simp only[rAM]at h)
   | (replace h:=eq_of_beq h; try simp only[rAM]at h)
   | (replace h:=uQA h; try simp only[rAM]at h)
   | (simp only[rAQ,rDL,rAM,rDT,rEP,ne_eq,rAX,rB5]at h)
   | skip)
 exact h) (e2:b=false->q:=by
 intro h
 (first
   | (replace h:=rFR h; try simp only[rAM]at h)
   | (replace h:=uQE h; try simp only[rAM]at h)
   | (replace h:=uQB h; try simp only[rAM]at h)
   | (simp only[rAQ,rDL,rAM,rDT,rEP,ne_eq,rAX,rB5]at h)
   | skip)
 exact h):brB b A B:=vN5 (fun h=>h1 (e1 h)) (fun h=>h2 (e2 h))
def sg(b:Bool)(n:Nat):Int:=if b then -(n:Int) else n
theorem zGJ(b:Bool)(n:Nat):(sg b n).natAbs=n:=by unfold sg; split<;>simp
theorem uL7(b:Bool)(n:Nat):sg b n<0↔b=true/\n≠0:=by unfold sg; cases b<;>simp<;>omega
theorem zP1(b:Bool)(n:Nat):sg (!b) n=- sg b n:=by unfold sg; cases b<;>simp
theorem vUW(a b:Bool)(m n:Nat):sg (a != b) (m * n)=sg a m * sg b n:=by unfold sg; cases a<;>cases b<;>simp[rGD,Int.mul_neg]
theorem uHD(a:Bool)(m n:Nat):sg a (m * n)=sg a m * n:=by unfold sg; cases a<;>simp[rGD]
structure IntL where
 neg:Bool
 mag:List Int
 deriving DecidableEq,Inhabited
def vB1(x:IntL):PV:=.agg [.bool x.neg,vBK x.mag]
def iv(x:IntL):Int:=sg x.neg (nv x.mag)
def cz(z:Int):IntL:=⟨decide (z<0),vBG z.natAbs⟩
theorem uJ5(b:Bool)(n:Nat):cz (sg b n)=⟨b && decide (n≠0),vBG n⟩:=by
 unfold cz; rw[zGJ]; congr 1;rw[rA1]; simp[uL7]
theorem zON(z:Int):iv (cz z)=z:=by
 unfold iv cz sg; simp only[zAS]; split<;>rename_i h<;>simp at h<;>omega
theorem uFI(b:Bool)(n:Nat):Int.sign (sg b n)=if n=0 then 0 else if b then -1 else 1:=by
 unfold sg;by_cases h:n=0
 .subst h; cases b<;>rfl
 .rw[rAN h]
  cases b
  .exact rEO rAE
  .exact rD5 rAE
def okR(r:RatL):Prop:=okN r.num/\okN r.den
def dn(den:List Int):Nat:=if nv den=0 then 1 else nv den
theorem zDG(d:List Int):dn d≠0:=by unfold dn; split<;>omega
def qv(r:RatL):Rat:=mkRat (sg r.neg (nv r.num)) (dn r.den)
def cr(q:Rat):RatL:=⟨decide (q.num<0),vBG q.num.natAbs,if q.den=1 then [] else vBG q.den⟩
theorem zBE(q:Rat):okR (cr q):=⟨zAQ _,by unfold cr; dsimp only; split; exact zEC; exact zAQ _⟩
theorem uP1(q:Rat):dn (cr q).den=q.den:=by
 unfold dn cr; dsimp only;by_cases h:q.den=1
 .simp[h,nv]
 .rw[rAN h,zAS,rAN q.den_nz]
theorem uO9(q:Rat):sg (cr q).neg (nv (cr q).num)=q.num:=zON q.num
theorem zBV(q:Rat):qv (cr q)=q:=by unfold qv; rw[uO9,uP1,rFC]
theorem uF4(z:Int){d:Nat}(h:d≠0):(mkRat z d).num=z / (z.natAbs.gcd d:Int):=by rw[Rat.mkRat_def,dif_neg h,Rat.normalize_eq]
theorem uF6(z:Int){d:Nat}(h:d≠0):(mkRat z d).den=d / z.natAbs.gcd d:=by rw[Rat.mkRat_def,dif_neg h,Rat.normalize_eq]
theorem uF7(z:Int){d:Nat}(h:d≠0):(mkRat z d).num.natAbs=z.natAbs / z.natAbs.gcd d:=by
 rw[uF4 z h,Int.natAbs_ediv_of_dvd]
 .simp
 .exact Int.ofNat_dvd_left.2 (rF6 ..)
theorem uF5(z:Int){d:Nat}(h:d≠0):(mkRat z d).num<0↔z<0:=by
 rw[uF4 z h];have h1:(z.natAbs.gcd d:Int) ∣ z:=Int.ofNat_dvd_left.2 (rF6 ..);have h2:0<z.natAbs.gcd d:=Nat.gcd_pos_of_pos_right _ zom;obtain⟨k,hk⟩:=h1;have h3:(0:Int)<(z.natAbs.gcd d:Int):=by omega
 generalize hg:(z.natAbs.gcd d:Int)=g at *
 rw[hk,Int.mul_ediv_cancel_left _ zom];constructor
 .intro h; exact Int.mul_neg_of_pos_of_neg h3 h
 .intro h
  refine Int.not_le.1 fun h'=>?_
  have:=Int.mul_nonneg (Int.le_of_lt h3) h';omega
theorem uJ7(b:Bool)(n:Nat){d:Nat}(h:d≠0):cr (mkRat (sg b n) d)=⟨b && decide (n≠0),vBG (n / n.gcd d),if d / n.gcd d=1 then [] else vBG (d / n.gcd d)⟩:=by
 unfold cr;rw[uF7 _ h,uF6 _ h,zGJ]
 congr 1
 rw[rA1]; simp[uF5 _ h,uL7]
theorem zOW:cr 0=⟨false,[],[]⟩:=by decide
theorem vXV(z:Int){d:Nat}(h:d≠0):(mkRat z d).num.sign=z.sign:=by
 have h1:=uF5 z h;have h2:=Rat.mkRat_eq_zero (n:=z) h;rw[<- Rat.num_eq_zero]at h2;rcases rFF z 0 with h3 | h3 | h3
 .rw[rD5 h3,rD5 (h1.2 h3)]
 .rw[h3]at h2 ⊢; rw[h2.2 rfl]
 .rw[rEO h3,rEO]
  have:¬ (mkRat z d).num<0:=fun h=>by have:=h1.1 h; omega
  have:¬ (mkRat z d).num=0:=fun h=>by have:=h2.1 h; omega
  omega
theorem uH2(r:RatL):(qv r).num.sign=(sg r.neg (nv r.num)).sign:=vXV _ (zDG _)
def vDN(q:Rat):Int:=q.num.sign
theorem vL5(r:RatL):vDN (qv r)=(sg r.neg (nv r.num)).sign:=uH2 r
theorem uL1(n1 n2:Int){d1 d2:Nat}(h1:d1≠0)(h2:d2≠0):mkRat n1 d1 - mkRat n2 d2=mkRat (n1 * d2 - n2 * d1) (d1 * d2):=by
 rw[rE8,rGO,rFQ _ _ h1 h2,rGD,<- Int.sub_eq_add_neg]
theorem uBK(a b:RatL):vDN (qv a - qv b)=(sg a.neg (nv a.num) * dn b.den - sg b.neg (nv b.num) * dn a.den).sign:=by
 unfold qv; rw[uL1 _ _ (zDG _) (zDG _)]; exact vXV _ (rD1 (zDG _) (zDG _))
theorem sgnQ_neg{q:Rat}:vDN q<0↔q<0:=by
 unfold vDN; rw[Int.sign_neg_iff,Rat.lt_iff]; simp
theorem sgnQ_zero{q:Rat}:vDN q=0↔q=0:=by
 unfold vDN; rw[Int.sign_eq_zero_iff_zero,Rat.num_eq_zero]
theorem sgnQ_pos{q:Rat}:0<vDN q↔0<q:=by
 unfold vDN; rw[Int.sign_pos_iff,Rat.lt_iff]; simp
theorem uFT(a b:RatL):qv a+qv b=mkRat (sg a.neg (nv a.num) * dn b.den+sg b.neg (nv b.num) * dn a.den) (dn a.den * dn b.den):=by
 unfold qv; rw[rFQ _ _ (zDG _) (zDG _)]
theorem uFS(a b:RatL):qv a * qv b=mkRat (sg a.neg (nv a.num) * sg b.neg (nv b.num)) (dn a.den * dn b.den):=by
 unfold qv; rw[Rat.mkRat_mul_mkRat]
def sz(k:Nat)(q:Rat):Prop:=q.num.natAbs<pw k/\q.den<pw k
theorem zI6{j k:Nat}(h:j<=k){q:Rat}(hq:sz j q):sz k q:=⟨rA4 hq.1 (zFT h),rA4 hq.2 (zFT h)⟩
theorem uA8{k:Nat}{z:Int}{d:Nat}(h:d≠0)(h1:z.natAbs<pw k)(h2:d<pw k):sz k (mkRat z d):=by
 refine⟨?_,?_⟩
 .rw[uF7 _ h]; exact rFA (rD2 ..) h1
 .rw[uF6 _ h]; exact rFA (rD2 ..) h2
theorem zBM{k:Nat}{q:Rat}(h:sz k q):(cr q).num.length<=k/\(cr q).den.length<=k:=by
 refine⟨zB6 h.1,?_⟩;unfold cr; dsimp only; split
 .simp
 .exact zB6 h.2
theorem uJ3{d:List Int}(h:okN d){k:Nat}(hk:d.length<=k)(hk1:1<=k):dn d<pw k:=by
 have h1:=zEV h;have h2:=zFT hk;have h3:=zFT hk1;have:pw 1=4294967296:=rfl;unfold dn; split<;>omega
theorem vI8{r:RatL}(h:okR r){k:Nat}(h1:r.num.length<=k)(h2:r.den.length<=k)(hk:1<=k):sz k (qv r):=by
 refine uA8 (zDG _) ?_ (uJ3 h.2 h2 hk);rw[zGJ];exact rA4 (zEV h.1) (zFT h1)
theorem zEO{a b j k:Nat}(h1:a<pw j)(h2:b<pw k):a * b<pw (j+k):=by
 rw[zP9]; exact Nat.mul_lt_mul'' h1 h2
theorem zFW{j k:Nat}{p q:Rat}(h1:sz j p)(h2:sz k q):sz (j+k) (p * q):=by
 rw[<- rFC p,<- rFC q,Rat.mkRat_mul_mkRat];refine uA8 (rD1 p.den_nz q.den_nz) ?_ (zEO h1.2 h2.2);rw[rEU]; exact zEO h1.1 h2.1
theorem zG9{j k:Nat}{p q:Rat}(h1:sz j p)(h2:sz k q):sz (j+k+1) (p+q):=by
 rw[<- rFC p,<- rFC q,rFQ _ _ p.den_nz q.den_nz];have e1:=zEO h1.1 h2.2;have e2:=zEO h2.1 h1.2;have e3:=zEO h1.2 h2.2;have e4:=zBB (j+k);rw[rEV k j]at e2;refine uA8 (rD1 p.den_nz q.den_nz) ?_ zom
 have:(p.num * (q.den:Int)+q.num * (p.den:Int)).natAbs<=p.num.natAbs * q.den+q.num.natAbs * p.den:=by
  refine rBV (Int.natAbs_add_le ..) ?_;rw[rEU,rEU]; simp
 omega
theorem vT8{k:Nat}{q:Rat}(h:sz k q):sz k (-q):=by unfold sz at *; simpa using h
structure TermL where
 var:Int
 coef:RatL
 deriving DecidableEq,Inhabited
def vCJ(t:TermL):PV:=.agg [.int .i64 t.var,.bool t.coef.neg,vBK t.coef.num,vBK t.coef.den]
structure AffL where
 terms:List TermL
 const:RatL
 deriving DecidableEq,Inhabited
def vBO(f:AffL):PV:=.agg [.imm (f.terms.map vCJ),.bool f.const.neg,vBK f.const.num,vBK f.const.den]
structure ProgL where
 vars:Int
 rows:List AffL
 obj:AffL
 deriving DecidableEq,Inhabited
def okQ(k:Nat)(r:RatL):Prop:=okR r/\r.num.length<=k/\r.den.length<=k
def okA(k:Nat)(f:AffL):Prop:=okQ k f.const/\(∀ t∈f.terms,okQ k t.coef)/\f.terms.length<=1048576
theorem vXN{k:Nat}{f:AffL}(h:okA k f){i:Nat}(hi:i<f.terms.length):okQ k f.terms[i]!.coef:=by
 rw[rAS f.terms i hi]; exact h.2.1 _ (rB3 hi)
def okT(ts:List TermL)(n:Int)(i:Nat):Prop :=
 0<=ts[i]!.var/\ts[i]!.var<n/\(0<i->ts[i - 1]!.var<ts[i]!.var)/\qv ts[i]!.coef≠0/\ts[i]!.coef=cr (qv ts[i]!.coef)
def vB9(f:AffL)(n:Int):Prop:=(∀ i,i<f.terms.length->okT f.terms n i)/\f.const=cr (qv f.const)
noncomputable def vC3(f:AffL)(n:Int):Bool:=@decide (vB9 f n) (Classical.propDecidable _)
theorem validB_true{f:AffL}{n:Int}:vC3 f n=true↔vB9 f n:=by simp[vC3]
theorem vI1{f:AffL}{n:Int}:vC3 f n=false↔¬ vB9 f n:=by simp[vC3]
theorem zPS{f:AffL}{n:Int}(h:∀ i,i<f.terms.length->okT f.terms n i):decide (f.const=cr (qv f.const))=vC3 f n:=by
 rw[rA1,validB_true,rAX];exact⟨fun e=>⟨h,e⟩,fun e=>e.2⟩
theorem zBR{f:AffL}{n:Int}{i:Nat}(hi:i<f.terms.length)(h:¬ okT f.terms n i):false=vC3 f n:=by
 rw[eq_comm,vI1]; exact fun e=>h (e.1 i hi)
abbrev QT:=Int×Rat
def tQ(p:QT):TermL:=⟨p.1,cr p.2⟩
def vIY(p:QT):PV:=vCJ (tQ p)
structure QF where
 ts:List QT
 c:Rat
 deriving Inhabited
def QF.L(f:QF):AffL:=⟨f.ts.map tQ,cr f.c⟩
def vBP(f:QF):PV:=.agg [.imm (f.ts.map vIY),.bool (cr f.c).neg,vBK (cr f.c).num,vBK (cr f.c).den]
theorem vH9(f:QF):vBP f=vBO f.L:=by unfold vBP vBO QF.L; simp only[rB7]; rfl
def AffL.Q(f:AffL):QF:=⟨f.terms.map fun t=>(t.var,qv t.coef),qv f.const⟩
def nzq(v:Int)(x:Rat):List QT:=if x=0 then [] else [(v,x)]
theorem zNJ(v:Int):nzq v 0=[]:=by simp[nzq]
theorem zQE{v:Int}{x:Rat}(h:x≠0):nzq v x=[(v,x)]:=by simp[nzq,h]
def cf:List QT->Int->Rat
 | [],_=>0
 | p::l,v=>(if p.1=v then p.2 else 0)+cf l v
theorem zEB(a b:List QT)(v:Int):cf (a++b) v=cf a v+cf b v:=by
 induction a with
 | nil=>simp[cf,Rat.zero_add]
 | cons p a ih=>simp only[List.cons_append,cf,ih,Rat.add_assoc]
theorem zI1(w:Int)(x:Rat)(v:Int):cf (nzq w x) v=if w=v then x else 0:=by
 unfold nzq;by_cases h:x=0
 .simp[h,cf]
 .simp[h,cf,rD0]
def Srt(l:List QT):Prop:=l.Pairwise (fun p q=>p.1<q.1)/\∀ p∈l,p.2≠0
theorem zGZ:Srt []:=⟨List.Pairwise.nil,fun _ h=>by cases h⟩
theorem srt_cons{p:QT}{l:List QT}:Srt (p::l)↔(∀ q∈l,p.1<q.1)/\p.2≠0/\Srt l:=by
 unfold Srt;simp only[rFT,rA7,forall_eq_or_imp];constructor
 .rintro⟨⟨h1,h2⟩,h3,h4⟩; exact⟨h1,h3,h2,h4⟩
 .rintro⟨h1,h3,h2,h4⟩; exact⟨⟨h1,h2⟩,h3,h4⟩
theorem zMZ{l:List QT}{v:Int}(h:∀ q∈l,q.1≠v):cf l v=0:=by
 induction l with
 | nil=>rfl
 | cons p l ih =>
   have h1:=h p zsm;simp[cf,h1,ih fun q hq=>h q (by simp[hq]),rD0]
theorem zN3:∀ {a b:List QT},Srt a->Srt b->(∀ v,cf a v=cf b v)->a=b
 | [],[],_,_,_=>rfl
 | [],q::b,_,hb,h=>by
   rw[srt_cons]at hb;have:=h q.1;rw[cf,cf,zMZ (l:=b) (fun r hr e=>by have:=hb.1 r hr; omega)]at this;simp[rD0]at this;exact absurd this.symm hb.2.1
 | p::a,[],ha,_,h=>by
   rw[srt_cons]at ha;have:=h p.1;rw[cf,cf,zMZ (l:=a) (fun r hr e=>by have:=ha.1 r hr; omega)]at this;simp[rD0]at this;exact absurd this ha.2.1
 | p :: a,q::b,ha,hb,h=>by
   rw[srt_cons]at ha hb;have hp:=h p.1;have hq:=h q.1;simp only[cf]at hp hq;rw[zMZ (l:=a) (fun r hr e=>by have:=ha.1 r hr; omega)]at hp;rw[zMZ (l:=b) (fun r hr e=>by have:=hb.1 r hr; omega)]at hq;simp only[rCI,rD0]at hp hq
   have hv:p.1=q.1:=by
    rcases rFF p.1 q.1 with hlt | he | hlt
    .rw[rAN zom,zMZ (l:=b) (fun r hr e=>by have:=hb.1 r hr; omega),rD0]at hp
     exact absurd hp ha.2.1
    .exact he
    .rw[rAN zom,zMZ (l:=a) (fun r hr e=>by have:=ha.1 r hr; omega),rD0]at hq
     exact absurd hq.symm hb.2.1
   have hx:p.2=q.2:=by
    rw[rAV hv.symm,zMZ (l:=b) (fun r hr e=>by have:=hb.1 r hr; omega),rD0]at hp;exact hp
   have hab:a=b:=zN3 ha.2.2 hb.2.2 fun v=>by
    have:=h v;simp only[cf]at this;rw[hv,hx]at this;exact Rat.add_left_cancel _ this
   rw[hab]
   congr 1
   exact Prod.ext hv hx
theorem zF6{v:Int}{x:Rat}{l:List QT}(hl:Srt l)(h:∀ q∈l,v<q.1):Srt (nzq v x++l):=by
 unfold nzq;by_cases h0:x=0
 .simpa [h0]using hl
 .simp only[h0,rCN,List.cons_append,List.nil_append]
  exact srt_cons.2 ⟨h,h0,hl⟩
def mrg(c:Rat):List QT->List QT->List QT
 | [],[]=>[]
 | p::a,[]=>nzq p.1 p.2++mrg c a []
 | [],q::b=>nzq q.1 (q.2 * c)++mrg c [] b
 | p::a,q::b=>if p.1<q.1 then nzq p.1 p.2++mrg c a (q::b) else if q.1<p.1 then nzq q.1 (q.2 * c)++mrg c (p::a) b else nzq p.1 (p.2+q.2 * c)++mrg c a b
termination_by a b=>a.length+b.length
def vB4(f g:QF)(c:Rat):QF:=⟨mrg c f.ts g.ts,f.c+g.c * c⟩
theorem zFK(c:Rat):∀ (n:Nat) (a b:List QT),a.length+b.length<=n->∀ r∈mrg c a b,(∃ p∈a,p.1=r.1)\/∃ q∈b,q.1=r.1
 | n,[],[],_,r,h=>by rw[mrg]at h; cases h
 | 0,_::_,_,h,_,_=>by simp at h
 | 0,_,_::_,h,_,_=>by simp at h
 | n + 1,p::a,[],hn,r,h=>by
   rw[mrg,rAY]at h;simp only[List.length_cons]at hn;rcases h with h | h
   .unfold nzq at h; split at h
    .cases h
    .simp at h; left; exact⟨p,zsm,by rw[h]⟩
   .rcases zFK c n a [] (by simp at hn ⊢; omega) r h with⟨q,h1,h2⟩ | h1
    .exact rAW ⟨q,by simp[h1],h2⟩
    .exact rAZ h1
 | n + 1,[],q::b,hn,r,h=>by
   rw[mrg,rAY]at h;simp only[List.length_cons]at hn;rcases h with h | h
   .unfold nzq at h; split at h
    .cases h
    .simp at h; right; exact⟨q,zsm,by rw[h]⟩
   .rcases zFK c n [] b (by simp at hn ⊢; omega) r h with h1 | ⟨q,h1,h2⟩
    .exact rAW h1
    .exact rAZ ⟨q,by simp[h1],h2⟩
 | n + 1,p::a,q::b,hn,r,h=>by
   rw[mrg]at h;simp only[List.length_cons]at hn
   have one:∀ {v:Int} {x:Rat},r∈nzq v x->v=r.1:=fun {v x} h=>by
    unfold nzq at h; split at h
    .cases h
    .simp at h; rw[h]
   split at h
   .rcases rAY.1 h with h | h
    .exact rAW ⟨p,zsm,one h⟩
    .rcases zFK c n a (q::b) rAE r h with⟨t,h1,h2⟩ | h1
     .exact rAW ⟨t,by simp[h1],h2⟩
     .exact rAZ h1
   .split at h
    .rcases rAY.1 h with h | h
     .exact rAZ ⟨q,zsm,one h⟩
     .rcases zFK c n (p::a) b rAE r h with h1 | ⟨t,h1,h2⟩
      .exact rAW h1
      .exact rAZ ⟨t,by simp[h1],h2⟩
    .rcases rAY.1 h with h | h
     .exact rAW ⟨p,zsm,one h⟩
     .rcases zFK c n a b zom r h with⟨t,h1,h2⟩ | ⟨t,h1,h2⟩
      .exact rAW ⟨t,by simp[h1],h2⟩
      .exact rAZ ⟨t,by simp[h1],h2⟩
theorem zF1 (c:Rat):∀ (n:Nat) (a b:List QT),a.length+b.length<=n->Srt a->Srt b->Srt (mrg c a b)/\∀ v,cf (mrg c a b) v=cf a v+cf b v * c
 | n,[],[],_,_,_=>by rw[mrg]; exact⟨zGZ,fun v=>by simp[cf,Rat.zero_add]⟩
 | 0,_::_,_,h,_,_=>by simp at h
 | 0,_,_::_,h,_,_=>by simp at h
 | n + 1,p::a,[],hn,ha,hb=>by
   rw[mrg];simp only[List.length_cons]at hn;rw[srt_cons]at ha;obtain⟨h1,h2⟩:=zF1 c n a [] (by simp at hn ⊢; omega) ha.2.2 hb;refine⟨zF6 h1 fun r hr=>?_,fun v=>?_⟩
   .rcases zFK c _ a [] (rAO _) r hr with⟨t,h3,h4⟩ | ⟨t,h3,_⟩
    .rw[<- h4]; exact ha.1 t h3
    .cases h3
   .rw[zEB,zI1,h2]; simp only[cf]; grind
 | n + 1,[],q::b,hn,ha,hb=>by
   rw[mrg];simp only[List.length_cons]at hn;rw[srt_cons]at hb;obtain⟨h1,h2⟩:=zF1 c n [] b (by simp at hn ⊢; omega) ha hb.2.2;refine⟨zF6 h1 fun r hr=>?_,fun v=>?_⟩
   .rcases zFK c _ [] b (rAO _) r hr with⟨t,h3,_⟩ | ⟨t,h3,h4⟩
    .cases h3
    .rw[<- h4]; exact hb.1 t h3
   .rw[zEB,zI1,h2]; simp only[cf]; grind
 | n + 1,p::a,q::b,hn,ha,hb=>by
   rw[mrg];simp only[List.length_cons]at hn;have ha':=srt_cons.1 ha;have hb':=srt_cons.1 hb
   split
   .rename_i hlt
    obtain⟨h1,h2⟩:=zF1 c n a (q::b) rAE ha'.2.2 hb;refine⟨zF6 h1 fun r hr=>?_,fun v=>?_⟩
    .rcases zFK c _ a (q::b) (rAO _) r hr with⟨t,h3,h4⟩ | ⟨t,h3,h4⟩
     .rw[<- h4]; exact ha'.1 t h3
     .rw[<- h4]
      rcases rA7.1 h3 with h3 | h3
      .rw[h3]; exact hlt
      .have:=hb'.1 t h3; omega
    .rw[zEB,zI1,h2]; simp only[cf]; grind
   .split
    .rename_i hlt
     obtain⟨h1,h2⟩:=zF1 c n (p::a) b rAE ha hb'.2.2;refine⟨zF6 h1 fun r hr=>?_,fun v=>?_⟩
     .rcases zFK c _ (p::a) b (rAO _) r hr with⟨t,h3,h4⟩ | ⟨t,h3,h4⟩
      .rw[<- h4]
       rcases rA7.1 h3 with h3 | h3
       .rw[h3]; exact hlt
       .have:=ha'.1 t h3; omega
      .rw[<- h4]; exact hb'.1 t h3
     .rw[zEB,zI1,h2]; simp only[cf]; grind
    .have he:p.1=q.1:=by omega
     obtain⟨h1,h2⟩:=zF1 c n a b zom ha'.2.2 hb'.2.2;refine⟨zF6 h1 fun r hr=>?_,fun v=>?_⟩
     .rcases zFK c _ a b (rAO _) r hr with⟨t,h3,h4⟩ | ⟨t,h3,h4⟩
      .rw[<- h4]; exact ha'.1 t h3
      .rw[<- h4,he]; exact hb'.1 t h3
     .rw[zEB,zI1,h2]; simp only[cf]; grind
def vCT(v:Int)(c:Rat):List QT->Bool->List QT
 | [],d=>if d then [] else nzq v c
 | t::ts,d=>(if (d || decide (t.1=v))=false/\v<t.1 then nzq v c else [])++nzq t.1 (if t.1=v then t.2+c else t.2)++vCT v c ts ((d || decide (t.1=v)) || decide (v<t.1))
theorem zLY{v:Int}{c:Rat}:∀ {l:List QT},Srt l->(∀ q∈l,v<q.1)->vCT v c l true=l
 | [],_,_=>rfl
 | t::ts,hs,h=>by
   have hs':=srt_cons.1 hs;have ht:=h t zsm;have h1:¬ t.1=v:=by omega
   simp only[vCT,rDO,rC9,rEZ,rCN,h1,List.nil_append];rw[zQE hs'.2.1,zLY hs'.2.2 fun q hq=>h q (by simp[hq])];rfl
theorem zQA{v:Int}{c:Rat}:∀ {l:List QT},Srt l->Srt (vCT v c l false)/\(∀ w,cf (vCT v c l false) w=cf l w+if v=w then c else 0)/\∀ r∈vCT v c l false,r.1=v\/∃ p∈l,p.1=r.1
 | [],_=>by
   simp only[vCT,rCG,rCN];refine⟨by have:=zF6 (v:=v) (x:=c) zGZ (fun q h=>by cases h); simpa using this,fun w=>by rw[zI1]; simp[cf,Rat.zero_add],fun r hr=>?_⟩;unfold nzq at hr; split at hr
   .cases hr
   .simp at hr; left; rw[hr]
 | t :: ts,hs=>by
   have hs':=srt_cons.1 hs
   have memz:∀ {w:Int} {x:Rat} {r:QT},r∈nzq w x->r.1=w:=fun {w x r} h=>by
    unfold nzq at h; split at h
    .cases h
    .simp at h; rw[h]
   rcases rFF t.1 v with hlt | he | hgt
   .obtain⟨h1,h2,h3⟩:=zQA (v:=v) (c:=c) hs'.2.2
    have e1:¬ t.1=v:=by omega
    have e2:¬ v<t.1:=by omega
    simp only[vCT,e1,e2,rC7,rCO,and_false,rCN,List.nil_append];refine⟨zF6 h1 fun r hr=>?_,fun w=>?_,fun r hr=>?_⟩
    .rcases h3 r hr with h | ⟨p,hp,h⟩
     .omega
     .have:=hs'.1 p hp; omega
    .rw[zEB,zI1,h2]; simp only[cf]; grind
    .rcases rAY.1 hr with hr | hr
     .right; exact⟨t,zsm,(memz hr).symm⟩
     .rcases h3 r hr with h | ⟨p,hp,h⟩
      .exact rAW h
      .exact rAZ ⟨p,by simp[hp],h⟩
   .have h1:=zLY (v:=v) (c:=c) hs'.2.2 (fun q hq=>by have:=hs'.1 q hq; omega)
    simp only[vCT,he,rDI,rDH,rC9,rEZ,rCN,rCI,List.nil_append,rDO,h1];refine⟨zF6 hs'.2.2 fun r hr=>by have:=hs'.1 r hr; omega,fun w=>?_,fun r hr=>?_⟩
    .rw[zEB,zI1]; simp only[cf]; rw[he]; grind
    .rcases rAY.1 hr with hr | hr
     .exact rAW (memz hr)
     .exact rAZ ⟨r,by simp[hr],rfl⟩
   .have e1:¬ t.1=v:=by omega
    have h1:=zLY (v:=v) (c:=c) hs'.2.2 (fun q hq=>by have:=hs'.1 q hq; omega);simp only[vCT,e1,hgt,rC7,rDI,rCO,rDH,and_self,rCI,rCN,h1];rw[zQE hs'.2.1,rBG];refine⟨zF6 hs fun r hr=>?_,fun w=>?_,fun r hr=>?_⟩
    .rcases rA7.1 hr with hr | hr
     .rw[hr]; exact hgt
     .have:=hs'.1 r hr; omega
    .rw[zEB,zI1]; simp only[cf,List.cons_append,List.nil_append]; grind
    .rcases rAY.1 hr with hr | hr
     .exact rAW (memz hr)
     .exact rAZ ⟨r,hr,rfl⟩
def uMM(f:QF)(v:Int)(c:Rat):QF:=⟨vCT v c f.ts false,f.c⟩
def addL(l:List QT)(g:List QT):List QT:=g.foldl (fun l t=>vCT t.1 t.2 l false) l
def uK9(f g:QF):QF:=⟨addL f.ts g.ts,f.c+g.c⟩
theorem zLJ:∀ {g l:List QT},Srt l->Srt (addL l g)/\∀ w,cf (addL l g) w=cf l w+cf g w
 | [],l,h=>⟨h,fun w=>by simp[addL,cf,rD0]⟩
 | t::g,l,h=>by
   obtain⟨h1,h2,_⟩:=zQA (v:=t.1) (c:=t.2) h;obtain⟨h3,h4⟩:=zLJ (g:=g) h1;refine⟨h3,fun w=>?_⟩;show cf (addL (vCT t.1 t.2 l false) g) w=_
   rw[h4,h2]; simp only[cf]; grind
def vGA(c:Rat)(l:List QT):List QT:=l.flatMap fun t=>nzq t.1 (t.2 * c)
def vES(f:QF)(c:Rat):QF:=⟨vGA c f.ts,f.c * c⟩
theorem zJ0(c:Rat):∀ {l:List QT},Srt l->Srt (vGA c l)/\(∀ w,cf (vGA c l) w=cf l w * c)/\∀ r∈vGA c l,∃ p∈l,p.1=r.1
 | [],_=>⟨zGZ,fun w=>by simp[vGA,cf],fun r h=>by cases h⟩
 | t :: l,h=>by
   have h':=srt_cons.1 h;obtain⟨h1,h2,h3⟩:=zJ0 c h'.2.2;have e:vGA c (t::l)=nzq t.1 (t.2 * c)++vGA c l:=by simp[vGA]
   rw[e];refine⟨zF6 h1 fun r hr=>?_,fun w=>?_,fun r hr=>?_⟩
   .obtain⟨p,hp,h4⟩:=h3 r hr
    rw[<- h4]; exact h'.1 p hp
   .rw[zEB,zI1,h2]; simp only[cf]; grind
   .rcases rAY.1 hr with hr | hr
    .unfold nzq at hr; split at hr
     .cases hr
     .simp at hr; exact⟨t,zsm,by rw[hr]⟩
    .obtain⟨p,hp,h4⟩:=h3 r hr
     exact⟨p,by simp[hp],h4⟩
theorem uAI{f g:QF}(hf:Srt f.ts)(hg:Srt g.ts)(c:Rat):uK9 f (vES g c)=vB4 f g c:=by
 obtain⟨h1,h2⟩:=zF1 c _ f.ts g.ts (rAO _) hf hg;obtain⟨h3,h4,_⟩:=zJ0 c hg;obtain⟨h5,h6⟩:=zLJ (g:=vGA c g.ts) hf;unfold uK9 vB4 vES
 congr 1
 exact zN3 h5 h1 fun v=>by rw[h6,h4,h2]
def ev1(x:List Rat)(l:List QT)(y:Rat):Rat:=l.foldl (fun y t=>y+t.2 * x[t.1.toNat]!) y
def evQ(f:QF)(x:List Rat):Rat:=ev1 x f.ts f.c
def szF(k:Nat)(f:QF):Prop:=sz k f.c/\∀ p∈f.ts,sz k p.2
theorem zHI{j k:Nat}(h:j<=k){f:QF}(hf:szF j f):szF k f:=⟨zI6 h hf.1,fun p hp=>zI6 h (hf.2 p hp)⟩
theorem zL8{v:Int}{x:Rat}{r:QT}(h:r∈nzq v x):r=(v,x):=by
 unfold nzq at h; split at h
 .cases h
 .simpa using h
theorem zQG{c:Rat}{K:Nat}{kf kg kc:Nat}(hc:sz kc c)(hK:kf+(kg+kc)+1<=K):∀ (n:Nat) (a b:List QT),a.length+b.length<=n->(∀ p∈a,sz kf p.2)->(∀ p∈b,sz kg p.2)->∀ r∈mrg c a b,sz K r.2
 | n,[],[],_,_,_,r,h=>by rw[mrg]at h; cases h
 | 0,_::_,_,h,_,_,_,_=>by simp at h
 | 0,_,_::_,h,_,_,_,_=>by simp at h
 | n+1,p::a,[],hn,ha,hb,r,h=>by
   rw[mrg,rAY]at h;simp only[List.length_cons]at hn;rcases h with h | h
   .rw[zL8 h]; exact zI6 zom (ha p zsm)
   .exact zQG hc hK n a [] (by simp at hn ⊢; omega) (fun q hq=>ha q (by simp[hq])) hb r h
 | n+1,[],q::b,hn,ha,hb,r,h=>by
   rw[mrg,rAY]at h;simp only[List.length_cons]at hn;rcases h with h | h
   .rw[zL8 h]; exact zI6 zom (zFW (hb q zsm) hc)
   .exact zQG hc hK n [] b (by simp at hn ⊢; omega) ha (fun q hq=>hb q (by simp[hq])) r h
 | n + 1,p::a,q::b,hn,ha,hb,r,h=>by
   rw[mrg]at h;simp only[List.length_cons]at hn
   split at h
   .rcases rAY.1 h with h | h
    .rw[zL8 h]; exact zI6 zom (ha p zsm)
    .exact zQG hc hK n a (q::b) rAE (fun q hq=>ha q (by simp[hq])) hb r h
   .split at h
    .rcases rAY.1 h with h | h
     .rw[zL8 h]; exact zI6 zom (zFW (hb q zsm) hc)
     .exact zQG hc hK n (p::a) b rAE ha (fun q hq=>hb q (by simp[hq])) r h
    .rcases rAY.1 h with h | h
     .rw[zL8 h]; exact zI6 hK (zG9 (ha p zsm) (zFW (hb q zsm) hc))
     .exact zQG hc hK n a b zom (fun q hq=>ha q (by simp[hq])) (fun q hq=>hb q (by simp[hq])) r h
theorem zL7{c:Rat}:∀ (n:Nat) (a b:List QT),a.length+b.length<=n->(mrg c a b).length<=a.length+b.length
 | n,[],[],_=>by rw[mrg]; simp
 | 0,_::_,_,h=>by simp at h
 | 0,_,_::_,h=>by simp at h
 | n+1,p::a,[],hn=>by
   simp only[List.length_cons]at hn;have:=zL7 (c:=c) n a [] (by simp at hn ⊢; omega);have l:∀ v x,(nzq v x).length<=1:=fun v x=>by unfold nzq; split<;>simp
   have:=l p.1 p.2;rw[mrg,rAU]; simp at *; omega
 | n+1,[],q::b,hn=>by
   simp only[List.length_cons]at hn;have:=zL7 (c:=c) n [] b (by simp at hn ⊢; omega);have l:∀ v x,(nzq v x).length<=1:=fun v x=>by unfold nzq; split<;>simp
   have:=l q.1 (q.2 * c);rw[mrg,rAU]; simp at *; omega
 | n + 1,p::a,q::b,hn=>by
   simp only[List.length_cons]at hn;have l:∀ v x,(nzq v x).length<=1:=fun v x=>by unfold nzq; split<;>simp
   rw[mrg]
   split
   .have:=zL7 (c:=c) n a (q::b) rAE
    have:=l p.1 p.2;rw[rAU]; simp at *; omega
   .split
    .have:=zL7 (c:=c) n (p::a) b rAE
     have:=l q.1 (q.2 * c);rw[rAU]; simp at *; omega
    .have:=zL7 (c:=c) n a b zom
     have:=l p.1 (p.2+q.2 * c);rw[rAU]; simp at *; omega
theorem zKH{f g:QF}{c:Rat}{kf kg kc K:Nat}(hf:szF kf f)(hg:szF kg g)(hc:sz kc c)(hK:kf+(kg+kc)+1<=K):szF K (vB4 f g c) :=
 ⟨zI6 hK (zG9 hf.1 (zFW hg.1 hc)),zQG hc hK _ f.ts g.ts (rAO _) hf.2 hg.2⟩
theorem zQH{f g:QF}{c:Rat}:(vB4 f g c).ts.length<=f.ts.length+g.ts.length:=zL7 _ _ _ (rAO _)
theorem zBD{f g:QF}{c:Rat}(hf:Srt f.ts)(hg:Srt g.ts):Srt (vB4 f g c).ts:=(zF1 c _ f.ts g.ts (rAO _) hf hg).1
def zeroQ:QF:=⟨[],0⟩
theorem zEH(k:Nat)(hk:1<=k):szF k zeroQ:=by
 have:4294967296<=pw k:=zFT hk;exact⟨⟨by show(0:Nat)<_; omega,by show 1<_; omega⟩,fun p h=>by cases h⟩
theorem zFE{z:Int}(h:z.natAbs<4294967296):sz 1 (z:Rat):=⟨by simpa [zBB,zDK]using h,by simp[zBB,zDK]⟩
theorem zA9:vBP zeroQ=.agg [.imm [],.bool false,.imm [],.imm []]:=by unfold vBP zeroQ; rw[zOW]; rfl
structure QP where
 vars:Int
 rows:List QF
 obj:QF
 deriving Inhabited
def ProgL.Q(p:ProgL):QP:=⟨p.vars,p.rows.map AffL.Q,p.obj.Q⟩
theorem uO6{t:TermL}(h:t.coef=cr (qv t.coef)):tQ (t.var,qv t.coef)=t:=by unfold tQ; rw[<- h]
theorem uQX{f:AffL}{n:Int}(h:vB9 f n):f.Q.L=f:=by
 obtain⟨ts,c⟩:=f
 have h1:(ts.map fun t=>tQ (t.var,qv t.coef))=ts:=by
  refine rDA zsm fun i h1 h2=>?_
  have:=(h.1 i (by simpa using h1)).2.2.2.2;rw[rAS ts i h2]at this;simp only[rDF];exact uO6 this
 unfold QF.L AffL.Q;simp only[rB7];rw[show(tQ∘fun t:TermL=>(t.var,qv t.coef))=fun t=>tQ (t.var,qv t.coef) from rfl,h1,<- h.2]
theorem vNR{f:AffL}{n:Int}(h:vB9 f n):vBO f=vBP f.Q:=by rw[vH9,uQX h]
def okF(n:Int)(f:QF):Prop:=Srt f.ts/\∀ t∈f.ts,0<=t.1/\t.1<n
theorem zMR{f:AffL}{n:Int}(h:vB9 f n):okF n f.Q:=by
 have inc:∀ (d i:Nat),i+d+1<f.terms.length->f.terms[i]!.var<f.terms[i+d+1]!.var:=by
  intro d
  induction d with
  | zero=>intro i hi; exact(h.1 (i+1) hi).2.2.1 zom
  | succ d ih =>
    intro i hi;have h1:=ih i zom;have h2:=(h.1 (i+(d+1)+1) hi).2.2.1 zom;rw[show i+(d+1)+1 - 1=i+d+1 by omega]at h2;omega
 refine⟨⟨?_,fun p hp=>?_⟩,fun t ht=>?_⟩
 .unfold AffL.Q
  rw[List.pairwise_map,rGI];intro i j hi hj hij;have:=inc (j - i - 1) i zom;rw[show i+(j - i - 1)+1=j by omega,rAS f.terms i hi,rAS f.terms j hj]at this;exact this
 .unfold AffL.Q at hp
  obtain⟨t,ht,rfl⟩:=rA5.1 hp;obtain⟨i,hi,rfl⟩:=rBD ht;have:=(h.1 i hi).2.2.2.1
  rwa [rAS f.terms i hi]at this
 .unfold AffL.Q at ht
  obtain⟨t,ht',rfl⟩:=rA5.1 ht;obtain⟨i,hi,rfl⟩:=rBD ht';have:=h.1 i hi;rw[okT,rAS f.terms i hi]at this;exact⟨this.1,this.2.1⟩
theorem uA6{f:QF}{n:Int}(h:okF n f):vB9 f.L n:=by
 refine⟨fun i hi=>?_,by show cr f.c=cr (qv (cr f.c)); rw[zBV]⟩;have hi':i<f.ts.length:=by simpa [QF.L]using hi
 have e:f.L.terms[i]! = tQ f.ts[i]! := by
  rw[rAS f.L.terms i hi,rAS f.ts i hi']; simp[QF.L]
 have hm:f.ts[i]! ∈ f.ts:=by rw[rAS f.ts i hi']; exact rB3 hi'
 unfold okT;rw[e];refine⟨(h.2 _ hm).1,(h.2 _ hm).2,fun h0=>?_,?_,?_⟩
 .have hi2:i - 1<f.ts.length:=by omega
  have e2:f.L.terms[i - 1]! = tQ f.ts[i - 1]! := by
   rw[rAS f.L.terms (i - 1) zom,rAS f.ts (i - 1) hi2]; simp[QF.L]
  rw[e2,rAS f.ts i hi',rAS f.ts (i - 1) hi2];exact rGI.1 h.1.1 (i - 1) i hi2 hi' zom
 .show qv (cr f.ts[i]!.2)≠0
  rw[zBV]; exact h.1.2 _ hm
 .show cr _=cr (qv (cr _)); rw[zBV]
def QP.L(P:QP):ProgL:=⟨P.vars,P.rows.map QF.L,P.obj.L⟩
def uOR(l:List RatL):Prop:=∀ x∈l,x=cr (qv x)
instance (l:List RatL):Decidable (uOR l):=by unfold uOR; exact inferInstance
def uQL(y:RatL):Prop:=y=cr (qv y)/\y.neg=false
instance (y:RatL):Decidable (uQL y):=by unfold uQL; exact inferInstance
theorem vKA{k:Nat}{q:Rat}(h:sz k q):okQ k (cr q):=⟨zBE q,(zBM h).1,(zBM h).2⟩
theorem zC6{j k:Nat}(h:j<=k){r:RatL}(hr:okQ j r):okQ k r:=⟨hr.1,rBV hr.2.1 h,rBV hr.2.2 h⟩
theorem uDE{k:Nat}{f:QF}(h:szF k f)(hl:f.ts.length<=1048576):okA k f.L:=by
 refine⟨vKA h.1,fun t ht=>?_,by simpa [QF.L]using hl⟩;obtain⟨p,hp,rfl⟩:=rA5.1 ht;exact vKA (h.2 p hp)
def uP0(P:QP)(x:List Rat):Prop:=(x.length:Int)=P.vars/\∀ f∈P.rows,0<=evQ f x
instance (P:QP) (x:List Rat):Decidable (uP0 P x):=by unfold uP0; exact inferInstance
def uQW(f:QF)(x:List Rat):Rat:=evQ ⟨f.ts,0⟩ x
def uO4(P:QP)(x:List Rat):Prop:=(∀ f∈P.rows,0<=uQW f x)/\uQW P.obj x<0
instance (P:QP) (x:List Rat):Decidable (uO4 P x):=by unfold uO4; exact inferInstance
def uQI(P:QP)(pt ray:List RatL):Prop:=(uOR pt/\uP0 P (pt.map qv))/\(ray.length:Int)=P.vars/\uOR ray/\uO4 P (ray.map qv)
instance (P:QP) (pt ray:List RatL):Decidable (uQI P pt ray):=by unfold uQI; exact inferInstance
def smR(x:RatL):Prop:=x.num.length<=2/\x.den.length<=2/\x=cr (qv x)
instance (x:RatL):Decidable (smR x):=by unfold smR; exact inferInstance
def smF(f:AffL):Prop:=f.terms.length<=8/\smR f.const/\vB9 f 1048576/\∀ i,i<f.terms.length->smR f.terms[i]!.coef
def uON(l:List AffL)(m:Int):Prop:=(l.length:Int)<=m/\∀ i,i<l.length->smF l[i]!
noncomputable def dB(p:Prop):Bool:=@decide p (Classical.propDecidable _)
theorem dB_true{p:Prop}:dB p=true↔p:=by simp[dB]
theorem dB_false{p:Prop}:dB p=false↔¬ p:=by simp[dB]
theorem vYZ{p:Prop}(h:p):true=dB p:=(dB_true.2 h).symm
theorem zGV{p:Prop}(h:¬ p):false=dB p:=(dB_false.2 h).symm
instance:DecidableEq TermL:=fun a b=>decidable_of_iff (a.var=b.var/\a.coef=b.coef) (by cases a; cases b; simp)
instance:DecidableEq AffL:=fun a b=>decidable_of_iff (a.terms=b.terms/\a.const=b.const) (by cases a; cases b; simp)
structure RegL where
 lo:List RatL
 hi:List RatL
 rows:List AffL
 deriving Inhabited
def vGF(r:RegL):PV:=.agg [.imm (r.lo.map vA5),.imm (r.hi.map vA5),.imm (r.rows.map vBO)]
def vXM(k:Nat)(l:List RatL):Prop:=l.length<=1048576/\∀ x∈l,okQ k x
def vSR(k:Nat)(r:RegL):Prop:=vXM k r.lo/\vXM k r.hi/\(∀ f∈r.rows,okA k f)/\r.rows.length<=1048576
theorem zF8{j k:Nat}(h:j<=k){l:List RatL}(hl:vXM j l):vXM k l:=⟨hl.1,fun x hx=>zC6 h (hl.2 x hx)⟩
theorem zD8{k:Nat}{l:List RatL}(h:vXM k l){i:Nat}(hi:i<l.length):okQ k l[i]! := by
 rw[rAS l i hi]; exact h.2 _ (rB3 hi)
theorem zCQ{j k:Nat}(h:j<=k){f:AffL}(hf:okA j f):okA k f:=⟨zC6 h hf.1,fun t ht=>zC6 h (hf.2.1 t ht),hf.2.2⟩
theorem vPL{j k:Nat}(h:j<=k){r:RegL}(hr:vSR j r):vSR k r:=⟨zF8 h hr.1,zF8 h hr.2.1,fun f hf=>zCQ h (hr.2.2.1 f hf),hr.2.2.2⟩
def uLL(r:RegL)(i:Nat):Prop:=r.lo[i]! = cr (qv r.lo[i]!)/\r.hi[i]! = cr (qv r.hi[i]!)/\qv r.lo[i]! <= qv r.hi[i]!
def VaR(r:RegL)(n:Int):Prop:=(1<=n/\n<=256)/\(r.lo.length:Int)=n/\(r.hi.length:Int)=n/\r.rows.length<=256/\(∀ i,i<r.lo.length->uLL r i)/\∀ i,i<r.rows.length->vB9 r.rows[i]! n
structure QR where
 lo:List Rat
 hi:List Rat
 rows:List QF
 deriving Inhabited
def RegL.Q(r:RegL):QR:=⟨r.lo.map qv,r.hi.map qv,r.rows.map AffL.Q⟩
def QR.L(r:QR):RegL:=⟨r.lo.map cr,r.hi.map cr,r.rows.map QF.L⟩
def uQN(a b:Rat):Rat:=if b<=a then a else b
theorem sgn_le{a b:Rat}:vDN (a - b)<=0↔a<=b:=by
 have:=sgnQ_pos (q:=a - b);constructor
 .intro h; exact rFY.1 fun e=>by have:=this.2 (by grind); omega
 .intro h; exact Int.not_lt.1 fun e=>by have:=this.1 e; grind
def uJB(k:Nat)(l:List AffL):Prop:=l.length<=1048576/\∀ f∈l,okA k f
theorem vQ8{ρ:Nat->Nat}{k:Nat}{t:Tm}{j:Nat}{fn:Fn}{c:PV}{o:Nat}(h:t j=.func fn [] [.cptr c o]):at' ρ k t j (.func fn [] [.cptr c o]):=by unfold at'; rw[h]; exact⟨rfl,rGW,rfl,rGW⟩
theorem zHQ(w n:Nat):(BitVec.ofInt w (n:Int)).toNat=n % 2 ^ w:=by simp
theorem vLF{a b i:Nat}(hb:b<2 ^ i)(h:2 ^ i * a+b<18446744073709551616):vF3 .or .u64 ((2 ^ i * a:Nat):Int) (b:Int)=((2 ^ i * a+b:Nat):Int):=by
 rw[zE5]; unfold vEZ;dsimp only;have e1:(BitVec.ofInt (IntKind.bits .u64) ((2 ^ i * a:Nat):Int)).toNat=2 ^ i * a:=by rw[zHQ]; exact rCQ (by show _<2 ^ 64; omega)
 have e2:(BitVec.ofInt (IntKind.bits .u64) (b:Int)).toNat=b:=by rw[zHQ]; exact rCQ (by show _<2 ^ 64; omega)
 rw[BitVec.toNat_or,e1,e2,<- rF8 hb,wrap64];omega
theorem zMK{a b i:Nat}(hb:b<2 ^ i)(h:2 ^ i * a+b<18446744073709551616):vF3 .or .u64 (b:Int) ((2 ^ i * a:Nat):Int)=((2 ^ i * a+b:Nat):Int):=by
 rw[<- vLF hb h];rw[zE5]; unfold vEZ;dsimp only;rw[BitVec.or_comm]
theorem vLG{a b i:Nat}(hb:b<2 ^ i)(h:2 ^ i * a+b<4294967296):vF3 .or .u32 ((2 ^ i * a:Nat):Int) (b:Int)=((2 ^ i * a+b:Nat):Int):=by
 rw[zE5]; unfold vEZ;dsimp only;have e1:(BitVec.ofInt (IntKind.bits .u32) ((2 ^ i * a:Nat):Int)).toNat=2 ^ i * a:=by rw[zHQ]; exact rCQ (by show _<2 ^ 32; omega)
 have e2:(BitVec.ofInt (IntKind.bits .u32) (b:Int)).toNat=b:=by rw[zHQ]; exact rCQ (by show _<2 ^ 32; omega)
 rw[BitVec.toNat_or,e1,e2,<- rF8 hb,wrap32];omega
theorem vTD{a b i:Nat}(hb:b<2 ^ i)(h:2 ^ i * a+b<4294967296):vF3 .or .u32 (b:Int) ((2 ^ i * a:Nat):Int)=((2 ^ i * a+b:Nat):Int):=by
 rw[<- vLG hb h];rw[zE5]; unfold vEZ;dsimp only;rw[BitVec.or_comm]
theorem vHJ{x y:Int}(hx:0<=x/\x<4294967296)(hy:0<=y/\y<4294967296):vF3 .or .u64 (x * vEM .u64 32) y=x * 4294967296+y:=by
 have h:=vLF (a:=x.toNat) (b:=y.toNat) (i:=32) zom zom;rw[zG0];have e1:((2 ^ 32 * x.toNat:Nat):Int)=x * 4294967296:=by omega
 have e2:((y.toNat:Nat):Int)=y:=by omega
 rw[e1,e2]at h;rw[h];omega
theorem vHI{x y:Int}(hx:0<=x/\x<4294967296)(hy:0<=y/\y<4294967296):vF3 .or .u64 y (x * vEM .u64 32)=x * 4294967296+y:=by
 have h:=zMK (a:=x.toNat) (b:=y.toNat) (i:=32) zom zom;rw[zG0];have e1:((2 ^ 32 * x.toNat:Nat):Int)=x * 4294967296:=by omega
 have e2:((y.toNat:Nat):Int)=y:=by omega
 rw[e1,e2]at h;rw[h];omega
theorem uMP{X h k:Nat}(hk:k<32)(hh:h<2 ^ k):vF3 .or .u32 (h:Int) ((X * 2 ^ k % 4294967296:Nat):Int)=((X * 2 ^ k % 4294967296+h:Nat):Int)/\X * 2 ^ k % 4294967296+h<4294967296:=by
 have e:X * 2 ^ k % 4294967296=2 ^ k * (X % 2 ^ (32 - k)):=by
  rw[rBN,show 4294967296=2 ^ k * 2 ^ (32 - k) by rw[<- rDJ,show k+(32 - k)=32 by omega],Nat.mul_mod_mul_left]
 have hlt:2 ^ k * (X % 2 ^ (32 - k))+h<4294967296:=by
  have h1:X % 2 ^ (32 - k)<2 ^ (32 - k):=rDN _ (rEC zdd);have h2:2 ^ k * (X % 2 ^ (32 - k)+1)<=2 ^ k * 2 ^ (32 - k):=rBM _ h1;rw[<- rDJ,show k+(32 - k)=32 by omega,rBA,rFH]at h2;omega
 rw[e];exact⟨vTD hh hlt,hlt⟩
theorem uJC{α:Type}[Inhabited α]{f:α->PV}{l:List α}{i k:Nat}{x:α}(j:Nat){K:PV->Prop}(e:k=j)(h:j<l.length)(hne:i≠j)(q:K (f l[j]!)):oK (nth ((l.map f).set i (f x)) k) K:=by
 subst e;refine zKC ?_ q;rw[zD9,List.getElem?_set_ne hne,rBR,rAR h,rAS l k h];rfl
theorem uBJ{k:Nat}(hk:k<32)(a b T:Nat)(ha:a<4294967296):(a+4294967296 * (b+4294967296 * T)) / 2 ^ k=(a+4294967296 * b) / 2 ^ k % 4294967296+4294967296 * ((b+4294967296 * T) / 2 ^ k):=by
 obtain⟨P,eP⟩:∃ P,2 ^ k=P:=⟨_,rfl⟩;obtain⟨Q,eQ⟩:∃ Q,2 ^ (32 - k)=Q:=⟨_,rfl⟩;have hB:P * Q=4294967296:=by rw[<- eP,<- eQ,<- rDJ,show k+(32 - k)=32 by omega]
 have hP:0<P:=eP ▸ rEC zdd;have hQ:0<Q:=eQ ▸ rEC zdd;rw[eP,<- hB];have d1:∀ N,(a+P * Q * N) / P=a / P+Q * N:=fun N=>by rw[rBQ,rEX _ _ hP]
 rw[d1,d1];have haQ:a / P<Q:=rFM (by rw[hB]; exact ha);obtain⟨N,eN⟩:∃ N,b+P * Q * T=N:=⟨_,rfl⟩;rw[eN];have hbm:N % P=b % P:=by rw[<- eN,rBQ,rFD]
 have h1:Q * N=P * Q * (N / P)+Q * (b % P):=by
  conv=>lhs; rw[<- rEK N P]
  rw[rBA,hbm,<- rBQ,rBN Q P]
 have h2:Q * b=P * Q * (b / P)+Q * (b % P):=by
  conv=>lhs; rw[<- rEK b P]
  rw[rBA,<- rBQ,rBN Q P]
 have h3:(a / P+Q * b) % (P * Q)=a / P+Q * (b % P):=by
  rw[h2,show a / P+(P * Q * (b / P)+Q * (b % P))=a / P+Q * (b % P)+P * Q * (b / P) by omega,rFD];refine rCQ ?_;have:Q * (b % P+1)<=Q * P:=rBM _ (rDN _ hP);rw[rBA,rFH,rBN Q P]at this;omega
 rw[h3,h1];omega
def vEJ:Nat->Nat->List Int
 | 0,_=>[]
 | k+1,n=>((n % 4294967296:Nat):Int)::vEJ k (n / 4294967296)
theorem zHW:∀ k n,(vEJ k n).length=k
 | 0,_=>rfl
 | k+1,n=>by simp[vEJ,zHW k]
theorem vHW:∀ k n,okN (vEJ k n)
 | 0,_=>zEC
 | k+1,n=>okN_cons.2 ⟨zom,vHW k _⟩
theorem vHQ:∀ k n,n<pw k->nv (vEJ k n)=n
 | 0,n,h=>by simp[zDK]at h; simp[vEJ,nv,h]
 | k+1,n,h=>by
   rw[zBB]at h;rw[vEJ,nv,vHQ k _ zom];omega
theorem zNL:∀ {xs:List Int},okN xs->vEJ xs.length (nv xs)=xs
 | [],_=>rfl
 | x::xs,h=>by
   have h1:=(okN_cons.1 h).1;have e1:nv (x::xs) % 4294967296=x.toNat:=by rw[nv]; omega
   have e2:nv (x::xs) / 4294967296=nv xs:=by rw[nv]; omega
   rw[List.length_cons,vEJ,e1,e2,zNL (okN_cons.1 h).2]
   congr 1
   omega
def blF:Nat->Nat->Nat
 | 0,_=>0
 | f+1,n=>if n=0 then 0 else blF f (n / 2)+1
def bl(n:Nat):Nat:=blF 64 n
theorem vQ6:∀ (f g n:Nat),n<2 ^ f->n<2 ^ g->blF f n=blF g n
 | 0,g,n,h,_=>by
   obtain rfl:n=0:=by simp at h; exact h
   cases g<;>simp[blF]
 | f+1,0,n,_,h=>by
   obtain rfl:n=0:=by simp at h; exact h
   simp[blF]
 | f+1,g+1,n,h1,h2=>by
   simp only[blF]
   split
   .rfl
   .rw[vQ6 f g _ (by rw[Nat.pow_succ]at h1; omega) (by rw[Nat.pow_succ]at h2; omega)]
theorem vIO:bl 0=0:=rfl
theorem zGE{n:Nat}(h:n≠0)(hb:n<2 ^ 64):bl n=bl (n / 2)+1:=by
 unfold bl;rw[blF,rAN h,vQ6 63 64 _ zom zom]
theorem zCP:∀ (f n:Nat),n<2 ^ f->f<=64->n<2 ^ bl n/\(n≠0->2 ^ bl n<=2 * n)/\bl n<=f
 | 0,n,h,_=>by
   obtain rfl:n=0:=by simp at h; exact h
   simp[vIO]
 | f + 1,n,h,hf=>by
   by_cases h0:n=0
   .subst h0; simp[vIO]
   .have hb:n<2 ^ 64:=rA4 h (rEW zdd hf)
    obtain⟨i1,i2,i3⟩:=zCP f (n / 2) (by rw[Nat.pow_succ]at h; omega) zom;rw[zGE h0 hb,Nat.pow_succ];refine⟨zom,fun _=>?_,zom⟩;by_cases h1:n / 2=0
    .rw[h1,vIO]; simp; omega
    .have:=i2 h1; omega
theorem vQ5{n:Nat}(h:256<=n)(hb:n<2 ^ 64):bl n=bl (n / 256)+8:=by
 rw[zGE zom hb,zGE (n:=n / 2) zom zom,zGE (n:=n / 2 / 2) zom zom,zGE (n:=n / 2 / 2 / 2) zom zom,zGE (n:=n / 2 / 2 / 2 / 2) zom zom,zGE (n:=n / 2 / 2 / 2 / 2 / 2) zom zom,zGE (n:=n / 2 / 2 / 2 / 2 / 2 / 2) zom zom,zGE (n:=n / 2 / 2 / 2 / 2 / 2 / 2 / 2) zom zom];rw[show n / 2 / 2 / 2 / 2 / 2 / 2 / 2 / 2=n / 256 by omega]
theorem vQ4{n:Nat}(h:65536<=n)(hb:n<2 ^ 64):bl n=bl (n / 65536)+16:=by
 rw[vQ5 zom hb,vQ5 (n:=n / 256) zom zom,show n / 256 / 256=n / 65536 by omega]
theorem vPO{S:ByteArray}(hS:(List.range 256).all (fun m=>match S[m]? with | some b=>b.toNat == bl m | none=>false)=true){i:Int}{n:Nat}(e:i=(n:Int))(hn:n<256){K:UInt8->Prop}(k:∀ b:UInt8,b.toNat=bl n->K b):oK (S[i.toNat]?) K:=by
 subst e;rw[rBF]at hS;have:=hS n (List.mem_range.2 hn);rw[Int.toNat_natCast]
 split at this
 .rename_i b hb
  exact zKC hb (k b (by simpa using this))
 .cases this
theorem zKU{a:Int}{k:IntKind}{b:Int}{j:Nat}(h:min b.toNat k.bits=j):a.fdiv (vEM k b)=a / 2 ^ j:=by
 rw[zJW]; unfold vF9;rw[h,rD6 _ (Int.le_of_lt (Int.pow_pos zdd))]
theorem uOY(n:Int):IntKind.wrap .u8 n=n % 256:=by simp[IntKind.wrap,IntKind.signed,IntKind.bits]
theorem uB0{n:Int}{K:Int->Prop}(h:K (n % 256)):ov .u8 n K:=vRZ (uOY n) h
theorem vO9(k:Nat):pw k=2 ^ (32 * k):=by unfold pw; rw[Nat.pow_mul]
theorem vKC{xs:List Int}(h:okN xs)(j:Nat):nv xs / pw j=nt xs j:=by
 rw[zCS xs j,rEX _ _ (zMP j),rDU (zPM h j),rC8]
theorem uOC{xs:List Int}(h:okN xs)(i:Nat):nv xs / 2 ^ i % 2=lb xs (i / 32) / 2 ^ (i % 32) % 2:=by
 have e:i=32 * (i / 32)+i % 32:=by omega
 conv=>lhs; rw[e]
 rw[rDJ,<- rGV,<- vO9,vKC h,zDD h];have hs:i % 32<32:=rDN _ zdd;generalize i % 32=s at *
 obtain⟨r,hr⟩:∃ r,32=s+(r+1):=⟨31 - s,zom⟩
 have e2:(4294967296:Nat)=2 ^ s * (2 ^ r * 2):=by
  rw[<- Nat.pow_succ,<- rDJ,<- hr]
 generalize nt xs (i / 32+1)=T;rw[show 4294967296 * T=2 ^ s * ((2 ^ r * T) * 2) by rw[e2,rBQ,rBQ,rBN 2 T,rBQ],rEX _ _ (rEC zdd)];omega
theorem uDN{xs:List Int}(h:okN xs){i q:Nat}(e:nv xs=2 ^ (i+1) * q):∃ c,lb xs (i / 32)=2 ^ (i % 32+1) * c:=by
 have e1:=vKC h (i / 32);have e0:i+1=32 * (i / 32)+(i % 32+1):=by omega
 rw[e,e0,rDJ,<- vO9,rBQ,rGQ _ (zMP _),zDD h]at e1;have hs:i % 32+1<=32:=by omega
 generalize i % 32+1=s at *
 obtain⟨r,hr⟩:∃ r,32=s+r:=⟨32 - s,zom⟩;have e2:(4294967296:Nat)=2 ^ s * 2 ^ r:=by rw[<- rDJ,<- hr]
 have hlt:=zC2 h (i / 32);generalize nt xs (i / 32+1)=T at *
 generalize lb xs (i / 32)=L at *
 rw[show 4294967296 * T=2 ^ s * (2 ^ r * T) by rw[e2,rBQ]]at e1;have:2 ^ s ∣ L:=(Nat.dvd_add_left (Nat.dvd_mul_right (2 ^ s) (2 ^ r * T))).1 ⟨q,e1.symm⟩;exact this
theorem uJK{s c:Nat}(hs:s<32)(h:2 ^ (s+1) * c<4294967296):vF3 .or .u32 ((2 ^ (s+1) * c:Nat):Int) ((2 ^ s:Nat):Int)=((2 ^ (s+1) * c+2 ^ s:Nat):Int)/\2 ^ (s+1) * c+2 ^ s<4294967296:=by
 have e:2 ^ s<2 ^ (s+1):=Nat.pow_lt_pow_right zdd zom
 have hb:2 ^ (s+1) * c+2 ^ s<4294967296:=by
  obtain⟨r,hr⟩:∃ r,32=(s+1)+r:=⟨31 - s,zom⟩;have e2:(4294967296:Nat)=2 ^ (s+1) * 2 ^ r:=by rw[<- rDJ,<- hr]
  rw[e2]at h ⊢;have hc:=rCT h;have:=rBM (2 ^ (s+1)) (show c+1<=2 ^ r by omega);rw[rBA]at this;omega
 exact⟨vLG e hb,hb⟩
theorem vOO{b:Int}(h:0<=b/\b<32):vEM .u32 b=2 ^ b.toNat:=by
 rw[zJW]; unfold vF9;have:min b.toNat (IntKind.bits .u32)=b.toNat:=by show min b.toNat 32=_; omega
 rw[this]
theorem vZ9{n:Nat}(h:n<4294967296):vF3 .and .u32 (n:Int) 1=((n % 2:Nat):Int):=by
 rw[zE5]; unfold vEZ;dsimp only;have e1:(BitVec.ofInt (IntKind.bits .u32) (n:Int)).toNat=n:=by rw[zHQ]; exact rCQ (by show _<2 ^ 32; omega)
 have e2:(BitVec.ofInt (IntKind.bits .u32) (1:Int)).toNat=1:=by rfl
 rw[BitVec.toNat_and,e1,e2,Nat.and_one_is_mod,wrap32];omega
theorem zHH{k:Nat}{f:AffL}(h:okA k f)(hk:1<=k):szF k f.Q:=by
 refine⟨vI8 h.1.1 h.1.2.1 h.1.2.2 hk,fun p hp=>?_⟩;unfold AffL.Q at hp;obtain⟨t,ht,rfl⟩:=rA5.1 hp;have:=h.2.1 t ht;exact vI8 this.1 this.2.1 this.2.2 hk
theorem uOI(f:AffL):f.Q.ts.length=f.terms.length:=by simp[AffL.Q]
theorem vT7{j k:Nat}{p q:Rat}(h1:sz j p)(h2:sz k q):sz (j+k+1) (p - q):=by
 have:sz k (-q):=⟨by simpa using h2.1,by simpa using h2.2⟩;rw[rE8]; exact zG9 h1 this
def nx1(l:List Int)(a n:Nat):Nat:=if a<l.length then l[a]!.toNat % n else 0
def nx2(l:List Int)(a:Nat):Nat:=if a<l.length then a+1 else a
def vCR(v:Int):QF:=⟨[(v,1)],0⟩
theorem uA5(v:Int):Srt (vCR v).ts:=by
 rw[show(vCR v).ts=(v,1)::[] from rfl,srt_cons];exact⟨fun q hq=>(by cases hq),(show(1:Rat)≠0 by decide +kernel),zGZ⟩
theorem zDX(v:Int):szF 1 (vCR v):=by
 refine⟨(zEH 1 zdd).1,fun p hp=>?_⟩;have e:p=(v,1):=rBL.1 hp;rw[e];exact zFE (z:=1) zdd
open Go
mutual
def vIM{H:Type}:DataW H->Nat
 | .lit (.string bytes)=>bytes.length+1
 | .lit _=>1
 | .nil=>1
 | .ptr d=>vIM d+1
 | .slice elems spare=>vC1 elems+vC1 spare+1
 | .agg parts=>vC1 parts+1
 | .iface _ d=>vIM d+1
 | .map entries=>vD5 entries+1
 | .held _=>1
def vC1{H:Type}:List (DataW H)->Nat
 | []=>0
 | d::r=>vIM d+vC1 r
def vD5{H:Type}:List (Lit×DataW H)->Nat
 | []=>0
 | x::r=>vF1 x+vD5 r
def vF1{H:Type}:Lit×DataW H->Nat
 | (.string bytes,d)=>bytes.length+vIM d+1
 | (_,d)=>vIM d+1
end
def RC(w:World)(A:Nat->Prop)(ds:List PV)(cs:List Value):Prop:=ds.length=cs.length/\∀ i d,ds[i]?=some d->RD w A d (cs.getD i undef)/\(cs.getD i undef).oneCell'=true
abbrev vOB(w:World):Nat->Prop:=fun b=>b<w.heap.size
section
variable {H:Type} {enc:TypeId×Value->H} {P:Program} {w:World} {A:Nat->Prop}
theorem RC.one{d:PV}{v:Value}(h:RD w A d v)(h1:v.oneCell'=true):RC w A [d] [v]:=⟨rfl,fun i x hx=>by
 cases i with
 | zero=>simp at hx; subst hx; exact⟨h,h1⟩
 | succ i=>simp at hx⟩
theorem zPN{α:Type}(l:List α)(o n i:Nat)(x:α)(h:i<n):((l.drop o).take n).getD i x=l.getD (o+i) x:=by
 simp only[rCE,rFU,h,rCI,rCR]
theorem getD_drop{α:Type}(l:List α)(o i:Nat)(x:α):(l.drop o).getD i x=l.getD (o+i) x:=by
 simp only[rCE,rCR]
theorem RC.step{a b:List PV}{cs:List Value}{o n o':Nat}(h1:RC w A a ((cs.drop o).take n))(ho:o'=o+n)(hn:n<=cs.length - o)(h2:RC w A b (cs.drop o')):RC w A (a++b) (cs.drop o):=by
 subst ho;have e1:=h1.1;have e2:=h2.1;rw[rBX,rCK]at e1;rw[rCK]at e2;refine⟨by rw[rAU,rCK]; omega,fun i d hd=>?_⟩;by_cases hi:i<a.length
 .rw[rBY hi]at hd
  have:=h1.2 i d hd;rw[zPN _ _ _ _ _ zom]at this;rw[getD_drop];exact this
 .rw[rBZ zom]at hd
  have:=h2.2 _ d hd;rw[getD_drop]at this ⊢;rw[show o+n+(i - a.length)=o+i by omega]at this;exact this
theorem RC.last{a:List PV}{cs:List Value}{o n:Nat}(h1:RC w A a ((cs.drop o).take n))(ho:cs.length - o<=n):RC w A a (cs.drop o):=by
 rw[rBO (by rw[rCK]; exact ho)]at h1;exact h1
theorem vRC(b o n:Nat):(⟨b,o,none⟩:Addr).add n=⟨b,o+n,none⟩:=by
 unfold Addr.add
 split
 .rename_i h; subst h; rfl
 .rfl
theorem cell_spot{w:World}{a:Addr}{v:Value}(h:w.cell? a=some v):a.spot=none:=by
 unfold World.cell? at h
 split at h
 .split at h
  .cases h
  .rename_i hs; simpa using hs
 .cases h
def Reads{α:Type}(enc:TypeId×Value->H)(P:Program)(w:World)(n:Nat)(t:TypeId)(e:α->List PV)(Q:α->Nat->Prop):Prop :=
 ∀ fuel,fuel<=n->∀ cs (d:DataW H) ps,DataW.trod enc P w 0 (fun _=>true) true fuel t cs=some (d,ps)->∃ x:α,RC w (vOB w) (e x) cs/\Q x (vIM d)
theorem Reads.mono{α:Type}{n:Nat}{t:TypeId}{e:α->List PV}{Q Q':α->Nat->Prop}(h:Reads enc P w n t e Q)(hq:∀ x B,Q x B->Q' x B):Reads enc P w n t e Q':=fun fuel hf cs d ps hd=>let ⟨x,h1,h2⟩:=h fuel hf cs d ps hd; ⟨x,h1,hq _ _ h2⟩
theorem zDO{n:Nat}{t:TypeId}{k:IntKind}(ht:P.underlying t=some (.int k)):Reads enc P w n t (fun x:Int=>[.int k x]) (fun x B=>(Lit.int k x).wf=true/\1<=B):=by
 intro fuel _ cs d ps h;obtain⟨x,rfl,he,hw⟩:=DataW.trod_int ht h;cases he
 exact⟨x,RC.one (.int k x) rfl,hw,rAO _⟩
theorem zLX{n:Nat}{t:TypeId}(ht:P.underlying t=some .bool):Reads enc P w n t (fun x:Bool=>[.bool x]) (fun _ B=>1<=B):=by
 intro fuel _ cs d ps h;obtain⟨x,rfl,he⟩:=DataW.trod_bool ht h;cases he
 exact⟨x,RC.one (.bool x) rfl,rAO _⟩
def QL{α:Type}(Q:α->Nat->Prop):List α->Nat->Prop
 | [],B=>1<=B
 | x::xs,B=>∃ b c,Q x b/\QL Q xs c/\b+c<=B
theorem QL.mono{α:Type}{Q:α->Nat->Prop}:∀ {xs:List α} {B C:Nat},QL Q xs B->B<=C->QL Q xs C
 | [],_,_,h,hc=>rBV h hc
 | _::_,_,_,⟨b,c,h1,h2,h3⟩,hc=>⟨b,c,h1,h2,rBV h3 hc⟩
theorem QL.mem{α:Type}{Q:α->Nat->Prop}:∀ {xs:List α} {B:Nat},QL Q xs B->∀ x∈xs,∃ b,Q x b/\b<=B
 | x::xs,B,⟨b,c,h1,h2,h3⟩,y,hy=>by
   rcases rA7.1 hy with rfl | hy
   .exact⟨b,h1,zom⟩
   .obtain⟨b',h4,h5⟩:=QL.mem h2 y hy; exact⟨b',h4,zom⟩
theorem QL.len{α:Type}{Q:α->Nat->Prop}(hq:∀ x b,Q x b->1<=b):∀ {xs:List α} {B:Nat},QL Q xs B->xs.length<B
 | [],_,h=>h
 | x::xs,B,⟨b,c,h1,h2,h3⟩=>by have:=QL.len hq h2; have:=hq _ _ h1; simp; omega
theorem QL.sum{α:Type}{Q:α->Nat->Prop}{f:α->Nat}(hq:∀ x b,Q x b->f x<=b):∀ {xs:List α} {B:Nat},QL Q xs B->(xs.map f).sum<B
 | [],_,h=>h
 | x::xs,B,⟨b,c,h1,h2,h3⟩=>by have:=QL.sum hq h2; have:=hq _ _ h1; simp; omega
theorem zDY {α:Type} {n:Nat} {t e:TypeId} {sz:Nat} {ec:α->List PV} {pack:α->PV} {Q:α->Nat->Prop} (ht:P.underlying t=some (.slice e)) (hc:P.cellsOf e=sz) (hz:sz≠0)
 (hpk:∀ x,(pack x).cells=ec x/\(ec x).length=sz) (hE:Reads enc P w n e ec Q):Reads enc P w (n+1) t (fun xs:List α=>[.imm (xs.map pack)]) (QL Q):=by
 intro fuel hf cs d ps h;rcases DataW.trod_slice ht h with⟨rfl,he⟩ | ⟨a,len,cap,elems,rest,m,rfl,rfl,he,hb,hl,hm,hlen,hel,hsp,hns⟩
 .cases he
  exact⟨[],RC.one (.imm0 none 0) rfl,rAO _⟩
 .cases he
  subst hc
  have each:∀ i y,elems[i]?=some y->∃ x:α,∃ cs',w.cells? 0 (a.add (i * P.cellsOf e)) (P.cellsOf e)=some cs'/\RC w (vOB w) (ec x) cs'/\Q x (vIM y.1):=by
   intro i y hy;have hi:i<len:=by have:=(rAP.1 hy).1; omega
   have:=hel i hi;rw[hy,rGP]at this;obtain⟨cs',h1,h2⟩:=this;obtain⟨x,h3,h4⟩:=hE m zom cs' y.1 y.2 h2;exact⟨x,cs',h1,h3,h4⟩
  have all:∃ xs:List α,xs.length=elems.length/\(∀ i x,xs[i]?=some x->∃ cs',w.cells? 0 (a.add (i * P.cellsOf e)) (P.cellsOf e)=some cs'/\RC w (vOB w) (ec x) cs')/\QL Q xs (vC1 (elems.map (·.1))+1):=by
   clear hel hsp hns h
   have gen:∀ (l:List (DataW H×List MemPlace)) (k:Nat),(∀ i y,l[i]?=some y->∃ x:α,∃ cs',w.cells? 0 (a.add ((k+i) * P.cellsOf e)) (P.cellsOf e)=some cs'/\RC w (vOB w) (ec x) cs'/\Q x (vIM y.1)) ->
    ∃ xs:List α,xs.length=l.length/\(∀ i x,xs[i]?=some x->∃ cs',w.cells? 0 (a.add ((k+i) * P.cellsOf e)) (P.cellsOf e)=some cs'/\RC w (vOB w) (ec x) cs')/\QL Q xs (vC1 (l.map (·.1))+1):=by
    intro l
    induction l with
    | nil=>intro k _; exact⟨[],rfl,fun i x hx=>by simp at hx,by simp[QL,vC1]⟩
    | cons y l ih =>
      intro k hk;obtain⟨x,cs',g1,g2,g3⟩:=hk 0 y rfl
      obtain⟨xs,f1,f2,f3⟩:=ih (k+1) (fun i z hz=>by
       have:=hk (i+1) z (by simpa using hz)
       rwa [show k+(i+1)=k+1+i by omega]at this)
      refine⟨x::xs,by simp[f1],fun i z hz=>?_,⟨_,_,g3,f3,by simp[vC1]; omega⟩⟩;cases i with
      | zero=>simp at hz; subst hz; exact⟨cs',g1,g2⟩
      | succ i =>
        have:=f2 i z (by simpa using hz)
        rwa [show k+1+i=k+(i+1) by omega]at this
   have:=gen elems 0 (fun i y hy=>by rw[rC8]; exact each i y hy)
   simpa using this
  obtain⟨xs,hx1,hx2,hx3⟩:=all;refine⟨xs,RC.one ?_ rfl,hx3.mono (by simp only[vIM]; omega)⟩;by_cases h0:len=0
  .have:xs=[]:=rA2.1 zom
   subst this;subst h0;exact .imm0 (some a) cap
  .have hlt:0<xs.length:=by omega
   have ha:a.spot=none:=by
    obtain⟨cs',g1,_,_⟩:=hx2 0 xs[0] (rAR hlt);obtain⟨_,q1,q2⟩:=World.cells?_some g1;have hc2:=q2 0 zom
    have hv:cs'[0]?=some (cs'.getD 0 undef):=by
     rw[rCE,rAR zom]; rfl
    rw[hv]at hc2;have e1:(a.add (0 * P.cellsOf e)).add 0=a:=by unfold Addr.add; simp
    rw[e1]at hc2;exact cell_spot hc2
   obtain⟨ab,ao,as⟩:=a;dsimp only at ha;subst ha
   have cellat:∀ i x,xs[i]?=some x->∀ c,c<P.cellsOf e->∃ v,w.cell? ⟨ab,ao+i * P.cellsOf e+c,none⟩=some v/\v.oneCell'=true/\(∀ d,(pack x).cells[c]?=some d->RD w (vOB w) d v):=by
    intro i x hx c hcz;obtain⟨cs',g1,g2,g3⟩:=hx2 i x hx;obtain⟨_,q1,q2⟩:=World.cells?_some g1;have hc2:=q2 c zom
    have hv:cs'[c]?=some (cs'.getD c undef):=by
     rw[rCE,rAR zom]; rfl
    rw[hv,vRC,vRC]at hc2;have hcd:=(hpk x);have hlx:c<(ec x).length:=by omega
    have g4:=g3 c _ (rAR hlx);refine⟨_,hc2,g4.2,fun d hd=>?_⟩;rw[hcd.1]at hd;exact(g3 c d hd).1
   obtain⟨v0,hv0,_,_⟩:=cellat 0 xs[0] (rAR hlt) 0 zom
   have hA:ab<w.heap.size:=by
    simp only[World.cell?]at hv0;by_cases hb2:ab<w.heap.size
    .exact hb2
    .rw[rCS zom]at hv0; simp at hv0
   have := RD.imm (w:=w) (A:=vOB w) (xs.map pack) (P.cellsOf e) ab ao cap
    (fun i c=>(w.cell? ⟨ab,ao+i * P.cellsOf e+c,none⟩).getD undef) hA rAE
    (fun d hd=>by obtain⟨x,_,rfl⟩:=rA5.1 hd; rw[(hpk x).1,(hpk x).2])
    (fun i c hi hc=>by
      rw[rAM]at hi;obtain⟨v,h1,h2,_⟩:=cellat i xs[i] (rAR hi) c hc
      rw[h1]; exact⟨rfl,h2⟩)
    (fun i d hd c d' hd'=>by
      rw[rBR]at hd;cases hx:xs[i]? with
      | none=>rw[hx]at hd; cases hd
      | some x =>
        rw[hx]at hd;cases hd
        have hcz:c<P.cellsOf e:=by
         have:=(rAP.1 hd').1;rw[(hpk x).1,(hpk x).2]at this; exact this
        obtain⟨v,h1,h2,h3⟩:=cellat i x hx c hcz
        rw[h1]; exact h3 d' hd')
   rw[rAM,hx1,hlen]at this;exact this
def vRD{α:Type}(enc:TypeId×Value->H)(P:Program)(w:World)(n:Nat)(tot:Nat)(fs:List Field)(o:Nat)(e:α->List PV)(Q:α->Nat->Prop):Prop :=
 ∀ m,m<=n->∀ (cs:List Value) (xs:List (DataW H×List MemPlace)),cs.length=tot->xs.length=fs.length ->
   (∀ (i:Nat) (f:Field),fs[i]?=some f->DataW.trod enc P w 0 (fun _=>true) true m f.type ((cs.drop f.offset).take (P.cellsOf f.type))=xs[i]?) ->
   ∃ x:α,RC w (vOB w) (e x) (cs.drop o)/\Q x (vC1 (xs.map (·.1)))
theorem zCN{n tot o:Nat}(h:tot<=o):vRD enc P w n tot [] o (fun _:Unit=>[]) (fun _ _=>True):=by
 intro m _ cs xs hc _ _;exact⟨(),⟨by rw[rCK]; simp; omega,fun i d hd=>by simp at hd⟩,rGW⟩
theorem zAU{α β:Type}{n tot o k:Nat}{f:Field}{fs:List Field}{e1:α->List PV}{e2:β->List PV}{Q1:α->Nat->Prop}{Q2:β->Nat->Prop}(ho:f.offset=o)(hk:P.cellsOf f.type=k)(hle:o+k<=tot)
 (h1:Reads enc P w n f.type e1 Q1) (h2:vRD enc P w n tot fs (o+k) e2 Q2) :
 vRD enc P w n tot (f::fs) o (fun x:α×β=>e1 x.1++e2 x.2) (fun x B=>∃ b c,Q1 x.1 b/\Q2 x.2 c/\b+c<=B):=by
 intro m hm cs xs hc hx hf
 match xs,hx with
 | y::ys,hx =>
   have h0:=hf 0 f rfl;rw[ho,hk]at h0;obtain⟨x,g1,g2⟩:=h1 m hm _ y.1 y.2 h0;obtain⟨z,g3,g4⟩:=h2 m hm cs ys hc (by simpa using hx) (fun i f' hf'=>by simpa using hf (i+1) f' (by simpa using hf'));exact⟨(x,z),RC.step g1 rfl zom g3,_,_,g2,g4,by simp[vC1]⟩
theorem zBO{α:Type}{n:Nat}{t:TypeId}{fs:List Field}{tot:Nat}{e:α->List PV}{Q:α->Nat->Prop}(ht:P.underlying t=some (.struct fs.toArray))(hc:P.cellsOf t=tot)
 (h:vRD enc P w n tot fs 0 e Q):Reads enc P w (n+1) t e (fun x B=>∃ b,Q x b/\b+1<=B):=by
 intro fuel hf cs d ps hd;obtain⟨xs,m,rfl,he,hl,hn,hfs⟩:=DataW.trod_struct ht hd;cases he
 obtain⟨x,h1,h2⟩:=h m zom cs xs zom (by simpa using hn) (fun i f hi=>hfs i f (by simpa using hi));exact⟨x,by simpa using h1,_,h2,by simp[vIM]⟩
theorem Reads.to{α β:Type}{n:Nat}{t:TypeId}{e:α->List PV}{e':β->List PV}{Q:α->Nat->Prop}{Q':β->Nat->Prop}(f:α->β)(h:Reads enc P w n t e Q)(he:∀ x,e x=e' (f x))(hq:∀ x B,Q x B->Q' (f x) B):Reads enc P w n t e' Q' :=
 fun fuel hf cs d ps hd=>let ⟨x,h1,h2⟩:=h fuel hf cs d ps hd; ⟨f x,he x ▸ h1,hq _ _ h2⟩
theorem Reads.le{α:Type}{n m:Nat}{t:TypeId}{e:α->List PV}{Q:α->Nat->Prop}(h:Reads enc P w n t e Q)(hm:m<=n):Reads enc P w m t e Q:=fun fuel hf=>h fuel (rBV hf hm)
end
open Go Go.RowKit Go.WideShapes Go.ChangeShapes Go.WideElems
section
variable {H:Type} {enc:TypeId×Value->H} {P:Program}
theorem zJO(hl:laidOutB P=true){W W':World}(hb:Below W.heap.size W W'){sp:Nat->Bool}:∀ {ts:List TypeId} {vs:List Value} {ds:List (DataW H)} {ps:List MemPlace},
 ts.all (fun t=>P.readableRec t && decide (t<P.types.size))=true->DataW.TrodAll enc P W 0 (fun _=>true) true ts vs ds ps->(∀ p∈ps,sp p.block=true)->DataW.TrodAll enc P W' 0 sp true ts vs ds ps
 | [],[],[],_,_,h,_=>h
 | t::ts,v::vs,d::ds,ps,hr,h,hs=>by
   have hlt:=h.lt;obtain⟨p,q,⟨fuel,h1⟩,h2,e⟩:=h;simp only[List.all_cons,rAQ,rAX]at hr;have hp:∀ x∈p,x.block<W.heap.size:=fun x hx=>hlt x (by rw[e]; simp[hx])
   exact⟨p,q,⟨fuel,DataW.trod_stays (kids_book hl hr.1.1) (book_sized hr.1.1) (fun h=>by cases h) ⟨hr.1.2,book_self t⟩ h1 (fun x hx=>hb.same (hp x hx)) (fun x hx=>hs x (by rw[e]; simp[hx]))⟩,
    zJO hl hb (by simpa using hr.2) h2 (fun x hx=>hs x (by rw[e]; simp[hx])),e⟩
 | [],[],_::_,_,_,h,_=>h.elim
 | [],_::_,_,_,_,h,_=>h.elim
 | _::_,[],_,_,_,h,_=>h.elim
 | _::_,_::_,[],_,_,h,_=>h.elim
theorem vRG{w:World}{r:Reach}{b0:Nat}{t:TypeId}{v:Value}{fs:Array Field}(ht:P.underlying t=some (.struct fs))(h:Value.okWide P w r b0 t v):∃ cs,v=.agg cs:=by
 simp only[Value.okWide,ht]at h;obtain⟨cs,h,_⟩:=h;exact⟨cs,h⟩
theorem zFC{w:World}{r:Reach}{b0:Nat}{ps:Array TypeId}{args:Array Value}(h:∀ (j:Nat) t v,ps[j]?=some t->args[j]?=some v->Value.okWide P w r b0 t v)(j:Nat){t:TypeId}{v:Value}{fs:Array Field}(h1:ps[j]?=some t)(h2:args[j]?=some v)(ht:P.underlying t=some (.struct fs)):∃ cs,v=.agg cs:=vRG ht (h j t v h1 h2)
theorem zP8{w:World}{A:Nat->Prop}{ds:List PV}{v:Value}(hc:∃ cs,v=.agg cs)(h:RC w A ds v.cells.toList):RD w A (.agg ds) v:=by
 obtain⟨cs,rfl⟩:=hc;simp only[Value.cells]at h;have e:∀ i,cs.toList.getD i undef=cs.getD i undef:=fun i=>by simp[rBE,rCE]
 refine .agg ds cs (by simpa using h.1.symm) (fun i d hd=>?_) (fun i hi=>?_)
 .have:=(h.2 i d hd).1; rwa [e]at this
 .have:=(h.2 i ds[i] (rAR hi)).2; rwa [e]at this
theorem vRT{f:Func}{s:ChangeSpec}{W W':World}{args:Array Value}{v:Value}{ds gs:List (DataW H)}{before pa pv:List MemPlace}
 (hW:DataW.Whole enc P f.params.toList s.vars false W args.toList ds gs before)
 (hres:∀ (b:Nat) (sp:Nat->Bool) (hd:Bool),DataW.TrodAll enc P W' b sp hd f.resultTypes.toList (v.resultList f.resultTypes.size) (s.fn H (ds++gs)).results [])
 (hargs:∀ sp:Nat->Bool,(∀ p∈before,sp p.block=true)->DataW.TrodAll enc P W' 0 sp true f.params.toList args.toList (s.fn H (ds++gs)).args pa)
 (hvars:∀ sp:Nat->Bool,(∀ p∈before,sp p.block=true)->DataW.TrodVars enc P W' sp s.vars (s.fn H (ds++gs)).vars pv)
 (hps:before=pa++pv) (hb:Below W.heap.size W W')
 (hok:∀ (j:Nat) (t:TypeId) (r:Value),f.resultTypes[j]?=some t->(v.resultList f.resultTypes.size)[j]?=some r->Value.okWide P W' .any 0 t r) :
 s.post enc P f false true false false W args v W':=by
 have hold:∀ p∈before,(fun b=>decide (b<W.heap.size)) p.block=true:=fun p hp=>by simpa using hW.lt p hp
 refine⟨ds,gs,before,[],pa,pv,hW,hres _ _ _,hargs _ hold,hvars _ hold,World.keptBut_mono (fun p hp=>⟨hp,?_⟩) (hb.frame (·∈before)),fun h=>by cases h⟩;rw[hps,rAY]at hp;exact rAZ hp
theorem vHZ{G:Gl}{f:FuncId}{fn:Func}{s:ChangeSpec}{tb:TypeId}(hl:laidOutB P=true)(hr:fn.params.toList.all (fun t=>P.readableRec t && decide (t<P.types.size))=true)
 (hrt:fn.resultTypes=#[tb]) (htb:P.underlying tb=some .bool) (hv:s.vars=[])
 {W:World} {args:Array Value} {ds gs:List (DataW H)} {before:List MemPlace} (hfn:∀ gs:List (DataW H),gs=[]->s.fn H (ds++gs)={ results:=[.lit (.bool true)],args:=ds })
 (hW:DataW.Whole enc P fn.params.toList s.vars false W args.toList ds gs before) (hg:Gok G W (vOB W)) {pvs:List PV} (hd:RDs W (vOB W) pvs args.toList) (hF:FnC P G f pvs (.data (.bool true))) :
 Calls P f args W fun e W'=>∃ v,e=.returned v/\s.post enc P fn false true false false W args v W':=by
 have hc:=hF.2 W (vOB W) args.toList (fun _ h=>h) hg hd;rw[Array.toArray_toList]at hc;refine hc.mono fun e W' ⟨v,he,hb,hh⟩=>⟨v,he,?_⟩
 obtain rfl:v=.bool true:=by cases (show RD _ _ (.bool true) v from hh); rfl
 have hW0:=hW;obtain⟨p,q,hA,hV,rfl,_,_⟩:=hW0;rw[hv]at hV;obtain⟨rfl,rfl⟩:=trodVars_none hV;have hfn:=hfn [] rfl;refine vRT (pa:=p) (pv:=[]) hW (fun b sp hd=>?_) (fun sp hsp=>?_) (fun sp hsp=>?_) rfl hb (ok_one hrt rfl (okWide_bool_mk htb _))
 .rw[hfn,hrt]
  exact trodAll_cons_mk (shut_bool htb _) trodAll_mk0
 .rw[hfn]
  exact zJO hl hb hr hA (fun x hx=>hsp x (by simp[hx]))
 .rw[hfn,hv]
  rfl
end
theorem sn1{p q:Prop}(h:q)(e:Hq q->p:=by
 intro hq
 (first
   | (with_reducible first | refine uPF ?_ | refine uHT ?_ | refine zA3 ?_ | refine vVL ?_ | refine uHY ?_ | refine vHD ?_ | refine vMP ?_ | refine vVT ?_ | refine vVQ ?_ | refine uHV ?_ | refine vHB ?_ | refine vMJ ?_ | refine uHZ ?_ | refine uH0 ?_ | refine vVR ?_ | refine vHC ?_ | refine vMK ?_ | refine uH1 ?_ | refine vVM ?_ | refine uHU ?_ | refine vMN ?_ | refine vML ?_)
   | ((conv=>whnf); first
     | with_reducible refine Next.mk ?_
     | with_reducible refine zJJ (fun _=>⟨rfl,rfl⟩) rfl ?_
     | with_reducible refine zLE (fun _=>⟨rfl,rfl⟩) rfl ?_
     | with_reducible refine zJJ zIH rfl ?_
     | with_reducible refine zLE zIH rfl ?_
     | (with_reducible refine zBJ ?_ ?_; · (first | omega | (simp only[rAU,rAM,List.length_nil,List.length_cons,rCA,rBX,rCK,rEG,rFG]; omega) | (simp only[rAU,rAM,List.length_nil,List.length_cons,rCA]; done)))
     | (with_reducible refine uB1 ?_ ?_; · (first | omega | (simp only[rAU,rAM,List.length_nil,List.length_cons,rCA,rBX,rCK,rEG,rFG]; omega) | (simp only[rAU,rAM,List.length_nil,List.length_cons,rCA]; done)))
     | (with_reducible refine zFH ?_ ?_; · omega)
     | (with_reducible refine vJY ?_ ?_; · omega)
     | with_reducible refine vN4 ?_
     | with_reducible refine zJV (fun _=>rfl) ?_
     | with_reducible refine zJV (fun x=>(zIH x).1) ?_
     | (with_reducible refine uJD rfl ?_ ?_; · omega)
     | (with_reducible refine uDG ?_ ?_; · omega)
     | (with_reducible refine uDF ?_ ?_; · omega)
     | (with_reducible refine vND ?_ ?_; · omega)
     | (with_reducible refine zA7 rfl ?_ ?_; · omega)))
 exact hq.h):p:=e ⟨h⟩
theorem stn{p q:Prop}(h:q)(e:Hq q->p:=by
 intro hq;refine sn1 ?_
 repeat refine sn1 ?_
 (try (conv=>whnf))
 exact hq.h):p:=e ⟨h⟩
theorem sns{p q:Prop}(h:q)(e:Hq q->p:=by
 intro hq
 repeat refine sn1 ?_
 (try (conv=>whnf))
 exact hq.h):p:=e ⟨h⟩
structure Hb(b:Bool)(A B:Prop):Prop where
 h:brB b A B
theorem gob{g A B A' B' p q:Prop}{b:Bool}(h1:p->A')(h2:q->B')(hg:Hb b A B->g:=by
 intro hq;refine sts ?_
 with_reducible exact hq.h) (e1:b=true->p:=by
 intro h
 (first
   | (replace h:=rB2 h; try simp only[rAM]at h)
   | (replace h:=eq_of_beq h; try simp only[rAM]at h)
   | (replace h:=uQA h; try simp only[rAM]at h)
   | (simp only[rAQ,rDL,rAM,rDT,rEP,ne_eq,rAX,rB5]at h)
   | skip)
 exact h) (e2:b=false->q:=by
 intro h
 (first
   | (replace h:=rFR h; try simp only[rAM]at h)
   | (replace h:=uQE h; try simp only[rAM]at h)
   | (replace h:=uQB h; try simp only[rAM]at h)
   | (simp only[rAQ,rDL,rAM,rDT,rEP,ne_eq,rAX,rB5]at h)
   | skip)
 exact h) (k1:p->Hq A'->A:=by
 intro h hq;refine sts ?_
 exact hq.h) (k2:q->Hq B'->B:=by
 intro h hq;refine sts ?_
 exact hq.h):g:=hg ⟨vN5 (fun h=>k1 (e1 h) ⟨h1 (e1 h)⟩) (fun h=>k2 (e2 h) ⟨h2 (e2 h)⟩)⟩
theorem gon{g A B A' B' p q:Prop}{b:Bool}(h1:p->A')(h2:q->B')(hg:Hb b A B->g:=by
 intro hq;refine sns ?_
 with_reducible exact hq.h) (e1:b=true->p:=by
 intro h
 (first
   | (replace h:=rB2 h; try simp only[rAM]at h)
   | (replace h:=eq_of_beq h; try simp only[rAM]at h)
   | (replace h:=uQA h; try simp only[rAM]at h)
   | (simp only[rAQ,rDL,rAM,rDT,rEP,ne_eq,rAX,rB5]at h)
   | skip)
 exact h) (e2:b=false->q:=by
 intro h
 (first
   | (replace h:=rFR h; try simp only[rAM]at h)
   | (replace h:=uQE h; try simp only[rAM]at h)
   | (replace h:=uQB h; try simp only[rAM]at h)
   | (simp only[rAQ,rDL,rAM,rDT,rEP,ne_eq,rAX,rB5]at h)
   | skip)
 exact h) (k1:p->Hq A'->A:=by
 intro h hq;refine sns ?_
 exact hq.h) (k2:q->Hq B'->B:=by
 intro h hq;refine sns ?_
 exact hq.h):g:=hg ⟨vN5 (fun h=>k1 (e1 h) ⟨h1 (e1 h)⟩) (fun h=>k2 (e2 h) ⟨h2 (e2 h)⟩)⟩
theorem rAI{p:Prop}(h:p:=by exact zAC rfl rfl):p:=h
theorem rAJ{p:Prop}(h:p:=by exact zAE rfl rfl):p:=h
theorem rAK{p:Prop}(h:p:=by exact zAK rfl rfl):p:=h
theorem rGX{p:Prop}(h:p:=by exact zAB rfl rfl):p:=h
end Go.PI
