/-
  PI: code carried out on values that are all known: a function that the kernel evaluates. What it finds holds by 'wp'.
-/
import Derived.Test.YtcbepncdbgaohaaGreatDoorCA2
set_option linter.all false
set_option maxHeartbeats 0
namespace Go.PI
structure Fx where
 c:Code
 rs:List ResultVar
 nt:Nat
 pur:Bool
variable {args:List PV}{P:Program}{e:Exit}{ds:List PV}{Le:LeT}{v:PV}{fn:Func}{d:PV}{s s':St}
section
variable (P:Program) (G:Gl) (O:FuncId->List PV->Option CRes) (F:FuncId->Option Fx) (M:TypeId->Value->String->Option (FuncId×Value))
abbrev Xr(α:Type):=Except Op α
abbrev Cal:=Bool->FuncId->List PV->St->Xr (FP×PV×St)
abbrev Inv:=FuncId->List PV->St->Xr (PV×St)
def noX{α:Type}(n:Nat):Xr α:=.error (.panic (.func n))
def xOp(call:Cal)(inv:Inv)(D:Bool)(o:Oper)(s:St):Xr (FP×St) :=
 match o.op with
 | .call { callee:=.value g,args,argTypes:=_ }=>(match ev G s.t g with
   | .func (.func f) first captured=>(match call D f (first++args.toList.map (ev G s.t)++captured) s with
     |.ok (fp,v,s')=>.ok (fp,put s' o.dst v)
     |.error e=>.error e)
   |_=>.error o.op)
 | .call { callee:=.invoke g m,args,argTypes:=_ }=>(match D,ev G s.t g with
   | false,.raw (.iface u v)=>(match M u v m with
     | some (f,r)=>(match inv f (Ck r::args.toList.map (ev G s.t)) s with
       |.ok (pv,s')=>.ok (⟨[],[],[]⟩,put { s' with t:=s.t } o.dst pv)
       |.error e=>.error e)
     |none=>.error o.op)
   |_,_=>.error o.op)
 | op=>(match zN P G s.z s.nx op s.t s.h with
   |some (v,h',rd,wr)=>.ok (⟨rd,wr,[]⟩,put { s with h:=h',nx:=s.nx+1 } o.dst v)
   |none=>.error op)
def AY (call:Cal) (inv:Inv) (D:Bool) (ops:List Oper):Nat->List (Nat×FP)->List Oper->St->Xr St
 |_,_,[],s=>.ok s
 | i, acc,o::rest,s =>
   let run:=match xOp P G M call inv D o s with
    | .ok (fp,s')=>(match D with
      |false=>AY call inv D ops (i+1) ((i,fp)::acc) rest s'
      | true=>(match rO ops o fp acc with
        |true=>AY call inv D ops (i+1) ((i,fp)::acc) rest s'
        |false=>.error o.op))
    |.error e=>.error e
   let pass:=AY call inv D ops (i+1) acc rest (put { s with nx:=s.nx+1 } o.dst (.tup []))
   match o.guard with
   |none=>run
   | some (j,want)=>match (ops[j]?).bind (·.dst) with
     | some d=>(match s.t d with
       | .bool b=>(match b,want with
         |true,true=>run
         |false,false=>run
         |_,_=>pass)
       |.tup []=>pass
       |_=>.error o.op)
     |none=>.error o.op
def Fy:List Oper->Option (List Oper×Oper)
 |[]=>none
 | o::l=>(match Fy l with
   |none=>some ([],o)
   |some (l',o')=>some (o::l',o'))
def Sz (call:Cal) (inv:Inv) (D:Bool) (ops:List Oper) (s:St):Xr St :=
 match AY P G M call inv D ops 0 [] ops s with
 |.ok s'=>.ok s'
 | .error e=>(match D,Fy ops with
   | true,some (l,o)=>(match Jk l o with
     | true=>(match AY P G M call inv true l 0 [] l s with
       | .ok s1=>(match xOp P G M call inv false o s1 with
         |.ok (_,s2)=>.ok s2
         |.error e=>.error e)
       |.error e=>.error e)
     |false=>.error e)
   |_,_=>.error e)
def S0(rs:List ResultVar):Xr (Exit×St)->Xr (PV×St)
 | .ok (.normal,s)|.ok (.ret,s)=>(match BI P rs s with
   |some v=>.ok (v,s)
   |none=>noX 3)
 |.error e=>.error e
 |_=>noX 4
def AZ(run:Code->St->Xr (Exit×St))(f:FuncId)(args:List PV)(s:St):Xr (PV×St) :=
 match F f with
 | some x=>(match Nat.ble args.length x.nt with
   |true=>S0 P x.rs (run x.c { s with t:=iO args })
   |false=>noX 5)
 |none=>.error (.move (.func f))
def Mc(run:Code->St->Xr (Exit×St))(f:FuncId)(ds:List PV):Xr PV :=
 match AZ P F run f ds (start ds) with
 | .ok (v,s)=>(match frz s.h 4 v with
   |some (d,_)=>.ok d
   |none=>noX 6)
 |.error e=>.error e
def uW9(f:FuncId):Bool:=match F f with
 |some x=>x.pur
 |none=>false
def CM (h:Hp):Nat->List PV->List Nat->List Nat
 |0,_,acc=>acc
 |_+1,[],acc=>acc
 | n+1,v::vs,acc =>
   let key:=fun r=>match acc.contains r with
    |true=>CM h n vs acc
    | false=>(match h r with
      |some b=>CM h n (b.els++vs) (r::acc)
      |none=>CM h n vs acc)
   match v with
   |.own r _ _=>key r
   |.ptr r _ _=>key r
   |.agg cs=>CM h n (cs++vs) acc
   |.tup cs=>CM h n (cs++vs) acc
   |.func _ f c=>CM h n (f++(c++vs)) acc
   |_=>CM h n vs acc
def mkL(h:Hp)(z:Fz)(N:Nat):List Nat->Option (List (Nat×Blk))
 |[]=>some []
 | r :: l=>(match h r,mkL h z N l with
   | some b,some L=>(match !z r&&(Nat.blt r N&&(!l.contains r&&b.els.all (kl N 3))) with
     |true=>some ((r,b)::L)
     |false=>none)
   |_,_=>none)
def eqL(f:PV->PV->Bool):List PV->List PV->Bool
 |[],[]=>true
 |a::l,b::m=>f a b&&eqL f l m
 |_,_=>false
def eqP:Nat->PV->PV->Bool
 |0,_,_=>false
 | n+1,a,b=>match a,b with
   |.int k x,.int k' y=>decide (k=k')&&decide (x=y)
   |.bool x,.bool y=>decide (x=y)
   |.agg l,.agg m=>eqL (eqP n) l m
   |.imm l,.imm m=>eqL (eqP n) l m
   |.tup l,.tup m=>eqL (eqP n) l m
   |.nilsl,.nilsl=>true
   |.nilfunc,.nilfunc=>true
   |.own r o l,.own r' o' l'=>Nat.beq r r'&&(Nat.beq o o'&&Nat.beq l l')
   |.ptr r o l,.ptr r' o' l'=>Nat.beq r r'&&(Nat.beq o o'&&Nat.beq l l')
   |_,_=>false
def S5{f:PV->PV->Bool}(hf:∀ a b,f a b=true->a=b):∀ {l m:List PV},eqL f l m=true->l=m
 |[],[],_=>rfl
 | a::l,b::m,h=>by
   simp only[eqL,xO]at h;rw[hf _ _ h.1,S5 hf h.2]
 |[],_::_,h=>by cases h
 |_::_,[],h=>by cases h
def JA:∀ (n:Nat) (a b:PV),eqP n a b=true->a=b
 |0,_,_,h=>by cases h
 | n+1,a,b,h=>by
   unfold eqP at h
   split at h<;>first
    |(cases h;done)
    |rfl
    |(simp only[xO,tC]at h;obtain⟨rfl,rfl⟩:=h;rfl)
    |(simp only[tC]at h;subst h;rfl)
    |(rw[S5 (JA n) h])
    |(simp only[xO,Jg]at h;obtain⟨rfl,rfl,rfl⟩:=h;rfl)
def S9(h:Hp)(p:Nat×Blk):Bool:=match h p.1 with
 |some b=>eqL (eqP 12) b.els p.2.els&&(Nat.beq b.sz p.2.sz&&decide (b.agg=p.2.agg))
 |none=>false
def uDB{h:Hp}{p:Nat×Blk}(e:S9 h p=true):h p.1=some p.2:=by
 unfold S9 at e
 split at e
 .rename_i b hb
  obtain⟨r,els,sz,agg⟩:=p;obtain⟨x,y,u⟩:=b;simp only[xO,Jg,tC]at e;obtain⟨e1,rfl,rfl⟩:=e;rw[hb,S5 (JA 12) e1]
 .cases e
def xPk(run:Code->St->Xr (Exit×St))(f:FuncId)(args:List PV)(s:St):Xr (List (Nat×Blk)×PV) :=
 match mkL s.h s.z s.nx (CM s.h 4000 args []),args.all (kl s.nx 3) with
 | some L,true=>(match AZ P F run f args ⟨fun _=>.any,lsH L,fun _=>false,s.nx⟩ with
   | .ok (v,s')=>(match frz s'.h 4 v with
     | some (d,ks)=>(match nr 3 d&&L.all fun p=>S9 s'.h p&&(!s'.z p.1&&!ks.contains p.1) with
       |true=>.ok (L,d)
       |false=>noX 8)
     |none=>noX 9)
   |.error e=>.error e)
 |_,_=>noX 10
def TB (run:Code->St->Xr (Exit×St)):Cal:=fun D f args s =>
 let inl:=match D with
  | false=>(match AZ P F run f args s with
    |.ok (v,s')=>.ok (⟨[],[],[]⟩,v,{ s' with t:=s.t })
    |.error e=>.error e)
  |true=>noX 7
 let pk:=match xPk P F run f args s with
  |.ok (L,d)=>.ok (⟨A9 L,[],[]⟩,d,{ s with nx:=s.nx+1 })
  |.error e=>.error e
 match zZ (frz s.h 4) args with
 | some (ds,ks)=>(match O f ds with
   |some (.data d)=>.ok (⟨ks,[],ks⟩,d,{ s with z:=yY s.z ks,nx:=s.nx+1 })
   |some (.fresh els sz agg)=>.ok (⟨ks,[s.nx],ks⟩,.own s.nx 0 els.length,{ s with h:=hset s.h s.nx (some ⟨els,sz,agg⟩),z:=yY s.z ks,nx:=s.nx+1 })
   | _ => (match D||uW9 F f with
     |false=>inl
     | true=>(match D&&ks.any fun r=>!s.z r with
       |true=>pk
       | false=>(match Mc P F run f ds with
         |.ok d=>.ok (⟨ks,[],ks⟩,d,{ s with z:=yY s.z ks,nx:=s.nx+1 })
         |.error e=>.error e))))
 | none=>(match D with
   |true=>pk
   |false=>inl)
def TC(run:Code->St->Xr (Exit×St)):Inv:=fun f args s =>
 match zZ (frz s.h 4) args with
 | some (ds,ks)=>(match O f ds with
   |some (.data d)=>.ok (d,{ s with z:=yY s.z ks })
   |_=>AZ P F run f args s)
 |none=>AZ P F run f args s
def fNx(s:St):St:=match s.nx with
 |0=>{ s with nx:=0 }
 |n+1=>{ s with nx:=n+1 }
def uUD(s:St):fNx s=s:=by
 obtain⟨t,h,z,n⟩:=s;cases n<;>rfl
def o7:Nat->Code->St->Xr (Exit×St)
 |0,_,_=>noX 0
 | n + 1,c,s=>match c with
   |.skip=>.ok (.normal,s)
   |.label _=>.ok (.normal,s)
   | .seq a b=>(match o7 n a s with
     |.ok (.normal,s')=>o7 n b s'
     |r=>r)
   | .cond c a b=>(match ev G s.t c with
     |.bool true=>o7 n a s
     |.bool false=>o7 n b s
     |_=>.error (.move c))
   | .block id c=>(match o7 n c s with
     | .ok (.exit id',s')=>(match Nat.beq id' id with
       |true=>.ok (.normal,s')
       |false=>.ok (.exit id',s'))
     |r=>r)
   | .loop c=>(match o7 n c s with
     |.ok (.normal,s')=>o7 n (.loop c) s'
     |r=>r)
   | .scope c=>(match o7 n c s with
     |.ok (.goto _,_)=>noX 1
     |r=>r)
   |.exit id=>.ok (.exit id,s)
   |.ret=>.ok (.ret,s)
   | .region _ ops D=>(match Sz P G M (TB P O F (o7 n)) (TC P O F (o7 n)) D ops.toList s with
     |.ok s'=>.ok (.normal,fNx s')
     |.error e=>.error e)
   |_=>noX 2
end
variable {call:Cal}{inv:Inv}
section
variable {P:Program} {G:Gl} {O:FuncId->List PV->Option CRes} {F:FuncId->Option Fx} {M:TypeId->Value->String->Option (FuncId×Value)}
def Md(P:Program)(G:Gl)(call:Cal):Prop:=∀ D f args s fp v s',call D f args s=.ok (fp,v,s')->∀ dst (K:FP->St->Prop),K fp (put s' dst v)->fE (FnC P G) (FnH P G) D f args dst K s
def Me(P:Program)(G:Gl)(inv:Inv):Prop:=∀ f args s v s',inv f args s=.ok (v,s')->∀ K:PV->St->Prop,K v s'->FnH P G f args K s
def MOk(P:Program)(M:TypeId->Value->String->Option (FuncId×Value)):Prop:=∀ u v m f r,M u v m=some (f,r)->(∀ w,(Go.method (P.types.size+Made.depth) u v m).run P w=.ok (f,r) w)/\Az (Ck r)=some r
def uF5{f:FuncId}  {ks:List Nat}  {m:Nat}{K:PV->St->Prop}  (hC:FnC P G f ds (.data d))(hf:zZ (frz s.h m) args=some (ds,ks))(hk:K d { s with z:=yY s.z ks }):FnH P G f args K s:=by
 refine⟨hC.1,fun E w A κ vs hn hκ hA hw H hfr hvs=>?_⟩;have hRD:=Gj H hf hvs;have hkeys:=dQ hf;have hHf:=H.freeze hkeys;refine(hC.2 w _ _ hHf.alt hHf.gok hRD).mono fun e w' ⟨v',he,hb,hh⟩=>?_
 refine⟨v',d,_,κ,{ s with z:=yY s.z ks },he,hHf.after hb (X:=fun b=>w.heap.size<=b/\b<w'.heap.size) (fun b h=>h),fun r hr=>⟨(hfr r hr).1,?_,(hfr r hr).2.2⟩,zX _,.data _ _ hh,hk⟩;have h2:=(hfr r hr).2.1;simp only[yY,h2,nW]
 exact contains_false.2 fun hm=>by
  obtain⟨b,hb⟩:=hkeys r hm;rw[(hfr r hr).1]at hb;cases hb
def uIC   (hc:Md P G call)(hi:Me P G inv)(hM:MOk P M){D:Bool}{o:Oper}  {fp:FP}  (h:xOp P G M call inv D o s=.ok (fp,s')){K:FP->St->Prop}(k:K fp s'):uG P G (FnC P G) (FnH P G) D o K s:=by
 unfold xOp at h;unfold uG
 split at h
 .rename_i g args ty ho
  simp only[ho]
  split at h
  .rename_i f first captured hg
   simp only[hg]
   split at h
   .rename_i fp' v s1 h1
    cases h
    exact hc _ _ _ _ _ _ _ h1 _ _ k
   .cases h
  .cases h
 .rename_i g m args ty ho
  simp only[ho]
  split at h
  .rename_i u v hg
   split at h
   .rename_i f r hm
    split at h
    .rename_i pv s1 h1
     cases h
     obtain⟨m1,m2⟩:=hM _ _ _ _ _ hm;exact⟨rfl,u,v,f,r,hg,m1,m2,hi _ _ _ _ _ h1 _ k⟩
    .cases h
   .cases h
  .cases h
 .rename_i op hne hne2
  split at h
  .rename_i v h' rd wr h1
   cases h
   split
   .rename_i g args ty ho
    exact(hne _ _ _ ho).elim
   .rename_i g m args ty ho
    exact(hne2 _ _ _ _ ho).elim
   .rw[h1];exact k
  .cases h
def TD {call:Cal} {inv:Inv} (hc:Md P G call) (hi:Me P G inv) (hM:MOk P M) {D:Bool} {ops:List Oper}:∀ (l:List Oper) (i:Nat) (acc:List (Nat×FP)) (s s':St),AY P G M call inv D ops i acc l s=.ok s'->∀ K:St->Prop,K s'->wpOps P G (FnC P G) (FnH P G) D ops i acc l K s
 |[],_,_,_,_,h,K,k=>by cases h;exact k
 | o :: rest,i,acc,s,s',h,K,k=>by
   have ih:=TD hc hi hM (D:=D) (ops:=ops) rest;unfold AY at h;unfold wpOps;dsimp only at h ⊢
   have run:(match xOp P G M call inv D o s with
    | .ok (fp,s')=>(match D with
      |false=>AY P G M call inv D ops (i+1) ((i,fp)::acc) rest s'
      | true=>(match rO ops o fp acc with
        |true=>AY P G M call inv D ops (i+1) ((i,fp)::acc) rest s'
        |false=>.error o.op))
    |.error e=>.error e)=.ok s'->uG P G (FnC P G) (FnH P G) D o (fun fp s'=>(D=true->rO ops o fp acc=true)/\wpOps P G (FnC P G) (FnH P G) D ops (i+1) ((i,fp)::acc) rest K s') s:=by
    intro h
    split at h
    .rename_i fp s1 h1
     refine uIC hc hi hM h1 ?_;cases D with
     |false=>exact⟨(fun e=>by cases e),ih _ _ _ _ h K k⟩
     | true =>
       dsimp only at h
       split at h
       .rename_i h2;exact⟨fun _=>h2,ih _ _ _ _ h K k⟩
       .cases h
    .cases h
   split at h
   .rename_i hg
    simp only[hg];exact run h
   .rename_i j want hg
    simp only[hg]
    split at h
    .rename_i d hd
     simp only[hd]
     split at h
     .rename_i b hb
      simp only[hb];cases b<;>cases want<;>first|exact⟨fun _=>run h,(fun e=>by cases e)⟩|exact⟨(fun e=>by cases e),fun _=>ih _ _ _ _ h K k⟩
     .rename_i hb
      simp only[hb];exact ih _ _ _ _ h K k
     .cases h
    .cases h
def zP0:∀ {l:List Oper} {l':List Oper} {o:Oper},Fy l=some (l',o)->l=l'++[o]
 |[],_,_,h=>by cases h
 | x::l,l',o,h=>by
   unfold Fy at h
   split at h
   .rename_i e
    cases h
    cases l with
    |nil=>rfl
    | cons y l =>
      unfold Fy at e
      split at e<;>cases e
   .rename_i l1 o1 e
    cases h
    rw[zP0 e];rfl
def uKV   (hc:Md P G call) (hi:Me P G inv) (hM:MOk P M)  {id:Nat} {D:Bool} {ops:Array Oper}  (h:Sz P G M call inv D ops.toList s=.ok s') {Q:Exit->St->Prop} (q:Q .normal s'):wp P G (FnC P G) (FnH P G) Le (.region id ops D) Q s:=by
 unfold Sz at h
 split at h
 .rename_i s1 h1
  cases h
  exact wp_region (TD hc hi hM _ _ _ _ _ h1 _ q)
 .cases D with
  |false=>cases h
  | true =>
    cases hl:Fy ops.toList with
    |none=>rw[hl]at h;cases h
    | some p =>
      obtain⟨l,o⟩:=p;rw[hl]at h;dsimp only at h
      split at h
      .rename_i ht
       split at h
       .rename_i s1 h1
        split at h
        .rename_i fp s2 h2
         cases h
         exact zC ⟨rfl,l,o,zP0 hl,ht,TD hc hi hM _ _ _ _ _ h1 _ (uIC hc hi hM h2 (K:=fun _ s''=>Q .normal s'') q)⟩
        .cases h
       .cases h
      .cases h
def uKX{rs:List ResultVar}{r:Xr (Exit×St)}   (h:S0 P rs r=.ok (v,s)):∃ e,r=.ok (e,s)/\∀ K:PV->St->Prop,K v s->aH P rs K e s:=by
 unfold S0 at h
 split at h
 .rename_i s1
  split at h
  .rename_i v1 h1;cases h;exact⟨_,rfl,fun K k=>⟨_,h1,k⟩⟩
  .cases h
 .rename_i s1
  split at h
  .rename_i v1 h1;cases h;exact⟨_,rfl,fun K k=>⟨_,h1,k⟩⟩
  .cases h
 .cases h
 .cases h
def D5(P:Program)(G:Gl)(run:Code->St->Xr (Exit×St)):Prop:=∀ c s e s',run c s=.ok (e,s')->∀ (n0:Nat) (Q:Exit->St->Prop),Q e s'->wp P G (FnC P G) (FnH P G) (LeS G,n0) c Q s
def gP(P:Program)(F:FuncId->Option Fx):Prop:=∀ f x,F f=some x->∃ fn,FnOk P f fn x.c x.rs x.nt
def vTN(hF:gP P F){run:Code->St->Xr (Exit×St)}(hr:D5 P G run){f:FuncId}     (h:AZ P F run f args s=.ok (v,s')) :
 ∃ (fn:Func) (x:Fx),FnOk P f fn x.c x.rs x.nt/\args.length<=x.nt/\∀ (n0:Nat) (K:PV->St->Prop),K v s'->wp P G (FnC P G) (FnH P G) (LeS G,n0) x.c (aH P x.rs K) { s with t:=iO args }:=by
 unfold AZ at h
 split at h
 .rename_i x hx
  split at h
  .rename_i hn
   obtain⟨fn,ok⟩:=hF f x hx;obtain⟨e,h1,h2⟩:=uKX h;exact⟨fn,x,ok,Nat.le_of_ble_eq_true hn,fun n0 K k=>hr _ _ _ _ h1 n0 _ (h2 K k)⟩
  .cases h
 .cases h
def Mf(hm:P.follows .mixedOrders=true)(hF:gP P F){run:Code->St->Xr (Exit×St)}(hr:D5 P G run){f:FuncId}     (h:AZ P F run f args s=.ok (v,s')){K:PV->St->Prop}(k:K v s'):FnH P G f args K s :=
 let ⟨_,_,ok,hl,hw⟩:=vTN hF hr h
 EX hm ok hl (hw _ _ k)
def vTP(hm:P.follows .mixedOrders=true)(hF:gP P F){run:Code->St->Xr (Exit×St)}(hr:D5 P G run){f:FuncId}   (h:Mc P F run f ds=.ok d):FnC P G f ds (.data d):=by
 unfold Mc at h
 split at h
 .rename_i v s h1
  split at h
  .rename_i d' ks h2
   cases h
   obtain⟨fn,x,ok,hl,hw⟩:=vTN hF hr h1;exact U7 hm ok hl (hw 0 _ ⟨ks,h2⟩)
  .cases h
 .cases h
def uO5{f:FuncId}  {m:Nat}{K:PV->St->Prop}  (h:FnH P G f args (fun v s'=>∃ d ks,frz s'.h m v=some (d,ks)/\K d { s' with z:=yY s'.z ks }) s):FnH P G f args K s:=by
 refine⟨h.1,fun E w A κ vs hn hκ hA hw H hfr hvs=>(h.2 E w A κ vs hn hκ hA hw H hfr hvs).mono ?_⟩
 rintro e w' ⟨v,pv,A',κ',s',he,H',hfr',hle,hv,d,ks,hf,hk⟩
 have hm:zZ (frz s'.h m) [pv]=some ([d],ks):=by simp[zZ,hf]
 have hkeys:=dQ hm;have hRD:=Gj H' hm (vs:=[v]) ⟨rfl,fun i d hd=>by cases i<;>simp at hd;subst hd;exact hv⟩;refine⟨v,d,_,κ',{ s' with z:=yY s'.z ks },he,H'.freeze hkeys,fun r hr=>⟨(hfr' r hr).1,?_,(hfr' r hr).2.2⟩,hle,.data _ _ (hRD.2 0 d rfl),hk⟩;have h2:=(hfr' r hr).2.1;simp only[yY,h2,nW]
 exact contains_false.2 fun hm=>by
  obtain⟨b,hb⟩:=hkeys r hm;rw[(hfr' r hr).1]at hb;cases hb
def uI8{h:Hp}{z:Fz}{N:Nat}:∀ {l:List Nat} {L:List (Nat×Blk)},mkL h z N l=some L->L.map (·.1)=l/\(L.map (·.1)).Nodup/\∀ p∈L,h p.1=some p.2/\z p.1=false/\p.1<N/\∀ e∈p.2.els,kl N 3 e=true
 |[],L,e=>by cases e;exact⟨rfl,NT,fun p hp=>by cases hp⟩
 | r :: l,L,e=>by
   unfold mkL at e
   split at e
   .rename_i b L' h1 h2
    split at e
    .rename_i h3
     cases e
     obtain⟨g1,g2,g3⟩:=uI8 h2;simp only[xO,bV,mD,xZ]at h3;obtain⟨q1,q2,q3,q4⟩:=h3;refine⟨by rw[uW,g1],by rw[uW,g1];exact mU.2 ⟨(fun hm=>by rw[List.contains_iff_mem.2 hm]at q3;cases q3),(by rw[<- g1];exact g2)⟩,fun p hp=>?_⟩;rcases yI.1 hp with rfl|hp
     .exact⟨h1,q1,q2,q4⟩
     .exact g3 p hp
    .cases e
   .cases e
def uRN(hm:P.follows .mixedOrders=true)(hF:gP P F){run:Code->St->Xr (Exit×St)}(hr:D5 P G run){f:FuncId}   {L:List (Nat×Blk)}  (h:xPk P F run f args s=.ok (L,d)) :
 FnC P G f args (.pk L s.nx d none)/\fD s.h s.z L s.nx args/\nr 3 d=true:=by
 unfold xPk at h
 split at h
 .rename_i L' hL ha
  split at h
  .rename_i v s' h1
   split at h
   .rename_i d' ks h2
    split at h
    .rename_i h3
     cases h
     simp only[xO,xZ,bV]at h3;obtain⟨_,g2,g3⟩:=uI8 hL
     have hH:FnH P G f args (pkK L s.nx d none) ⟨fun _=>.any,lsH L,fun _=>false,s.nx⟩:=uO5 (m:=4) (Mf hm hF hr h1 ⟨d,ks,h2,rfl,zF h3.1,fun p hp=>⟨uDB (h3.2 p hp).1,by
      simp only[yY,(h3.2 p hp).2.1,(h3.2 p hp).2.2,nW]⟩,fun b hb=>by cases hb⟩)
     exact⟨⟨hH.1,hH⟩,⟨g2,g3,xZ.1 ha⟩,h3.1⟩
    .cases h
   .cases h
  .cases h
 .cases h
def uL5{N key:Nat}  (h:nr 3 v=true):mZ N key v=v:=by
 unfold mZ
 split
 .cases h
 .rfl
abbrev OOk(P:Program)(G:Gl)(O:FuncId->List PV->Option CRes):Prop:=∀ f ds r,O f ds=some r->FnC P G f ds r
def uCQ(hm:P.follows .mixedOrders=true)(hO:OOk P G O)(hF:gP P F){run:Code->St->Xr (Exit×St)}(hr:D5 P G run):Md P G (TB P O F run):=by
 intro D f args s fp v s'
 have inl:∀ dst (K:FP->St->Prop),K fp (put s' dst v)->(match D with
  | false=>(match AZ P F run f args s with
    |.ok (v,s')=>.ok ((⟨[],[],[]⟩:FP),v,({ s' with t:=s.t }:St))
    |.error e=>.error e)
  |true=>noX 7)=(.ok (fp,v,s'):Xr (FP×PV×St))->fE (FnC P G) (FnH P G) D f args dst K s:=by
  intro dst K k h;cases D with
  |true=>cases h
  | false =>
    dsimp only at h
    split at h
    .rename_i v1 s1 h1
     cases h
     exact zC ⟨rfl,Mf hm hF hr h1 k⟩
    .cases h
 intro h dst K k
 have dat:∀ (ds:List PV) (ks:List Nat) (d:PV),zZ (frz s.h 4) args=some (ds,ks)->FnC P G f ds (.data d)->(.ok ((⟨ks,[],ks⟩:FP),d,({ s with z:=yY s.z ks,nx:=s.nx+1 }:St)):Xr (FP×PV×St))=.ok (fp,v,s')->fE (FnC P G) (FnH P G) D f args dst K s:=by
  intro ds ks d h1 h2 h3;cases h3
  exact zF ⟨_,_,_,zF ⟨4,_,.data _,h1,h2,zA,rfl,rfl,rfl,rfl⟩,k⟩
 have pk:(match xPk P F run f args s with
  |.ok (L,d)=>.ok ((⟨A9 L,[],[]⟩:FP),d,({ s with nx:=s.nx+1 }:St))
  |.error e=>.error e)=(.ok (fp,v,s'):Xr (FP×PV×St))->fE (FnC P G) (FnH P G) D f args dst K s:=by
  intro h
  split at h
  .rename_i L d h1
   cases h
   obtain⟨c1,c2,c3⟩:=uRN hm hF hr h1;have e:yY s.z []=s.z:=by funext r;simp[yY]
   exact zF ⟨⟨A9 L,[],[]⟩,_,s.h,zC (zC (zC ⟨L,s.nx,_,none,c1,c2,(uL5 c3).symm,rfl,rfl,rfl,rfl⟩)),by rw[e];exact k⟩
  .cases h
 unfold TB at h;dsimp only at h
 split at h
 .rename_i ds ks h1
  split at h
  .rename_i d h2
   exact dat _ _ _ h1 (hO _ _ _ h2) h
  .rename_i els sz agg h2
   cases h
   exact zF ⟨_,_,_,zF ⟨4,_,.fresh els sz agg,h1,hO _ _ _ h2,zA,rfl,rfl,rfl,rfl⟩,k⟩
  .split at h
   .exact inl _ _ k h
   .split at h
    .exact pk h
    .split at h
     .rename_i d h2
      exact dat _ _ _ h1 (vTP hm hF hr h2) h
     .cases h
 .split at h
  .exact pk h
  .exact inl _ _ k h
def uKW(hm:P.follows .mixedOrders=true)(hO:OOk P G O)(hF:gP P F){run:Code->St->Xr (Exit×St)}(hr:D5 P G run):Me P G (TC P O F run):=by
 intro f args s v s' h K k;unfold TC at h
 split at h
 .rename_i ds ks h1
  split at h
  .rename_i d h2
   cases h
   exact uF5 (hO _ _ _ h2) h1 k
  .exact Mf hm hF hr h k
 .exact Mf hm hF hr h k
def vN5  {K:St->Prop}{Q:Exit->St->Prop}   (h1:e=.normal->∃ s',Le.1 Le.2 s s'/\K s')(h2:e≠.normal->Q e s):tX Le K Q e s:=by
 unfold tX;cases e<;>first|exact h1 rfl|exact h2 zsm
def zPT{id:Nat}{Q:Exit->St->Prop}   (h1:e=.exit id->Q .normal s)(h2:e≠.exit id->Q e s):dO id Q e s:=by
 cases e with
 | exit id' =>
   show if id'=id then Q .normal s else Q (.exit id') s
   split
   .rename_i h;exact h1 (by rw[h])
   .rename_i h;exact h2 (fun e=>by cases e;exact h rfl)
 |_=>exact h2 zsm
def uC7{Q:Exit->St->Prop}   (h1:∀ l,e≠.goto l)(h2:Q e s):Gd Q e s:=by
 cases e<;>first|exact h2|exact(h1 _ rfl).elim
def vN4{K:St->Prop}{Q:Exit->St->Prop}   (h1:e=.normal->K s)(h2:e≠.normal->Q e s):nG K Q e s:=by
 cases e<;>first|exact h1 rfl|exact h2 zsm
def TE{n0:Nat}(s:St):LeS G n0 s s:=fun _ _ _ _ _ A κ _ hR=>⟨A,κ,hR⟩
def vTM(hm:P.follows .mixedOrders=true)(hO:OOk P G O)(hF:gP P F)(hM:MOk P M):∀ n,D5 P G (o7 P G O F M n)
 |0=>fun c s e s' h=>by cases h
 | n + 1=>fun c s e s' h n0 Q q=>by
   have ih:=vTM hm hO hF hM n;cases c with
   |skip=>cases h;exact q
   |label _=>cases h;exact q
   |exit _=>cases h;exact q
   |ret=>cases h;exact q
   | seq a b =>
     unfold o7 at h;dsimp only at h;unfold wp
     split at h
     .rename_i s1 h1
      exact ih _ _ _ _ h1 n0 _ (vN5 (fun _=>⟨s1,TE _,ih _ _ _ _ h n0 Q q⟩) fun e=>(e rfl).elim)
     .rename_i hne
      exact ih _ _ _ _ h n0 _ (vN5 (fun e=>by subst e;exact(hne s' h).elim) fun _=>q)
   | cond c a b =>
     unfold o7 at h;dsimp only at h;unfold wp
     split at h
     .rename_i h1;rw[h1];exact⟨fun _=>ih _ _ _ _ h n0 Q q,(fun e=>by cases e)⟩
     .rename_i h1;rw[h1];exact⟨(fun e=>by cases e),fun _=>ih _ _ _ _ h n0 Q q⟩
     .cases h
   | block id c =>
     unfold o7 at h;dsimp only at h;unfold wp
     split at h
     .rename_i id' s1 h1
      refine ih _ _ _ _ h1 n0 _ (zPT (fun e1=>?_) fun e1=>?_)
      .cases e1
       rw[vL,sJ rfl]at h;cases h;exact q
      .rw[vL,qL (fun e=>e1 (by rw[e]))]at h
       cases h;exact q
     .rename_i hne
      exact ih _ _ _ _ h n0 _ (zPT (fun e=>by subst e;exact(hne _ _ h).elim) fun _=>q)
   | loop c =>
     unfold o7 at h;dsimp only at h
     split at h
     .rename_i s1 h1
      have:=ih _ _ _ _ h n0 Q q;unfold wp at this ⊢;obtain⟨s0,hle,m,hw⟩:=this;exact⟨s,TE _,m+1,ih _ _ _ _ h1 n0 _ (vN4 (fun _=>⟨s0,hle,hw⟩) fun e=>(e rfl).elim)⟩
     .rename_i hne
      unfold wp;exact⟨s,TE _,1,ih _ _ _ _ h n0 _ (vN4 (fun e=>by subst e;exact(hne _ h).elim) fun _=>q)⟩
   | scope c =>
     unfold o7 at h;dsimp only at h;unfold wp
     split at h
     .cases h
     .rename_i hne
      exact ih _ _ _ _ h n0 _ (uC7 (fun l e=>by subst e;exact hne _ _ h) q)
   | region id ops D =>
     unfold o7 at h;dsimp only at h
     split at h
     .rename_i s1 h1
      rw[uUD]at h;cases h
      exact uKV (uCQ hm hO hF ih) (uKW hm hO hF ih) hM h1 q
     .cases h
   |_=>cases h
def JB(hm:P.follows .mixedOrders=true)(hO:OOk P G O)(hF:gP P F)(hM:MOk P M){n:Nat}{f:FuncId}   (h:Mc P F (o7 P G O F M n) f ds=.ok d):FnC P G f ds (.data d) :=
 vTP hm hF (vTM hm hO hF hM n) h
end
def okB (fn : Func) : Bool := fn.body.isSome && fn.name != "runtime.NumGoroutine" && mF fn.ntmps (fn.body.getD .skip) && fn.results.toList.all (BJ fn.ntmps)
def F3(fn:Func)(pur:Bool):Fx:=⟨fn.body.getD .skip,fn.results.toList,fn.ntmps,pur⟩
def D6(pur:Nat->Bool):List (Nat×Func)->FuncId->Option Fx
 |[],_=>none
 | (k,fn)::l,f=>match Nat.beq f k with
   |true=>some (F3 fn (pur f))
   |false=>D6 pur l f
def uTB  {f:FuncId}  {p:Bool}(h:P.funcs[f]?=some fn)(hb:okB fn=true):FnOk P f fn (F3 fn p).c (F3 fn p).rs (F3 fn p).nt:=by
 unfold okB at hb;simp only[xO]at hb;obtain⟨⟨⟨h1,h2⟩,h3⟩,h4⟩:=hb;refine⟨h,?_,?_,rfl,?_,h3,h4⟩
 .cases e:fn.body with
  |none=>rw[e]at h1;cases h1
  |some c=>simp[F3,e]
 .simpa using h2
 .simp[F3]
def oN  {pur:Nat->Bool}:gP P (D6 pur []):=fun f x h=>by cases h
def oC  {pur:Nat->Bool}{k:Nat}  {l:List (Nat×Func)}(h:P.funcs[k]?=some fn)(ih:gP P (D6 pur l))(hb:okB fn=true:=by kernel_rfl):gP P (D6 pur ((k,fn)::l)):=fun f x h'=>by
 unfold D6 at h'
 split at h'
 .rename_i e
  cases h'
  have e:=CR e;subst e;exact⟨fn,uTB h hb⟩
 .exact ih f x h'
end Go.PI
