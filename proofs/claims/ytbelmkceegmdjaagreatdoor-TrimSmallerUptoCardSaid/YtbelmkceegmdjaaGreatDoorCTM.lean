/-
  The program's Lemmas.
-/
import Derived.Test.YtbelmkceegmdjaaGreatDoorCTR
set_option linter.unusedVariables false
set_option linter.unusedSimpArgs false
set_option linter.unnecessarySimpa false
set_option maxHeartbeats 0
namespace Go.PI.Tryz
open Go.Proofs Go.PI
def vL8(r:RowL):Prop:=(-9223372036854775808<=r.lo/\r.lo<9223372036854775808)/\(-9223372036854775808<=r.hi/\r.hi<9223372036854775808)
def vSY(r:RowL):Prop:=-9223372036854775808<=r.index/\r.index<9223372036854775808
def vCY(l:List MultL):Prop:=l.length<2097152/\∀ m∈l,vL8 m.row/\vSY m.row
abbrev vVJ(m:Nat):PV:=.raw (.map (some m))
theorem uM8:Tryz.prog.underlying 78=some (.map 3 4):=by kernel_rfl
theorem uOP:Tryz.prog.underlying 3=some (.int .i64):=by kernel_rfl
def uO3(ks:List Int)(m:Nat)(l:List MultL)(μ:Mp):Prop:=∃ es clock ks',μ=[(m,.map es clock)]/\IsSet ks' es clock/\∀ k,k∈ks'↔k∈ks\/k∈vC9 l
theorem vRH{l:List MultL}{i:Nat}(h:i<l.length):vC9 (l.take (i+1))=vC9 (l.take i)++vC9 [l[i]!]:=by
 rw[rA0 h,rAS l i h];unfold vC9;rw[List.flatMap_append]
def vJX(vs:List Int):List Int:=vs.flatMap fun v=>if 0<v then [v - 1] else []
theorem vRY(m:MultL):vC9 [m]=vJX [m.row.lo,m.row.hi]:=by simp[vC9,vJX]
theorem uH7:FO 53 Tryz.f53 [] 31:=mkO Tryz.func53 Tryz.ntmps53 Tryz.results53
theorem uNE(m:Nat)(es:Array MapEntry)(clock:Nat)(ks:List Int)(l:List MultL)(hs:IsSet ks es clock)(hl:vCY l)(t:Tm) :
 FnM Tryz.prog G0 53 [vVJ m,.imm (l.map vBA)] (fun pv s' μ'=>pv=.tup []/\uO3 ks m l μ') ⟨t,fun _=>none,fun _=>false,0⟩ [(m,.map es clock)]:=by
 refine uLD vBC uH7 zsm ?_;refine zAY (zBU vBC hT rAB ?_);refine sts ?_;refine vDD (zCK ?_)
 refine zGG (fun((i,_):Nat×Array MapEntry×Nat×List Int)=>[(0,vVJ m),(8,.imm (l.map vBA)),(9,.int .i64 l.length),(10,.int .i64 i)]) (fun _=>[]) [] 0 (fun((_,es,clock,_):Nat×Array MapEntry×Nat×List Int)=>[(m,.map es clock)])
  (fun((i,es,clock,ks'):Nat×Array MapEntry×Nat×List Int)=>i<=l.length/\IsSet ks' es clock/\∀ k,k∈ks'↔k∈ks\/k∈vC9 (l.take i)) (fun((i,_):Nat×Array MapEntry×Nat×List Int)=>l.length - i) (0,es,clock,ks) ⟨zsm,hs,by simp[vC9]⟩ zdd zsm ?_ rfl ?_
 .exact⟨[],[],[],[],ttt,⟨zD5 rfl,rAJ,zAC rfl zsm,rAI,rGW⟩,rGW,rAA⟩
 rintro⟨i,es,clock,ks'⟩ ⟨hi,hs,hk⟩
 dsimp only at hi hs hk ⊢;refine zAY (zBU vBC hT rAB ?_);refine sts ?_;refine vDD (zAY (zBU vBC hT rAB ?_))
 refine gob ?_ ?_<;>intro h
 .have hi':i<l.length:=by omega
  have hr:=(hl.2 _ (zAX hi')).1;have hln:l.length<2097152:=hl.1;unfold vL8 at hr;refine vDD (zAY (zCK ?_));refine zAY (zBU vBC hT rAB ?_);refine sts ?_;refine vDD (zAY (zBU vBC hT rAB ?_));refine sts ?_;refine vDD (zCK ?_)
  refine zGG (fun((j,_):Nat×Array MapEntry×Nat×List Int)=>[(0,vVJ m),(8,.imm (l.map vBA)),(9,.int .i64 l.length),(10,.int .i64 i),(20,.agg [.int .i64 l[i]!.row.lo,.int .i64 l[i]!.row.hi]),(21,.int .i64 j)]) (fun _=>[]) [] 0 (fun((_,es,clock,_):Nat×Array MapEntry×Nat×List Int)=>[(m,.map es clock)])
   (fun((j,es,clock,ks2):Nat×Array MapEntry×Nat×List Int)=>j<=2/\IsSet ks2 es clock/\∀ k,k∈ks2↔k∈ks'\/k∈vJX ([l[i]!.row.lo,l[i]!.row.hi].take j)) (fun((j,_):Nat×Array MapEntry×Nat×List Int)=>2 - j) (0,es,clock,ks') ⟨zsm,hs,by simp[vJX]⟩ zdd zsm ?_ rfl ?_
  .exact⟨[],[],[],[],ttt,⟨zD5 rfl,rAJ,rAI,rAI,vLH rfl ⟨rfl,rfl,rGW⟩,rAI,rGW⟩,rGW,rAA⟩
  rintro⟨j,es2,clock2,ks2⟩ ⟨hj,hs2,hk2⟩
  dsimp only at hj hs2 hk2 ⊢;refine zAY (zBU vBC hT rAB ?_);refine sts ?_;refine vDD (zAY (zBU vBC hT rAB ?_));obtain rfl | rfl | rfl:j=0\/j=1\/j=2:=by omega
  all_goals ((refine sts ?_))
  all_goals try (exfalso; omega)
  .refine vDD (zAY (zCK ?_))
   refine zAY (zBU vBC hT rAB ?_);refine sts ?_;refine vDD (zAY (zBU vBC hT rAB ?_));refine sts ?_;refine vDD (zJM (t:=decide (0<l[i]!.row.lo)) rfl rfl (fun hp=>?_) (fun hp=>?_))
   .rw[rAX]at hp
    refine zCJ (zHA hT 3 rfl ?_);refine sts ?_;refine zJD (k:=l[i]!.row.lo - 1) (μ1:=[]) (μ2:=[]) rfl rfl rfl rfl rfl rfl uM8 uOP hs2 fun es3 clock3 hs3=>zDS ?_
    refine vDD (zBU vBC hT rAB ?_);refine sts ?_;refine⟨(1,es3,clock3,uDT ks2 (l[i]!.row.lo - 1)),⟨⟨zom,hs3,fun k=>?_⟩,zom⟩,⟨[],[],[],[],ttt,⟨zD5 rfl,rAJ,rAI,rAI,vLH rfl ⟨rfl,rfl,rGW⟩,rAI,rGW⟩,rGW,rAA⟩,rfl⟩;rw[vHT,hk2]
    revert hp
    generalize l[i]!.row.lo=v;generalize l[i]!.row.hi=u;intro hp;simp[vJX,hp,or_assoc]
   .rw[rB5]at hp
    refine zJL (vDD (zBU vBC hT rAB ?_));refine sts ?_;refine⟨(1,es2,clock2,ks2),⟨⟨zom,hs2,fun k=>?_⟩,zom⟩,⟨[],[],[],[],ttt,⟨zD5 rfl,rAJ,rAI,rAI,vLH rfl ⟨rfl,rfl,rGW⟩,rAI,rGW⟩,rGW,rAA⟩,rfl⟩;rw[hk2]
    revert hp
    generalize l[i]!.row.lo=v;generalize l[i]!.row.hi=u;intro hp;simp[vJX,hp]
  .refine vDD (zAY (zCK ?_))
   refine zAY (zBU vBC hT rAB ?_);refine sts ?_;refine vDD (zAY (zBU vBC hT rAB ?_));refine sts ?_;refine vDD (zJM (t:=decide (0<l[i]!.row.hi)) rfl rfl (fun hp=>?_) (fun hp=>?_))
   .rw[rAX]at hp
    refine zCJ (zHA hT 3 rfl ?_);refine sts ?_;refine zJD (k:=l[i]!.row.hi - 1) (μ1:=[]) (μ2:=[]) rfl rfl rfl rfl rfl rfl uM8 uOP hs2 fun es3 clock3 hs3=>zDS ?_
    refine vDD (zBU vBC hT rAB ?_);refine sts ?_;refine⟨(2,es3,clock3,uDT ks2 (l[i]!.row.hi - 1)),⟨⟨zom,hs3,fun k=>?_⟩,zom⟩,⟨[],[],[],[],ttt,⟨zD5 rfl,rAJ,rAI,rAI,vLH rfl ⟨rfl,rfl,rGW⟩,rAI,rGW⟩,rGW,rAA⟩,rfl⟩;rw[vHT,hk2]
    revert hp
    generalize l[i]!.row.lo=v;generalize l[i]!.row.hi=u;intro hp;simp[vJX,hp,or_assoc]
   .rw[rB5]at hp
    refine zJL (vDD (zBU vBC hT rAB ?_));refine sts ?_;refine⟨(2,es2,clock2,ks2),⟨⟨zom,hs2,fun k=>?_⟩,zom⟩,⟨[],[],[],[],ttt,⟨zD5 rfl,rAJ,rAI,rAI,vLH rfl ⟨rfl,rfl,rGW⟩,rAI,rGW⟩,rGW,rAA⟩,rfl⟩;rw[hk2]
    revert hp
    generalize l[i]!.row.lo=v;generalize l[i]!.row.hi=u;intro hp;simp[vJX,hp]
  .refine vDD (zBU vBC hT rAB ?_)
   refine sts ?_;refine⟨(i+1,es2,clock2,ks2),⟨⟨zom,hs2,fun k=>?_⟩,zom⟩,⟨[],[],[],[],ttt,⟨zD5 rfl,rAJ,rAI,zAC rfl zom,rGW⟩,rGW,rAA⟩,rfl⟩;rw[hk2,hk,vRH hi',vRY,rAY,or_assoc];rfl
 .exact⟨_,rfl,rfl,_,_,_,rfl,hs,by
   rw[show i=l.length by omega,rBP]at hk
   exact hk⟩
mutual
def vC2:NodeL->Int->List (List Bool)
 | .mk l s ks e p,b=>ownB l ks p b::vBT ks (b+l.length)
def vBT:List NodeL->Int->List (List Bool)
 | [],_=>[]
 | k::ks,b=>vC2 k b++vBT ks b
end
abbrev uFJ(bs:List Bool):PV:=.imm (bs.map .bool)
abbrev vD0(ls:List (List Bool)):List PV:=ls.map uFJ
inductive NodeRg:NodeL->Prop
 | mk (n:NodeL) (h1:n.lemmas.length<2097152) (h2:∀ m∈n.lemmas,vCY m.proof) (h3:vCY n.proof) (h4:n.kids.length<2097152) (h5:∀ k∈n.kids,NodeRg k):NodeRg n
theorem NodeRg.ln{n:NodeL}(h:NodeRg n):n.lemmas.length<2097152:=by cases h; assumption
theorem NodeRg.lem{n:NodeL}(h:NodeRg n):∀ m∈n.lemmas,vCY m.proof:=by cases h; assumption
theorem NodeRg.prf{n:NodeL}(h:NodeRg n):vCY n.proof:=by cases h; assumption
theorem NodeRg.kn{n:NodeL}(h:NodeRg n):n.kids.length<2097152:=by cases h; assumption
theorem NodeRg.kid{n:NodeL}(h:NodeRg n):∀ k∈n.kids,NodeRg k:=by cases h; assumption
def frK(e:PV):Prop:=(∃ u,e=.raw u)\/∃ es,e=.imm es
theorem frK.nr{e:PV}(h:frK e):nr 3 e=true/\e≠.any:=by rcases h with⟨u,rfl⟩ | ⟨u,rfl⟩<;>exact⟨rfl,zsm⟩
theorem frK.frz{e:PV}(h:frK e)(hp:Hp)(n:Nat):frz hp n e=some (e,[]):=by rcases h with⟨u,rfl⟩ | ⟨u,rfl⟩<;>cases n<;>rfl
theorem frK.rn{e:PV}(h:frK e)(ρ:Nat->Nat)(k:Nat):rn ρ k 3 e e:=by
 rcases h with⟨u,rfl⟩ | ⟨u,rfl⟩
 .rw[uFK]
 .rw[vU9]
theorem vVB{f:PV->PV->Prop}:∀ {a a' b b':List PV},rnL f a a'->rnL f b b'->rnL f (a++b) (a'++b')
 | [],[],_,_,_,h=>h
 | _::_,_::_,_,_,h,h2=>⟨h.1,vVB h.2 h2⟩
 | [],_::_,_,_,h,_=>h.elim
 | _::_,[],_,_,h,_=>h.elim
theorem vVA{ρ:Nat->Nat}{k:Nat}:∀ {l:List PV},(∀ e∈l,frK e)->rnL (rn ρ k 3) l l
 | [],_=>trivial
 | e::l,h=>⟨(h e zsm).rn ρ k,vVA fun x hx=>h x (by simp[hx])⟩
theorem zCW{ls:List (List Bool)}:∀ e∈vD0 ls,frK e:=fun e he=>by obtain⟨x,_,rfl⟩:=rA5.1 he; exact rAZ ⟨_,rfl⟩
theorem zGD{ρ:Nat->Nat}{k:Nat}{Z:List Nat}{r p p' n n':Nat}{pre post els':List PV}{h:Hp}{z:Fz}(hr:r<k)(hb:h (ρ r)=some ⟨els',1,false⟩)(he:els'=pre++.own p' 0 n'::post)(hp:p<k)(e:p'=ρ p)(en:n'=n)(hpre:∀ e∈pre,frK e)(hpost:∀ e∈post,frK e)(hz:vPT Z r=z (ρ r)) :
 vTC ρ k Z r ⟨pre++.own p 0 n::post,1,false⟩ h z:=by
 subst he e en;refine⟨hr,fun e he=>?_,⟨_,hb,rfl,rfl,rAZ (vVB (vVA hpre) ⟨by rw[zD2]; exact⟨hp,rfl⟩,vVA hpost⟩)⟩,hz⟩;simp only[rAY,rA7]at he;rcases he with he | rfl | he
 .exact(hpre e he).nr.2
 .simp
 .exact(hpost e he).nr.2
theorem zCV{h:Hp}{n r:Nat}{d:NodeL}{sz:Nat}{agg:Bool}(hb:h r=some ⟨[vA7 d],sz,agg⟩):frz h (n+2) (.ptr r 0 0)=some (.cptr (vA7 d) 0,[r]):=by
 have he:frz h (n+1) (vA7 d)=some (vA7 d,[]):=by rw[<- zBQ]; exact zF4 d
 unfold frz;simp only[hb,List.getElem?_cons_zero,he]
def uPS(n:NodeL)(b:Int)(pre:List PV)(pv:PV)(s':St)(μ':Mp):Prop :=
 (∃ m es clock ks,pv=vVJ m/\μ'=[(m,.map es clock)]/\IsSet ks es clock/\∀ k,k∈ks↔k∈vFH n b)/\nr 3 pv=true/\∃ k',k'≠0/\k'<s'.nx/\s'.h 0=some ⟨[.own k' 0 (pre.length+(vC2 n b).length)],1,false⟩/\s'.h k'=some ⟨pre++vD0 (vC2 n b),1,false⟩/\s'.z 0=false/\s'.z k'=false
abbrev vPE(b:Int)(n:NodeL)(i:Nat):List Int:=vC9 n.proof++vDU (n.kids.take i) (b+n.lemmas.length)
theorem vH0{ks:List NodeL}{i:Nat}(h:i<ks.length):((ks.take i).map NodeL.wt).sum+ks[i]!.wt<=(ks.map NodeL.wt).sum:=by
 have:=zD6 (f:=NodeL.wt) h;have:=sum_take_le (f:=NodeL.wt) (l:=ks) (i:=i+1);omega
theorem zIM:∀ (l:List LemL),l.length<=(l.map vCN).sum
 | []=>by simp
 | m::l=>by have:=zIM l; simp[vCN]; omega
mutual
theorem vKF:∀ (n:NodeL) (b:Int),(vC2 n b).length<=n.wt
 | .mk l s ks e p,b=>by
   have:=zIK ks (b+l.length);rw[NodeL.wt_eq];simp only[vC2,List.length_cons,NodeL.lemmas,NodeL.proof,NodeL.kids];omega
theorem zIK:∀ (ks:List NodeL) (b:Int),(vBT ks b).length<=(ks.map NodeL.wt).sum
 | [],_=>by simp[vBT]
 | k::ks,b=>by
   have h1:=vKF k b;have h2:=zIK ks b;simp only[vBT,rAU,rBJ,List.sum_cons];omega
end
theorem zQI:∀ (ks ks':List NodeL) (b:Int),vBT (ks++ks') b=vBT ks b++vBT ks' b
 | [],_,_=>rfl
 | k::ks,ks',b=>by simp only[List.cons_append,vBT,zQI ks ks' b,rBG]
theorem vI4:∀ (ks ks':List NodeL) (b:Int),vDU (ks++ks') b=vDU ks b++vDU ks' b
 | [],_,_=>rfl
 | k::ks,ks',b=>by simp only[List.cons_append,vDU,vI4 ks ks' b,rBG]
theorem zOK{ks:List NodeL}{i:Nat}(h:i<ks.length)(b:Int):vBT (ks.take (i+1)) b=vBT (ks.take i) b++vC2 ks[i]! b:=by
 rw[rA0 h,rAS ks i h,zQI];simp[vBT]
theorem vRI{ks:List NodeL}{i:Nat}(h:i<ks.length)(b:Int):vDU (ks.take (i+1)) b=vDU (ks.take i) b++vFH ks[i]! b:=by
 rw[rA0 h,rAS ks i h,vI4];simp[vDU]
theorem FnM.args{f:FuncId}{args args':List PV}{K:PV->St->Mp->Prop}{s:St}{μ:Mp}(e:args=args')(h:FnM Tryz.prog G0 f args' K s μ):FnM Tryz.prog G0 f args K s μ:=e ▸ h
theorem uOE{a b b' c:PV}(h:b=b'):[a,b,c]=[a,b',c]:=h ▸ rfl
abbrev uQK(it:Nat):PV:=.raw (.pointer (some ⟨it,0,none⟩))
theorem vNG{h:Hp}{n:Nat}:∀ {l:List PV},(∀ e∈l,frK e)->vB6 (frz h n) l=some (l,[])
 | [],_=>rfl
 | e::l,hl=>zAD ((hl e zsm).frz h n) (vNG fun x hx=>hl x (by simp[hx]))
theorem vPU{f:PV->Option (PV×List Nat)}:∀ {l a l' b:List PV} {ks ls:List Nat},vB6 f l=some (a,ks)->vB6 f l'=some (b,ls)->vB6 f (l++l')=some (a++b,ks++ls)
 | [],a,l',b,ks,ls,h,h2=>by simp[vB6]at h; obtain⟨rfl,rfl⟩:=h; exact h2
 | x::l,a,l',b,ks,ls,h,h2=>by
   unfold vB6 at h
   split at h
   .rename_i d ks1 ds ls1 e1 e2
    cases h
    have:=zAD e1 (vPU e2 h2);rw[rBG];exact this
   .cases h
theorem uOT:(Tryz.prog.info? 4).bind (·.zero)=some (.bool false):=by kernel_rfl
theorem uOU(w:World):(zeroValue 4).run Tryz.prog w=.ok (.bool false) w:=by
 obtain⟨i,hi,hz⟩:=rGP.1 uOT;simp[zeroValue,typeInfo,hi,hz,Result.andThen]
abbrev vD9(b:Int)(n:NodeL)(j:Nat):List Bool×List Int:=keepR (n.lemmas.drop j) (b+j) (vC9 n.proof++vDU n.kids (b+n.lemmas.length))
abbrev vV2(b:Int)(n:NodeL)(j:Nat):List PV:=List.replicate j (.bool false)++(vD9 b n j).1.map .bool
theorem uIU:FO 35 Tryz.f35 [.tmp 6] 86:=mkO Tryz.func35 Tryz.ntmps35 Tryz.results35
theorem uNF:∀ (sz:Nat) (n:NodeL) (b:Int) (pre:List PV) (t:Tm),SizeOf.sizeOf n<sz->NodeRg n->0<=b->b+n.wt<=4611686018427387904->pre.length+n.wt<=1073741824->(∀ e∈pre,frK e) ->
 FnM Tryz.prog G0 35 [vA7 n,.int .i64 b,.ptr 0 0 0] (uPS n b pre) ⟨t,hv [(0,⟨[.own 1 0 pre.length],1,false⟩),(1,⟨pre,1,false⟩)],zv [],2⟩ []:=by
 intro sz
 induction sz with
 | zero=>intro n b pre t h; omega
 | succ sz ih =>
   intro n b pre t hsz hn hb hbw hpw hpre;have hwt:=n.wt_eq;have hll:n.lemmas.length<=(n.lemmas.map vCN).sum:=zIM _;have hln:=hn.ln;have hkn:=hn.kn;refine uLD vBC uIU zsm ?_;refine zAY (zBU vBC hT rAB ?_);refine sns ?_;refine vDD (zAY (zBU vBC hT rAB ?_));refine sns ?_;refine vDD (zAY (zBU vBC hT rAB ?_));refine sns ?_;refine vFI [] [(1,.int .i64 b),(2,.ptr 0 0 0),(3,.cptr (vA7 n) 0),(7,.int .i64 pre.length)] [(0,⟨[.own 2 0 (pre.length+1)],1,false⟩),(2,⟨pre++.own 3 0 n.lemmas.length::[],1,false⟩),(3,⟨List.replicate n.lemmas.length (.bool false),1,false⟩)] [] 4 zdd zsm trivial ?_ ?_
   .exact⟨[18,16],[2],[(3,.cptr (vA7 n) 0)],[],⟨⟨⟨_,rfl⟩,rGW⟩,⟨⟨6,[2],zCV rfl,rfl⟩,rGW⟩,rGW⟩,⟨zAC rfl rfl,apx,zAH rfl,zAC rfl rfl,rGW⟩,⟨zAJ zdd rfl (by rw[zD2]; exact⟨zdd,rfl⟩) rfl rfl,zGD zdd rfl (by simp; rfl) zdd rfl rfl hpre zsm rfl,zAG zdd rfl zsm (fun e he=>by rw[rB9 he]; exact⟨rfl,zsm⟩) rfl,rGW⟩,rAA⟩
   refine zAY (zCJ (vV5 rfl rfl rfl fun m=>zHA hT 1 rfl ?_));refine sns ?_;refine zDS (vDD (zAY (zCJ (zHA hT 3 rfl ?_))));refine sns ?_;refine zJ7 rfl rfl rfl rfl ?_;refine(vRE (uNE m #[] 0 [] n.proof vYF hn.prf (fun _=>.any)) (fun a ha=>?_)).mono fun pv s' μ' hK=>?_
   .simp only[rA7,rCX,rE7]at ha
    rcases ha with rfl | rfl<;>rfl
   obtain⟨rfl,hK⟩:=hK;have hu:uO3 [] m n.proof μ':=by rcases hK with⟨⟨_,_,h⟩,_⟩ | ⟨_,_,_,_,h⟩<;>exact h
   clear hK;obtain⟨es,clock,ks,rfl,hs,hks⟩:=hu;simp only[rCX,false_or]at hks;refine zDS (vDD (zAY (zAY (zBU vBC hT rAB ?_))));refine sns ?_;refine vDD (zCK ?_)
   refine zGG (fun((i,_):Nat×Array MapEntry×Nat×List Int)=>[(1,.int .i64 b),(2,.ptr 0 0 0),(3,.cptr (vA7 n) 0),(7,.int .i64 pre.length),(8,vVJ m),(34,.imm (n.kids.map vBF)),(35,.int .i64 n.kids.length),(36,.int .i64 i)])
    (fun((i,_):Nat×Array MapEntry×Nat×List Int)=>[(0,⟨[.own 2 0 (pre.length+1+(vBT (n.kids.take i) (b+n.lemmas.length)).length)],1,false⟩),(2,⟨pre++.own 3 0 n.lemmas.length::vD0 (vBT (n.kids.take i) (b+n.lemmas.length)),1,false⟩),(3,⟨List.replicate n.lemmas.length (.bool false),1,false⟩)]) [] 4
    (fun((_,es,clock,_):Nat×Array MapEntry×Nat×List Int)=>[(m,.map es clock)])
    (fun((i,es,clock,ks):Nat×Array MapEntry×Nat×List Int)=>i<=n.kids.length/\IsSet ks es clock/\∀ k,k∈ks↔k∈vPE b n i) (fun((i,_):Nat×Array MapEntry×Nat×List Int)=>n.kids.length - i) (0,es,clock,ks) ⟨zsm,hs,by simpa [vPE,vDU]using hks⟩ zdd zsm ?_ rfl ?_
   .exact⟨[2,3],[],[],[],ttt,⟨rAI,apx,zAH rfl,rAI,zD5 rfl,rAJ,zAC rfl zsm,rAI,rGW⟩,
     ⟨zAJ zdd rfl (by rw[zD2]; exact⟨zdd,rfl⟩) rfl rfl,zGD zdd rfl rfl zdd rfl rfl hpre zCW rfl,zAG zdd rfl rfl (fun e he=>by rw[rB9 he]; exact⟨rfl,zsm⟩) rfl,rGW⟩,rAA⟩
   .clear hs hks
    rintro⟨i,es,clock,ks⟩ ⟨hi,hs,hks⟩
    dsimp only at hi hs hks ⊢;refine zAY (zBU vBC hT rAB ?_);refine sns ?_;refine vDD (zAY (zBU vBC hT rAB ?_))
    refine gon ?_ ?_<;>intro h
    .have hi':i<n.kids.length:=by omega
     refine vDD (zAY (zCK ?_));refine zAY (zBU vBC hT rAB ?_);refine sns ?_
     refine vFI [] [(1,.int .i64 b),(2,.ptr 0 0 0),(3,.cptr (vA7 n) 0),(7,.int .i64 pre.length),(8,vVJ m),(34,.imm (n.kids.map vBF)),(35,.int .i64 n.kids.length),(36,.int .i64 i),(10,.cptr (vA7 n.kids[i]!) 0)]
      [(0,⟨[.own 2 0 (pre.length+1+(vBT (n.kids.take i) (b+n.lemmas.length)).length)],1,false⟩),(2,⟨pre++.own 3 0 n.lemmas.length::vD0 (vBT (n.kids.take i) (b+n.lemmas.length)),1,false⟩),(3,⟨List.replicate n.lemmas.length (.bool false),1,false⟩)] [] 4 zdd zsm trivial ?_ ?_
     .exact⟨[2,3],[7],[(10,.cptr (vA7 n.kids[i]!) 0)],[],⟨⟨⟨_,rfl⟩,rGW⟩,⟨⟨6,[7],zCV rfl,rfl⟩,rGW⟩,rGW⟩,⟨zAC rfl rfl,apx,zAH rfl,zAC rfl rfl,zD5 rfl,zAE rfl rfl,zAC rfl rfl,zAC rfl rfl,zAH rfl,rGW⟩,
       ⟨zAJ zdd rfl (by rw[zD2]; exact⟨zdd,rfl⟩) rfl rfl,zGD zdd rfl rfl zdd rfl rfl hpre zCW rfl,zAG zdd rfl rfl (fun e he=>by rw[rB9 he]; exact⟨rfl,zsm⟩) rfl,rGW⟩,rAA⟩
     have hkm:n.kids[i]! ∈ n.kids:=zAX hi';have hks1:=vH0 hi';have hks2:=zIK (n.kids.take i) (b+n.lemmas.length);have hks3:=vKF n.kids[i]! (b+n.lemmas.length);refine zAY (zCJ (zHA hT 7 rfl ?_));refine sns ?_;refine zJ7 rfl rfl rfl rfl ?_;refine FnM.args (uOE (a:=vA7 n.kids[i]!) (b:=.int .i64 (b+((List.map vBB n.lemmas).length:Nat))) (b':=.int .i64 (b+n.lemmas.length)) (c:=.ptr 0 0 0) (by rw[rAM])) ?_;refine(uAO (μ:=[]) [(m,.map es clock)] (uLE (K0:=fun pv μ'=>∃ m es clock ks,pv=vVJ m/\μ'=[(m,.map es clock)]/\IsSet ks es clock/\∀ k,k∈ks↔k∈vFH n.kids[i]! (b+n.lemmas.length)) (k:=2) (p:=3) (n:=n.lemmas.length) (L:=pre.length+1+(vBT (n.kids.take i) (b+n.lemmas.length)).length) (pre:=pre) (post:=vD0 (vBT (n.kids.take i) (b+n.lemmas.length))) (new:=vD0 (vC2 n.kids[i]! (b+n.lemmas.length))) (t0:=fun _=>.any) zsm (fun u=>?_) (fun a ha=>?_) zsm (fun e he=>?_) (fun e he=>(zCW e he).nr.1) rfl rfl zdd zdd zdd rfl rfl)).mono fun pv2 s' μ' hK=>?_
     .have e1:(pre++.raw u::vD0 (vBT (n.kids.take i) (b+n.lemmas.length))).length=pre.length+1+(vBT (n.kids.take i) (b+n.lemmas.length)).length:=by
       simp; omega
      have hI:=ih n.kids[i]! (b+n.lemmas.length) (pre++.raw u::vD0 (vBT (n.kids.take i) (b+n.lemmas.length))) (fun _=>.any) (by have:=NodeL.sizeOf_kid hkm; omega) (hn.kid _ hkm) zom zom (by rw[e1]; omega) (fun e he=>by
       simp only[rAY,rA7]at he;rcases he with he | rfl | he
       .exact hpre e he
       .exact rAW ⟨_,rfl⟩
       .exact zCW e he)
      rw[zHD,zHC,e1]at hI;refine hI.mono fun pv s' μ' ⟨k1,k2,k',k3,k4,k5,k6,k7,k8⟩=>⟨k1,k2,k',k3,k4,?_,?_,k7,k8⟩
      .rw[k5,e1]; simp
      .rw[k6]; simp
     .simp only[rA7,rCX,rE7]at ha
      rcases ha with rfl | rfl | rfl
      .exact rAZ rfl
      .exact rAZ rfl
      .exact rAW rfl
     .simp only[rAY]at he
      rcases he with he | he
      .exact(hpre e he).nr.1
      .exact(zCW e he).nr.1
     obtain⟨μ2,rfl,⟨mk,esk,clk,ksk,rfl,rfl,hsk,hksk⟩,rfl⟩:=hK
     refine uB3 rfl rfl rfl rfl uM8 (m:=mk) (es:=esk) (clock:=clk) zsm fun it=>zDS (vFI [] [(1,.int .i64 b),(2,.ptr 0 0 0),(3,.cptr (vA7 n) 0),(7,.int .i64 pre.length),(8,vVJ m),(34,.imm (n.kids.map vBF)),(35,.int .i64 n.kids.length),(36,.int .i64 i),(48,uQK it)]
      [(0,⟨[.own 2 0 (pre.length+1+(vBT (n.kids.take (i+1)) (b+n.lemmas.length)).length)],1,false⟩),(2,⟨pre++.own 3 0 n.lemmas.length::vD0 (vBT (n.kids.take (i+1)) (b+n.lemmas.length)),1,false⟩),(3,⟨List.replicate n.lemmas.length (.bool false),1,false⟩)] [] 4 zdd zsm trivial ?_ ?_)
     .exact⟨[11,3],[],[],[],ttt,⟨rAI,apx,zAH rfl,rAI,zD5 rfl,rAJ,rAI,rAI,zD5 rfl,rGW⟩,
       ⟨zAJ zdd rfl (by rw[zD2]; exact⟨zdd,by simp[zOK hi']; exact⟨rfl,zom⟩⟩) rfl rfl,zGD zdd rfl (by rw[zOK hi']; simp; rfl) zdd rfl rfl hpre zCW rfl,zAG zdd rfl rfl (fun e he=>by rw[rB9 he]; exact⟨rfl,zsm⟩) rfl,rGW⟩,rAA⟩
     refine zCK ?_;have hold:∀ x∈esk.toList,x.born<clk:=hsk.2.1
     refine zGG (fun _:Array Nat×Array MapEntry×Nat×List Int=>[(1,.int .i64 b),(2,.ptr 0 0 0),(3,.cptr (vA7 n) 0),(7,.int .i64 pre.length),(8,vVJ m),(34,.imm (n.kids.map vBF)),(35,.int .i64 n.kids.length),(36,.int .i64 i),(48,uQK it)])
      (fun _=>[(0,⟨[.own 2 0 (pre.length+1+(vBT (n.kids.take (i+1)) (b+n.lemmas.length)).length)],1,false⟩),(2,⟨pre++.own 3 0 n.lemmas.length::vD0 (vBT (n.kids.take (i+1)) (b+n.lemmas.length)),1,false⟩),(3,⟨List.replicate n.lemmas.length (.bool false),1,false⟩)]) [] 4
      (fun((seen,es,clock,_):Array Nat×Array MapEntry×Nat×List Int)=>[(it,.mapIter (some mk) clk seen clk),(mk,.map esk clk),(m,.map es clock)])
      (fun((seen,es,clock,ks'):Array Nat×Array MapEntry×Nat×List Int)=>IsSet ks' es clock/\∀ k,k∈ks'↔k∈ks\/∃ e∈esk.toList,seen.contains e.born=true/\e.key=.int .i64 k) (fun((seen,_):Array Nat×Array MapEntry×Nat×List Int)=>(leftOf esk seen).size) (#[],es,clock,ks) ⟨hs,fun k=>by simp⟩ zdd zsm ?_ rfl ?_
     .exact⟨[2,3],[],[],[],ttt,⟨rAI,apx,zAH rfl,rAI,zD5 rfl,rAJ,rAI,rAI,zD5 rfl,rGW⟩,
       ⟨zAJ zdd rfl (by rw[zD2]; exact⟨zdd,rfl⟩) rfl rfl,zGD zdd rfl rfl zdd rfl rfl hpre zCW rfl,zAG zdd rfl rfl (fun e he=>by rw[rB9 he]; exact⟨rfl,zsm⟩) rfl,rGW⟩,rAA⟩
     rintro⟨seen,es2,clock2,ks2⟩ ⟨hs2,hks2⟩
     dsimp only at hs2 hks2 ⊢;refine zAY (zCJ (vV4 (m:=mk) (es:=esk) (clock:=clk) (μ1:=[]) (μ2:=[(mk,.map esk clk),(m,.map es2 clock2)]) rfl rfl rfl rfl zsm hold (rAO _) (fun h0=>?_) (fun e he=>?_)))
     .refine zHA hT 1 rfl ?_
      refine sns ?_;refine zDS (vDD (zAY (zBU vBC hT rAB ?_)));refine sns ?_;refine vDD (vTS (μ2:=[(m,.map es2 clock2)]) zsm (zBU vBC hT rAB ?_));refine sns ?_
      refine⟨(i+1,es2,clock2,ks2),⟨⟨zom,hs2,fun k=>?_⟩,zom⟩,⟨[2,3],[],[],[],ttt,⟨rAI,apx,zAH rfl,rAI,zD5 rfl,rAJ,rAI,zAC rfl zom,rGW⟩,
       ⟨zAJ zdd rfl (by rw[zD2]; exact⟨zdd,rfl⟩) rfl rfl,zGD zdd rfl rfl zdd rfl rfl hpre zCW rfl,zAG zdd rfl rfl (fun e he=>by rw[rB9 he]; exact⟨rfl,zsm⟩) rfl,rGW⟩,rAA⟩,rfl⟩
      unfold vPE at hks ⊢;rw[hks2,hks,vRI hi',<- rBG,rAY (t:=vFH _ _),<- hksk];refine or_congr_right ⟨fun⟨e,h1,_,h3⟩=>?_,fun hk=>?_⟩
      .obtain⟨k',h4,h5,_⟩:=hsk.key h1
       rw[h5]at h3;cases h3
       exact h4
      .obtain⟨e,h1,h2⟩:=hsk.mem hk
       exact⟨e,h1,all_seen esk seen h0 e h1,h2⟩
     .refine zHA hT 1 rfl ?_
      refine sns ?_;refine zDS (vDD (zAY (zBU vBC hT rAB ?_)));refine sns ?_;obtain⟨hem,hen⟩:=mem_left he;obtain⟨k,hk,ek,ev⟩:=hsk.key hem;refine vDD (zCK (zAY (zCJ (vR1 (m:=mk) (it:=it) (k:=k) (since:=clk) (seen:=seen) (e:=e) (es:=esk) (clock:=clk) rfl rfl rfl rfl zsm zsm hem hsk.2.2.1 ek (zHA hT 2 rfl ?_)))));refine sns ?_;refine zDS (vDD (zCJ (zHA hT 2 rfl ?_)));refine sns ?_;refine zJD (k:=k) (m:=m) (es:=es2) (clock:=clock2) (μ1:=[(it,.mapIter (some mk) clk (seen.push e.born) clk),(mk,.map esk clk)]) (μ2:=[]) rfl rfl rfl rfl rfl rfl uM8 uOP hs2 fun es3 clock3 hs3=>zDS ?_
      refine⟨(seen.push e.born,es3,clock3,uDT ks2 k),⟨⟨hs3,fun j=>?_⟩,left_shrinks esk seen e he⟩,⟨[2,3],[],[],[],ttt,⟨rAI,apx,zAH rfl,rAI,zD5 rfl,rAJ,rAI,rAI,zD5 rfl,rGW⟩,
       ⟨zAJ zdd rfl (by rw[zD2]; exact⟨zdd,rfl⟩) rfl rfl,zGD zdd rfl rfl zdd rfl rfl hpre zCW rfl,zAG zdd rfl rfl (fun e he=>by rw[rB9 he]; exact⟨rfl,zsm⟩) rfl,rGW⟩,rAA⟩,rfl⟩
      rw[vHT,hks2,or_assoc];refine or_congr_right ⟨fun h=>?_,fun⟨e',h1,h2,h3⟩=>?_⟩
      .rcases h with⟨e',h1,h2,h3⟩ | rfl
       .exact⟨e',h1,by rw[contains_push,h2]; rfl,h3⟩
       .exact⟨e,hem,by rw[contains_push,beq_self_eq_true,rDH],ek⟩
      .rw[contains_push,rCL,rDL]at h2
       rcases h2 with h2 | h2
       .exact rAW ⟨e',h1,h2,h3⟩
       .have:=born_inj hsk.2.2.1 h1 hem h2
        subst this;rw[ek]at h3;cases h3
        exact rAZ rfl
    .obtain rfl:i=n.kids.length:=by omega
     unfold vPE at hks;simp only[rBP]at hks ⊢;refine vDD (zAY (zAY (zBU vBC hT rAB ?_)));refine sns ?_;refine vDD (zCK ?_);have hlr:=zIK n.kids (b+n.lemmas.length);have hnrB:∀ e∈List.replicate n.lemmas.length (PV.bool false),nr 3 e=true/\e≠.any:=fun e he=>by rw[rB9 he]; exact⟨rfl,zsm⟩
     have hnrJ:∀ j,∀ e∈vV2 b n j,nr 3 e=true/\e≠.any:=fun j e he=>by
      rcases rAY.1 he with he | he
      .rw[rB9 he]; exact⟨rfl,zsm⟩
      .obtain⟨x,_,rfl⟩:=rA5.1 he; exact⟨rfl,zsm⟩
     refine zGG (fun((j,_):Nat×Array MapEntry×Nat×List Int)=>[(1,.int .i64 b),(2,.ptr 0 0 0),(3,.cptr (vA7 n) 0),(7,.int .i64 pre.length),(8,vVJ m),(12,.int .i64 ((j:Int) - 1))])
      (fun((j,_):Nat×Array MapEntry×Nat×List Int)=>[(0,⟨[.own 2 0 (pre.length+1+(vBT n.kids (b+n.lemmas.length)).length)],1,false⟩),(2,⟨pre++.own 3 0 n.lemmas.length::vD0 (vBT n.kids (b+n.lemmas.length)),1,false⟩),(3,⟨vV2 b n j,1,false⟩)]) [] 4
      (fun((_,es,clock,_):Nat×Array MapEntry×Nat×List Int)=>[(m,.map es clock)])
      (fun((j,es,clock,ks):Nat×Array MapEntry×Nat×List Int)=>j<=n.lemmas.length/\IsSet ks es clock/\∀ k,k∈ks↔k∈(vD9 b n j).2) (fun((j,_):Nat×Array MapEntry×Nat×List Int)=>j) (n.lemmas.length,es,clock,ks) ⟨rAO _,hs,fun k=>by unfold vD9; rw[rFI]; exact hks k⟩ zdd zsm ?_ rfl ?_
     .exact⟨[2,3],[],[],[],ttt,⟨rAI,apx,zAH rfl,rAI,zD5 rfl,zAC rfl zsm,rGW⟩,
       ⟨zAJ zdd rfl (by rw[zD2]; exact⟨zdd,rfl⟩) rfl rfl,zGD zdd rfl rfl zdd rfl rfl hpre zCW rfl,zAG zdd rfl (by unfold vV2 vD9; rw[rFI]; simp[keepR]) (hnrJ _) rfl,rGW⟩,rAA⟩
     clear hs hks
     rintro⟨j,es,clock,ks⟩ ⟨hj,hs,hks⟩
     dsimp only at hj hs hks ⊢;refine zAY (zAY (zBU vBC hT rAB ?_));refine sns ?_;refine vDD (zBU vBC hT rAB ?_)
     refine gon ?_ ?_<;>intro h
     .obtain⟨j,rfl⟩:∃ i,j=i+1:=⟨j - 1,zom⟩
      have hj':j<n.lemmas.length:=by omega
      have ed:n.lemmas.drop j=n.lemmas[j]! :: n.lemmas.drop (j+1):=by rw[rAS n.lemmas j hj']; exact rBT hj'
      have hlm:n.lemmas[j]! ∈ n.lemmas:=zAX hj';refine vDD (zAY (zCK ?_));refine zAY (zCJ (zHA hT 4 rfl ?_));refine sns ?_;refine vV6 (k:=b+j) (m:=m) (es:=es) (clock:=clock) (ks:=ks) rfl rfl rfl rfl ?_ uM8 uOP uOU hs zsm (zDS (vDD ?_))
      .exact rA3 (PV.int .i64) zom
      refine zJM (t:=decide (b+j∈ks)) rfl rfl (fun hp=>?_) (fun hp=>?_)
      .rw[rAX]at hp
       refine zAY (zBU vBC hT rAB ?_);refine sns ?_;refine zKC (a:=.own 3 0 n.lemmas.length) (by rw[zD9]; simp) ?_;refine sns ?_;refine zKC (a:=.bool false) (by rw[zD9,show 0+(((j+1:Nat):Int) - 1).toNat=j by omega]; show(vV2 b n (j+1))[j]?=_; unfold vV2; rw[rBY zsm]; simp[rGS]) ?_;refine sns ?_;refine vDD (zCJ (zHA hT 7 rfl ?_));refine sns ?_;refine zA7 (j:=j) zom hj' ?_;refine sns ?_;refine zJ7 rfl rfl rfl rfl ?_;refine(vRE (uNE m es clock ks n.lemmas[j]!.proof hs (hn.lem _ hlm) (fun _=>.any)) (fun a ha=>?_)).mono fun pv3 s' μ' hK=>?_
       .simp only[rA7,rCX,rE7]at ha
        rcases ha with rfl | rfl<;>rfl
       obtain⟨rfl,hK⟩:=hK;have hu:uO3 ks m n.lemmas[j]!.proof μ':=by rcases hK with⟨⟨_,_,h⟩,_⟩ | ⟨_,_,_,_,h⟩<;>exact h
       clear hK;obtain⟨es3,clock3,ks3,rfl,hs3,hks3⟩:=hu;refine zDS (vDD (zBU vBC hT rAB ?_));refine sns ?_
       have ek:(vD9 b n j)=(true::(vD9 b n (j+1)).1,(vD9 b n (j+1)).2++vC9 n.lemmas[j]!.proof):=by
        unfold vD9
        rw[ed,zMC,rAV (by
         have:=(hks (b+j)).1 hp;unfold vD9 at this;rw[show b+((j+1:Nat):Int)=b+j+1 by omega]at this
         exact this),show b+((j+1:Nat):Int)=b+j+1 by omega]
       refine⟨(j,es3,clock3,ks3),⟨⟨zom,hs3,fun k=>?_⟩,by show j<j+1; omega⟩,⟨[2,3],[],[],[],ttt,⟨rAI,apx,zAH rfl,rAI,zD5 rfl,zAC rfl (by show _=((j:Nat):Int) - 1; omega),rGW⟩,
        ⟨zAJ zdd rfl (by rw[zD2]; exact⟨zdd,rfl⟩) rfl rfl,zGD zdd rfl rfl zdd rfl rfl hpre zCW rfl,zAG zdd rfl ?_ (hnrJ _) rfl,rGW⟩,rAA⟩,rfl⟩
       .rw[hks3,hks,ek,rAY]
       .show(vV2 b n (j+1)).set _ _=vV2 b n j
        rw[show 0+(((j+1:Nat):Int) - 1).toNat=j by omega];unfold vV2;rw[ek,List.replicate_succ',rBG,List.set_append_right _ _ zsm]
        simp
      .rw[rB5]at hp
       refine zJL (vDD (zBU vBC hT rAB ?_));refine sns ?_
       have ek:(vD9 b n j)=(false::(vD9 b n (j+1)).1,(vD9 b n (j+1)).2):=by
        unfold vD9
        rw[ed,zMC,rAN (fun hc=>hp ((hks (b+j)).2 (by
         unfold vD9;rw[show b+((j+1:Nat):Int)=b+j+1 by omega]
         exact hc))),show b+((j+1:Nat):Int)=b+j+1 by omega]
       refine⟨(j,es,clock,ks),⟨⟨zom,hs,fun k=>?_⟩,by show j<j+1; omega⟩,⟨[2,3],[],[],[],ttt,⟨rAI,apx,zAH rfl,rAI,zD5 rfl,zAC rfl (by show _=((j:Nat):Int) - 1; omega),rGW⟩,
        ⟨zAJ zdd rfl (by rw[zD2]; exact⟨zdd,rfl⟩) rfl rfl,zGD zdd rfl rfl zdd rfl rfl hpre zCW rfl,zAG zdd rfl ?_ (hnrJ _) rfl,rGW⟩,rAA⟩,rfl⟩
       .rw[hks,ek]
       .unfold vV2
        rw[ek,List.replicate_succ',rBG]
        simp
     .obtain rfl:j=0:=by omega
      have e0:vD9 b n 0=keepR n.lemmas b (vC9 n.proof++vDU n.kids (b+n.lemmas.length)):=by
       unfold vD9;rw[rFE,show b+((0:Nat):Int)=b by omega]
      have e1:vV2 b n 0=(ownB n.lemmas n.kids n.proof b).map PV.bool:=by
       unfold vV2;rw[e0];rfl
      have e2:vC2 n b=ownB n.lemmas n.kids n.proof b::vBT n.kids (b+n.lemmas.length):=by cases n; rfl
      have e3:vFH n b=(vD9 b n 0).2:=by rw[e0]; cases n; rfl
      have el:(ownB n.lemmas n.kids n.proof b).length=n.lemmas.length:=zES _ _ _;refine vFI [] [(8,vVJ m)] [(0,⟨[.own 2 0 (pre.length+1+(vBT n.kids (b+n.lemmas.length)).length)],1,false⟩),(2,⟨pre++vD0 (vC2 n b),1,false⟩)] [] 3 zdd zsm trivial ?_ ?_
      .exact⟨[2],[3],[],[(2,pre++vD0 (vC2 n b))],⟨⟨⟨_,rfl⟩,rGW⟩,rGW,⟨⟨_,4,[3],rfl,by rw[e2]; exact vPU (ls:=[3]) (vNG hpre) (zAD (zAI rfl e1 el.symm (fun x=>rfl)) (vNG zCW)),rfl⟩,rGW⟩⟩,⟨zD5 rfl,rGW⟩,
        ⟨zAJ zdd rfl (by rw[zD2]; exact⟨zdd,rfl⟩) rfl rfl,zAG zdd rfl rfl (fun e he=>by
          rcases rAY.1 he with he | he
          .exact(hpre e he).nr
          .exact(zCW e he).nr) rfl,rGW⟩,rAA⟩
      refine vTV vBC hT rAB ?_;refine sns ?_;refine⟨⟨m,es,clock,ks,rfl,rfl,hs,fun k=>by rw[hks,e3]⟩,rfl,2,zdd,by show 2<5; decide,?_,rfl,rfl,rfl⟩;show some _=some _
      rw[e2,List.length_cons,show pre.length+1+(vBT n.kids (b+n.lemmas.length)).length=pre.length+((vBT n.kids (b+n.lemmas.length)).length+1) by omega]
open Go.Proofs Go.PI
abbrev vNL(R:List Int):PV:=.imm (R.map (.int .i64))
def uM0(R:List Int):Prop:=R.length<1073741824/\∀ r∈R,0<=r/\r<4611686018427387904
theorem uH9:FO 55 Tryz.f55 [.tmp 3] 23:=mkO Tryz.func55 Tryz.ntmps55 Tryz.results55
theorem uGJ(k:Int)(R:List Int)(hR:uM0 R)(h1:-9223372036854775808<=k)(h2:k<9223372036854775808):Fn 55 [.int .i64 k,.cptr (vNL R) 0] (.data (.int .i64 (vCQ R k))):=by
 have hl:=hR.1;refine zAM vBC hT uH9 zsm ?_;refine sts ?_;refine zA6 hT (fun i:Nat=>[(0,.int .i64 k),(4,.int .i64 (((R.take i).filter fun r=>decide (r+1<k)).length:Nat)),(7,vNL R),(8,.int .i64 R.length),(9,.int .i64 i)]) (fun i=>i<=R.length) (fun i=>R.length - i) 0 zsm ⟨rAI,rAI,rAJ,zAC rfl zsm,rAI,rGW⟩ ?_;intro i hi;have hf:=List.length_filter_le (fun r=>decide (r+1<k)) (R.take i);have hf2:(R.take i).length<=i:=by simp; omega
 by_cases h:i<R.length
 .have hr:=hR.2 _ (zAX h)
  have et:((R.take (i+1)).filter fun r=>decide (r+1<k))=((R.take i).filter fun r=>decide (r+1<k))++(if R[i]! + 1<k then [R[i]!] else []):=by
   rw[rA0 h,rDZ,rAS R i h];simp[List.filter_cons]
  (repeat' (first|refine stp ?_|with_reducible(refine brr ?_ ?_<;>intro h)));all_goals try(conv=>whnf)
  .refine⟨i+1,⟨zom,zom⟩,rAI,zAC rfl ?_,rAJ,rAI,zAC rfl zom,rGW⟩
   rw[et,rAV zom]; simp
  .refine⟨i+1,⟨zom,zom⟩,rAI,zAC rfl ?_,rAJ,rAI,zAC rfl zom,rGW⟩
   rw[et,rAN zom]; simp
  all_goals (exfalso; omega)
 .obtain rfl:i=R.length:=by omega
  rw[rBP]at hf ⊢
  have key:(R.filter fun r=>decide (r+1<k)).length=0\/1<k:=by
   by_cases h0:∃ r∈R,r+1<k
   .obtain⟨r,hr,h3⟩:=h0
    have:=hR.2 r hr;exact rAZ zom
   .left
    rw[rA2,rC2];intro r hr h3;exact h0 ⟨r,hr,by simpa using h3⟩
  (repeat' (first|refine stp ?_|with_reducible(refine brr ?_ ?_<;>intro h)));all_goals try(conv=>whnf)
  all_goals try (exfalso; omega)
  all_goals exact rGX
theorem zEN{ρ:Nat->Nat}{k:Nat}{t:Tm}{j:Nat}{fn:Go.Fn}{e:PV}{o:Nat}(h:t j=.func fn [] [.cptr e o]):at' ρ k t j (.func fn [] [.cptr e o]):=by unfold at'; rw[h,vMA]; exact⟨rfl,rGW,by rw[vMB],rGW⟩
abbrev uOO(R:List Int):PV:=.func (.func 55) [] [.cptr (vNL R) 0]
theorem uIB:FO 56 Tryz.f56 [.cell 3 70] 15:=mkO Tryz.func56 Tryz.ntmps56 Tryz.results56
theorem uNR(r:RowL)(R:List Int)(hR:uM0 R)(hr:vL8 r):Fn 56 [vBJ r,.cptr (uOO R) 0] (.data (vBJ (vB5 R r))):=by
 have c1:=uGJ r.lo R hR hr.1.1 hr.1.2;have c2:=uGJ r.hi R hR hr.2.1 hr.2.2;refine zAM vBC hT uIB zsm ?_;refine sts ?_;refine zAA c1 rfl ?_;refine sts ?_;refine zAA c2 rfl ?_;refine sts ?_;exact rGX
abbrev uGH(R:List Int):PV:=.func (.func 56) [] [.cptr (uOO R) 0]
theorem vPJ:FO 57 Tryz.f57 [.tmp 4] 25:=mkO Tryz.func57 Tryz.ntmps57 Tryz.results57
theorem zLU{f:RowL->RowL}{l:List MultL}{i:Nat}(h:i<l.length):(vBL f (l.take i)).map vBA++[vBA ⟨f l[i]!.row,l[i]!.coef⟩]=(vBL f (l.take (i+1))).map vBA:=by
 rw[rA0 h,rAS l i h];unfold vBL;rw[rBB,rBB];rfl
theorem zCU(l:List MultL):∀ e∈l.map vBA,nr 3 e=true/\e≠.any:=zAR fun _=>⟨rfl,by simp[vBA]⟩
theorem vZI(l:List MultL)(R:List Int)(hR:uM0 R)(hl:vCY l):Fn 57 [.imm (l.map vBA),uGH R] (.fresh ((vBL (vB5 R) l).map vBA) 7 true):=by
 have hln:=hl.1;refine zDU vBC hT vPJ zsm ?_;refine sts ?_
 refine zC1 hT [(.sl 5,7,true)] (fun(i:Nat)=>[(1,uGH R),(5,.own 0 0 i),(8,.imm (l.map vBA)),(9,.int .i64 l.length),(10,.int .i64 i)]) (fun i=>[(0,⟨(vBL (vB5 R) (l.take i)).map vBA,7,true⟩)]) [] 1
  (fun i=>i<=l.length) (fun i=>l.length - i) 0 (rA9 _) zdd zsm ⟨rfl,rGW⟩ ?_ ?_
 .exact⟨[_],[],[],[],ttt,⟨zEN rfl,zA5 zdd rfl rfl,zAE rfl rfl,zAC rfl zsm,zAC rfl rfl,rGW⟩,⟨zAG zdd rfl rfl (zCU _) rfl,rGW⟩,rAA⟩
 intro i hi;have hlen:(vBL (vB5 R) (l.take i)).length=i:=by simp[vBL]; omega
 by_cases h0:i<l.length
 .have c1:=uNR l[i]!.row R hR (hl.2 _ (zAX h0)).1
  refine gob ?_ ?_<;>intro h
  .refine zAA c1 rfl ?_
   refine sts ?_;exact⟨i+1,⟨zom,by show l.length - (i+1)<l.length - i; omega⟩,[_],[],[],[],ttt,⟨zEN rfl,zA5 zdd rfl rfl,zAE rfl rfl,zAC rfl rfl,zAC rfl zom,rGW⟩,⟨zAG zdd rfl (zLU h0) (zCU _) rfl,rGW⟩,rAA⟩
  all_goals (exfalso; omega)
 .obtain rfl:i=l.length:=by omega
  rw[rBP]
  refine gob ?_ ?_<;>intro h
  all_goals try (exfalso; omega)
  refine zBH rfl rfl (by simp[vBL]) rfl (zDM (fun x=>zKQ x) _)
theorem vWC:FO 54 Tryz.f54 [.tmp 2] 8:=mkO Tryz.func54 Tryz.ntmps54 Tryz.results54
theorem uEM(xs:List Int)(hl:xs.length<1073741824):Fn 54 [vNL xs] (.fresh (xs.map (.int .i64)) 1 false):=by
 refine zDU vBC hT vWC zsm ?_
 (repeat' (first|refine stn ?_|(with_reducible refine brr ?_ ?_<;>intro h)|(with_reducible refine zAF ?_ ?_<;>intro h)|with_reducible refine zAL ?_ ?_)); all_goals try (conv=>whnf)
 .subst h; exact zDJ
 all_goals refine zBH rfl rfl ?_ rfl (zDM (fun x=>rfl) _)
 all_goals simp
theorem vQA{h:Hp}{n r q len sz:Nat}{agg:Bool}{R:List Int}{bs:Nat}{ba:Bool}(hb:h r=some ⟨[.own q 0 len],bs,ba⟩)(hq:h q=some ⟨R.map (.int .i64),sz,agg⟩)(hl:len=R.length):frz h (n+2) (.ptr r 0 0)=some (.cptr (vNL R) 0,[r,q]):=by
 have h1:frz h (n+1) (.own q 0 len)=some (vNL R,[q]):=zAI hq rfl hl (fun x=>by cases n<;>rfl);unfold frz;simp only[hb,List.getElem?_cons_zero,h1]
theorem uJT{h:Hp}{n p r q len sz:Nat}{agg:Bool}{R:List Int}{bs bs':Nat}{ba ba':Bool}(hp:h p=some ⟨[.func (.func 55) [] [.ptr r 0 0]],bs',ba'⟩)(hb:h r=some ⟨[.own q 0 len],bs,ba⟩)(hq:h q=some ⟨R.map (.int .i64),sz,agg⟩)(hl:len=R.length):frz h (n+5) (.func (.func 56) [] [.ptr p 0 0])=some (uGH R,[p,r,q]):=by
 have h1:frz h (n+2) (.ptr r 0 0)=some (.cptr (vNL R) 0,[r,q]):=vQA hb hq hl
 have h2:frz h (n+3) (.func (.func 55) [] [.ptr r 0 0])=some (uOO R,[r,q]):=by
  unfold frz;simp only[vB6,h1,rBS,List.nil_append]
 have h3:frz h (n+4) (.ptr p 0 0)=some (.cptr (uOO R) 0,[p,r,q]):=by
  unfold frz;simp only[hp,List.getElem?_cons_zero,h2]
 unfold frz;simp only[vB6,h3,rBS,List.nil_append]
abbrev vIX(n:NodeL)(x0 x6 x8:PV):PV:=.agg [x0,.int .i64 n.split.kind,.int .i64 n.split.index,.bool n.split.rat.neg,vBK n.split.rat.num,vBK n.split.rat.den,x6,.bool n.empty,x8]
theorem zCM{ρ:Nat->Nat}{k:Nat}{n:NodeL}{x0 x6 x8 y0 y6 y8:PV}(h0:rn ρ k 2 x0 y0)(h6:rn ρ k 2 x6 y6)(h8:rn ρ k 2 x8 y8):rn ρ k 3 (vIX n x0 x6 x8) (vIX n y0 y6 y8):=by
 unfold vIX;rw[uFL];exact⟨h0,rfl,rfl,rfl,rfl,rfl,h6,rfl,h8,rGW⟩
theorem zHE{ρ:Nat->Nat}{k r q a c:Nat}(h:r<k)(e:q=ρ r)(e2:c=a):rn ρ k 2 (.own r 0 a) (.own q 0 c):=by subst e e2; rw[zD2]; exact⟨h,rfl⟩
theorem vL9{ρ:Nat->Nat}{k:Nat}:rn ρ k 2 .nilsl .nilsl:=by rw[vO0]
theorem zFL(l:List LemL):∀ e∈l.map vBB,nr 3 e=true/\e≠.any:=zAR fun _=>⟨rfl,by simp[vBB]⟩
theorem vKN:∀ (l l':List LemL) (O O':List Bool),l.length=O.length->vBS (l++l') (O++O')=vBS l O++vBS l' O'
 | [],l',[],O',_=>by simp[vBS]
 | m::l,l',b::O,O',h=>by
   have:=vKN l l' O O' (by simpa using h);cases b<;>simp[vBS,this]
theorem vSX{l:List LemL}{O:List Bool}{i:Nat}(h:i<l.length)(h2:O.length=l.length):vBS (l.take (i+1)) (O.take (i+1))=vBS (l.take i) (O.take i)++(if O[i]! = true then [l[i]!] else []):=by
 rw[rA0 h,rA0 (l:=O) zom,vKN _ _ _ _ rAE,rAS l i h,rAS O i zom];cases O[i]<;>simp[vBS]
theorem vP9{h:Hp}{n r len sz:Nat}{agg:Bool}{m:LemL}{P:List MultL}(hr:h r=some ⟨P.map vBA,sz,agg⟩)(hl:len=P.length):frz h (n+3) (.agg [.int .i64 m.unit,.bool m.upper,.bool m.value.neg,vBK m.value.num,vBK m.value.den,.own r 0 len])=some (vBB ⟨m.unit,m.upper,m.value,P⟩,[r]) :=
 zBZ (zAD (ks:=[]) rfl (zAD (ks:=[]) rfl (zAD (ks:=[]) rfl (zAD (ks:=[]) rfl (zAD (ks:=[]) rfl (zAD (zAI hr rfl hl (fun x=>zKQ x)) rfl))))))
theorem zHZ:∀ (l:List LemL) (O:List Bool),(vBS l O).length<=l.length
 | [],O=>by simp[vBS]
 | m::l,[]=>by simp[vBS]
 | m::l,b::O=>by
   have:=zHZ l O;unfold vBS
   split<;>simp<;>omega
theorem zHU(l:List NodeL):∀ e∈l.map vBF,nr 3 e=true/\e≠.any:=zAR fun x=>by rw[zBQ]; exact⟨rfl,zsm⟩
theorem vQE:∀ (ks ks':List NodeL) (b:Int) (R:List Int),vDS (ks++ks') b R=vDS ks b R++vDS ks' b R
 | [],_,_,_=>rfl
 | k::ks,ks',b,R=>by simp only[List.cons_append,vDS,vQE ks ks' b R]
theorem vY3{ks:List NodeL}{i:Nat}(h:i<ks.length)(b:Int)(R:List Int):vDS (ks.take (i+1)) b R=vDS (ks.take i) b R++[vCU ks[i]! b R]:=by
 rw[rA0 h,rAS ks i h,vQE];rfl
theorem zK3:∀ (ks:List NodeL) (b:Int) (R:List Int),(vDS ks b R).length=ks.length
 | [],_,_=>rfl
 | k::ks,b,R=>by simp only[vDS,List.length_cons,zK3 ks b R]
theorem vNF{ks:List NodeL}{i:Nat}(h:i<ks.length)(b:Int)(rest:List (List Bool)):vBT (ks.drop i) b++rest=vC2 ks[i]! b++(vBT (ks.drop (i+1)) b++rest):=by
 rw[rBT h,rAS ks i h,vBT,rBG]
theorem vYP{h:Hp}{m r q p a sz sz2 sz3:Nat}{g1 g2 g3:Bool}{n:NodeL}{L:List LemL}{K:List NodeL}{P:List MultL}(h1:h r=some ⟨L.map vBB,sz,g1⟩)(h2:h q=some ⟨K.map vBF,sz2,g2⟩)(h3:h p=some ⟨P.map vBA,sz3,g3⟩)(ha:a=K.length) :
 frz h (m+4) (vIX n (.own r 0 L.length) (.own q 0 a) (.own p 0 P.length))=some (vA7 (.mk L n.split K n.empty P),[r,q,p]) :=
 zBZ (zAD (zAI h1 rfl rfl (fun x=>zMD x)) (zAD (ks:=[]) rfl (zAD (ks:=[]) rfl (zAD (ks:=[]) rfl (zAD (ks:=[]) rfl (zAD (ks:=[]) rfl (zAD (zAI h2 rfl ha (fun x=>zF4 x)) (zAD (ks:=[]) rfl (zAD (zAI h3 rfl rfl (fun x=>zKQ x)) rfl)))))))))
abbrev vP1(n:NodeL)(O:List Bool)(R:List Int)(i:Nat):List LemL:=(vBS (n.lemmas.take i) (O.take i)).map (vDB (vB5 R))
abbrev vS1(ls:List (List Bool)):Blk:=⟨[.imm (vD0 ls)],1,false⟩
theorem vKG(n:NodeL)(b:Int):vC2 n b=ownB n.lemmas n.kids n.proof b::vBT n.kids (b+n.lemmas.length):=by cases n; rfl
theorem zD0(n:NodeL)(b:Int)(R:List Int):vCU n b R=.mk ((vBS n.lemmas (ownB n.lemmas n.kids n.proof b)).map (vDB (vB5 (R++vCB (ownB n.lemmas n.kids n.proof b) b)))) n.split (vDS n.kids (b+n.lemmas.length) (R++vCB (ownB n.lemmas n.kids n.proof b) b)) n.empty (vBL (vB5 (R++vCB (ownB n.lemmas n.kids n.proof b) b)) n.proof):=by cases n; rfl
theorem zJ2:∀ (bs:List Bool) (j:Int),(vCB bs j).length<=bs.length
 | [],_=>by simp[vCB]
 | true::bs,j=>by have:=zJ2 bs (j+1); simp only[vCB,List.length_cons]; omega
 | false::bs,j=>by have:=zJ2 bs (j+1); simp only[vCB,List.length_cons]; omega
theorem vG9:∀ (bs cs:List Bool) (j:Int),vCB (bs++cs) j=vCB bs j++vCB cs (j+bs.length)
 | [],cs,j=>by simp[vCB]
 | true::bs,cs,j=>by simp only[List.cons_append,vCB,vG9 bs cs (j+1),List.length_cons]; rw[show j+1+(bs.length:Int)=j+((bs.length+1:Nat):Int) by omega]
 | false::bs,cs,j=>by simp only[List.cons_append,vCB,vG9 bs cs (j+1),List.length_cons]; rw[show j+1+(bs.length:Int)=j+((bs.length+1:Nat):Int) by omega]
theorem vVG{O:List Bool}{i:Nat}(h:i<O.length)(b:Int):vCB (O.take (i+1)) b=vCB (O.take i) b++(if O[i]! = true then [] else [b+i]):=by
 rw[rA0 h,vG9,rAS O i h,rBX,rFK (rEF h)];cases O[i]<;>simp[vCB]
theorem uIA:FO 36 Tryz.f36 [.cell 8 32] 106:=mkO Tryz.func36 Tryz.ntmps36 Tryz.results36
theorem uNQ:∀ (sz:Nat) (n:NodeL) (b:Int) (R:List Int) (rest:List (List Bool)),SizeOf.sizeOf n<sz->NodeRg n->0<=b->b+n.wt<=2305843009213693952->uM0 R->R.length+n.wt<=1073741000 ->
 Fn 36 [vA7 n,.int .i64 b,vNL R,.ptr 0 0 0] (.wrt (vS1 (vC2 n b++rest)) (vA7 (vCU n b R)) (vS1 rest)):=by
 intro sz
 induction sz with
 | zero=>intro n b R rest h; omega
 | succ sz ih =>
   intro n b R rest hsz hn hb hbw hR hRw;have hwt:=n.wt_eq;have hll:=zIM n.lemmas;have hln:=hn.ln;have hkn:=hn.kn;have hol:(ownB n.lemmas n.kids n.proof b).length=n.lemmas.length:=zES _ _ _;rw[vKG,zD0];obtain⟨O,hO⟩:∃ O,ownB n.lemmas n.kids n.proof b=O:=⟨_,rfl⟩;rw[hO]at hol ⊢;have hcl:=uEM R (by have:=hR.1; omega);refine zIP vBC hT uIA zsm ?_;refine sns ?_;refine zB2 (l':=vBT n.kids (b+n.lemmas.length)++rest) (by rw[rBO (by rw[Int.toNat_natCast,rAM]; exact rAO _)]; rfl) ?_;refine sns ?_;refine zA4 hcl rfl ?_;refine sns ?_
   refine zAO hT (fun i:Nat=>[(1,.int .i64 b),(3,.ptr 0 0 0),(4,.cptr (vA7 n) 0),(6,.ptr 1 0 0),(8,.ptr 2 0 0),(9,uFJ O),(32,uFJ O),(33,.int .i64 O.length),(34,.int .i64 i)])
    (fun i=>[(0,vS1 (vBT n.kids (b+n.lemmas.length)++rest)),(1,⟨[.own 3 0 (R++vCB (O.take i) b).length],1,false⟩),(2,⟨[.agg [.nilsl,.int .i64 0,.int .i64 0,.bool false,.nilsl,.nilsl,.nilsl,.bool false,.nilsl]],9,true⟩),(3,⟨(R++vCB (O.take i) b).map (.int .i64),1,false⟩)]) [] 4
    (fun i=>i<=O.length) (fun i=>O.length - i) 0 zsm zdd zsm ?_ ?_
   .exact⟨[2,3,18],[1],[(4,.cptr (vA7 n) 0)],[],⟨⟨⟨_,rfl⟩,rGW⟩,⟨⟨6,[1],zCV rfl,rfl⟩,rGW⟩,rGW⟩,⟨zAC rfl rfl,apx,zAH rfl,apx,apx,zAE rfl rfl,zAE rfl rfl,zAC rfl zsm,zAC rfl rfl,rGW⟩,
     ⟨bbx,zAJ zdd rfl (by rw[zD2]; exact⟨zdd,by simp[vCB]; rfl⟩) rfl rfl,bbx,zAG zdd rfl (by simp[vCB]) (fun e he=>by obtain⟨x,_,rfl⟩:=rA5.1 he; exact⟨rfl,zsm⟩) rfl,rGW⟩,rAA⟩
   intro i hi
   have hrl:(vCB (O.take i) b).length<=i:=by
    have:=zJ2 (O.take i) b;have:(O.take i).length<=i:=by simp; omega
    omega
   by_cases hi':i<O.length
   .have ers:=vVG hi' b
    (repeat' (first|refine stp ?_|with_reducible(refine brr ?_ ?_<;>intro h)));all_goals try(conv=>whnf)
    .exact⟨i+1,⟨zom,zom⟩,[1,2,3],[],[],[],ttt,⟨rAI,apx,zAH rfl,apx,apx,rAJ,rAJ,rAI,zAC rfl zom,rGW⟩,
      ⟨bbx,zAJ zdd rfl (by rw[ers,rAV rAC,rBS,zD2]; exact⟨zdd,rfl⟩) rfl rfl,bbx,zAG zdd rfl (by rw[ers,rAV rAC,rBS]) (fun e he=>by obtain⟨x,_,rfl⟩:=rA5.1 he; exact⟨rfl,zsm⟩) rfl,rGW⟩,rAA⟩
    .exact⟨i+1,⟨zom,zom⟩,[1,2,_],[],[],[],ttt,⟨zAC rfl rfl,(apy rfl),zAH rfl,(apy rfl),(apy rfl),zAE rfl rfl,zAE rfl rfl,zAC rfl rfl,zAC rfl zom,rGW⟩,
      ⟨bbx,zAJ zdd rfl (by rw[ers,rAN rAF,zD2]; exact⟨zdd,by simp[rC6]; rfl⟩) rfl rfl,bbx,zAG zdd rfl (by rw[ers,rAN rAF]; simp) (fun e he=>by obtain⟨x,_,rfl⟩:=rA5.1 he; exact⟨rfl,zsm⟩) rfl,rGW⟩,rAA⟩
    all_goals (exfalso; omega)
   .obtain rfl:i=O.length:=by omega
    rw[rBP];obtain⟨R',hR'⟩:∃ R',R++vCB O b=R':=⟨_,rfl⟩
    have hR2:uM0 R':=by
     have h1:=zJ2 O b;rw[<- hR'];refine⟨by have:=hR.1; simp only[rAU]; omega,fun r hr=>?_⟩;rcases rAY.1 hr with hr | hr
     .exact hR.2 r hr
     .have h2:=vGH (zFY O b) r hr
      have h3:=zJA O b r hr;exact⟨zom,zom⟩
    have hRl:R'.length+(n.wt - n.lemmas.length)<=1073741000:=by
     have h1:=zJ2 O b;rw[<- hR',rAU]; omega
    rw[hR'];refine sus ?_;refine zA3 ?_; (repeat' (first|refine stu ?_|with_reducible(refine brr ?_ ?_<;>intro h)));all_goals try(conv=>whnf)
    .exfalso; omega
    (refine zA3 ?_; refine sus ?_)
    (refine zA3 ?_; refine sus ?_)
    refine vBW [] [(1,.int .i64 b),(3,.ptr 0 0 0),(4,.cptr (vA7 n) 0),(6,.cptr (vNL R') 0),(8,.ptr 1 0 0),(9,uFJ O),(13,uGH R')]
     [(0,vS1 (vBT n.kids (b+n.lemmas.length)++rest)),(1,⟨[.agg [.nilsl,.int .i64 0,.int .i64 0,.bool false,.nilsl,.nilsl,.nilsl,.bool false,.nilsl]],9,true⟩)] [] 2 zdd zsm trivial ?_ ?_
    .exact⟨[2],[1,3,6],[(6,.cptr (vNL R') 0),(13,uGH R')],[],⟨⟨⟨_,rfl⟩,⟨_,rfl⟩,⟨_,rfl⟩,rGW⟩,⟨⟨6,[1,3],vQA rfl rfl rfl,rfl⟩,⟨6,[6,1,3],uJT rfl rfl rfl rfl,rfl⟩,rGW⟩,rGW⟩,⟨zAC rfl rfl,apx,zAH rfl,zAH rfl,apx,zAE rfl rfl,zEN rfl,rGW⟩,
      ⟨bbx,bbx,rGW⟩,rAA⟩
    refine sus ?_;refine zA4 (vZI n.proof R' hR2 hn.prf) rfl ?_;refine sus ?_
    (refine zA3 ?_; refine sus ?_)
    have hpl:(vBL (vB5 R') n.proof).length=n.proof.length:=by simp[vBL]
    obtain⟨PF,hPF⟩:∃ PF,vBL (vB5 R') n.proof=PF:=⟨_,rfl⟩;rw[hPF]at hpl ⊢
    refine vBW [] [(1,.int .i64 b),(3,.ptr 0 0 0),(4,.cptr (vA7 n) 0),(6,.cptr (vNL R') 0),(8,.ptr 1 0 0),(9,uFJ O),(13,uGH R'),(14,.ptr 2 0 0),(60,.imm (n.lemmas.map vBB)),(61,.int .i64 n.lemmas.length),(62,.int .i64 0)]
     [(0,vS1 (vBT n.kids (b+n.lemmas.length)++rest)),(1,⟨[.agg [.nilsl,.int .i64 0,.int .i64 0,.bool false,.nilsl,.nilsl,.nilsl,.bool false,.nilsl]],9,true⟩),(2,⟨[.agg [.nilsl,.int .i64 n.split.kind,.int .i64 n.split.index,.bool n.split.rat.neg,vBK n.split.rat.num,vBK n.split.rat.den,.nilsl,.bool n.empty,.own 3 0 PF.length]],9,true⟩),(3,⟨PF.map vBA,7,true⟩)] [] 4 zdd zsm trivial ?_ ?_
    .exact⟨[1,11,9],[],[],[],ttt,⟨rAI,apx,zAH rfl,zAH rfl,apx,rAJ,zEN rfl,apx,rAJ,zAC rfl zsm,rAI,rGW⟩,
      ⟨bbx,bbx,zAJ zdd rfl (zCM vL9 vL9 (zHE zdd rfl zsm)) rfl rfl,zAG zdd rfl rfl (zCU _) rfl,rGW⟩,rAA⟩
    refine sts ?_
    refine zC1 hT [(.cl 2 0 0,6,true)] (fun(i:Nat)=>[(1,.int .i64 b),(3,.ptr 0 0 0),(4,.cptr (vA7 n) 0),(6,.cptr (vNL R') 0),(8,.ptr 1 0 0),(9,uFJ O),(13,uGH R'),(14,.ptr 2 0 0),(60,.imm (n.lemmas.map vBB)),(61,.int .i64 n.lemmas.length),(62,.int .i64 i)])
     (fun i=>[(0,vS1 (vBT n.kids (b+n.lemmas.length)++rest)),(1,⟨[.agg [.nilsl,.int .i64 0,.int .i64 0,.bool false,.nilsl,.nilsl,.nilsl,.bool false,.nilsl]],9,true⟩),(2,⟨[vIX n (.own 4 0 (vP1 n O R' i).length) .nilsl (.own 3 0 PF.length)],9,true⟩),(3,⟨PF.map vBA,7,true⟩),(4,⟨(vP1 n O R' i).map vBB,6,true⟩)]) [] 5
     (fun i=>i<=n.lemmas.length) (fun i=>n.lemmas.length - i) 0 (rA9 _) zdd zsm ⟨_,_,rfl,rfl,rfl,rGW⟩ ?_ ?_
    .exact⟨[1,2,3,4],[],[],[],ttt,⟨rAI,apx,zAH rfl,zAH rfl,apx,rAJ,zEN rfl,apx,rAJ,rAI,rAI,rGW⟩,
      ⟨bbx,bbx,zAJ zdd rfl (zCM (zHE zdd rfl (by simp[vBS])) vL9 (zHE zdd rfl rfl)) rfl rfl,zAG zdd rfl rfl (zCU _) rfl,zAG zdd rfl rfl (zFL _) rfl,rGW⟩,rAA⟩
    intro i hi;by_cases hi':i<n.lemmas.length
    .have hks:=vSX hi' hol
     have hlm:n.lemmas[i]! ∈ n.lemmas:=zAX hi'
     have hlI:(vP1 n O R' i).length<=i:=by
      have:=zHZ (n.lemmas.take i) (O.take i);simp only[rAM,rBX]at this ⊢;omega
     refine sus ?_;refine zA3 ?_; (repeat' (first|refine stu ?_|with_reducible(refine brr ?_ ?_<;>intro h)));all_goals try(conv=>whnf)
     ·(refine zA3 ?_; refine sus ?_)
      (refine zA3 ?_; refine sus ?_)
      refine zA3 ?_; (repeat' (first|refine stu ?_|with_reducible(refine brr ?_ ?_<;>intro h)));all_goals try(conv=>whnf)
      .refine zA4 (vZI n.lemmas[i]!.proof R' hR2 (hn.lem _ hlm)) rfl ?_
       refine sus ?_
       refine vBW [] [(1,.int .i64 b),(3,.ptr 0 0 0),(4,.cptr (vA7 n) 0),(6,.cptr (vNL R') 0),(8,.ptr 1 0 0),(9,uFJ O),(13,uGH R'),(14,.ptr 2 0 0),(60,.imm (n.lemmas.map vBB)),(61,.int .i64 n.lemmas.length),(62,.int .i64 i),(16,.ptr 5 0 0)]
        [(0,vS1 (vBT n.kids (b+n.lemmas.length)++rest)),(1,⟨[.agg [.nilsl,.int .i64 0,.int .i64 0,.bool false,.nilsl,.nilsl,.nilsl,.bool false,.nilsl]],9,true⟩),(2,⟨[vIX n (.own 4 0 (vP1 n O R' i).length) .nilsl (.own 3 0 PF.length)],9,true⟩),(3,⟨PF.map vBA,7,true⟩),(4,⟨(vP1 n O R' i).map vBB,6,true⟩),(5,⟨[vBB (vDB (vB5 R') n.lemmas[i]!)],6,true⟩)] [] 6 zdd zsm trivial ?_ ?_
       .exact⟨[1,2,3,4,9],[19],[],[(9,[vBB (vDB (vB5 R') n.lemmas[i]!)])],⟨⟨⟨_,rfl⟩,rGW⟩,rGW,⟨⟨_,6,[19],rfl,zAD (ks:=[19]) (ls:=[]) (vP9 rfl (rAM _)) rfl,rfl⟩,rGW⟩⟩,⟨zAC rfl rfl,apx,zAH rfl,zAH rfl,apx,zAE rfl rfl,zEN rfl,apx,zAE rfl rfl,zAC rfl rfl,zAC rfl rfl,apx,rGW⟩,
         ⟨bbx,bbx,zAJ zdd rfl (zCM (zHE zdd rfl rfl) vL9 (zHE zdd rfl rfl)) rfl rfl,zAG zdd rfl rfl (zCU _) rfl,zAG zdd rfl rfl (zFL _) rfl,bbx,rGW⟩,rAA⟩
       refine sts ?_;refine zBJ ⟨rfl,(rAM _).symm,?_⟩ ?_
       .show(vP1 n O R' i).length+1<=4294967296
        omega
       refine sts ?_
       have el:vP1 n O R' (i+1)=vP1 n O R' i++[vDB (vB5 R') n.lemmas[i]!]:=by
        unfold vP1;rw[hks,rAV rAC,rBB];rfl
       refine⟨i+1,⟨zom,zom⟩,[1,2,3,_],[],[],[],ttt,⟨zAC rfl rfl,(apy rfl),zAH rfl,zAH rfl,(apy rfl),zAE rfl rfl,zEN rfl,(apy rfl),zAE rfl rfl,zAC rfl rfl,zAC rfl zom,rGW⟩,
        ⟨bbx,bbx,zAJ zdd rfl (zCM (zHE zdd rfl ?_) vL9 (zHE zdd rfl rfl)) rfl rfl,zAG zdd rfl rfl (zCU _) rfl,zAG zdd rfl ?_ (zFL _) rfl,rGW⟩,rAA⟩
       .rw[el,rAU]; rfl
       .rw[el,rBB]; rfl
      .have el:vP1 n O R' (i+1)=vP1 n O R' i:=by
        unfold vP1;rw[hks,rAN rAF,rBS]
       refine sts ?_
       exact⟨i+1,⟨zom,zom⟩,[1,2,3,4],[],[],[],ttt,⟨rAI,apx,zAH rfl,zAH rfl,apx,rAJ,zEN rfl,apx,rAJ,rAI,zAC rfl zom,rGW⟩,
        ⟨bbx,bbx,zAJ zdd rfl (zCM (zHE zdd rfl (by rw[el])) vL9 (zHE zdd rfl rfl)) rfl rfl,zAG zdd rfl rfl (zCU _) rfl,zAG zdd rfl (by rw[el]) (zFL _) rfl,rGW⟩,rAA⟩
     .exfalso; omega
    .obtain rfl:i=n.lemmas.length:=by omega
     obtain⟨LM,hLM⟩:∃ LM,vP1 n O R' n.lemmas.length=LM:=⟨_,rfl⟩;rw[hLM]
     (repeat' (first|refine stp ?_|with_reducible(refine brr ?_ ?_<;>intro h)));all_goals try(conv=>whnf)
     all_goals try (exfalso; omega)
     refine zC1 hT [(.cl 2 0 6,9,true)] (fun(i:Nat)=>[(1,.int .i64 b),(3,.ptr 0 0 0),(4,.cptr (vA7 n) 0),(6,.cptr (vNL R') 0),(8,.ptr 1 0 0),(14,.ptr 2 0 0),(84,.imm (n.kids.map vBF)),(85,.int .i64 n.kids.length),(86,.int .i64 i)])
      (fun i=>[(0,vS1 (vBT (n.kids.drop i) (b+n.lemmas.length)++rest)),(1,⟨[.agg [.nilsl,.int .i64 0,.int .i64 0,.bool false,.nilsl,.nilsl,.nilsl,.bool false,.nilsl]],9,true⟩),(2,⟨[vIX n (.own 4 0 LM.length) (.own 5 0 i) (.own 3 0 PF.length)],9,true⟩),(3,⟨PF.map vBA,7,true⟩),(4,⟨LM.map vBB,6,true⟩),(5,⟨(vDS (n.kids.take i) (b+n.lemmas.length) R').map vBF,9,true⟩)]) [] 6
      (fun i=>i<=n.kids.length) (fun i=>n.kids.length - i) 0 (rA9 _) zdd zsm ⟨_,_,rfl,rfl,rfl,rGW⟩ ?_ ?_
     .exact⟨[1,2,3,4,_],[],[],[],ttt,⟨zAC rfl rfl,(apy rfl),zAH rfl,zAH rfl,(apy rfl),(apy rfl),zAE rfl rfl,zAC rfl zsm,zAC rfl rfl,rGW⟩,
       ⟨bbx,bbx,zAJ zdd rfl (zCM (zHE zdd rfl rfl) (zHE zdd rfl rfl) (zHE zdd rfl rfl)) rfl rfl,zAG zdd rfl rfl (zCU _) rfl,zAG zdd rfl rfl (zFL _) rfl,zAG zdd rfl rfl (zHU _) rfl,rGW⟩,rAA⟩
     intro i hi;by_cases hi':i<n.kids.length
     .have hkm:n.kids[i]! ∈ n.kids:=zAX hi'
      have hks1:=vH0 hi';have hcl1:=zK3 (n.kids.take i) (b+n.lemmas.length) R'
      have ck:Fn 36 [vA7 n.kids[i]!,.int .i64 (b+((n.lemmas.map vBB).length:Nat)),vNL R',.ptr 0 0 0] (.wrt (vS1 (vC2 n.kids[i]! (b+n.lemmas.length)++(vBT (n.kids.drop (i+1)) (b+n.lemmas.length)++rest))) (vA7 (vCU n.kids[i]! (b+n.lemmas.length) R')) (vS1 (vBT (n.kids.drop (i+1)) (b+n.lemmas.length)++rest))):=by
       rw[rAM];exact ih n.kids[i]! (b+n.lemmas.length) R' _ (by have:=NodeL.sizeOf_kid hkm; omega) (hn.kid _ hkm) zom zom hR2 zom
      refine gon ?_ ?_<;>intro h
      .refine zMG (r:=0) (ks:=[]) ck rfl (rA3 (fun x=>some (vS1 x)) (vNF hi' _ rest)) rfl rfl (fun e he=>by simp at he; subst he; rfl) (fun i=>by simp[vC6]) ?_
       refine sns ?_;refine zBJ ⟨rfl,by show i=(List.map vBF _).length; rw[rAM,hcl1,rBX]; omega,?_⟩ ?_
       .show i+1<=4294967296
        omega
       refine sns ?_
       refine⟨i+1,⟨zom,zom⟩,[1,2,3,4,_],[],[],[],ttt,⟨zAC rfl rfl,(apy rfl),zAH rfl,zAH rfl,(apy rfl),(apy rfl),zAE rfl rfl,zAC rfl rfl,zAC rfl zom,rGW⟩,
        ⟨bbx,bbx,zAJ zdd rfl (zCM (zHE zdd rfl rfl) (zHE zdd rfl rfl) (zHE zdd rfl rfl)) rfl rfl,zAG zdd rfl rfl (zCU _) rfl,zAG zdd rfl rfl (zFL _) rfl,zAG zdd rfl ?_ (zHU _) rfl,rGW⟩,rAA⟩
       rw[vY3 hi',rBB];show _++[vA7 _]=_++[vBF _]
       rw[zBQ]
      all_goals (exfalso; omega)
     .obtain rfl:i=n.kids.length:=by omega
      obtain⟨KD,hKD⟩:∃ KD,vDS n.kids (b+n.lemmas.length) R'=KD:=⟨_,rfl⟩;have hkl:KD.length=n.kids.length:=by rw[<- hKD]; exact zK3 _ _ _
      rw[rBP,rFI,hKD];refine sus ?_;refine zA3 ?_; (repeat' (first|refine stu ?_|with_reducible(refine brr ?_ ?_<;>intro h)));all_goals try(conv=>whnf)
      .exfalso; omega
      have elm:(vBS n.lemmas O).map (vDB (vB5 R'))=LM:=by
       rw[<- hLM];unfold vP1;rw[rBP,<- hol,rBP]
      rw[elm];refine vBW [] [(8,.ptr 1 0 0),(14,.ptr 2 0 0)] [(0,vS1 rest),(1,⟨[.agg [.nilsl,.int .i64 0,.int .i64 0,.bool false,.nilsl,.nilsl,.nilsl,.bool false,.nilsl]],9,true⟩),(2,⟨[vA7 (.mk LM n.split KD n.empty PF)],9,true⟩)] [] 3 zdd zsm trivial ?_ ?_
      .exact⟨[1,2],[3,4,5],[],[(2,[vA7 (.mk LM n.split KD n.empty PF)])],⟨⟨⟨_,rfl⟩,⟨_,rfl⟩,⟨_,rfl⟩,rGW⟩,rGW,⟨⟨_,6,[4,5,3],rfl,zAD (ks:=[4,5,3]) (ls:=[]) (vYP rfl rfl rfl hkl.symm) rfl,rfl⟩,rGW⟩⟩,⟨apx,apx,rGW⟩,
        ⟨bbx,bbx,bbx,rGW⟩,rAA⟩
      refine sns ?_
      .exact zL6 rfl rfl rfl rfl rfl (fun e he=>by simp at he; subst he; rfl)
def vBN(n:NodeL):NodeL:=if n.valid=true then vCU n 0 [] else vC8
theorem vR2:FO 13 Tryz.f13 [.cell 2 32] 12:=mkO Tryz.func13 Tryz.ntmps13 Tryz.results13
theorem vYL(n:NodeL)(hs:n.Sm)(hn:NodeRg n)(hw:n.wt<=536870912):FnM Tryz.prog G0 13 [vA7 n] (fun v s' _=>vFY s'.h v (vA7 (vBN n))) (start [vA7 n]) []:=by
 have cv:=zMH n hs;have hne:vD0 (vC2 n 0)≠[]:=by rw[vKG]; simp
 unfold start;refine uLD vBC vR2 zsm ?_;refine zAY (zBU vBC hT rAB ?_);refine sns ?_;refine vDD (uAY vBC hT rAB ?_);refine sns ?_;refine zAA cv rfl ?_
 refine gon ?_ ?_<;>intro h
 .refine vDD (zAY (zBU vBC hT rAB ?_))
  refine sns ?_;refine vFI [] [(1,.cptr (vA7 n) 0),(2,.ptr 1 0 0),(3,.ptr 0 0 0)] [(0,⟨[.nilsl],1,false⟩),(1,⟨[.agg [.nilsl,.int .i64 0,.int .i64 0,.bool false,.nilsl,.nilsl,.nilsl,.bool false,.nilsl]],9,true⟩)] [] 2 zdd zsm trivial ?_ ?_
  .exact⟨[5,1],[0],[(1,.cptr (vA7 n) 0)],[],⟨⟨⟨_,rfl⟩,rGW⟩,⟨⟨6,[0],zCV rfl,rfl⟩,rGW⟩,rGW⟩,⟨zAH rfl,apx,apx,rGW⟩,⟨bbx,bbx,rGW⟩,rAA⟩
  refine zAY (zCJ (zHA hT 1 rfl ?_));refine sns ?_;refine zJ7 rfl rfl rfl rfl ?_;refine FnM.args (uOE (a:=vA7 n) (b:=.int .i64 0) (b':=.int .i64 0) (c:=.ptr 0 0 0) rfl) ?_;have hI:=uNF _ n 0 [] (fun _=>.any) (rAL _) hn zom zom rAE (fun e he=>by cases he);rw[zHD,zHC]at hI;have hN:=hI.mono (K':=fun pv s' μ'=>True/\nr 3 pv=true/\∃ k',k'≠0/\k'<s'.nx/\s'.h 0=some ⟨[.own k' 0 (vD0 (vC2 n 0)).length],1,false⟩/\s'.h k'=some ⟨vD0 (vC2 n 0),1,false⟩/\s'.z 0=false/\s'.z k'=false) (fun pv s' μ' ⟨k1,k2,k',k3,k4,k5,k6,k7,k8⟩=>⟨rGW,k2,k',k3,k4,by rw[k5]; simp,by rw[k6]; simp,k7,k8⟩)
  have hA:∀ a∈[vA7 n,.int .i64 0,.ptr 0 0 0],a=.ptr 0 0 0\/nr 3 a=true:=fun a ha=>by
   simp only[rA7,rCX,rE7]at ha;rcases ha with rfl | rfl | rfl
   .exact rAZ rfl
   .exact rAZ rfl
   .exact rAW rfl
  refine(uLF (K0:=fun _ _=>True) (new:=vD0 (vC2 n 0)) (t0:=fun _=>.any) hN hA zsm (fun e he=>(zCW e he).nr.1) hne rfl rfl).mono fun pv s' μ' hK=>?_
  obtain⟨-,rfl⟩:=hK;refine zDS (vFI [] [(1,.cptr (vA7 n) 0),(2,.ptr 1 0 0),(3,.ptr 0 0 0)] [(0,vS1 (vC2 n 0)),(1,⟨[.agg [.nilsl,.int .i64 0,.int .i64 0,.bool false,.nilsl,.nilsl,.nilsl,.bool false,.nilsl]],9,true⟩)] [] 2 zdd zsm trivial ?_ ?_)
  .exact⟨[0,1],[3],[],[(0,[.imm (vD0 (vC2 n 0))])],⟨⟨⟨_,rfl⟩,rGW⟩,rGW,⟨⟨_,6,[3],rfl,zAD (ks:=[3]) (ls:=[]) (zAI (f:=uFJ) rfl rfl zsm (fun x=>rfl)) rfl,rfl⟩,rGW⟩⟩,⟨zAH rfl,apx,apx,rGW⟩,⟨bbx,bbx,rGW⟩,rAA⟩
  refine vTS (μ2:=[]) zsm (vTV vBC hT rAB ?_);have cc:=uLG (uNQ _ n 0 [] [] (rAL _) hn zom zom ⟨zsm,fun r hr=>by cases hr⟩ rAE);rw[rBS]at cc;refine sns ?_;refine zMG (r:=0) (ks:=[]) cc rfl rfl rfl rfl (fun e he=>by simp at he; subst he; rfl) (fun i=>by simp[vC6]) ?_;refine sns ?_;refine zAB rfl ?_;rw[show vBN n=vCU n 0 [] from rAV rAC]
 .refine zAB rfl ?_
  rw[show vBN n=vC8 from rAN rAF];rfl
theorem zO3(n:NodeL)(hs:n.Sm)(hn:NodeRg n)(hw:n.wt<=536870912):Fn 13 [vA7 n] (.data (vA7 (vBN n))) :=
 vGK (vGJ (K:=fun v s=>gives s.h v (vA7 (vBN n))) ((vYL n hs hn hw).mono fun _ _ _ h=>by unfold vFY at h; exact h))
end Go.PI.Tryz
