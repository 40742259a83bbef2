/-
  The program's Lemmas.
-/
import Derived.Test.YtbelmkceegmdjaaGreatDoorKTR
set_option linter.unusedVariables false
set_option linter.unusedSimpArgs false
set_option linter.unnecessarySimpa false
set_option maxHeartbeats 0
namespace Go.PI.Tryz
open Go.Proofs Go.PI
def vL0(r:RowL):Prop:=(-9223372036854775808<=r.lo/\r.lo<9223372036854775808)/\(-9223372036854775808<=r.hi/\r.hi<9223372036854775808)
def vSZ(r:RowL):Prop:=-9223372036854775808<=r.index/\r.index<9223372036854775808
def vCX(l:List MultL):Prop:=l.length<2097152/\∀ m∈l,vL0 m.row/\vSZ m.row
abbrev vVK(m:Nat):PV:=.raw (.map (some m))
theorem uNC:Tryz.prog.underlying 78=some (.map 3 4):=by kernel_rfl
theorem uOW:Tryz.prog.underlying 3=some (.int .i64):=by kernel_rfl
def uPA(ks:List Int)(m:Nat)(l:List MultL)(μ:Mp):Prop:=∃ es clock ks',μ=[(m,.map es clock)]/\IsSet ks' es clock/\∀ k,k∈ks'↔k∈ks\/k∈vCP l
theorem vRB{l:List MultL}{i:Nat}(h:i<l.length):vCP (l.take (i+1))=vCP (l.take i)++vCP [l[i]!]:=by
 rw[rA2 h,rAT l i h];unfold vCP;rw[List.flatMap_append]
def vJQ(vs:List Int):List Int:=vs.flatMap fun v=>if 0<v then [v - 1] else []
theorem vRX(m:MultL):vCP [m]=vJQ [m.row.lo,m.row.hi]:=by simp[vCP,vJQ]
theorem uIC:FO 53 Tryz.f53 [] 31:=mkO Tryz.func53 Tryz.ntmps53 Tryz.results53
theorem uNK(m:Nat)(es:Array MapEntry)(clock:Nat)(ks:List Int)(l:List MultL)(hs:IsSet ks es clock)(hl:vCX l)(t:Tm) :
 FnM Tryz.prog G0 53 [vVK m,.imm (l.map vBB)] (fun pv s' μ'=>pv=.tup []/\uPA ks m l μ') ⟨t,fun _=>none,fun _=>false,0⟩ [(m,.map es clock)]:=by
 refine uLH vBC uIC zsm ?_;refine zAW (zBV vBC hT rAB ?_);refine sts ?_;refine vDC (zCH ?_)
 refine zGC (fun((i,_):Nat×Array MapEntry×Nat×List Int)=>[(0,vVK m),(8,.imm (l.map vBB)),(9,.int .i64 l.length),(10,.int .i64 i)]) (fun _=>[]) [] 0 (fun((_,es,clock,_):Nat×Array MapEntry×Nat×List Int)=>[(m,.map es clock)])
  (fun((i,es,clock,ks'):Nat×Array MapEntry×Nat×List Int)=>i<=l.length/\IsSet ks' es clock/\∀ k,k∈ks'↔k∈ks\/k∈vCP (l.take i)) (fun((i,_):Nat×Array MapEntry×Nat×List Int)=>l.length - i) (0,es,clock,ks) ⟨zsm,hs,by simp[vCP]⟩ zdd zsm ?_ rfl ?_
 .exact⟨[],[],[],[],ttt,⟨zDZ rfl,rAJ,zAC rfl zsm,rAI,rGU⟩,rGU,rAA⟩
 rintro⟨i,es,clock,ks'⟩ ⟨hi,hs,hk⟩
 dsimp only at hi hs hk ⊢;refine zAW (zBV vBC hT rAB ?_);refine sts ?_;refine vDC (zAW (zBV vBC hT rAB ?_))
 refine gob ?_ ?_<;>intro h
 .have hi':i<l.length:=by omega
  have hr:=(hl.2 _ (zA2 hi')).1;have hln:l.length<2097152:=hl.1;unfold vL0 at hr;refine vDC (zAW (zCH ?_));refine zAW (zBV vBC hT rAB ?_);refine sts ?_;refine vDC (zAW (zBV vBC hT rAB ?_));refine sts ?_;refine vDC (zCH ?_)
  refine zGC (fun((j,_):Nat×Array MapEntry×Nat×List Int)=>[(0,vVK m),(8,.imm (l.map vBB)),(9,.int .i64 l.length),(10,.int .i64 i),(20,.agg [.int .i64 l[i]!.row.lo,.int .i64 l[i]!.row.hi]),(21,.int .i64 j)]) (fun _=>[]) [] 0 (fun((_,es,clock,_):Nat×Array MapEntry×Nat×List Int)=>[(m,.map es clock)])
   (fun((j,es,clock,ks2):Nat×Array MapEntry×Nat×List Int)=>j<=2/\IsSet ks2 es clock/\∀ k,k∈ks2↔k∈ks'\/k∈vJQ ([l[i]!.row.lo,l[i]!.row.hi].take j)) (fun((j,_):Nat×Array MapEntry×Nat×List Int)=>2 - j) (0,es,clock,ks') ⟨zsm,hs,by simp[vJQ]⟩ zdd zsm ?_ rfl ?_
  .exact⟨[],[],[],[],ttt,⟨zDZ rfl,rAJ,rAI,rAI,vLB rfl ⟨rfl,rfl,rGU⟩,rAI,rGU⟩,rGU,rAA⟩
  rintro⟨j,es2,clock2,ks2⟩ ⟨hj,hs2,hk2⟩
  dsimp only at hj hs2 hk2 ⊢;refine zAW (zBV vBC hT rAB ?_);refine sts ?_;refine vDC (zAW (zBV vBC hT rAB ?_));obtain rfl | rfl | rfl:j=0\/j=1\/j=2:=by omega
  all_goals ((refine sts ?_))
  all_goals try (exfalso; omega)
  .refine vDC (zAW (zCH ?_))
   refine zAW (zBV vBC hT rAB ?_);refine sts ?_;refine vDC (zAW (zBV vBC hT rAB ?_));refine sts ?_;refine vDC (zJG (t:=decide (0<l[i]!.row.lo)) rfl rfl (fun hp=>?_) (fun hp=>?_))
   .rw[rAY]at hp
    refine zCG (zHB hT 3 rfl ?_);refine sts ?_;refine zI6 (k:=l[i]!.row.lo - 1) (μ1:=[]) (μ2:=[]) rfl rfl rfl rfl rfl rfl uNC uOW hs2 fun es3 clock3 hs3=>zDO ?_
    refine vDC (zBV vBC hT rAB ?_);refine sts ?_;refine⟨(1,es3,clock3,uDZ ks2 (l[i]!.row.lo - 1)),⟨⟨zom,hs3,fun k=>?_⟩,zom⟩,⟨[],[],[],[],ttt,⟨zDZ rfl,rAJ,rAI,rAI,vLB rfl ⟨rfl,rfl,rGU⟩,rAI,rGU⟩,rGU,rAA⟩,rfl⟩;rw[vHO,hk2]
    revert hp
    generalize l[i]!.row.lo=v;generalize l[i]!.row.hi=u;intro hp;simp[vJQ,hp,or_assoc]
   .rw[rB5]at hp
    refine zJF (vDC (zBV vBC hT rAB ?_));refine sts ?_;refine⟨(1,es2,clock2,ks2),⟨⟨zom,hs2,fun k=>?_⟩,zom⟩,⟨[],[],[],[],ttt,⟨zDZ rfl,rAJ,rAI,rAI,vLB rfl ⟨rfl,rfl,rGU⟩,rAI,rGU⟩,rGU,rAA⟩,rfl⟩;rw[hk2]
    revert hp
    generalize l[i]!.row.lo=v;generalize l[i]!.row.hi=u;intro hp;simp[vJQ,hp]
  .refine vDC (zAW (zCH ?_))
   refine zAW (zBV vBC hT rAB ?_);refine sts ?_;refine vDC (zAW (zBV vBC hT rAB ?_));refine sts ?_;refine vDC (zJG (t:=decide (0<l[i]!.row.hi)) rfl rfl (fun hp=>?_) (fun hp=>?_))
   .rw[rAY]at hp
    refine zCG (zHB hT 3 rfl ?_);refine sts ?_;refine zI6 (k:=l[i]!.row.hi - 1) (μ1:=[]) (μ2:=[]) rfl rfl rfl rfl rfl rfl uNC uOW hs2 fun es3 clock3 hs3=>zDO ?_
    refine vDC (zBV vBC hT rAB ?_);refine sts ?_;refine⟨(2,es3,clock3,uDZ ks2 (l[i]!.row.hi - 1)),⟨⟨zom,hs3,fun k=>?_⟩,zom⟩,⟨[],[],[],[],ttt,⟨zDZ rfl,rAJ,rAI,rAI,vLB rfl ⟨rfl,rfl,rGU⟩,rAI,rGU⟩,rGU,rAA⟩,rfl⟩;rw[vHO,hk2]
    revert hp
    generalize l[i]!.row.lo=v;generalize l[i]!.row.hi=u;intro hp;simp[vJQ,hp,or_assoc]
   .rw[rB5]at hp
    refine zJF (vDC (zBV vBC hT rAB ?_));refine sts ?_;refine⟨(2,es2,clock2,ks2),⟨⟨zom,hs2,fun k=>?_⟩,zom⟩,⟨[],[],[],[],ttt,⟨zDZ rfl,rAJ,rAI,rAI,vLB rfl ⟨rfl,rfl,rGU⟩,rAI,rGU⟩,rGU,rAA⟩,rfl⟩;rw[hk2]
    revert hp
    generalize l[i]!.row.lo=v;generalize l[i]!.row.hi=u;intro hp;simp[vJQ,hp]
  .refine vDC (zBV vBC hT rAB ?_)
   refine sts ?_;refine⟨(i+1,es2,clock2,ks2),⟨⟨zom,hs2,fun k=>?_⟩,zom⟩,⟨[],[],[],[],ttt,⟨zDZ rfl,rAJ,rAI,zAC rfl zom,rGU⟩,rGU,rAA⟩,rfl⟩;rw[hk2,hk,vRB hi',vRX,rAX,or_assoc];rfl
 .exact⟨_,rfl,rfl,_,_,_,rfl,hs,by
   rw[show i=l.length by omega,rBW]at hk
   exact hk⟩
mutual
def vC0:NodeL->Int->List (List Bool)
 | .mk l s ks e p,b=>ownB l ks p b::vBT ks (b+l.length)
def vBT:List NodeL->Int->List (List Bool)
 | [],_=>[]
 | k::ks,b=>vC0 k b++vBT ks b
end
abbrev uFO(bs:List Bool):PV:=.imm (bs.map .bool)
abbrev vDY(ls:List (List Bool)):List PV:=ls.map uFO
inductive NodeRg:NodeL->Prop
 | mk (n:NodeL) (h1:n.lemmas.length<2097152) (h2:∀ m∈n.lemmas,vCX m.proof) (h3:vCX n.proof) (h4:n.kids.length<2097152) (h5:∀ k∈n.kids,NodeRg k):NodeRg n
theorem NodeRg.ln{n:NodeL}(h:NodeRg n):n.lemmas.length<2097152:=by cases h; assumption
theorem NodeRg.lem{n:NodeL}(h:NodeRg n):∀ m∈n.lemmas,vCX m.proof:=by cases h; assumption
theorem NodeRg.prf{n:NodeL}(h:NodeRg n):vCX n.proof:=by cases h; assumption
theorem NodeRg.kn{n:NodeL}(h:NodeRg n):n.kids.length<2097152:=by cases h; assumption
theorem NodeRg.kid{n:NodeL}(h:NodeRg n):∀ k∈n.kids,NodeRg k:=by cases h; assumption
def frK(e:PV):Prop:=(∃ u,e=.raw u)\/∃ es,e=.imm es
theorem frK.nr{e:PV}(h:frK e):nr 3 e=true/\e≠.any:=by rcases h with⟨u,rfl⟩ | ⟨u,rfl⟩<;>exact⟨rfl,zsm⟩
theorem frK.frz{e:PV}(h:frK e)(hp:Hp)(n:Nat):frz hp n e=some (e,[]):=by rcases h with⟨u,rfl⟩ | ⟨u,rfl⟩<;>cases n<;>rfl
theorem frK.rn{e:PV}(h:frK e)(ρ:Nat->Nat)(k:Nat):rn ρ k 3 e e:=by
 rcases h with⟨u,rfl⟩ | ⟨u,rfl⟩
 .rw[uFP]
 .rw[vU7]
theorem vU9{f:PV->PV->Prop}:∀ {a a' b b':List PV},rnL f a a'->rnL f b b'->rnL f (a++b) (a'++b')
 | [],[],_,_,_,h=>h
 | _::_,_::_,_,_,h,h2=>⟨h.1,vU9 h.2 h2⟩
 | [],_::_,_,_,h,_=>h.elim
 | _::_,[],_,_,h,_=>h.elim
theorem vU8{ρ:Nat->Nat}{k:Nat}:∀ {l:List PV},(∀ e∈l,frK e)->rnL (rn ρ k 3) l l
 | [],_=>trivial
 | e::l,h=>⟨(h e zsm).rn ρ k,vU8 fun x hx=>h x (by simp[hx])⟩
theorem zCR{ls:List (List Bool)}:∀ e∈vDY ls,frK e:=fun e he=>by obtain⟨x,_,rfl⟩:=rA5.1 he; exact rA0 ⟨_,rfl⟩
theorem zF9{ρ:Nat->Nat}{k:Nat}{Z:List Nat}{r p p' n n':Nat}{pre post els':List PV}{h:Hp}{z:Fz}(hr:r<k)(hb:h (ρ r)=some ⟨els',1,false⟩)(he:els'=pre++.own p' 0 n'::post)(hp:p<k)(e:p'=ρ p)(en:n'=n)(hpre:∀ e∈pre,frK e)(hpost:∀ e∈post,frK e)(hz:vPI Z r=z (ρ r)) :
 vTB ρ k Z r ⟨pre++.own p 0 n::post,1,false⟩ h z:=by
 subst he e en;refine⟨hr,fun e he=>?_,⟨_,hb,rfl,rfl,rA0 (vU9 (vU8 hpre) ⟨by rw[zDW]; exact⟨hp,rfl⟩,vU8 hpost⟩)⟩,hz⟩;simp only[rAX,rBA]at he;rcases he with he | rfl | he
 .exact(hpre e he).nr.2
 .simp
 .exact(hpost e he).nr.2
theorem zDE{h:Hp}{n r:Nat}{d:NodeL}{sz:Nat}{agg:Bool}(hb:h r=some ⟨[vA7 d],sz,agg⟩):frz h (n+2) (.ptr r 0 0)=some (.cptr (vA7 d) 0,[r]):=by
 have he:frz h (n+1) (vA7 d)=some (vA7 d,[]):=by rw[<- zBR]; exact zG1 d
 unfold frz;simp only[hb,List.getElem?_cons_zero,he]
def uPZ(n:NodeL)(b:Int)(pre:List PV)(pv:PV)(s':St)(μ':Mp):Prop :=
 (∃ m es clock ks,pv=vVK m/\μ'=[(m,.map es clock)]/\IsSet ks es clock/\∀ k,k∈ks↔k∈vFC n b)/\nr 3 pv=true/\∃ k',k'≠0/\k'<s'.nx/\s'.h 0=some ⟨[.own k' 0 (pre.length+(vC0 n b).length)],1,false⟩/\s'.h k'=some ⟨pre++vDY (vC0 n b),1,false⟩/\s'.z 0=false/\s'.z k'=false
abbrev vOY(b:Int)(n:NodeL)(i:Nat):List Int:=vCP n.proof++vDR (n.kids.take i) (b+n.lemmas.length)
theorem vHV{ks:List NodeL}{i:Nat}(h:i<ks.length):((ks.take i).map NodeL.wt).sum+ks[i]!.wt<=(ks.map NodeL.wt).sum:=by
 have:=zGW (f:=NodeL.wt) h;have:=sum_take_le (f:=NodeL.wt) (l:=ks) (i:=i+1);omega
theorem zM0:∀ (l:List LemL),l.length<=(l.map vCD).sum
 | []=>by simp
 | m::l=>by have:=zM0 l; simp[vCD]; omega
mutual
theorem vJ8:∀ (n:NodeL) (b:Int),(vC0 n b).length<=n.wt
 | .mk l s ks e p,b=>by
   have:=zIF ks (b+l.length);rw[NodeL.wt_eq];simp only[vC0,List.length_cons,NodeL.lemmas,NodeL.proof,NodeL.kids];omega
theorem zIF:∀ (ks:List NodeL) (b:Int),(vBT ks b).length<=(ks.map NodeL.wt).sum
 | [],_=>by simp[vBT]
 | k::ks,b=>by
   have h1:=vJ8 k b;have h2:=zIF ks b;simp only[vBT,rAV,rBM,List.sum_cons];omega
end
theorem zPO:∀ (ks ks':List NodeL) (b:Int),vBT (ks++ks') b=vBT ks b++vBT ks' b
 | [],_,_=>rfl
 | k::ks,ks',b=>by simp only[List.cons_append,vBT,zPO ks ks' b,rBB]
theorem vIT:∀ (ks ks':List NodeL) (b:Int),vDR (ks++ks') b=vDR ks b++vDR ks' b
 | [],_,_=>rfl
 | k::ks,ks',b=>by simp only[List.cons_append,vDR,vIT ks ks' b,rBB]
theorem zNW{ks:List NodeL}{i:Nat}(h:i<ks.length)(b:Int):vBT (ks.take (i+1)) b=vBT (ks.take i) b++vC0 ks[i]! b:=by
 rw[rA2 h,rAT ks i h,zPO];simp[vBT]
theorem vRC{ks:List NodeL}{i:Nat}(h:i<ks.length)(b:Int):vDR (ks.take (i+1)) b=vDR (ks.take i) b++vFC ks[i]! b:=by
 rw[rA2 h,rAT ks i h,vIT];simp[vDR]
theorem FnM.args{f:FuncId}{args args':List PV}{K:PV->St->Mp->Prop}{s:St}{μ:Mp}(e:args=args')(h:FnM Tryz.prog G0 f args' K s μ):FnM Tryz.prog G0 f args K s μ:=e ▸ h
theorem uOL{a b b' c:PV}(h:b=b'):[a,b,c]=[a,b',c]:=h ▸ rfl
abbrev uQP(it:Nat):PV:=.raw (.pointer (some ⟨it,0,none⟩))
theorem vM3{h:Hp}{n:Nat}:∀ {l:List PV},(∀ e∈l,frK e)->vB7 (frz h n) l=some (l,[])
 | [],_=>rfl
 | e::l,hl=>zAD ((hl e zsm).frz h n) (vM3 fun x hx=>hl x (by simp[hx]))
theorem vPJ{f:PV->Option (PV×List Nat)}:∀ {l a l' b:List PV} {ks ls:List Nat},vB7 f l=some (a,ks)->vB7 f l'=some (b,ls)->vB7 f (l++l')=some (a++b,ks++ls)
 | [],a,l',b,ks,ls,h,h2=>by simp[vB7]at h; obtain⟨rfl,rfl⟩:=h; exact h2
 | x::l,a,l',b,ks,ls,h,h2=>by
   unfold vB7 at h
   split at h
   .rename_i d ks1 ds ls1 e1 e2
    cases h
    have:=zAD e1 (vPJ e2 h2);rw[rBB];exact this
   .cases h
theorem uO0:(Tryz.prog.info? 4).bind (·.zero)=some (.bool false):=by kernel_rfl
theorem uO1(w:World):(zeroValue 4).run Tryz.prog w=.ok (.bool false) w:=by
 obtain⟨i,hi,hz⟩:=rGO.1 uO0;simp[zeroValue,typeInfo,hi,hz,Result.andThen]
abbrev vD7(b:Int)(n:NodeL)(j:Nat):List Bool×List Int:=keepR (n.lemmas.drop j) (b+j) (vCP n.proof++vDR n.kids (b+n.lemmas.length))
abbrev vV2(b:Int)(n:NodeL)(j:Nat):List PV:=List.replicate j (.bool false)++(vD7 b n j).1.map .bool
theorem uIZ:FO 35 Tryz.f35 [.tmp 6] 86:=mkO Tryz.func35 Tryz.ntmps35 Tryz.results35
theorem uNL:∀ (sz:Nat) (n:NodeL) (b:Int) (pre:List PV) (t:Tm),SizeOf.sizeOf n<sz->NodeRg n->0<=b->b+n.wt<=4611686018427387904->pre.length+n.wt<=1073741824->(∀ e∈pre,frK e) ->
 FnM Tryz.prog G0 35 [vA7 n,.int .i64 b,.ptr 0 0 0] (uPZ n b pre) ⟨t,hv [(0,⟨[.own 1 0 pre.length],1,false⟩),(1,⟨pre,1,false⟩)],zv [],2⟩ []:=by
 intro sz
 induction sz with
 | zero=>intro n b pre t h; omega
 | succ sz ih =>
   intro n b pre t hsz hn hb hbw hpw hpre;have hwt:=n.wt_eq;have hll:n.lemmas.length<=(n.lemmas.map vCD).sum:=zM0 _;have hln:=hn.ln;have hkn:=hn.kn;refine uLH vBC uIZ zsm ?_;refine zAW (zBV vBC hT rAB ?_);refine sns ?_;refine vDC (zAW (zBV vBC hT rAB ?_));refine sns ?_;refine vDC (zAW (zBV vBC hT rAB ?_));refine sns ?_;refine vFD [] [(1,.int .i64 b),(2,.ptr 0 0 0),(3,.cptr (vA7 n) 0),(7,.int .i64 pre.length)] [(0,⟨[.own 2 0 (pre.length+1)],1,false⟩),(2,⟨pre++.own 3 0 n.lemmas.length::[],1,false⟩),(3,⟨List.replicate n.lemmas.length (.bool false),1,false⟩)] [] 4 zdd zsm trivial ?_ ?_
   .exact⟨[18,16],[2],[(3,.cptr (vA7 n) 0)],[],⟨⟨⟨_,rfl⟩,rGU⟩,⟨⟨6,[2],zDE rfl,rfl⟩,rGU⟩,rGU⟩,⟨zAC rfl rfl,apx,zAG rfl,zAC rfl rfl,rGU⟩,⟨zAH zdd rfl (by rw[zDW]; exact⟨zdd,rfl⟩) rfl rfl,zF9 zdd rfl (by simp; rfl) zdd rfl rfl hpre zsm rfl,zAF zdd rfl zsm (fun e he=>by rw[rB8 he]; exact⟨rfl,zsm⟩) rfl,rGU⟩,rAA⟩
   refine zAW (zCG (vV5 rfl rfl rfl fun m=>zHB hT 1 rfl ?_));refine sns ?_;refine zDO (vDC (zAW (zCG (zHB hT 3 rfl ?_))));refine sns ?_;refine zJZ rfl rfl rfl rfl ?_;refine(vQ8 (uNK m #[] 0 [] n.proof vYC hn.prf (fun _=>.any)) (fun a ha=>?_)).mono fun pv s' μ' hK=>?_
   .simp only[rBA,rCX,rE0]at ha
    rcases ha with rfl | rfl<;>rfl
   obtain⟨rfl,hK⟩:=hK;have hu:uPA [] m n.proof μ':=by rcases hK with⟨⟨_,_,h⟩,_⟩ | ⟨_,_,_,_,h⟩<;>exact h
   clear hK;obtain⟨es,clock,ks,rfl,hs,hks⟩:=hu;simp only[rCX,false_or]at hks;refine zDO (vDC (zAW (zAW (zBV vBC hT rAB ?_))));refine sns ?_;refine vDC (zCH ?_)
   refine zGC (fun((i,_):Nat×Array MapEntry×Nat×List Int)=>[(1,.int .i64 b),(2,.ptr 0 0 0),(3,.cptr (vA7 n) 0),(7,.int .i64 pre.length),(8,vVK m),(34,.imm (n.kids.map vBF)),(35,.int .i64 n.kids.length),(36,.int .i64 i)])
    (fun((i,_):Nat×Array MapEntry×Nat×List Int)=>[(0,⟨[.own 2 0 (pre.length+1+(vBT (n.kids.take i) (b+n.lemmas.length)).length)],1,false⟩),(2,⟨pre++.own 3 0 n.lemmas.length::vDY (vBT (n.kids.take i) (b+n.lemmas.length)),1,false⟩),(3,⟨List.replicate n.lemmas.length (.bool false),1,false⟩)]) [] 4
    (fun((_,es,clock,_):Nat×Array MapEntry×Nat×List Int)=>[(m,.map es clock)])
    (fun((i,es,clock,ks):Nat×Array MapEntry×Nat×List Int)=>i<=n.kids.length/\IsSet ks es clock/\∀ k,k∈ks↔k∈vOY b n i) (fun((i,_):Nat×Array MapEntry×Nat×List Int)=>n.kids.length - i) (0,es,clock,ks) ⟨zsm,hs,by simpa [vOY,vDR]using hks⟩ zdd zsm ?_ rfl ?_
   .exact⟨[2,3],[],[],[],ttt,⟨rAI,apx,zAG rfl,rAI,zDZ rfl,rAJ,zAC rfl zsm,rAI,rGU⟩,
     ⟨zAH zdd rfl (by rw[zDW]; exact⟨zdd,rfl⟩) rfl rfl,zF9 zdd rfl rfl zdd rfl rfl hpre zCR rfl,zAF zdd rfl rfl (fun e he=>by rw[rB8 he]; exact⟨rfl,zsm⟩) rfl,rGU⟩,rAA⟩
   .clear hs hks
    rintro⟨i,es,clock,ks⟩ ⟨hi,hs,hks⟩
    dsimp only at hi hs hks ⊢;refine zAW (zBV vBC hT rAB ?_);refine sns ?_;refine vDC (zAW (zBV vBC hT rAB ?_))
    refine gon ?_ ?_<;>intro h
    .have hi':i<n.kids.length:=by omega
     refine vDC (zAW (zCH ?_));refine zAW (zBV vBC hT rAB ?_);refine sns ?_
     refine vFD [] [(1,.int .i64 b),(2,.ptr 0 0 0),(3,.cptr (vA7 n) 0),(7,.int .i64 pre.length),(8,vVK m),(34,.imm (n.kids.map vBF)),(35,.int .i64 n.kids.length),(36,.int .i64 i),(10,.cptr (vA7 n.kids[i]!) 0)]
      [(0,⟨[.own 2 0 (pre.length+1+(vBT (n.kids.take i) (b+n.lemmas.length)).length)],1,false⟩),(2,⟨pre++.own 3 0 n.lemmas.length::vDY (vBT (n.kids.take i) (b+n.lemmas.length)),1,false⟩),(3,⟨List.replicate n.lemmas.length (.bool false),1,false⟩)] [] 4 zdd zsm trivial ?_ ?_
     .exact⟨[2,3],[7],[(10,.cptr (vA7 n.kids[i]!) 0)],[],⟨⟨⟨_,rfl⟩,rGU⟩,⟨⟨6,[7],zDE rfl,rfl⟩,rGU⟩,rGU⟩,⟨zAC rfl rfl,apx,zAG rfl,zAC rfl rfl,zDZ rfl,zAE rfl rfl,zAC rfl rfl,zAC rfl rfl,zAG rfl,rGU⟩,
       ⟨zAH zdd rfl (by rw[zDW]; exact⟨zdd,rfl⟩) rfl rfl,zF9 zdd rfl rfl zdd rfl rfl hpre zCR rfl,zAF zdd rfl rfl (fun e he=>by rw[rB8 he]; exact⟨rfl,zsm⟩) rfl,rGU⟩,rAA⟩
     have hkm:n.kids[i]! ∈ n.kids:=zA2 hi';have hks1:=vHV hi';have hks2:=zIF (n.kids.take i) (b+n.lemmas.length);have hks3:=vJ8 n.kids[i]! (b+n.lemmas.length);refine zAW (zCG (zHB hT 7 rfl ?_));refine sns ?_;refine zJZ rfl rfl rfl rfl ?_;refine FnM.args (uOL (a:=vA7 n.kids[i]!) (b:=.int .i64 (b+((List.map vBA n.lemmas).length:Nat))) (b':=.int .i64 (b+n.lemmas.length)) (c:=.ptr 0 0 0) (by rw[rAN])) ?_;refine(uAL (μ:=[]) [(m,.map es clock)] (uLI (K0:=fun pv μ'=>∃ m es clock ks,pv=vVK m/\μ'=[(m,.map es clock)]/\IsSet ks es clock/\∀ k,k∈ks↔k∈vFC n.kids[i]! (b+n.lemmas.length)) (k:=2) (p:=3) (n:=n.lemmas.length) (L:=pre.length+1+(vBT (n.kids.take i) (b+n.lemmas.length)).length) (pre:=pre) (post:=vDY (vBT (n.kids.take i) (b+n.lemmas.length))) (new:=vDY (vC0 n.kids[i]! (b+n.lemmas.length))) (t0:=fun _=>.any) zsm (fun u=>?_) (fun a ha=>?_) zsm (fun e he=>?_) (fun e he=>(zCR e he).nr.1) rfl rfl zdd zdd zdd rfl rfl)).mono fun pv2 s' μ' hK=>?_
     .have e1:(pre++.raw u::vDY (vBT (n.kids.take i) (b+n.lemmas.length))).length=pre.length+1+(vBT (n.kids.take i) (b+n.lemmas.length)).length:=by
       simp; omega
      have hI:=ih n.kids[i]! (b+n.lemmas.length) (pre++.raw u::vDY (vBT (n.kids.take i) (b+n.lemmas.length))) (fun _=>.any) (by have:=NodeL.sizeOf_kid hkm; omega) (hn.kid _ hkm) zom zom (by rw[e1]; omega) (fun e he=>by
       simp only[rAX,rBA]at he;rcases he with he | rfl | he
       .exact hpre e he
       .exact rAW ⟨_,rfl⟩
       .exact zCR e he)
      rw[zHE,zHD,e1]at hI;refine hI.mono fun pv s' μ' ⟨k1,k2,k',k3,k4,k5,k6,k7,k8⟩=>⟨k1,k2,k',k3,k4,?_,?_,k7,k8⟩
      .rw[k5,e1]; simp
      .rw[k6]; simp
     .simp only[rBA,rCX,rE0]at ha
      rcases ha with rfl | rfl | rfl
      .exact rA0 rfl
      .exact rA0 rfl
      .exact rAW rfl
     .simp only[rAX]at he
      rcases he with he | he
      .exact(hpre e he).nr.1
      .exact(zCR e he).nr.1
     obtain⟨μ2,rfl,⟨mk,esk,clk,ksk,rfl,rfl,hsk,hksk⟩,rfl⟩:=hK
     refine uB5 rfl rfl rfl rfl uNC (m:=mk) (es:=esk) (clock:=clk) zsm fun it=>zDO (vFD [] [(1,.int .i64 b),(2,.ptr 0 0 0),(3,.cptr (vA7 n) 0),(7,.int .i64 pre.length),(8,vVK m),(34,.imm (n.kids.map vBF)),(35,.int .i64 n.kids.length),(36,.int .i64 i),(48,uQP it)]
      [(0,⟨[.own 2 0 (pre.length+1+(vBT (n.kids.take (i+1)) (b+n.lemmas.length)).length)],1,false⟩),(2,⟨pre++.own 3 0 n.lemmas.length::vDY (vBT (n.kids.take (i+1)) (b+n.lemmas.length)),1,false⟩),(3,⟨List.replicate n.lemmas.length (.bool false),1,false⟩)] [] 4 zdd zsm trivial ?_ ?_)
     .exact⟨[11,3],[],[],[],ttt,⟨rAI,apx,zAG rfl,rAI,zDZ rfl,rAJ,rAI,rAI,zDZ rfl,rGU⟩,
       ⟨zAH zdd rfl (by rw[zDW]; exact⟨zdd,by simp[zNW hi']; exact⟨rfl,zom⟩⟩) rfl rfl,zF9 zdd rfl (by rw[zNW hi']; simp; rfl) zdd rfl rfl hpre zCR rfl,zAF zdd rfl rfl (fun e he=>by rw[rB8 he]; exact⟨rfl,zsm⟩) rfl,rGU⟩,rAA⟩
     refine zCH ?_;have hold:∀ x∈esk.toList,x.born<clk:=hsk.2.1
     refine zGC (fun _:Array Nat×Array MapEntry×Nat×List Int=>[(1,.int .i64 b),(2,.ptr 0 0 0),(3,.cptr (vA7 n) 0),(7,.int .i64 pre.length),(8,vVK m),(34,.imm (n.kids.map vBF)),(35,.int .i64 n.kids.length),(36,.int .i64 i),(48,uQP it)])
      (fun _=>[(0,⟨[.own 2 0 (pre.length+1+(vBT (n.kids.take (i+1)) (b+n.lemmas.length)).length)],1,false⟩),(2,⟨pre++.own 3 0 n.lemmas.length::vDY (vBT (n.kids.take (i+1)) (b+n.lemmas.length)),1,false⟩),(3,⟨List.replicate n.lemmas.length (.bool false),1,false⟩)]) [] 4
      (fun((seen,es,clock,_):Array Nat×Array MapEntry×Nat×List Int)=>[(it,.mapIter (some mk) clk seen clk),(mk,.map esk clk),(m,.map es clock)])
      (fun((seen,es,clock,ks'):Array Nat×Array MapEntry×Nat×List Int)=>IsSet ks' es clock/\∀ k,k∈ks'↔k∈ks\/∃ e∈esk.toList,seen.contains e.born=true/\e.key=.int .i64 k) (fun((seen,_):Array Nat×Array MapEntry×Nat×List Int)=>(leftOf esk seen).size) (#[],es,clock,ks) ⟨hs,fun k=>by simp⟩ zdd zsm ?_ rfl ?_
     .exact⟨[2,3],[],[],[],ttt,⟨rAI,apx,zAG rfl,rAI,zDZ rfl,rAJ,rAI,rAI,zDZ rfl,rGU⟩,
       ⟨zAH zdd rfl (by rw[zDW]; exact⟨zdd,rfl⟩) rfl rfl,zF9 zdd rfl rfl zdd rfl rfl hpre zCR rfl,zAF zdd rfl rfl (fun e he=>by rw[rB8 he]; exact⟨rfl,zsm⟩) rfl,rGU⟩,rAA⟩
     rintro⟨seen,es2,clock2,ks2⟩ ⟨hs2,hks2⟩
     dsimp only at hs2 hks2 ⊢;refine zAW (zCG (vV4 (m:=mk) (es:=esk) (clock:=clk) (μ1:=[]) (μ2:=[(mk,.map esk clk),(m,.map es2 clock2)]) rfl rfl rfl rfl zsm hold (rAR _) (fun h0=>?_) (fun e he=>?_)))
     .refine zHB hT 1 rfl ?_
      refine sns ?_;refine zDO (vDC (zAW (zBV vBC hT rAB ?_)));refine sns ?_;refine vDC (vTS (μ2:=[(m,.map es2 clock2)]) zsm (zBV vBC hT rAB ?_));refine sns ?_
      refine⟨(i+1,es2,clock2,ks2),⟨⟨zom,hs2,fun k=>?_⟩,zom⟩,⟨[2,3],[],[],[],ttt,⟨rAI,apx,zAG rfl,rAI,zDZ rfl,rAJ,rAI,zAC rfl zom,rGU⟩,
       ⟨zAH zdd rfl (by rw[zDW]; exact⟨zdd,rfl⟩) rfl rfl,zF9 zdd rfl rfl zdd rfl rfl hpre zCR rfl,zAF zdd rfl rfl (fun e he=>by rw[rB8 he]; exact⟨rfl,zsm⟩) rfl,rGU⟩,rAA⟩,rfl⟩
      unfold vOY at hks ⊢;rw[hks2,hks,vRC hi',<- rBB,rAX (t:=vFC _ _),<- hksk];refine or_congr_right ⟨fun⟨e,h1,_,h3⟩=>?_,fun hk=>?_⟩
      .obtain⟨k',h4,h5,_⟩:=hsk.key h1
       rw[h5]at h3;cases h3
       exact h4
      .obtain⟨e,h1,h2⟩:=hsk.mem hk
       exact⟨e,h1,all_seen esk seen h0 e h1,h2⟩
     .refine zHB hT 1 rfl ?_
      refine sns ?_;refine zDO (vDC (zAW (zBV vBC hT rAB ?_)));refine sns ?_;obtain⟨hem,hen⟩:=mem_left he;obtain⟨k,hk,ek,ev⟩:=hsk.key hem;refine vDC (zCH (zAW (zCG (vR0 (m:=mk) (it:=it) (k:=k) (since:=clk) (seen:=seen) (e:=e) (es:=esk) (clock:=clk) rfl rfl rfl rfl zsm zsm hem hsk.2.2.1 ek (zHB hT 2 rfl ?_)))));refine sns ?_;refine zDO (vDC (zCG (zHB hT 2 rfl ?_)));refine sns ?_;refine zI6 (k:=k) (m:=m) (es:=es2) (clock:=clock2) (μ1:=[(it,.mapIter (some mk) clk (seen.push e.born) clk),(mk,.map esk clk)]) (μ2:=[]) rfl rfl rfl rfl rfl rfl uNC uOW hs2 fun es3 clock3 hs3=>zDO ?_
      refine⟨(seen.push e.born,es3,clock3,uDZ ks2 k),⟨⟨hs3,fun j=>?_⟩,left_shrinks esk seen e he⟩,⟨[2,3],[],[],[],ttt,⟨rAI,apx,zAG rfl,rAI,zDZ rfl,rAJ,rAI,rAI,zDZ rfl,rGU⟩,
       ⟨zAH zdd rfl (by rw[zDW]; exact⟨zdd,rfl⟩) rfl rfl,zF9 zdd rfl rfl zdd rfl rfl hpre zCR rfl,zAF zdd rfl rfl (fun e he=>by rw[rB8 he]; exact⟨rfl,zsm⟩) rfl,rGU⟩,rAA⟩,rfl⟩
      rw[vHO,hks2,or_assoc];refine or_congr_right ⟨fun h=>?_,fun⟨e',h1,h2,h3⟩=>?_⟩
      .rcases h with⟨e',h1,h2,h3⟩ | rfl
       .exact⟨e',h1,by rw[contains_push,h2]; rfl,h3⟩
       .exact⟨e,hem,by rw[contains_push,beq_self_eq_true,rDE],ek⟩
      .rw[contains_push,rCE,rDJ]at h2
       rcases h2 with h2 | h2
       .exact rAW ⟨e',h1,h2,h3⟩
       .have:=born_inj hsk.2.2.1 h1 hem h2
        subst this;rw[ek]at h3;cases h3
        exact rA0 rfl
    .obtain rfl:i=n.kids.length:=by omega
     unfold vOY at hks;simp only[rBW]at hks ⊢;refine vDC (zAW (zAW (zBV vBC hT rAB ?_)));refine sns ?_;refine vDC (zCH ?_);have hlr:=zIF n.kids (b+n.lemmas.length);have hnrB:∀ e∈List.replicate n.lemmas.length (PV.bool false),nr 3 e=true/\e≠.any:=fun e he=>by rw[rB8 he]; exact⟨rfl,zsm⟩
     have hnrJ:∀ j,∀ e∈vV2 b n j,nr 3 e=true/\e≠.any:=fun j e he=>by
      rcases rAX.1 he with he | he
      .rw[rB8 he]; exact⟨rfl,zsm⟩
      .obtain⟨x,_,rfl⟩:=rA5.1 he; exact⟨rfl,zsm⟩
     refine zGC (fun((j,_):Nat×Array MapEntry×Nat×List Int)=>[(1,.int .i64 b),(2,.ptr 0 0 0),(3,.cptr (vA7 n) 0),(7,.int .i64 pre.length),(8,vVK m),(12,.int .i64 ((j:Int) - 1))])
      (fun((j,_):Nat×Array MapEntry×Nat×List Int)=>[(0,⟨[.own 2 0 (pre.length+1+(vBT n.kids (b+n.lemmas.length)).length)],1,false⟩),(2,⟨pre++.own 3 0 n.lemmas.length::vDY (vBT n.kids (b+n.lemmas.length)),1,false⟩),(3,⟨vV2 b n j,1,false⟩)]) [] 4
      (fun((_,es,clock,_):Nat×Array MapEntry×Nat×List Int)=>[(m,.map es clock)])
      (fun((j,es,clock,ks):Nat×Array MapEntry×Nat×List Int)=>j<=n.lemmas.length/\IsSet ks es clock/\∀ k,k∈ks↔k∈(vD7 b n j).2) (fun((j,_):Nat×Array MapEntry×Nat×List Int)=>j) (n.lemmas.length,es,clock,ks) ⟨rAR _,hs,fun k=>by unfold vD7; rw[rFC]; exact hks k⟩ zdd zsm ?_ rfl ?_
     .exact⟨[2,3],[],[],[],ttt,⟨rAI,apx,zAG rfl,rAI,zDZ rfl,zAC rfl zsm,rGU⟩,
       ⟨zAH zdd rfl (by rw[zDW]; exact⟨zdd,rfl⟩) rfl rfl,zF9 zdd rfl rfl zdd rfl rfl hpre zCR rfl,zAF zdd rfl (by unfold vV2 vD7; rw[rFC]; simp[keepR]) (hnrJ _) rfl,rGU⟩,rAA⟩
     clear hs hks
     rintro⟨j,es,clock,ks⟩ ⟨hj,hs,hks⟩
     dsimp only at hj hs hks ⊢;refine zAW (zAW (zBV vBC hT rAB ?_));refine sns ?_;refine vDC (zBV vBC hT rAB ?_)
     refine gon ?_ ?_<;>intro h
     .obtain⟨j,rfl⟩:∃ i,j=i+1:=⟨j - 1,zom⟩
      have hj':j<n.lemmas.length:=by omega
      have ed:n.lemmas.drop j=n.lemmas[j]! :: n.lemmas.drop (j+1):=by rw[rAT n.lemmas j hj']; exact rBT hj'
      have hlm:n.lemmas[j]! ∈ n.lemmas:=zA2 hj';refine vDC (zAW (zCH ?_));refine zAW (zCG (zHB hT 4 rfl ?_));refine sns ?_;refine vV6 (k:=b+j) (m:=m) (es:=es) (clock:=clock) (ks:=ks) rfl rfl rfl rfl ?_ uNC uOW uO1 hs zsm (zDO (vDC ?_))
      .exact rA3 (PV.int .i64) zom
      refine zJG (t:=decide (b+j∈ks)) rfl rfl (fun hp=>?_) (fun hp=>?_)
      .rw[rAY]at hp
       refine zAW (zBV vBC hT rAB ?_);refine sns ?_;refine zJ3 (a:=.own 3 0 n.lemmas.length) (by rw[zD3]; simp) ?_;refine sns ?_;refine zJ3 (a:=.bool false) (by rw[zD3,show 0+(((j+1:Nat):Int) - 1).toNat=j by omega]; show(vV2 b n (j+1))[j]?=_; unfold vV2; rw[rBX zsm]; simp[rGR]) ?_;refine sns ?_;refine vDC (zCG (zHB hT 7 rfl ?_));refine sns ?_;refine zA5 (j:=j) zom hj' ?_;refine sns ?_;refine zJZ rfl rfl rfl rfl ?_;refine(vQ8 (uNK m es clock ks n.lemmas[j]!.proof hs (hn.lem _ hlm) (fun _=>.any)) (fun a ha=>?_)).mono fun pv3 s' μ' hK=>?_
       .simp only[rBA,rCX,rE0]at ha
        rcases ha with rfl | rfl<;>rfl
       obtain⟨rfl,hK⟩:=hK;have hu:uPA ks m n.lemmas[j]!.proof μ':=by rcases hK with⟨⟨_,_,h⟩,_⟩ | ⟨_,_,_,_,h⟩<;>exact h
       clear hK;obtain⟨es3,clock3,ks3,rfl,hs3,hks3⟩:=hu;refine zDO (vDC (zBV vBC hT rAB ?_));refine sns ?_
       have ek:(vD7 b n j)=(true::(vD7 b n (j+1)).1,(vD7 b n (j+1)).2++vCP n.lemmas[j]!.proof):=by
        unfold vD7
        rw[ed,zLT,rAU (by
         have:=(hks (b+j)).1 hp;unfold vD7 at this;rw[show b+((j+1:Nat):Int)=b+j+1 by omega]at this
         exact this),show b+((j+1:Nat):Int)=b+j+1 by omega]
       refine⟨(j,es3,clock3,ks3),⟨⟨zom,hs3,fun k=>?_⟩,by show j<j+1; omega⟩,⟨[2,3],[],[],[],ttt,⟨rAI,apx,zAG rfl,rAI,zDZ rfl,zAC rfl (by show _=((j:Nat):Int) - 1; omega),rGU⟩,
        ⟨zAH zdd rfl (by rw[zDW]; exact⟨zdd,rfl⟩) rfl rfl,zF9 zdd rfl rfl zdd rfl rfl hpre zCR rfl,zAF zdd rfl ?_ (hnrJ _) rfl,rGU⟩,rAA⟩,rfl⟩
       .rw[hks3,hks,ek,rAX]
       .show(vV2 b n (j+1)).set _ _=vV2 b n j
        rw[show 0+(((j+1:Nat):Int) - 1).toNat=j by omega];unfold vV2;rw[ek,List.replicate_succ',rBB,List.set_append_right _ _ zsm]
        simp
      .rw[rB5]at hp
       refine zJF (vDC (zBV vBC hT rAB ?_));refine sns ?_
       have ek:(vD7 b n j)=(false::(vD7 b n (j+1)).1,(vD7 b n (j+1)).2):=by
        unfold vD7
        rw[ed,zLT,rAM (fun hc=>hp ((hks (b+j)).2 (by
         unfold vD7;rw[show b+((j+1:Nat):Int)=b+j+1 by omega]
         exact hc))),show b+((j+1:Nat):Int)=b+j+1 by omega]
       refine⟨(j,es,clock,ks),⟨⟨zom,hs,fun k=>?_⟩,by show j<j+1; omega⟩,⟨[2,3],[],[],[],ttt,⟨rAI,apx,zAG rfl,rAI,zDZ rfl,zAC rfl (by show _=((j:Nat):Int) - 1; omega),rGU⟩,
        ⟨zAH zdd rfl (by rw[zDW]; exact⟨zdd,rfl⟩) rfl rfl,zF9 zdd rfl rfl zdd rfl rfl hpre zCR rfl,zAF zdd rfl ?_ (hnrJ _) rfl,rGU⟩,rAA⟩,rfl⟩
       .rw[hks,ek]
       .unfold vV2
        rw[ek,List.replicate_succ',rBB]
        simp
     .obtain rfl:j=0:=by omega
      have e0:vD7 b n 0=keepR n.lemmas b (vCP n.proof++vDR n.kids (b+n.lemmas.length)):=by
       unfold vD7;rw[rGG,show b+((0:Nat):Int)=b by omega]
      have e1:vV2 b n 0=(ownB n.lemmas n.kids n.proof b).map PV.bool:=by
       unfold vV2;rw[e0];rfl
      have e2:vC0 n b=ownB n.lemmas n.kids n.proof b::vBT n.kids (b+n.lemmas.length):=by cases n; rfl
      have e3:vFC n b=(vD7 b n 0).2:=by rw[e0]; cases n; rfl
      have el:(ownB n.lemmas n.kids n.proof b).length=n.lemmas.length:=zD4 _ _ _;refine vFD [] [(8,vVK m)] [(0,⟨[.own 2 0 (pre.length+1+(vBT n.kids (b+n.lemmas.length)).length)],1,false⟩),(2,⟨pre++vDY (vC0 n b),1,false⟩)] [] 3 zdd zsm trivial ?_ ?_
      .exact⟨[2],[3],[],[(2,pre++vDY (vC0 n b))],⟨⟨⟨_,rfl⟩,rGU⟩,rGU,⟨⟨_,4,[3],rfl,by rw[e2]; exact vPJ (ls:=[3]) (vM3 hpre) (zAD (zAI rfl e1 el.symm (fun x=>rfl)) (vM3 zCR)),rfl⟩,rGU⟩⟩,⟨zDZ rfl,rGU⟩,
        ⟨zAH zdd rfl (by rw[zDW]; exact⟨zdd,rfl⟩) rfl rfl,zAF zdd rfl rfl (fun e he=>by
          rcases rAX.1 he with he | he
          .exact(hpre e he).nr
          .exact(zCR e he).nr) rfl,rGU⟩,rAA⟩
      refine vTV vBC hT rAB ?_;refine sns ?_;refine⟨⟨m,es,clock,ks,rfl,rfl,hs,fun k=>by rw[hks,e3]⟩,rfl,2,zdd,by show 2<5; decide,?_,rfl,rfl,rfl⟩;show some _=some _
      rw[e2,List.length_cons,show pre.length+1+(vBT n.kids (b+n.lemmas.length)).length=pre.length+((vBT n.kids (b+n.lemmas.length)).length+1) by omega]
open Go.Proofs Go.PI
abbrev vM6(R:List Int):PV:=.imm (R.map (.int .i64))
def uM4(R:List Int):Prop:=R.length<1073741824/\∀ r∈R,0<=r/\r<4611686018427387904
theorem uIE:FO 55 Tryz.f55 [.tmp 3] 23:=mkO Tryz.func55 Tryz.ntmps55 Tryz.results55
theorem uGN(k:Int)(R:List Int)(hR:uM4 R)(h1:-9223372036854775808<=k)(h2:k<9223372036854775808):Fn 55 [.int .i64 k,.cptr (vM6 R) 0] (.data (.int .i64 (vCI R k))):=by
 have hl:=hR.1;refine zAL vBC hT uIE zsm ?_;refine sts ?_;refine zA4 hT (fun i:Nat=>[(0,.int .i64 k),(4,.int .i64 (((R.take i).filter fun r=>decide (r+1<k)).length:Nat)),(7,vM6 R),(8,.int .i64 R.length),(9,.int .i64 i)]) (fun i=>i<=R.length) (fun i=>R.length - i) 0 zsm ⟨rAI,rAI,rAJ,zAC rfl zsm,rAI,rGU⟩ ?_;intro i hi;have hf:=List.length_filter_le (fun r=>decide (r+1<k)) (R.take i);have hf2:(R.take i).length<=i:=by simp; omega
 by_cases h:i<R.length
 .have hr:=hR.2 _ (zA2 h)
  have et:((R.take (i+1)).filter fun r=>decide (r+1<k))=((R.take i).filter fun r=>decide (r+1<k))++(if R[i]! + 1<k then [R[i]!] else []):=by
   rw[rA2 h,rDV,rAT R i h];simp[List.filter_cons]
  (repeat' (first|refine stp ?_|with_reducible(refine brr ?_ ?_<;>intro h)));all_goals try(conv=>whnf)
  .refine⟨i+1,⟨zom,zom⟩,rAI,zAC rfl ?_,rAJ,rAI,zAC rfl zom,rGU⟩
   rw[et,rAU zom]; simp
  .refine⟨i+1,⟨zom,zom⟩,rAI,zAC rfl ?_,rAJ,rAI,zAC rfl zom,rGU⟩
   rw[et,rAM zom]; simp
  all_goals (exfalso; omega)
 .obtain rfl:i=R.length:=by omega
  rw[rBW]at hf ⊢
  have key:(R.filter fun r=>decide (r+1<k)).length=0\/1<k:=by
   by_cases h0:∃ r∈R,r+1<k
   .obtain⟨r,hr,h3⟩:=h0
    have:=hR.2 r hr;exact rA0 zom
   .left
    rw[rAZ,rC0];intro r hr h3;exact h0 ⟨r,hr,by simpa using h3⟩
  (repeat' (first|refine stp ?_|with_reducible(refine brr ?_ ?_<;>intro h)));all_goals try(conv=>whnf)
  all_goals try (exfalso; omega)
  all_goals exact rGV
theorem zEL{ρ:Nat->Nat}{k:Nat}{t:Tm}{j:Nat}{fn:Go.Fn}{e:PV}{o:Nat}(h:t j=.func fn [] [.cptr e o]):at' ρ k t j (.func fn [] [.cptr e o]):=by unfold at'; rw[h,vL2]; exact⟨rfl,rGU,by rw[vL3],rGU⟩
abbrev uOV(R:List Int):PV:=.func (.func 55) [] [.cptr (vM6 R) 0]
theorem uIG:FO 56 Tryz.f56 [.cell 3 70] 15:=mkO Tryz.func56 Tryz.ntmps56 Tryz.results56
theorem uNX(r:RowL)(R:List Int)(hR:uM4 R)(hr:vL0 r):Fn 56 [vBI r,.cptr (uOV R) 0] (.data (vBI (vBY R r))):=by
 have c1:=uGN r.lo R hR hr.1.1 hr.1.2;have c2:=uGN r.hi R hR hr.2.1 hr.2.2;refine zAL vBC hT uIG zsm ?_;refine sts ?_;refine zAA c1 rfl ?_;refine sts ?_;refine zAA c2 rfl ?_;refine sts ?_;exact rGV
abbrev uGL(R:List Int):PV:=.func (.func 56) [] [.cptr (uOV R) 0]
theorem vO3:FO 57 Tryz.f57 [.tmp 4] 25:=mkO Tryz.func57 Tryz.ntmps57 Tryz.results57
theorem zLC{f:RowL->RowL}{l:List MultL}{i:Nat}(h:i<l.length):(vBL f (l.take i)).map vBB++[vBB ⟨f l[i]!.row,l[i]!.coef⟩]=(vBL f (l.take (i+1))).map vBB:=by
 rw[rA2 h,rAT l i h];unfold vBL;rw[rBE,rBE];rfl
theorem zCQ(l:List MultL):∀ e∈l.map vBB,nr 3 e=true/\e≠.any:=zAQ fun _=>⟨rfl,by simp[vBB]⟩
theorem vZD(l:List MultL)(R:List Int)(hR:uM4 R)(hl:vCX l):Fn 57 [.imm (l.map vBB),uGL R] (.fresh ((vBL (vBY R) l).map vBB) 7 true):=by
 have hln:=hl.1;refine zEJ vBC hT vO3 zsm ?_;refine sts ?_
 refine zCK hT [(.sl 5,7,true)] (fun(i:Nat)=>[(1,uGL R),(5,.own 0 0 i),(8,.imm (l.map vBB)),(9,.int .i64 l.length),(10,.int .i64 i)]) (fun i=>[(0,⟨(vBL (vBY R) (l.take i)).map vBB,7,true⟩)]) [] 1
  (fun i=>i<=l.length) (fun i=>l.length - i) 0 (rA7 _) zdd zsm ⟨rfl,rGU⟩ ?_ ?_
 .exact⟨[_],[],[],[],ttt,⟨zEL rfl,zA3 zdd rfl rfl,zAE rfl rfl,zAC rfl zsm,zAC rfl rfl,rGU⟩,⟨zAF zdd rfl rfl (zCQ _) rfl,rGU⟩,rAA⟩
 intro i hi;have hlen:(vBL (vBY R) (l.take i)).length=i:=by simp[vBL]; omega
 by_cases h0:i<l.length
 .have c1:=uNX l[i]!.row R hR (hl.2 _ (zA2 h0)).1
  refine gob ?_ ?_<;>intro h
  .refine zAA c1 rfl ?_
   refine sts ?_;exact⟨i+1,⟨zom,by show l.length - (i+1)<l.length - i; omega⟩,[_],[],[],[],ttt,⟨zEL rfl,zA3 zdd rfl rfl,zAE rfl rfl,zAC rfl rfl,zAC rfl zom,rGU⟩,⟨zAF zdd rfl (zLC h0) (zCQ _) rfl,rGU⟩,rAA⟩
  all_goals (exfalso; omega)
 .obtain rfl:i=l.length:=by omega
  rw[rBW]
  refine gob ?_ ?_<;>intro h
  all_goals try (exfalso; omega)
  refine zBL rfl rfl (by simp[vBL]) rfl (zD7 (fun x=>zKG x) _)
theorem vWC:FO 54 Tryz.f54 [.tmp 2] 8:=mkO Tryz.func54 Tryz.ntmps54 Tryz.results54
theorem uEQ(xs:List Int)(hl:xs.length<1073741824):Fn 54 [vM6 xs] (.fresh (xs.map (.int .i64)) 1 false):=by
 refine zEJ vBC hT vWC zsm ?_
 (repeat' (first|refine stn ?_|(with_reducible refine brr ?_ ?_<;>intro h)|(with_reducible refine zAT ?_ ?_<;>intro h)|with_reducible refine zBC ?_ ?_)); all_goals try (conv=>whnf)
 .subst h; exact zD6
 all_goals refine zBL rfl rfl ?_ rfl (zD7 (fun x=>rfl) _)
 all_goals simp
theorem vP0{h:Hp}{n r q len sz:Nat}{agg:Bool}{R:List Int}{bs:Nat}{ba:Bool}(hb:h r=some ⟨[.own q 0 len],bs,ba⟩)(hq:h q=some ⟨R.map (.int .i64),sz,agg⟩)(hl:len=R.length):frz h (n+2) (.ptr r 0 0)=some (.cptr (vM6 R) 0,[r,q]):=by
 have h1:frz h (n+1) (.own q 0 len)=some (vM6 R,[q]):=zAI hq rfl hl (fun x=>by cases n<;>rfl);unfold frz;simp only[hb,List.getElem?_cons_zero,h1]
theorem uJ1{h:Hp}{n p r q len sz:Nat}{agg:Bool}{R:List Int}{bs bs':Nat}{ba ba':Bool}(hp:h p=some ⟨[.func (.func 55) [] [.ptr r 0 0]],bs',ba'⟩)(hb:h r=some ⟨[.own q 0 len],bs,ba⟩)(hq:h q=some ⟨R.map (.int .i64),sz,agg⟩)(hl:len=R.length):frz h (n+5) (.func (.func 56) [] [.ptr p 0 0])=some (uGL R,[p,r,q]):=by
 have h1:frz h (n+2) (.ptr r 0 0)=some (.cptr (vM6 R) 0,[r,q]):=vP0 hb hq hl
 have h2:frz h (n+3) (.func (.func 55) [] [.ptr r 0 0])=some (uOV R,[r,q]):=by
  unfold frz;simp only[vB7,h1,rBQ,List.nil_append]
 have h3:frz h (n+4) (.ptr p 0 0)=some (.cptr (uOV R) 0,[p,r,q]):=by
  unfold frz;simp only[hp,List.getElem?_cons_zero,h2]
 unfold frz;simp only[vB7,h3,rBQ,List.nil_append]
abbrev vHC(n:NodeL)(x0 x6 x8:PV):PV:=.agg [x0,.int .i64 n.split.kind,.int .i64 n.split.index,.bool n.split.rat.neg,vBK n.split.rat.num,vBK n.split.rat.den,x6,.bool n.empty,x8]
theorem zB7{ρ:Nat->Nat}{k:Nat}{n:NodeL}{x0 x6 x8 y0 y6 y8:PV}(h0:rn ρ k 2 x0 y0)(h6:rn ρ k 2 x6 y6)(h8:rn ρ k 2 x8 y8):rn ρ k 3 (vHC n x0 x6 x8) (vHC n y0 y6 y8):=by
 unfold vHC;rw[uFQ];exact⟨h0,rfl,rfl,rfl,rfl,rfl,h6,rfl,h8,rGU⟩
theorem zHA{ρ:Nat->Nat}{k r q a c:Nat}(h:r<k)(e:q=ρ r)(e2:c=a):rn ρ k 2 (.own r 0 a) (.own q 0 c):=by subst e e2; rw[zDW]; exact⟨h,rfl⟩
theorem vL1{ρ:Nat->Nat}{k:Nat}:rn ρ k 2 .nilsl .nilsl:=by rw[vOH]
theorem zFF(l:List LemL):∀ e∈l.map vBA,nr 3 e=true/\e≠.any:=zAQ fun _=>⟨rfl,by simp[vBA]⟩
theorem vKI:∀ (l l':List LemL) (O O':List Bool),l.length=O.length->vBS (l++l') (O++O')=vBS l O++vBS l' O'
 | [],l',[],O',_=>by simp[vBS]
 | m::l,l',b::O,O',h=>by
   have:=vKI l l' O O' (by simpa using h);cases b<;>simp[vBS,this]
theorem vSY{l:List LemL}{O:List Bool}{i:Nat}(h:i<l.length)(h2:O.length=l.length):vBS (l.take (i+1)) (O.take (i+1))=vBS (l.take i) (O.take i)++(if O[i]! = true then [l[i]!] else []):=by
 rw[rA2 h,rA2 (l:=O) zom,vKI _ _ _ _ rAE,rAT l i h,rAT O i zom];cases O[i]<;>simp[vBS]
theorem vPY{h:Hp}{n r len sz:Nat}{agg:Bool}{m:LemL}{P:List MultL}(hr:h r=some ⟨P.map vBB,sz,agg⟩)(hl:len=P.length):frz h (n+3) (.agg [.int .i64 m.unit,.bool m.upper,.bool m.value.neg,vBK m.value.num,vBK m.value.den,.own r 0 len])=some (vBA ⟨m.unit,m.upper,m.value,P⟩,[r]) :=
 zBZ (zAD (ks:=[]) rfl (zAD (ks:=[]) rfl (zAD (ks:=[]) rfl (zAD (ks:=[]) rfl (zAD (ks:=[]) rfl (zAD (zAI hr rfl hl (fun x=>zKG x)) rfl))))))
theorem zN0:∀ (l:List LemL) (O:List Bool),(vBS l O).length<=l.length
 | [],O=>by simp[vBS]
 | m::l,[]=>by simp[vBS]
 | m::l,b::O=>by
   have:=zN0 l O;unfold vBS
   split<;>simp<;>omega
theorem zF4(l:List NodeL):∀ e∈l.map vBF,nr 3 e=true/\e≠.any:=zAQ fun x=>by rw[zBR]; exact⟨rfl,zsm⟩
theorem vP7:∀ (ks ks':List NodeL) (b:Int) (R:List Int),vDQ (ks++ks') b R=vDQ ks b R++vDQ ks' b R
 | [],_,_,_=>rfl
 | k::ks,ks',b,R=>by simp only[List.cons_append,vDQ,vP7 ks ks' b R]
theorem vYX{ks:List NodeL}{i:Nat}(h:i<ks.length)(b:Int)(R:List Int):vDQ (ks.take (i+1)) b R=vDQ (ks.take i) b R++[vC3 ks[i]! b R]:=by
 rw[rA2 h,rAT ks i h,vP7];rfl
theorem zKR:∀ (ks:List NodeL) (b:Int) (R:List Int),(vDQ ks b R).length=ks.length
 | [],_,_=>rfl
 | k::ks,b,R=>by simp only[vDQ,List.length_cons,zKR ks b R]
theorem vM2{ks:List NodeL}{i:Nat}(h:i<ks.length)(b:Int)(rest:List (List Bool)):vBT (ks.drop i) b++rest=vC0 ks[i]! b++(vBT (ks.drop (i+1)) b++rest):=by
 rw[rBT h,rAT ks i h,vBT,rBB]
theorem vYK{h:Hp}{m r q p a sz sz2 sz3:Nat}{g1 g2 g3:Bool}{n:NodeL}{L:List LemL}{K:List NodeL}{P:List MultL}(h1:h r=some ⟨L.map vBA,sz,g1⟩)(h2:h q=some ⟨K.map vBF,sz2,g2⟩)(h3:h p=some ⟨P.map vBB,sz3,g3⟩)(ha:a=K.length) :
 frz h (m+4) (vHC n (.own r 0 L.length) (.own q 0 a) (.own p 0 P.length))=some (vA7 (.mk L n.split K n.empty P),[r,q,p]) :=
 zBZ (zAD (zAI h1 rfl rfl (fun x=>zI8 x)) (zAD (ks:=[]) rfl (zAD (ks:=[]) rfl (zAD (ks:=[]) rfl (zAD (ks:=[]) rfl (zAD (ks:=[]) rfl (zAD (zAI h2 rfl ha (fun x=>zG1 x)) (zAD (ks:=[]) rfl (zAD (zAI h3 rfl rfl (fun x=>zKG x)) rfl)))))))))
abbrev vPQ(n:NodeL)(O:List Bool)(R:List Int)(i:Nat):List LemL:=(vBS (n.lemmas.take i) (O.take i)).map (vC1 (vBY R))
abbrev vS2(ls:List (List Bool)):Blk:=⟨[.imm (vDY ls)],1,false⟩
theorem vJ9(n:NodeL)(b:Int):vC0 n b=ownB n.lemmas n.kids n.proof b::vBT n.kids (b+n.lemmas.length):=by cases n; rfl
theorem zG2(n:NodeL)(b:Int)(R:List Int):vC3 n b R=.mk ((vBS n.lemmas (ownB n.lemmas n.kids n.proof b)).map (vC1 (vBY (R++vB4 (ownB n.lemmas n.kids n.proof b) b)))) n.split (vDQ n.kids (b+n.lemmas.length) (R++vB4 (ownB n.lemmas n.kids n.proof b) b)) n.empty (vBL (vBY (R++vB4 (ownB n.lemmas n.kids n.proof b) b)) n.proof):=by cases n; rfl
theorem zJU:∀ (bs:List Bool) (j:Int),(vB4 bs j).length<=bs.length
 | [],_=>by simp[vB4]
 | true::bs,j=>by have:=zJU bs (j+1); simp only[vB4,List.length_cons]; omega
 | false::bs,j=>by have:=zJU bs (j+1); simp only[vB4,List.length_cons]; omega
theorem vG3:∀ (bs cs:List Bool) (j:Int),vB4 (bs++cs) j=vB4 bs j++vB4 cs (j+bs.length)
 | [],cs,j=>by simp[vB4]
 | true::bs,cs,j=>by simp only[List.cons_append,vB4,vG3 bs cs (j+1),List.length_cons]; rw[show j+1+(bs.length:Int)=j+((bs.length+1:Nat):Int) by omega]
 | false::bs,cs,j=>by simp only[List.cons_append,vB4,vG3 bs cs (j+1),List.length_cons]; rw[show j+1+(bs.length:Int)=j+((bs.length+1:Nat):Int) by omega]
theorem vVH{O:List Bool}{i:Nat}(h:i<O.length)(b:Int):vB4 (O.take (i+1)) b=vB4 (O.take i) b++(if O[i]! = true then [] else [b+i]):=by
 rw[rA2 h,vG3,rAT O i h,rB1,rFE (rD9 h)];cases O[i]<;>simp[vB4]
theorem uIF:FO 36 Tryz.f36 [.cell 8 32] 106:=mkO Tryz.func36 Tryz.ntmps36 Tryz.results36
theorem uNW:∀ (sz:Nat) (n:NodeL) (b:Int) (R:List Int) (rest:List (List Bool)),SizeOf.sizeOf n<sz->NodeRg n->0<=b->b+n.wt<=2305843009213693952->uM4 R->R.length+n.wt<=1073741000 ->
 Fn 36 [vA7 n,.int .i64 b,vM6 R,.ptr 0 0 0] (.wrt (vS2 (vC0 n b++rest)) (vA7 (vC3 n b R)) (vS2 rest)):=by
 intro sz
 induction sz with
 | zero=>intro n b R rest h; omega
 | succ sz ih =>
   intro n b R rest hsz hn hb hbw hR hRw;have hwt:=n.wt_eq;have hll:=zM0 n.lemmas;have hln:=hn.ln;have hkn:=hn.kn;have hol:(ownB n.lemmas n.kids n.proof b).length=n.lemmas.length:=zD4 _ _ _;rw[vJ9,zG2];obtain⟨O,hO⟩:∃ O,ownB n.lemmas n.kids n.proof b=O:=⟨_,rfl⟩;rw[hO]at hol ⊢;have hcl:=uEQ R (by have:=hR.1; omega);refine zIK vBC hT uIF zsm ?_;refine sns ?_;refine zCE (l':=vBT n.kids (b+n.lemmas.length)++rest) (by rw[rBR (by rw[Int.toNat_natCast,rAN]; exact rAR _)]; rfl) ?_;refine sns ?_;refine zBB hcl rfl ?_;refine sns ?_
   refine zAN hT (fun i:Nat=>[(1,.int .i64 b),(3,.ptr 0 0 0),(4,.cptr (vA7 n) 0),(6,.ptr 1 0 0),(8,.ptr 2 0 0),(9,uFO O),(32,uFO O),(33,.int .i64 O.length),(34,.int .i64 i)])
    (fun i=>[(0,vS2 (vBT n.kids (b+n.lemmas.length)++rest)),(1,⟨[.own 3 0 (R++vB4 (O.take i) b).length],1,false⟩),(2,⟨[.agg [.nilsl,.int .i64 0,.int .i64 0,.bool false,.nilsl,.nilsl,.nilsl,.bool false,.nilsl]],9,true⟩),(3,⟨(R++vB4 (O.take i) b).map (.int .i64),1,false⟩)]) [] 4
    (fun i=>i<=O.length) (fun i=>O.length - i) 0 zsm zdd zsm ?_ ?_
   .exact⟨[2,3,18],[1],[(4,.cptr (vA7 n) 0)],[],⟨⟨⟨_,rfl⟩,rGU⟩,⟨⟨6,[1],zDE rfl,rfl⟩,rGU⟩,rGU⟩,⟨zAC rfl rfl,apx,zAG rfl,apx,apx,zAE rfl rfl,zAE rfl rfl,zAC rfl zsm,zAC rfl rfl,rGU⟩,
     ⟨bbx,zAH zdd rfl (by rw[zDW]; exact⟨zdd,by simp[vB4]; rfl⟩) rfl rfl,bbx,zAF zdd rfl (by simp[vB4]) (fun e he=>by obtain⟨x,_,rfl⟩:=rA5.1 he; exact⟨rfl,zsm⟩) rfl,rGU⟩,rAA⟩
   intro i hi
   have hrl:(vB4 (O.take i) b).length<=i:=by
    have:=zJU (O.take i) b;have:(O.take i).length<=i:=by simp; omega
    omega
   by_cases hi':i<O.length
   .have ers:=vVH hi' b
    (repeat' (first|refine stp ?_|with_reducible(refine brr ?_ ?_<;>intro h)));all_goals try(conv=>whnf)
    .exact⟨i+1,⟨zom,zom⟩,[1,2,3],[],[],[],ttt,⟨rAI,apx,zAG rfl,apx,apx,rAJ,rAJ,rAI,zAC rfl zom,rGU⟩,
      ⟨bbx,zAH zdd rfl (by rw[ers,rAU rAC,rBQ,zDW]; exact⟨zdd,rfl⟩) rfl rfl,bbx,zAF zdd rfl (by rw[ers,rAU rAC,rBQ]) (fun e he=>by obtain⟨x,_,rfl⟩:=rA5.1 he; exact⟨rfl,zsm⟩) rfl,rGU⟩,rAA⟩
    .exact⟨i+1,⟨zom,zom⟩,[1,2,_],[],[],[],ttt,⟨zAC rfl rfl,(apy rfl),zAG rfl,(apy rfl),(apy rfl),zAE rfl rfl,zAE rfl rfl,zAC rfl rfl,zAC rfl zom,rGU⟩,
      ⟨bbx,zAH zdd rfl (by rw[ers,rAM rAF,zDW]; exact⟨zdd,by simp[rC4]; rfl⟩) rfl rfl,bbx,zAF zdd rfl (by rw[ers,rAM rAF]; simp) (fun e he=>by obtain⟨x,_,rfl⟩:=rA5.1 he; exact⟨rfl,zsm⟩) rfl,rGU⟩,rAA⟩
    all_goals (exfalso; omega)
   .obtain rfl:i=O.length:=by omega
    rw[rBW];obtain⟨R',hR'⟩:∃ R',R++vB4 O b=R':=⟨_,rfl⟩
    have hR2:uM4 R':=by
     have h1:=zJU O b;rw[<- hR'];refine⟨by have:=hR.1; simp only[rAV]; omega,fun r hr=>?_⟩;rcases rAX.1 hr with hr | hr
     .exact hR.2 r hr
     .have h2:=zP7 (zFU O b) r hr
      have h3:=zI4 O b r hr;exact⟨zom,zom⟩
    have hRl:R'.length+(n.wt - n.lemmas.length)<=1073741000:=by
     have h1:=zJU O b;rw[<- hR',rAV]; omega
    rw[hR'];refine sus ?_;refine zA0 ?_; (repeat' (first|refine stu ?_|with_reducible(refine brr ?_ ?_<;>intro h)));all_goals try(conv=>whnf)
    .exfalso; omega
    (refine zA0 ?_; refine sus ?_)
    (refine zA0 ?_; refine sus ?_)
    refine vBV [] [(1,.int .i64 b),(3,.ptr 0 0 0),(4,.cptr (vA7 n) 0),(6,.cptr (vM6 R') 0),(8,.ptr 1 0 0),(9,uFO O),(13,uGL R')]
     [(0,vS2 (vBT n.kids (b+n.lemmas.length)++rest)),(1,⟨[.agg [.nilsl,.int .i64 0,.int .i64 0,.bool false,.nilsl,.nilsl,.nilsl,.bool false,.nilsl]],9,true⟩)] [] 2 zdd zsm trivial ?_ ?_
    .exact⟨[2],[1,3,6],[(6,.cptr (vM6 R') 0),(13,uGL R')],[],⟨⟨⟨_,rfl⟩,⟨_,rfl⟩,⟨_,rfl⟩,rGU⟩,⟨⟨6,[1,3],vP0 rfl rfl rfl,rfl⟩,⟨6,[6,1,3],uJ1 rfl rfl rfl rfl,rfl⟩,rGU⟩,rGU⟩,⟨zAC rfl rfl,apx,zAG rfl,zAG rfl,apx,zAE rfl rfl,zEL rfl,rGU⟩,
      ⟨bbx,bbx,rGU⟩,rAA⟩
    refine sus ?_;refine zBB (vZD n.proof R' hR2 hn.prf) rfl ?_;refine sus ?_
    (refine zA0 ?_; refine sus ?_)
    have hpl:(vBL (vBY R') n.proof).length=n.proof.length:=by simp[vBL]
    obtain⟨PF,hPF⟩:∃ PF,vBL (vBY R') n.proof=PF:=⟨_,rfl⟩;rw[hPF]at hpl ⊢
    refine vBV [] [(1,.int .i64 b),(3,.ptr 0 0 0),(4,.cptr (vA7 n) 0),(6,.cptr (vM6 R') 0),(8,.ptr 1 0 0),(9,uFO O),(13,uGL R'),(14,.ptr 2 0 0),(60,.imm (n.lemmas.map vBA)),(61,.int .i64 n.lemmas.length),(62,.int .i64 0)]
     [(0,vS2 (vBT n.kids (b+n.lemmas.length)++rest)),(1,⟨[.agg [.nilsl,.int .i64 0,.int .i64 0,.bool false,.nilsl,.nilsl,.nilsl,.bool false,.nilsl]],9,true⟩),(2,⟨[.agg [.nilsl,.int .i64 n.split.kind,.int .i64 n.split.index,.bool n.split.rat.neg,vBK n.split.rat.num,vBK n.split.rat.den,.nilsl,.bool n.empty,.own 3 0 PF.length]],9,true⟩),(3,⟨PF.map vBB,7,true⟩)] [] 4 zdd zsm trivial ?_ ?_
    .exact⟨[1,11,9],[],[],[],ttt,⟨rAI,apx,zAG rfl,zAG rfl,apx,rAJ,zEL rfl,apx,rAJ,zAC rfl zsm,rAI,rGU⟩,
      ⟨bbx,bbx,zAH zdd rfl (zB7 vL1 vL1 (zHA zdd rfl zsm)) rfl rfl,zAF zdd rfl rfl (zCQ _) rfl,rGU⟩,rAA⟩
    refine sts ?_
    refine zCK hT [(.cl 2 0 0,6,true)] (fun(i:Nat)=>[(1,.int .i64 b),(3,.ptr 0 0 0),(4,.cptr (vA7 n) 0),(6,.cptr (vM6 R') 0),(8,.ptr 1 0 0),(9,uFO O),(13,uGL R'),(14,.ptr 2 0 0),(60,.imm (n.lemmas.map vBA)),(61,.int .i64 n.lemmas.length),(62,.int .i64 i)])
     (fun i=>[(0,vS2 (vBT n.kids (b+n.lemmas.length)++rest)),(1,⟨[.agg [.nilsl,.int .i64 0,.int .i64 0,.bool false,.nilsl,.nilsl,.nilsl,.bool false,.nilsl]],9,true⟩),(2,⟨[vHC n (.own 4 0 (vPQ n O R' i).length) .nilsl (.own 3 0 PF.length)],9,true⟩),(3,⟨PF.map vBB,7,true⟩),(4,⟨(vPQ n O R' i).map vBA,6,true⟩)]) [] 5
     (fun i=>i<=n.lemmas.length) (fun i=>n.lemmas.length - i) 0 (rA7 _) zdd zsm ⟨_,_,rfl,rfl,rfl,rGU⟩ ?_ ?_
    .exact⟨[1,2,3,4],[],[],[],ttt,⟨rAI,apx,zAG rfl,zAG rfl,apx,rAJ,zEL rfl,apx,rAJ,rAI,rAI,rGU⟩,
      ⟨bbx,bbx,zAH zdd rfl (zB7 (zHA zdd rfl (by simp[vBS])) vL1 (zHA zdd rfl rfl)) rfl rfl,zAF zdd rfl rfl (zCQ _) rfl,zAF zdd rfl rfl (zFF _) rfl,rGU⟩,rAA⟩
    intro i hi;by_cases hi':i<n.lemmas.length
    .have hks:=vSY hi' hol
     have hlm:n.lemmas[i]! ∈ n.lemmas:=zA2 hi'
     have hlI:(vPQ n O R' i).length<=i:=by
      have:=zN0 (n.lemmas.take i) (O.take i);simp only[rAN,rB1]at this ⊢;omega
     refine sus ?_;refine zA0 ?_; (repeat' (first|refine stu ?_|with_reducible(refine brr ?_ ?_<;>intro h)));all_goals try(conv=>whnf)
     ·(refine zA0 ?_; refine sus ?_)
      (refine zA0 ?_; refine sus ?_)
      refine zA0 ?_; (repeat' (first|refine stu ?_|with_reducible(refine brr ?_ ?_<;>intro h)));all_goals try(conv=>whnf)
      .refine zBB (vZD n.lemmas[i]!.proof R' hR2 (hn.lem _ hlm)) rfl ?_
       refine sus ?_
       refine vBV [] [(1,.int .i64 b),(3,.ptr 0 0 0),(4,.cptr (vA7 n) 0),(6,.cptr (vM6 R') 0),(8,.ptr 1 0 0),(9,uFO O),(13,uGL R'),(14,.ptr 2 0 0),(60,.imm (n.lemmas.map vBA)),(61,.int .i64 n.lemmas.length),(62,.int .i64 i),(16,.ptr 5 0 0)]
        [(0,vS2 (vBT n.kids (b+n.lemmas.length)++rest)),(1,⟨[.agg [.nilsl,.int .i64 0,.int .i64 0,.bool false,.nilsl,.nilsl,.nilsl,.bool false,.nilsl]],9,true⟩),(2,⟨[vHC n (.own 4 0 (vPQ n O R' i).length) .nilsl (.own 3 0 PF.length)],9,true⟩),(3,⟨PF.map vBB,7,true⟩),(4,⟨(vPQ n O R' i).map vBA,6,true⟩),(5,⟨[vBA (vC1 (vBY R') n.lemmas[i]!)],6,true⟩)] [] 6 zdd zsm trivial ?_ ?_
       .exact⟨[1,2,3,4,9],[19],[],[(9,[vBA (vC1 (vBY R') n.lemmas[i]!)])],⟨⟨⟨_,rfl⟩,rGU⟩,rGU,⟨⟨_,6,[19],rfl,zAD (ks:=[19]) (ls:=[]) (vPY rfl (rAN _)) rfl,rfl⟩,rGU⟩⟩,⟨zAC rfl rfl,apx,zAG rfl,zAG rfl,apx,zAE rfl rfl,zEL rfl,apx,zAE rfl rfl,zAC rfl rfl,zAC rfl rfl,apx,rGU⟩,
         ⟨bbx,bbx,zAH zdd rfl (zB7 (zHA zdd rfl rfl) vL1 (zHA zdd rfl rfl)) rfl rfl,zAF zdd rfl rfl (zCQ _) rfl,zAF zdd rfl rfl (zFF _) rfl,bbx,rGU⟩,rAA⟩
       refine sts ?_;refine zBN ⟨rfl,(rAN _).symm,?_⟩ ?_
       .show(vPQ n O R' i).length+1<=4294967296
        omega
       refine sts ?_
       have el:vPQ n O R' (i+1)=vPQ n O R' i++[vC1 (vBY R') n.lemmas[i]!]:=by
        unfold vPQ;rw[hks,rAU rAC,rBE];rfl
       refine⟨i+1,⟨zom,zom⟩,[1,2,3,_],[],[],[],ttt,⟨zAC rfl rfl,(apy rfl),zAG rfl,zAG rfl,(apy rfl),zAE rfl rfl,zEL rfl,(apy rfl),zAE rfl rfl,zAC rfl rfl,zAC rfl zom,rGU⟩,
        ⟨bbx,bbx,zAH zdd rfl (zB7 (zHA zdd rfl ?_) vL1 (zHA zdd rfl rfl)) rfl rfl,zAF zdd rfl rfl (zCQ _) rfl,zAF zdd rfl ?_ (zFF _) rfl,rGU⟩,rAA⟩
       .rw[el,rAV]; rfl
       .rw[el,rBE]; rfl
      .have el:vPQ n O R' (i+1)=vPQ n O R' i:=by
        unfold vPQ;rw[hks,rAM rAF,rBQ]
       refine sts ?_
       exact⟨i+1,⟨zom,zom⟩,[1,2,3,4],[],[],[],ttt,⟨rAI,apx,zAG rfl,zAG rfl,apx,rAJ,zEL rfl,apx,rAJ,rAI,zAC rfl zom,rGU⟩,
        ⟨bbx,bbx,zAH zdd rfl (zB7 (zHA zdd rfl (by rw[el])) vL1 (zHA zdd rfl rfl)) rfl rfl,zAF zdd rfl rfl (zCQ _) rfl,zAF zdd rfl (by rw[el]) (zFF _) rfl,rGU⟩,rAA⟩
     .exfalso; omega
    .obtain rfl:i=n.lemmas.length:=by omega
     obtain⟨LM,hLM⟩:∃ LM,vPQ n O R' n.lemmas.length=LM:=⟨_,rfl⟩;rw[hLM]
     (repeat' (first|refine stp ?_|with_reducible(refine brr ?_ ?_<;>intro h)));all_goals try(conv=>whnf)
     all_goals try (exfalso; omega)
     refine zCK hT [(.cl 2 0 6,9,true)] (fun(i:Nat)=>[(1,.int .i64 b),(3,.ptr 0 0 0),(4,.cptr (vA7 n) 0),(6,.cptr (vM6 R') 0),(8,.ptr 1 0 0),(14,.ptr 2 0 0),(84,.imm (n.kids.map vBF)),(85,.int .i64 n.kids.length),(86,.int .i64 i)])
      (fun i=>[(0,vS2 (vBT (n.kids.drop i) (b+n.lemmas.length)++rest)),(1,⟨[.agg [.nilsl,.int .i64 0,.int .i64 0,.bool false,.nilsl,.nilsl,.nilsl,.bool false,.nilsl]],9,true⟩),(2,⟨[vHC n (.own 4 0 LM.length) (.own 5 0 i) (.own 3 0 PF.length)],9,true⟩),(3,⟨PF.map vBB,7,true⟩),(4,⟨LM.map vBA,6,true⟩),(5,⟨(vDQ (n.kids.take i) (b+n.lemmas.length) R').map vBF,9,true⟩)]) [] 6
      (fun i=>i<=n.kids.length) (fun i=>n.kids.length - i) 0 (rA7 _) zdd zsm ⟨_,_,rfl,rfl,rfl,rGU⟩ ?_ ?_
     .exact⟨[1,2,3,4,_],[],[],[],ttt,⟨zAC rfl rfl,(apy rfl),zAG rfl,zAG rfl,(apy rfl),(apy rfl),zAE rfl rfl,zAC rfl zsm,zAC rfl rfl,rGU⟩,
       ⟨bbx,bbx,zAH zdd rfl (zB7 (zHA zdd rfl rfl) (zHA zdd rfl rfl) (zHA zdd rfl rfl)) rfl rfl,zAF zdd rfl rfl (zCQ _) rfl,zAF zdd rfl rfl (zFF _) rfl,zAF zdd rfl rfl (zF4 _) rfl,rGU⟩,rAA⟩
     intro i hi;by_cases hi':i<n.kids.length
     .have hkm:n.kids[i]! ∈ n.kids:=zA2 hi'
      have hks1:=vHV hi';have hcl1:=zKR (n.kids.take i) (b+n.lemmas.length) R'
      have ck:Fn 36 [vA7 n.kids[i]!,.int .i64 (b+((n.lemmas.map vBA).length:Nat)),vM6 R',.ptr 0 0 0] (.wrt (vS2 (vC0 n.kids[i]! (b+n.lemmas.length)++(vBT (n.kids.drop (i+1)) (b+n.lemmas.length)++rest))) (vA7 (vC3 n.kids[i]! (b+n.lemmas.length) R')) (vS2 (vBT (n.kids.drop (i+1)) (b+n.lemmas.length)++rest))):=by
       rw[rAN];exact ih n.kids[i]! (b+n.lemmas.length) R' _ (by have:=NodeL.sizeOf_kid hkm; omega) (hn.kid _ hkm) zom zom hR2 zom
      refine gon ?_ ?_<;>intro h
      .refine zLW (r:=0) (ks:=[]) ck rfl (rA3 (fun x=>some (vS2 x)) (vM2 hi' _ rest)) rfl rfl (fun e he=>by simp at he; subst he; rfl) (fun i=>by simp[vC7]) ?_
       refine sns ?_;refine zBN ⟨rfl,by show i=(List.map vBF _).length; rw[rAN,hcl1,rB1]; omega,?_⟩ ?_
       .show i+1<=4294967296
        omega
       refine sns ?_
       refine⟨i+1,⟨zom,zom⟩,[1,2,3,4,_],[],[],[],ttt,⟨zAC rfl rfl,(apy rfl),zAG rfl,zAG rfl,(apy rfl),(apy rfl),zAE rfl rfl,zAC rfl rfl,zAC rfl zom,rGU⟩,
        ⟨bbx,bbx,zAH zdd rfl (zB7 (zHA zdd rfl rfl) (zHA zdd rfl rfl) (zHA zdd rfl rfl)) rfl rfl,zAF zdd rfl rfl (zCQ _) rfl,zAF zdd rfl rfl (zFF _) rfl,zAF zdd rfl ?_ (zF4 _) rfl,rGU⟩,rAA⟩
       rw[vYX hi',rBE];show _++[vA7 _]=_++[vBF _]
       rw[zBR]
      all_goals (exfalso; omega)
     .obtain rfl:i=n.kids.length:=by omega
      obtain⟨KD,hKD⟩:∃ KD,vDQ n.kids (b+n.lemmas.length) R'=KD:=⟨_,rfl⟩;have hkl:KD.length=n.kids.length:=by rw[<- hKD]; exact zKR _ _ _
      rw[rBW,rFC,hKD];refine sus ?_;refine zA0 ?_; (repeat' (first|refine stu ?_|with_reducible(refine brr ?_ ?_<;>intro h)));all_goals try(conv=>whnf)
      .exfalso; omega
      have elm:(vBS n.lemmas O).map (vC1 (vBY R'))=LM:=by
       rw[<- hLM];unfold vPQ;rw[rBW,<- hol,rBW]
      rw[elm];refine vBV [] [(8,.ptr 1 0 0),(14,.ptr 2 0 0)] [(0,vS2 rest),(1,⟨[.agg [.nilsl,.int .i64 0,.int .i64 0,.bool false,.nilsl,.nilsl,.nilsl,.bool false,.nilsl]],9,true⟩),(2,⟨[vA7 (.mk LM n.split KD n.empty PF)],9,true⟩)] [] 3 zdd zsm trivial ?_ ?_
      .exact⟨[1,2],[3,4,5],[],[(2,[vA7 (.mk LM n.split KD n.empty PF)])],⟨⟨⟨_,rfl⟩,⟨_,rfl⟩,⟨_,rfl⟩,rGU⟩,rGU,⟨⟨_,6,[4,5,3],rfl,zAD (ks:=[4,5,3]) (ls:=[]) (vYK rfl rfl rfl hkl.symm) rfl,rfl⟩,rGU⟩⟩,⟨apx,apx,rGU⟩,
        ⟨bbx,bbx,bbx,rGU⟩,rAA⟩
      refine sns ?_
      .exact zLN rfl rfl rfl rfl rfl (fun e he=>by simp at he; subst he; rfl)
def vBO(n:NodeL):NodeL:=if n.valid=true then vC3 n 0 [] else vDW
theorem vR1:FO 13 Tryz.f13 [.cell 2 32] 12:=mkO Tryz.func13 Tryz.ntmps13 Tryz.results13
theorem vYH(n:NodeL)(hs:n.Sm)(hn:NodeRg n)(hw:n.wt<=536870912):FnM Tryz.prog G0 13 [vA7 n] (fun v s' _=>vFV s'.h v (vA7 (vBO n))) (start [vA7 n]) []:=by
 have cv:=zLX n hs;have hne:vDY (vC0 n 0)≠[]:=by rw[vJ9]; simp
 unfold start;refine uLH vBC vR1 zsm ?_;refine zAW (zBV vBC hT rAB ?_);refine sns ?_;refine vDC (uAX vBC hT rAB ?_);refine sns ?_;refine zAA cv rfl ?_
 refine gon ?_ ?_<;>intro h
 .refine vDC (zAW (zBV vBC hT rAB ?_))
  refine sns ?_;refine vFD [] [(1,.cptr (vA7 n) 0),(2,.ptr 1 0 0),(3,.ptr 0 0 0)] [(0,⟨[.nilsl],1,false⟩),(1,⟨[.agg [.nilsl,.int .i64 0,.int .i64 0,.bool false,.nilsl,.nilsl,.nilsl,.bool false,.nilsl]],9,true⟩)] [] 2 zdd zsm trivial ?_ ?_
  .exact⟨[5,1],[0],[(1,.cptr (vA7 n) 0)],[],⟨⟨⟨_,rfl⟩,rGU⟩,⟨⟨6,[0],zDE rfl,rfl⟩,rGU⟩,rGU⟩,⟨zAG rfl,apx,apx,rGU⟩,⟨bbx,bbx,rGU⟩,rAA⟩
  refine zAW (zCG (zHB hT 1 rfl ?_));refine sns ?_;refine zJZ rfl rfl rfl rfl ?_;refine FnM.args (uOL (a:=vA7 n) (b:=.int .i64 0) (b':=.int .i64 0) (c:=.ptr 0 0 0) rfl) ?_;have hI:=uNL _ n 0 [] (fun _=>.any) (rAL _) hn zom zom rAE (fun e he=>by cases he);rw[zHE,zHD]at hI;have hN:=hI.mono (K':=fun pv s' μ'=>True/\nr 3 pv=true/\∃ k',k'≠0/\k'<s'.nx/\s'.h 0=some ⟨[.own k' 0 (vDY (vC0 n 0)).length],1,false⟩/\s'.h k'=some ⟨vDY (vC0 n 0),1,false⟩/\s'.z 0=false/\s'.z k'=false) (fun pv s' μ' ⟨k1,k2,k',k3,k4,k5,k6,k7,k8⟩=>⟨rGU,k2,k',k3,k4,by rw[k5]; simp,by rw[k6]; simp,k7,k8⟩)
  have hA:∀ a∈[vA7 n,.int .i64 0,.ptr 0 0 0],a=.ptr 0 0 0\/nr 3 a=true:=fun a ha=>by
   simp only[rBA,rCX,rE0]at ha;rcases ha with rfl | rfl | rfl
   .exact rA0 rfl
   .exact rA0 rfl
   .exact rAW rfl
  refine(uLJ (K0:=fun _ _=>True) (new:=vDY (vC0 n 0)) (t0:=fun _=>.any) hN hA zsm (fun e he=>(zCR e he).nr.1) hne rfl rfl).mono fun pv s' μ' hK=>?_
  obtain⟨-,rfl⟩:=hK;refine zDO (vFD [] [(1,.cptr (vA7 n) 0),(2,.ptr 1 0 0),(3,.ptr 0 0 0)] [(0,vS2 (vC0 n 0)),(1,⟨[.agg [.nilsl,.int .i64 0,.int .i64 0,.bool false,.nilsl,.nilsl,.nilsl,.bool false,.nilsl]],9,true⟩)] [] 2 zdd zsm trivial ?_ ?_)
  .exact⟨[0,1],[3],[],[(0,[.imm (vDY (vC0 n 0))])],⟨⟨⟨_,rfl⟩,rGU⟩,rGU,⟨⟨_,6,[3],rfl,zAD (ks:=[3]) (ls:=[]) (zAI (f:=uFO) rfl rfl zsm (fun x=>rfl)) rfl,rfl⟩,rGU⟩⟩,⟨zAG rfl,apx,apx,rGU⟩,⟨bbx,bbx,rGU⟩,rAA⟩
  refine vTS (μ2:=[]) zsm (vTV vBC hT rAB ?_);have cc:=uLK (uNW _ n 0 [] [] (rAL _) hn zom zom ⟨zsm,fun r hr=>by cases hr⟩ rAE);rw[rBQ]at cc;refine sns ?_;refine zLW (r:=0) (ks:=[]) cc rfl rfl rfl rfl (fun e he=>by simp at he; subst he; rfl) (fun i=>by simp[vC7]) ?_;refine sns ?_;refine zAB rfl ?_;rw[show vBO n=vC3 n 0 [] from rAU rAC]
 .refine zAB rfl ?_
  rw[show vBO n=vDW from rAM rAF];rfl
theorem vK1(n:NodeL)(hs:n.Sm)(hn:NodeRg n)(hw:n.wt<=536870912):Fn 13 [vA7 n] (.data (vA7 (vBO n))) :=
 zQA (zP9 (K:=fun v s=>gives s.h v (vA7 (vBO n))) ((vYH n hs hn hw).mono fun _ _ _ h=>by unfold vFV at h; exact h))
end Go.PI.Tryz
