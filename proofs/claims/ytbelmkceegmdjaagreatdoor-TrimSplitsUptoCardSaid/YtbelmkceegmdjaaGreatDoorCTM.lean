/-
  The program's Lemmas.
-/
import Derived.Test.YtbelmkceegmdjaaGreatDoorCPD
import Derived.Test.YtbelmkceegmdjaaGreatDoorCNA
import Derived.Test.YtbelmkceegmdjaaGreatDoorCPE
import Derived.Test.YtbelmkceegmdjaaGreatDoorCTR
set_option linter.unusedVariables false
set_option linter.unusedSimpArgs false
set_option linter.unnecessarySimpa false
set_option maxHeartbeats 0
namespace Go.PI.Tryz
open Go.Proofs Go.PI
def vK0(r:RowL):Prop:=(-9223372036854775808≤r.lo∧r.lo<9223372036854775808)∧(-9223372036854775808≤r.hi∧r.hi<9223372036854775808)
def vQ5(r:RowL):Prop:=-9223372036854775808≤r.index∧r.index<9223372036854775808
def vC4(l:List MultL):Prop:=l.length<2097152∧∀ m∈l,vK0 m.row∧vQ5 m.row
abbrev vTM(m:Nat):PV:=.raw (.map (some m))
theorem uJ6:Tryz.prog.underlying 78=some (.map 3 4):=by kernel_rfl
theorem uLM:Tryz.prog.underlying 3=some (.int .i64):=by kernel_rfl
def uL0(ks:List Int)(m:Nat)(l:List MultL)(μ:Mp):Prop:=∃ es clock ks',μ=[(m,.map es clock)]∧IsSet ks' es clock∧∀ k,k∈ks'↔k∈ks∨k∈vDD l
theorem vPM{l:List MultL}{i:Nat}(h:i<l.length):vDD (l.take (i+1))=vDD (l.take i)++vDD [l[i]!]:=by
 rw[List.take_succ_eq_append_getElem h,getElem!_pos l i h];unfold vDD;rw[List.flatMap_append]
def vIT(vs:List Int):List Int:=vs.flatMap fun v=>if 0<v then [v - 1] else []
theorem vP5(m:MultL):vDD [m]=vIT [m.row.lo,m.row.hi]:=by simp[vDD,vIT]
theorem uFB:FO 53 Tryz.f53 [] 31:=mkO Tryz.func53 Tryz.ntmps53 Tryz.results53
theorem uKC(m:Nat)(es:Array MapEntry)(clock:Nat)(ks:List Int)(l:List MultL)(hs:IsSet ks es clock)(hl:vC4 l)(t:Tm) :
 FnM Tryz.prog G0 53 [vTM m,.imm (l.map vBC)] (fun pv s' μ'=>pv=.tup []∧uL0 ks m l μ') ⟨t,fun _=>none,fun _=>false,0⟩ [(m,.map es clock)]:=by
 refine uIA vBD uFB zsm ?_;refine zAV (zBR vBD hT (by kernel_rfl) ?_);refine sts ?_;refine vCY (zCC ?_)
 refine zF0 (fun((i,_):Nat×Array MapEntry×Nat×List Int)=>[(0,vTM m),(8,.imm (l.map vBC)),(9,.int .i64 l.length),(10,.int .i64 i)]) (fun _=>[]) [] 0 (fun((_,es,clock,_):Nat×Array MapEntry×Nat×List Int)=>[(m,.map es clock)])
  (fun((i,es,clock,ks'):Nat×Array MapEntry×Nat×List Int)=>i≤l.length∧IsSet ks' es clock∧∀ k,k∈ks'↔k∈ks∨k∈vDD (l.take i)) (fun((i,_):Nat×Array MapEntry×Nat×List Int)=>l.length - i) (0,es,clock,ks) ⟨zsm,hs,by simp[vDD]⟩ zdd zsm ?_ rfl ?_
 ·exact⟨[],[],[],[],ttt,⟨zDU rfl,zAE rfl rfl,zAC rfl zsm,zAC rfl rfl,trivial⟩,trivial,by simp[ren]⟩
 rintro⟨i,es,clock,ks'⟩ ⟨hi,hs,hk⟩
 dsimp only at hi hs hk ⊢;refine zAV (zBR vBD hT (by kernel_rfl) ?_);refine sts ?_;refine vCY (zAV (zBR vBD hT (by kernel_rfl) ?_))
 (refine gob ?_ ?_<;>intro h)
 ·have hi':i<l.length:=by omega
  have hr:=(hl.2 _ (zA7 hi')).1;have hln:l.length<2097152:=hl.1;unfold vK0 at hr;refine vCY (zAV (zCC ?_));refine zAV (zBR vBD hT (by kernel_rfl) ?_);refine sts ?_;refine vCY (zAV (zBR vBD hT (by kernel_rfl) ?_));refine sts ?_;refine vCY (zCC ?_)
  refine zF0 (fun((j,_):Nat×Array MapEntry×Nat×List Int)=>[(0,vTM m),(8,.imm (l.map vBC)),(9,.int .i64 l.length),(10,.int .i64 i),(20,.agg [.int .i64 l[i]!.row.lo,.int .i64 l[i]!.row.hi]),(21,.int .i64 j)]) (fun _=>[]) [] 0 (fun((_,es,clock,_):Nat×Array MapEntry×Nat×List Int)=>[(m,.map es clock)])
   (fun((j,es,clock,ks2):Nat×Array MapEntry×Nat×List Int)=>j≤2∧IsSet ks2 es clock∧∀ k,k∈ks2↔k∈ks'∨k∈vIT ([l[i]!.row.lo,l[i]!.row.hi].take j)) (fun((j,_):Nat×Array MapEntry×Nat×List Int)=>2 - j) (0,es,clock,ks') ⟨zsm,hs,by simp[vIT]⟩ zdd zsm ?_ rfl ?_
  ·exact⟨[],[],[],[],ttt,⟨zDU rfl,zAE rfl rfl,zAC rfl rfl,zAC rfl rfl,vKC rfl ⟨rfl,rfl,trivial⟩,zAC rfl rfl,trivial⟩,trivial,by simp[ren]⟩
  rintro⟨j,es2,clock2,ks2⟩ ⟨hj,hs2,hk2⟩
  dsimp only at hj hs2 hk2 ⊢;refine zAV (zBR vBD hT (by kernel_rfl) ?_);refine sts ?_;refine vCY (zAV (zBR vBD hT (by kernel_rfl) ?_));obtain rfl | rfl | rfl:j=0∨j=1∨j=2:=by omega
  all_goals ((refine sts ?_))
  all_goals try (exfalso; omega)
  ·refine vCY (zAV (zCC ?_))
   refine zAV (zBR vBD hT (by kernel_rfl) ?_);refine sts ?_;refine vCY (zAV (zBR vBD hT (by kernel_rfl) ?_));refine sts ?_;refine vCY (zI1 (t:=decide (0<l[i]!.row.lo)) rfl rfl (fun hp=>?_) (fun hp=>?_))
   ·rw[decide_eq_true_eq]at hp
    refine zCB (zGX hT 3 rfl ?_);refine sts ?_;refine zIS (k:=l[i]!.row.lo - 1) (μ1:=[]) (μ2:=[]) rfl rfl rfl rfl rfl rfl uJ6 uLM hs2 fun es3 clock3 hs3=>zDI ?_
    refine vCY (zBR vBD hT (by kernel_rfl) ?_);refine sts ?_;refine⟨(1,es3,clock3,uA9 ks2 (l[i]!.row.lo - 1)),⟨⟨zom,hs3,fun k=>?_⟩,zom⟩,⟨[],[],[],[],ttt,⟨zDU rfl,zAE rfl rfl,zAC rfl rfl,zAC rfl rfl,vKC rfl ⟨rfl,rfl,trivial⟩,zAC rfl rfl,trivial⟩,trivial,by simp[ren]⟩,rfl⟩;rw[vG3,hk2]
    revert hp
    generalize l[i]!.row.lo=v;generalize l[i]!.row.hi=u;intro hp;simp[vIT,hp,or_assoc]
   ·rw[decide_eq_false_iff_not]at hp
    refine zI0 (vCY (zBR vBD hT (by kernel_rfl) ?_));refine sts ?_;refine⟨(1,es2,clock2,ks2),⟨⟨zom,hs2,fun k=>?_⟩,zom⟩,⟨[],[],[],[],ttt,⟨zDU rfl,zAE rfl rfl,zAC rfl rfl,zAC rfl rfl,vKC rfl ⟨rfl,rfl,trivial⟩,zAC rfl rfl,trivial⟩,trivial,by simp[ren]⟩,rfl⟩;rw[hk2]
    revert hp
    generalize l[i]!.row.lo=v;generalize l[i]!.row.hi=u;intro hp;simp[vIT,hp]
  ·refine vCY (zAV (zCC ?_))
   refine zAV (zBR vBD hT (by kernel_rfl) ?_);refine sts ?_;refine vCY (zAV (zBR vBD hT (by kernel_rfl) ?_));refine sts ?_;refine vCY (zI1 (t:=decide (0<l[i]!.row.hi)) rfl rfl (fun hp=>?_) (fun hp=>?_))
   ·rw[decide_eq_true_eq]at hp
    refine zCB (zGX hT 3 rfl ?_);refine sts ?_;refine zIS (k:=l[i]!.row.hi - 1) (μ1:=[]) (μ2:=[]) rfl rfl rfl rfl rfl rfl uJ6 uLM hs2 fun es3 clock3 hs3=>zDI ?_
    refine vCY (zBR vBD hT (by kernel_rfl) ?_);refine sts ?_;refine⟨(2,es3,clock3,uA9 ks2 (l[i]!.row.hi - 1)),⟨⟨zom,hs3,fun k=>?_⟩,zom⟩,⟨[],[],[],[],ttt,⟨zDU rfl,zAE rfl rfl,zAC rfl rfl,zAC rfl rfl,vKC rfl ⟨rfl,rfl,trivial⟩,zAC rfl rfl,trivial⟩,trivial,by simp[ren]⟩,rfl⟩;rw[vG3,hk2]
    revert hp
    generalize l[i]!.row.lo=v;generalize l[i]!.row.hi=u;intro hp;simp[vIT,hp,or_assoc]
   ·rw[decide_eq_false_iff_not]at hp
    refine zI0 (vCY (zBR vBD hT (by kernel_rfl) ?_));refine sts ?_;refine⟨(2,es2,clock2,ks2),⟨⟨zom,hs2,fun k=>?_⟩,zom⟩,⟨[],[],[],[],ttt,⟨zDU rfl,zAE rfl rfl,zAC rfl rfl,zAC rfl rfl,vKC rfl ⟨rfl,rfl,trivial⟩,zAC rfl rfl,trivial⟩,trivial,by simp[ren]⟩,rfl⟩;rw[hk2]
    revert hp
    generalize l[i]!.row.lo=v;generalize l[i]!.row.hi=u;intro hp;simp[vIT,hp]
  ·refine vCY (zBR vBD hT (by kernel_rfl) ?_)
   refine sts ?_;refine⟨(i+1,es2,clock2,ks2),⟨⟨zom,hs2,fun k=>?_⟩,zom⟩,⟨[],[],[],[],ttt,⟨zDU rfl,zAE rfl rfl,zAC rfl rfl,zAC rfl zom,trivial⟩,trivial,by simp[ren]⟩,rfl⟩;rw[hk2,hk,vPM hi',vP5,List.mem_append,or_assoc];rfl
 ·exact⟨_,rfl,rfl,_,_,_,rfl,hs,by
   rw[show i=l.length by omega,List.take_length]at hk
   exact hk⟩
mutual
def vCJ:NodeL→Int→List (List Bool)
 | .mk l s ks e p,b=>ownB l ks p b::vBQ ks (b+l.length)
def vBQ:List NodeL→Int→List (List Bool)
 | [],_=>[]
 | k::ks,b=>vCJ k b++vBQ ks b
end
abbrev uCQ(bs:List Bool):PV:=.imm (bs.map .bool)
abbrev vDL(ls:List (List Bool)):List PV:=ls.map uCQ
inductive NodeRg:NodeL→Prop
 | mk (n:NodeL) (h1:n.lemmas.length<2097152) (h2:∀ m∈n.lemmas,vC4 m.proof) (h3:vC4 n.proof) (h4:n.kids.length<2097152) (h5:∀ k∈n.kids,NodeRg k):NodeRg n
theorem NodeRg.ln{n:NodeL}(h:NodeRg n):n.lemmas.length<2097152:=by cases h; assumption
theorem NodeRg.lem{n:NodeL}(h:NodeRg n):∀ m∈n.lemmas,vC4 m.proof:=by cases h; assumption
theorem NodeRg.prf{n:NodeL}(h:NodeRg n):vC4 n.proof:=by cases h; assumption
theorem NodeRg.kn{n:NodeL}(h:NodeRg n):n.kids.length<2097152:=by cases h; assumption
theorem NodeRg.kid{n:NodeL}(h:NodeRg n):∀ k∈n.kids,NodeRg k:=by cases h; assumption
def frK(e:PV):Prop:=(∃ u,e=.raw u)∨∃ es,e=.imm es
theorem frK.nr{e:PV}(h:frK e):nr 3 e=true∧e≠.any:=by rcases h with⟨u,rfl⟩ | ⟨u,rfl⟩<;>exact⟨rfl,zsm⟩
theorem frK.frz{e:PV}(h:frK e)(hp:Hp)(n:Nat):frz hp n e=some (e,[]):=by rcases h with⟨u,rfl⟩ | ⟨u,rfl⟩<;>cases n<;>rfl
theorem frK.rn{e:PV}(h:frK e)(ρ:Nat→Nat)(k:Nat):rn ρ k 3 e e:=by
 rcases h with⟨u,rfl⟩ | ⟨u,rfl⟩
 ·rw[uCS]
 ·rw[vTB]
theorem vTD{f:PV→PV→Prop}:∀ {a a' b b':List PV},rnL f a a'→rnL f b b'→rnL f (a++b) (a'++b')
 | [],[],_,_,_,h=>h
 | _::_,_::_,_,_,h,h2=>⟨h.1,vTD h.2 h2⟩
 | [],_::_,_,_,h,_=>h.elim
 | _::_,[],_,_,h,_=>h.elim
theorem vTC{ρ:Nat→Nat}{k:Nat}:∀ {l:List PV},(∀ e∈l,frK e)→rnL (rn ρ k 3) l l
 | [],_=>trivial
 | e::l,h=>⟨(h e zsm).rn ρ k,vTC fun x hx=>h x (by simp[hx])⟩
theorem zCM{ls:List (List Bool)}:∀ e∈vDL ls,frK e:=fun e he=>by obtain⟨x,_,rfl⟩:=List.mem_map.1 he; exact Or.inr ⟨_,rfl⟩
theorem zFX{ρ:Nat→Nat}{k:Nat}{Z:List Nat}{r p p' n n':Nat}{pre post els':List PV}{h:Hp}{z:Fz}(hr:r<k)(hb:h (ρ r)=some ⟨els',1,false⟩)(he:els'=pre++.own p' 0 n'::post)(hp:p<k)(e:p'=ρ p)(en:n'=n)(hpre:∀ e∈pre,frK e)(hpost:∀ e∈post,frK e)(hz:vNZ Z r=z (ρ r)) :
 vRJ ρ k Z r ⟨pre++.own p 0 n::post,1,false⟩ h z:=by
 subst he e en;refine⟨hr,fun e he=>?_,⟨_,hb,rfl,rfl,Or.inr (vTD (vTC hpre) ⟨by rw[zDR]; exact⟨hp,rfl⟩,vTC hpost⟩)⟩,hz⟩;simp only[List.mem_append,List.mem_cons]at he;rcases he with he | rfl | he
 ·exact(hpre e he).nr.2
 ·simp
 ·exact(hpost e he).nr.2
theorem zD3{h:Hp}{n r:Nat}{d:NodeL}{sz:Nat}{agg:Bool}(hb:h r=some ⟨[vA7 d],sz,agg⟩):frz h (n+2) (.ptr r 0 0)=some (.cptr (vA7 d) 0,[r]):=by
 have he:frz h (n+1) (vA7 d)=some (vA7 d,[]):=by rw[← zBZ]; exact zH3 d
 unfold frz;simp only[hb,List.getElem?_cons_zero,he]
def uMQ(n:NodeL)(b:Int)(pre:List PV)(pv:PV)(s':St)(μ':Mp):Prop :=
 (∃ m es clock ks,pv=vTM m∧μ'=[(m,.map es clock)]∧IsSet ks es clock∧∀ k,k∈ks↔k∈vH4 n b)∧nr 3 pv=true∧∃ k',k'≠0∧k'<s'.nx∧s'.h 0=some ⟨[.own k' 0 (pre.length+(vCJ n b).length)],1,false⟩∧s'.h k'=some ⟨pre++vDL (vCJ n b),1,false⟩∧s'.z 0=false∧s'.z k'=false
abbrev vNN(b:Int)(n:NodeL)(i:Nat):List Int:=vDD n.proof++vDK (n.kids.take i) (b+n.lemmas.length)
theorem vN9{ks:List NodeL}{i:Nat}(h:i<ks.length):((ks.take i).map NodeL.wt).sum+ks[i]!.wt≤(ks.map NodeL.wt).sum:=by
 have:=zGM (f:=NodeL.wt) h;have:=sum_take_le (f:=NodeL.wt) (l:=ks) (i:=i+1);omega
theorem vG7:∀ (l:List LemL),l.length≤(l.map vDO).sum
 | []=>by simp
 | m::l=>by have:=vG7 l; simp[vDO]; omega
mutual
theorem vJB:∀ (n:NodeL) (b:Int),(vCJ n b).length≤n.wt
 | .mk l s ks e p,b=>by
   have:=zH1 ks (b+l.length);rw[NodeL.wt_eq];simp only[vCJ,List.length_cons,NodeL.lemmas,NodeL.proof,NodeL.kids];omega
theorem zH1:∀ (ks:List NodeL) (b:Int),(vBQ ks b).length≤(ks.map NodeL.wt).sum
 | [],_=>by simp[vBQ]
 | k::ks,b=>by
   have h1:=vJB k b;have h2:=zH1 ks b;simp only[vBQ,List.length_append,List.map_cons,List.sum_cons];omega
end
theorem zOU:∀ (ks ks':List NodeL) (b:Int),vBQ (ks++ks') b=vBQ ks b++vBQ ks' b
 | [],_,_=>rfl
 | k::ks,ks',b=>by simp only[List.cons_append,vBQ,zOU ks ks' b,List.append_assoc]
theorem vH5:∀ (ks ks':List NodeL) (b:Int),vDK (ks++ks') b=vDK ks b++vDK ks' b
 | [],_,_=>rfl
 | k::ks,ks',b=>by simp only[List.cons_append,vDK,vH5 ks ks' b,List.append_assoc]
theorem zM8{ks:List NodeL}{i:Nat}(h:i<ks.length)(b:Int):vBQ (ks.take (i+1)) b=vBQ (ks.take i) b++vCJ ks[i]! b:=by
 rw[List.take_succ_eq_append_getElem h,getElem!_pos ks i h,zOU];simp[vBQ]
theorem vPN{ks:List NodeL}{i:Nat}(h:i<ks.length)(b:Int):vDK (ks.take (i+1)) b=vDK (ks.take i) b++vH4 ks[i]! b:=by
 rw[List.take_succ_eq_append_getElem h,getElem!_pos ks i h,vH5];simp[vDK]
theorem FnM.args{f:FuncId}{args args':List PV}{K:PV→St→Mp→Prop}{s:St}{μ:Mp}(e:args=args')(h:FnM Tryz.prog G0 f args' K s μ):FnM Tryz.prog G0 f args K s μ:=e ▸ h
theorem uLB{a b b' c:PV}(h:b=b'):[a,b,c]=[a,b',c]:=h ▸ rfl
abbrev uNH(it:Nat):PV:=.raw (.pointer (some ⟨it,0,none⟩))
theorem vL2{h:Hp}{n:Nat}:∀ {l:List PV},(∀ e∈l,frK e)→vB1 (frz h n) l=some (l,[])
 | [],_=>rfl
 | e::l,hl=>zAD ((hl e zsm).frz h n) (vL2 fun x hx=>hl x (by simp[hx]))
theorem vN0{f:PV→Option (PV×List Nat)}:∀ {l a l' b:List PV} {ks ls:List Nat},vB1 f l=some (a,ks)→vB1 f l'=some (b,ls)→vB1 f (l++l')=some (a++b,ks++ls)
 | [],a,l',b,ks,ls,h,h2=>by simp[vB1]at h; obtain⟨rfl,rfl⟩:=h; exact h2
 | x::l,a,l',b,ks,ls,h,h2=>by
   unfold vB1 at h
   split at h
   ·rename_i d ks1 ds ls1 e1 e2
    cases h
    have:=zAD e1 (vN0 e2 h2);rw[List.append_assoc];exact this
   ·cases h
theorem uLQ:(Tryz.prog.info? 4).bind (·.zero)=some (.bool false):=by kernel_rfl
theorem uLR(w:World):(zeroValue 4).run Tryz.prog w=.ok (.bool false) w:=by
 obtain⟨i,hi,hz⟩:=Option.bind_eq_some_iff.1 uLQ;simp[zeroValue,typeInfo,hi,hz,Result.andThen]
abbrev vDW(b:Int)(n:NodeL)(j:Nat):List Bool×List Int:=keepR (n.lemmas.drop j) (b+j) (vDD n.proof++vDK n.kids (b+n.lemmas.length))
abbrev vT5(b:Int)(n:NodeL)(j:Nat):List PV:=List.replicate j (.bool false)++(vDW b n j).1.map .bool
theorem uFX:FO 35 Tryz.f35 [.tmp 6] 86:=mkO Tryz.func35 Tryz.ntmps35 Tryz.results35
theorem uKD:∀ (sz:Nat) (n:NodeL) (b:Int) (pre:List PV) (t:Tm),SizeOf.sizeOf n<sz→NodeRg n→0≤b→b+n.wt≤4611686018427387904→pre.length+n.wt≤1073741824→(∀ e∈pre,frK e) →
 FnM Tryz.prog G0 35 [vA7 n,.int .i64 b,.ptr 0 0 0] (uMQ n b pre) ⟨t,hv [(0,⟨[.own 1 0 pre.length],1,false⟩),(1,⟨pre,1,false⟩)],zv [],2⟩ []:=by
 intro sz
 induction sz with
 | zero=>intro n b pre t h; omega
 | succ sz ih =>
   intro n b pre t hsz hn hb hbw hpw hpre;have hwt:=n.wt_eq;have hll:n.lemmas.length≤(n.lemmas.map vDO).sum:=vG7 _;have hln:=hn.ln;have hkn:=hn.kn;refine uIA vBD uFX zsm ?_;refine zAV (zBR vBD hT (by kernel_rfl) ?_);refine sns ?_;refine vCY (zAV (zBR vBD hT (by kernel_rfl) ?_));refine sns ?_;refine vCY (zAV (zBR vBD hT (by kernel_rfl) ?_));refine sns ?_;refine vE4 [] [(1,.int .i64 b),(2,.ptr 0 0 0),(3,.cptr (vA7 n) 0),(7,.int .i64 pre.length)] [(0,⟨[.own 2 0 (pre.length+1)],1,false⟩),(2,⟨pre++.own 3 0 n.lemmas.length::[],1,false⟩),(3,⟨List.replicate n.lemmas.length (.bool false),1,false⟩)] [] 4 zdd zsm trivial ?_ ?_
   ·exact⟨[18,16],[2],[(3,.cptr (vA7 n) 0)],[],⟨⟨⟨_,rfl⟩,trivial⟩,⟨⟨6,[2],zD3 rfl,rfl⟩,trivial⟩,trivial⟩,⟨zAC rfl rfl,apx,zAG rfl,zAC rfl rfl,trivial⟩,⟨zAH zdd rfl (by rw[zDR]; exact⟨zdd,rfl⟩) rfl rfl,zFX zdd rfl (by simp; rfl) zdd rfl rfl hpre zsm rfl,zAF zdd rfl zsm (fun e he=>by rw[List.eq_of_mem_replicate he]; exact⟨rfl,zsm⟩) rfl,trivial⟩,by simp[ren]⟩
   refine zAV (zCB (vT8 rfl rfl rfl fun m=>zGX hT 1 rfl ?_));refine sns ?_;refine zDI (vCY (zAV (zCB (zGX hT 3 rfl ?_))));refine sns ?_;refine zJL rfl rfl rfl rfl ?_;refine(vPJ (uKC m #[] 0 [] n.proof vV4 hn.prf (fun _=>.any)) (fun a ha=>?_)).mono fun pv s' μ' hK=>?_
   ·simp only[List.mem_cons,List.not_mem_nil,or_false]at ha
    rcases ha with rfl | rfl<;>rfl
   obtain⟨rfl,hK⟩:=hK;have hu:uL0 [] m n.proof μ':=by rcases hK with⟨⟨_,_,h⟩,_⟩ | ⟨_,_,_,_,h⟩<;>exact h
   clear hK;obtain⟨es,clock,ks,rfl,hs,hks⟩:=hu;simp only[List.not_mem_nil,false_or]at hks;refine zDI (vCY (zAV (zAV (zBR vBD hT (by kernel_rfl) ?_))));refine sns ?_;refine vCY (zCC ?_)
   refine zF0 (fun((i,_):Nat×Array MapEntry×Nat×List Int)=>[(1,.int .i64 b),(2,.ptr 0 0 0),(3,.cptr (vA7 n) 0),(7,.int .i64 pre.length),(8,vTM m),(34,.imm (n.kids.map vBI)),(35,.int .i64 n.kids.length),(36,.int .i64 i)])
    (fun((i,_):Nat×Array MapEntry×Nat×List Int)=>[(0,⟨[.own 2 0 (pre.length+1+(vBQ (n.kids.take i) (b+n.lemmas.length)).length)],1,false⟩),(2,⟨pre++.own 3 0 n.lemmas.length::vDL (vBQ (n.kids.take i) (b+n.lemmas.length)),1,false⟩),(3,⟨List.replicate n.lemmas.length (.bool false),1,false⟩)]) [] 4
    (fun((_,es,clock,_):Nat×Array MapEntry×Nat×List Int)=>[(m,.map es clock)])
    (fun((i,es,clock,ks):Nat×Array MapEntry×Nat×List Int)=>i≤n.kids.length∧IsSet ks es clock∧∀ k,k∈ks↔k∈vNN b n i) (fun((i,_):Nat×Array MapEntry×Nat×List Int)=>n.kids.length - i) (0,es,clock,ks) ⟨zsm,hs,by simpa [vNN,vDK]using hks⟩ zdd zsm ?_ rfl ?_
   ·exact⟨[2,3],[],[],[],ttt,⟨zAC rfl rfl,apx,zAG rfl,zAC rfl rfl,zDU rfl,zAE rfl rfl,zAC rfl zsm,zAC rfl rfl,trivial⟩,
     ⟨zAH zdd rfl (by rw[zDR]; exact⟨zdd,rfl⟩) rfl rfl,zFX zdd rfl rfl zdd rfl rfl hpre zCM rfl,zAF zdd rfl rfl (fun e he=>by rw[List.eq_of_mem_replicate he]; exact⟨rfl,zsm⟩) rfl,trivial⟩,by simp[ren]⟩
   ·clear hs hks
    rintro⟨i,es,clock,ks⟩ ⟨hi,hs,hks⟩
    dsimp only at hi hs hks ⊢;refine zAV (zBR vBD hT (by kernel_rfl) ?_);refine sns ?_;refine vCY (zAV (zBR vBD hT (by kernel_rfl) ?_))
    (refine gon ?_ ?_<;>intro h)
    ·have hi':i<n.kids.length:=by omega
     refine vCY (zAV (zCC ?_));refine zAV (zBR vBD hT (by kernel_rfl) ?_);refine sns ?_
     refine vE4 [] [(1,.int .i64 b),(2,.ptr 0 0 0),(3,.cptr (vA7 n) 0),(7,.int .i64 pre.length),(8,vTM m),(34,.imm (n.kids.map vBI)),(35,.int .i64 n.kids.length),(36,.int .i64 i),(10,.cptr (vA7 n.kids[i]!) 0)]
      [(0,⟨[.own 2 0 (pre.length+1+(vBQ (n.kids.take i) (b+n.lemmas.length)).length)],1,false⟩),(2,⟨pre++.own 3 0 n.lemmas.length::vDL (vBQ (n.kids.take i) (b+n.lemmas.length)),1,false⟩),(3,⟨List.replicate n.lemmas.length (.bool false),1,false⟩)] [] 4 zdd zsm trivial ?_ ?_
     ·exact⟨[2,3],[7],[(10,.cptr (vA7 n.kids[i]!) 0)],[],⟨⟨⟨_,rfl⟩,trivial⟩,⟨⟨6,[7],zD3 rfl,rfl⟩,trivial⟩,trivial⟩,⟨zAC rfl rfl,apx,zAG rfl,zAC rfl rfl,zDU rfl,zAE rfl rfl,zAC rfl rfl,zAC rfl rfl,zAG rfl,trivial⟩,
       ⟨zAH zdd rfl (by rw[zDR]; exact⟨zdd,rfl⟩) rfl rfl,zFX zdd rfl rfl zdd rfl rfl hpre zCM rfl,zAF zdd rfl rfl (fun e he=>by rw[List.eq_of_mem_replicate he]; exact⟨rfl,zsm⟩) rfl,trivial⟩,by simp[ren]⟩
     have hkm:n.kids[i]! ∈ n.kids:=zA7 hi';have hks1:=vN9 hi';have hks2:=zH1 (n.kids.take i) (b+n.lemmas.length);have hks3:=vJB n.kids[i]! (b+n.lemmas.length);refine zAV (zCB (zGX hT 7 rfl ?_));refine sns ?_;refine zJL rfl rfl rfl rfl ?_;refine FnM.args (uLB (a:=vA7 n.kids[i]!) (b:=.int .i64 (b+((List.map vBA n.lemmas).length:Nat))) (b':=.int .i64 (b+n.lemmas.length)) (c:=.ptr 0 0 0) (by rw[List.length_map])) ?_;refine(vX4 (μ:=[]) [(m,.map es clock)] (uIB (K0:=fun pv μ'=>∃ m es clock ks,pv=vTM m∧μ'=[(m,.map es clock)]∧IsSet ks es clock∧∀ k,k∈ks↔k∈vH4 n.kids[i]! (b+n.lemmas.length)) (k:=2) (p:=3) (n:=n.lemmas.length) (L:=pre.length+1+(vBQ (n.kids.take i) (b+n.lemmas.length)).length) (pre:=pre) (post:=vDL (vBQ (n.kids.take i) (b+n.lemmas.length))) (new:=vDL (vCJ n.kids[i]! (b+n.lemmas.length))) (t0:=fun _=>.any) zsm (fun u=>?_) (fun a ha=>?_) zsm (fun e he=>?_) (fun e he=>(zCM e he).nr.1) rfl rfl zdd zdd zdd rfl rfl)).mono fun pv2 s' μ' hK=>?_
     ·have e1:(pre++.raw u::vDL (vBQ (n.kids.take i) (b+n.lemmas.length))).length=pre.length+1+(vBQ (n.kids.take i) (b+n.lemmas.length)).length:=by
       simp; omega
      have hI:=ih n.kids[i]! (b+n.lemmas.length) (pre++.raw u::vDL (vBQ (n.kids.take i) (b+n.lemmas.length))) (fun _=>.any) (by have:=NodeL.sizeOf_kid hkm; omega) (hn.kid _ hkm) zom zom (by rw[e1]; omega) (fun e he=>by
       simp only[List.mem_append,List.mem_cons]at he;rcases he with he | rfl | he
       ·exact hpre e he
       ·exact Or.inl ⟨_,rfl⟩
       ·exact zCM e he)
      rw[zG0,zGZ,e1]at hI;refine hI.mono fun pv s' μ' ⟨k1,k2,k',k3,k4,k5,k6,k7,k8⟩=>⟨k1,k2,k',k3,k4,?_,?_,k7,k8⟩
      ·rw[k5,e1]; simp
      ·rw[k6]; simp
     ·simp only[List.mem_cons,List.not_mem_nil,or_false]at ha
      rcases ha with rfl | rfl | rfl
      ·exact Or.inr rfl
      ·exact Or.inr rfl
      ·exact Or.inl rfl
     ·simp only[List.mem_append]at he
      rcases he with he | he
      ·exact(hpre e he).nr.1
      ·exact(zCM e he).nr.1
     obtain⟨μ2,rfl,⟨mk,esk,clk,ksk,rfl,rfl,hsk,hksk⟩,rfl⟩:=hK
     refine vZK rfl rfl rfl rfl uJ6 (m:=mk) (es:=esk) (clock:=clk) zsm fun it=>zDI (vE4 [] [(1,.int .i64 b),(2,.ptr 0 0 0),(3,.cptr (vA7 n) 0),(7,.int .i64 pre.length),(8,vTM m),(34,.imm (n.kids.map vBI)),(35,.int .i64 n.kids.length),(36,.int .i64 i),(48,uNH it)]
      [(0,⟨[.own 2 0 (pre.length+1+(vBQ (n.kids.take (i+1)) (b+n.lemmas.length)).length)],1,false⟩),(2,⟨pre++.own 3 0 n.lemmas.length::vDL (vBQ (n.kids.take (i+1)) (b+n.lemmas.length)),1,false⟩),(3,⟨List.replicate n.lemmas.length (.bool false),1,false⟩)] [] 4 zdd zsm trivial ?_ ?_)
     ·exact⟨[11,3],[],[],[],ttt,⟨zAC rfl rfl,apx,zAG rfl,zAC rfl rfl,zDU rfl,zAE rfl rfl,zAC rfl rfl,zAC rfl rfl,zDU rfl,trivial⟩,
       ⟨zAH zdd rfl (by rw[zDR]; exact⟨zdd,by simp[zM8 hi']; exact⟨rfl,zom⟩⟩) rfl rfl,zFX zdd rfl (by rw[zM8 hi']; simp; rfl) zdd rfl rfl hpre zCM rfl,zAF zdd rfl rfl (fun e he=>by rw[List.eq_of_mem_replicate he]; exact⟨rfl,zsm⟩) rfl,trivial⟩,by simp[ren]⟩
     refine zCC ?_;have hold:∀ x∈esk.toList,x.born<clk:=hsk.2.1
     refine zF0 (fun _:Array Nat×Array MapEntry×Nat×List Int=>[(1,.int .i64 b),(2,.ptr 0 0 0),(3,.cptr (vA7 n) 0),(7,.int .i64 pre.length),(8,vTM m),(34,.imm (n.kids.map vBI)),(35,.int .i64 n.kids.length),(36,.int .i64 i),(48,uNH it)])
      (fun _=>[(0,⟨[.own 2 0 (pre.length+1+(vBQ (n.kids.take (i+1)) (b+n.lemmas.length)).length)],1,false⟩),(2,⟨pre++.own 3 0 n.lemmas.length::vDL (vBQ (n.kids.take (i+1)) (b+n.lemmas.length)),1,false⟩),(3,⟨List.replicate n.lemmas.length (.bool false),1,false⟩)]) [] 4
      (fun((seen,es,clock,_):Array Nat×Array MapEntry×Nat×List Int)=>[(it,.mapIter (some mk) clk seen clk),(mk,.map esk clk),(m,.map es clock)])
      (fun((seen,es,clock,ks'):Array Nat×Array MapEntry×Nat×List Int)=>IsSet ks' es clock∧∀ k,k∈ks'↔k∈ks∨∃ e∈esk.toList,seen.contains e.born=true∧e.key=.int .i64 k) (fun((seen,_):Array Nat×Array MapEntry×Nat×List Int)=>(leftOf esk seen).size) (#[],es,clock,ks) ⟨hs,fun k=>by simp⟩ zdd zsm ?_ rfl ?_
     ·exact⟨[2,3],[],[],[],ttt,⟨zAC rfl rfl,apx,zAG rfl,zAC rfl rfl,zDU rfl,zAE rfl rfl,zAC rfl rfl,zAC rfl rfl,zDU rfl,trivial⟩,
       ⟨zAH zdd rfl (by rw[zDR]; exact⟨zdd,rfl⟩) rfl rfl,zFX zdd rfl rfl zdd rfl rfl hpre zCM rfl,zAF zdd rfl rfl (fun e he=>by rw[List.eq_of_mem_replicate he]; exact⟨rfl,zsm⟩) rfl,trivial⟩,by simp[ren]⟩
     rintro⟨seen,es2,clock2,ks2⟩ ⟨hs2,hks2⟩
     dsimp only at hs2 hks2 ⊢;refine zAV (zCB (vT7 (m:=mk) (es:=esk) (clock:=clk) (μ1:=[]) (μ2:=[(mk,.map esk clk),(m,.map es2 clock2)]) rfl rfl rfl rfl zsm hold (Nat.le_refl _) (fun h0=>?_) (fun e he=>?_)))
     ·refine zGX hT 1 rfl ?_
      refine sns ?_;refine zDI (vCY (zAV (zBR vBD hT (by kernel_rfl) ?_)));refine sns ?_;refine vCY (vRZ (μ2:=[(m,.map es2 clock2)]) zsm (zBR vBD hT (by kernel_rfl) ?_));refine sns ?_
      refine⟨(i+1,es2,clock2,ks2),⟨⟨zom,hs2,fun k=>?_⟩,zom⟩,⟨[2,3],[],[],[],ttt,⟨zAC rfl rfl,apx,zAG rfl,zAC rfl rfl,zDU rfl,zAE rfl rfl,zAC rfl rfl,zAC rfl zom,trivial⟩,
       ⟨zAH zdd rfl (by rw[zDR]; exact⟨zdd,rfl⟩) rfl rfl,zFX zdd rfl rfl zdd rfl rfl hpre zCM rfl,zAF zdd rfl rfl (fun e he=>by rw[List.eq_of_mem_replicate he]; exact⟨rfl,zsm⟩) rfl,trivial⟩,by simp[ren]⟩,rfl⟩
      unfold vNN at hks ⊢;rw[hks2,hks,vPN hi',← List.append_assoc,List.mem_append (t:=vH4 _ _),← hksk];refine or_congr_right ⟨fun⟨e,h1,_,h3⟩=>?_,fun hk=>?_⟩
      ·obtain⟨k',h4,h5,_⟩:=hsk.key h1
       rw[h5]at h3;cases h3
       exact h4
      ·obtain⟨e,h1,h2⟩:=hsk.mem hk
       exact⟨e,h1,all_seen esk seen h0 e h1,h2⟩
     ·refine zGX hT 1 rfl ?_
      refine sns ?_;refine zDI (vCY (zAV (zBR vBD hT (by kernel_rfl) ?_)));refine sns ?_;obtain⟨hem,hen⟩:=mem_left he;obtain⟨k,hk,ek,ev⟩:=hsk.key hem;refine vCY (zCC (zAV (zCB (vP8 (m:=mk) (it:=it) (k:=k) (since:=clk) (seen:=seen) (e:=e) (es:=esk) (clock:=clk) rfl rfl rfl rfl zsm zsm hem hsk.2.2.1 ek (zGX hT 2 rfl ?_)))));refine sns ?_;refine zDI (vCY (zCB (zGX hT 2 rfl ?_)));refine sns ?_;refine zIS (k:=k) (m:=m) (es:=es2) (clock:=clock2) (μ1:=[(it,.mapIter (some mk) clk (seen.push e.born) clk),(mk,.map esk clk)]) (μ2:=[]) rfl rfl rfl rfl rfl rfl uJ6 uLM hs2 fun es3 clock3 hs3=>zDI ?_
      refine⟨(seen.push e.born,es3,clock3,uA9 ks2 k),⟨⟨hs3,fun j=>?_⟩,left_shrinks esk seen e he⟩,⟨[2,3],[],[],[],ttt,⟨zAC rfl rfl,apx,zAG rfl,zAC rfl rfl,zDU rfl,zAE rfl rfl,zAC rfl rfl,zAC rfl rfl,zDU rfl,trivial⟩,
       ⟨zAH zdd rfl (by rw[zDR]; exact⟨zdd,rfl⟩) rfl rfl,zFX zdd rfl rfl zdd rfl rfl hpre zCM rfl,zAF zdd rfl rfl (fun e he=>by rw[List.eq_of_mem_replicate he]; exact⟨rfl,zsm⟩) rfl,trivial⟩,by simp[ren]⟩,rfl⟩
      rw[vG3,hks2,or_assoc];refine or_congr_right ⟨fun h=>?_,fun⟨e',h1,h2,h3⟩=>?_⟩
      ·rcases h with⟨e',h1,h2,h3⟩ | rfl
       ·exact⟨e',h1,by rw[contains_push,h2]; rfl,h3⟩
       ·exact⟨e,hem,by rw[contains_push,beq_self_eq_true,Bool.or_true],ek⟩
      ·rw[contains_push,Bool.or_eq_true,beq_iff_eq]at h2
       rcases h2 with h2 | h2
       ·exact Or.inl ⟨e',h1,h2,h3⟩
       ·have:=born_inj hsk.2.2.1 h1 hem h2
        subst this;rw[ek]at h3;cases h3
        exact Or.inr rfl
    ·obtain rfl:i=n.kids.length:=by omega
     unfold vNN at hks;simp only[List.take_length]at hks ⊢;refine vCY (zAV (zAV (zBR vBD hT (by kernel_rfl) ?_)));refine sns ?_;refine vCY (zCC ?_);have hlr:=zH1 n.kids (b+n.lemmas.length);have hnrB:∀ e∈List.replicate n.lemmas.length (PV.bool false),nr 3 e=true∧e≠.any:=fun e he=>by rw[List.eq_of_mem_replicate he]; exact⟨rfl,zsm⟩
     have hnrJ:∀ j,∀ e∈vT5 b n j,nr 3 e=true∧e≠.any:=fun j e he=>by
      rcases List.mem_append.1 he with he | he
      ·rw[List.eq_of_mem_replicate he]; exact⟨rfl,zsm⟩
      ·obtain⟨x,_,rfl⟩:=List.mem_map.1 he; exact⟨rfl,zsm⟩
     refine zF0 (fun((j,_):Nat×Array MapEntry×Nat×List Int)=>[(1,.int .i64 b),(2,.ptr 0 0 0),(3,.cptr (vA7 n) 0),(7,.int .i64 pre.length),(8,vTM m),(12,.int .i64 ((j:Int) - 1))])
      (fun((j,_):Nat×Array MapEntry×Nat×List Int)=>[(0,⟨[.own 2 0 (pre.length+1+(vBQ n.kids (b+n.lemmas.length)).length)],1,false⟩),(2,⟨pre++.own 3 0 n.lemmas.length::vDL (vBQ n.kids (b+n.lemmas.length)),1,false⟩),(3,⟨vT5 b n j,1,false⟩)]) [] 4
      (fun((_,es,clock,_):Nat×Array MapEntry×Nat×List Int)=>[(m,.map es clock)])
      (fun((j,es,clock,ks):Nat×Array MapEntry×Nat×List Int)=>j≤n.lemmas.length∧IsSet ks es clock∧∀ k,k∈ks↔k∈(vDW b n j).2) (fun((j,_):Nat×Array MapEntry×Nat×List Int)=>j) (n.lemmas.length,es,clock,ks) ⟨Nat.le_refl _,hs,fun k=>by unfold vDW; rw[List.drop_length]; exact hks k⟩ zdd zsm ?_ rfl ?_
     ·exact⟨[2,3],[],[],[],ttt,⟨zAC rfl rfl,apx,zAG rfl,zAC rfl rfl,zDU rfl,zAC rfl zsm,trivial⟩,
       ⟨zAH zdd rfl (by rw[zDR]; exact⟨zdd,rfl⟩) rfl rfl,zFX zdd rfl rfl zdd rfl rfl hpre zCM rfl,zAF zdd rfl (by unfold vT5 vDW; rw[List.drop_length]; simp[keepR]) (hnrJ _) rfl,trivial⟩,by simp[ren]⟩
     clear hs hks
     rintro⟨j,es,clock,ks⟩ ⟨hj,hs,hks⟩
     dsimp only at hj hs hks ⊢;refine zAV (zAV (zBR vBD hT (by kernel_rfl) ?_));refine sns ?_;refine vCY (zBR vBD hT (by kernel_rfl) ?_)
     (refine gon ?_ ?_<;>intro h)
     ·obtain⟨j,rfl⟩:∃ i,j=i+1:=⟨j - 1,zom⟩
      have hj':j<n.lemmas.length:=by omega
      have ed:n.lemmas.drop j=n.lemmas[j]! :: n.lemmas.drop (j+1):=by rw[getElem!_pos n.lemmas j hj']; exact List.drop_eq_getElem_cons hj'
      have hlm:n.lemmas[j]! ∈ n.lemmas:=zA7 hj';refine vCY (zAV (zCC ?_));refine zAV (zCB (zGX hT 4 rfl ?_));refine sns ?_;refine vT9 (k:=b+j) (m:=m) (es:=es) (clock:=clock) (ks:=ks) rfl rfl rfl rfl ?_ uJ6 uLM uLR hs zsm (zDI (vCY ?_))
      ·exact congrArg (PV.int .i64) zom
      refine zI1 (t:=decide (b+j∈ks)) rfl rfl (fun hp=>?_) (fun hp=>?_)
      ·rw[decide_eq_true_eq]at hp
       refine zAV (zBR vBD hT (by kernel_rfl) ?_);refine sns ?_;refine zJP (a:=.own 3 0 n.lemmas.length) (by rw[zDZ]; simp) ?_;refine sns ?_;refine zJP (a:=.bool false) (by rw[zDZ,show 0+(((j+1:Nat):Int) - 1).toNat=j by omega]; show(vT5 b n (j+1))[j]?=_; unfold vT5; rw[List.getElem?_append_left zsm]; simp[List.getElem?_replicate]) ?_;refine sns ?_;refine vCY (zCB (zGX hT 7 rfl ?_));refine sns ?_;refine zA1 (j:=j) zom hj' ?_;refine sns ?_;refine zJL rfl rfl rfl rfl ?_;refine(vPJ (uKC m es clock ks n.lemmas[j]!.proof hs (hn.lem _ hlm) (fun _=>.any)) (fun a ha=>?_)).mono fun pv3 s' μ' hK=>?_
       ·simp only[List.mem_cons,List.not_mem_nil,or_false]at ha
        rcases ha with rfl | rfl<;>rfl
       obtain⟨rfl,hK⟩:=hK;have hu:uL0 ks m n.lemmas[j]!.proof μ':=by rcases hK with⟨⟨_,_,h⟩,_⟩ | ⟨_,_,_,_,h⟩<;>exact h
       clear hK;obtain⟨es3,clock3,ks3,rfl,hs3,hks3⟩:=hu;refine zDI (vCY (zBR vBD hT (by kernel_rfl) ?_));refine sns ?_
       have ek:(vDW b n j)=(true::(vDW b n (j+1)).1,(vDW b n (j+1)).2++vDD n.lemmas[j]!.proof):=by
        unfold vDW
        rw[ed,zK7,if_pos (by
         have:=(hks (b+j)).1 hp;unfold vDW at this;rw[show b+((j+1:Nat):Int)=b+j+1 by omega]at this
         exact this),show b+((j+1:Nat):Int)=b+j+1 by omega]
       refine⟨(j,es3,clock3,ks3),⟨⟨zom,hs3,fun k=>?_⟩,by show j<j+1; omega⟩,⟨[2,3],[],[],[],ttt,⟨zAC rfl rfl,apx,zAG rfl,zAC rfl rfl,zDU rfl,zAC rfl (by show _=((j:Nat):Int) - 1; omega),trivial⟩,
        ⟨zAH zdd rfl (by rw[zDR]; exact⟨zdd,rfl⟩) rfl rfl,zFX zdd rfl rfl zdd rfl rfl hpre zCM rfl,zAF zdd rfl ?_ (hnrJ _) rfl,trivial⟩,by simp[ren]⟩,rfl⟩
       ·rw[hks3,hks,ek,List.mem_append]
       ·show(vT5 b n (j+1)).set _ _=vT5 b n j
        rw[show 0+(((j+1:Nat):Int) - 1).toNat=j by omega];unfold vT5;rw[ek,List.replicate_succ',List.append_assoc,List.set_append_right _ _ zsm]
        simp
      ·rw[decide_eq_false_iff_not]at hp
       refine zI0 (vCY (zBR vBD hT (by kernel_rfl) ?_));refine sns ?_
       have ek:(vDW b n j)=(false::(vDW b n (j+1)).1,(vDW b n (j+1)).2):=by
        unfold vDW
        rw[ed,zK7,if_neg (fun hc=>hp ((hks (b+j)).2 (by
         unfold vDW;rw[show b+((j+1:Nat):Int)=b+j+1 by omega]
         exact hc))),show b+((j+1:Nat):Int)=b+j+1 by omega]
       refine⟨(j,es,clock,ks),⟨⟨zom,hs,fun k=>?_⟩,by show j<j+1; omega⟩,⟨[2,3],[],[],[],ttt,⟨zAC rfl rfl,apx,zAG rfl,zAC rfl rfl,zDU rfl,zAC rfl (by show _=((j:Nat):Int) - 1; omega),trivial⟩,
        ⟨zAH zdd rfl (by rw[zDR]; exact⟨zdd,rfl⟩) rfl rfl,zFX zdd rfl rfl zdd rfl rfl hpre zCM rfl,zAF zdd rfl ?_ (hnrJ _) rfl,trivial⟩,by simp[ren]⟩,rfl⟩
       ·rw[hks,ek]
       ·unfold vT5
        rw[ek,List.replicate_succ',List.append_assoc]
        simp
     ·obtain rfl:j=0:=by omega
      have e0:vDW b n 0=keepR n.lemmas b (vDD n.proof++vDK n.kids (b+n.lemmas.length)):=by
       unfold vDW;rw[List.drop_zero,show b+((0:Nat):Int)=b by omega]
      have e1:vT5 b n 0=(ownB n.lemmas n.kids n.proof b).map PV.bool:=by
       unfold vT5;rw[e0];rfl
      have e2:vCJ n b=ownB n.lemmas n.kids n.proof b::vBQ n.kids (b+n.lemmas.length):=by cases n; rfl
      have e3:vH4 n b=(vDW b n 0).2:=by rw[e0]; cases n; rfl
      have el:(ownB n.lemmas n.kids n.proof b).length=n.lemmas.length:=zGC _ _ _;refine vE4 [] [(8,vTM m)] [(0,⟨[.own 2 0 (pre.length+1+(vBQ n.kids (b+n.lemmas.length)).length)],1,false⟩),(2,⟨pre++vDL (vCJ n b),1,false⟩)] [] 3 zdd zsm trivial ?_ ?_
      ·exact⟨[2],[3],[],[(2,pre++vDL (vCJ n b))],⟨⟨⟨_,rfl⟩,trivial⟩,trivial,⟨⟨_,4,[3],rfl,by rw[e2]; exact vN0 (ls:=[3]) (vL2 hpre) (zAD (zAJ rfl e1 el.symm (fun x=>rfl)) (vL2 zCM)),rfl⟩,trivial⟩⟩,⟨zDU rfl,trivial⟩,
        ⟨zAH zdd rfl (by rw[zDR]; exact⟨zdd,rfl⟩) rfl rfl,zAF zdd rfl rfl (fun e he=>by
          rcases List.mem_append.1 he with he | he
          ·exact(hpre e he).nr
          ·exact(zCM e he).nr) rfl,trivial⟩,by simp[ren]⟩
      refine vR2 vBD hT (by kernel_rfl) ?_;refine sns ?_;refine⟨⟨m,es,clock,ks,rfl,rfl,hs,fun k=>by rw[hks,e3]⟩,rfl,2,zdd,by show 2<5; decide,?_,rfl,rfl,rfl⟩;show some _=some _
      rw[e2,List.length_cons,show pre.length+1+(vBQ n.kids (b+n.lemmas.length)).length=pre.length+((vBQ n.kids (b+n.lemmas.length)).length+1) by omega]
open Go.Proofs Go.PI
abbrev vL5(R:List Int):PV:=.imm (R.map (.int .i64))
def uJY(R:List Int):Prop:=R.length<1073741824∧∀ r∈R,0≤r∧r<4611686018427387904
theorem uFD:FO 55 Tryz.f55 [.tmp 3] 23:=mkO Tryz.func55 Tryz.ntmps55 Tryz.results55
theorem uDQ(k:Int)(R:List Int)(hR:uJY R)(h1:-9223372036854775808≤k)(h2:k<9223372036854775808):Fn 55 [.int .i64 k,.cptr (vL5 R) 0] (.data (.int .i64 (vER R k))):=by
 have hl:=hR.1;refine zAL vBD hT uFD zsm ?_;refine sts ?_;refine zBA hT (fun i:Nat=>[(0,.int .i64 k),(4,.int .i64 (((R.take i).filter fun r=>decide (r+1<k)).length:Nat)),(7,vL5 R),(8,.int .i64 R.length),(9,.int .i64 i)]) (fun i=>i≤R.length) (fun i=>R.length - i) 0 zsm ⟨zAC rfl rfl,zAC rfl rfl,zAE rfl rfl,zAC rfl zsm,zAC rfl rfl,trivial⟩ ?_;intro i hi;have hf:=List.length_filter_le (fun r=>decide (r+1<k)) (R.take i);have hf2:(R.take i).length≤i:=by simp; omega
 by_cases h:i<R.length
 ·have hr:=hR.2 _ (zA7 h)
  have et:((R.take (i+1)).filter fun r=>decide (r+1<k))=((R.take i).filter fun r=>decide (r+1<k))++(if R[i]! + 1<k then [R[i]!] else []):=by
   rw[List.take_succ_eq_append_getElem h,List.filter_append,getElem!_pos R i h];simp[List.filter_cons]
  (repeat' (first|refine stp ?_|with_reducible(refine brr ?_ ?_<;>intro h)));all_goals try(conv=>whnf)
  ·refine⟨i+1,⟨zom,zom⟩,zAC rfl rfl,zAC rfl ?_,zAE rfl rfl,zAC rfl rfl,zAC rfl zom,trivial⟩
   rw[et,if_pos zom]; simp
  ·refine⟨i+1,⟨zom,zom⟩,zAC rfl rfl,zAC rfl ?_,zAE rfl rfl,zAC rfl rfl,zAC rfl zom,trivial⟩
   rw[et,if_neg zom]; simp
  all_goals (exfalso; omega)
 ·obtain rfl:i=R.length:=by omega
  rw[List.take_length]at hf ⊢
  have key:(R.filter fun r=>decide (r+1<k)).length=0∨1<k:=by
   by_cases h0:∃ r∈R,r+1<k
   ·obtain⟨r,hr,h3⟩:=h0
    have:=hR.2 r hr;exact Or.inr zom
   ·left
    rw[List.length_eq_zero_iff,List.filter_eq_nil_iff];intro r hr h3;exact h0 ⟨r,hr,by simpa using h3⟩
  (repeat' (first|refine stp ?_|with_reducible(refine brr ?_ ?_<;>intro h)));all_goals try(conv=>whnf)
  all_goals try (exfalso; omega)
  all_goals exact zAB rfl rfl
theorem zEG{ρ:Nat→Nat}{k:Nat}{t:Tm}{j:Nat}{fn:Go.Fn}{e:PV}{o:Nat}(h:t j=.func fn [] [.cptr e o]):at' ρ k t j (.func fn [] [.cptr e o]):=by unfold at'; rw[h,vK2]; exact⟨rfl,trivial,by rw[vK3],trivial⟩
abbrev uLL(R:List Int):PV:=.func (.func 55) [] [.cptr (vL5 R) 0]
theorem uFF:FO 56 Tryz.f56 [.cell 3 70] 15:=mkO Tryz.func56 Tryz.ntmps56 Tryz.results56
theorem uKO(r:RowL)(R:List Int)(hR:uJY R)(hr:vK0 r):Fn 56 [vBG r,.cptr (uLL R) 0] (.data (vBG (vCP R r))):=by
 have c1:=uDQ r.lo R hR hr.1.1 hr.1.2;have c2:=uDQ r.hi R hR hr.2.1 hr.2.2;refine zAL vBD hT uFF zsm ?_;refine sts ?_;refine zAA c1 rfl ?_;refine sts ?_;refine zAA c2 rfl ?_;refine sts ?_;exact zAB rfl rfl
abbrev uDO(R:List Int):PV:=.func (.func 56) [] [.cptr (uLL R) 0]
theorem vNR:FO 57 Tryz.f57 [.tmp 4] 25:=mkO Tryz.func57 Tryz.ntmps57 Tryz.results57
theorem zKP{f:RowL→RowL}{l:List MultL}{i:Nat}(h:i<l.length):(vBS f (l.take i)).map vBC++[vBC ⟨f l[i]!.row,l[i]!.coef⟩]=(vBS f (l.take (i+1))).map vBC:=by
 rw[List.take_succ_eq_append_getElem h,getElem!_pos l i h];unfold vBS;rw[List.map_append,List.map_append];rfl
theorem zCL(l:List MultL):∀ e∈l.map vBC,nr 3 e=true∧e≠.any:=zAO fun _=>⟨rfl,by simp[vBC]⟩
theorem vWY(l:List MultL)(R:List Int)(hR:uJY R)(hl:vC4 l):Fn 57 [.imm (l.map vBC),uDO R] (.fresh ((vBS (vCP R) l).map vBC) 7 true):=by
 have hln:=hl.1;refine zEE vBD hT vNR zsm ?_;refine sts ?_
 refine zCR hT [(.sl 5,7,true)] (fun(i:Nat)=>[(1,uDO R),(5,.own 0 0 i),(8,.imm (l.map vBC)),(9,.int .i64 l.length),(10,.int .i64 i)]) (fun i=>[(0,⟨(vBS (vCP R) (l.take i)).map vBC,7,true⟩)]) [] 1
  (fun i=>i≤l.length) (fun i=>l.length - i) 0 (Nat.zero_le _) zdd zsm ⟨rfl,trivial⟩ ?_ ?_
 ·exact⟨[_],[],[],[],ttt,⟨zEG rfl,zA0 zdd rfl rfl,zAE rfl rfl,zAC rfl zsm,zAC rfl rfl,trivial⟩,⟨zAF zdd rfl rfl (zCL _) rfl,trivial⟩,by simp[ren]⟩
 intro i hi;have hlen:(vBS (vCP R) (l.take i)).length=i:=by simp[vBS]; omega
 by_cases h0:i<l.length
 ·have c1:=uKO l[i]!.row R hR (hl.2 _ (zA7 h0)).1
  (refine gob ?_ ?_<;>intro h)
  ·refine zAA c1 rfl ?_
   refine sts ?_;exact⟨i+1,⟨zom,by show l.length - (i+1)<l.length - i; omega⟩,[_],[],[],[],ttt,⟨zEG rfl,zA0 zdd rfl rfl,zAE rfl rfl,zAC rfl rfl,zAC rfl zom,trivial⟩,⟨zAF zdd rfl (zKP h0) (zCL _) rfl,trivial⟩,by simp[ren]⟩
  all_goals (exfalso; omega)
 ·obtain rfl:i=l.length:=by omega
  rw[List.take_length]
  (refine gob ?_ ?_<;>intro h)
  all_goals try (exfalso; omega)
  refine zBJ rfl rfl (by simp[vBS]) rfl (zD2 (fun x=>zJZ x) _)
theorem vUC:FO 54 Tryz.f54 [.tmp 2] 8:=mkO Tryz.func54 Tryz.ntmps54 Tryz.results54
theorem uBX(xs:List Int)(hl:xs.length<1073741824):Fn 54 [vL5 xs] (.fresh (xs.map (.int .i64)) 1 false):=by
 refine zEE vBD hT vUC zsm ?_
 (repeat' (first|refine stn ?_|(with_reducible refine brr ?_ ?_<;>intro h)|(with_reducible refine zAS ?_ ?_<;>intro h)|with_reducible refine zBD ?_ ?_)); all_goals try (conv=>whnf)
 ·subst h; exact zD1
 all_goals refine zBJ rfl rfl ?_ rfl (zD2 (fun x=>rfl) _)
 all_goals simp
theorem vOE{h:Hp}{n r q len sz:Nat}{agg:Bool}{R:List Int}{bs:Nat}{ba:Bool}(hb:h r=some ⟨[.own q 0 len],bs,ba⟩)(hq:h q=some ⟨R.map (.int .i64),sz,agg⟩)(hl:len=R.length):frz h (n+2) (.ptr r 0 0)=some (.cptr (vL5 R) 0,[r,q]):=by
 have h1:frz h (n+1) (.own q 0 len)=some (vL5 R,[q]):=zAJ hq rfl hl (fun x=>by cases n<;>rfl);unfold frz;simp only[hb,List.getElem?_cons_zero,h1]
theorem uGX{h:Hp}{n p r q len sz:Nat}{agg:Bool}{R:List Int}{bs bs':Nat}{ba ba':Bool}(hp:h p=some ⟨[.func (.func 55) [] [.ptr r 0 0]],bs',ba'⟩)(hb:h r=some ⟨[.own q 0 len],bs,ba⟩)(hq:h q=some ⟨R.map (.int .i64),sz,agg⟩)(hl:len=R.length):frz h (n+5) (.func (.func 56) [] [.ptr p 0 0])=some (uDO R,[p,r,q]):=by
 have h1:frz h (n+2) (.ptr r 0 0)=some (.cptr (vL5 R) 0,[r,q]):=vOE hb hq hl
 have h2:frz h (n+3) (.func (.func 55) [] [.ptr r 0 0])=some (uLL R,[r,q]):=by
  unfold frz;simp only[vB1,h1,List.append_nil,List.nil_append]
 have h3:frz h (n+4) (.ptr p 0 0)=some (.cptr (uLL R) 0,[p,r,q]):=by
  unfold frz;simp only[hp,List.getElem?_cons_zero,h2]
 unfold frz;simp only[vB1,h3,List.append_nil,List.nil_append]
abbrev vHY(n:NodeL)(x0 x6 x8:PV):PV:=.agg [x0,.int .i64 n.split.kind,.int .i64 n.split.index,.bool n.split.rat.neg,vBJ n.split.rat.num,vBJ n.split.rat.den,x6,.bool n.empty,x8]
theorem zCF{ρ:Nat→Nat}{k:Nat}{n:NodeL}{x0 x6 x8 y0 y6 y8:PV}(h0:rn ρ k 2 x0 y0)(h6:rn ρ k 2 x6 y6)(h8:rn ρ k 2 x8 y8):rn ρ k 3 (vHY n x0 x6 x8) (vHY n y0 y6 y8):=by
 unfold vHY;rw[uCT];exact⟨h0,rfl,rfl,rfl,rfl,rfl,h6,rfl,h8,trivial⟩
theorem zG1{ρ:Nat→Nat}{k r q a c:Nat}(h:r<k)(e:q=ρ r)(e2:c=a):rn ρ k 2 (.own r 0 a) (.own q 0 c):=by subst e e2; rw[zDR]; exact⟨h,rfl⟩
theorem vK1{ρ:Nat→Nat}{k:Nat}:rn ρ k 2 .nilsl .nilsl:=by rw[vNB]
theorem zE7(l:List LemL):∀ e∈l.map vBA,nr 3 e=true∧e≠.any:=zAO fun _=>⟨rfl,by simp[vBA]⟩
theorem vJK:∀ (l l':List LemL) (O O':List Bool),l.length=O.length→vCH (l++l') (O++O')=vCH l O++vCH l' O'
 | [],l',[],O',_=>by simp[vCH]
 | m::l,l',b::O,O',h=>by
   have:=vJK l l' O O' (by simpa using h);cases b<;>simp[vCH,this]
theorem vQ4{l:List LemL}{O:List Bool}{i:Nat}(h:i<l.length)(h2:O.length=l.length):vCH (l.take (i+1)) (O.take (i+1))=vCH (l.take i) (O.take i)++(if O[i]! = true then [l[i]!] else []):=by
 rw[List.take_succ_eq_append_getElem h,List.take_succ_eq_append_getElem (l:=O) zom,vJK _ _ _ _ (by simp; omega),getElem!_pos l i h,getElem!_pos O i zom];cases O[i]<;>simp[vCH]
theorem vOD{h:Hp}{n r len sz:Nat}{agg:Bool}{m:LemL}{P:List MultL}(hr:h r=some ⟨P.map vBC,sz,agg⟩)(hl:len=P.length):frz h (n+3) (.agg [.int .i64 m.unit,.bool m.upper,.bool m.value.neg,vBJ m.value.num,vBJ m.value.den,.own r 0 len])=some (vBA ⟨m.unit,m.upper,m.value,P⟩,[r]) :=
 zCA (zAD (ks:=[]) rfl (zAD (ks:=[]) rfl (zAD (ks:=[]) rfl (zAD (ks:=[]) rfl (zAD (ks:=[]) rfl (zAD (zAJ hr rfl hl (fun x=>zJZ x)) rfl))))))
theorem vJJ:∀ (l:List LemL) (O:List Bool),(vCH l O).length≤l.length
 | [],O=>by simp[vCH]
 | m::l,[]=>by simp[vCH]
 | m::l,b::O=>by
   have:=vJJ l O;unfold vCH
   split<;>simp<;>omega
theorem zHG(l:List NodeL):∀ e∈l.map vBI,nr 3 e=true∧e≠.any:=zAO fun x=>by rw[zBZ]; exact⟨rfl,zsm⟩
theorem vOJ:∀ (ks ks':List NodeL) (b:Int) (R:List Int),vEK (ks++ks') b R=vEK ks b R++vEK ks' b R
 | [],_,_,_=>rfl
 | k::ks,ks',b,R=>by simp only[List.cons_append,vEK,vOJ ks ks' b R]
theorem vWK{ks:List NodeL}{i:Nat}(h:i<ks.length)(b:Int)(R:List Int):vEK (ks.take (i+1)) b R=vEK (ks.take i) b R++[vJ0 ks[i]! b R]:=by
 rw[List.take_succ_eq_append_getElem h,getElem!_pos ks i h,vOJ];rfl
theorem vHI:∀ (ks:List NodeL) (b:Int) (R:List Int),(vEK ks b R).length=ks.length
 | [],_,_=>rfl
 | k::ks,b,R=>by simp only[vEK,List.length_cons,vHI ks b R]
theorem vL1{ks:List NodeL}{i:Nat}(h:i<ks.length)(b:Int)(rest:List (List Bool)):vBQ (ks.drop i) b++rest=vCJ ks[i]! b++(vBQ (ks.drop (i+1)) b++rest):=by
 rw[List.drop_eq_getElem_cons h,getElem!_pos ks i h,vBQ,List.append_assoc]
theorem vWB{h:Hp}{m r q p a sz sz2 sz3:Nat}{g1 g2 g3:Bool}{n:NodeL}{L:List LemL}{K:List NodeL}{P:List MultL}(h1:h r=some ⟨L.map vBA,sz,g1⟩)(h2:h q=some ⟨K.map vBI,sz2,g2⟩)(h3:h p=some ⟨P.map vBC,sz3,g3⟩)(ha:a=K.length) :
 frz h (m+4) (vHY n (.own r 0 L.length) (.own q 0 a) (.own p 0 P.length))=some (vA7 (.mk L n.split K n.empty P),[r,q,p]) :=
 zCA (zAD (zAJ h1 rfl rfl (fun x=>zNF x)) (zAD (ks:=[]) rfl (zAD (ks:=[]) rfl (zAD (ks:=[]) rfl (zAD (ks:=[]) rfl (zAD (ks:=[]) rfl (zAD (zAJ h2 rfl ha (fun x=>zH3 x)) (zAD (ks:=[]) rfl (zAD (zAJ h3 rfl rfl (fun x=>zJZ x)) rfl)))))))))
abbrev vN5(n:NodeL)(O:List Bool)(R:List Int)(i:Nat):List LemL:=(vCH (n.lemmas.take i) (O.take i)).map (vDJ (vCP R))
abbrev vQ8(ls:List (List Bool)):Blk:=⟨[.imm (vDL ls)],1,false⟩
theorem vJC(n:NodeL)(b:Int):vCJ n b=ownB n.lemmas n.kids n.proof b::vBQ n.kids (b+n.lemmas.length):=by cases n; rfl
theorem uG9(n:NodeL)(b:Int)(R:List Int):vJ0 n b R=.mk ((vCH n.lemmas (ownB n.lemmas n.kids n.proof b)).map (vDJ (vCP (R++vCQ (ownB n.lemmas n.kids n.proof b) b)))) n.split (vEK n.kids (b+n.lemmas.length) (R++vCQ (ownB n.lemmas n.kids n.proof b) b)) n.empty (vBS (vCP (R++vCQ (ownB n.lemmas n.kids n.proof b) b)) n.proof):=by cases n; rfl
theorem zJG:∀ (bs:List Bool) (j:Int),(vCQ bs j).length≤bs.length
 | [],_=>by simp[vCQ]
 | true::bs,j=>by have:=zJG bs (j+1); simp only[vCQ,List.length_cons]; omega
 | false::bs,j=>by have:=zJG bs (j+1); simp only[vCQ,List.length_cons]; omega
theorem vGK:∀ (bs cs:List Bool) (j:Int),vCQ (bs++cs) j=vCQ bs j++vCQ cs (j+bs.length)
 | [],cs,j=>by simp[vCQ]
 | true::bs,cs,j=>by simp only[List.cons_append,vCQ,vGK bs cs (j+1),List.length_cons]; rw[show j+1+(bs.length:Int)=j+((bs.length+1:Nat):Int) by omega]
 | false::bs,cs,j=>by simp only[List.cons_append,vCQ,vGK bs cs (j+1),List.length_cons]; rw[show j+1+(bs.length:Int)=j+((bs.length+1:Nat):Int) by omega]
theorem vTK{O:List Bool}{i:Nat}(h:i<O.length)(b:Int):vCQ (O.take (i+1)) b=vCQ (O.take i) b++(if O[i]! = true then [] else [b+i]):=by
 rw[List.take_succ_eq_append_getElem h,vGK,getElem!_pos O i h,List.length_take,Nat.min_eq_left (Nat.le_of_lt h)];cases O[i]<;>simp[vCQ]
theorem uFE:FO 36 Tryz.f36 [.cell 8 32] 106:=mkO Tryz.func36 Tryz.ntmps36 Tryz.results36
theorem uKN:∀ (sz:Nat) (n:NodeL) (b:Int) (R:List Int) (rest:List (List Bool)),SizeOf.sizeOf n<sz→NodeRg n→0≤b→b+n.wt≤2305843009213693952→uJY R→R.length+n.wt≤1073741000 →
 Fn 36 [vA7 n,.int .i64 b,vL5 R,.ptr 0 0 0] (.wrt (vQ8 (vCJ n b++rest)) (vA7 (vJ0 n b R)) (vQ8 rest)):=by
 intro sz
 induction sz with
 | zero=>intro n b R rest h; omega
 | succ sz ih =>
   intro n b R rest hsz hn hb hbw hR hRw;have hwt:=n.wt_eq;have hll:=vG7 n.lemmas;have hln:=hn.ln;have hkn:=hn.kn;have hol:(ownB n.lemmas n.kids n.proof b).length=n.lemmas.length:=zGC _ _ _;rw[vJC,uG9];obtain⟨O,hO⟩:∃ O,ownB n.lemmas n.kids n.proof b=O:=⟨_,rfl⟩;rw[hO]at hol ⊢;have hcl:=uBX R (by have:=hR.1; omega);refine zH8 vBD hT uFE zsm ?_;refine sns ?_;refine zCT (l':=vBQ n.kids (b+n.lemmas.length)++rest) (by rw[List.take_of_length_le (by rw[Int.toNat_natCast,List.length_map]; exact Nat.le_refl _)]; rfl) ?_;refine sns ?_;refine zBB hcl rfl ?_;refine sns ?_
   refine zAP hT (fun i:Nat=>[(1,.int .i64 b),(3,.ptr 0 0 0),(4,.cptr (vA7 n) 0),(6,.ptr 1 0 0),(8,.ptr 2 0 0),(9,uCQ O),(32,uCQ O),(33,.int .i64 O.length),(34,.int .i64 i)])
    (fun i=>[(0,vQ8 (vBQ n.kids (b+n.lemmas.length)++rest)),(1,⟨[.own 3 0 (R++vCQ (O.take i) b).length],1,false⟩),(2,⟨[.agg [.nilsl,.int .i64 0,.int .i64 0,.bool false,.nilsl,.nilsl,.nilsl,.bool false,.nilsl]],9,true⟩),(3,⟨(R++vCQ (O.take i) b).map (.int .i64),1,false⟩)]) [] 4
    (fun i=>i≤O.length) (fun i=>O.length - i) 0 zsm zdd zsm ?_ ?_
   ·exact⟨[2,3,18],[1],[(4,.cptr (vA7 n) 0)],[],⟨⟨⟨_,rfl⟩,trivial⟩,⟨⟨6,[1],zD3 rfl,rfl⟩,trivial⟩,trivial⟩,⟨zAC rfl rfl,apx,zAG rfl,apx,apx,zAE rfl rfl,zAE rfl rfl,zAC rfl zsm,zAC rfl rfl,trivial⟩,
     ⟨bbx,zAH zdd rfl (by rw[zDR]; exact⟨zdd,by simp[vCQ]; rfl⟩) rfl rfl,bbx,zAF zdd rfl (by simp[vCQ]) (fun e he=>by obtain⟨x,_,rfl⟩:=List.mem_map.1 he; exact⟨rfl,zsm⟩) rfl,trivial⟩,by simp[ren]⟩
   intro i hi
   have hrl:(vCQ (O.take i) b).length≤i:=by
    have:=zJG (O.take i) b;have:(O.take i).length≤i:=by simp; omega
    omega
   by_cases hi':i<O.length
   ·have ers:=vTK hi' b
    (repeat' (first|refine stp ?_|with_reducible(refine brr ?_ ?_<;>intro h)));all_goals try(conv=>whnf)
    ·exact⟨i+1,⟨zom,zom⟩,[1,2,3],[],[],[],ttt,⟨zAC rfl rfl,apx,zAG rfl,apx,apx,zAE rfl rfl,zAE rfl rfl,zAC rfl rfl,zAC rfl zom,trivial⟩,
      ⟨bbx,zAH zdd rfl (by rw[ers,if_pos (by assumption),List.append_nil,zDR]; exact⟨zdd,rfl⟩) rfl rfl,bbx,zAF zdd rfl (by rw[ers,if_pos (by assumption),List.append_nil]) (fun e he=>by obtain⟨x,_,rfl⟩:=List.mem_map.1 he; exact⟨rfl,zsm⟩) rfl,trivial⟩,by simp[ren]⟩
    ·exact⟨i+1,⟨zom,zom⟩,[1,2,_],[],[],[],ttt,⟨zAC rfl rfl,(apy rfl),zAG rfl,(apy rfl),(apy rfl),zAE rfl rfl,zAE rfl rfl,zAC rfl rfl,zAC rfl zom,trivial⟩,
      ⟨bbx,zAH zdd rfl (by rw[ers,if_neg (by simp_all),zDR]; exact⟨zdd,by simp[Nat.add_assoc]; rfl⟩) rfl rfl,bbx,zAF zdd rfl (by rw[ers,if_neg (by simp_all)]; simp) (fun e he=>by obtain⟨x,_,rfl⟩:=List.mem_map.1 he; exact⟨rfl,zsm⟩) rfl,trivial⟩,by simp[ren]⟩
    all_goals (exfalso; omega)
   ·obtain rfl:i=O.length:=by omega
    rw[List.take_length];obtain⟨R',hR'⟩:∃ R',R++vCQ O b=R':=⟨_,rfl⟩
    have hR2:uJY R':=by
     have h1:=zJG O b;rw[← hR'];refine⟨by have:=hR.1; simp only[List.length_append]; omega,fun r hr=>?_⟩;rcases List.mem_append.1 hr with hr | hr
     ·exact hR.2 r hr
     ·have h2:=vKD (zHU O b) r hr
      have h3:=zKQ O b r hr;exact⟨zom,zom⟩
    have hRl:R'.length+(n.wt - n.lemmas.length)≤1073741000:=by
     have h1:=zJG O b;rw[← hR',List.length_append]; omega
    rw[hR'];refine sus ?_;refine zAZ ?_; (repeat' (first|refine stu ?_|with_reducible(refine brr ?_ ?_<;>intro h)));all_goals try(conv=>whnf)
    ·exfalso; omega
    (refine zAZ ?_; refine sus ?_)
    (refine zAZ ?_; refine sus ?_)
    refine vBT [] [(1,.int .i64 b),(3,.ptr 0 0 0),(4,.cptr (vA7 n) 0),(6,.cptr (vL5 R') 0),(8,.ptr 1 0 0),(9,uCQ O),(13,uDO R')]
     [(0,vQ8 (vBQ n.kids (b+n.lemmas.length)++rest)),(1,⟨[.agg [.nilsl,.int .i64 0,.int .i64 0,.bool false,.nilsl,.nilsl,.nilsl,.bool false,.nilsl]],9,true⟩)] [] 2 zdd zsm trivial ?_ ?_
    ·exact⟨[2],[1,3,6],[(6,.cptr (vL5 R') 0),(13,uDO R')],[],⟨⟨⟨_,rfl⟩,⟨_,rfl⟩,⟨_,rfl⟩,trivial⟩,⟨⟨6,[1,3],vOE rfl rfl rfl,rfl⟩,⟨6,[6,1,3],uGX rfl rfl rfl rfl,rfl⟩,trivial⟩,trivial⟩,⟨zAC rfl rfl,apx,zAG rfl,zAG rfl,apx,zAE rfl rfl,zEG rfl,trivial⟩,
      ⟨bbx,bbx,trivial⟩,by simp[ren]⟩
    refine sus ?_;refine zBB (vWY n.proof R' hR2 hn.prf) rfl ?_;refine sus ?_
    (refine zAZ ?_; refine sus ?_)
    have hpl:(vBS (vCP R') n.proof).length=n.proof.length:=by simp[vBS]
    obtain⟨PF,hPF⟩:∃ PF,vBS (vCP R') n.proof=PF:=⟨_,rfl⟩;rw[hPF]at hpl ⊢
    refine vBT [] [(1,.int .i64 b),(3,.ptr 0 0 0),(4,.cptr (vA7 n) 0),(6,.cptr (vL5 R') 0),(8,.ptr 1 0 0),(9,uCQ O),(13,uDO R'),(14,.ptr 2 0 0),(60,.imm (n.lemmas.map vBA)),(61,.int .i64 n.lemmas.length),(62,.int .i64 0)]
     [(0,vQ8 (vBQ n.kids (b+n.lemmas.length)++rest)),(1,⟨[.agg [.nilsl,.int .i64 0,.int .i64 0,.bool false,.nilsl,.nilsl,.nilsl,.bool false,.nilsl]],9,true⟩),(2,⟨[.agg [.nilsl,.int .i64 n.split.kind,.int .i64 n.split.index,.bool n.split.rat.neg,vBJ n.split.rat.num,vBJ n.split.rat.den,.nilsl,.bool n.empty,.own 3 0 PF.length]],9,true⟩),(3,⟨PF.map vBC,7,true⟩)] [] 4 zdd zsm trivial ?_ ?_
    ·exact⟨[1,11,9],[],[],[],ttt,⟨zAC rfl rfl,apx,zAG rfl,zAG rfl,apx,zAE rfl rfl,zEG rfl,apx,zAE rfl rfl,zAC rfl zsm,zAC rfl rfl,trivial⟩,
      ⟨bbx,bbx,zAH zdd rfl (zCF vK1 vK1 (zG1 zdd rfl zsm)) rfl rfl,zAF zdd rfl rfl (zCL _) rfl,trivial⟩,by simp[ren]⟩
    refine sts ?_
    refine zCR hT [(.cl 2 0 0,6,true)] (fun(i:Nat)=>[(1,.int .i64 b),(3,.ptr 0 0 0),(4,.cptr (vA7 n) 0),(6,.cptr (vL5 R') 0),(8,.ptr 1 0 0),(9,uCQ O),(13,uDO R'),(14,.ptr 2 0 0),(60,.imm (n.lemmas.map vBA)),(61,.int .i64 n.lemmas.length),(62,.int .i64 i)])
     (fun i=>[(0,vQ8 (vBQ n.kids (b+n.lemmas.length)++rest)),(1,⟨[.agg [.nilsl,.int .i64 0,.int .i64 0,.bool false,.nilsl,.nilsl,.nilsl,.bool false,.nilsl]],9,true⟩),(2,⟨[vHY n (.own 4 0 (vN5 n O R' i).length) .nilsl (.own 3 0 PF.length)],9,true⟩),(3,⟨PF.map vBC,7,true⟩),(4,⟨(vN5 n O R' i).map vBA,6,true⟩)]) [] 5
     (fun i=>i≤n.lemmas.length) (fun i=>n.lemmas.length - i) 0 (Nat.zero_le _) zdd zsm ⟨_,_,rfl,rfl,rfl,trivial⟩ ?_ ?_
    ·exact⟨[1,2,3,4],[],[],[],ttt,⟨zAC rfl rfl,apx,zAG rfl,zAG rfl,apx,zAE rfl rfl,zEG rfl,apx,zAE rfl rfl,zAC rfl rfl,zAC rfl rfl,trivial⟩,
      ⟨bbx,bbx,zAH zdd rfl (zCF (zG1 zdd rfl (by simp[vCH])) vK1 (zG1 zdd rfl rfl)) rfl rfl,zAF zdd rfl rfl (zCL _) rfl,zAF zdd rfl rfl (zE7 _) rfl,trivial⟩,by simp[ren]⟩
    intro i hi;by_cases hi':i<n.lemmas.length
    ·have hks:=vQ4 hi' hol
     have hlm:n.lemmas[i]! ∈ n.lemmas:=zA7 hi'
     have hlI:(vN5 n O R' i).length≤i:=by
      have:=vJJ (n.lemmas.take i) (O.take i);simp only[List.length_map,List.length_take]at this ⊢;omega
     refine sus ?_;refine zAZ ?_; (repeat' (first|refine stu ?_|with_reducible(refine brr ?_ ?_<;>intro h)));all_goals try(conv=>whnf)
     ·(refine zAZ ?_; refine sus ?_)
      (refine zAZ ?_; refine sus ?_)
      refine zAZ ?_; (repeat' (first|refine stu ?_|with_reducible(refine brr ?_ ?_<;>intro h)));all_goals try(conv=>whnf)
      ·refine zBB (vWY n.lemmas[i]!.proof R' hR2 (hn.lem _ hlm)) rfl ?_
       refine sus ?_
       refine vBT [] [(1,.int .i64 b),(3,.ptr 0 0 0),(4,.cptr (vA7 n) 0),(6,.cptr (vL5 R') 0),(8,.ptr 1 0 0),(9,uCQ O),(13,uDO R'),(14,.ptr 2 0 0),(60,.imm (n.lemmas.map vBA)),(61,.int .i64 n.lemmas.length),(62,.int .i64 i),(16,.ptr 5 0 0)]
        [(0,vQ8 (vBQ n.kids (b+n.lemmas.length)++rest)),(1,⟨[.agg [.nilsl,.int .i64 0,.int .i64 0,.bool false,.nilsl,.nilsl,.nilsl,.bool false,.nilsl]],9,true⟩),(2,⟨[vHY n (.own 4 0 (vN5 n O R' i).length) .nilsl (.own 3 0 PF.length)],9,true⟩),(3,⟨PF.map vBC,7,true⟩),(4,⟨(vN5 n O R' i).map vBA,6,true⟩),(5,⟨[vBA (vDJ (vCP R') n.lemmas[i]!)],6,true⟩)] [] 6 zdd zsm trivial ?_ ?_
       ·exact⟨[1,2,3,4,9],[19],[],[(9,[vBA (vDJ (vCP R') n.lemmas[i]!)])],⟨⟨⟨_,rfl⟩,trivial⟩,trivial,⟨⟨_,6,[19],rfl,zAD (ks:=[19]) (ls:=[]) (vOD rfl (List.length_map _)) rfl,rfl⟩,trivial⟩⟩,⟨zAC rfl rfl,apx,zAG rfl,zAG rfl,apx,zAE rfl rfl,zEG rfl,apx,zAE rfl rfl,zAC rfl rfl,zAC rfl rfl,apx,trivial⟩,
         ⟨bbx,bbx,zAH zdd rfl (zCF (zG1 zdd rfl rfl) vK1 (zG1 zdd rfl rfl)) rfl rfl,zAF zdd rfl rfl (zCL _) rfl,zAF zdd rfl rfl (zE7 _) rfl,bbx,trivial⟩,by simp[ren]⟩
       refine sts ?_;refine zBL ⟨rfl,(List.length_map _).symm,?_⟩ ?_
       ·show(vN5 n O R' i).length+1≤4294967296
        omega
       refine sts ?_
       have el:vN5 n O R' (i+1)=vN5 n O R' i++[vDJ (vCP R') n.lemmas[i]!]:=by
        unfold vN5;rw[hks,if_pos (by assumption),List.map_append];rfl
       refine⟨i+1,⟨zom,zom⟩,[1,2,3,_],[],[],[],ttt,⟨zAC rfl rfl,(apy rfl),zAG rfl,zAG rfl,(apy rfl),zAE rfl rfl,zEG rfl,(apy rfl),zAE rfl rfl,zAC rfl rfl,zAC rfl zom,trivial⟩,
        ⟨bbx,bbx,zAH zdd rfl (zCF (zG1 zdd rfl ?_) vK1 (zG1 zdd rfl rfl)) rfl rfl,zAF zdd rfl rfl (zCL _) rfl,zAF zdd rfl ?_ (zE7 _) rfl,trivial⟩,by simp[ren]⟩
       ·rw[el,List.length_append]; rfl
       ·rw[el,List.map_append]; rfl
      ·have el:vN5 n O R' (i+1)=vN5 n O R' i:=by
        unfold vN5;rw[hks,if_neg (by simp_all),List.append_nil]
       refine sts ?_
       exact⟨i+1,⟨zom,zom⟩,[1,2,3,4],[],[],[],ttt,⟨zAC rfl rfl,apx,zAG rfl,zAG rfl,apx,zAE rfl rfl,zEG rfl,apx,zAE rfl rfl,zAC rfl rfl,zAC rfl zom,trivial⟩,
        ⟨bbx,bbx,zAH zdd rfl (zCF (zG1 zdd rfl (by rw[el])) vK1 (zG1 zdd rfl rfl)) rfl rfl,zAF zdd rfl rfl (zCL _) rfl,zAF zdd rfl (by rw[el]) (zE7 _) rfl,trivial⟩,by simp[ren]⟩
     ·exfalso; omega
    ·obtain rfl:i=n.lemmas.length:=by omega
     obtain⟨LM,hLM⟩:∃ LM,vN5 n O R' n.lemmas.length=LM:=⟨_,rfl⟩;rw[hLM]
     (repeat' (first|refine stp ?_|with_reducible(refine brr ?_ ?_<;>intro h)));all_goals try(conv=>whnf)
     all_goals try (exfalso; omega)
     refine zCR hT [(.cl 2 0 6,9,true)] (fun(i:Nat)=>[(1,.int .i64 b),(3,.ptr 0 0 0),(4,.cptr (vA7 n) 0),(6,.cptr (vL5 R') 0),(8,.ptr 1 0 0),(14,.ptr 2 0 0),(84,.imm (n.kids.map vBI)),(85,.int .i64 n.kids.length),(86,.int .i64 i)])
      (fun i=>[(0,vQ8 (vBQ (n.kids.drop i) (b+n.lemmas.length)++rest)),(1,⟨[.agg [.nilsl,.int .i64 0,.int .i64 0,.bool false,.nilsl,.nilsl,.nilsl,.bool false,.nilsl]],9,true⟩),(2,⟨[vHY n (.own 4 0 LM.length) (.own 5 0 i) (.own 3 0 PF.length)],9,true⟩),(3,⟨PF.map vBC,7,true⟩),(4,⟨LM.map vBA,6,true⟩),(5,⟨(vEK (n.kids.take i) (b+n.lemmas.length) R').map vBI,9,true⟩)]) [] 6
      (fun i=>i≤n.kids.length) (fun i=>n.kids.length - i) 0 (Nat.zero_le _) zdd zsm ⟨_,_,rfl,rfl,rfl,trivial⟩ ?_ ?_
     ·exact⟨[1,2,3,4,_],[],[],[],ttt,⟨zAC rfl rfl,(apy rfl),zAG rfl,zAG rfl,(apy rfl),(apy rfl),zAE rfl rfl,zAC rfl zsm,zAC rfl rfl,trivial⟩,
       ⟨bbx,bbx,zAH zdd rfl (zCF (zG1 zdd rfl rfl) (zG1 zdd rfl rfl) (zG1 zdd rfl rfl)) rfl rfl,zAF zdd rfl rfl (zCL _) rfl,zAF zdd rfl rfl (zE7 _) rfl,zAF zdd rfl rfl (zHG _) rfl,trivial⟩,by simp[ren]⟩
     intro i hi;by_cases hi':i<n.kids.length
     ·have hkm:n.kids[i]! ∈ n.kids:=zA7 hi'
      have hks1:=vN9 hi';have hcl1:=vHI (n.kids.take i) (b+n.lemmas.length) R'
      have ck:Fn 36 [vA7 n.kids[i]!,.int .i64 (b+((n.lemmas.map vBA).length:Nat)),vL5 R',.ptr 0 0 0] (.wrt (vQ8 (vCJ n.kids[i]! (b+n.lemmas.length)++(vBQ (n.kids.drop (i+1)) (b+n.lemmas.length)++rest))) (vA7 (vJ0 n.kids[i]! (b+n.lemmas.length) R')) (vQ8 (vBQ (n.kids.drop (i+1)) (b+n.lemmas.length)++rest))):=by
       rw[List.length_map];exact ih n.kids[i]! (b+n.lemmas.length) R' _ (by have:=NodeL.sizeOf_kid hkm; omega) (hn.kid _ hkm) zom zom hR2 zom
      (refine gon ?_ ?_<;>intro h)
      ·refine zLB (r:=0) (ks:=[]) ck rfl (congrArg (fun x=>some (vQ8 x)) (vL1 hi' _ rest)) rfl rfl (fun e he=>by simp at he; subst he; rfl) (fun i=>by simp[vCS]) ?_
       refine sns ?_;refine zBL ⟨rfl,by show i=(List.map vBI _).length; rw[List.length_map,hcl1,List.length_take]; omega,?_⟩ ?_
       ·show i+1≤4294967296
        omega
       refine sns ?_
       refine⟨i+1,⟨zom,zom⟩,[1,2,3,4,_],[],[],[],ttt,⟨zAC rfl rfl,(apy rfl),zAG rfl,zAG rfl,(apy rfl),(apy rfl),zAE rfl rfl,zAC rfl rfl,zAC rfl zom,trivial⟩,
        ⟨bbx,bbx,zAH zdd rfl (zCF (zG1 zdd rfl rfl) (zG1 zdd rfl rfl) (zG1 zdd rfl rfl)) rfl rfl,zAF zdd rfl rfl (zCL _) rfl,zAF zdd rfl rfl (zE7 _) rfl,zAF zdd rfl ?_ (zHG _) rfl,trivial⟩,by simp[ren]⟩
       rw[vWK hi',List.map_append];show _++[vA7 _]=_++[vBI _]
       rw[zBZ]
      all_goals (exfalso; omega)
     ·obtain rfl:i=n.kids.length:=by omega
      obtain⟨KD,hKD⟩:∃ KD,vEK n.kids (b+n.lemmas.length) R'=KD:=⟨_,rfl⟩;have hkl:KD.length=n.kids.length:=by rw[← hKD]; exact vHI _ _ _
      rw[List.take_length,List.drop_length,hKD];refine sus ?_;refine zAZ ?_; (repeat' (first|refine stu ?_|with_reducible(refine brr ?_ ?_<;>intro h)));all_goals try(conv=>whnf)
      ·exfalso; omega
      have elm:(vCH n.lemmas O).map (vDJ (vCP R'))=LM:=by
       rw[← hLM];unfold vN5;rw[List.take_length,← hol,List.take_length]
      rw[elm];refine vBT [] [(8,.ptr 1 0 0),(14,.ptr 2 0 0)] [(0,vQ8 rest),(1,⟨[.agg [.nilsl,.int .i64 0,.int .i64 0,.bool false,.nilsl,.nilsl,.nilsl,.bool false,.nilsl]],9,true⟩),(2,⟨[vA7 (.mk LM n.split KD n.empty PF)],9,true⟩)] [] 3 zdd zsm trivial ?_ ?_
      ·exact⟨[1,2],[3,4,5],[],[(2,[vA7 (.mk LM n.split KD n.empty PF)])],⟨⟨⟨_,rfl⟩,⟨_,rfl⟩,⟨_,rfl⟩,trivial⟩,trivial,⟨⟨_,6,[4,5,3],rfl,zAD (ks:=[4,5,3]) (ls:=[]) (vWB rfl rfl rfl hkl.symm) rfl,rfl⟩,trivial⟩⟩,⟨apx,apx,trivial⟩,
        ⟨bbx,bbx,bbx,trivial⟩,by simp[ren]⟩
      refine sns ?_
      ·exact zK1 rfl rfl rfl rfl rfl (fun e he=>by simp at he; subst he; rfl)
def vD5(n:NodeL):NodeL:=if n.valid=true then vJ0 n 0 [] else zeroN
theorem vP9:FO 13 Tryz.f13 [.cell 2 32] 12:=mkO Tryz.func13 Tryz.ntmps13 Tryz.results13
theorem vV8(n:NodeL)(hs:n.Sm)(hn:NodeRg n)(hw:n.wt≤536870912):FnM Tryz.prog G0 13 [vA7 n] (fun v s' _=>vFJ s'.h v (vA7 (vD5 n))) (start [vA7 n]) []:=by
 have cv:=zLC n hs;have hne:vDL (vCJ n 0)≠[]:=by rw[vJC]; simp
 unfold start;refine uIA vBD vP9 zsm ?_;refine zAV (zBR vBD hT (by kernel_rfl) ?_);refine sns ?_;refine vCY (vYG vBD hT (by kernel_rfl) ?_);refine sns ?_;refine zAA cv rfl ?_
 (refine gon ?_ ?_<;>intro h)
 ·refine vCY (zAV (zBR vBD hT (by kernel_rfl) ?_))
  refine sns ?_;refine vE4 [] [(1,.cptr (vA7 n) 0),(2,.ptr 1 0 0),(3,.ptr 0 0 0)] [(0,⟨[.nilsl],1,false⟩),(1,⟨[.agg [.nilsl,.int .i64 0,.int .i64 0,.bool false,.nilsl,.nilsl,.nilsl,.bool false,.nilsl]],9,true⟩)] [] 2 zdd zsm trivial ?_ ?_
  ·exact⟨[5,1],[0],[(1,.cptr (vA7 n) 0)],[],⟨⟨⟨_,rfl⟩,trivial⟩,⟨⟨6,[0],zD3 rfl,rfl⟩,trivial⟩,trivial⟩,⟨zAG rfl,apx,apx,trivial⟩,⟨bbx,bbx,trivial⟩,by simp[ren]⟩
  refine zAV (zCB (zGX hT 1 rfl ?_));refine sns ?_;refine zJL rfl rfl rfl rfl ?_;refine FnM.args (uLB (a:=vA7 n) (b:=.int .i64 0) (b':=.int .i64 0) (c:=.ptr 0 0 0) rfl) ?_;have hI:=uKD _ n 0 [] (fun _=>.any) (Nat.lt_succ_self _) hn zom zom (by simp; omega) (fun e he=>by cases he);rw[zG0,zGZ]at hI;have hN:=hI.mono (K':=fun pv s' μ'=>True∧nr 3 pv=true∧∃ k',k'≠0∧k'<s'.nx∧s'.h 0=some ⟨[.own k' 0 (vDL (vCJ n 0)).length],1,false⟩∧s'.h k'=some ⟨vDL (vCJ n 0),1,false⟩∧s'.z 0=false∧s'.z k'=false) (fun pv s' μ' ⟨k1,k2,k',k3,k4,k5,k6,k7,k8⟩=>⟨trivial,k2,k',k3,k4,by rw[k5]; simp,by rw[k6]; simp,k7,k8⟩)
  have hA:∀ a∈[vA7 n,.int .i64 0,.ptr 0 0 0],a=.ptr 0 0 0∨nr 3 a=true:=fun a ha=>by
   simp only[List.mem_cons,List.not_mem_nil,or_false]at ha;rcases ha with rfl | rfl | rfl
   ·exact Or.inr rfl
   ·exact Or.inr rfl
   ·exact Or.inl rfl
  refine(uIC (K0:=fun _ _=>True) (new:=vDL (vCJ n 0)) (t0:=fun _=>.any) hN hA zsm (fun e he=>(zCM e he).nr.1) hne rfl rfl).mono fun pv s' μ' hK=>?_
  obtain⟨-,rfl⟩:=hK;refine zDI (vE4 [] [(1,.cptr (vA7 n) 0),(2,.ptr 1 0 0),(3,.ptr 0 0 0)] [(0,vQ8 (vCJ n 0)),(1,⟨[.agg [.nilsl,.int .i64 0,.int .i64 0,.bool false,.nilsl,.nilsl,.nilsl,.bool false,.nilsl]],9,true⟩)] [] 2 zdd zsm trivial ?_ ?_)
  ·exact⟨[0,1],[3],[],[(0,[.imm (vDL (vCJ n 0))])],⟨⟨⟨_,rfl⟩,trivial⟩,trivial,⟨⟨_,6,[3],rfl,zAD (ks:=[3]) (ls:=[]) (zAJ (f:=uCQ) rfl rfl zsm (fun x=>rfl)) rfl,rfl⟩,trivial⟩⟩,⟨zAG rfl,apx,apx,trivial⟩,⟨bbx,bbx,trivial⟩,by simp[ren]⟩
  refine vRZ (μ2:=[]) zsm (vR2 vBD hT (by kernel_rfl) ?_);have cc:=uID (uKN _ n 0 [] [] (Nat.lt_succ_self _) hn zom zom ⟨zsm,fun r hr=>by cases hr⟩ (by simp; omega));rw[List.append_nil]at cc;refine sns ?_;refine zLB (r:=0) (ks:=[]) cc rfl rfl rfl rfl (fun e he=>by simp at he; subst he; rfl) (fun i=>by simp[vCS]) ?_;refine sns ?_;refine zAB rfl ?_;rw[show vD5 n=vJ0 n 0 [] from if_pos (by assumption)]
 ·refine zAB rfl ?_
  rw[show vD5 n=zeroN from if_neg (by simp_all)];rfl
theorem vWZ(n:NodeL)(hs:n.Sm)(hn:NodeRg n)(hw:n.wt≤536870912):Fn 13 [vA7 n] (.data (vA7 (vD5 n))) :=
 zPC (zPB (K:=fun v s=>gives s.h v (vA7 (vD5 n))) ((vV8 n hs hn hw).mono fun _ _ _ h=>by unfold vFJ at h; exact h))
end Go.PI.Tryz
