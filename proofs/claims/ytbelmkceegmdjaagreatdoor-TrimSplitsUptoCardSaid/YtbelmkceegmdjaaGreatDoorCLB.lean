/-
  Affine forms: Add, Sub, Scale, Eval.
-/
import Derived.Test.YtbelmkceegmdjaaGreatDoorCPD
import Derived.Test.YtbelmkceegmdjaaGreatDoorCIB
set_option linter.unusedVariables false
set_option linter.unusedSimpArgs false
set_option linter.unnecessarySimpa false
set_option maxHeartbeats 0
namespace Go.PI.Tryz
open Go.Proofs Go.PI
theorem vU8:FO 63 Tryz.f63 [.tmp 4] 56:=mkO Tryz.func63 Tryz.ntmps63 Tryz.results63
theorem zMK(f:AffL)(n:Int)(hf:okA 2147483596 f):Fn 63 [vBL f,.int .i64 n] (.data (.bool (vCK f n))):=by
 obtain⟨hc,ht,hl⟩:=hf;refine zAL vBD hT vU8 (by simp[vBL]) ?_;refine sts ?_
 refine zAP hT (fun(i:Nat)=>[(1,.int .i64 n),(2,.ptr 0 0 0),(8,.imm (f.terms.map vB6)),(9,.int .i64 f.terms.length),(10,.int .i64 i)]) (fun _=>[(0,⟨[vBL f],4,true⟩)]) [] 1
  (fun i=>i≤f.terms.length∧∀ j,j<i→okT f.terms n j) (fun i=>f.terms.length - i) 0 ⟨Nat.zero_le _,fun j h=>zom⟩ zdd zsm ?_ ?_
 ·exact⟨[0],[],[],[],ttt,⟨zAC rfl rfl,apx,zAE rfl rfl,zAC rfl zsm,zAC rfl rfl,trivial⟩,⟨bbx,trivial⟩,by simp[ren]⟩
 intro i ⟨i1,i2⟩;have hcv:=zGU f.const hc.1 (by have:=hc.2; omega) (by have:=hc.2; omega);by_cases hi:i<f.terms.length
 ·have hq:=vVK (f:=f) ⟨hc,ht,hl⟩ hi
  have cs:=zFW f.terms[i]!.coef hq.1 (by have:=hq.2; omega);have cv:=zGU f.terms[i]!.coef hq.1 (by have:=hq.2; omega) (by have:=hq.2; omega)
  (repeat' (first|refine stp ?_|with_reducible(refine brr ?_ ?_<;>intro h)));all_goals try(conv=>whnf)
  ·exact zAB rfl (congrArg PV.bool (zBP (i:=i) zom fun e=>by have:=e.1; omega))
  ·exact zAB rfl (congrArg PV.bool (zBP (i:=i) zom fun e=>by have:=e.2.1; omega))
  ·refine zA1 (j:=i - 1) zom zom ?_
   (refine gob ?_ ?_<;>intro h)
   ·exact zAB rfl (congrArg PV.bool (zBP (i:=i) zom fun e=>by have:=e.2.2.1 zom; omega))
   refine zAA cs rfl ?_
   (refine gob ?_ ?_<;>intro h)
   ·exact zAB rfl (congrArg PV.bool (zBP (i:=i) zom fun e=>e.2.2.2.1 (sgnQ_zero.1 h)))
   ·refine zAA cv rfl ?_
    (refine gob ?_ ?_<;>intro h)
    ·refine⟨i+1,⟨⟨zom,fun j hj=>?_⟩,by show f.terms.length - (i+1)<f.terms.length - i; omega⟩,[0],[],[],[],ttt,⟨zAC rfl rfl,apx,zAE rfl rfl,zAC rfl rfl,zAC rfl zom,trivial⟩,⟨bbx,trivial⟩,by simp[ren]⟩
     rcases Nat.lt_or_eq_of_le (Nat.le_of_lt_succ hj) with hj | rfl
     ·exact i2 j hj
     ·exact⟨zom,zom,fun h0=>by omega,fun e=>by have:=sgnQ_zero.2 e; omega,h⟩
    ·exact zAB rfl (congrArg PV.bool (zBP (i:=i) zom fun e=>h e.2.2.2.2))
  ·refine zAA cs rfl ?_
   (refine gob ?_ ?_<;>intro h)
   ·exact zAB rfl (congrArg PV.bool (zBP (i:=i) zom fun e=>e.2.2.2.1 (sgnQ_zero.1 h)))
   ·refine zAA cv rfl ?_
    (refine gob ?_ ?_<;>intro h)
    ·refine⟨i+1,⟨⟨zom,fun j hj=>?_⟩,by show f.terms.length - (i+1)<f.terms.length - i; omega⟩,[0],[],[],[],ttt,⟨zAC rfl rfl,apx,zAE rfl rfl,zAC rfl rfl,zAC rfl zom,trivial⟩,⟨bbx,trivial⟩,by simp[ren]⟩
     rcases Nat.lt_or_eq_of_le (Nat.le_of_lt_succ hj) with hj | rfl
     ·exact i2 j hj
     ·exact⟨zom,zom,fun h0=>by omega,fun e=>by have:=sgnQ_zero.2 e; omega,h⟩
    ·exact zAB rfl (congrArg PV.bool (zBP (i:=i) zom fun e=>h e.2.2.2.2))
  ·omega
 ·(repeat' (first|refine stp ?_|with_reducible(refine brr ?_ ?_<;>intro h)));all_goals try(conv=>whnf)
  all_goals try (exfalso; omega)
  refine zAA hcv rfl ?_;refine sts ?_;exact zAB rfl (congrArg PV.bool (zOC fun j hj=>i2 j zom))
def vZF(n:Nat)(c:Rat):PV:=.agg [.own 0 0 n,.bool (cr c).neg,vBJ (cr c).num,vBJ (cr c).den]
def uNJ(c:Rat):PV:=.agg [.nilsl,.bool (cr c).neg,vBJ (cr c).num,vBJ (cr c).den]
def vIL(O:List QT):Blk:=⟨O.map vHZ,4,true⟩
theorem vGR(O:List QT)(c:Rat):vI5 (vIL O) (vZF O.length c):=by
 refine Or.inl ⟨fun x hx=>?_,?_⟩
 ·simp only[vZF,vCC,List.mem_cons,List.not_mem_nil,or_false]at hx
  rcases hx with rfl | rfl | rfl | rfl
  ·left; simp[vIL]
  all_goals right; rfl
 ·simp[vZF,vCC,vIL]
theorem zA5(O:List QT):∀ e∈O.map vHZ,nr 3 e=true∧e≠.any:=zAO fun x=>⟨rfl,by simp[vHZ,vB6]⟩
theorem vVA:FO 160 Tryz.f160 [.cell 6 46] 20:=mkO Tryz.func160 Tryz.ntmps160 Tryz.results160
theorem zFD(O:List QT)(c:Rat)(v:Int)(q:Rat)(k:Nat)(hq:sz k q)(hk:k≤2147483596)(hO:O.length<2147483648):Fn 160 [vZF O.length c,.int .i64 v,vA5 (cr q)] (.own (some (vIL O)) (vZF (O++nzq v q).length c) (vIL (O++nzq v q))):=by
 have hl:=zBK hq;have cs:=zFW (cr q) (zBE q) zom;have cc:=zMJ (cr q) (zBE q) zom zom;rw[zBS]at cs cc;refine vJP vBD hT vVA zsm ?_;refine sts ?_;refine zAA cs rfl ?_
 (refine gob ?_ ?_<;>intro h)
 ·rw[zOQ fun e=>h (sgnQ_zero.2 e)]
  refine zAA cc rfl ?_;refine sts ?_;refine zBL ⟨rfl,by simp[vIL],by simp; omega⟩ ?_;refine sts ?_;refine zKW (r:=14) ?_ rfl ?_ rfl (fun e he=>(zA5 _ e he).1) (vGR _ c)
  ·simp[vZF,rk,rk1]
  ·simp[vIL,vHZ,vB6,tQ]
 ·rw[show q=0 from sgnQ_zero.1 h,zMA,List.append_nil]
  exact zKW (r:=0) rfl rfl rfl rfl (fun e he=>(zA5 _ e he).1) (vGR _ c)
theorem zFE(c:Rat)(v:Int)(q:Rat)(k:Nat)(hq:sz k q)(hk:k≤2147483596):Fn 160 [uNJ c,.int .i64 v,vA5 (cr q)] (.own none (vZF (nzq v q).length c) (vIL (nzq v q))):=by
 have hl:=zBK hq;have cs:=zFW (cr q) (zBE q) zom;have cc:=zMJ (cr q) (zBE q) zom zom;rw[zBS]at cs cc;refine vJQ vBD hT vVA zsm ?_;refine sts ?_;refine zAA cs rfl ?_
 (refine gob ?_ ?_<;>intro h)
 ·rw[zOQ fun e=>h (sgnQ_zero.2 e)]
  refine zAA cc rfl ?_;refine sts ?_;refine zKW (r:=14) ?_ rfl ?_ rfl (fun e he=>(zA5 _ e he).1) (vGR _ c)
  ·simp[vZF,rk,rk1]
  ·simp[vHZ,vB6,tQ]
 ·rw[show q=0 from sgnQ_zero.1 h,zMA]
  exact vNO rfl rfl (vGR [] c)
def grF:Bool→Nat→Rat→PV
 | true,n,c=>vZF n c
 | false,_,c=>uNJ c
def grH:Bool→List QT→List (Nat×Blk)
 | true,O=>[(0,vIL O)]
 | false,_=>[]
def vYA:PV:=.agg [.nilsl,.bool false,.nilsl,.nilsl]
theorem zBM(v:Int)(x:Rat):(nzq v x).length≤1:=by unfold nzq; split<;>simp
theorem zH5{h:Hp}{n:Nat}(x:QT):frz h (n+1) (vHZ x)=some (vHZ x,[]):=by cases n<;>rfl
theorem zDK(p:QT)(a:List QT):(((p::a).length:Nat):Int) > 0:=by rw[List.length_cons]; omega
theorem vVB:FO 133 Tryz.f133 [.cell 6 46] 113:=mkO Tryz.func133 Tryz.ntmps133 Tryz.results133
set_option maxHeartbeats 1000000 in
theorem vO6(f g:QF)(c:Rat)(kf kg kc:Nat)(hf:∀ p∈f.ts,sz kf p.2)(hg:∀ p∈g.ts,sz kg p.2)(hfc:sz kf f.c)(hgc:sz kg g.c)(hc:sz kc c)(hk:kf+kg+kc≤950000000)(hl1:f.ts.length≤1048576)(hl2:g.ts.length≤1048576) :
 Fn 133 [vBN f,vBN g,vA5 (cr c)] (.data (vBN (vB2 f g c))):=by
 have q1:=zBK hfc;have q2:=zBK hgc;have q3:=zBK hc;have m0:=zFI hgc hc;have q4:=zBK m0;have cm:=zNX (cr g.c) (cr c) (zBE _) (zBE _) zom zom zom zom;rw[zBS,zBS]at cm;have ca:=vO2 (cr f.c) (cr (g.c * c)) (zBE _) (zBE _) zom zom zom zom;rw[zBS,zBS]at ca;refine zAL vBD hT vVB (by simp[vBN]) ?_;refine sts ?_;refine zAA cm rfl ?_;refine sts ?_;refine zAA ca rfl ?_;refine sts ?_;obtain⟨C,hC⟩:∃ C,f.c+g.c * c=C:=⟨_,rfl⟩;obtain⟨M,hM⟩:∃ M,mrg c f.ts g.ts=M:=⟨_,rfl⟩;unfold vB2;rw[hM];simp only[hC];clear ca cm
 refine zAP hT (fun((a,b,O,s):List QT×List QT×List QT×Bool)=>[(5,.ptr 1 0 0),(6,.ptr 2 0 0),(7,.ptr 3 0 0),(8,.imm (a.map vHZ)),(9,.imm (b.map vHZ))])
  (fun(a,b,O,s)=>(1,⟨[vA5 (cr c)],3,true⟩)::(2,⟨[vYA],4,true⟩)::(3,⟨[grF s O.length C],4,true⟩)::grH s O) [] 4
  (fun(a,b,O,s)=>(s=false→O=[])∧O++mrg c a b=M∧(∀ p∈a,sz kf p.2)∧(∀ p∈b,sz kg p.2)∧a.length+b.length+O.length≤2147483648)
  (fun(a,b,_,_)=>a.length+b.length) (f.ts,g.ts,[],false) ⟨fun _=>rfl,hM,hf,hg,by simp; omega⟩ zdd zsm ?_ ?_
 ·exact⟨[0,2,3,12],[],[],[],ttt,⟨apx,apx,apx,zAE rfl rfl,zAE rfl rfl,trivial⟩,
   ⟨bbx,bbx,bbx,trivial⟩,by simp[ren,grH]⟩
 intro⟨a,b,O,s⟩ ⟨i1,i2,i3,i4,i5⟩;rcases a with _ | ⟨p,a⟩<;>rcases b with _ | ⟨q,b⟩<;>cases s
 ·refine sts ?_
  rw[mrg,List.append_nil]at i2;have hO:=i1 rfl;subst hO;subst i2;exact zAB rfl rfl
 ·refine sts ?_
  rw[mrg,List.append_nil]at i2;subst i2;exact zAB (zCA (zAD (zAJ rfl rfl rfl (fun x=>zH5 x)) rfl)) rfl
 ·(refine gob ?_ ?_<;>intro h)
  ·have hq:=i4 q zsm
   have hqc:=zFI hq hc;have l1:=zBK hq;have cm:=zNX (cr q.2) (cr c) (zBE _) (zBE _) zom zom zom zom;rw[zBS,zBS]at cm;refine zAA cm rfl ?_;refine sts ?_;refine zB6 (zFE C q.1 (q.2 * c) _ hqc zom) rfl ?_;refine sts ?_;refine zCT (l':=b) zsm ?_;refine sts ?_;have nl:=zBM q.1 (q.2 * c)
   exact⟨([],b,nzq q.1 (q.2 * c),true),⟨⟨zsm,by rw[mrg]at i2; rw[i1 rfl,List.nil_append]at i2; exact i2,fun r hr=>i3 r (by simp_all),fun r hr=>i4 r (by simp_all),by simp at i5 ⊢; omega⟩,by simp; try omega⟩,[_,_,_,_],[],[],[],ttt,⟨(apy rfl),(apy rfl),(apy rfl),zAE rfl rfl,zAE rfl rfl,trivial⟩,
    ⟨bbx,bbx,zAH zdd rfl ⟨⟨zdd,rfl⟩,rfl,rfl,rfl,trivial⟩ rfl rfl,zAF zdd rfl rfl (zA5 _) rfl,trivial⟩,by simp[ren,grH]⟩
  ·exact absurd h zsm
 ·(refine gob ?_ ?_<;>intro h)
  ·have hq:=i4 q zsm
   have hqc:=zFI hq hc;have l1:=zBK hq;have cm:=zNX (cr q.2) (cr c) (zBE _) (zBE _) zom zom zom zom;rw[zBS,zBS]at cm;refine zAA cm rfl ?_;refine sts ?_;refine zBQ (r:=0) (zFD O C q.1 (q.2 * c) _ hqc zom zom) rfl rfl rfl rfl (zFL (zA5 O)) ?_;refine sts ?_;refine zCT (l':=b) zsm ?_;refine sts ?_;have nl:=zBM q.1 (q.2 * c)
   exact⟨([],b,O++nzq q.1 (q.2 * c),true),⟨⟨zsm,by rw[mrg]at i2; rw[List.append_assoc]; exact i2,fun r hr=>i3 r (by simp_all),fun r hr=>i4 r (by simp_all),by simp at i5 ⊢; omega⟩,by simp; try omega⟩,[_,_,_,_],[],[],[],ttt,⟨(apy rfl),(apy rfl),(apy rfl),zAE rfl rfl,zAE rfl rfl,trivial⟩,
    ⟨bbx,bbx,zAH zdd rfl ⟨⟨zdd,rfl⟩,rfl,rfl,rfl,trivial⟩ rfl rfl,zAF zdd rfl rfl (zA5 _) rfl,trivial⟩,by simp[ren,grH]⟩
  ·exact absurd h zsm
 ·(refine gob ?_ ?_<;>intro h)
  ·have hp:=i3 p zsm
   refine zB6 (zFE C p.1 p.2 _ hp zom) rfl ?_;refine sts ?_;refine zCT (l':=a) zsm ?_;refine sts ?_;have nl:=zBM p.1 p.2
   exact⟨(a,[],nzq p.1 p.2,true),⟨⟨zsm,by rw[mrg]at i2; rw[i1 rfl,List.nil_append]at i2; exact i2,fun r hr=>i3 r (by simp_all),fun r hr=>i4 r (by simp_all),by simp at i5 ⊢; omega⟩,by simp; try omega⟩,[_,_,_,_],[],[],[],ttt,⟨(apy rfl),(apy rfl),(apy rfl),zAE rfl rfl,zAE rfl rfl,trivial⟩,
    ⟨bbx,bbx,zAH zdd rfl ⟨⟨zdd,rfl⟩,rfl,rfl,rfl,trivial⟩ rfl rfl,zAF zdd rfl rfl (zA5 _) rfl,trivial⟩,by simp[ren,grH]⟩
  all_goals first | contradiction | exact absurd (zDK _ _) h | exact absurd (zDK p a) (by assumption) | exact absurd (zDK q b) (by assumption)
 ·(refine gob ?_ ?_<;>intro h)
  ·have hp:=i3 p zsm
   refine zBQ (r:=0) (zFD O C p.1 p.2 _ hp zom zom) rfl rfl rfl rfl (zFL (zA5 O)) ?_;refine sts ?_;refine zCT (l':=a) zsm ?_;refine sts ?_;have nl:=zBM p.1 p.2
   exact⟨(a,[],O++nzq p.1 p.2,true),⟨⟨zsm,by rw[mrg]at i2; rw[List.append_assoc]; exact i2,fun r hr=>i3 r (by simp_all),fun r hr=>i4 r (by simp_all),by simp at i5 ⊢; omega⟩,by simp; try omega⟩,[_,_,_,_],[],[],[],ttt,⟨(apy rfl),(apy rfl),(apy rfl),zAE rfl rfl,zAE rfl rfl,trivial⟩,
    ⟨bbx,bbx,zAH zdd rfl ⟨⟨zdd,rfl⟩,rfl,rfl,rfl,trivial⟩ rfl rfl,zAF zdd rfl rfl (zA5 _) rfl,trivial⟩,by simp[ren,grH]⟩
  all_goals first | contradiction | exact absurd (zDK _ _) h | exact absurd (zDK p a) (by assumption) | exact absurd (zDK q b) (by assumption)
 ·(repeat' (first|refine stp ?_|with_reducible(refine brr ?_ ?_<;>intro h)));all_goals try(conv=>whnf)
  ·have hp:=i3 p zsm
   refine zB6 (zFE C p.1 p.2 _ hp zom) rfl ?_;refine sts ?_;refine zCT (l':=a) zsm ?_;refine sts ?_;have nl:=zBM p.1 p.2
   exact⟨(a,q::b,nzq p.1 p.2,true),⟨⟨zsm,by rw[mrg,if_pos (show p.1<q.1 from h)]at i2; rw[i1 rfl,List.nil_append]at i2; exact i2,fun r hr=>i3 r (by simp_all),fun r hr=>i4 r (by simp_all),by simp at i5 ⊢; omega⟩,by simp; try omega⟩,[_,_,_,_],[],[],[],ttt,⟨(apy rfl),(apy rfl),(apy rfl),zAE rfl rfl,zAE rfl rfl,trivial⟩,
    ⟨bbx,bbx,zAH zdd rfl ⟨⟨zdd,rfl⟩,rfl,rfl,rfl,trivial⟩ rfl rfl,zAF zdd rfl rfl (zA5 _) rfl,trivial⟩,by simp[ren,grH]⟩
  ·have hq:=i4 q zsm
   have hqc:=zFI hq hc;have l1:=zBK hq;have cm:=zNX (cr q.2) (cr c) (zBE _) (zBE _) zom zom zom zom;rw[zBS,zBS]at cm;refine zAA cm rfl ?_;refine sts ?_;refine zB6 (zFE C q.1 (q.2 * c) _ hqc zom) rfl ?_;refine sts ?_;refine zCT (l':=b) zsm ?_;refine sts ?_;have nl:=zBM q.1 (q.2 * c)
   exact⟨(p::a,b,nzq q.1 (q.2 * c),true),⟨⟨zsm,by rw[mrg,if_neg (show ¬ p.1<q.1 from ‹¬ (tQ p).var<(tQ q).var›),if_pos (show q.1<p.1 from h)]at i2; rw[i1 rfl,List.nil_append]at i2; exact i2,fun r hr=>i3 r (by simp_all),fun r hr=>i4 r (by simp_all),by simp at i5 ⊢; omega⟩,by simp; try omega⟩,[_,_,_,_],[],[],[],ttt,⟨(apy rfl),(apy rfl),(apy rfl),zAE rfl rfl,zAE rfl rfl,trivial⟩,
    ⟨bbx,bbx,zAH zdd rfl ⟨⟨zdd,rfl⟩,rfl,rfl,rfl,trivial⟩ rfl rfl,zAF zdd rfl rfl (zA5 _) rfl,trivial⟩,by simp[ren,grH]⟩
  ·have hq:=i4 q zsm
   have hqc:=zFI hq hc;have l1:=zBK hq;have cm:=zNX (cr q.2) (cr c) (zBE _) (zBE _) zom zom zom zom;rw[zBS,zBS]at cm;have hp:=i3 p zsm;have hpq:=zGW hp hqc;have l2:=zBK hp;have l3:=zBK hqc;have ca:=vO2 (cr p.2) (cr (q.2 * c)) (zBE _) (zBE _) zom zom zom zom;rw[zBS,zBS]at ca;refine zAA cm rfl ?_;refine sts ?_;refine zAA ca rfl ?_;refine sts ?_;refine zB6 (zFE C p.1 (p.2+q.2 * c) _ hpq zom) rfl ?_;refine sts ?_;refine zCT (l':=a) zsm ?_;refine sts ?_;refine zCT (l':=b) zsm ?_;refine sts ?_;have nl:=zBM p.1 (p.2+q.2 * c)
   exact⟨(a,b,nzq p.1 (p.2+q.2 * c),true),⟨⟨zsm,by rw[mrg,if_neg (show ¬ p.1<q.1 from ‹¬ (tQ p).var<(tQ q).var›),if_neg (show ¬ q.1<p.1 from h)]at i2; rw[i1 rfl,List.nil_append]at i2; exact i2,fun r hr=>i3 r (by simp_all),fun r hr=>i4 r (by simp_all),by simp at i5 ⊢; omega⟩,by simp; try omega⟩,[_,_,_,_],[],[],[],ttt,⟨(apy rfl),(apy rfl),(apy rfl),zAE rfl rfl,zAE rfl rfl,trivial⟩,
    ⟨bbx,bbx,zAH zdd rfl ⟨⟨zdd,rfl⟩,rfl,rfl,rfl,trivial⟩ rfl rfl,zAF zdd rfl rfl (zA5 _) rfl,trivial⟩,by simp[ren,grH]⟩
  all_goals first | contradiction | exact absurd (zDK _ _) h | exact absurd (zDK p a) (by assumption) | exact absurd (zDK q b) (by assumption)
 ·(repeat' (first|refine stp ?_|with_reducible(refine brr ?_ ?_<;>intro h)));all_goals try(conv=>whnf)
  ·have hp:=i3 p zsm
   refine zBQ (r:=0) (zFD O C p.1 p.2 _ hp zom zom) rfl rfl rfl rfl (zFL (zA5 O)) ?_;refine sts ?_;refine zCT (l':=a) zsm ?_;refine sts ?_;have nl:=zBM p.1 p.2
   exact⟨(a,q::b,O++nzq p.1 p.2,true),⟨⟨zsm,by rw[mrg,if_pos (show p.1<q.1 from h)]at i2; rw[List.append_assoc]; exact i2,fun r hr=>i3 r (by simp_all),fun r hr=>i4 r (by simp_all),by simp at i5 ⊢; omega⟩,by simp; try omega⟩,[_,_,_,_],[],[],[],ttt,⟨(apy rfl),(apy rfl),(apy rfl),zAE rfl rfl,zAE rfl rfl,trivial⟩,
    ⟨bbx,bbx,zAH zdd rfl ⟨⟨zdd,rfl⟩,rfl,rfl,rfl,trivial⟩ rfl rfl,zAF zdd rfl rfl (zA5 _) rfl,trivial⟩,by simp[ren,grH]⟩
  ·have hq:=i4 q zsm
   have hqc:=zFI hq hc;have l1:=zBK hq;have cm:=zNX (cr q.2) (cr c) (zBE _) (zBE _) zom zom zom zom;rw[zBS,zBS]at cm;refine zAA cm rfl ?_;refine sts ?_;refine zBQ (r:=0) (zFD O C q.1 (q.2 * c) _ hqc zom zom) rfl rfl rfl rfl (zFL (zA5 O)) ?_;refine sts ?_;refine zCT (l':=b) zsm ?_;refine sts ?_;have nl:=zBM q.1 (q.2 * c)
   exact⟨(p::a,b,O++nzq q.1 (q.2 * c),true),⟨⟨zsm,by rw[mrg,if_neg (show ¬ p.1<q.1 from ‹¬ (tQ p).var<(tQ q).var›),if_pos (show q.1<p.1 from h)]at i2; rw[List.append_assoc]; exact i2,fun r hr=>i3 r (by simp_all),fun r hr=>i4 r (by simp_all),by simp at i5 ⊢; omega⟩,by simp; try omega⟩,[_,_,_,_],[],[],[],ttt,⟨(apy rfl),(apy rfl),(apy rfl),zAE rfl rfl,zAE rfl rfl,trivial⟩,
    ⟨bbx,bbx,zAH zdd rfl ⟨⟨zdd,rfl⟩,rfl,rfl,rfl,trivial⟩ rfl rfl,zAF zdd rfl rfl (zA5 _) rfl,trivial⟩,by simp[ren,grH]⟩
  ·have hq:=i4 q zsm
   have hqc:=zFI hq hc;have l1:=zBK hq;have cm:=zNX (cr q.2) (cr c) (zBE _) (zBE _) zom zom zom zom;rw[zBS,zBS]at cm;have hp:=i3 p zsm;have hpq:=zGW hp hqc;have l2:=zBK hp;have l3:=zBK hqc;have ca:=vO2 (cr p.2) (cr (q.2 * c)) (zBE _) (zBE _) zom zom zom zom;rw[zBS,zBS]at ca;refine zAA cm rfl ?_;refine sts ?_;refine zAA ca rfl ?_;refine sts ?_;refine zBQ (r:=0) (zFD O C p.1 (p.2+q.2 * c) _ hpq zom zom) rfl rfl rfl rfl (zFL (zA5 O)) ?_;refine sts ?_;refine zCT (l':=a) zsm ?_;refine sts ?_;refine zCT (l':=b) zsm ?_;refine sts ?_;have nl:=zBM p.1 (p.2+q.2 * c)
   exact⟨(a,b,O++nzq p.1 (p.2+q.2 * c),true),⟨⟨zsm,by rw[mrg,if_neg (show ¬ p.1<q.1 from ‹¬ (tQ p).var<(tQ q).var›),if_neg (show ¬ q.1<p.1 from h)]at i2; rw[List.append_assoc]; exact i2,fun r hr=>i3 r (by simp_all),fun r hr=>i4 r (by simp_all),by simp at i5 ⊢; omega⟩,by simp; try omega⟩,[_,_,_,_],[],[],[],ttt,⟨(apy rfl),(apy rfl),(apy rfl),zAE rfl rfl,zAE rfl rfl,trivial⟩,
    ⟨bbx,bbx,zAH zdd rfl ⟨⟨zdd,rfl⟩,rfl,rfl,rfl,trivial⟩ rfl rfl,zAF zdd rfl rfl (zA5 _) rfl,trivial⟩,by simp[ren,grH]⟩
  all_goals first | contradiction | exact absurd (zDK _ _) h | exact absurd (zDK p a) (by assumption) | exact absurd (zDK q b) (by assumption)
theorem uFZ:FO 99 Tryz.f99 [.cell 4 46] 9:=mkO Tryz.func99 Tryz.ntmps99 Tryz.results99
theorem zGY(f g:QF)(kf kg:Nat)(hf:szF kf f)(hg:szF kg g)(hk:kf+kg≤949999990)(hl1:f.ts.length≤1048576)(hl2:g.ts.length≤1048576):Fn 99 [vBN f,vBN g] (.data (vBN (vB2 f g (-1)))):=by
 have cm:=vO6 f g ((-1:Int):Rat) kf kg 1 hf.2 hg.2 hf.1 hg.1 (zE1 zdd) zom hl1 hl2;have co:=uHW (-1) zdd;rw[show((-1:Int):Rat)=-1 by rfl]at cm co;refine zAL vBD hT uFZ (by simp[vBN]) ?_;refine sts ?_;refine zAA co rfl ?_;refine sts ?_;refine zAA cm rfl ?_;refine sts ?_;exact zAB rfl rfl
theorem vU9:FO 135 Tryz.f135 [.cell 4 46] 9:=mkO Tryz.func135 Tryz.ntmps135 Tryz.results135
theorem zKF(f:QF)(c:Rat)(kf kc:Nat)(hf:szF kf f)(hc:sz kc c)(hk:kf+kc≤949999990)(hl1:f.ts.length≤1048576):Fn 135 [vBN f,vA5 (cr c)] (.data (vBN (vB2 zeroQ f c))):=by
 have cm:=vO6 zeroQ f c 1 kf kc (zEA 1 zdd).2 hf.2 (zEA 1 zdd).1 hf.1 hc zom (by simp[zeroQ]) hl1;rw[zA4]at cm;refine zAL vBD hT vU9 (by simp[vBN]) ?_;refine sts ?_;refine zAA cm rfl ?_;refine sts ?_;exact zAB rfl rfl
end Go.PI.Tryz
