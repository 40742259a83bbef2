/-
  Trees that were read: their walk stays in bounds.
-/
import Derived.Test.YtbelmkceegmdjaaGreatDoorCPD
import Derived.Test.YtbelmkceegmdjaaGreatDoorCSA
import Derived.Test.YtbelmkceegmdjaaGreatDoorCTR
import Derived.Test.YtbelmkceegmdjaaGreatDoorCKA
import Derived.Test.YtbelmkceegmdjaaGreatDoorCPE
set_option linter.unusedVariables false
set_option linter.unusedSimpArgs false
set_option linter.unnecessarySimpa false
set_option maxHeartbeats 0
namespace Go.PI.Tryz
open Go.Proofs Go.PI
theorem vQJ:FO 192 Tryz.f192 [.tmp 4] 43:=mkO Tryz.func192 Tryz.ntmps192 Tryz.results192
theorem vXA(a b:RowL):Fn 192 [vBG a,vBG b] (.data (.bool (dB (vET a b)))):=by
 refine zAL vBD hT vQJ (by simp[vBG]) ?_
 (repeat' (first|refine stp ?_|with_reducible(refine brr ?_ ?_<;>intro h)));all_goals try(conv=>whnf)
 all_goals (refine zAB rfl (congrArg PV.bool ?_); rw[Bool.eq_iff_iff,dB_true,decide_eq_true_eq]; unfold vET; omega)
def vQ9(l:List MultL)(k:Nat):Prop:=vEO l[k]!.coef∧0<qv l[k]!.coef∧(0<k→vET l[k - 1]!.row l[k]!.row)
def uIM(l:List MultL):Prop:=∀ k,k<l.length→vQ9 l k
theorem vUW:FO 176 Tryz.f176 [.tmp 2] 45:=mkO Tryz.func176 Tryz.ntmps176 Tryz.results176
theorem uB4(l:List MultL)(hl:szM l):Fn 176 [.imm (l.map vBC)] (.data (.bool (dB (uIM l)))):=by
 have l1:=hl.1;refine zAL vBD hT vUW zsm ?_;refine sts ?_
 refine zAP hT (fun(i:Nat)=>[(0,.imm (l.map vBC)),(3,.int .i64 i)]) (fun _=>[]) [] 0
  (fun i=>i≤l.length∧∀ k,k<i→vQ9 l k) (fun i=>l.length - i) 0 ⟨Nat.zero_le _,fun k h=>by omega⟩ zdd zsm ?_ ?_
 ·exact⟨[],[],[],[],ttt,⟨zAE rfl rfl,zAC rfl rfl,trivial⟩,trivial,by simp[ren]⟩
 intro i ⟨i1,i2⟩;by_cases hi:i<l.length
 ·have hm:=hl.2 _ (get_mem hi)
  have hm2:=hm.2;have hno:¬ vQ9 l i→false=dB (uIM l):=fun h=>zGG fun e=>h (e i hi)
  have cva:=zGI l[i]!.coef hm.1 zom zom;have csg:=zEV l[i]!.coef hm.1 zom;have cle:=vXA l[i - 1]!.row l[i]!.row;have nxt:vQ9 l i→∀ k,k<i+1→vQ9 l k:=fun h k hk=>zA2 (p:=vQ9 l) i2 h hk
  (refine gob ?_ ?_<;>intro h)
  all_goals try (exfalso; omega)
  refine zAA cva rfl ?_
  (refine gob ?_ ?_<;>intro h)
  rotate_left
  ·exact zAB rfl (congrArg PV.bool (hno fun e=>by have:=e.1; contradiction))
  have hcan:vEO l[i]!.coef:=by assumption
  refine zAA csg rfl ?_
  (repeat' (first|refine stp ?_|with_reducible(refine brr ?_ ?_<;>intro h)));all_goals try(conv=>whnf)
  ·exact zAB rfl (congrArg PV.bool (hno fun e=>by have:=sgnQ_pos.2 e.2.1; omega))
  ·have hpos:0<qv l[i]!.coef:=sgnQ_pos.1 zom
   refine zA1 (j:=i - 1) zom zom ?_;refine sts ?_;refine zAA cle rfl ?_
   (refine gob ?_ ?_<;>intro h)
   ·have hless:vET l[i - 1]!.row l[i]!.row:=dB_true.1 (by assumption)
    exact⟨i+1,⟨⟨zom,nxt ⟨hcan,hpos,fun _=>hless⟩⟩,by show l.length - (i+1)<l.length - i; omega⟩,[],[],[],[],ttt,⟨zAE rfl rfl,zAC rfl rfl,trivial⟩,trivial,by simp[ren]⟩
   ·exact zAB rfl (congrArg PV.bool (hno fun e=>dB_false.1 (by assumption) (e.2.2 zom)))
  ·have hpos:0<qv l[i]!.coef:=sgnQ_pos.1 zom
   exact⟨i+1,⟨⟨zom,nxt ⟨hcan,hpos,fun _=>by omega⟩⟩,by show l.length - (i+1)<l.length - i; omega⟩,[],[],[],[],ttt,⟨zAE rfl rfl,zAC rfl rfl,trivial⟩,trivial,by simp[ren]⟩
 ·(refine gob ?_ ?_<;>intro h)
  all_goals try (exfalso; omega)
  exact zAB rfl (congrArg PV.bool (dB_true.2 fun k hk=>i2 k zom).symm)
def avP(S:ScpL)(l:List MultL)(i:Nat):Prop:=∀ k,k<i→(vDR S l[k]!.row).isSome=true
open Classical in
noncomputable def vEP(S:ScpL)(l:List MultL):QF×Int:=if uIM l then(if avP S l l.length then(vFW S l l.length,0) else(zeroQ,12)) else(zeroQ,1)
theorem okM_iff{S:ScpL}{l:List MultL}:okM S l l.length↔uIM l∧avP S l l.length :=
 ⟨fun h=>⟨fun k hk=>⟨(h k hk).1,(h k hk).2.1,(h k hk).2.2.1⟩,fun k hk=>(h k hk).2.2.2⟩,fun h k hk=>⟨(h.1 k hk).1,(h.1 k hk).2.1,(h.1 k hk).2.2,h.2 k hk⟩⟩
theorem vSF{S:ScpL}{P V:Nat}(hS:vB0 S)(hz:szS S P V){l:List MultL}(hl:szM l):∀ {i:Nat},i≤l.length→avP S l i→szF (1+i * (P+2 * V+18)+vEC (l.take i)) (vFW S l i)
 | 0,_,_=>by
   show szF _ zeroQ
   exact zG5 zom (zEA 1 zdd)
 | i+1,hi,hk=>by
   have ih:=vSF hS hz hl (i:=i) zom fun k h=>hk k zom
   obtain⟨g,hg⟩:=Option.isSome_iff_exists.1 (hk i zom);have hr:=vIK hS hz hg;have e:rw' S l[i]! = g:=by unfold rw'; rw[hg]; rfl
   have hc:sz (vEG l[i]!.coef+1) (qv l[i]!.coef):=zF6 (zCX (Nat.le_succ _) (zKZ (hl.2 _ (get_mem zom)))) zom;obtain⟨R,hR⟩:∃ R,P+2 * V+18=R:=⟨_,rfl⟩;rw[hR]at ih ⊢;have hr2:szF (R - 4) g:=zG5 zom hr;rw[zG6 zom,e];refine zJU ih hr2 hc ?_;rw[zG8 zom,Nat.succ_mul];generalize i * R=X;omega
theorem zF5{S:ScpL}(hS:vB0 S)(hn:vCZ S≤16){f:QF}(h:okF (vCZ S) f):f.ts.length≤16:=by
 have hi:=hS.1.1.1.1;obtain⟨n,hn2⟩:∃ n:Nat,vCZ S=n:=⟨(vCZ S).toNat,by unfold vCZ at *; omega⟩;rw[hn2]at h;have:=vKS n h.1.1 h.2;omega
theorem uH5{f g:QF}{c:Rat}(hf:Srt f.ts)(hg:Srt g.ts):vB2 f (vC0 g c) 1=vB2 f g c:=by
 have h0:=zBC (c:=c) zCW hg;refine zM1 (zBC hf h0) (zBC hf hg) (fun v=>?_) ?_
 ·unfold vC0
  rw[zB2 hf h0,zB2 zCW hg,zB2 hf hg,zIX]; grind
 ·simp only[vC0,zHO,zeroQ]; grind
theorem vUT:FO 149 Tryz.f149 [.cell 4 46,.tmp 5] 43:=mkO Tryz.func149 Tryz.ntmps149 Tryz.results149
theorem vOX(S:ScpL)(l:List MultL)(P V:Nat)(hS:vB0 S)(hz:szS S P V)(hq:szQ S.q P)(hB2:P+2 * V≤20000000)(hn:vCZ S≤16)(hl:szM l)(hsz:1+l.length * (P+2 * V+18)+vEC l+18 * (P+2 * V+40+vEC l)≤940000000):Fn 149 [vBB S,.imm (l.map vBC)] (.data (.tup [vBN (vEP S l).1,.int .i64 (vEP S l).2])):=by
 have l1:=hl.1;have cca:=uB4 l hl;refine zAL vBD hT vUT (by simp[vBB]) ?_;refine sts ?_;refine zAA cca rfl ?_
 (refine gob ?_ ?_<;>intro h)
 rotate_left
 ·have hc:¬ uIM l:=dB_false.1 (by assumption)
  have e:vEP S l=(zeroQ,1):=if_neg hc;exact zAB rfl (by rw[e,← zA4])
 have hc:uIM l:=dB_true.1 (by assumption)
 refine zAP hT (fun(i:Nat)=>[(1,.imm (l.map vBC)),(2,.ptr 0 0 0),(4,.ptr 1 0 0),(6,.ptr 2 0 0),(7,.int .i64 i)])
  (fun i=>[(0,⟨[vBB S],12,true⟩),(1,⟨[.agg [.nilsl,.bool false,.nilsl,.nilsl]],4,true⟩),(2,⟨[vBN (vFW S l i)],4,true⟩)]) [] 3
  (fun i=>i≤l.length∧avP S l i) (fun i=>l.length - i) 0 ⟨Nat.zero_le _,fun k h=>by omega⟩ zdd zsm ?_ ?_
 ·exact⟨[0,1,6],[],[],[(6,[.agg [.imm [],.bool false,.imm [],.imm []]])],⟨trivial,trivial,⟨⟨_,4,_,rfl,rfl,rfl⟩,trivial⟩⟩,⟨zAE rfl rfl,apx,apx,apx,zAC rfl rfl,trivial⟩,⟨bbx,bbx,zEQ zdd rfl encF_zero'.symm rfl rfl rfl,trivial⟩,by simp[ren]⟩
 rintro i ⟨i1,i2⟩
 by_cases hi:i<l.length
 ·have hm:=hl.2 _ (get_mem hi)
  have hm2:=hm.2;have cf:=vXC S l[i]!.row P V hS hz hq hB2 hn
  (refine gob ?_ ?_<;>intro h)
  all_goals try (exfalso; omega)
  refine zAA cf rfl ?_
  (refine gob ?_ ?_<;>intro h)
  ·obtain⟨g,hg⟩:=Option.isSome_iff_exists.1 (show(vDR S l[i]!.row).isSome=true by assumption)
   have e1:rw' S l[i]! = g:=by unfold rw'; rw[hg]; rfl
   have e2:(vDR S l[i]!.row).getD zeroQ=g:=e1;rw[e2];have hcan:=(hc i hi).1;have hgo:okF (vCZ S) g:=vNA hS hg;have hg2:=vIK hS hz hg;have hgl:=zF5 hS hn hgo;have z0:=vSF hS hz hl (i:=i) zom i2;have hfo:=zG7 hS (l:=l) (i:=i) zom;have hfl:=zF5 hS hn hfo;have hsi:=zG8 (l:=l) hi;have hsj:=vKR l (i+1);have hmul:(i+1) * (P+2 * V+18)≤l.length * (P+2 * V+18):=Nat.mul_le_mul_right _ hi;rw[Nat.succ_mul]at hmul;have zc:sz (vEG l[i]!.coef+1) (qv l[i]!.coef):=zF6 (zCX (Nat.le_succ _) (zKZ hm)) zom;have q1:=zFC g (qv l[i]!.coef) _ _ hg2 zc hgo.1 zom zom;rw[← hcan]at q1;have z2:szF (P+2 * V+17+vEG l[i]!.coef) (vC0 g (qv l[i]!.coef)):=zF3 hg2 zc zom;have hsl:=zIP (f:=g) (c:=qv l[i]!.coef);have hm17:((vC0 g (qv l[i]!.coef)).ts.length+1) * (P+2 * V+17+vEG l[i]!.coef+1)≤17 * (P+2 * V+17+vEG l[i]!.coef+1):=Nat.mul_le_mul_right _ zom;have q2:=uHV (vFW S l i) (vC0 g (qv l[i]!.coef)) _ _ z0 z2 hfo.1 (zBC zCW hgo.1) zom zom;have e3:vB2 (vFW S l i) (vC0 g (qv l[i]!.coef)) 1=vFW S l (i+1):=by rw[zG6 hi,e1]; exact uH5 hfo.1 hgo.1
   rw[e3]at q2;refine zAA q1 rfl ?_;refine sts ?_;refine zAA q2 rfl ?_;refine sts ?_;exact⟨i+1,⟨⟨zom,fun k hk=>zA2 (p:=fun k=>(vDR S l[k]!.row).isSome=true) i2 (by assumption) hk⟩,by show l.length - (i+1)<l.length - i; omega⟩,[0,1,2],[],[],[],ttt,⟨zAE rfl rfl,apx,apx,apx,zAC rfl rfl,trivial⟩,⟨bbx,bbx,bbx,trivial⟩,by simp[ren]⟩
  ·have e:vEP S l=(zeroQ,12):=by
    unfold vEP;rw[if_pos hc,if_neg (fun q=>by have:=q i hi; rw[show(vDR S l[i]!.row).isSome=false by assumption]at this; cases this)]
   exact zAB rfl (by rw[e,← zA4])
 ·obtain rfl:i=l.length:=by omega
  have e:vEP S l=(vFW S l l.length,0):=by unfold vEP; rw[if_pos hc,if_pos i2]
  (refine gob ?_ ?_<;>intro h)
  all_goals try (exfalso; omega)
  exact zAB rfl (by rw[e]; rfl)
theorem vY2{S:ScpL}(hS:vB0 S){l:List MultL}:(vEQ S zeroQ l l.length).ts=[]↔(vFW S l l.length).ts=[]:=by
 have hs:=(zG7 hS (l:=l) (i:=l.length) (Nat.le_refl _)).1;rw[vGE hS (zFH _) l.length (Nat.le_refl _)];have hm:Srt (vB8 zeroQ (vFW S l l.length)).ts:=zBC zCW hs;constructor
 ·intro h
  refine zMS hs zGO fun v=>?_
  have:=zB2 (c:=-1) zCW hs v;rw[show vB2 zeroQ (vFW S l l.length) (-1)=vB8 zeroQ (vFW S l l.length) from rfl,h,zIX]at this;simp only[cf]at this ⊢; grind
 ·intro h
  refine zMS hm zGO fun v=>?_
  unfold vB8;rw[zB2 zCW hs,zIX,h];simp only[cf]; grind
theorem uL8{S:ScpL}(hS:vB0 S){f:QF}(hf:okF (vCZ S) f){l:List MultL}:(vEQ S f l l.length).c=f.c - (vFW S l l.length).c:=by
 rw[vGE hS hf l.length (Nat.le_refl _)];simp only[vB8,zHO]; grind
theorem vSH{S:ScpL}(hS:vB0 S)(l:List MultL):okF (vCZ S) (vEP S l).1:=by
 unfold vEP
 split
 ·split
  ·exact zG7 hS (Nat.le_refl _)
  ·exact zFH _
 ·exact zFH _
theorem vSG{S:ScpL}{P V:Nat}(hS:vB0 S)(hz:szS S P V){l:List MultL}(hl:szM l):szF (1+l.length * (P+2 * V+18)+vEC l) (vEP S l).1:=by
 unfold vEP
 split
 ·split
  ·rename_i h
   have z:=vSF hS hz hl (Nat.le_refl _) h;rw[List.take_length]at z; exact z
  ·exact zG5 zom (zEA 1 zdd)
 ·exact zG5 zom (zEA 1 zdd)
theorem uCN{S:ScpL}{l:List MultL}:(vEP S l).2=0↔okM S l l.length:=by
 rw[okM_iff];unfold vEP
 split
 ·rename_i h
  split
  ·rename_i h2; exact⟨fun _=>⟨h,h2⟩,fun _=>rfl⟩
  ·rename_i h2; exact⟨(fun e=>by simp at e),fun e=>absurd e.2 h2⟩
 ·rename_i h; exact⟨(fun e=>by simp at e),fun e=>absurd e.1 h⟩
theorem uCM{S:ScpL}{l:List MultL}(h:okM S l l.length):(vEP S l).1=vFW S l l.length:=by
 obtain⟨h1,h2⟩:=okM_iff.1 h;unfold vEP;rw[if_pos h1,if_pos h2]
theorem vUV:FO 121 Tryz.f121 [.tmp 6] 36:=mkO Tryz.func121 Tryz.ntmps121 Tryz.results121
theorem vOY(S:ScpL)(f:QF)(l:List MultL)(P V kf:Nat)(hS:vB0 S)(hz:szS S P V)(hq:szQ S.q P)(hB2:P+2 * V≤20000000)(hn:vCZ S≤16)(hf:szF kf f)(hof:okF (vCZ S) f)(hkf:1≤kf)(hl:szM l)(hsz:kf+l.length * (P+2 * V+18)+vEC l+18 * (P+2 * V+40+vEC l)≤940000000):Fn 121 [vBB S,vBN f,.imm (l.map vBC)] (.data (.bool (dB (vLG S f l)))):=by
 have cs:=vOX S l P V hS hz hq hB2 hn hl zom;have lf:=zF5 hS hn hof;have hso:=vSH hS l;have lsum:=zF5 hS hn hso;have zs:=vSG hS hz hl;have cv:=zKD f.L 4611686018427387904 (zCI zom (uAR hf zom));have hval:vCK f.L 4611686018427387904=true:=validB_true.2 (vX2 (by have:=hn; omega) (vYO hof));rw[hval,← vHG]at cv;have cb:=zFV f (vEP S l).1 kf _ hf zs hof.1 hso.1 zom zom;have zb:szF (kf+(1+l.length * (P+2 * V+18)+vEC l)+2) (vB8 f (vEP S l).1):=zER hf zs zom;have lc:=zBK zb.1;have csg:=zEV (cr (vB8 f (vEP S l).1).c) (zBE _) zom;rw[zBS]at csg;have h0:=uCN (S:=S) (l:=l);have hno:¬ okM S l l.length→false=dB (vLG S f l):=fun h=>zGG fun e=>h e.1
 have hfin:okM S l l.length→vB8 f (vEP S l).1=vEQ S f l l.length:=fun h=>by rw[uCM h,← vGE hS hof l.length (Nat.le_refl _)]
 generalize hQ:vB8 f (vEP S l).1=Q at *
 generalize (vEP S l).1=G at *
 generalize (vEP S l).2=E at *
 refine zAL vBD hT vUV (by simp[vBB,vBN]) ?_;refine sts ?_;refine zAA cs rfl ?_
 (refine gob ?_ ?_<;>intro h)
 ·exact zAB rfl (congrArg PV.bool (hno fun e=>by have:=h0.2 e; contradiction))
 have hok:okM S l l.length:=h0.1 (by assumption);have hQ2:=hfin hok
 have hres:((Q.ts.length:Int)=0∧0≤vC9 Q.c)↔vLG S f l:=by
  rw[hQ2,sgnQ_nn'];exact⟨fun e=>⟨hok,List.length_eq_zero_iff.1 zom,e.2⟩,fun e=>⟨by rw[e.2.1]; rfl,e.2.2⟩⟩
 refine zAA cv rfl ?_;refine sts ?_;refine zAA cb rfl ?_
 (refine gob ?_ ?_<;>intro h)
 ·refine zAA csg rfl ?_
  refine sts ?_;refine zAB rfl (congrArg PV.bool ?_);rw[Bool.eq_iff_iff,dB_true,← hres];simp only[decide_eq_true_eq];exact⟨fun e=>⟨zom,e⟩,fun e=>e.2⟩
 ·exact zAB rfl (congrArg PV.bool (zGG fun e=>by have:=(hres.2 e).1; omega))
theorem vUU:FO 120 Tryz.f120 [.tmp 4] 27:=mkO Tryz.func120 Tryz.ntmps120 Tryz.results120
theorem uB2(S:ScpL)(l:List MultL)(P V:Nat)(hS:vB0 S)(hz:szS S P V)(hq:szQ S.q P)(hB2:P+2 * V≤20000000)(hn:vCZ S≤16)(hl:szM l)(hsz:1+l.length * (P+2 * V+18)+vEC l+18 * (P+2 * V+40+vEC l)≤940000000):Fn 120 [vBB S,.imm (l.map vBC)] (.data (.bool (dB (uCV S l)))):=by
 have cs:=vOX S l P V hS hz hq hB2 hn hl hsz;have hso:=vSH hS l;have lsum:=zF5 hS hn hso;have zs:=vSG hS hz hl;have lc:=zBK zs.1;have csg:=zEV (cr (vEP S l).1.c) (zBE _) zom;rw[zBS]at csg;have h0:=uCN (S:=S) (l:=l);have hno:¬ okM S l l.length→false=dB (uCV S l):=fun h=>zGG fun e=>h e.1
 have hfin:okM S l l.length→(((vEP S l).1.ts.length:Int)=0∧(vEP S l).1.c<0↔uCV S l):=fun h=>by
  rw[uCM h];unfold uCV;rw[vY2 hS,uL8 hS (zFH _)];refine⟨fun e=>⟨h,List.length_eq_zero_iff.1 zom,?_⟩,fun e=>⟨by rw[e.2.1]; rfl,?_⟩⟩
  ·have:=e.2; simp only[zeroQ]; grind
  ·have:=e.2.2; simp only[zeroQ]at this; grind
 generalize (vEP S l).1=G at *
 generalize (vEP S l).2=E at *
 refine zAL vBD hT vUU (by simp[vBB]) ?_;refine sts ?_;refine zAA cs rfl ?_
 (repeat' (first|refine stp ?_|with_reducible(refine brr ?_ ?_<;>intro h)));all_goals try(conv=>whnf)
 ·refine zAA csg rfl ?_
  refine sts ?_;have hres:=hfin (h0.1 (by assumption));refine zAB rfl (congrArg PV.bool ?_);rw[Bool.eq_iff_iff,dB_true,← hres];simp only[decide_eq_true_eq,sgnQ_neg];exact⟨fun e=>⟨zom,e⟩,fun e=>e.2⟩
 ·have hres:=hfin (h0.1 (by assumption))
  exact zAB rfl (congrArg PV.bool (zGG fun e=>by have:=(hres.2 e).1; omega))
 ·exact zAB rfl (congrArg PV.bool (hno fun e=>by have:=h0.2 e; contradiction))
theorem vIZ:FO 118 Tryz.f118 [.tmp 4] 53:=mkO Tryz.func118 Tryz.ntmps118 Tryz.results118
theorem uB3(S:ScpL)(m:LemL)(P V:Nat)(hS:vB0 S)(hz:szS S P V)(hq:szQ S.q P)(hB2:P+2 * V≤20000000)(hn:vCZ S≤16)(hm:okQ V m.value)(hl:szM m.proof)(hsz:P+V+10+m.proof.length * (P+2 * V+18)+vEC m.proof+18 * (P+2 * V+40+vEC m.proof)≤940000000):Fn 118 [vBB S,vBA m] (.data (.bool (dB (vQ2 S m)))):=by
 have hnu:=hS.1.1.2.1;have hB:=hz.B;have hP:=hz.P1;have no:¬ vQ2 S m→false=dB (vQ2 S m):=zGG;have cva:=zID S.q P hq zom;rw[dB_true.2 hS.1]at cva;have cvv:=zGI m.value hm.1 (by have:=hm.2; omega) (by have:=hm.2; omega);by_cases hu:0≤m.unit∧m.unit<S.q.g.units.length
 ·have hj:m.unit.toNat<S.q.g.units.length:=by omega
  have hvu:=hS.1.1.2.2.2.1 _ hj;have hpa:=hz.units _ (get_mem hj);have szp:szF P S.q.g.units[m.unit.toNat]!.Q:=zG4 hpa hP;have zn:szF (V+1) (vBM (qv m.value)):=zDS (zF6 (zCX (Nat.le_succ _) hm) zom);have hof:okF (vCZ S) S.q.g.units[m.unit.toNat]!.Q:=vI7 (by unfold vCZ; omega) (zLN hvu);have lp:=zF5 hS hn hof;have cs:=zFV S.q.g.units[m.unit.toNat]!.Q (vBM (qv m.value)) P (V+1) szp zn hof.1 (zE5 _) zom (by show _+0≤_; omega);rw[zNK hvu]at cs;have z1:szF (P+V+3) (vB8 S.q.g.units[m.unit.toNat]!.Q (vBM (qv m.value))):=zER szp zn zom;have s1:Srt (vB8 S.q.g.units[m.unit.toNat]!.Q (vBM (qv m.value))).ts:=zBC hof.1 (zE5 _);have l1:=zHS (f:=S.q.g.units[m.unit.toNat]!.Q) (c:=qv m.value);have cmin:=zLU (-1) zdd;have csc:=zFC (vB8 S.q.g.units[m.unit.toNat]!.Q (vBM (qv m.value))) (-1) _ 1 z1 (zE1 (z:=-1) zdd) s1 zom zom
  have hlf:szF (P+V+10) (vJH S m):=by
   unfold vJH; split
   ·exact zF3 z1 (zE1 (z:=-1) zdd) zom
   ·exact zG5 zom z1
  have hlo:okF (vCZ S) (vJH S m):=by
   unfold vJH; split
   ·exact zOI (zFJ hof (zHE _ _))
   ·exact zFJ hof (zHE _ _)
  have cp:=vOY S (vJH S m) m.proof P V _ hS hz hq hB2 hn hlf hlo zom hl hsz
  have fin:vEO m.value→dB (vLG S (vJH S m) m.proof)=dB (vQ2 S m):=fun hc=>by
   rw[Bool.eq_iff_iff,dB_true,dB_true]; exact⟨fun e=>⟨hu,hc,e⟩,fun e=>e.2.2⟩
  refine zAL vBD hT vIZ (by simp[vBB,vBA]) ?_;refine sts ?_;refine zAA cva rfl ?_
  (repeat' (first|refine stp ?_|with_reducible(refine brr ?_ ?_<;>intro h)));all_goals try(conv=>whnf)
  all_goals try (exfalso; omega)
  refine zAA cvv rfl ?_
  (refine gob ?_ ?_<;>intro h)
  rotate_left
  ·exact zAB rfl (congrArg PV.bool (no fun e=>by have:=e.2.1; contradiction))
  have hcan:vEO m.value:=by assumption
  have cn:=zGJ m.value hcan;refine zA1 (j:=m.unit.toNat) (show m.unit=_ by omega) hj ?_;refine sts ?_;refine zAA cn rfl ?_;refine sts ?_;refine zAA cs rfl ?_
  (refine gob ?_ ?_<;>intro h)
  ·have e1:vJH S m=vC0 (vB8 S.q.g.units[m.unit.toNat]!.Q (vBM (qv m.value))) (-1):=if_pos (by assumption)
   rw[e1]at cp;refine zAA cmin rfl ?_;refine sts ?_;refine zAA csc rfl ?_;refine sts ?_;refine zAA cp rfl ?_;refine sts ?_;exact zAB rfl (congrArg PV.bool (by rw[← e1]; exact fin hcan))
  ·have e1:vJH S m=vB8 S.q.g.units[m.unit.toNat]!.Q (vBM (qv m.value)):=if_neg (by rw[show m.upper=false by assumption]; decide)
   rw[e1]at cp;refine zAA cp rfl ?_;refine sts ?_;exact zAB rfl (congrArg PV.bool (by rw[← e1]; exact fin hcan))
 ·refine zAL vBD hT vIZ (by simp[vBB,vBA]) ?_
  refine sts ?_;refine zAA cva rfl ?_
  (repeat' (first|refine stp ?_|with_reducible(refine brr ?_ ?_<;>intro h)));all_goals try(conv=>whnf)
  all_goals try (exfalso; omega)
  all_goals exact zAB rfl (congrArg PV.bool (no fun e=>hu e.1))
theorem uBG{h:Hp}{n b m:Nat}{S S':ScpL}{els:List PV}(hq:S'.q=S.q)(hp:S'.path=S.path)(hb:h b=some ⟨els,6,true⟩)(he:els=S'.lems.map vBA)(hm:m=S'.lems.length):frz h (n+3) (.agg [.int .i64 S.q.g.ins,.imm (S.q.g.units.map vBL),.imm (S.q.g.outs.map vBL),.imm (S.q.r.lo.map vA5),.imm (S.q.r.hi.map vA5),.imm (S.q.r.rows.map vBL),.imm (S.q.goal.terms.map vB6),.bool S.q.goal.const.neg,vBJ S.q.goal.const.num,vBJ S.q.goal.const.den,.imm (S.path.map vA9),.own b 0 m])=some (vBB S',[b]):=by
 rw[← hq,← hp];refine zCA ?_;exact zAD (ks:=[]) rfl (zAD (ks:=[]) rfl (zAD (ks:=[]) rfl (zAD (ks:=[]) rfl (zAD (ks:=[]) rfl (zAD (ks:=[]) rfl (zAD (ks:=[]) rfl (zAD (ks:=[]) rfl (zAD (ks:=[]) rfl (zAD (ks:=[]) rfl (zAD (ks:=[]) rfl (zAD (ks:=[b]) (zAJ hb he hm fun x=>by cases n<;>rfl) rfl)))))))))))
theorem vOC{h:Hp}{n a b k m:Nat}{S S':ScpL}{els els':List PV}(hq:S'.q=S.q)(ha:h a=some ⟨els',5,true⟩)(he':els'=S'.path.map vA9)(hk:k=S'.path.length)(hb:h b=some ⟨els,6,true⟩)(he:els=S'.lems.map vBA)(hm:m=S'.lems.length):frz h (n+3) (.agg [.int .i64 S.q.g.ins,.imm (S.q.g.units.map vBL),.imm (S.q.g.outs.map vBL),.imm (S.q.r.lo.map vA5),.imm (S.q.r.hi.map vA5),.imm (S.q.r.rows.map vBL),.imm (S.q.goal.terms.map vB6),.bool S.q.goal.const.neg,vBJ S.q.goal.const.num,vBJ S.q.goal.const.den,.own a 0 k,.own b 0 m])=some (vBB S',[a,b]):=by
 rw[← hq];refine zCA ?_;exact zAD (ks:=[]) rfl (zAD (ks:=[]) rfl (zAD (ks:=[]) rfl (zAD (ks:=[]) rfl (zAD (ks:=[]) rfl (zAD (ks:=[]) rfl (zAD (ks:=[]) rfl (zAD (ks:=[]) rfl (zAD (ks:=[]) rfl (zAD (ks:=[]) rfl (zAD (ks:=[a]) (zAJ ha he' hk fun x=>by cases n<;>rfl) (zAD (ks:=[b]) (zAJ hb he hm fun x=>by cases n<;>rfl) rfl)))))))))))
theorem vZ6:FO 86 Tryz.f86 [.tmp 4] 59:=mkO Tryz.func86 Tryz.ntmps86 Tryz.results86
theorem uHT(S:ScpL)(n:NodeL)(P V v c d:Nat)(hS:vB0 S)(hz:szT S P V v c d)(hn:NodeZ P V v c n)(hsm:n.Sm)(hq:szQ S.q P)(hB2:P+2 * V≤20000000)(hv:vCZ S≤16):Fn 86 [vBB S,vA7 n] (.data (.bool (dB (vC7 S n)))):=by
 have hl:=hsm.len;have l1:=hsm.prf.1;have l2:=hsm.lems.1;have p2:=hz.num;have n2:=hn.num;refine zAL vBD hT vZ6 (by simp[vBB]) ?_;refine sns ?_;have e0:vCO S (n.lemmas.take 0)=S:=by unfold vCO; rw[List.take_zero,List.append_nil]
 refine zAP hT (fun(i:Nat)=>[(2,.ptr 0 0 0),(3,.ptr 1 0 0),(5,.int .i64 i)])
  (fun i=>[(0,⟨[vBB (vCO S (n.lemmas.take i))],12,true⟩),(1,⟨[vA7 n],9,true⟩)]) [] 2
  (fun i=>i≤n.lemmas.length∧∀ k,k<i→vQ2 (vCO S (n.lemmas.take k)) n.lemmas[k]!) (fun i=>n.lemmas.length - i) 0 ⟨Nat.zero_le _,fun k h=>by omega⟩ zdd zsm ?_ ?_
 ·dsimp only
  rw[e0];exact⟨[0,1],[],[],[],ttt,⟨apx,apx,zAC rfl rfl,trivial⟩,⟨bbx,bbx,trivial⟩,by simp[ren]⟩
 rintro i ⟨i1,i2⟩
 have hcan:∀ k,k<i→vEO n.lemmas[k]!.value:=fun k hk=>(i2 k hk).2.1
 have hzi:=hz.take hn i1 hcan;have hSi:vB0 (vCO S (n.lemmas.take i)):=uC3 hS;have lems:(vCO S (n.lemmas.take i)).lems.length=S.lems.length+i:=by unfold vCO; rw[List.length_append,List.length_take]; omega
 by_cases hi:i<n.lemmas.length
 ·have hm:=get_mem hi
  obtain⟨m1,m2,m3⟩:=hn.lem _ hm;have hvm:=uGL hn.val hz.val.1 hm;have cl:=uB3 (vCO S (n.lemmas.take i)) n.lemmas[i]! P V hSi hzi.szS hq hB2 hv (zCX zom m1) m2 zom
  (repeat' (first|refine stn ?_|(with_reducible refine brr ?_ ?_<;>intro h)|(with_reducible refine zAS ?_ ?_<;>intro h)|with_reducible refine zBD ?_ ?_)); all_goals try (conv=>whnf)
  all_goals try (exfalso; omega)
  refine zAA cl rfl ?_
  (refine gon ?_ ?_<;>intro h)
  rotate_left
  ·have hlem:=dB_false.1 (by assumption:dB _=false)
   exact zAB rfl (congrArg PV.bool (zGG fun e=>hlem (e.1 i hi)))
  have hlem:=dB_true.1 (by assumption:dB _=true)
  have e1:vCO S (n.lemmas.take (i+1))=⟨S.q,S.path,(S.lems++n.lemmas.take i)++[n.lemmas[i]!]⟩:=by
   unfold vCO; rw[List.append_assoc,List.take_succ_eq_append_getElem hi,getElem!_pos n.lemmas i hi]
  refine⟨i+1,⟨⟨zom,fun k hk=>zA2 (p:=fun k=>vQ2 (vCO S (n.lemmas.take k)) n.lemmas[k]!) i2 hlem hk⟩,by show n.lemmas.length - (i+1)<n.lemmas.length - i; omega⟩,?_⟩;refine⟨[0,1],[29],[],[(0,[vBB (vCO S (n.lemmas.take (i+1)))])],⟨⟨⟨_,rfl⟩,trivial⟩,trivial,⟨⟨_,6,_,rfl,zAD (uBG (S:=S) rfl rfl rfl ?_ ?_) rfl,rfl⟩,trivial⟩⟩,⟨apx,apx,zAC rfl rfl,trivial⟩,⟨bbx,bbx,trivial⟩,by simp[ren]⟩
  ·rw[e1]
   show([]++List.map vBA (S.lems++n.lemmas.take i))++[vBA n.lemmas[i]!]=List.map vBA (S.lems++n.lemmas.take i++[n.lemmas[i]!])
   rw[List.nil_append,List.map_append (l₂:=[n.lemmas[i]!])]; rfl
  ·rw[e1]
   show(0+(List.map vBA (S.lems++n.lemmas.take i)).length)+1=(S.lems++n.lemmas.take i++[n.lemmas[i]!]).length
   simp; omega
 ·obtain rfl:i=n.lemmas.length:=by omega
  rw[List.take_length]at *
  have hlems:uGO S n.lemmas:=i2;have cf:=vXD S.q n.split P hq zom (zCX zom hn.spl);have cr:=uB2 (vCO S n.lemmas) n.proof P V hSi hzi.szS hq hB2 hv hn.prf.1 (by have:=hn.prf.2; omega);have hvg:vB3 S.q.goal (S.q.g.ins+S.q.g.units.length):=hS.1.2.2;have cp:=vOY (vCO S n.lemmas) S.q.goal.Q n.proof P V 40000000 hSi hzi.szS hq hB2 hv (zG4 hz.goal zdd) (zLN hvg) zdd hn.prf.1 (by have:=hn.prf.2; omega);rw[zNK hvg]at cp
  (repeat' (first|refine stn ?_|(with_reducible refine brr ?_ ?_<;>intro h)|(with_reducible refine zAS ?_ ?_<;>intro h)|with_reducible refine zBD ?_ ?_)); all_goals try (conv=>whnf)
  all_goals try (exfalso; omega)
  ·have hk:¬ n.kids.length=0:=by omega
   refine zAA cf rfl ?_;refine sns ?_;refine zAB rfl (congrArg PV.bool ?_);rw[Bool.eq_iff_iff,dB_true,dB_true];exact⟨fun e=>⟨hlems,by rw[if_neg hk]; exact e.2⟩,fun e=>⟨hS.1,by have:=e.2; rw[if_neg hk]at this; exact this⟩⟩
  ·have hk:n.kids.length=0:=by omega
   have he:n.empty=true:=by assumption
   refine zAA cr rfl ?_;refine sns ?_;refine zAB rfl (congrArg PV.bool ?_);rw[Bool.eq_iff_iff,dB_true,dB_true];exact⟨fun e=>⟨hlems,by rw[if_pos hk,if_pos he]; exact e⟩,fun e=>by have:=e.2; rw[if_pos hk,if_pos he]at this; exact this⟩
  ·have hk:n.kids.length=0:=by omega
   have he:¬ n.empty=true:=by rw[show n.empty=false by assumption]; decide
   refine zAA cp rfl ?_;refine sns ?_;refine zAB rfl (congrArg PV.bool ?_);rw[Bool.eq_iff_iff,dB_true,dB_true];exact⟨fun e=>⟨hlems,by rw[if_pos hk,if_neg he]; exact e⟩,fun e=>by have:=e.2; rw[if_pos hk,if_neg he]at this; exact this⟩
noncomputable def vX7(S:ScpL)(n:NodeL):PV:=match vBE S n with
 | none=>.tup [.imm [],.bool true]
 | some p=>.tup [.imm (p.map vA9),.bool false]
theorem vQT:FO 46 Tryz.f46 [.tmp 4,.tmp 5] 53:=mkO Tryz.func46 Tryz.ntmps46 Tryz.results46
theorem vJ6:∀ (s:Nat) (n:NodeL) (S:ScpL) (P V v c d:Nat),SizeOf.sizeOf n<s→n.Sm→vBH d n=true→vB0 S→szT S P V v c d→NodeZ P V v c n→szQ S.q P→P+2 * V≤20000000→vCZ S≤16→Fn 46 [vBB S,vA7 n] (.data (vX7 S n)):=by
 intro s
 induction s with
 | zero=>intro n S P V v c d h; omega
 | succ s ih =>
   intro n S P V v c d hs hsm hf hS hz hn hq hB2 hv;have hl:=hsm.len;have l2:=hsm.lems.1;have p1:=hz.plen;have p2:=hz.num;have n2:=hn.num;have cr:=uHT S n P V v c d hS hz hn hsm hq hB2 hv;refine zAL vBD hT vQT (by simp[vBB]) ?_;refine sns ?_;refine zAA cr rfl ?_
   (refine gon ?_ ?_<;>intro h)
   rotate_left
   ·have hr:=dB_false.1 (by assumption:dB _=false)
    have e:vX7 S n=.tup [.imm (S.path.map vA9),.bool false]:=by unfold vX7; rw[zDP hr]
    rw[e];exact zAB (zJY (zAD (zAJ (f:=vA9) (l:=S.path) rfl (by show []++List.map vA9 S.path=_; rw[List.nil_append]) (by show 0+(List.map vA9 S.path).length=_; simp) fun x=>rfl) rfl)) rfl
   have hr:=dB_true.1 (by assumption:dB _=true);have hlems:=hr.1;have hcan2:∀ k,k<n.lemmas.length→vEO n.lemmas[k]!.value:=fun k hk=>(hlems k hk).2.1
   refine zAP hT (fun(i:Nat)=>[(2,.ptr 0 0 0),(3,.ptr 1 0 0),(6,.int .i64 i)])
    (fun _=>[(0,⟨[vBB S],12,true⟩),(1,⟨[vA7 n],9,true⟩)]) [] 2
    (fun i=>i≤n.kids.length∧∀ j,j<i→vBE (vCN S n (vCR n j)) n.kids[j]! = none) (fun i=>n.kids.length - i) 0 ⟨Nat.zero_le _,fun k h=>by omega⟩ zdd zsm ?_ ?_
   ·exact⟨[0,1],[],[],[],ttt,⟨apx,apx,zAC rfl rfl,trivial⟩,⟨bbx,bbx,trivial⟩,by simp[ren]⟩
   rintro i ⟨i1,i2⟩
   by_cases hi:i<n.kids.length
   ·have hk:n.kids.length≠0:=by omega
    have hfo:=hf;rw[zA3 hk]at hfo;simp only[Bool.and_eq_true,decide_eq_true_eq]at hfo;have hd0:d≠0:=hfo.1.2;have h5:=hfo.1.1;unfold vBU at h5;obtain⟨e1,_⟩:=of_decide_eq_true h5;have hfk:=zDA e1 (d:=d);rw[hf]at hfk;have hfk:=hfk.symm;simp only[Bool.and_eq_true]at hfk;have hfit:vE8 S.q n.split:=by have:=hr.2; rw[if_neg hk]at this; exact this
    have ck:=vOW S.path n i zom;obtain⟨D,hD⟩:∃ D,vCR n i=D:=⟨_,rfl⟩;rw[hD]at ck
    have hDk:(i=0∧D=n.split)∨(i=1∧D=opp n.split):=by
     rcases Nat.lt_or_ge i 1 with h | h
     ·obtain rfl:i=0:=by omega
      exact Or.inl ⟨rfl,hD.symm⟩
     ·obtain rfl:i=1:=by omega
      exact Or.inr ⟨rfl,hD.symm⟩
    have hdr:D.rat=n.split.rat:=by
     rcases hDk with⟨_,e⟩ | ⟨_,e⟩<;>rw[e]
     rfl
    have hDf:vE8 S.q D:=by
     rcases hDk with⟨_,e⟩ | ⟨_,e⟩<;>rw[e]
     ·exact hfit
     ·exact vOF hfit
    have hz2:szT (vCN S n D) P V v (c - n.lemmas.length) (d - 1):=hz.kid hd0 hn hcan2 (by rw[hdr]; exact hn.spl);have hkm:n.kids[i]! ∈ n.kids:=get_mem zom;have hks:=NodeL.sizeOf_kid hkm
    have hkf:vBH (d - 1) n.kids[i]! = true:=by
     rcases hDk with⟨e,_⟩ | ⟨e,_⟩<;>rw[e]
     ·exact hfk.2.1
     ·exact hfk.2.2
    have cb:=ih n.kids[i]! (vCN S n D) P V _ _ (d - 1) zom (hsm.kid hkm) hkf (Go.PI.ok_kid hS hDf) hz2 (hn.kid _ hkm) hq hB2 hv
    (refine gon ?_ ?_<;>intro h)
    all_goals try (exfalso; omega)
    refine zBB ck rfl ?_;refine sns ?_;unfold vX7 at cb;have arg:∀ {h:Hp} {a b k m:Nat} {els els':List PV},h a=some ⟨els',5,true⟩→els'=(S.path++[D]).map vA9→k=(S.path++[D]).length→h b=some ⟨els,6,true⟩→els=(S.lems++n.lemmas).map vBA→m=(S.lems++n.lemmas).length→frz h 6 (.agg [.int .i64 S.q.g.ins,.imm (S.q.g.units.map vBL),.imm (S.q.g.outs.map vBL),.imm (S.q.r.lo.map vA5),.imm (S.q.r.hi.map vA5),.imm (S.q.r.rows.map vBL),.imm (S.q.goal.terms.map vB6),.bool S.q.goal.const.neg,vBJ S.q.goal.const.num,vBJ S.q.goal.const.den,.own a 0 k,.own b 0 m])=some (vBB (vCN S n D),[a,b]):=fun h1 h2 h3 h4 h5 h6=>vOC (S:=S) (S':=vCN S n D) rfl h1 h2 h3 h4 h5 h6
    cases hb0:vBE (vCN S n D) n.kids[i]! with
    | none =>
      rw[hb0]at cb;refine zAA cb (zAD (arg rfl rfl zsm rfl (by show []++List.map vBA S.lems++List.map vBA n.lemmas=_; simp) (by show 0+(List.map vBA S.lems).length+(List.map vBA n.lemmas).length=_; simp)) (zAD rfl rfl)) ?_;refine sns ?_;exact⟨i+1,⟨⟨zom,fun j hj=>zA2 (p:=fun j=>vBE (vCN S n (vCR n j)) n.kids[j]! = none) i2 (by rw[hD]; exact hb0) hj⟩,by show n.kids.length - (i+1)<n.kids.length - i; omega⟩,[0,1],[],[],[],ttt,⟨apx,apx,zAC rfl rfl,trivial⟩,⟨bbx,bbx,trivial⟩,by simp[ren]⟩
    | some p =>
      rw[hb0]at cb;refine zAA cb (zAD (arg rfl rfl zsm rfl (by show []++List.map vBA S.lems++List.map vBA n.lemmas=_; simp) (by show 0+(List.map vBA S.lems).length+(List.map vBA n.lemmas).length=_; simp)) (zAD rfl rfl)) ?_;refine sns ?_
      have e:vX7 S n=.tup [.imm (p.map vA9),.bool false]:=by
       unfold vX7;rw[zCS hr (zG3 e1)];rcases hDk with⟨e,e2⟩ | ⟨e,e2⟩
       ·rw[e,e2]at hb0
        rw[hb0]
       ·have h0:=i2 0 zom
        rw[e,e2]at hb0;rw[show vBE (vCN S n n.split) n.kids[0]! = none from h0];dsimp only;rw[hb0]
      rw[e];exact zAB rfl rfl
   ·obtain rfl:i=n.kids.length:=by omega
    have e:vX7 S n=.tup [.imm [],.bool true]:=by
     unfold vX7;rcases Nat.eq_zero_or_pos n.kids.length with h0 | h0
     ·rw[zGL hr h0]
     ·have hfo:=hf
      rw[zA3 zom]at hfo;simp only[Bool.and_eq_true,decide_eq_true_eq]at hfo;have h5:=hfo.1.1;unfold vBU at h5;obtain⟨e1,_⟩:=of_decide_eq_true h5;rw[zCS hr (zG3 e1),show vBE (vCN S n n.split) n.kids[0]! = none from i2 0 zom];dsimp only;rw[show vBE (vCN S n (vZL n.split)) n.kids[1]! = none from i2 1 zom]
    rw[e]
    (refine gon ?_ ?_<;>intro h)
    all_goals try (exfalso; omega)
    exact zAB rfl rfl
theorem vQD:FO 22 Tryz.f22 [.tmp 4,.tmp 5] 26:=mkO Tryz.func22 Tryz.ntmps22 Tryz.results22
theorem vW2(q:QryL)(n:NodeL)(P V v:Nat)(hvV:v≤V)(hq:szQ q P)(hs:n.Sm)(hz:NodeZ P V v 1048576 n)(hB:P+2 * V+20≤20000000)(hv:q.g.ins+q.g.units.length≤16):Fn 22 [vBK q,vA7 n] (.data (.tup [.imm ((vCV q n).1.map vA9),.int .i64 (vCV q n).2])):=by
 have cva:=zID q P hq zom;have crv:=vRD n hs
 have bad:¬ (n.valid=true∧VaQ q)→PV.tup [.imm [],.int .i64 1]=.tup [.imm ((vCV q n).1.map vA9),.int .i64 (vCV q n).2]:=fun h=>by
  unfold vCV;rw[if_neg h]; rfl
 refine zAL vBD hT vQD (by simp[vBK]) ?_;refine sns ?_;refine zAA cva rfl ?_
 (refine gon ?_ ?_<;>intro h)
 rotate_left
 ·have hva:=dB_false.1 (by assumption:dB _=false)
  exact zAB rfl (bad fun e=>hva e.2)
 have hVa:=dB_true.1 (by assumption:dB (VaQ q)=true);refine zAA crv rfl ?_
 (refine gon ?_ ?_<;>intro h)
 rotate_left
 ·have hval:n.valid=false:=by assumption
  exact zAB rfl (bad fun e=>by rw[hval]at e; exact absurd e.1 zdd)
 have hval:n.valid=true:=by assumption
 have hS:vB0 ⟨q,[],[]⟩:=⟨hVa,fun d hd=>by cases hd⟩
 have hsz:szT ⟨q,[],[]⟩ P V v 1048576 2048:=by
  refine⟨hq.P1,hq.g.1.2,hq.r.1,hq.r.2.1,⟨hq.r.2.2.2,hq.r.2.2.1⟩,hq.goal,(by show 0+2048≤1048576; omega),(fun d hd=>by cases hd),(fun d hd=>by cases hd),(fun d hd=>by cases hd),⟨hvV,fun m hm=>by cases hm⟩,(by show 0+1048576≤1048576; omega),zom,?_⟩;show q.g.ins+q.g.units.length≤1280
  omega
 have hfo:vBH 2048 n=true:=by unfold NodeL.valid at hval; simp only[Bool.and_eq_true]at hval; exact hval.1
 have cb:=vJ6 _ n ⟨q,[],[]⟩ P V v 1048576 2048 (Nat.lt_succ_self _) hs hfo hS hsz hz hq zom hv
 have hres:vCV q n=(match vBE ⟨q,[],[]⟩ n with
  | none=>([],0)
  | some p=>(p,12)):=if_pos ⟨hval,hVa⟩
 unfold vX7 at cb;rw[hres];cases hb0:vBE ⟨q,[],[]⟩ n with
 | none =>
   rw[hb0]at cb;refine zAA cb rfl ?_;refine sns ?_;exact zAB rfl rfl
 | some p =>
   rw[hb0]at cb;refine zAA cb rfl ?_;refine sns ?_;exact zAB rfl rfl
theorem uDE(most:Int):∀ (n:Nat) (x:NodeL),SizeOf.sizeOf x<n→lsz most x≤most→(x.wt:Int)=lsz most x:=by
 intro n
 induction n with
 | zero=>intro x h; omega
 | succ n ih =>
   intro x hx hm;rw[zOV]at hm;have h1:∀ k:NodeL,1≤lsz most k:=fun k=>(zHH most _ k (Nat.lt_succ_self _)).1
   obtain⟨h2,h3⟩:=vJO most x.kids (fun k _=>h1 k) _ hm;rw[zOV,h2,x.wt_eq]
   have h4:∀ l:List NodeL,(∀ k∈l,k∈x.kids)→(((l.map NodeL.wt).sum:Nat):Int)=(l.map (lsz most)).sum:=by
    intro l
    induction l with
    | nil=>intro _; simp
    | cons a l ihl =>
      intro hl;have ha:=hl a zsm;have g1:=ih a (by have:=NodeL.sizeOf_kid ha; omega) (by have:=h3 a ha; omega);have g2:=ihl (fun k hk=>hl k (by simp[hk]));simp only[List.map_cons,List.sum_cons];omega
   have:=h4 x.kids (fun _ h=>h);have hl:=zHK x.lemmas;omega
theorem vWL{P V C:Nat}{l:List MultL}(hr:∀ p∈l,okR p.coef)(hl:l.length≤400)(hC:sC l≤C)(hB:P+V+C≤1048600):vMC P V l:=by
 refine⟨⟨zom,fun p hp=>?_⟩,?_⟩
 ·have:=uI6 hp
  unfold lQ at this;exact⟨hr p hp,zom,zom⟩
 ·have h1:l.length * (P+2 * V+18)≤400 * (P+2 * V+18):=Nat.mul_le_mul_right _ hl
  have h2:vEC l≤C:=hC;omega
theorem uAX{P V v:Nat}:∀ (k:Nat) (n:NodeL) (c:Nat),SizeOf.sizeOf n<k→n.NOk→n.wt≤400→n.tot spF≤P→P+V+n.tot coF≤1048600→n.tot uF≤v→n.tot lF≤V - v→n.wt≤c→NodeZ P V v c n:=by
 intro k
 induction k with
 | zero=>intro n c h; omega
 | succ k ih =>
   intro n c h hok hw hP hB hu hl hc;have s1:=zL5 spF n;have s2:=zL5 uF n;have s4:=zL5 lF n;have s3:=zL5 coF n;have hwt:=n.wt_eq;have hll:=zHK n.lemmas;refine .mk v c n (fun m hm=>?_) zom (fun m hm=>⟨⟨(hok.lem m hm).1,by unfold vEG; omega,by unfold vEG; omega⟩,?_⟩) ?_ ?_ fun x hx=>?_
   ·split
    ·rename_i hup
     have h1:(if m.upper=true then lQ m.value else 0)≤uL n.lemmas:=zGN (f:=fun m:LemL=>if m.upper=true then lQ m.value else 0) hm;rw[if_pos hup]at h1;have e:uF n=uL n.lemmas:=rfl;have e2:vEG m.value=lQ m.value:=rfl;omega
    ·rename_i hup
     have h1:(if m.upper=true then 0 else lQ m.value)≤loL n.lemmas:=zGN (f:=fun m:LemL=>if m.upper=true then 0 else lQ m.value) hm;rw[if_neg hup]at h1;have e:lF n=loL n.lemmas:=rfl;have e2:vEG m.value=lQ m.value:=rfl;omega
   ·have h1:vDO m≤(n.lemmas.map vDO).sum:=zGN hm
    have h2:sC m.proof≤(n.lemmas.map fun m=>sC m.proof).sum:=zGN (f:=fun m:LemL=>sC m.proof) hm;have e1:vDO m=1+m.proof.length:=rfl;have e2:coF n=(n.lemmas.map fun m=>sC m.proof).sum+sC n.proof:=rfl;exact vWL (hok.lem m hm).2 zom (C:=n.tot coF) zom hB
   ·have e1:spF n=n.split.rat.num.length+n.split.rat.den.length:=rfl
    exact⟨hok.spl,zom,zom⟩
   ·have e2:coF n=(n.lemmas.map fun m=>sC m.proof).sum+sC n.proof:=rfl
    exact vWL hok.prf zom (C:=n.tot coF) zom hB
   ·have k1:=vF6 (f:=spF) hx
    have k2:=vF6 (f:=uF) hx;have k4:=vF6 (f:=lF) hx;have k3:=vF6 (f:=coF) hx;have k5:x.wt≤(n.kids.map NodeL.wt).sum:=zGN hx;exact ih x _ (by have:=NodeL.sizeOf_kid hx; omega) (hok.kid hx) zom zom zom zom zom zom
structure inZ(q:QryL)(n:NodeL)(P V v:Nat):Prop where
 q:szQ q P
 hv:v≤V
 B:P+2 * V+20≤20000000
 z:NodeZ P V v 1048576 n
 sm:n.Sm
 cnt:n.cnt≤4194304
theorem szQ.le{q:QryL}{P P':Nat}(hq:szQ q P)(h:P≤P'):szQ q P':=by
 have hg:vGY P' q.g:=⟨⟨hq.g.1.1,fun f hf=>zCI h (hq.g.1.2 f hf)⟩,⟨hq.g.2.1,fun f hf=>zCI h (hq.g.2.2 f hf)⟩⟩;exact⟨by have:=hq.P1; omega,hg,vNS h hq.r,hq.goal⟩
structure inB(q:QryL)(n:NodeL)(Bq Bn:Nat):Prop where
 q:szQ q Bq
 B:Bq+Bn≤1048590
 ok:n.NOk
 sm:n.Sm
 bk:n.bk≤Bn
 wt:n.wt≤Bn
theorem inB.z{q:QryL}{n:NodeL}{Bq Bn:Nat}(h:inB q n Bq Bn)(hw:n.wt≤400):inZ q n (Bq+n.tot spF) (n.tot vlF) (n.tot uF):=by
 have hb:=uNA n;have hvl:=uIT n;have hbk:=h.bk;have hB:=h.B;have hc:=uDN _ n (Nat.lt_succ_self _);exact⟨h.q.le zom,zom,zom,uAX _ n _ (Nat.lt_succ_self _) h.ok hw zom zom (Nat.le_refl _) zom zom,h.sm,zom⟩
end Go.PI.Tryz
