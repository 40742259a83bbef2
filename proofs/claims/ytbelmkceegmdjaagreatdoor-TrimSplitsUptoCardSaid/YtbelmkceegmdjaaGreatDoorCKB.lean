/-
  The checker: Tree.
-/
import Derived.Test.YtbelmkceegmdjaaGreatDoorCPD
import Derived.Test.YtbelmkceegmdjaaGreatDoorCKA
import Derived.Test.YtbelmkceegmdjaaGreatDoorCTR
import Derived.Test.YtbelmkceegmdjaaGreatDoorCPE
import Derived.Test.YtbelmkceegmdjaaGreatDoorCGA
import Derived.Test.YtbelmkceegmdjaaGreatDoorCHA
set_option linter.unusedVariables false
set_option linter.unusedSimpArgs false
set_option linter.unnecessarySimpa false
set_option maxHeartbeats 0
namespace Go.PI.Tryz
open Go.Proofs Go.PI
theorem zNK{f:AffL}{n:Int}(h:vB3 f n):vBN f.Q=vBL f:=by rw[vHG,uNU h]
theorem encF_zero':vBN zeroQ=.agg [.imm [],.bool false,.imm [],.imm []]:=by unfold vBN zeroQ; rw[zNL]; rfl
theorem vN3{S:ScpL}{P V:Nat}(hz:szS S P V){n j:Int}{up:Bool}{l:Rat}(h:vEW S n j up=some l):∃ a,a<S.lems.length∧S.lems[a]!.upper=up∧l=qv S.lems[a]!.value∧sz (vEG S.lems[a]!.value+1) l∧vEG S.lems[a]!.value≤2 * V:=by
 unfold vEW at h
 split at h
 ·rename_i c
  cases h
  have hi:n.toNat - 1<S.lems.length:=by omega
  have hq:=hz.lems.2 _ (get_mem hi);refine⟨_,hi,c.2.2.2,rfl,zF6 (zCX (Nat.le_succ _) (zKZ hq)) zom,?_⟩;unfold vEG; have:=hq.2; omega
 ·cases h
theorem vIK{S:ScpL}{P V:Nat}(hS:vB0 S)(hz:szS S P V){r:RowL}{f:QF}(h:vDR S r=some f):szF (P+2 * V+14) f:=by
 have hP:=hz.P1;have cn:∀ {c:RatL},okQ P c→szF P (vBM (qv c)):=fun hc=>zDS (zF6 hc hP)
 unfold vDR at h
 split at h
 ·unfold inO at h
  rcases zA8 h with⟨h0,h⟩ | ⟨h0,h⟩
  ·cases h
  rcases zA8 h with⟨c,h⟩ | ⟨_,h⟩
  ·cases h; exact zER (zDM _) (cn (zDY hz.lo zom)) zom
  rcases zA8 h with⟨c,h⟩ | ⟨_,h⟩
  ·cases h; exact zER (cn (zDY hz.hi zom)) (zDM _) zom
  rcases zA8 h with⟨c,h⟩ | ⟨_,h⟩
  ·cases h; exact zG5 zom (zG4 (hz.rows.2 _ (get_mem zom)) hP)
  rcases zA8 h with⟨c,h⟩ | ⟨_,h⟩
  ·have hq:=hz.path.2 _ (get_mem (show r.index.toNat<S.path.length by omega))
   rcases zA8 h with⟨_,h⟩ | ⟨_,h⟩
   ·cases h; exact zER (zDM _) (cn hq) zom
   ·rw[← (zBV h).2]; exact zER (cn hq) (zDM _) zom
  ·cases h
 ·unfold unO at h
  rcases zA8 h with⟨h0,h⟩ | ⟨h0,h⟩
  ·cases h
  have hv:szF 1 (vCB (S.q.g.ins+r.index)):=zDM _;have hp:szF P S.q.g.units[r.index.toNat]!.Q:=zG4 (hz.units _ (get_mem zom)) hP;have one:sz 1 (-1:Rat):=zE1 (z:=-1) zdd;rcases zA8 h with⟨_,h⟩ | ⟨_,h⟩
  ·rw[← (zBV h).2]; exact zG5 zom hv
  rcases zA8 h with⟨_,h⟩ | ⟨_,h⟩
  ·rw[← (zBV h).2]; exact zER hv hp zom
  rcases zA8 h with⟨_,h⟩ | ⟨_,h⟩
  ·rw[← (zBV h).2]; exact zG5 zom hp
  rcases zA8 h with⟨_,h⟩ | ⟨_,h⟩
  ·rw[← (zBV h).2]; exact zER hp hv zom
  rcases zA8 h with⟨_,h⟩ | ⟨_,h⟩
  ·rw[← (zBV h).2]; exact zF3 hp one zom
  rcases zA8 h with⟨_,h⟩ | ⟨_,h⟩
  ·rw[← (zBV h).2]; exact zF3 hv one zom
  rcases zA8 h with⟨_,h⟩ | ⟨_,h⟩
  ·cases hb:vEW S r.lo r.index false with
   | none=>rw[hb]at h; cases h
   | some l =>
     rw[hb]at h;obtain⟨a,_,_,_,hl,hl2⟩:=vN3 hz hb;rw[← (zBV h).2]; exact zER hp (zDS hl) zom
  rcases zA8 h with⟨_,h⟩ | ⟨_,h⟩
  ·cases hb:vEW S r.hi r.index true with
   | none=>rw[hb]at h; cases h
   | some l =>
     rw[hb]at h;obtain⟨a,_,_,_,hl,hl2⟩:=vN3 hz hb;rw[← (zBV h).2]; exact zER (zDS hl) hp zom
  rcases zA8 h with⟨_,h⟩ | ⟨_,h⟩
  ·cases hb:vEW S r.lo r.index false with
   | none=>rw[hb]at h; cases h
   | some l=>cases hb2:vEW S r.hi r.index true with
     | none=>rw[hb,hb2]at h; cases h
     | some u =>
       rw[hb,hb2]at h;obtain⟨a,ha,ea,_,hl,_⟩:=vN3 hz hb;obtain⟨b,hb',eb,_,hu,_⟩:=vN3 hz hb2;have htwo:=hz.two a b ha hb' ea eb;rw[← (zBV h).2];unfold uD7;exact zER (zF3 (zER hp (zDS hl) (Nat.le_refl _)) hu (Nat.le_refl _)) (zF3 hv (vSD hu hl) (Nat.le_refl _)) zom
  ·cases h
theorem vGG{S:ScpL}{P V:Nat}(hS:vB0 S)(hz:szS S P V){f:QF}(h:okF (vCZ S) f):f.ts.length≤1280:=by
 have hn:=hz.nv;have hi:=hS.1.1.1.1;obtain⟨n,hn2⟩:∃ n:Nat,vCZ S=n:=⟨(vCZ S).toNat,by unfold vCZ at *; omega⟩;rw[hn2]at h;have:=vKS n h.1.1 h.2;omega
def vEC(l:List MultL):Nat:=(l.map fun m=>vEG m.coef+1).sum
theorem zG8{l:List MultL}{i:Nat}(h:i<l.length):vEC (l.take (i+1))=vEC (l.take i)+vEG l[i]!.coef+1:=by
 unfold vEC;rw[List.take_succ_eq_append_getElem h,List.map_append,List.sum_append,getElem!_pos l i h]
 simp; omega
theorem vKR(l:List MultL)(i:Nat):vEC (l.take i)≤vEC l:=by
 unfold vEC
 conv=>rhs; rw[← List.take_append_drop i l,List.map_append,List.sum_append]
 omega
def szM(l:List MultL):Prop:=l.length≤1048576∧∀ m∈l,okQ 900000000 m.coef
theorem vM8{S:ScpL}{P V kf:Nat}(hS:vB0 S)(hz:szS S P V){f:QF}(hf:szF kf f){l:List MultL}(hl:szM l):∀ {i:Nat},i≤l.length→okM S l i→szF (kf+i * (P+2 * V+18)+vEC (l.take i)) (vEQ S f l i)
 | 0,_,_=>by
   show szF _ f
   exact zG5 (by rw[Nat.zero_mul]; omega) hf
 | i+1,hi,hk=>by
   have ih:=vM8 hS hz hf hl (i:=i) zom fun k h=>hk k zom
   obtain⟨_,_,_,h4⟩:=hk i zom;obtain⟨g,hg⟩:=Option.isSome_iff_exists.1 h4;have hr:=vIK hS hz hg;have e:rw' S l[i]! = g:=by unfold rw'; rw[hg]; rfl
   have hc:sz (vEG l[i]!.coef+1) (- qv l[i]!.coef):=vSE (zF6 (zCX (Nat.le_succ _) (zKZ (hl.2 _ (get_mem zom)))) zom);obtain⟨R,hR⟩:∃ R,P+2 * V+18=R:=⟨_,rfl⟩;rw[hR]at ih ⊢;have hr2:szF (R - 4) g:=zG5 zom hr;rw[zF4 zom,e];refine zJU ih hr2 hc ?_;rw[zG8 zom,Nat.succ_mul];generalize i * R=X;omega
open Classical in
noncomputable def vDH(S:ScpL)(f:QF)(l:List MultL):RatL×Bool:=if okM S l l.length then(cr (vEQ S f l l.length).c,decide ((vEQ S f l l.length).ts.length=0)) else(⟨false,[],[]⟩,false)
theorem uAH:FO 102 Tryz.f102 [.cell 6 26,.tmp 7] 69:=mkO Tryz.func102 Tryz.ntmps102 Tryz.results102
theorem vXK(S:ScpL)(f:QF)(l:List MultL)(P V kf:Nat)(hS:vB0 S)(hz:szS S P V)(hf:szF kf f)(hof:okF (vCZ S) f)(hl:szM l)(hsz:kf+l.length * (P+2 * V+18)+vEC l≤940000000):Fn 102 [vBB S,vBN f,.imm (l.map vBC)] (.data (.tup [vA5 (vDH S f l).1,.bool (vDH S f l).2])):=by
 have bad:¬ okM S l l.length→PV.tup [.agg [.bool false,.imm [],.imm []],.bool false]=.tup [vA5 (vDH S f l).1,.bool (vDH S f l).2]:=fun e=>by unfold vDH; rw[if_neg e]; rfl
 have l1:=hl.1;refine zAL vBD hT uAH (by simp[vBB,vBN]) ?_;refine sts ?_
 refine zAP hT (fun(i:Nat)=>[(2,.imm (l.map vBC)),(3,.ptr 0 0 0),(4,.ptr 1 0 0),(6,.ptr 2 0 0),(12,.imm (l.map vBC)),(13,.int .i64 l.length),(14,.int .i64 i)])
  (fun i=>[(0,⟨[vBB S],12,true⟩),(1,⟨[vBN (vEQ S f l i)],4,true⟩),(2,⟨[.agg [.bool false,.nilsl,.nilsl]],3,true⟩)]) [] 3
  (fun i=>i≤l.length∧okM S l i) (fun i=>l.length - i) 0 ⟨Nat.zero_le _,fun k h=>by omega⟩ zdd zsm ?_ ?_
 ·exact⟨[_,_,_],[],[],[],ttt,⟨zAE rfl rfl,(apy rfl),(apy rfl),(apy rfl),zAE rfl rfl,zAC rfl zsm,zAC rfl rfl,trivial⟩,⟨bbx,bbx,bbx,trivial⟩,by simp[ren]⟩
 rintro i ⟨i1,i2⟩
 by_cases hi:i<l.length
 ·have hm:=hl.2 _ (get_mem hi)
  have hm2:=hm.2;have hno:¬ uC5 S l i→¬ okM S l l.length:=fun h e=>h (e i hi)
  have cva:=zGU l[i]!.coef hm.1 zom zom;have csg:=zFW l[i]!.coef hm.1 zom;have cle:=uHX l[i - 1]!.row l[i]!.row;obtain⟨g,b,hgb,cf⟩:=uHY S l[i]!.row P V hS hz
  (refine gob ?_ ?_<;>intro h)
  all_goals try (exfalso; omega)
  refine zAA cva rfl ?_
  (refine gob ?_ ?_<;>intro h)
  rotate_left
  ·exact zAB rfl (bad (hno fun e=>by have:=e.1; contradiction))
  have hcan:vEO l[i]!.coef:=by assumption
  refine zAA csg rfl ?_
  (repeat' (first|refine stp ?_|with_reducible(refine brr ?_ ?_<;>intro h)));all_goals try(conv=>whnf)
  ·exact zAB rfl (bad (hno fun e=>by have:=sgnQ_pos.2 e.2.1; omega))
  ·have hpos:0<qv l[i]!.coef:=sgnQ_pos.1 zom
   refine zA1 (j:=i - 1) zom zom ?_;refine sts ?_;refine zAA cle rfl ?_
   (refine gob ?_ ?_<;>intro h)
   ·have hless:vET l[i - 1]!.row l[i]!.row:=dB_true.1 (by assumption)
    refine zAA cf rfl ?_
    (refine gob ?_ ?_<;>intro h)
    ·have hrow:vDR S l[i]!.row=some g:=by rcases hgb with⟨_,e⟩ | ⟨e,_⟩; exact e; exact absurd (show b=true by assumption) (by rw[e]; decide)
     have hk1:uC5 S l i:=⟨hcan,hpos,fun _=>hless,by rw[hrow]; rfl⟩;have e1:rw' S l[i]! = g:=by unfold rw'; rw[hrow]; rfl
     have hgo:okF (vCZ S) g:=vNA hS hrow;have hg2:=vIK hS hz hrow;have hgl:=vGG hS hz hgo;have z0:=vM8 hS hz hf hl (i:=i) zom i2;have hfo:=zKO hS hof (l:=l) (i:=i) zom;have hfl:=vGG hS hz hfo;have hsi:=zG8 (l:=l) hi;have hsj:=vKR l (i+1);have hmul:(i+1) * (P+2 * V+18)≤l.length * (P+2 * V+18):=Nat.mul_le_mul_right _ hi;rw[Nat.succ_mul]at hmul;have zc:sz (vEG l[i]!.coef+1) (qv l[i]!.coef):=zF6 (zCX (Nat.le_succ _) (zKZ hm)) zom;have q1:=zKF g (qv l[i]!.coef) _ _ hg2 zc zom zom;rw[← hcan]at q1;have z2:szF (P+2 * V+17+vEG l[i]!.coef) (vC0 g (qv l[i]!.coef)):=zF3 hg2 zc zom;have q2:=zGY (vEQ S f l i) (vC0 g (qv l[i]!.coef)) _ _ z0 z2 zom zom (Nat.le_trans zIP zom);have e2:vB2 (vEQ S f l i) (vC0 g (qv l[i]!.coef)) (-1)=vEQ S f l (i+1):=by rw[zF4 hi,e1]; exact vSJ hfo.1 hgo.1
     rw[e2]at q2;refine zAA q1 rfl ?_;refine sts ?_;refine zAA q2 rfl ?_;refine sts ?_;exact⟨i+1,⟨⟨zom,fun k hk=>zA2 (p:=uC5 S l) i2 hk1 hk⟩,by show l.length - (i+1)<l.length - i; omega⟩,[0,1,2],[],[],[],ttt,⟨zAE rfl rfl,apx,apx,apx,zAE rfl rfl,zAC rfl rfl,zAC rfl rfl,trivial⟩,⟨bbx,bbx,bbx,trivial⟩,by simp[ren]⟩
    ·have hrow:vDR S l[i]!.row=none:=by rcases hgb with⟨e,_⟩ | ⟨_,e⟩; exact absurd (show b=false by assumption) (by rw[e]; decide); exact e
     exact zAB rfl (bad (hno fun e=>by have:=e.2.2.2; rw[hrow]at this; cases this))
   ·exact zAB rfl (bad (hno fun e=>dB_false.1 (by assumption) (e.2.2.1 zom)))
  ·have hpos:0<qv l[i]!.coef:=sgnQ_pos.1 zom
   ·refine zAA cf rfl ?_
    (refine gob ?_ ?_<;>intro h)
    ·have hrow:vDR S l[i]!.row=some g:=by rcases hgb with⟨_,e⟩ | ⟨e,_⟩; exact e; exact absurd (show b=true by assumption) (by rw[e]; decide)
     have hk1:uC5 S l i:=⟨hcan,hpos,fun h=>by omega,by rw[hrow]; rfl⟩;have e1:rw' S l[i]! = g:=by unfold rw'; rw[hrow]; rfl
     have hgo:okF (vCZ S) g:=vNA hS hrow;have hg2:=vIK hS hz hrow;have hgl:=vGG hS hz hgo;have z0:=vM8 hS hz hf hl (i:=i) zom i2;have hfo:=zKO hS hof (l:=l) (i:=i) zom;have hfl:=vGG hS hz hfo;have hsi:=zG8 (l:=l) hi;have hsj:=vKR l (i+1);have hmul:(i+1) * (P+2 * V+18)≤l.length * (P+2 * V+18):=Nat.mul_le_mul_right _ hi;rw[Nat.succ_mul]at hmul;have zc:sz (vEG l[i]!.coef+1) (qv l[i]!.coef):=zF6 (zCX (Nat.le_succ _) (zKZ hm)) zom;have q1:=zKF g (qv l[i]!.coef) _ _ hg2 zc zom zom;rw[← hcan]at q1;have z2:szF (P+2 * V+17+vEG l[i]!.coef) (vC0 g (qv l[i]!.coef)):=zF3 hg2 zc zom;have q2:=zGY (vEQ S f l i) (vC0 g (qv l[i]!.coef)) _ _ z0 z2 zom zom (Nat.le_trans zIP zom);have e2:vB2 (vEQ S f l i) (vC0 g (qv l[i]!.coef)) (-1)=vEQ S f l (i+1):=by rw[zF4 hi,e1]; exact vSJ hfo.1 hgo.1
     rw[e2]at q2;refine zAA q1 rfl ?_;refine sts ?_;refine zAA q2 rfl ?_;refine sts ?_;exact⟨i+1,⟨⟨zom,fun k hk=>zA2 (p:=uC5 S l) i2 hk1 hk⟩,by show l.length - (i+1)<l.length - i; omega⟩,[0,1,2],[],[],[],ttt,⟨zAE rfl rfl,apx,apx,apx,zAE rfl rfl,zAC rfl rfl,zAC rfl rfl,trivial⟩,⟨bbx,bbx,bbx,trivial⟩,by simp[ren]⟩
    ·have hrow:vDR S l[i]!.row=none:=by rcases hgb with⟨e,_⟩ | ⟨_,e⟩; exact absurd (show b=false by assumption) (by rw[e]; decide); exact e
     exact zAB rfl (bad (hno fun e=>by have:=e.2.2.2; rw[hrow]at this; cases this))
 ·have ei:i=l.length:=by omega
  subst ei
  (refine gob ?_ ?_<;>intro h)
  all_goals try (exfalso; omega)
  refine zAB rfl ?_;unfold vDH;rw[if_pos i2];have hb:(((vEQ S f l l.length).ts.length:Int) == 0)=decide ((vEQ S f l l.length).ts.length=0):=by rw[Bool.eq_iff_iff,beq_iff_eq,decide_eq_true_eq]; omega
  rw[← hb];simp only[List.length_map];rfl
theorem vY7{S:ScpL}{f:QF}{l:List MultL}:((vDH S f l).2 && decide (0≤vC9 (qv (vDH S f l).1)))=dB (vLG S f l):=by
 unfold vDH vLG;by_cases h:okM S l l.length
 ·rw[if_pos h,Bool.eq_iff_iff,dB_true]
  simp only[Bool.and_eq_true,decide_eq_true_eq,zBS,sgnQ_nn',List.length_eq_zero_iff];exact⟨fun e=>⟨h,e⟩,fun e=>e.2⟩
 ·rw[if_neg h,Bool.eq_iff_iff,dB_true]
  exact⟨(fun e=>by cases e),fun e=>absurd e.1 h⟩
theorem vY6{S:ScpL}{l:List MultL}:((vDH S zeroQ l).2 && decide (0<vC9 (qv (vDH S zeroQ l).1)))=dB (uCV S l):=by
 unfold vDH uCV;by_cases h:okM S l l.length
 ·rw[if_pos h,Bool.eq_iff_iff,dB_true]
  simp only[Bool.and_eq_true,decide_eq_true_eq,zBS,sgnQ_pos,List.length_eq_zero_iff];exact⟨fun e=>⟨h,e⟩,fun e=>e.2⟩
 ·rw[if_neg h,Bool.eq_iff_iff,dB_true]
  exact⟨(fun e=>by cases e),fun e=>absurd e.1 h⟩
theorem vNC{S:ScpL}{f:QF}{l:List MultL}{P V kf:Nat}(hS:vB0 S)(hz:szS S P V)(hf:szF kf f)(hl:szM l)(hsz:kf+l.length * (P+2 * V+18)+vEC l≤940000000):okQ 940000000 (vDH S f l).1:=by
 unfold vDH
 split
 ·rename_i h
  have z:=vM8 hS hz hf hl (Nat.le_refl _) h;rw[List.take_length]at z;exact vI6 (zIO hsz z.1)
 ·exact⟨⟨by simp[okN],by simp[okN]⟩,Nat.zero_le _,Nat.zero_le _⟩
theorem uF5:FO 67 Tryz.f67 [.tmp 6] 22:=mkO Tryz.func67 Tryz.ntmps67 Tryz.results67
theorem uDV(S:ScpL)(f:QF)(l:List MultL)(P V kf:Nat)(hS:vB0 S)(hz:szS S P V)(hf:szF kf f)(hof:okF (vCZ S) f)(hl:szM l)(hsz:kf+l.length * (P+2 * V+18)+vEC l≤940000000):Fn 67 [vBB S,vBN f,.imm (l.map vBC)] (.data (.bool (dB (vLG S f l)))):=by
 have c1:=vXK S f l P V kf hS hz hf hof hl hsz;have hq:=vNC hS hz hf hl hsz;have c2:=zFW (vDH S f l).1 hq.1 (by have:=hq.2; omega);rw[← vY7];generalize (vDH S f l).1=c at *
 generalize (vDH S f l).2=b at *
 refine zAL vBD hT uF5 (by simp[vBB,vBN]) ?_;refine sts ?_;refine zAA c1 rfl ?_
 (refine gob ?_ ?_<;>intro h)
 ·refine zAA c2 rfl ?_
  refine sts ?_;exact zAB rfl (by rw[show b=true by assumption]; rfl)
 ·exact zAB rfl (by rw[show b=false by assumption]; rfl)
theorem uF4:FO 66 Tryz.f66 [.tmp 4] 20:=mkO Tryz.func66 Tryz.ntmps66 Tryz.results66
theorem uK0(S:ScpL)(l:List MultL)(P V:Nat)(hS:vB0 S)(hz:szS S P V)(hl:szM l)(hsz:1+l.length * (P+2 * V+18)+vEC l≤940000000):Fn 66 [vBB S,.imm (l.map vBC)] (.data (.bool (dB (uCV S l)))):=by
 have c1:=vXK S zeroQ l P V 1 hS hz (zEA 1 zdd) (zFH _) hl hsz;have hq:=vNC hS hz (zEA 1 zdd) hl hsz;have c2:=zFW (vDH S zeroQ l).1 hq.1 (by have:=hq.2; omega);rw[← vY6];rw[encF_zero']at c1;generalize (vDH S zeroQ l).1=c at *
 generalize (vDH S zeroQ l).2=b at *
 refine zAL vBD hT uF4 (by simp[vBB]) ?_;refine sts ?_;refine zAA c1 rfl ?_
 (refine gob ?_ ?_<;>intro h)
 ·refine zAA c2 rfl ?_
  refine sts ?_;exact zAB rfl (by rw[show b=true by assumption]; rfl)
 ·exact zAB rfl (by rw[show b=false by assumption]; rfl)
theorem vVE:FO 65 Tryz.f65 [.tmp 4] 46:=mkO Tryz.func65 Tryz.ntmps65 Tryz.results65
theorem uK2(S:ScpL)(m:LemL)(P V:Nat)(hS:vB0 S)(hz:szS S P V)(hm:okQ V m.value)(hl:szM m.proof)(hsz:P+V+10+m.proof.length * (P+2 * V+18)+vEC m.proof≤940000000):Fn 65 [vBB S,vBA m] (.data (.bool (dB (vQ2 S m)))):=by
 have hnu:=hS.1.1.2.1;have hB:=hz.B;have hP:=hz.P1;have no:¬ vQ2 S m→false=dB (vQ2 S m):=zGG;have cva:=zGU m.value hm.1 (by have:=hm.2; omega) (by have:=hm.2; omega);by_cases hu:0≤m.unit∧m.unit<S.q.g.units.length
 ·have hj:m.unit.toNat<S.q.g.units.length:=by omega
  have hvu:=hS.1.1.2.2.2.1 _ hj;have hpa:=hz.units _ (get_mem hj);have szp:szF P S.q.g.units[m.unit.toNat]!.Q:=zG4 hpa hP;have zn:szF (V+1) (vBM (qv m.value)):=zDS (zF6 (zCX (Nat.le_succ _) hm) zom);have cn:=zO6 m.value V hm zom;have lp:S.q.g.units[m.unit.toNat]!.Q.ts.length≤1048576:=by rw[uLF]; exact hpa.2.2
  have cs:=zGY S.q.g.units[m.unit.toNat]!.Q (vBM (qv m.value)) P (V+1) szp zn zom lp (by simp[vBM]);rw[zNK hvu]at cs;have z1:szF (P+V+3) (vB8 S.q.g.units[m.unit.toNat]!.Q (vBM (qv m.value))):=zER szp zn zom;have cmi:=vHO (vB8 S.q.g.units[m.unit.toNat]!.Q (vBM (qv m.value))) _ z1 zom (Nat.le_trans zHS lp);have hof:okF (vCZ S) S.q.g.units[m.unit.toNat]!.Q:=vI7 (by unfold vCZ; omega) (zLN hvu)
  have hlf:szF (P+V+10) (vJH S m):=by
   unfold vJH; split
   ·exact zF3 z1 (zE1 (z:=-1) zdd) zom
   ·exact zG5 zom z1
  have hlo:okF (vCZ S) (vJH S m):=by
   unfold vJH; split
   ·exact zOI (zFJ hof (zHE _ _))
   ·exact zFJ hof (zHE _ _)
  have cp:=uDV S (vJH S m) m.proof P V _ hS hz hlf hlo hl hsz
  have fin:vEO m.value→dB (vLG S (vJH S m) m.proof)=dB (vQ2 S m):=fun hc=>by
   rw[Bool.eq_iff_iff,dB_true,dB_true]; exact⟨fun e=>⟨hu,hc,e⟩,fun e=>e.2.2⟩
  refine zAL vBD hT vVE (by simp[vBB,vBA]) ?_
  (repeat' (first|refine stp ?_|with_reducible(refine brr ?_ ?_<;>intro h)));all_goals try(conv=>whnf)
  all_goals try (exfalso; omega)
  refine zAA cva rfl ?_
  (refine gob ?_ ?_<;>intro h)
  rotate_left
  ·exact zAB rfl (congrArg PV.bool (no fun e=>by have:=e.2.1; contradiction))
  have hcan:vEO m.value:=by assumption
  refine zA1 (j:=m.unit.toNat) (show m.unit=_ by omega) hj ?_;refine sts ?_;refine zAA cn rfl ?_;refine sts ?_;refine zAA cs rfl ?_
  (refine gob ?_ ?_<;>intro h)
  ·have e1:vJH S m=vC0 (vB8 S.q.g.units[m.unit.toNat]!.Q (vBM (qv m.value))) (-1):=if_pos (by assumption)
   rw[e1]at cp;refine zAA cmi rfl ?_;refine sts ?_;refine zAA cp rfl ?_;refine sts ?_;exact zAB rfl (congrArg PV.bool (by rw[← e1]; exact fin hcan))
  ·have e1:vJH S m=vB8 S.q.g.units[m.unit.toNat]!.Q (vBM (qv m.value)):=if_neg (by rw[show m.upper=false by assumption]; decide)
   rw[e1]at cp;refine zAA cp rfl ?_;refine sts ?_;exact zAB rfl (congrArg PV.bool (by rw[← e1]; exact fin hcan))
 ·refine zAL vBD hT vVE (by simp[vBB,vBA]) ?_
  (repeat' (first|refine stp ?_|with_reducible(refine brr ?_ ?_<;>intro h)));all_goals try(conv=>whnf)
  all_goals try (exfalso; omega)
  all_goals exact zAB rfl (congrArg PV.bool (no fun e=>hu e.1))
theorem zM5:FO 61 Tryz.f61 [.tmp 6,.tmp 7] 111:=mkO Tryz.func61 Tryz.ntmps61 Tryz.results61
theorem uKZ:∀ (s:Nat) (n:NodeL) (d m:Nat),SizeOf.sizeOf n<s→n.Sm→n.cnt≤4194304→d≤2048→m≤65536→∃ k:Nat,k≤n.cnt∧((vBH d n && decide (n.cnt≤m))=true→k=n.cnt)∧Fn 61 [vA7 n,.int .i64 d,.int .i64 m] (.data (.tup [.int .i64 k,.bool (vBH d n && decide (n.cnt≤m))])):=by
 intro s
 induction s with
 | zero=>intro n d m h; omega
 | succ s ih =>
   intro n d m hn hs hct hd hm;have hl:=hs.len;have hpos:=zFS n;have l1:=hs.prf.1;have l2:=hs.dec;have l3:=l2.1;have l4:=l2.2;have zero:(vBH d n && decide (n.cnt≤m))=false→∃ k:Nat,k≤n.cnt∧((vBH d n && decide (n.cnt≤m))=true→k=n.cnt):=fun e=>⟨0,Nat.zero_le _,fun h=>by rw[e]at h; cases h⟩
   by_cases h0:m=0
   ·have e:(vBH d n && decide (n.cnt≤m))=false:=by rw[decide_eq_false zom,Bool.and_false]
    refine⟨0,Nat.zero_le _,(fun h=>by rw[e]at h; cases h),?_⟩;rw[e];refine zAL vBD hT zM5 zsm ?_
    (repeat' (first|refine stn ?_|(with_reducible refine brr ?_ ?_<;>intro h)|(with_reducible refine zAS ?_ ?_<;>intro h)|with_reducible refine zBD ?_ ?_)); all_goals try (conv=>whnf)
    all_goals try (exfalso; omega)
    exact zAB rfl rfl
   by_cases hk:n.kids.length=0
   ·have e:(vBH d n && decide (n.cnt≤m))=vEH n:=by rw[zB8 hk,zIA hk,decide_eq_true zom,Bool.and_true]
    refine⟨1,hpos,fun _=>(zIA hk).symm,?_⟩;rw[e]
    have lf:vEH n=decide (n.split.kind=0∧n.split.index=0∧n.split.rat.neg=false∧n.split.rat.num.length=0∧n.split.rat.den.length=0):=by
     unfold vEH;refine decide_eq_decide.2 ?_;generalize n.split=x;obtain⟨a,b,⟨c,d,e⟩⟩:=x
     simp
    rw[lf];refine zAL vBD hT zM5 zsm ?_
    (repeat' (first|refine stn ?_|(with_reducible refine brr ?_ ?_<;>intro h)|(with_reducible refine zAS ?_ ?_<;>intro h)|with_reducible refine zBD ?_ ?_)); all_goals try (conv=>whnf)
    all_goals try (exfalso; omega)
    all_goals refine zAB rfl (congrArg (fun b=>PV.tup [.int .i64 1,.bool b]) ?_)
    all_goals (rw[Bool.eq_iff_iff,decide_eq_true_eq]; simp_all; try omega)
   ·have h2:=hn
    by_cases hin:vBU n=true∧d≠0
    rotate_left
    ·have e:(vBH d n && decide (n.cnt≤m))=false:=by
      rw[zA3 hk];cases h1:vBU n
      ·rfl
      ·by_cases h5:d=0
       ·simp[h5]
       ·exact absurd ⟨h1,h5⟩ hin
     refine⟨0,Nat.zero_le _,(fun h=>by rw[e]at h; cases h),?_⟩;rw[e];have hno:¬ (n.kids.length=2∧1≤n.split.kind∧n.split.kind≤4∧n.empty=false∧n.proof.length=0∧d≠0):=fun⟨e1,e2,e3,e4,e5,e6⟩=>hin ⟨by unfold vBU; exact decide_eq_true ⟨e1,e2,e3,e4,e5⟩,e6⟩
     refine zAL vBD hT zM5 zsm ?_
     (repeat' (first|refine stn ?_|(with_reducible refine brr ?_ ?_<;>intro h)|(with_reducible refine zAS ?_ ?_<;>intro h)|with_reducible refine zBD ?_ ?_)); all_goals try (conv=>whnf)
     all_goals try (exfalso; omega)
     all_goals try exact zAB rfl rfl
     all_goals (exfalso; refine hno ⟨?_,?_,?_,?_,?_,?_⟩<;>first | omega | assumption)
    ·obtain⟨h3,h4⟩:=hin
     have h5:=h3;unfold vBU at h5;obtain⟨e1,e2,e3,e4,e5⟩:=of_decide_eq_true h5;have hm0:n.kids[0]! ∈ n.kids:=get_mem zom;have hm1:n.kids[1]! ∈ n.kids:=get_mem zom;have s0:=NodeL.sizeOf_kid hm0;have s1:=NodeL.sizeOf_kid hm1;have ct:=vHJ e1;have p0:=zFS n.kids[0]!;have p1:=zFS n.kids[1]!;obtain⟨a,a1,a2,ca⟩:=ih n.kids[0]! (d - 1) (m - 1) zom (hs.kid hm0) zom zom zom
     have ef:(vBH d n && decide (n.cnt≤m))=((vBH (d - 1) n.kids[0]! && decide (n.kids[0]!.cnt≤m - 1)) && (vBH (d - 1) n.kids[1]! && decide (n.kids[1]!.cnt≤m - 1 - n.kids[0]!.cnt))):=by
      rw[zDA e1,h3,decide_eq_true h4,ct];rw[Bool.eq_iff_iff];simp only[Bool.and_eq_true,decide_eq_true_eq,true_and];constructor
      ·rintro⟨⟨f1,f2⟩,f3⟩; exact⟨⟨f1,zom⟩,f2,zom⟩
      ·rintro⟨⟨f1,f2⟩,f3,f4⟩; exact⟨⟨f1,f3⟩,zom⟩
     have ed:((d - 1:Nat):Int)=(d:Int) - 1:=by omega
     have em:((m - 1:Nat):Int)=(m:Int) - 1:=by omega
     rw[ed,em]at ca;cases hA:(vBH (d - 1) n.kids[0]! && decide (n.kids[0]!.cnt≤m - 1))
     ·rw[hA]at ef ca
      refine⟨0,Nat.zero_le _,(fun h=>by rw[ef]at h; cases h),?_⟩;rw[ef];refine zAL vBD hT zM5 zsm ?_
      (repeat' (first|refine stn ?_|(with_reducible refine brr ?_ ?_<;>intro h)|(with_reducible refine zAS ?_ ?_<;>intro h)|with_reducible refine zBD ?_ ?_)); all_goals try (conv=>whnf)
      all_goals try (exfalso; omega)
      all_goals try (exfalso; simp_all; done)
      refine zAA ca rfl ?_;refine sns ?_
      all_goals try (exfalso; omega)
      exact zAB rfl rfl
     ·have ea:=a2 hA
      obtain⟨b,b1,b2,cb⟩:=ih n.kids[1]! (d - 1) (m - 1 - a) zom (hs.kid hm1) zom zom zom;rw[hA,Bool.true_and,← ea]at ef;rw[hA]at ca;have am:a≤m - 1:=by simp only[Bool.and_eq_true,decide_eq_true_eq]at hA; omega
      have em2:((m - 1 - a:Nat):Int)=(m:Int) - 1 - a:=by omega
      rw[ed,em2]at cb;refine⟨1+a+b,zom,(fun h=>by have:=b2 (ef ▸ h); omega),?_⟩;rw[ef];refine zAL vBD hT zM5 zsm ?_
      (repeat' (first|refine stn ?_|(with_reducible refine brr ?_ ?_<;>intro h)|(with_reducible refine zAS ?_ ?_<;>intro h)|with_reducible refine zBD ?_ ?_)); all_goals try (conv=>whnf)
      all_goals try (exfalso; omega)
      all_goals try (exfalso; simp_all; done)
      refine zAA ca rfl ?_;refine sns ?_
      all_goals try (exfalso; omega)
      refine zAA cb rfl ?_;refine sns ?_
      all_goals try (exfalso; omega)
      refine zAB rfl (congrArg (fun x=>PV.tup [.int .i64 x,.bool _]) ?_);omega
def uLN(v V:Nat)(l:List LemL):Prop:=∀ m∈l,vEG m.value≤if m.upper=true then v else V - v
theorem uGL{v V:Nat}{l:List LemL}(h:uLN v V l)(hv:v≤V){m:LemL}(hm:m∈l):vEG m.value≤V:=by
 have:=h m hm
 split at this<;>omega
def vMC(P V:Nat)(l:List MultL):Prop:=szM l∧40000000+P+V+10+l.length * (P+2 * V+18)+vEC l+18 * (P+2 * V+40+vEC l)≤940000000
inductive NodeZ(P V:Nat):Nat→Nat→NodeL→Prop
 | mk (v c:Nat) (n:NodeL) (h1:uLN v V n.lemmas) (h2:n.lemmas.length≤c) (h3:∀ m∈n.lemmas,okQ (vEG m.value) m.value∧vMC P V m.proof) (h4:okQ P n.split.rat) (h5:vMC P V n.proof)
  (h6:∀ k∈n.kids,NodeZ P V v (c - n.lemmas.length) k):NodeZ P V v c n
section
variable {P V v c:Nat} {n:NodeL}
theorem NodeZ.val(h:NodeZ P V v c n):uLN v V n.lemmas:=by cases h; assumption
theorem NodeZ.num(h:NodeZ P V v c n):n.lemmas.length≤c:=by cases h; assumption
theorem NodeZ.lem(h:NodeZ P V v c n):∀ m∈n.lemmas,okQ (vEG m.value) m.value∧vMC P V m.proof:=by cases h; assumption
theorem NodeZ.spl(h:NodeZ P V v c n):okQ P n.split.rat:=by cases h; assumption
theorem NodeZ.prf(h:NodeZ P V v c n):vMC P V n.proof:=by cases h; assumption
theorem NodeZ.kid(h:NodeZ P V v c n):∀ k∈n.kids,NodeZ P V v (c - n.lemmas.length) k:=by cases h; assumption
end
structure szT(S:ScpL)(P V v c d:Nat):Prop where
 P1:1≤P
 units:∀ f∈S.q.g.units,okA P f
 lo:vVJ P S.q.r.lo
 hi:vVJ P S.q.r.hi
 rows:uGE P S.q.r.rows
 goal:okA 40000000 S.q.goal
 plen:S.path.length+d≤1048576
 path:∀ e∈S.path,okQ P e.rat
 lems:∀ m∈S.lems,okQ (vEG m.value) m.value
 can:∀ m∈S.lems,vEO m.value
 val:v≤V∧uLN v V S.lems
 num:S.lems.length+c≤1048576
 B:P+2 * V+20≤100000000
 nv:vCZ S≤1280
theorem szT.szS{S:ScpL}{P V v c d:Nat}(h:szT S P V v c d):szS S P V:=by
 refine⟨h.P1,h.units,h.lo,h.hi,h.rows,⟨by have:=h.plen; omega,h.path⟩,⟨by have:=h.num; omega,fun m hm=>zCX (uGL h.val.2 h.val.1 hm) (h.lems m hm)⟩,h.can,fun i j hi hj ei ej=>?_,h.B,h.nv⟩;have h1:=h.val.2 _ (get_mem hi);have h2:=h.val.2 _ (get_mem hj);have h3:=h.val.1;rw[ei,if_neg zdd]at h1;rw[ej,if_pos rfl]at h2;omega
theorem szT.take{S:ScpL}{P V v c d:Nat}(h:szT S P V v c d){n:NodeL}(hn:NodeZ P V v c n){i:Nat}(hi:i≤n.lemmas.length)(hc:∀ k,k<i→vEO n.lemmas[k]!.value):szT (vCO S (n.lemmas.take i)) P V v (c - i) d:=by
 have h1:=hn.val;have h2:=hn.num;refine⟨h.P1,h.units,h.lo,h.hi,h.rows,h.goal,h.plen,h.path,fun m hm=>?_,fun m hm=>?_,?_,?_,h.B,h.nv⟩
 ·rcases List.mem_append.1 hm with hm | hm
  ·exact h.lems m hm
  ·exact(hn.lem m (List.mem_of_mem_take hm)).1
 ·rcases List.mem_append.1 hm with hm | hm
  ·exact h.can m hm
  ·obtain⟨k,hk,rfl⟩:=List.getElem_of_mem hm
   have hk2:k<i:=by rw[List.length_take]at hk; omega
   have:=hc k hk2;rw[getElem!_pos _ _ zom]at this
   simpa using this
 ·refine⟨h.val.1,fun m hm=>?_⟩
  rcases List.mem_append.1 hm with hm | hm
  ·exact h.val.2 m hm
  ·exact h1 m (List.mem_of_mem_take hm)
 ·have:=h.num
  show(S.lems++n.lemmas.take i).length+_≤_
  rw[List.length_append,List.length_take]; omega
theorem szT.kid{S:ScpL}{P V v c d:Nat}(h:szT S P V v c d)(hd:d≠0){n:NodeL}(hn:NodeZ P V v c n)(hc:∀ k,k<n.lemmas.length→vEO n.lemmas[k]!.value){e:DecL}(he:okQ P e.rat):szT (vCN S n e) P V v (c - n.lemmas.length) (d - 1):=by
 have h0:=h.take hn (Nat.le_refl _) hc;rw[List.take_length]at h0;refine⟨h.P1,h.units,h.lo,h.hi,h.rows,h.goal,?_,fun x hx=>?_,h0.lems,h0.can,h0.val,h0.num,h.B,h.nv⟩
 ·have:=h.plen
  show(S.path++[e]).length+_≤_
  rw[List.length_append,List.length_singleton]; omega
 ·rcases List.mem_append.1 hx with hx | hx
  ·exact h.path x hx
  ·rw[List.mem_singleton.1 hx]; exact he
def uIF(a b:Nat)(S:ScpL):PV:=.agg [.int .i64 S.q.g.ins,.imm (S.q.g.units.map vBL),.imm (S.q.g.outs.map vBL),.imm (S.q.r.lo.map vA5),.imm (S.q.r.hi.map vA5),.imm (S.q.r.rows.map vBL),.imm (S.q.goal.terms.map vB6),.bool S.q.goal.const.neg,vBJ S.q.goal.const.num,vBJ S.q.goal.const.den,.own a 0 S.path.length,.own b 0 S.lems.length]
theorem uF2:FO 64 Tryz.f64 [.tmp 5] 103:=mkO Tryz.func64 Tryz.ntmps64 Tryz.results64
def uIU(q:QryL):PV:=.func (.func 64) [] [.ptr 0 0 0,.cptr (vBK q) 0,.ptr 1 0 0]
abbrev vD7(a b:Nat)(S:ScpL):List (Nat×Blk):=[(0,⟨[uIF a b S],12,true⟩),(1,⟨[uIU S.q],1,false⟩),(a,⟨S.path.map vA9,5,true⟩),(b,⟨S.lems.map vBA,6,true⟩)]
def uNE(S:ScpL)(n:NodeL)(pv:PV)(s':St):Prop:=∃ S':ScpL,S'.q=S.q∧((pv=.bool true∧vBE S n=none∧S'=S)∨(pv=.bool false∧vBE S n=some S'.path))∧s'.h=hv (vD7 4 5 S')∧s'.z=zv []∧6≤s'.nx
theorem zES{ρ:Nat→Nat}{k a b a' b':Nat}{S:ScpL}(h1:a<k)(h2:b<k)(e1:a'=ρ a)(e2:b'=ρ b):rn ρ k 3 (uIF a b S) (uIF a' b' S):=by
 subst e1 e2;exact⟨rfl,rfl,rfl,rfl,rfl,rfl,rfl,rfl,rfl,rfl,⟨h1,rfl⟩,⟨h2,rfl⟩,trivial⟩
theorem vGH{ρ:Nat→Nat}{k a b a' b' m1 m2:Nat}{S S':ScpL}(hq:S'.q=S.q)(h1:a<k)(h2:b<k)(e1:a'=ρ a)(e2:b'=ρ b)(g1:m1=S'.path.length)(g2:m2=S'.lems.length):rn ρ k 3 (uIF a b S') (.agg [.int .i64 S.q.g.ins,.imm (S.q.g.units.map vBL),.imm (S.q.g.outs.map vBL),.imm (S.q.r.lo.map vA5),.imm (S.q.r.hi.map vA5),.imm (S.q.r.rows.map vBL),.imm (S.q.goal.terms.map vB6),.bool S.q.goal.const.neg,vBJ S.q.goal.const.num,vBJ S.q.goal.const.den,.own a' 0 m1,.own b' 0 m2]):=by
 subst e1 e2 g1 g2;rw[← hq];exact⟨rfl,rfl,rfl,rfl,rfl,rfl,rfl,rfl,rfl,rfl,⟨h1,rfl⟩,⟨h2,rfl⟩,trivial⟩
theorem vL7{h:Hp}{n a b:Nat}{S:ScpL}(ha:h a=some ⟨S.path.map vA9,5,true⟩)(hb:h b=some ⟨S.lems.map vBA,6,true⟩):frz h (n+3) (uIF a b S)=some (vBB S,[a,b]):=by
 refine zCA ?_;refine zAD (ks:=[]) rfl (zAD (ks:=[]) rfl (zAD (ks:=[]) rfl (zAD (ks:=[]) rfl (zAD (ks:=[]) rfl (zAD (ks:=[]) rfl (zAD (ks:=[]) rfl (zAD (ks:=[]) rfl (zAD (ks:=[]) rfl (zAD (ks:=[]) rfl (zAD (ks:=[a]) (zAJ ha rfl rfl fun x=>by cases n<;>rfl) (zAD (ks:=[b]) (zAJ hb rfl rfl fun x=>by cases n<;>rfl) rfl)))))))))))
theorem zDX{ρ:Nat→Nat}{k:Nat}{q:QryL}(h0:ρ 0=0:=by rfl)(h1:ρ 1=1:=by rfl)(hk:2≤k:=by decide):rn ρ k 3 (uIU q) (uIU q):=by
 refine⟨rfl,trivial,⟨zom,by rw[h0]⟩,rfl,⟨zom,by rw[h1]⟩,trivial⟩
theorem zK8{h:Hp}{n r:Nat}{e d:PV}{sz:Nat}{agg:Bool}(hb:h r=some ⟨[e],sz,agg⟩)(he:frz h n e=some (d,[])):frz h (n+1) (.ptr r 0 0)=some (.cptr d 0,[r]):=by
 unfold frz;simp only[hb,List.getElem?_cons_zero,he]
theorem uDK(a b:Nat)(S:ScpL)(h1:2≤a)(h2:a<b):hv (vD7 a b S) 0=some ⟨[uIF a b S],12,true⟩∧hv (vD7 a b S) 1=some ⟨[uIU S.q],1,false⟩∧hv (vD7 a b S) a=some ⟨S.path.map vA9,5,true⟩∧hv (vD7 a b S) b=some ⟨S.lems.map vBA,6,true⟩:=by
 rw[zG0];simp only[vD7,hl];refine⟨rfl,rfl,?_,?_⟩
 ·rw[if_neg zom,if_neg zom]; simp
 ·rw[if_neg zom,if_neg zom,if_neg zom]; simp
def uLZ(r:Nat):Nat:=if r=2 then 4 else if r=3 then 5 else r
def uCL(nx M r:Nat):Nat:=if r<2 then r else if r=nx then 4 else if r=nx+1 then 5 else M+r
theorem vMU{S:ScpL}{n:NodeL}{K:PV→St→Prop}{t:Tm}{h:Hp}{z:Fz}{nx:Nat}(hF:∀ t,FnH Tryz.prog G0 64 [vA7 n,.ptr 0 0 0,.cptr (vBK S.q) 0,.ptr 1 0 0] (uNE S n) ⟨t,hv (vD7 2 3 S),zv [],4⟩)(hh:h=hv (vD7 4 5 S))(hz0:z=zv [])(hnx:6≤nx)
 (hK:∀ (bv:Bool) S',S'.q=S.q→((bv=true∧vBE S n=none∧S'=S)∨(bv=false∧vBE S n=some S'.path))→K (.bool bv) ⟨fun _=>.any,hv (vD7 nx (nx+1) S'),zv [],nx+2⟩):FnH Tryz.prog G0 64 [vA7 n,.ptr 0 0 0,.cptr (vBK S.q) 0,.ptr 1 0 0] K ⟨t,h,z,nx⟩:=by
 subst hh hz0;have hF:=hF t;rw[zG0,zGZ]at hF;obtain⟨g0,g1,g4,g5⟩:=uDK 4 5 S zdd zdd;refine uKH uLZ hF rfl (fun i d' hd=>?_) (vGX (zHZ ?_)) zsm ?_ ⟨_,g0,fun i e=>by have:=congrArg Blk.agg e; cases this⟩ fun pv s' hk=>?_
 ·refine⟨d',hd,?_⟩
  match i,hd with
  | 0,hd=>cases hd; exact⟨rfl,rfl,rfl,rfl,rfl,rfl,rfl,rfl,rfl,trivial⟩
  | 1,hd=>cases hd; exact⟨zdd,rfl⟩
  | 2,hd=>cases hd; exact rfl
  | 3,hd=>cases hd; exact⟨zdd,rfl⟩
  | i+4,hd=>simp at hd
 ·exact⟨zAH zdd g0 (zES zdd zdd rfl rfl) rfl rfl,zAH zdd g1 (zDX rfl rfl) rfl rfl,zAF zdd g4 rfl (zAO fun _=>⟨rfl,by simp[vA9]⟩) rfl,zAF zdd g5 rfl (zAO fun _=>⟨rfl,by simp[vBA]⟩) rfl,trivial⟩
 ·intro p hp q hq
  simp only[vD7,List.mem_cons,List.not_mem_nil,or_false]at hp hq;rcases hp with rfl | rfl | rfl | rfl<;>rcases hq with rfl | rfl | rfl | rfl<;>simp[uLZ]
 ·obtain⟨S',hq,hb,h1,h2,h3⟩:=hk
  obtain⟨k0,k1,k4,k5⟩:=uDK 4 5 S' zdd zdd;obtain⟨bv,hbv⟩:∃ bv:Bool,pv=.bool bv:=by rcases hb with⟨e,_⟩ | ⟨e,_⟩<;>exact⟨_,e⟩
  subst hbv;have hKK:=hK bv S' hq (by simpa using hb);refine⟨bv,vD7 nx (nx+1) S',[],nx+2,uCL nx s'.nx,rfl,zom,fun r hr=>?_,vGX (zHZ ?_),zsm,?_,by rw[← zG0,← zGZ]; exact hKK⟩
  ·by_cases h:r<2
   ·left
    unfold uCL;rw[if_pos h];refine⟨zom,?_⟩;unfold uLZ;rw[if_neg zom,if_neg zom]
   ·right
    unfold uCL;rw[if_neg h,if_neg zom,if_neg zom]; omega
  ·rw[h1,h2]
   have e4:uCL nx s'.nx nx=4:=by unfold uCL; rw[if_neg zom,if_pos rfl]
   have e5:uCL nx s'.nx (nx+1)=5:=by unfold uCL; rw[if_neg zom,if_neg zom,if_pos rfl]
   exact⟨zAH zom k0 (zES zom zom e4.symm e5.symm) rfl rfl,zAH zom k1 (zDX rfl rfl zom) rfl rfl,zAF zom (by rw[e4]; exact k4) rfl (zAO fun _=>⟨rfl,by simp[vA9]⟩) rfl,zAF zom (by rw[e5]; exact k5) rfl (zAO fun _=>⟨rfl,by simp[vBA]⟩) rfl,trivial⟩
  ·intro p hp q hq
   simp only[vD7,List.mem_cons,List.not_mem_nil,or_false]at hp hq;rcases hp with rfl | rfl | rfl | rfl<;>rcases hq with rfl | rfl | rfl | rfl<;>intro hne<;>simp only[uCL]at hne ⊢<;>(try exact absurd rfl hne)<;>(repeat' split)<;>omega
theorem uMV:∀ (s:Nat) (n:NodeL) (S:ScpL) (P V v c d:Nat) (t:Tm),SizeOf.sizeOf n<s→n.Sm→vBH d n=true→vB0 S→szT S P V v c d→NodeZ P V v c n →
 FnH Tryz.prog G0 64 [vA7 n,.ptr 0 0 0,.cptr (vBK S.q) 0,.ptr 1 0 0] (uNE S n) ⟨t,hv (vD7 2 3 S),zv [],4⟩:=by
 intro s
 induction s with
 | zero=>intro n S P V v c d t h; omega
 | succ s ih =>
   intro n S P V v c d t hs hsm hf hS hz hn;have hl:=hsm.len;have l1:=hsm.prf.1;have l2:=hsm.lems.1;have p1:=hz.plen;have p2:=hz.num;have n2:=hn.num;refine uGZ vBD hT uF2 zsm ?_;refine sus ?_;refine zAZ ?_;refine sus ?_;refine vBT [] [(1,.ptr 0 0 0),(2,.cptr (vBK S.q) 0),(3,.ptr 1 0 0),(4,.cptr (vA7 n) 0),(6,.int .i64 S.lems.length)] (vD7 4 5 S) [] 6 zdd zsm trivial ?_ ?_
   ·refine⟨[2,3],[4],[(4,.cptr (vA7 n) 0)],[],⟨⟨⟨_,rfl⟩,trivial⟩,⟨⟨6,[4],zK8 rfl rfl,rfl⟩,trivial⟩,trivial⟩,⟨apx,zAG rfl,apx,zAG rfl,zAC rfl zsm,trivial⟩,?_,by simp[ren]⟩
    exact⟨zAH zdd rfl (zES zdd zdd rfl rfl) rfl rfl,zAH zdd rfl zDX rfl rfl,zAF zdd rfl rfl (zAO fun _=>⟨rfl,by simp[vA9]⟩) rfl,zAF zdd rfl rfl (zAO fun _=>⟨rfl,by simp[vBA]⟩) rfl,trivial⟩
   refine sus ?_;refine zAZ ?_;refine sus ?_;have e0:vCO S (n.lemmas.take 0)=S:=by unfold vCO; rw[List.take_zero,List.append_nil]
   refine zAP hT (fun(i:Nat)=>[(1,.ptr 0 0 0),(2,.cptr (vBK S.q) 0),(3,.ptr 1 0 0),(4,.cptr (vA7 n) 0),(6,.int .i64 S.lems.length),(15,.imm (n.lemmas.map vBA)),(16,.int .i64 n.lemmas.length),(17,.int .i64 i)])
    (fun i=>vD7 4 5 (vCO S (n.lemmas.take i))) [] 6 (fun i=>i≤n.lemmas.length∧∀ k,k<i→vQ2 (vCO S (n.lemmas.take k)) n.lemmas[k]!) (fun i=>n.lemmas.length - i) 0 ⟨Nat.zero_le _,fun k h=>by omega⟩ zdd zsm ?_ ?_
   ·dsimp only
    rw[e0];refine⟨[4,5],[],[],[],ttt,⟨apx,zAG rfl,apx,zAG rfl,zAC rfl rfl,zAE rfl rfl,zAC rfl zsm,zAC rfl rfl,trivial⟩,?_,by simp[ren]⟩;exact⟨zAH zdd rfl (zES zdd zdd rfl rfl) rfl rfl,zAH zdd rfl zDX rfl rfl,zAF zdd rfl rfl (zAO fun _=>⟨rfl,by simp[vA9]⟩) rfl,zAF zdd rfl rfl (zAO fun _=>⟨rfl,by simp[vBA]⟩) rfl,trivial⟩
   rintro i ⟨i1,i2⟩
   have hcan:∀ k,k<i→vEO n.lemmas[k]!.value:=fun k hk=>(i2 k hk).2.1
   have hzi:=hz.take hn i1 hcan;have hSi:vB0 (vCO S (n.lemmas.take i)):=uC3 hS;by_cases hi:i<n.lemmas.length
   ·have hm:=get_mem hi
    obtain⟨m1,m2,m3⟩:=hn.lem _ hm;have hvm:=uGL hn.val hz.val.1 hm;have cl:=uK2 (vCO S (n.lemmas.take i)) n.lemmas[i]! P V hSi hzi.szS (zCX zom m1) m2 zom;refine sus ?_
    all_goals try (exfalso; omega)
    refine zAZ ?_; (repeat' (first|refine stu ?_|with_reducible(refine brr ?_ ?_<;>intro h)));all_goals try(conv=>whnf)
    all_goals try (exfalso; omega)
    (refine zAZ ?_; refine sus ?_)
    all_goals try (exfalso; omega)
    (refine zAZ ?_; refine sus ?_)
    refine zLA cl (zAD (vL7 rfl rfl) (zAD rfl rfl)) ?_;refine sus ?_;refine zAZ ?_; (repeat' (first|refine stu ?_|with_reducible(refine brr ?_ ?_<;>intro h)));all_goals try(conv=>whnf)
    ·have hlem:=dB_true.1 (by assumption:dB _=true)
     have ln:(vCO S (n.lemmas.take i)).lems.length=S.lems.length+i:=by unfold vCO; rw[List.length_append,List.length_take]; omega
     (refine zAZ ?_; refine sus ?_)
     (refine zAZ ?_; refine sus ?_)
     have e1:vCO S (n.lemmas.take (i+1))=⟨S.q,S.path,(S.lems++n.lemmas.take i)++[n.lemmas[i]!]⟩:=by
      unfold vCO; rw[List.append_assoc,List.take_succ_eq_append_getElem hi,getElem!_pos n.lemmas i hi]
     refine⟨i+1,⟨⟨zom,fun k hk=>zA2 (p:=fun k=>vQ2 (vCO S (n.lemmas.take k)) n.lemmas[k]!) i2 hlem hk⟩,by show n.lemmas.length - (i+1)<n.lemmas.length - i; omega⟩,?_⟩;rw[e1];refine⟨[4,18],[],[],[],ttt,⟨apx,zAG rfl,apx,zAG rfl,zAC rfl rfl,zAE rfl rfl,zAC rfl rfl,zAC rfl rfl,trivial⟩,?_,by simp[ren]⟩;refine⟨zAH zdd rfl (vGH (S:=S) rfl zdd zdd rfl rfl rfl (by rw[ln]; simp[vCO]; omega)) rfl rfl,zAH zdd rfl zDX rfl rfl,zAF zdd rfl rfl (zAO fun _=>⟨rfl,by simp[vA9]⟩) rfl,?_,trivial⟩;exact zAF zdd rfl (by show _=List.map vBA _; rw[List.map_append]; rfl) (zAO fun _=>⟨rfl,by simp[vBA]⟩) rfl
    ·have hlem:=dB_false.1 (by assumption:dB _=false)
     refine vBT [] [(5,.bool false)] (vD7 4 5 (vCO S (n.lemmas.take i))) [] 6 zdd zsm trivial ?_ ?_
     ·exact⟨[4,5],[],[],[],ttt,⟨zAI rfl rfl,trivial⟩,⟨zAH zdd rfl (zES zdd zdd rfl rfl) rfl rfl,zAH zdd rfl zDX rfl rfl,zAF zdd rfl rfl (zAO fun _=>⟨rfl,by simp[vA9]⟩) rfl,zAF zdd rfl rfl (zAO fun _=>⟨rfl,by simp[vBA]⟩) rfl,trivial⟩,by simp[ren]⟩
     refine sus ?_;exact⟨vCO S (n.lemmas.take i),rfl,Or.inr ⟨rfl,zDP fun e=>hlem (e.1 i hi)⟩,rfl,rfl,Nat.le_refl 6⟩
   ·obtain rfl:i=n.lemmas.length:=by omega
    rw[List.take_length]at *
    have hlems:uGO S n.lemmas:=i2;refine sus ?_;refine zAZ ?_
    (repeat' (first|refine stu ?_|with_reducible(refine brr ?_ ?_<;>intro h)));all_goals try(conv=>whnf)
    all_goals try (exfalso; omega)
    refine zAZ ?_;have lt:(vCO S n.lemmas).lems.length=S.lems.length+n.lemmas.length:=by unfold vCO; rw[List.length_append]
    refine uJH ⟨sv [(1,.ptr 0 0 0),(6,.int .i64 S.lems.length)],hv (vD7 4 5 (vCO S n.lemmas)),zv [],6⟩ (vBE S n=none) (fun hb=>?_) fun H9=>?_
    ·refine sus ?_
     refine uIW 5 S.lems.length rfl (fun i e=>by have:=congrArg Blk.agg e; cases this) ?_;refine vBT [] [] (vD7 4 5 S) [] 6 zdd zsm trivial ?_ ?_
     ·refine⟨[4,5],[],[],[],ttt,trivial,?_,by simp[ren]⟩
      refine⟨zAH zdd rfl (vGH (S:=vCO S n.lemmas) rfl zdd zdd rfl rfl rfl rfl) rfl rfl,zAH zdd rfl zDX rfl rfl,zAF zdd rfl rfl (zAO fun _=>⟨rfl,by simp[vA9]⟩) rfl,?_,trivial⟩;exact zAF zdd rfl (by show List.take _ (List.map vBA (S.lems++n.lemmas))=_; rw[List.map_append,List.take_left' zsm]) (zAO fun _=>⟨rfl,by simp[vBA]⟩) rfl
     refine sus ?_
     (refine zAZ ?_; refine sus ?_)
     exact⟨S,rfl,Or.inl ⟨rfl,hb,rfl⟩,rfl,rfl,Nat.le_succ 6⟩
    ·(repeat' (first|refine stu ?_|with_reducible(refine brr ?_ ?_<;>intro h)));all_goals try(conv=>whnf)
     all_goals refine zAZ ?_; (repeat' (first|refine stu ?_|with_reducible(refine brr ?_ ?_<;>intro h)));all_goals try(conv=>whnf)
     ·have hk:n.kids.length=0:=by omega
      have he:n.empty=true:=by assumption
      have cr:=uK0 (vCO S n.lemmas) n.proof P V hSi hzi.szS hn.prf.1 (by have:=hn.prf.2; omega);refine zLA cr (zAD (vL7 rfl rfl) (zAD rfl rfl)) ?_;refine sus ?_;refine zAZ ?_; (repeat' (first|refine stu ?_|with_reducible(refine brr ?_ ?_<;>intro h)));all_goals try(conv=>whnf)
      ·have hr:=dB_true.1 (by assumption:dB _=true)
       refine vBT [] [(1,.ptr 0 0 0),(6,.int .i64 S.lems.length)] (vD7 4 5 (vCO S n.lemmas)) [] 6 zdd zsm trivial ⟨[4,5],[],[],[],ttt,⟨apx,zAC rfl rfl,trivial⟩,⟨zAH zdd rfl (zES zdd zdd rfl rfl) rfl rfl,zAH zdd rfl zDX rfl rfl,zAF zdd rfl rfl (zAO fun _=>⟨rfl,by simp[vA9]⟩) rfl,zAF zdd rfl rfl (zAO fun _=>⟨rfl,by simp[vBA]⟩) rfl,trivial⟩,by simp[ren]⟩ ?_;exact H9 (zGL ⟨hlems,by rw[if_pos hk,if_pos he]; exact hr⟩ hk)
      ·have hr:=dB_false.1 (by assumption:dB _=false)
       refine vBT [] [(5,.bool false)] (vD7 4 5 (vCO S n.lemmas)) [] 6 zdd zsm trivial ⟨[4,5],[],[],[],ttt,⟨zAI rfl rfl,trivial⟩,⟨zAH zdd rfl (zES zdd zdd rfl rfl) rfl rfl,zAH zdd rfl zDX rfl rfl,zAF zdd rfl rfl (zAO fun _=>⟨rfl,by simp[vA9]⟩) rfl,zAF zdd rfl rfl (zAO fun _=>⟨rfl,by simp[vBA]⟩) rfl,trivial⟩,by simp[ren]⟩ ?_;refine sus ?_;exact⟨vCO S n.lemmas,rfl,Or.inr ⟨rfl,zDP fun e=>hr (by have:=e.2; rw[if_pos hk,if_pos he]at this; exact this)⟩,rfl,rfl,Nat.le_refl 6⟩
     ·refine zAZ ?_; (repeat' (first|refine stu ?_|with_reducible(refine brr ?_ ?_<;>intro h)));all_goals try(conv=>whnf)
      all_goals try (exfalso; omega)
      have hk:n.kids.length=0:=by omega
      have he:¬ n.empty=true:=by rw[show n.empty=false by assumption]; decide
      have hvg:vB3 S.q.goal (S.q.g.ins+S.q.g.units.length):=hS.1.2.2;have cp:=uDV (vCO S n.lemmas) S.q.goal.Q n.proof P V 40000000 hSi hzi.szS (zG4 hz.goal zdd) (zLN hvg) hn.prf.1 (by have:=hn.prf.2; omega);rw[zNK hvg]at cp;refine zLA cp (zAD (vL7 rfl rfl) (zAD rfl (zAD rfl rfl))) ?_;refine sus ?_;refine zAZ ?_; (repeat' (first|refine stu ?_|with_reducible(refine brr ?_ ?_<;>intro h)));all_goals try(conv=>whnf)
      ·have hr:=dB_true.1 (by assumption:dB _=true)
       refine vBT [] [(1,.ptr 0 0 0),(6,.int .i64 S.lems.length)] (vD7 4 5 (vCO S n.lemmas)) [] 6 zdd zsm trivial ⟨[4,5],[],[],[],ttt,⟨apx,zAC rfl rfl,trivial⟩,⟨zAH zdd rfl (zES zdd zdd rfl rfl) rfl rfl,zAH zdd rfl zDX rfl rfl,zAF zdd rfl rfl (zAO fun _=>⟨rfl,by simp[vA9]⟩) rfl,zAF zdd rfl rfl (zAO fun _=>⟨rfl,by simp[vBA]⟩) rfl,trivial⟩,by simp[ren]⟩ ?_;exact H9 (zGL ⟨hlems,by rw[if_pos hk,if_neg he]; exact hr⟩ hk)
      ·have hr:=dB_false.1 (by assumption:dB _=false)
       refine vBT [] [(5,.bool false)] (vD7 4 5 (vCO S n.lemmas)) [] 6 zdd zsm trivial ⟨[4,5],[],[],[],ttt,⟨zAI rfl rfl,trivial⟩,⟨zAH zdd rfl (zES zdd zdd rfl rfl) rfl rfl,zAH zdd rfl zDX rfl rfl,zAF zdd rfl rfl (zAO fun _=>⟨rfl,by simp[vA9]⟩) rfl,zAF zdd rfl rfl (zAO fun _=>⟨rfl,by simp[vBA]⟩) rfl,trivial⟩,by simp[ren]⟩ ?_;refine sus ?_;exact⟨vCO S n.lemmas,rfl,Or.inr ⟨rfl,zDP fun e=>hr (by have:=e.2; rw[if_pos hk,if_neg he]at this; exact this)⟩,rfl,rfl,Nat.le_refl 6⟩
     ·refine zAZ ?_; (repeat' (first|refine stu ?_|with_reducible(refine brr ?_ ?_<;>intro h)));all_goals try(conv=>whnf)
      all_goals try (exfalso; omega)
      have hk:n.kids.length≠0:=by omega
      have hfo:=hf;rw[zA3 hk]at hfo;simp only[Bool.and_eq_true,decide_eq_true_eq]at hfo;have hd0:d≠0:=hfo.1.2;have h5:=hfo.1.1;unfold vBU at h5;obtain⟨e1,e2,e3,e4,e5⟩:=of_decide_eq_true h5;have hfk:=zDA e1 (d:=d);rw[hf]at hfk;have hfk:=hfk.symm;simp only[Bool.and_eq_true]at hfk;have cfit:=uHZ S.q n.split (by have:=hz.nv; have:=hS.1.1.1.1; unfold vCZ at *; omega) (zCX (by have:=hz.B; omega) hn.spl);have copp:=uK1 n.split ⟨e2,e3⟩;refine zAA cfit rfl ?_;refine sus ?_;refine zAZ ?_; (repeat' (first|refine stu ?_|with_reducible(refine brr ?_ ?_<;>intro h)));all_goals try(conv=>whnf)
      rotate_left
      ·have hr:=dB_false.1 (by assumption:dB _=false)
       refine vBT [] [(5,.bool false)] (vD7 4 5 (vCO S n.lemmas)) [] 6 zdd zsm trivial ⟨[4,5],[],[],[],ttt,⟨zAI rfl rfl,trivial⟩,⟨zAH zdd rfl (zES zdd zdd rfl rfl) rfl rfl,zAH zdd rfl zDX rfl rfl,zAF zdd rfl rfl (zAO fun _=>⟨rfl,by simp[vA9]⟩) rfl,zAF zdd rfl rfl (zAO fun _=>⟨rfl,by simp[vBA]⟩) rfl,trivial⟩,by simp[ren]⟩ ?_;refine sus ?_;exact⟨vCO S n.lemmas,rfl,Or.inr ⟨rfl,zDP fun e=>hr (by have:=e.2; rw[if_neg hk]at this; exact this)⟩,rfl,rfl,Nat.le_refl 6⟩
      have hfit:=dB_true.1 (by assumption:dB _=true);have hright:vC7 S n:=⟨hlems,by rw[if_neg hk]; exact hfit⟩
      (refine zAZ ?_; refine sus ?_)
      refine zAA copp rfl ?_;refine sus ?_;refine vBT [] [(1,.ptr 0 0 0),(2,.cptr (vBK S.q) 0),(3,.ptr 1 0 0),(4,.cptr (vA7 n) 0),(6,.int .i64 S.lems.length),(42,.imm ([n.split,opp n.split].map vA9)),(43,.int .i64 2),(44,.int .i64 0)] (vD7 4 5 (vCO S n.lemmas)) [] 6 zdd zsm trivial ?_ ?_
      ·refine⟨[4,5],[31],[(42,.imm ([n.split,opp n.split].map vA9))],[],⟨⟨⟨_,rfl⟩,trivial⟩,⟨⟨6,[31],rfl,rfl⟩,trivial⟩,trivial⟩,⟨apx,zAG rfl,apx,zAG rfl,zAC rfl rfl,zAE rfl rfl,zAC rfl rfl,zAC rfl rfl,trivial⟩,?_,by simp[ren]⟩
       exact⟨zAH zdd rfl (zES zdd zdd rfl rfl) rfl rfl,zAH zdd rfl zDX rfl rfl,zAF zdd rfl rfl (zAO fun _=>⟨rfl,by simp[vA9]⟩) rfl,zAF zdd rfl rfl (zAO fun _=>⟨rfl,by simp[vBA]⟩) rfl,trivial⟩
      refine sus ?_
      refine zAP hT (fun(i:Nat)=>[(1,.ptr 0 0 0),(2,.cptr (vBK S.q) 0),(3,.ptr 1 0 0),(4,.cptr (vA7 n) 0),(6,.int .i64 S.lems.length),(42,.imm ([n.split,opp n.split].map vA9)),(43,.int .i64 2),(44,.int .i64 i)]) (fun _=>vD7 4 5 (vCO S n.lemmas)) [] 6
       (fun i=>i≤2∧∀ j,j<i→vBE (vCN S n [n.split,opp n.split][j]!) n.kids[j]! = none) (fun i=>2 - i) 0 ⟨zom,fun j h=>by omega⟩ zdd zsm ?_ ?_
      ·refine⟨[4,5],[],[],[],ttt,⟨apx,zAG rfl,apx,zAG rfl,zAC rfl rfl,zAE rfl rfl,zAC rfl rfl,zAC rfl rfl,trivial⟩,?_,by simp[ren]⟩
       exact⟨zAH zdd rfl (zES zdd zdd rfl rfl) rfl rfl,zAH zdd rfl zDX rfl rfl,zAF zdd rfl rfl (zAO fun _=>⟨rfl,by simp[vA9]⟩) rfl,zAF zdd rfl rfl (zAO fun _=>⟨rfl,by simp[vBA]⟩) rfl,trivial⟩
      rintro i ⟨i3,i4⟩
      by_cases hi2:i<2
      ·refine sus ?_
       refine zAZ ?_; (repeat' (first|refine stu ?_|with_reducible(refine brr ?_ ?_<;>intro h)));all_goals try(conv=>whnf)
       all_goals try (exfalso; omega)
       (refine zAZ ?_; refine sus ?_)
       obtain⟨D,hD⟩:∃ D,[n.split,opp n.split][i]! = D:=⟨_,rfl⟩
       have hDk:(i=0∧D=n.split)∨(i=1∧D=opp n.split):=by
        rcases Nat.lt_or_ge i 1 with h | h
        ·obtain rfl:i=0:=by omega
         exact Or.inl ⟨rfl,hD.symm⟩
        ·obtain rfl:i=1:=by omega
         exact Or.inr ⟨rfl,hD.symm⟩
       have lp:(vCO S n.lemmas).path.length=S.path.length:=rfl
       try rw[hD]
       (refine zAZ ?_; refine sus ?_)
       have hdr:D.rat=n.split.rat:=by
        rcases hDk with⟨_,e⟩ | ⟨_,e⟩<;>rw[e]
        rfl
       have hDf:vE8 S.q D:=by
        rcases hDk with⟨_,e⟩ | ⟨_,e⟩<;>rw[e]
        ·exact hfit
        ·exact vOF hfit
       have hcan2:∀ k,k<n.lemmas.length→vEO n.lemmas[k]!.value:=hcan;have hz2:szT (vCN S n D) P V v (c - n.lemmas.length) (d - 1):=hz.kid hd0 hn hcan2 (by rw[hdr]; exact hn.spl);have hS2:vB0 (vCN S n D):=Go.PI.ok_kid hS hDf;have hkm:n.kids[i]! ∈ n.kids:=get_mem zom;have hks:=NodeL.sizeOf_kid hkm
       have hkf:vBH (d - 1) n.kids[i]! = true:=by
        rcases hDk with⟨e,_⟩ | ⟨e,_⟩<;>rw[e]
        ·exact hfk.2.1
        ·exact hfk.2.2
       have hvis:=fun t=>ih n.kids[i]! (vCN S n D) P V _ _ (d - 1) t zom (hsm.kid hkm) hkf hS2 hz2 (hn.kid _ hkm)
       refine vBT [] [(1,.ptr 0 0 0),(2,.cptr (vBK S.q) 0),(3,.ptr 1 0 0),(4,.cptr (vA7 n) 0),(6,.int .i64 S.lems.length),(9,.int .i64 i),(42,.imm ([n.split,opp n.split].map vA9)),(43,.int .i64 2),(44,.int .i64 i)] (vD7 4 5 (vCN S n D)) [] 6 zdd zsm trivial ?_ ?_
       ·refine⟨[17,5],[],[],[],ttt,⟨apx,zAG rfl,apx,zAG rfl,zAC rfl rfl,zAC rfl rfl,zAE rfl rfl,zAC rfl rfl,zAC rfl rfl,trivial⟩,?_,by simp[ren]⟩
        refine⟨zAH zdd rfl (vGH (S:=S) rfl zdd zdd rfl rfl (by simp[vCN,vCO]) rfl) rfl rfl,zAH zdd rfl zDX rfl rfl,?_,zAF zdd rfl rfl (zAO fun _=>⟨rfl,by simp[vBA]⟩) rfl,trivial⟩;exact zAF zdd rfl (by show _=List.map vA9 (S.path++[D]); rw[List.map_append]; rfl) (zAO fun _=>⟨rfl,by simp[vA9]⟩) rfl
       refine sus ?_;rw[zBZ];refine sus ?_;refine zGH (vMU hvis rfl rfl zdd fun bv S' hq' hbv=>?_);refine sus ?_;refine zAZ ?_; (repeat' (first|refine stu ?_|with_reducible(refine brr ?_ ?_<;>intro h)));all_goals try(conv=>whnf)
       ·obtain⟨hb0,rfl⟩:vBE (vCN S n D) n.kids[i]! = none∧S'=vCN S n D:=by
         rcases hbv with⟨_,e⟩ | ⟨e,_⟩
         ·exact e
         ·exact absurd e (by rw[show bv=true by assumption]; decide)
        have lk:(vCN S n D).path.length=S.path.length+1:=by simp[vCN]
        (refine zAZ ?_; refine sus ?_)
        refine uIW 12 S.path.length rfl (fun i e=>by have:=congrArg Blk.agg e; cases this) ?_;refine vBT [] [(1,.ptr 0 0 0),(2,.cptr (vBK S.q) 0),(3,.ptr 1 0 0),(4,.cptr (vA7 n) 0),(6,.int .i64 S.lems.length),(42,.imm ([n.split,opp n.split].map vA9)),(43,.int .i64 2),(44,.int .i64 i)] (vD7 4 5 (vCO S n.lemmas)) [] 6 zdd zsm trivial ?_ ?_
        ·refine⟨[12,13],[],[],[],ttt,⟨apx,zAG rfl,apx,zAG rfl,zAC rfl rfl,zAE rfl rfl,zAC rfl rfl,zAC rfl rfl,trivial⟩,?_,by simp[ren]⟩
         refine⟨zAH zdd rfl (vGH (S:=vCN S n D) rfl zdd zdd rfl rfl (by rw[lk]; show Int.toNat _ - 0=S.path.length; omega) rfl) rfl rfl,zAH zdd rfl zDX rfl rfl,?_,zAF zdd rfl rfl (zAO fun _=>⟨rfl,by simp[vBA]⟩) rfl,trivial⟩;exact zAF zdd rfl (by show List.take _ (List.map vA9 (S.path++[D]))=_; rw[List.map_append,List.take_left' zsm]; rfl) (zAO fun _=>⟨rfl,by simp[vA9]⟩) rfl
        refine sus ?_;refine⟨i+1,⟨⟨zom,fun j hj=>zA2 (p:=fun j=>vBE (vCN S n [n.split,opp n.split][j]!) n.kids[j]! = none) i4 (by rw[hD]; exact hb0) hj⟩,by show 2 - (i+1)<2 - i; omega⟩,?_⟩;refine⟨[4,5],[],[],[],ttt,⟨apx,zAG rfl,apx,zAG rfl,zAC rfl rfl,zAE rfl rfl,zAC rfl rfl,zAC rfl rfl,trivial⟩,?_,by simp[ren]⟩;exact⟨zAH zdd rfl (zES zdd zdd rfl rfl) rfl rfl,zAH zdd rfl zDX rfl rfl,zAF zdd rfl rfl (zAO fun _=>⟨rfl,by simp[vA9]⟩) rfl,zAF zdd rfl rfl (zAO fun _=>⟨rfl,by simp[vBA]⟩) rfl,trivial⟩
       ·have hb0:vBE (vCN S n D) n.kids[i]! = some S'.path:=by
         rcases hbv with⟨e,_⟩ | ⟨_,e⟩
         ·exact absurd e (by rw[show bv=false by assumption]; decide)
         ·exact e
        refine vBT [] [(5,.bool false)] (vD7 4 5 S') [] 6 zdd zsm trivial ⟨[12,13],[],[],[],ttt,⟨zAI rfl rfl,trivial⟩,⟨zAH zdd rfl (zES zdd zdd rfl rfl) rfl rfl,zAH zdd rfl zDX rfl rfl,zAF zdd rfl rfl (zAO fun _=>⟨rfl,by simp[vA9]⟩) rfl,zAF zdd rfl rfl (zAO fun _=>⟨rfl,by simp[vBA]⟩) rfl,trivial⟩,by simp[ren]⟩ ?_;refine sus ?_;refine⟨S',hq',Or.inr ⟨rfl,?_⟩,rfl,rfl,Nat.le_refl 6⟩;rw[zCS hright (zG3 e1)];rcases hDk with⟨e,e2⟩ | ⟨e,e2⟩
        ·rw[e,e2]at hb0
         rw[hb0]
        ·have h0:=i4 0 zom
         rw[e,e2]at hb0;rw[show vBE (vCN S n n.split) n.kids[0]! = none from h0];exact hb0
      ·obtain rfl:i=2:=by omega
       have hnone:vBE S n=none:=by
        rw[zCS hright (zG3 e1),show vBE (vCN S n n.split) n.kids[0]! = none from i4 0 zom];exact i4 1 zom
       refine sus ?_
       (refine zAZ ?_; refine sus ?_)
       refine vBT [] [(1,.ptr 0 0 0),(6,.int .i64 S.lems.length)] (vD7 4 5 (vCO S n.lemmas)) [] 6 zdd zsm trivial ⟨[4,5],[],[],[],ttt,⟨apx,zAC rfl rfl,trivial⟩,⟨zAH zdd rfl (zES zdd zdd rfl rfl) rfl rfl,zAH zdd rfl zDX rfl rfl,zAF zdd rfl rfl (zAO fun _=>⟨rfl,by simp[vA9]⟩) rfl,zAF zdd rfl rfl (zAO fun _=>⟨rfl,by simp[vBA]⟩) rfl,trivial⟩,by simp[ren]⟩ ?_;exact H9 hnone
open Go.Proofs Go.PI
open Classical in
noncomputable def vDN(g:GraL):Int:=if VaG g then g.ins+g.units.length else 0
theorem uAN:FO 60 Tryz.f60 [.tmp 2] 12:=mkO Tryz.func60 Tryz.ntmps60 Tryz.results60
theorem uH0(g:GraL)(hg:vGY 950000000 g):Fn 60 [vD2 g] (.data (.int .i64 (vDN g))):=by
 have cv:=uCB g hg;have l1:=hg.1.1;refine zAL vBD hT uAN (by simp[vD2]) ?_;refine sts ?_;refine zAA cv rfl ?_
 (refine gob ?_ ?_<;>intro h)
 ·have hv:VaG g:=dB_true.1 (by assumption)
  have h1:=hv.1;refine sts ?_;exact zAB rfl (by unfold vDN; rw[if_pos hv]; simp)
 ·have hv:¬ VaG g:=dB_false.1 (by assumption)
  exact zAB rfl (by unfold vDN; rw[if_neg hv])
structure szQ(q:QryL)(P:Nat):Prop where
 P1:1≤P
 g:vGY P q.g
 r:vQV P q.r
 goal:okA 40000000 q.goal
theorem VaQ_split{q:QryL}:VaQ q↔vDN q.g≠0∧VaR q.r q.g.ins∧vCK q.goal (vDN q.g)=true:=by
 unfold VaQ vDN;by_cases h:VaG q.g
 ·rw[if_pos h,validB_true]
  have:=h.1;exact⟨fun e=>⟨zom,e.2⟩,fun e=>⟨h,e.2⟩⟩
 ·rw[if_neg h]
  exact⟨fun e=>absurd e.1 h,fun e=>absurd rfl e.1⟩
open Classical in
noncomputable def vCV(q:QryL)(n:NodeL):List DecL×Int:=if n.valid=true∧VaQ q then(match vBE ⟨q,[],[]⟩ n with
 | none=>([],0)
 | some p=>(p,12)) else([],1)
theorem uEQ{ρ:Nat→Nat}{k a b:Nat}{q:QryL}(h0:a=ρ 0)(h1:b=ρ 1)(hk:2≤k:=by decide):rn ρ k 3 (uIU q) (.func (.func 64) [] [.ptr a 0 0,.cptr (vBK q) 0,.ptr b 0 0]):=by
 subst h0 h1;exact⟨rfl,trivial,⟨zom,rfl⟩,rfl,⟨zom,rfl⟩,trivial⟩
theorem vXP:∀ (k:Nat) (n:NodeL) (S:ScpL) (d:Nat) (p:List DecL),SizeOf.sizeOf n<k→vBH d n=true→vBE S n=some p→p.length≤S.path.length+d:=by
 intro k
 induction k with
 | zero=>intro n S d p h; omega
 | succ k ih =>
   intro n S d p hk hf hb;by_cases hr:vC7 S n
   ·by_cases h0:n.kids.length=0
    ·rw[zGL hr h0]at hb; cases hb
    ·have hfo:=hf
     rw[zA3 h0]at hfo;simp only[Bool.and_eq_true,decide_eq_true_eq]at hfo;have hd0:d≠0:=hfo.1.2;have h5:=hfo.1.1;unfold vBU at h5;obtain⟨e1,_⟩:=of_decide_eq_true h5;have hfk:=zDA e1 (d:=d);rw[hf]at hfk;have hfk:=hfk.symm;simp only[Bool.and_eq_true]at hfk;have s0:=NodeL.sizeOf_kid (get_mem (l:=n.kids) (show 0<n.kids.length by omega));have s1:=NodeL.sizeOf_kid (get_mem (l:=n.kids) (show 1<n.kids.length by omega));rw[zCS hr (zG3 e1)]at hb;have lk:∀ e,(vCN S n e).path.length=S.path.length+1:=fun e=>by simp[vCN]
     split at hb
     ·rename_i p' hp
      cases hb
      have:=ih _ _ (d - 1) _ zom hfk.2.1 hp;rw[lk]at this; omega
     ·have:=ih _ _ (d - 1) _ zom hfk.2.2 hb
      rw[lk]at this; omega
   ·rw[zDP hr]at hb; cases hb; omega
theorem uAG:FO 38 Tryz.f38 [.tmp 4,.tmp 5] 52:=mkO Tryz.func38 Tryz.ntmps38 Tryz.results38
theorem vXJ(q:QryL)(n:NodeL)(P V v:Nat)(hvV:v≤V)(hq:szQ q P)(hs:n.Sm)(hc:n.cnt≤4194304)(hz:NodeZ P V v 1048576 n)(hB:P+2 * V+20≤100000000):Fn 38 [vBK q,vA7 n] (.data (.tup [.imm ((vCV q n).1.map vA9),.int .i64 (vCV q n).2])):=by
 obtain⟨k,k1,k2,cshp⟩:=uKZ _ n 2048 65536 (Nat.lt_succ_self _) hs hc zdd zdd;have cva:=uH0 q.g ⟨⟨hq.g.1.1,fun f hf=>zCI zom (hq.g.1.2 f hf)⟩,⟨hq.g.2.1,fun f hf=>zCI zom (hq.g.2.2 f hf)⟩⟩;have crg:=vW7 q.r q.g.ins ⟨zFR zom hq.r.1,zFR zom hq.r.2.1,fun f hf=>zCI zom (hq.r.2.2.1 f hf),hq.r.2.2.2⟩;have clv:=zMK q.goal (vDN q.g) (zCI zom hq.goal);have ev:(vBH 2048 n && decide (n.cnt≤65536))=n.valid:=rfl;rw[ev]at cshp k2
 have bad:¬ (n.valid=true∧vDN q.g≠0∧VaR q.r q.g.ins∧vCK q.goal (vDN q.g)=true)→PV.tup [.imm [],.int .i64 1]=.tup [.imm ((vCV q n).1.map vA9),.int .i64 (vCV q n).2]:=fun h=>by
  unfold vCV;rw[if_neg (fun e=>h ⟨e.1,VaQ_split.1 e.2⟩)]; rfl
 refine zAL vBD hT uAG (by simp[vBK]) ?_;refine sus ?_;refine vBT [] [(2,.cptr (vBK q) 0),(3,.cptr (vA7 n) 0)] [] [] 0 zdd zsm trivial ?_ ?_
 ·exact⟨[],[0,1],[(2,.cptr (vBK q) 0),(3,.cptr (vA7 n) 0)],[],⟨⟨⟨_,rfl⟩,⟨_,rfl⟩,trivial⟩,⟨⟨6,[0],zK8 rfl rfl,rfl⟩,⟨6,[1],zK8 rfl rfl,rfl⟩,trivial⟩,trivial⟩,⟨zAG rfl,zAG rfl,trivial⟩,trivial,by simp[ren]⟩
 refine sus ?_;refine zAA cva rfl ?_;refine sus ?_
 (refine zAZ ?_; refine sus ?_)
 refine zAA cshp rfl ?_;refine sus ?_;refine zAZ ?_; (repeat' (first|refine stu ?_|with_reducible(refine brr ?_ ?_<;>intro h)));all_goals try(conv=>whnf)
 rotate_left 2
 ·have hv:n.valid=false:=by assumption
  refine sts ?_;exact zAB rfl (bad fun e=>by rw[hv]at e; exact absurd e.1 zdd)
 ·have hv:vDN q.g=0:=by assumption
  refine sts ?_;exact zAB rfl (bad fun e=>e.2.1 hv)
 have hnv:¬ vDN q.g=0:=by assumption
 have hval:n.valid=true:=by assumption
 refine zAA crg rfl ?_
 (repeat' (first|refine stu ?_|with_reducible(refine brr ?_ ?_<;>intro h)));all_goals try(conv=>whnf)
 rotate_left
 ·have hv:=dB_false.1 (by assumption:dB _=false)
  refine sts ?_;exact zAB rfl (bad fun e=>hv e.2.2.1)
 have hrg:=dB_true.1 (by assumption:dB _=true);refine zAA clv rfl ?_;refine sus ?_;refine zAZ ?_; (repeat' (first|refine stu ?_|with_reducible(refine brr ?_ ?_<;>intro h)));all_goals try(conv=>whnf)
 rotate_left
 ·have hv:vCK q.goal (vDN q.g)=false:=by assumption
  refine sts ?_;exact zAB rfl (bad fun e=>by rw[hv]at e; exact absurd e.2.2.2 zdd)
 have hlv:vCK q.goal (vDN q.g)=true:=by assumption
 (refine zAZ ?_; refine sus ?_)
 (refine zAZ ?_; refine sus ?_)
 (refine zAZ ?_; refine sus ?_)
 refine vBT [(.cl 35 0 10,5,true),(.cl 35 0 11,6,true)] [(3,.cptr (vA7 n) 0),(9,.ptr 0 0 0),(10,.ptr 1 0 0)] (vD7 4 5 ⟨q,[],[]⟩) [] 6 zdd zsm ⟨_,_,rfl,rfl,rfl,_,_,rfl,rfl,rfl,trivial⟩ ?_ ?_
 ·refine⟨[35,37,0,0,40,41],[],[],[],ttt,⟨zAG rfl,apx,apx,trivial⟩,?_,by simp[ren]⟩
  exact⟨zAH zdd rfl (zES zdd zdd rfl rfl) rfl rfl,zAH zdd rfl (uEQ rfl rfl) rfl rfl,zAF zdd rfl rfl (zAO fun _=>⟨rfl,by simp[vA9]⟩) rfl,zAF zdd rfl rfl (zAO fun _=>⟨rfl,by simp[vBA]⟩) rfl,trivial⟩
 have hVa:VaQ q:=VaQ_split.2 ⟨hnv,hrg,hlv⟩;have hS:vB0 ⟨q,[],[]⟩:=⟨hVa,fun d hd=>by cases hd⟩
 have hsz:szT ⟨q,[],[]⟩ P V v 1048576 2048:=by
  refine⟨hq.P1,hq.g.1.2,hq.r.1,hq.r.2.1,⟨hq.r.2.2.2,hq.r.2.2.1⟩,hq.goal,(by show 0+2048≤1048576; omega),(fun d hd=>by cases hd),(fun d hd=>by cases hd),(fun d hd=>by cases hd),⟨hvV,fun m hm=>by cases hm⟩,(by show 0+1048576≤1048576; omega),hB,?_⟩;have h1:=hVa.1.1;have h2:=hVa.1.2.1;show q.g.ins+q.g.units.length≤1280
  omega
 have hfo:vBH 2048 n=true:=by unfold NodeL.valid at hval; simp only[Bool.and_eq_true]at hval; exact hval.1
 have hvis:=fun t=>uMV _ n ⟨q,[],[]⟩ P V v 1048576 2048 t (Nat.lt_succ_self _) hs hfo hS hsz hz
 have hres:vCV q n=(match vBE ⟨q,[],[]⟩ n with
  | none=>([],0)
  | some p=>(p,12)):=if_pos ⟨hval,hVa⟩
 refine sus ?_;refine zGH (vMU hvis rfl rfl zdd fun bv S' hq' hbv=>?_)
 have hpl:S'.path.length≤2048:=by
  rcases hbv with⟨_,_,e⟩ | ⟨_,e⟩
  ·rw[e]; exact Nat.zero_le _
  ·have:=vXP _ n ⟨q,[],[]⟩ 2048 _ (Nat.lt_succ_self _) hfo e
   simpa using this
 refine sus ?_
 (refine gob ?_ ?_<;>intro h)
 ·have hb0:vBE ⟨q,[],[]⟩ n=none:=by
   rcases hbv with⟨_,e,_⟩ | ⟨e,_⟩
   ·exact e
   ·exact absurd e (by rw[show bv=true by assumption]; decide)
  rw[hres,hb0];exact zAB rfl rfl
 ·have hb0:vBE ⟨q,[],[]⟩ n=some S'.path:=by
   rcases hbv with⟨e,_⟩ | ⟨_,e⟩
   ·exact absurd e (by rw[show bv=false by assumption]; decide)
   ·exact e
  rw[hres,hb0];exact zAB (zJY (zAD (zAJ (f:=vA9) (l:=S'.path) rfl (by show []++List.take S'.path.length (List.map vA9 S'.path)=_; rw[List.nil_append,List.take_of_length_le zsm]) (by show 0+(List.take S'.path.length (List.map vA9 S'.path)).length=_; simp) fun x=>rfl) rfl)) rfl
end Go.PI.Tryz
