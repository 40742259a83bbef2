/-
  Regions: Valid, Box, empty, Contains, Within of the program.
-/
import Derived.Test.YtbelmkceegmdjaaGreatDoorCPD
import Derived.Test.YtbelmkceegmdjaaGreatDoorCLB
import Derived.Test.YtbelmkceegmdjaaGreatDoorCRC
import Derived.Test.YtbelmkceegmdjaaGreatDoorCPE
set_option linter.unusedVariables false
set_option linter.unusedSimpArgs false
set_option linter.unnecessarySimpa false
set_option maxHeartbeats 0
namespace Go.PI.Tryz
open Go.Proofs Go.PI
theorem zA2{j n:Nat}{p:Nat→Prop}(h:∀ j,j<n→p j)(hn:p n)(hj:j<n+1):p j:=by
 rcases Nat.lt_or_eq_of_le (Nat.le_of_lt_succ hj) with hj | rfl
 ·exact h j hj
 ·exact hn
theorem get_mem{α:Type}[Inhabited α]{l:List α}{i:Nat}(h:i<l.length):l[i]! ∈ l:=by rw[getElem!_pos l i h]; exact List.getElem_mem h
instance:LawfulBEq AffL:=inferInstance
def uHG(l:List RatL):Prop:=∀ i,i<l.length→l[i]! = cr (qv l[i]!)
theorem vLK:FO 114 Tryz.f114 [.tmp 2] 16:=mkO Tryz.func114 Tryz.ntmps114 Tryz.results114
theorem zO5(l:List RatL)(hl:vVJ 2147483596 l):Fn 114 [.imm (l.map vA5)] (.data (.bool (dB (uHG l)))):=by
 have l1:=hl.1;refine zAL vBD hT vLK zsm ?_;refine sts ?_;refine zBA hT (fun n:Nat=>[(0,.imm (l.map vA5)),(3,.int .i64 n)]) (fun n=>n≤l.length∧∀ j,j<n→l[j]! = cr (qv l[j]!)) (fun n=>l.length - n) 0 ⟨zom,fun j hj=>by omega⟩ ?_ ?_
 ·exact⟨zAE rfl rfl,zAC rfl rfl,trivial⟩
 intro n ⟨hn,he⟩;by_cases hi:n<l.length
 ·have q1:=zDY hl hi
  have cc:=zGI l[n]! q1.1 (by have:=q1.2; omega) (by have:=q1.2; omega)
  (refine gob ?_ ?_<;>intro h)
  ·refine zAA cc rfl ?_
   (refine gob ?_ ?_<;>intro h)
   ·exact⟨n+1,⟨⟨zom,fun j hj=>zA2 (p:=fun j=>l[j]! = cr (qv l[j]!)) he (by assumption) hj⟩,zom⟩,zAE rfl rfl,zAC rfl zom,trivial⟩
   ·exact zAB rfl (congrArg PV.bool (zGG fun e=>h (e n hi)))
  all_goals (exfalso; omega)
 ·(refine gob ?_ ?_<;>intro h)
  all_goals try (exfalso; omega)
  exact zAB rfl (congrArg PV.bool (vWJ fun j hj=>he j zom))
def vR4(l:List AffL)(n:Int):Prop:=∀ i,i<l.length→vB3 l[i]! n
theorem vGW:FO 113 Tryz.f113 [.tmp 4] 19:=mkO Tryz.func113 Tryz.ntmps113 Tryz.results113
theorem zLV(l:List AffL)(m:Int)(hl:uGE 2147483596 l):Fn 113 [.imm (l.map vBL),.int .i64 m] (.data (.bool (dB (vR4 l m)))):=by
 have l1:=hl.1;refine zAL vBD hT vGW zsm ?_;refine sts ?_;refine zBA hT (fun n:Nat=>[(0,.imm (l.map vBL)),(1,.int .i64 m),(5,.int .i64 n)]) (fun n=>n≤l.length∧∀ j,j<n→vB3 l[j]! m) (fun n=>l.length - n) 0 ⟨zom,fun j hj=>by omega⟩ ?_ ?_
 ·exact⟨zAE rfl rfl,zAC rfl rfl,zAC rfl rfl,trivial⟩
 intro n ⟨hn,he⟩;by_cases hi:n<l.length
 ·have cc:=zKD l[n]! m (hl.2 _ (get_mem hi))
  (refine gob ?_ ?_<;>intro h)
  ·refine zAA cc rfl ?_
   (refine gob ?_ ?_<;>intro h)
   ·exact⟨n+1,⟨⟨zom,fun j hj=>zA2 (p:=fun j=>vB3 l[j]! m) he (validB_true.1 (by assumption)) hj⟩,zom⟩,zAE rfl rfl,zAC rfl rfl,zAC rfl zom,trivial⟩
   ·exact zAB rfl (congrArg PV.bool (zGG fun e=>by have:=validB_true.2 (e n hi); simp_all))
  all_goals (exfalso; omega)
 ·(refine gob ?_ ?_<;>intro h)
  all_goals try (exfalso; omega)
  exact zAB rfl (congrArg PV.bool (vWJ fun j hj=>he j zom))
def ixP(p:AffL→Bool)(l:List AffL):Int:=if l.any p then(l.findIdx p:Nat) else -1
theorem uJ7{p:AffL→Bool}{l:List AffL}{i:Nat}(hi:i<l.length)(h:p l[i]! = true)(hb:∀ j,j<i→p l[j]! = false):(i:Int)=ixP p l:=by
 have h1:l.any p=true:=List.any_eq_true.2 ⟨_,get_mem hi,h⟩;have h2:l.findIdx p=i:=(List.findIdx_eq hi).2 ⟨by rw[getElem!_pos l i hi]at h; exact h,fun j hj=>by have:=hb j hj; rw[getElem!_pos l j zom]at this; exact this⟩;unfold ixP; rw[if_pos h1,h2]
theorem uJ8{p:AffL→Bool}{l:List AffL}(hb:∀ j,j<l.length→p l[j]! = false):-1=ixP p l:=by
 have h1:¬ l.any p=true:=fun e=>by
  obtain⟨x,hx,e⟩:=List.any_eq_true.1 e;obtain⟨j,hj,rfl⟩:=List.getElem_of_mem hx;have:=hb j hj;rw[getElem!_pos l j hj,e]at this; cases this
 unfold ixP; rw[if_neg h1]
theorem uMU{p:AffL→Bool}{l:List AffL}:decide (ixP p l≥0)=l.any p:=by
 unfold ixP; split
 ·rename_i h; rw[h]; simp
 ·rename_i h; simp at h; simp; exact h
theorem uJ9{p:AffL→Bool}{l:List AffL}:-1≤ixP p l∧ixP p l≤l.length:=by
 unfold ixP; split
 ·have:=List.findIdx_le_length (p:=p) (xs:=l); omega
 ·omega
theorem vVF:FO 130 Tryz.f130 [.tmp 4] 19:=mkO Tryz.func130 Tryz.ntmps130 Tryz.results130
theorem uCA(l:List AffL)(p:AffL→Bool)(g:FuncId)(c:PV)(hl:l.length≤1048576)(hp:∀ f∈l,Fn g [vBL f,.cptr c 0] (.data (.bool (p f)))):Fn 130 [.imm (l.map vBL),.func (.func g) [] [.cptr c 0]] (.data (.int .i64 (ixP p l))):=by
 refine zAL vBD hT vVF zsm ?_;refine sts ?_;refine zBA hT (fun n:Nat=>[(0,.imm (l.map vBL)),(1,.func (.func g) [] [.cptr c 0]),(7,.int .i64 l.length),(8,.int .i64 n)]) (fun n=>n≤l.length∧∀ j,j<n→p l[j]! = false) (fun n=>l.length - n) 0 ⟨zom,fun j hj=>by omega⟩ ?_ ?_
 ·exact⟨zAE rfl rfl,vPD rfl,zAC rfl zsm,zAC rfl rfl,trivial⟩
 intro n ⟨hn,he⟩;by_cases hi:n<l.length
 ·have cc:=hp l[n]! (get_mem hi)
  (refine gob ?_ ?_<;>intro h)
  ·refine zAA cc rfl ?_
   (refine gob ?_ ?_<;>intro h)
   ·exact zAB rfl (congrArg (PV.int .i64) (uJ7 hi h he))
   ·exact⟨n+1,⟨⟨zom,fun j hj=>zA2 (p:=fun j=>p l[j]! = false) he (by simpa using h) hj⟩,zom⟩,zAE rfl rfl,vPD rfl,zAC rfl rfl,zAC rfl zom,trivial⟩
  all_goals (exfalso; omega)
 ·(refine gob ?_ ?_<;>intro h)
  all_goals try (exfalso; omega)
  exact zAB rfl (congrArg (PV.int .i64) (uJ8 fun j hj=>he j zom))
theorem vI3:FO 96 Tryz.f96 [.tmp 4] 9:=mkO Tryz.func96 Tryz.ntmps96 Tryz.results96
theorem zN2(l:List AffL)(p:AffL→Bool)(g:FuncId)(c:PV)(hl:l.length≤1048576)(hp:∀ f∈l,Fn g [vBL f,.cptr c 0] (.data (.bool (p f)))):Fn 96 [.imm (l.map vBL),.func (.func g) [] [.cptr c 0]] (.data (.bool (l.any p))):=by
 have cc:=uCA l p g c hl hp;have hg:=uJ9 (p:=p) (l:=l);refine zAL vBD hT vI3 zsm ?_;refine sts ?_;refine zAA cc rfl ?_;refine sts ?_;exact zAB rfl (congrArg PV.bool uMU)
theorem uFK:FO 97 Tryz.f97 [.tmp 3] 8:=mkO Tryz.func97 Tryz.ntmps97 Tryz.results97
theorem uKR(f:AffL)(n:Int)(hf:okA 2147483596 f):Fn 97 [vBL f,.cptr (.int .i64 n) 0] (.data (.bool (!vCK f n))):=by
 have cc:=zMK f n hf;refine zAL vBD hT uFK zsm ?_;refine sts ?_;refine zAA cc rfl ?_;refine sts ?_;exact zAB rfl rfl
theorem vQI:FO 62 Tryz.f62 [.tmp 4] 69:=mkO Tryz.func62 Tryz.ntmps62 Tryz.results62
theorem vW7(r:RegL)(n:Int)(hr:vQV 950000000 r):Fn 62 [vFY r,.int .i64 n] (.data (.bool (dB (VaR r n)))):=by
 obtain⟨hlo,hhi,hrw,hrl⟩:=hr;have no:¬ VaR r n→false=dB (VaR r n):=zGG;have l1:=hlo.1;have l2:=hhi.1;have cc:=zN2 r.rows (fun f=>!vCK f n) 97 (.int .i64 n) hrl (fun f hf=>uKR f n (zCI zdd (hrw f hf)));refine zAL vBD hT vQI (by simp[vFY]) ?_
 (repeat' (first|refine stp ?_|with_reducible(refine brr ?_ ?_<;>intro h)));all_goals try(conv=>whnf)
 ·exact zAB rfl (congrArg PV.bool (no fun e=>by have:=e.1.1; omega))
 ·exact zAB rfl (congrArg PV.bool (no fun e=>by have:=e.1.2; omega))
 ·exact zAB rfl (congrArg PV.bool (no fun e=>by have:=e.2.1; omega))
 ·exact zAB rfl (congrArg PV.bool (no fun e=>by have:=e.2.2.1; omega))
 ·exact zAB rfl (congrArg PV.bool (no fun e=>by have:=e.2.2.2.1; omega))
 ·have h0:(1≤n∧n≤256)∧(r.lo.length:Int)=n∧(r.hi.length:Int)=n∧r.rows.length≤256:=⟨⟨zom,zom⟩,zom,zom,zom⟩
  obtain⟨h1,h2,h3,h4⟩:=h0
  refine zAP hT (fun(i:Nat)=>[(2,.ptr 0 0 0),(3,.ptr 1 0 0),(34,.imm (r.lo.map vA5)),(35,.int .i64 r.lo.length),(36,.int .i64 i)]) (fun _=>[(0,⟨[vFY r],3,true⟩),(1,⟨[.int .i64 n],1,false⟩)]) [] 2
   (fun i=>i≤r.lo.length∧∀ j,j<i→uII r j) (fun i=>r.lo.length - i) 0 ⟨Nat.zero_le _,fun j h=>zom⟩ zdd zsm ?_ ?_
  ·exact⟨[0,1],[],[],[],ttt,⟨apx,apx,zAE rfl rfl,zAC rfl zsm,zAC rfl rfl,trivial⟩,⟨bbx,bbx,trivial⟩,by simp[ren]⟩
  intro i ⟨i1,i2⟩;by_cases hi:i<r.lo.length
  ·have hi2:i<r.hi.length:=by omega
   have q1:=zDY hlo hi;have q2:=zDY hhi hi2;have c1:=zGU r.lo[i]! q1.1 (by have:=q1.2; omega) (by have:=q1.2; omega);have c2:=zGU r.hi[i]! q2.1 (by have:=q2.2; omega) (by have:=q2.2; omega);have c3:=uKT r.lo[i]! r.hi[i]! q1.1 q2.1 (by have:=q1.2; omega) (by have:=q1.2; omega) (by have:=q2.2; omega) (by have:=q2.2; omega);have hb:¬ uII r i→¬ VaR r n:=fun h e=>h (e.2.2.2.2.1 i hi)
   (refine gob ?_ ?_<;>intro h)
   ·refine zAA c1 rfl ?_
    (refine gob ?_ ?_<;>intro h)
    rotate_left
    ·exact zAB rfl (congrArg PV.bool (no (hb fun e=>h e.1)))
    ·refine zAA c2 rfl ?_
     (refine gob ?_ ?_<;>intro h)
     rotate_left
     ·exact zAB rfl (congrArg PV.bool (no (hb fun e=>h e.2.1)))
     ·refine zAA c3 rfl ?_
      (refine gob ?_ ?_<;>intro h)
      ·exact zAB rfl (congrArg PV.bool (no (hb fun e=>by have:=sgn_le.2 e.2.2; omega)))
      ·exact⟨i+1,⟨⟨zom,fun j hj=>zA2 (p:=fun j=>uII r j) i2 ⟨by assumption,by assumption,sgn_le.1 zom⟩ hj⟩,by show r.lo.length - (i+1)<r.lo.length - i; omega⟩,[0,1],[],[],[],ttt,⟨apx,apx,zAE rfl rfl,zAC rfl rfl,zAC rfl rfl,trivial⟩,⟨bbx,bbx,trivial⟩,by simp[ren]⟩
   all_goals (exfalso; omega)
  ·(refine gob ?_ ?_<;>intro h)
   all_goals try (exfalso; omega)
   refine zAA cc rfl ?_;refine sts ?_;refine zAB rfl (congrArg PV.bool ?_)
   have hv:r.rows.any (fun f=>!vCK f n)=false↔∀ j,j<r.rows.length→vB3 r.rows[j]! n:=by
    rw[List.any_eq_false];constructor
    ·intro e j hj
     have:=e _ (get_mem hj);exact validB_true.1 (by simpa using this)
    ·intro e f hf
     obtain⟨j,hj,rfl⟩:=List.getElem_of_mem hf;have:=validB_true.2 (e j hj);rw[getElem!_pos r.rows j hj]at this;simp[this]
   rw[Bool.eq_iff_iff,dB_true,Bool.not_eq_true',hv];exact⟨fun e=>⟨h1,h2,h3,h4,fun j hj=>i2 j zom,e⟩,fun e=>e.2.2.2.2.2⟩
end Go.PI.Tryz
