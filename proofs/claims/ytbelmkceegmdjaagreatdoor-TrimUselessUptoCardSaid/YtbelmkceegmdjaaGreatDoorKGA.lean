/-
  Regions: Valid, Box, empty, Contains, Within of the program.
-/
import Derived.Test.YtbelmkceegmdjaaGreatDoorKRC
set_option linter.unusedVariables false
set_option linter.unusedSimpArgs false
set_option linter.unnecessarySimpa false
set_option maxHeartbeats 0
namespace Go.PI.Tryz
open Go.Proofs Go.PI
theorem zA6{j n:Nat}{p:Nat->Prop}(h:∀ j,j<n->p j)(hn:p n)(hj:j<n+1):p j:=by
 rcases rB7 (rCA hj) with hj | rfl
 .exact h j hj
 .exact hn
theorem get_mem{α:Type}[Inhabited α]{l:List α}{i:Nat}(h:i<l.length):l[i]! ∈ l:=by rw[rAT l i h]; exact rB3 h
instance:LawfulBEq AffL:=inferInstance
def uKK(l:List RatL):Prop:=∀ i,i<l.length->l[i]! = cr (qv l[i]!)
theorem vML:FO 114 Tryz.f114 [.tmp 2] 16:=mkO Tryz.func114 Tryz.ntmps114 Tryz.results114
theorem zP0(l:List RatL)(hl:vXM 2147483596 l):Fn 114 [.imm (l.map vA5)] (.data (.bool (dB (uKK l)))):=by
 have l1:=hl.1;refine zAL vBC hT vML zsm ?_;refine sts ?_;refine zA4 hT (fun n:Nat=>[(0,.imm (l.map vA5)),(3,.int .i64 n)]) (fun n=>n<=l.length/\∀ j,j<n->l[j]! = cr (qv l[j]!)) (fun n=>l.length - n) 0 ⟨zom,fun j hj=>by omega⟩ ?_ ?_
 .exact⟨rAJ,rAI,rGU⟩
 intro n ⟨hn,he⟩;by_cases hi:n<l.length
 .have q1:=zD2 hl hi
  have cc:=zGT l[n]! q1.1 (by have:=q1.2; omega) (by have:=q1.2; omega)
  refine gob ?_ ?_<;>intro h
  .refine zAA cc rfl ?_
   refine gob ?_ ?_<;>intro h
   .exact⟨n+1,⟨⟨zom,fun j hj=>zA6 (p:=fun j=>l[j]! = cr (qv l[j]!)) he rAC hj⟩,zom⟩,rAJ,zAC rfl zom,rGU⟩
   .exact zAB rfl (rA3 PV.bool (zGR fun e=>h (e n hi)))
  all_goals (exfalso; omega)
 ·refine gob ?_ ?_<;>intro h
  all_goals try (exfalso; omega)
  exact zAB rfl (rA3 PV.bool (vYT fun j hj=>he j zom))
def vTX(l:List AffL)(n:Int):Prop:=∀ i,i<l.length->vB8 l[i]! n
theorem vHG:FO 113 Tryz.f113 [.tmp 4] 19:=mkO Tryz.func113 Tryz.ntmps113 Tryz.results113
theorem zMJ(l:List AffL)(m:Int)(hl:uJG 2147483596 l):Fn 113 [.imm (l.map vBM),.int .i64 m] (.data (.bool (dB (vTX l m)))):=by
 have l1:=hl.1;refine zAL vBC hT vHG zsm ?_;refine sts ?_;refine zA4 hT (fun n:Nat=>[(0,.imm (l.map vBM)),(1,.int .i64 m),(5,.int .i64 n)]) (fun n=>n<=l.length/\∀ j,j<n->vB8 l[j]! m) (fun n=>l.length - n) 0 ⟨zom,fun j hj=>by omega⟩ ?_ ?_
 .exact⟨rAJ,rAI,rAI,rGU⟩
 intro n ⟨hn,he⟩;by_cases hi:n<l.length
 .have cc:=zKX l[n]! m (hl.2 _ (get_mem hi))
  refine gob ?_ ?_<;>intro h
  .refine zAA cc rfl ?_
   refine gob ?_ ?_<;>intro h
   .exact⟨n+1,⟨⟨zom,fun j hj=>zA6 (p:=fun j=>vB8 l[j]! m) he (validB_true.1 rAC) hj⟩,zom⟩,rAJ,rAI,zAC rfl zom,rGU⟩
   .exact zAB rfl (rA3 PV.bool (zGR fun e=>by have:=validB_true.2 (e n hi); simp_all))
  all_goals (exfalso; omega)
 ·refine gob ?_ ?_<;>intro h
  all_goals try (exfalso; omega)
  exact zAB rfl (rA3 PV.bool (vYT fun j hj=>he j zom))
def ixP(p:AffL->Bool)(l:List AffL):Int:=if l.any p then(l.findIdx p:Nat) else -1
theorem uNE{p:AffL->Bool}{l:List AffL}{i:Nat}(hi:i<l.length)(h:p l[i]! = true)(hb:∀ j,j<i->p l[j]! = false):(i:Int)=ixP p l:=by
 have h1:l.any p=true:=rCY.2 ⟨_,get_mem hi,h⟩;have h2:l.findIdx p=i:=(List.findIdx_eq hi).2 ⟨by rw[rAT l i hi]at h; exact h,fun j hj=>by have:=hb j hj; rw[rAT l j zom]at this; exact this⟩;unfold ixP; rw[rAU h1,h2]
theorem uNF{p:AffL->Bool}{l:List AffL}(hb:∀ j,j<l.length->p l[j]! = false):-1=ixP p l:=by
 have h1:¬ l.any p=true:=fun e=>by
  obtain⟨x,hx,e⟩:=rCY.1 e;obtain⟨j,hj,rfl⟩:=rA8 hx;have:=hb j hj;rw[rAT l j hj,e]at this; cases this
 unfold ixP; rw[rAM h1]
theorem uP3{p:AffL->Bool}{l:List AffL}:decide (ixP p l>=0)=l.any p:=by
 unfold ixP; split
 .rename_i h; rw[h]; simp
 .rename_i h; simp at h; simp; exact h
theorem uNG{p:AffL->Bool}{l:List AffL}:-1<=ixP p l/\ixP p l<=l.length:=by
 unfold ixP; split
 .have:=List.findIdx_le_length (p:=p) (xs:=l); omega
 .omega
theorem vXG:FO 130 Tryz.f130 [.tmp 4] 19:=mkO Tryz.func130 Tryz.ntmps130 Tryz.results130
theorem uE4(l:List AffL)(p:AffL->Bool)(g:FuncId)(c:PV)(hl:l.length<=1048576)(hp:∀ f∈l,Fn g [vBM f,.cptr c 0] (.data (.bool (p f)))):Fn 130 [.imm (l.map vBM),.func (.func g) [] [.cptr c 0]] (.data (.int .i64 (ixP p l))):=by
 refine zAL vBC hT vXG zsm ?_;refine sts ?_;refine zA4 hT (fun n:Nat=>[(0,.imm (l.map vBM)),(1,.func (.func g) [] [.cptr c 0]),(7,.int .i64 l.length),(8,.int .i64 n)]) (fun n=>n<=l.length/\∀ j,j<n->p l[j]! = false) (fun n=>l.length - n) 0 ⟨zom,fun j hj=>by omega⟩ ?_ ?_
 .exact⟨rAJ,vQ2 rfl,zAC rfl zsm,rAI,rGU⟩
 intro n ⟨hn,he⟩;by_cases hi:n<l.length
 .have cc:=hp l[n]! (get_mem hi)
  refine gob ?_ ?_<;>intro h
  .refine zAA cc rfl ?_
   refine gob ?_ ?_<;>intro h
   .exact zAB rfl (rA3 (PV.int .i64) (uNE hi h he))
   .exact⟨n+1,⟨⟨zom,fun j hj=>zA6 (p:=fun j=>p l[j]! = false) he (by simpa using h) hj⟩,zom⟩,rAJ,vQ2 rfl,rAI,zAC rfl zom,rGU⟩
  all_goals (exfalso; omega)
 ·refine gob ?_ ?_<;>intro h
  all_goals try (exfalso; omega)
  exact zAB rfl (rA3 (PV.int .i64) (uNF fun j hj=>he j zom))
theorem vJ0:FO 96 Tryz.f96 [.tmp 4] 9:=mkO Tryz.func96 Tryz.ntmps96 Tryz.results96
theorem zOR(l:List AffL)(p:AffL->Bool)(g:FuncId)(c:PV)(hl:l.length<=1048576)(hp:∀ f∈l,Fn g [vBM f,.cptr c 0] (.data (.bool (p f)))):Fn 96 [.imm (l.map vBM),.func (.func g) [] [.cptr c 0]] (.data (.bool (l.any p))):=by
 have cc:=uE4 l p g c hl hp;have hg:=uNG (p:=p) (l:=l);refine zAL vBC hT vJ0 zsm ?_;refine sts ?_;refine zAA cc rfl ?_;refine sts ?_;exact zAB rfl (rA3 PV.bool uP3)
theorem uIL:FO 97 Tryz.f97 [.tmp 3] 8:=mkO Tryz.func97 Tryz.ntmps97 Tryz.results97
theorem uN0(f:AffL)(n:Int)(hf:okA 2147483596 f):Fn 97 [vBM f,.cptr (.int .i64 n) 0] (.data (.bool (!vC4 f n))):=by
 have cc:=zM9 f n hf;refine zAL vBC hT uIL zsm ?_;refine sts ?_;refine zAA cc rfl ?_;refine sts ?_;exact rGV
theorem vSA:FO 62 Tryz.f62 [.tmp 4] 69:=mkO Tryz.func62 Tryz.ntmps62 Tryz.results62
theorem vZL(r:RegL)(n:Int)(hr:vSO 950000000 r):Fn 62 [vGB r,.int .i64 n] (.data (.bool (dB (VaR r n)))):=by
 obtain⟨hlo,hhi,hrw,hrl⟩:=hr;have no:¬ VaR r n->false=dB (VaR r n):=zGR;have l1:=hlo.1;have l2:=hhi.1;have cc:=zOR r.rows (fun f=>!vC4 f n) 97 (.int .i64 n) hrl (fun f hf=>uN0 f n (zCN zdd (hrw f hf)));refine zAL vBC hT vSA (by simp[vGB]) ?_
 (repeat' (first|refine stp ?_|with_reducible(refine brr ?_ ?_<;>intro h)));all_goals try(conv=>whnf)
 .exact zAB rfl (rA3 PV.bool (no fun e=>by have:=e.1.1; omega))
 .exact zAB rfl (rA3 PV.bool (no fun e=>by have:=e.1.2; omega))
 .exact zAB rfl (rA3 PV.bool (no fun e=>by have:=e.2.1; omega))
 .exact zAB rfl (rA3 PV.bool (no fun e=>by have:=e.2.2.1; omega))
 .exact zAB rfl (rA3 PV.bool (no fun e=>by have:=e.2.2.2.1; omega))
 .have h0:(1<=n/\n<=256)/\(r.lo.length:Int)=n/\(r.hi.length:Int)=n/\r.rows.length<=256:=⟨⟨zom,zom⟩,zom,zom,zom⟩
  obtain⟨h1,h2,h3,h4⟩:=h0
  refine zAN hT (fun(i:Nat)=>[(2,.ptr 0 0 0),(3,.ptr 1 0 0),(34,.imm (r.lo.map vA5)),(35,.int .i64 r.lo.length),(36,.int .i64 i)]) (fun _=>[(0,⟨[vGB r],3,true⟩),(1,⟨[.int .i64 n],1,false⟩)]) [] 2
   (fun i=>i<=r.lo.length/\∀ j,j<i->uLP r j) (fun i=>r.lo.length - i) 0 ⟨rA7 _,fun j h=>zom⟩ zdd zsm ?_ ?_
  .exact⟨[0,1],[],[],[],ttt,⟨apx,apx,rAJ,zAC rfl zsm,rAI,rGU⟩,⟨bbx,bbx,rGU⟩,rAA⟩
  intro i ⟨i1,i2⟩;by_cases hi:i<r.lo.length
  .have hi2:i<r.hi.length:=by omega
   have q1:=zD2 hlo hi;have q2:=zD2 hhi hi2;have c1:=zG6 r.lo[i]! q1.1 (by have:=q1.2; omega) (by have:=q1.2; omega);have c2:=zG6 r.hi[i]! q2.1 (by have:=q2.2; omega) (by have:=q2.2; omega);have c3:=uN2 r.lo[i]! r.hi[i]! q1.1 q2.1 (by have:=q1.2; omega) (by have:=q1.2; omega) (by have:=q2.2; omega) (by have:=q2.2; omega);have hb:¬ uLP r i->¬ VaR r n:=fun h e=>h (e.2.2.2.2.1 i hi)
   refine gob ?_ ?_<;>intro h
   .refine zAA c1 rfl ?_
    refine gob ?_ ?_<;>intro h
    rotate_left
    .exact zAB rfl (rA3 PV.bool (no (hb fun e=>h e.1)))
    .refine zAA c2 rfl ?_
     refine gob ?_ ?_<;>intro h
     rotate_left
     .exact zAB rfl (rA3 PV.bool (no (hb fun e=>h e.2.1)))
     .refine zAA c3 rfl ?_
      refine gob ?_ ?_<;>intro h
      .exact zAB rfl (rA3 PV.bool (no (hb fun e=>by have:=sgn_le.2 e.2.2; omega)))
      .exact⟨i+1,⟨⟨zom,fun j hj=>zA6 (p:=fun j=>uLP r j) i2 ⟨by assumption,by assumption,sgn_le.1 zom⟩ hj⟩,by show r.lo.length - (i+1)<r.lo.length - i; omega⟩,[0,1],[],[],[],ttt,⟨apx,apx,rAJ,rAI,rAI,rGU⟩,⟨bbx,bbx,rGU⟩,rAA⟩
   all_goals (exfalso; omega)
  ·refine gob ?_ ?_<;>intro h
   all_goals try (exfalso; omega)
   refine zAA cc rfl ?_;refine sts ?_;refine zAB rfl (rA3 PV.bool ?_)
   have hv:r.rows.any (fun f=>!vC4 f n)=false↔∀ j,j<r.rows.length->vB8 r.rows[j]! n:=by
    rw[rC8];constructor
    .intro e j hj
     have:=e _ (get_mem hj);exact validB_true.1 (by simpa using this)
    .intro e f hf
     obtain⟨j,hj,rfl⟩:=rA8 hf;have:=validB_true.2 (e j hj);rw[rAT r.rows j hj]at this;simp[this]
   rw[rA1,dB_true,rEL,hv];exact⟨fun e=>⟨h1,h2,h3,h4,fun j hj=>i2 j zom,e⟩,fun e=>e.2.2.2.2.2⟩
end Go.PI.Tryz
