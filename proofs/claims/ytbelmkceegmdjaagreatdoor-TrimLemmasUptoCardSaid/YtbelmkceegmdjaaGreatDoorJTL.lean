/-
  The laws TrimLemmas, TrimSplits.
-/
import Derived.Test.YtbelmkceegmdjaaGreatDoorJTW
set_option linter.unusedVariables false
set_option linter.unusedSimpArgs false
set_option linter.unnecessarySimpa false
set_option maxHeartbeats 0
namespace Go.PI.Tryz
open Go.Proofs Go.PI
theorem zGM:∀ (l:List LemL) (O:List Bool),∀ m∈vBS l O,m∈l
 | [],O,m,h=>by simp[vBS]at h
 | a::l,[],m,h=>by simp[vBS]at h
 | a :: l,o::O,m,h=>by
   unfold vBS at h
   split at h
   .rcases rA7.1 h with rfl | h
    .simp
    .exact rBC _ (zGM l O m h)
   .exact rBC _ (zGM l O m h)
theorem zNA:∀ (ks:List NodeL) (b:Int) (R:List Int),∀ x∈vDO ks b R,∃ k∈ks,x=vC4 k b R
 | [],b,R,x,h=>by simp[vDO]at h
 | k::ks,b,R,x,h=>by
   simp only[vDO,rA7]at h;rcases h with rfl | h
   .exact⟨k,zsm,rfl⟩
   .obtain⟨k',h1,h2⟩:=zNA ks b R x h
    exact⟨k',rBC _ h1,h2⟩
theorem vGS{f:RowL->RowL}{l:List MultL}(h:vCK l):vCK (vBL f l):=by
 refine⟨by simpa [vBL]using h.1,fun m hm=>?_⟩;obtain⟨x,hx,rfl⟩:=rA5.1 hm;exact h.2 x hx
theorem uM9:∀ (k:Nat) (n:NodeL) (b:Int) (R:List Int),SizeOf.sizeOf n<k->n.Sm->(vC4 n b R).Sm:=by
 intro k
 induction k with
 | zero=>intro n b R h; omega
 | succ k ih =>
   intro n b R hk h;rw[zF2];refine .mk _ ⟨?_,fun m hm=>?_⟩ h.dec ?_ (fun x hx=>?_) (vGS h.prf)
   .show((vBS _ _).map _).length<_
    rw[rAM];have:=zKE n.lemmas (ownB n.lemmas n.kids n.proof b);have:=h.lems.1;omega
   .obtain⟨y,hy,rfl⟩:=rA5.1 (show m∈(vBS _ _).map _ from hm)
    have:=h.lems.2 y (zGM _ _ y hy);exact⟨this.1,vGS this.2⟩
   .show(vDO _ _ _).length<_
    rw[zIG]; exact h.len
   .obtain⟨y,hy,rfl⟩:=zNA _ _ _ x hx
    exact ih y _ _ (by have:=NodeL.sizeOf_kid hy; omega) (h.kid hy)
theorem zNG:zeroN.Sm:=.mk _ ⟨zdd,fun m hm=>by cases hm⟩ ⟨zdd,zdd⟩ zdd (fun k hk=>by cases hk) ⟨zdd,fun p hp=>by cases hp⟩
theorem vXV{n:NodeL}(h:n.Sm):(vBO n).Sm:=by
 unfold vBO
 split
 .exact uM9 _ n 0 [] (rAL _) h
 .exact zNG
theorem vJX:FO 3 Tryz.f3 [.tmp 2] 16:=mkO Tryz.func3 Tryz.ntmps3 Tryz.results3
theorem vK1(n:NodeL)(hs:n.Sm)(hr:NodeRg n)(hw:n.wt<=2097152):Fn 3 [vA6 n] (.data (.bool true)):=by
 have cz:=vK5 _ n 250 (rAL _) hw;have ca:=zOR n hs hr zom;have cb:=zOV n hs hr zom;have ce:=zGU _ (vBO n) (vBO n) (rAL _) (vXV hs);rw[rB1 rfl]at ce;generalize vBO n=m at *
 refine zAK vBC hT vJX zsm ?_;refine sns ?_;refine zAA zEQ rfl ?_;refine sns ?_;refine zAA cz rfl ?_
 refine gon ?_ ?_<;>intro h
 .refine zAA zEQ rfl ?_
  refine sns ?_;exact rGV
 .refine zAA ca rfl ?_
  refine sns ?_;refine zAA cb rfl ?_;refine sns ?_;refine zAA ce rfl ?_;refine sns ?_;exact rGV
theorem uGN{q:QryL}{P V v:Nat}{n:NodeL}(h:inS q P V v n):(splV q n).1.Sm:=by
 unfold splV
 split
 .exact(zJG _ _ _ (rAL _) (rAR _) (zNS _ n _ _ (rAL _) h.z) (vLY _ n _ (rAL _) h.tok)).1
 .exact zNG
theorem zL9:FO 4 Tryz.f4 [.tmp 4] 38:=mkO Tryz.func4 Tryz.ntmps4 Tryz.results4
theorem vK0(q:QryL)(n:NodeL)(Bq Bn:Nat)(hi:inB q n Bq Bn)(hr:NodeRg n):Fn 4 [vBJ q,vA6 n] (.data (.bool true)):=by
 obtain⟨b,hb,cf⟩:=vQV q n (by have:=hi.wt; have:=hi.B; omega) hi.q.g.1.1 hi.q.r.2.2.2;cases b with
 | true =>
   obtain⟨f1,f2,f3,f4⟩:=hb rfl;have hS:=vX5 hi zom hr;have c1:=zOQ q _ _ _ n hS;have c2:=zOX q _ _ _ n hS zom;have ce:=zGU _ (splV q n).1 (splV q n).1 (rAL _) (uGN hS);rw[rB1 rfl]at ce;generalize splV q n=R at *
   refine zAK vBC hT zL9 (by simp[vBJ]) ?_;refine sns ?_;refine zAA zEQ rfl ?_;refine sns ?_;refine zAA cf rfl ?_;refine sns ?_;refine zAA c1 rfl ?_;refine sns ?_;refine zAA c2 rfl ?_
   refine gon ?_ ?_<;>intro h
   rotate_left
   .exact absurd trivial h
   refine zAA ce rfl ?_;refine sns ?_;exact rGV
 | false =>
   refine zAK vBC hT zL9 (by simp[vBJ]) ?_;refine sns ?_;refine zAA zEQ rfl ?_;refine sns ?_;refine zAA cf rfl ?_;refine sns ?_;refine zAA zEQ rfl ?_;refine sns ?_;exact rGV
end Go.PI.Tryz
