/-
  The laws TrimLemmas, TrimSplits.
-/
import Derived.Test.YtbelmkceegmdjaaGreatDoorKTW
set_option linter.unusedVariables false
set_option linter.unusedSimpArgs false
set_option linter.unnecessarySimpa false
set_option maxHeartbeats 0
namespace Go.PI.Tryz
open Go.Proofs Go.PI
theorem zHX:∀ (l:List LemL) (O:List Bool),∀ m∈vBS l O,m∈l
 | [],O,m,h=>by simp[vBS]at h
 | a::l,[],m,h=>by simp[vBS]at h
 | a :: l,o::O,m,h=>by
   unfold vBS at h
   split at h
   .rcases rBA.1 h with rfl | h
    .simp
    .exact rBC _ (zHX l O m h)
   .exact rBC _ (zHX l O m h)
theorem vH6:∀ (ks:List NodeL) (b:Int) (R:List Int),∀ x∈vDQ ks b R,∃ k∈ks,x=vC3 k b R
 | [],b,R,x,h=>by simp[vDQ]at h
 | k::ks,b,R,x,h=>by
   simp only[vDQ,rBA]at h;rcases h with rfl | h
   .exact⟨k,zsm,rfl⟩
   .obtain⟨k',h1,h2⟩:=vH6 ks b R x h
    exact⟨k',rBC _ h1,h2⟩
theorem uBE{f:RowL->RowL}{l:List MultL}(h:vCK l):vCK (vBL f l):=by
 refine⟨by simpa [vBL]using h.1,fun m hm=>?_⟩;obtain⟨x,hx,rfl⟩:=rA5.1 hm;exact h.2 x hx
end Go.PI.Tryz
