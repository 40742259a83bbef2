/-
  The laws TrimLemmas, TrimSplits.
-/
import Derived.Test.YtbelmkceegmdjaaGreatDoorCTW
set_option linter.unusedVariables false
set_option linter.unusedSimpArgs false
set_option linter.unnecessarySimpa false
set_option maxHeartbeats 0
namespace Go.PI.Tryz
open Go.Proofs Go.PI
theorem zHY:∀ (l:List LemL) (O:List Bool),∀ m∈vBS l O,m∈l
 | [],O,m,h=>by simp[vBS]at h
 | a::l,[],m,h=>by simp[vBS]at h
 | a :: l,o::O,m,h=>by
   unfold vBS at h
   split at h
   .rcases rA7.1 h with rfl | h
    .simp
    .exact rA8 _ (zHY l O m h)
   .exact rA8 _ (zHY l O m h)
theorem vIC:∀ (ks:List NodeL) (b:Int) (R:List Int),∀ x∈vDS ks b R,∃ k∈ks,x=vCU k b R
 | [],b,R,x,h=>by simp[vDS]at h
 | k::ks,b,R,x,h=>by
   simp only[vDS,rA7]at h;rcases h with rfl | h
   .exact⟨k,zsm,rfl⟩
   .obtain⟨k',h1,h2⟩:=vIC ks b R x h
    exact⟨k',rA8 _ h1,h2⟩
theorem uBE{f:RowL->RowL}{l:List MultL}(h:vCP l):vCP (vBL f l):=by
 refine⟨by simpa [vBL]using h.1,fun m hm=>?_⟩;obtain⟨x,hx,rfl⟩:=rA5.1 hm;exact h.2 x hx
end Go.PI.Tryz
