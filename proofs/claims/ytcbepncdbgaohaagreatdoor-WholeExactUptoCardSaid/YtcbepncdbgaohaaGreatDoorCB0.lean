/-
  Copying rows whose elements have any number of cells.
-/
import Derived.Test.YtcbepncdbgaohaaGreatDoorCA0
import Derived.Shelf.Spec.SlicesInsertGrow
import Derived.Shelf.SlicesG.Delete
set_option linter.all false
set_option maxHeartbeats 0
namespace Go.PI
open Go Go.Proofs Go.Lib
variable {P:Program}
def Lh(w:World)(dT sT ty elem:TypeId)(sz b o dLen dCap:Nat)(a:Addr)(sLen sCap:Nat)(cs:List Value)
 (hu:P.underlying dT=some (.slice elem)) (hs:(P.info? elem).map (·.size)=some sz) (hn:cs.length=Nat.min sLen dLen*sz)
 (hsrc:∀ j v,cs[j]?=some v->w.cell? (a.add j)=some v) (hc:∀ j,j<cs.length->(w.cell? ⟨b,o+j,none⟩).isSome=true) (hf:∀ j,j<cs.length->w.frozen? ⟨b,o+j,none⟩=false) (h1:∀ v∈cs,v.oneCell'=true) :
 (Builtin.copy_ #[dT,sT] ty #[.slice (some ⟨b,o,none⟩) dLen dCap,.slice (some a) sLen sCap]).run P w=.ok (goInt (Nat.min sLen dLen)) (w.setCells b o cs):=by
 have hl:=run_loadCells_list (P:=P) w a cs hsrc;have hst:=run_storeCells_cells (P:=P) b o cs 0 w (by simpa using hc) (by simpa using hf) h1;cases hq:P.info? elem with
 |none=>simp[hq]at hs
 | some i =>
   have hi:i.size=sz:=by simpa [hq]using hs
   simp[Builtin.copy_,run_underlying hu,Builtin.lenOf,Builtin.firstCells,sizeOf,typeInfo,hq,hi,<- hn,hl,hst]
def ZE(w:World)(t e ty:TypeId)(z:Value)(ht:P.underlying t=some (.slice e))(hv:∀ w,(zeroValue e).run P w=.ok z w)(b o n c:Nat)(hn:0<n)(zs:List Value)(hz:(Builtin.zeroCells z.cells n).toList=zs)(h1:∀ u∈zs,u.oneCell'=true)
 (hc:∀ j,j<zs.length->(w.cell? ⟨b,o+j,none⟩).isSome=true) (hf:∀ j,j<zs.length->w.frozen? ⟨b,o+j,none⟩=false) :
 (Builtin.clear_ #[t] ty #[.slice (some ⟨b,o,none⟩) n c]).run P w=.ok (.tuple #[]) (w.setCells b o zs):=by
 have hst:=run_storeCells_cells (P:=P) b o zs 0 w (by simpa using hc) (by simpa using hf) h1;simp only[Nat.add_zero]at hst;obtain⟨m,rfl⟩:∃ m,n=m+1:=⟨n-1,zom⟩;simp[Builtin.clear_,run_underlying ht,hv,hz,hst]
end Go.PI
