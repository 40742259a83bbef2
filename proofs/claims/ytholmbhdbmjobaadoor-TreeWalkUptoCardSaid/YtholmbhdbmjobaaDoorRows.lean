/-
  NARROWER THAN 'FOR EVERY INPUT', by the rows' own cells (each row's printed sentence says how): TreeValid: loops, laid · TreeDeep: laid · TreeSizes: loops, laid · TreeWalk: loops, laid · TreeAt: loops, laid · TreeScope: loops, laid · TreeEqual: loops, laid · TreeReplace: loops, laid · TreeBack: loops, laid.
  DERIVED. THE GIVEN ROWS OF THIS SEAT. 9 by the template 'for every input the law returns true; each argument reads behind the call as it read before'; 0 by the template 'total and deterministic' (their statements: YtholmbhdbmjobaaDoorTotals.lean).
  GIVEN WITH THE SEED: the statements are not yours to turn. If you find one false, say at which input.
  Laid BY PROGRAM, IN A SANDBOX (cutbox-rows.mjs): the forced cells as the released guide's own fill.sh prints them over the translation 9237c7b813499a76… (all of the seat's roots in one cut). By AI agents, Wed Nov 11 2026. No macro, syntax, notation, axiom, sorry.
-/
import Derived.Test.YtholmbhdbmjobaaDoorChecked
import GoSem.Claim
import GoSem.ClaimJoined
import GoSem.ClaimMapViews
import Derived.JoinedTies
import Derived.KernelRfl
namespace Go.Proofs.YtholmbhdbmjobaaDoor
/- THE CELL 'sum', in the pinned program and in every row, IS THE sha256 OF THE DUMP (.gsa) THAT YtholmbhdbmjobaaDoorProg.lean LOADS. Nothing in Lean hashes anything: it is a label: what it is worth is what the hold of that sum in a sandbox is worth. -/
noncomputable def Tryd.pinned : Pinned := { name := "ytholmbhdbmjobaadoor", sum := "9237c7b813499a761fffd1b2dc52a89f5e3507773948dca42e08952668ff82c2", checked := Tryd.checked }
namespace Rows
def none {H : Type} : Left H := { results := [], args := [] }

/- WHAT THE LISTED PACKAGE-LEVEL VARIABLES READ AS WHEN THE CALL BEGINS. Each datum BY PROGRAM (the guide's laid-datum.mjs) off the statement by which the dump's own 'gosem.cut.vars' lays the variable. In a bare row this is a premise. The card (YtholmbhdbmjobaaDoorCards.lean) ties it to the program's text. -/
def laid_relucert_phase_opposites {H : Type} : DataW H := .agg [.lit (.int .i64 0), .lit (.int .i64 2), .lit (.int .i64 1), .lit (.int .i64 4), .lit (.int .i64 3)]

/-- 'relucertlaw45.TreeValid': WHATEVER THE INPUT: true; the input reads as it did. -/
def treeValidSpec : ChangeSpec := { name := "treeValid", fn := fun _ => fun
  | [d] => { results := [.lit (.bool true)], args := [d] }
  | _ => none }
def treeValidRow : OpenClaim := { program := "ytholmbhdbmjobaadoor", sum := "9237c7b813499a761fffd1b2dc52a89f5e3507773948dca42e08952668ff82c2", func := "relucert/relucertlaw45.TreeValid", spec := "treeValid", unfollowed := true, recurses := true, named := ["relucert/phase.opposites"], loops := true, apart := false, laid := [("relucert/phase.opposites", laid_relucert_phase_opposites)] }
def TreeValidSaid : Prop := treeValidRow.holds Tryd.pinned (OpenSpec.ofChange treeValidSpec)

/-- ITS FALSE NEIGHBOUR: 'it returns false'. Refute it at one input. -/
def treeValidWrong : ChangeSpec := { name := "treeValid", fn := fun _ => fun
  | [d] => { results := [.lit (.bool false)], args := [d] }
  | _ => none }
def TreeValidWrongFalsely : Prop := treeValidRow.holds Tryd.pinned (OpenSpec.ofChange treeValidWrong)

/-- 'relucertlaw45.TreeDeep': WHATEVER THE INPUT: true; the input reads as it did. -/
def treeDeepSpec : ChangeSpec := { name := "treeDeep", fn := fun _ => fun
  | [d1, d2] => { results := [.lit (.bool true)], args := [d1, d2] }
  | _ => none }
def treeDeepRow : OpenClaim := { program := "ytholmbhdbmjobaadoor", sum := "9237c7b813499a761fffd1b2dc52a89f5e3507773948dca42e08952668ff82c2", func := "relucert/relucertlaw45.TreeDeep", spec := "treeDeep", unfollowed := true, recurses := true, named := ["relucert/phase.opposites"], apart := false, laid := [("relucert/phase.opposites", laid_relucert_phase_opposites)] }
def TreeDeepSaid : Prop := treeDeepRow.holds Tryd.pinned (OpenSpec.ofChange treeDeepSpec)

/-- ITS FALSE NEIGHBOUR: 'it returns false'. Refute it at one input. -/
def treeDeepWrong : ChangeSpec := { name := "treeDeep", fn := fun _ => fun
  | [d1, d2] => { results := [.lit (.bool false)], args := [d1, d2] }
  | _ => none }
def TreeDeepWrongFalsely : Prop := treeDeepRow.holds Tryd.pinned (OpenSpec.ofChange treeDeepWrong)

/-- 'relucertlaw45.TreeSizes': WHATEVER THE INPUT: true; the input reads as it did. -/
def treeSizesSpec : ChangeSpec := { name := "treeSizes", fn := fun _ => fun
  | [d] => { results := [.lit (.bool true)], args := [d] }
  | _ => none }
def treeSizesRow : OpenClaim := { program := "ytholmbhdbmjobaadoor", sum := "9237c7b813499a761fffd1b2dc52a89f5e3507773948dca42e08952668ff82c2", func := "relucert/relucertlaw45.TreeSizes", spec := "treeSizes", unfollowed := true, recurses := true, named := ["relucert/phase.opposites"], loops := true, apart := false, laid := [("relucert/phase.opposites", laid_relucert_phase_opposites)] }
def TreeSizesSaid : Prop := treeSizesRow.holds Tryd.pinned (OpenSpec.ofChange treeSizesSpec)

/-- ITS FALSE NEIGHBOUR: 'it returns false'. Refute it at one input. -/
def treeSizesWrong : ChangeSpec := { name := "treeSizes", fn := fun _ => fun
  | [d] => { results := [.lit (.bool false)], args := [d] }
  | _ => none }
def TreeSizesWrongFalsely : Prop := treeSizesRow.holds Tryd.pinned (OpenSpec.ofChange treeSizesWrong)

/-- 'relucertlaw45.TreeWalk': WHATEVER THE INPUT: true; the input reads as it did. -/
def treeWalkSpec : ChangeSpec := { name := "treeWalk", fn := fun _ => fun
  | [d1, d2] => { results := [.lit (.bool true)], args := [d1, d2] }
  | _ => none }
def treeWalkRow : OpenClaim := { program := "ytholmbhdbmjobaadoor", sum := "9237c7b813499a761fffd1b2dc52a89f5e3507773948dca42e08952668ff82c2", func := "relucert/relucertlaw45.TreeWalk", spec := "treeWalk", unfollowed := true, recurses := true, named := ["relucert/phase.opposites"], loops := true, apart := false, laid := [("relucert/phase.opposites", laid_relucert_phase_opposites)] }
def TreeWalkSaid : Prop := treeWalkRow.holds Tryd.pinned (OpenSpec.ofChange treeWalkSpec)

/-- ITS FALSE NEIGHBOUR: 'it returns false'. Refute it at one input. -/
def treeWalkWrong : ChangeSpec := { name := "treeWalk", fn := fun _ => fun
  | [d1, d2] => { results := [.lit (.bool false)], args := [d1, d2] }
  | _ => none }
def TreeWalkWrongFalsely : Prop := treeWalkRow.holds Tryd.pinned (OpenSpec.ofChange treeWalkWrong)

/-- 'relucertlaw45.TreeAt': WHATEVER THE INPUT: true; the input reads as it did. -/
def treeAtSpec : ChangeSpec := { name := "treeAt", fn := fun _ => fun
  | [d1, d2] => { results := [.lit (.bool true)], args := [d1, d2] }
  | _ => none }
def treeAtRow : OpenClaim := { program := "ytholmbhdbmjobaadoor", sum := "9237c7b813499a761fffd1b2dc52a89f5e3507773948dca42e08952668ff82c2", func := "relucert/relucertlaw45.TreeAt", spec := "treeAt", unfollowed := true, recurses := true, named := ["relucert/phase.opposites"], loops := true, apart := false, laid := [("relucert/phase.opposites", laid_relucert_phase_opposites)] }
def TreeAtSaid : Prop := treeAtRow.holds Tryd.pinned (OpenSpec.ofChange treeAtSpec)

/-- ITS FALSE NEIGHBOUR: 'it returns false'. Refute it at one input. -/
def treeAtWrong : ChangeSpec := { name := "treeAt", fn := fun _ => fun
  | [d1, d2] => { results := [.lit (.bool false)], args := [d1, d2] }
  | _ => none }
def TreeAtWrongFalsely : Prop := treeAtRow.holds Tryd.pinned (OpenSpec.ofChange treeAtWrong)

/-- 'relucertlaw45.TreeScope': WHATEVER THE INPUT: true; the input reads as it did. -/
def treeScopeSpec : ChangeSpec := { name := "treeScope", fn := fun _ => fun
  | [d1, d2, d3] => { results := [.lit (.bool true)], args := [d1, d2, d3] }
  | _ => none }
def treeScopeRow : OpenClaim := { program := "ytholmbhdbmjobaadoor", sum := "9237c7b813499a761fffd1b2dc52a89f5e3507773948dca42e08952668ff82c2", func := "relucert/relucertlaw45.TreeScope", spec := "treeScope", unfollowed := true, recurses := true, named := ["relucert/phase.opposites"], loops := true, apart := false, laid := [("relucert/phase.opposites", laid_relucert_phase_opposites)] }
def TreeScopeSaid : Prop := treeScopeRow.holds Tryd.pinned (OpenSpec.ofChange treeScopeSpec)

/-- ITS FALSE NEIGHBOUR: 'it returns false'. Refute it at one input. -/
def treeScopeWrong : ChangeSpec := { name := "treeScope", fn := fun _ => fun
  | [d1, d2, d3] => { results := [.lit (.bool false)], args := [d1, d2, d3] }
  | _ => none }
def TreeScopeWrongFalsely : Prop := treeScopeRow.holds Tryd.pinned (OpenSpec.ofChange treeScopeWrong)

/-- 'relucertlaw45.TreeEqual': WHATEVER THE INPUT: true; the input reads as it did. -/
def treeEqualSpec : ChangeSpec := { name := "treeEqual", fn := fun _ => fun
  | [d1, d2] => { results := [.lit (.bool true)], args := [d1, d2] }
  | _ => none }
def treeEqualRow : OpenClaim := { program := "ytholmbhdbmjobaadoor", sum := "9237c7b813499a761fffd1b2dc52a89f5e3507773948dca42e08952668ff82c2", func := "relucert/relucertlaw45.TreeEqual", spec := "treeEqual", unfollowed := true, recurses := true, named := ["relucert/phase.opposites"], loops := true, apart := false, laid := [("relucert/phase.opposites", laid_relucert_phase_opposites)] }
def TreeEqualSaid : Prop := treeEqualRow.holds Tryd.pinned (OpenSpec.ofChange treeEqualSpec)

/-- ITS FALSE NEIGHBOUR: 'it returns false'. Refute it at one input. -/
def treeEqualWrong : ChangeSpec := { name := "treeEqual", fn := fun _ => fun
  | [d1, d2] => { results := [.lit (.bool false)], args := [d1, d2] }
  | _ => none }
def TreeEqualWrongFalsely : Prop := treeEqualRow.holds Tryd.pinned (OpenSpec.ofChange treeEqualWrong)

/-- 'relucertlaw45.TreeReplace': WHATEVER THE INPUT: true; the input reads as it did. -/
def treeReplaceSpec : ChangeSpec := { name := "treeReplace", fn := fun _ => fun
  | [d1, d2, d3] => { results := [.lit (.bool true)], args := [d1, d2, d3] }
  | _ => none }
def treeReplaceRow : OpenClaim := { program := "ytholmbhdbmjobaadoor", sum := "9237c7b813499a761fffd1b2dc52a89f5e3507773948dca42e08952668ff82c2", func := "relucert/relucertlaw45.TreeReplace", spec := "treeReplace", unfollowed := true, recurses := true, named := ["relucert/phase.opposites"], loops := true, apart := false, laid := [("relucert/phase.opposites", laid_relucert_phase_opposites)] }
def TreeReplaceSaid : Prop := treeReplaceRow.holds Tryd.pinned (OpenSpec.ofChange treeReplaceSpec)

/-- ITS FALSE NEIGHBOUR: 'it returns false'. Refute it at one input. -/
def treeReplaceWrong : ChangeSpec := { name := "treeReplace", fn := fun _ => fun
  | [d1, d2, d3] => { results := [.lit (.bool false)], args := [d1, d2, d3] }
  | _ => none }
def TreeReplaceWrongFalsely : Prop := treeReplaceRow.holds Tryd.pinned (OpenSpec.ofChange treeReplaceWrong)

/-- 'relucertlaw45.TreeBack': WHATEVER THE INPUT: true; the input reads as it did. -/
def treeBackSpec : ChangeSpec := { name := "treeBack", fn := fun _ => fun
  | [d1, d2, d3] => { results := [.lit (.bool true)], args := [d1, d2, d3] }
  | _ => none }
def treeBackRow : OpenClaim := { program := "ytholmbhdbmjobaadoor", sum := "9237c7b813499a761fffd1b2dc52a89f5e3507773948dca42e08952668ff82c2", func := "relucert/relucertlaw45.TreeBack", spec := "treeBack", unfollowed := true, recurses := true, named := ["relucert/phase.opposites"], loops := true, apart := false, laid := [("relucert/phase.opposites", laid_relucert_phase_opposites)] }
def TreeBackSaid : Prop := treeBackRow.holds Tryd.pinned (OpenSpec.ofChange treeBackSpec)

/-- ITS FALSE NEIGHBOUR: 'it returns false'. Refute it at one input. -/
def treeBackWrong : ChangeSpec := { name := "treeBack", fn := fun _ => fun
  | [d1, d2, d3] => { results := [.lit (.bool false)], args := [d1, d2, d3] }
  | _ => none }
def TreeBackWrongFalsely : Prop := treeBackRow.holds Tryd.pinned (OpenSpec.ofChange treeBackWrong)

/- THE SECOND FORM. 'bulk': how many values and letters a reading holds, each counted each time it is reached (what is shared counts as often as it is met; a slice's spare places count too). A statement '..UptoSaid' is the law's where the arguments, and the package variables that the reading takes, are together of bulk at most 1048576: NARROWER than '..Said'. Prove '..Said' where nothing that the law and all that it calls make is longer than what came in: it says more and counts as full. Else prove '..UptoSaid'. A law counts once. -/
mutual
def uptoBulk {H : Type} : DataW H → Nat
  | .lit (.string bytes) => bytes.length + 1
  | .lit _ => 1
  | .nil => 1
  | .ptr d => uptoBulk d + 1
  | .slice elems spare => uptoBulkAll elems + uptoBulkAll spare + 1
  | .agg parts => uptoBulkAll parts + 1
  | .iface _ d => uptoBulk d + 1
  | .map entries => uptoBulkEntries entries + 1
  | .held _ => 1
def uptoBulkAll {H : Type} : List (DataW H) → Nat
  | [] => 0
  | d :: r => uptoBulk d + uptoBulkAll r
def uptoBulkEntries {H : Type} : List (Lit × DataW H) → Nat
  | [] => 0
  | x :: r => uptoBulkEntry x + uptoBulkEntries r
def uptoBulkEntry {H : Type} : Lit × DataW H → Nat
  | (.string bytes, d) => bytes.length + uptoBulk d + 1
  | (_, d) => uptoBulk d + 1
 end
def uptoSmall : (H : Type) → List (DataW H) → Bool := fun _ ds => decide (uptoBulkAll ds ≤ 1048576)
def OpenSpec.upto (s : _root_.Go.ChangeSpec) : _root_.Go.OpenSpec := { _root_.Go.OpenSpec.ofChange s with cond := some uptoSmall }

/-- 'relucertlaw45.TreeValid', WHERE WHAT IT READS IS OF BULK AT MOST 1048576: true; the input reads as it did. -/
def treeValidUptoRow : OpenClaim := { program := "ytholmbhdbmjobaadoor", sum := "9237c7b813499a761fffd1b2dc52a89f5e3507773948dca42e08952668ff82c2", func := "relucert/relucertlaw45.TreeValid", spec := "treeValid", unfollowed := true, recurses := true, named := ["relucert/phase.opposites"], loops := true, apart := false, laid := [("relucert/phase.opposites", laid_relucert_phase_opposites)], narrowed := true }
def TreeValidUptoSaid : Prop := treeValidUptoRow.holds Tryd.pinned (OpenSpec.upto treeValidSpec)

/-- 'relucertlaw45.TreeDeep', WHERE WHAT IT READS IS OF BULK AT MOST 1048576: true; the input reads as it did. -/
def treeDeepUptoRow : OpenClaim := { program := "ytholmbhdbmjobaadoor", sum := "9237c7b813499a761fffd1b2dc52a89f5e3507773948dca42e08952668ff82c2", func := "relucert/relucertlaw45.TreeDeep", spec := "treeDeep", unfollowed := true, recurses := true, named := ["relucert/phase.opposites"], apart := false, laid := [("relucert/phase.opposites", laid_relucert_phase_opposites)], narrowed := true }
def TreeDeepUptoSaid : Prop := treeDeepUptoRow.holds Tryd.pinned (OpenSpec.upto treeDeepSpec)

/-- 'relucertlaw45.TreeSizes', WHERE WHAT IT READS IS OF BULK AT MOST 1048576: true; the input reads as it did. -/
def treeSizesUptoRow : OpenClaim := { program := "ytholmbhdbmjobaadoor", sum := "9237c7b813499a761fffd1b2dc52a89f5e3507773948dca42e08952668ff82c2", func := "relucert/relucertlaw45.TreeSizes", spec := "treeSizes", unfollowed := true, recurses := true, named := ["relucert/phase.opposites"], loops := true, apart := false, laid := [("relucert/phase.opposites", laid_relucert_phase_opposites)], narrowed := true }
def TreeSizesUptoSaid : Prop := treeSizesUptoRow.holds Tryd.pinned (OpenSpec.upto treeSizesSpec)

/-- 'relucertlaw45.TreeWalk', WHERE WHAT IT READS IS OF BULK AT MOST 1048576: true; the input reads as it did. -/
def treeWalkUptoRow : OpenClaim := { program := "ytholmbhdbmjobaadoor", sum := "9237c7b813499a761fffd1b2dc52a89f5e3507773948dca42e08952668ff82c2", func := "relucert/relucertlaw45.TreeWalk", spec := "treeWalk", unfollowed := true, recurses := true, named := ["relucert/phase.opposites"], loops := true, apart := false, laid := [("relucert/phase.opposites", laid_relucert_phase_opposites)], narrowed := true }
def TreeWalkUptoSaid : Prop := treeWalkUptoRow.holds Tryd.pinned (OpenSpec.upto treeWalkSpec)

/-- 'relucertlaw45.TreeAt', WHERE WHAT IT READS IS OF BULK AT MOST 1048576: true; the input reads as it did. -/
def treeAtUptoRow : OpenClaim := { program := "ytholmbhdbmjobaadoor", sum := "9237c7b813499a761fffd1b2dc52a89f5e3507773948dca42e08952668ff82c2", func := "relucert/relucertlaw45.TreeAt", spec := "treeAt", unfollowed := true, recurses := true, named := ["relucert/phase.opposites"], loops := true, apart := false, laid := [("relucert/phase.opposites", laid_relucert_phase_opposites)], narrowed := true }
def TreeAtUptoSaid : Prop := treeAtUptoRow.holds Tryd.pinned (OpenSpec.upto treeAtSpec)

/-- 'relucertlaw45.TreeScope', WHERE WHAT IT READS IS OF BULK AT MOST 1048576: true; the input reads as it did. -/
def treeScopeUptoRow : OpenClaim := { program := "ytholmbhdbmjobaadoor", sum := "9237c7b813499a761fffd1b2dc52a89f5e3507773948dca42e08952668ff82c2", func := "relucert/relucertlaw45.TreeScope", spec := "treeScope", unfollowed := true, recurses := true, named := ["relucert/phase.opposites"], loops := true, apart := false, laid := [("relucert/phase.opposites", laid_relucert_phase_opposites)], narrowed := true }
def TreeScopeUptoSaid : Prop := treeScopeUptoRow.holds Tryd.pinned (OpenSpec.upto treeScopeSpec)

/-- 'relucertlaw45.TreeEqual', WHERE WHAT IT READS IS OF BULK AT MOST 1048576: true; the input reads as it did. -/
def treeEqualUptoRow : OpenClaim := { program := "ytholmbhdbmjobaadoor", sum := "9237c7b813499a761fffd1b2dc52a89f5e3507773948dca42e08952668ff82c2", func := "relucert/relucertlaw45.TreeEqual", spec := "treeEqual", unfollowed := true, recurses := true, named := ["relucert/phase.opposites"], loops := true, apart := false, laid := [("relucert/phase.opposites", laid_relucert_phase_opposites)], narrowed := true }
def TreeEqualUptoSaid : Prop := treeEqualUptoRow.holds Tryd.pinned (OpenSpec.upto treeEqualSpec)

/-- 'relucertlaw45.TreeReplace', WHERE WHAT IT READS IS OF BULK AT MOST 1048576: true; the input reads as it did. -/
def treeReplaceUptoRow : OpenClaim := { program := "ytholmbhdbmjobaadoor", sum := "9237c7b813499a761fffd1b2dc52a89f5e3507773948dca42e08952668ff82c2", func := "relucert/relucertlaw45.TreeReplace", spec := "treeReplace", unfollowed := true, recurses := true, named := ["relucert/phase.opposites"], loops := true, apart := false, laid := [("relucert/phase.opposites", laid_relucert_phase_opposites)], narrowed := true }
def TreeReplaceUptoSaid : Prop := treeReplaceUptoRow.holds Tryd.pinned (OpenSpec.upto treeReplaceSpec)

/-- 'relucertlaw45.TreeBack', WHERE WHAT IT READS IS OF BULK AT MOST 1048576: true; the input reads as it did. -/
def treeBackUptoRow : OpenClaim := { program := "ytholmbhdbmjobaadoor", sum := "9237c7b813499a761fffd1b2dc52a89f5e3507773948dca42e08952668ff82c2", func := "relucert/relucertlaw45.TreeBack", spec := "treeBack", unfollowed := true, recurses := true, named := ["relucert/phase.opposites"], loops := true, apart := false, laid := [("relucert/phase.opposites", laid_relucert_phase_opposites)], narrowed := true }
def TreeBackUptoSaid : Prop := treeBackUptoRow.holds Tryd.pinned (OpenSpec.upto treeBackSpec)

end Rows
end Go.Proofs.YtholmbhdbmjobaaDoor
