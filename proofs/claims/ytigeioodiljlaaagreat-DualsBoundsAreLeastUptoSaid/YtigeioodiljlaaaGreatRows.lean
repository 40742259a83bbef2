/-
  No cell of these rows narrows 'for every input' (looked for: loops, veiled, ifaces, maps, wideKeys, modest, calm, conditions, laid).
  DERIVED. THE GIVEN ROWS OF THIS SEAT. 7 by the template 'for every input the law returns true; each argument reads behind the call as it read before'; 0 by the template 'total and deterministic' (their statements: YtigeioodiljlaaaGreatTotals.lean).
  GIVEN WITH THE SEED: the statements are not yours to turn. If you find one false, say at which input.
  Laid BY PROGRAM, IN A SANDBOX (cutbox-rows.mjs): the forced cells as the released guide's own fill.sh prints them over the translation 9bb1eb6e04130527… (all of the seat's roots in one cut). By AI agents, Wed Nov 11 2026. No macro, syntax, notation, axiom, sorry.
-/
import Derived.Test.YtigeioodiljlaaaGreatChecked
import GoSem.Claim
import GoSem.ClaimJoined
import GoSem.ClaimMapViews
import Derived.JoinedTies
import Derived.KernelRfl
namespace Go.Proofs.YtigeioodiljlaaaGreat
/- THE CELL 'sum', in the pinned program and in every row, IS THE sha256 OF THE DUMP (.gsa) THAT YtigeioodiljlaaaGreatProg.lean LOADS. Nothing in Lean hashes anything: it is a label: what it is worth is what the hold of that sum in a sandbox is worth. -/
noncomputable def Tryz.pinned : Pinned := { name := "ytigeioodiljlaaagreat", sum := "9bb1eb6e04130527d7b82e79ef38334edceb90daa650454643b5f7538611a166", checked := Tryz.checked }
namespace Rows
def none {H : Type} : Left H := { results := [], args := [] }

/-- 'relucertlaw29.DualsCombine': WHATEVER THE INPUT: true; the input reads as it did. -/
def dualsCombineSpec : ChangeSpec := { name := "dualsCombine", fn := fun _ => fun
  | [d1, d2] => { results := [.lit (.bool true)], args := [d1, d2] }
  | _ => none }
def dualsCombineRow : OpenClaim := { program := "ytigeioodiljlaaagreat", sum := "9bb1eb6e04130527d7b82e79ef38334edceb90daa650454643b5f7538611a166", func := "relucert/relucertlaw29.DualsCombine", spec := "dualsCombine", unfollowed := true, recurses := true, apart := false }
def DualsCombineSaid : Prop := dualsCombineRow.holds Tryz.pinned (OpenSpec.ofChange dualsCombineSpec)

/-- ITS FALSE NEIGHBOUR: 'it returns false'. Refute it at one input. -/
def dualsCombineWrong : ChangeSpec := { name := "dualsCombine", fn := fun _ => fun
  | [d1, d2] => { results := [.lit (.bool false)], args := [d1, d2] }
  | _ => none }
def DualsCombineWrongFalsely : Prop := dualsCombineRow.holds Tryz.pinned (OpenSpec.ofChange dualsCombineWrong)

/-- 'relucertlaw29.DualsCheckMatchesReference': WHATEVER THE INPUT: true; the input reads as it did. -/
def dualsCheckMatchesReferenceSpec : ChangeSpec := { name := "dualsCheckMatchesReference", fn := fun _ => fun
  | [d1, d2] => { results := [.lit (.bool true)], args := [d1, d2] }
  | _ => none }
def dualsCheckMatchesReferenceRow : OpenClaim := { program := "ytigeioodiljlaaagreat", sum := "9bb1eb6e04130527d7b82e79ef38334edceb90daa650454643b5f7538611a166", func := "relucert/relucertlaw29.DualsCheckMatchesReference", spec := "dualsCheckMatchesReference", unfollowed := true, recurses := true, apart := false }
def DualsCheckMatchesReferenceSaid : Prop := dualsCheckMatchesReferenceRow.holds Tryz.pinned (OpenSpec.ofChange dualsCheckMatchesReferenceSpec)

/-- ITS FALSE NEIGHBOUR: 'it returns false'. Refute it at one input. -/
def dualsCheckMatchesReferenceWrong : ChangeSpec := { name := "dualsCheckMatchesReference", fn := fun _ => fun
  | [d1, d2] => { results := [.lit (.bool false)], args := [d1, d2] }
  | _ => none }
def DualsCheckMatchesReferenceWrongFalsely : Prop := dualsCheckMatchesReferenceRow.holds Tryz.pinned (OpenSpec.ofChange dualsCheckMatchesReferenceWrong)

/-- 'relucertlaw29.DualsSlack': WHATEVER THE INPUT: true; the input reads as it did. -/
def dualsSlackSpec : ChangeSpec := { name := "dualsSlack", fn := fun _ => fun
  | [d1, d2, d3] => { results := [.lit (.bool true)], args := [d1, d2, d3] }
  | _ => none }
def dualsSlackRow : OpenClaim := { program := "ytigeioodiljlaaagreat", sum := "9bb1eb6e04130527d7b82e79ef38334edceb90daa650454643b5f7538611a166", func := "relucert/relucertlaw29.DualsSlack", spec := "dualsSlack", unfollowed := true, recurses := true, apart := false }
def DualsSlackSaid : Prop := dualsSlackRow.holds Tryz.pinned (OpenSpec.ofChange dualsSlackSpec)

/-- ITS FALSE NEIGHBOUR: 'it returns false'. Refute it at one input. -/
def dualsSlackWrong : ChangeSpec := { name := "dualsSlack", fn := fun _ => fun
  | [d1, d2, d3] => { results := [.lit (.bool false)], args := [d1, d2, d3] }
  | _ => none }
def DualsSlackWrongFalsely : Prop := dualsSlackRow.holds Tryz.pinned (OpenSpec.ofChange dualsSlackWrong)

/-- 'relucertlaw29.DualsInvalid': WHATEVER THE INPUT: true; the input reads as it did. -/
def dualsInvalidSpec : ChangeSpec := { name := "dualsInvalid", fn := fun _ => fun
  | [d1, d2] => { results := [.lit (.bool true)], args := [d1, d2] }
  | _ => none }
def dualsInvalidRow : OpenClaim := { program := "ytigeioodiljlaaagreat", sum := "9bb1eb6e04130527d7b82e79ef38334edceb90daa650454643b5f7538611a166", func := "relucert/relucertlaw29.DualsInvalid", spec := "dualsInvalid", unfollowed := true, recurses := true, apart := false }
def DualsInvalidSaid : Prop := dualsInvalidRow.holds Tryz.pinned (OpenSpec.ofChange dualsInvalidSpec)

/-- ITS FALSE NEIGHBOUR: 'it returns false'. Refute it at one input. -/
def dualsInvalidWrong : ChangeSpec := { name := "dualsInvalid", fn := fun _ => fun
  | [d1, d2] => { results := [.lit (.bool false)], args := [d1, d2] }
  | _ => none }
def DualsInvalidWrongFalsely : Prop := dualsInvalidRow.holds Tryz.pinned (OpenSpec.ofChange dualsInvalidWrong)

/-- 'relucertlaw29.DualsBoundIsBound': WHATEVER THE INPUT: true; the input reads as it did. -/
def dualsBoundIsBoundSpec : ChangeSpec := { name := "dualsBoundIsBound", fn := fun _ => fun
  | [d1, d2, d3] => { results := [.lit (.bool true)], args := [d1, d2, d3] }
  | _ => none }
def dualsBoundIsBoundRow : OpenClaim := { program := "ytigeioodiljlaaagreat", sum := "9bb1eb6e04130527d7b82e79ef38334edceb90daa650454643b5f7538611a166", func := "relucert/relucertlaw29.DualsBoundIsBound", spec := "dualsBoundIsBound", unfollowed := true, recurses := true, apart := false }
def DualsBoundIsBoundSaid : Prop := dualsBoundIsBoundRow.holds Tryz.pinned (OpenSpec.ofChange dualsBoundIsBoundSpec)

/-- ITS FALSE NEIGHBOUR: 'it returns false'. Refute it at one input. -/
def dualsBoundIsBoundWrong : ChangeSpec := { name := "dualsBoundIsBound", fn := fun _ => fun
  | [d1, d2, d3] => { results := [.lit (.bool false)], args := [d1, d2, d3] }
  | _ => none }
def DualsBoundIsBoundWrongFalsely : Prop := dualsBoundIsBoundRow.holds Tryz.pinned (OpenSpec.ofChange dualsBoundIsBoundWrong)

/-- 'relucertlaw29.DualsBoundsAreLeast': WHATEVER THE INPUT: true; the input reads as it did. -/
def dualsBoundsAreLeastSpec : ChangeSpec := { name := "dualsBoundsAreLeast", fn := fun _ => fun
  | [d1, d2] => { results := [.lit (.bool true)], args := [d1, d2] }
  | _ => none }
def dualsBoundsAreLeastRow : OpenClaim := { program := "ytigeioodiljlaaagreat", sum := "9bb1eb6e04130527d7b82e79ef38334edceb90daa650454643b5f7538611a166", func := "relucert/relucertlaw29.DualsBoundsAreLeast", spec := "dualsBoundsAreLeast", unfollowed := true, recurses := true, apart := false }
def DualsBoundsAreLeastSaid : Prop := dualsBoundsAreLeastRow.holds Tryz.pinned (OpenSpec.ofChange dualsBoundsAreLeastSpec)

/-- ITS FALSE NEIGHBOUR: 'it returns false'. Refute it at one input. -/
def dualsBoundsAreLeastWrong : ChangeSpec := { name := "dualsBoundsAreLeast", fn := fun _ => fun
  | [d1, d2] => { results := [.lit (.bool false)], args := [d1, d2] }
  | _ => none }
def DualsBoundsAreLeastWrongFalsely : Prop := dualsBoundsAreLeastRow.holds Tryz.pinned (OpenSpec.ofChange dualsBoundsAreLeastWrong)

/-- 'relucertlaw29.DualsOneStatus': WHATEVER THE INPUT: true; the input reads as it did. -/
def dualsOneStatusSpec : ChangeSpec := { name := "dualsOneStatus", fn := fun _ => fun
  | [d1, d2, d3] => { results := [.lit (.bool true)], args := [d1, d2, d3] }
  | _ => none }
def dualsOneStatusRow : OpenClaim := { program := "ytigeioodiljlaaagreat", sum := "9bb1eb6e04130527d7b82e79ef38334edceb90daa650454643b5f7538611a166", func := "relucert/relucertlaw29.DualsOneStatus", spec := "dualsOneStatus", unfollowed := true, recurses := true, apart := false }
def DualsOneStatusSaid : Prop := dualsOneStatusRow.holds Tryz.pinned (OpenSpec.ofChange dualsOneStatusSpec)

/-- ITS FALSE NEIGHBOUR: 'it returns false'. Refute it at one input. -/
def dualsOneStatusWrong : ChangeSpec := { name := "dualsOneStatus", fn := fun _ => fun
  | [d1, d2, d3] => { results := [.lit (.bool false)], args := [d1, d2, d3] }
  | _ => none }
def DualsOneStatusWrongFalsely : Prop := dualsOneStatusRow.holds Tryz.pinned (OpenSpec.ofChange dualsOneStatusWrong)

/- THE SECOND FORM. 'bulk': how many values and letters a reading holds, each counted each time it is reached (what is shared counts as often as it is met; a slice's spare places count too). A statement '..UptoSaid' is the law's where the arguments, and the package variables that the reading takes, are together of bulk at most 1048576: NARROWER than '..Said'. Prove '..Said' where nothing that the law and all that it calls make is longer than what came in: it says more and counts as full. Else prove '..UptoSaid'. A law counts once. -/
mutual
def uptoBulk {H : Type} : DataW H → Nat
  | .lit (.string bytes) => bytes.length + 1
  | .lit _ => 1
  | .nil => 1
  | .ptr d => uptoBulk d + 1
  | .slice elems spare => uptoBulkAll elems + uptoBulkAll spare + 1
  | .agg parts => uptoBulkAll parts + 1
  | .iface _ d => uptoBulk d + 1
  | .map entries => uptoBulkEntries entries + 1
  | .held _ => 1
def uptoBulkAll {H : Type} : List (DataW H) → Nat
  | [] => 0
  | d :: r => uptoBulk d + uptoBulkAll r
def uptoBulkEntries {H : Type} : List (Lit × DataW H) → Nat
  | [] => 0
  | x :: r => uptoBulkEntry x + uptoBulkEntries r
def uptoBulkEntry {H : Type} : Lit × DataW H → Nat
  | (.string bytes, d) => bytes.length + uptoBulk d + 1
  | (_, d) => uptoBulk d + 1
 end
def uptoSmall : (H : Type) → List (DataW H) → Bool := fun _ ds => decide (uptoBulkAll ds ≤ 1048576)
def OpenSpec.upto (s : _root_.Go.ChangeSpec) : _root_.Go.OpenSpec := { _root_.Go.OpenSpec.ofChange s with cond := some uptoSmall }

/-- 'relucertlaw29.DualsCombine', WHERE WHAT IT READS IS OF BULK AT MOST 1048576: true; the input reads as it did. -/
def dualsCombineUptoRow : OpenClaim := { program := "ytigeioodiljlaaagreat", sum := "9bb1eb6e04130527d7b82e79ef38334edceb90daa650454643b5f7538611a166", func := "relucert/relucertlaw29.DualsCombine", spec := "dualsCombine", unfollowed := true, recurses := true, apart := false, narrowed := true }
def DualsCombineUptoSaid : Prop := dualsCombineUptoRow.holds Tryz.pinned (OpenSpec.upto dualsCombineSpec)

/-- 'relucertlaw29.DualsCheckMatchesReference', WHERE WHAT IT READS IS OF BULK AT MOST 1048576: true; the input reads as it did. -/
def dualsCheckMatchesReferenceUptoRow : OpenClaim := { program := "ytigeioodiljlaaagreat", sum := "9bb1eb6e04130527d7b82e79ef38334edceb90daa650454643b5f7538611a166", func := "relucert/relucertlaw29.DualsCheckMatchesReference", spec := "dualsCheckMatchesReference", unfollowed := true, recurses := true, apart := false, narrowed := true }
def DualsCheckMatchesReferenceUptoSaid : Prop := dualsCheckMatchesReferenceUptoRow.holds Tryz.pinned (OpenSpec.upto dualsCheckMatchesReferenceSpec)

/-- 'relucertlaw29.DualsSlack', WHERE WHAT IT READS IS OF BULK AT MOST 1048576: true; the input reads as it did. -/
def dualsSlackUptoRow : OpenClaim := { program := "ytigeioodiljlaaagreat", sum := "9bb1eb6e04130527d7b82e79ef38334edceb90daa650454643b5f7538611a166", func := "relucert/relucertlaw29.DualsSlack", spec := "dualsSlack", unfollowed := true, recurses := true, apart := false, narrowed := true }
def DualsSlackUptoSaid : Prop := dualsSlackUptoRow.holds Tryz.pinned (OpenSpec.upto dualsSlackSpec)

/-- 'relucertlaw29.DualsInvalid', WHERE WHAT IT READS IS OF BULK AT MOST 1048576: true; the input reads as it did. -/
def dualsInvalidUptoRow : OpenClaim := { program := "ytigeioodiljlaaagreat", sum := "9bb1eb6e04130527d7b82e79ef38334edceb90daa650454643b5f7538611a166", func := "relucert/relucertlaw29.DualsInvalid", spec := "dualsInvalid", unfollowed := true, recurses := true, apart := false, narrowed := true }
def DualsInvalidUptoSaid : Prop := dualsInvalidUptoRow.holds Tryz.pinned (OpenSpec.upto dualsInvalidSpec)

/-- 'relucertlaw29.DualsBoundIsBound', WHERE WHAT IT READS IS OF BULK AT MOST 1048576: true; the input reads as it did. -/
def dualsBoundIsBoundUptoRow : OpenClaim := { program := "ytigeioodiljlaaagreat", sum := "9bb1eb6e04130527d7b82e79ef38334edceb90daa650454643b5f7538611a166", func := "relucert/relucertlaw29.DualsBoundIsBound", spec := "dualsBoundIsBound", unfollowed := true, recurses := true, apart := false, narrowed := true }
def DualsBoundIsBoundUptoSaid : Prop := dualsBoundIsBoundUptoRow.holds Tryz.pinned (OpenSpec.upto dualsBoundIsBoundSpec)

/-- 'relucertlaw29.DualsBoundsAreLeast', WHERE WHAT IT READS IS OF BULK AT MOST 1048576: true; the input reads as it did. -/
def dualsBoundsAreLeastUptoRow : OpenClaim := { program := "ytigeioodiljlaaagreat", sum := "9bb1eb6e04130527d7b82e79ef38334edceb90daa650454643b5f7538611a166", func := "relucert/relucertlaw29.DualsBoundsAreLeast", spec := "dualsBoundsAreLeast", unfollowed := true, recurses := true, apart := false, narrowed := true }
def DualsBoundsAreLeastUptoSaid : Prop := dualsBoundsAreLeastUptoRow.holds Tryz.pinned (OpenSpec.upto dualsBoundsAreLeastSpec)

/-- 'relucertlaw29.DualsOneStatus', WHERE WHAT IT READS IS OF BULK AT MOST 1048576: true; the input reads as it did. -/
def dualsOneStatusUptoRow : OpenClaim := { program := "ytigeioodiljlaaagreat", sum := "9bb1eb6e04130527d7b82e79ef38334edceb90daa650454643b5f7538611a166", func := "relucert/relucertlaw29.DualsOneStatus", spec := "dualsOneStatus", unfollowed := true, recurses := true, apart := false, narrowed := true }
def DualsOneStatusUptoSaid : Prop := dualsOneStatusUptoRow.holds Tryz.pinned (OpenSpec.upto dualsOneStatusSpec)

end Rows
end Go.Proofs.YtigeioodiljlaaaGreat
