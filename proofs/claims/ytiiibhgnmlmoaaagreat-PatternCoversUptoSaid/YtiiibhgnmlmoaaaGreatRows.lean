/-
  No cell of these rows narrows 'for every input' (looked for: loops, veiled, ifaces, maps, wideKeys, modest, calm, conditions, laid).
  DERIVED. THE GIVEN ROWS OF THIS SEAT. 5 by the template 'for every input the law returns true; each argument reads behind the call as it read before'; 0 by the template 'total and deterministic' (their statements: YtiiibhgnmlmoaaaGreatTotals.lean).
  GIVEN WITH THE SEED: the statements are not yours to turn. If you find one false, say at which input.
  Laid BY PROGRAM, IN A SANDBOX (cutbox-rows.mjs): the forced cells as the released guide's own fill.sh prints them over the translation 2e70c0decbf4e93f… (all of the seat's roots in one cut). By AI agents, Wed Nov 11 2026. No macro, syntax, notation, axiom, sorry.
-/
import Derived.Test.YtiiibhgnmlmoaaaGreatChecked
import GoSem.Claim
import GoSem.ClaimJoined
import GoSem.ClaimMapViews
import Derived.JoinedTies
import Derived.KernelRfl
namespace Go.Proofs.YtiiibhgnmlmoaaaGreat
/- THE CELL 'sum', in the pinned program and in every row, IS THE sha256 OF THE DUMP (.gsa) THAT YtiiibhgnmlmoaaaGreatProg.lean LOADS. Nothing in Lean hashes anything: it is a label: what it is worth is what the hold of that sum in a sandbox is worth. -/
noncomputable def Tryz.pinned : Pinned := { name := "ytiiibhgnmlmoaaagreat", sum := "2e70c0decbf4e93ff496bea2a5444fb41abd254adf5b0b8443747e88f849a0d6", checked := Tryz.checked }
namespace Rows
def none {H : Type} : Left H := { results := [], args := [] }

/-- 'relucertlaw18.PatternOfMatchesReference': WHATEVER THE INPUT: true; the input reads as it did. -/
def patternOfMatchesReferenceSpec : ChangeSpec := { name := "patternOfMatchesReference", fn := fun _ => fun
  | [d1, d2] => { results := [.lit (.bool true)], args := [d1, d2] }
  | _ => none }
def patternOfMatchesReferenceRow : OpenClaim := { program := "ytiiibhgnmlmoaaagreat", sum := "2e70c0decbf4e93ff496bea2a5444fb41abd254adf5b0b8443747e88f849a0d6", func := "relucert/relucertlaw18.PatternOfMatchesReference", spec := "patternOfMatchesReference", unfollowed := true, recurses := true, apart := false }
def PatternOfMatchesReferenceSaid : Prop := patternOfMatchesReferenceRow.holds Tryz.pinned (OpenSpec.ofChange patternOfMatchesReferenceSpec)

/-- ITS FALSE NEIGHBOUR: 'it returns false'. Refute it at one input. -/
def patternOfMatchesReferenceWrong : ChangeSpec := { name := "patternOfMatchesReference", fn := fun _ => fun
  | [d1, d2] => { results := [.lit (.bool false)], args := [d1, d2] }
  | _ => none }
def PatternOfMatchesReferenceWrongFalsely : Prop := patternOfMatchesReferenceRow.holds Tryz.pinned (OpenSpec.ofChange patternOfMatchesReferenceWrong)

/-- 'relucertlaw18.PatternFormsMatchReference': WHATEVER THE INPUT: true; the input reads as it did. -/
def patternFormsMatchReferenceSpec : ChangeSpec := { name := "patternFormsMatchReference", fn := fun _ => fun
  | [d1, d2] => { results := [.lit (.bool true)], args := [d1, d2] }
  | _ => none }
def patternFormsMatchReferenceRow : OpenClaim := { program := "ytiiibhgnmlmoaaagreat", sum := "2e70c0decbf4e93ff496bea2a5444fb41abd254adf5b0b8443747e88f849a0d6", func := "relucert/relucertlaw18.PatternFormsMatchReference", spec := "patternFormsMatchReference", unfollowed := true, recurses := true, apart := false }
def PatternFormsMatchReferenceSaid : Prop := patternFormsMatchReferenceRow.holds Tryz.pinned (OpenSpec.ofChange patternFormsMatchReferenceSpec)

/-- ITS FALSE NEIGHBOUR: 'it returns false'. Refute it at one input. -/
def patternFormsMatchReferenceWrong : ChangeSpec := { name := "patternFormsMatchReference", fn := fun _ => fun
  | [d1, d2] => { results := [.lit (.bool false)], args := [d1, d2] }
  | _ => none }
def PatternFormsMatchReferenceWrongFalsely : Prop := patternFormsMatchReferenceRow.holds Tryz.pinned (OpenSpec.ofChange patternFormsMatchReferenceWrong)

/-- 'relucertlaw18.PatternPieceMatchesReference': WHATEVER THE INPUT: true; the input reads as it did. -/
def patternPieceMatchesReferenceSpec : ChangeSpec := { name := "patternPieceMatchesReference", fn := fun _ => fun
  | [d1, d2] => { results := [.lit (.bool true)], args := [d1, d2] }
  | _ => none }
def patternPieceMatchesReferenceRow : OpenClaim := { program := "ytiiibhgnmlmoaaagreat", sum := "2e70c0decbf4e93ff496bea2a5444fb41abd254adf5b0b8443747e88f849a0d6", func := "relucert/relucertlaw18.PatternPieceMatchesReference", spec := "patternPieceMatchesReference", unfollowed := true, recurses := true, apart := false }
def PatternPieceMatchesReferenceSaid : Prop := patternPieceMatchesReferenceRow.holds Tryz.pinned (OpenSpec.ofChange patternPieceMatchesReferenceSpec)

/-- ITS FALSE NEIGHBOUR: 'it returns false'. Refute it at one input. -/
def patternPieceMatchesReferenceWrong : ChangeSpec := { name := "patternPieceMatchesReference", fn := fun _ => fun
  | [d1, d2] => { results := [.lit (.bool false)], args := [d1, d2] }
  | _ => none }
def PatternPieceMatchesReferenceWrongFalsely : Prop := patternPieceMatchesReferenceRow.holds Tryz.pinned (OpenSpec.ofChange patternPieceMatchesReferenceWrong)

/-- 'relucertlaw18.PatternAgrees': WHATEVER THE INPUT: true; the input reads as it did. -/
def patternAgreesSpec : ChangeSpec := { name := "patternAgrees", fn := fun _ => fun
  | [d1, d2, d3] => { results := [.lit (.bool true)], args := [d1, d2, d3] }
  | _ => none }
def patternAgreesRow : OpenClaim := { program := "ytiiibhgnmlmoaaagreat", sum := "2e70c0decbf4e93ff496bea2a5444fb41abd254adf5b0b8443747e88f849a0d6", func := "relucert/relucertlaw18.PatternAgrees", spec := "patternAgrees", unfollowed := true, recurses := true, apart := false }
def PatternAgreesSaid : Prop := patternAgreesRow.holds Tryz.pinned (OpenSpec.ofChange patternAgreesSpec)

/-- ITS FALSE NEIGHBOUR: 'it returns false'. Refute it at one input. -/
def patternAgreesWrong : ChangeSpec := { name := "patternAgrees", fn := fun _ => fun
  | [d1, d2, d3] => { results := [.lit (.bool false)], args := [d1, d2, d3] }
  | _ => none }
def PatternAgreesWrongFalsely : Prop := patternAgreesRow.holds Tryz.pinned (OpenSpec.ofChange patternAgreesWrong)

/-- 'relucertlaw18.PatternCovers': WHATEVER THE INPUT: true; the input reads as it did. -/
def patternCoversSpec : ChangeSpec := { name := "patternCovers", fn := fun _ => fun
  | [d1, d2] => { results := [.lit (.bool true)], args := [d1, d2] }
  | _ => none }
def patternCoversRow : OpenClaim := { program := "ytiiibhgnmlmoaaagreat", sum := "2e70c0decbf4e93ff496bea2a5444fb41abd254adf5b0b8443747e88f849a0d6", func := "relucert/relucertlaw18.PatternCovers", spec := "patternCovers", unfollowed := true, recurses := true, apart := false }
def PatternCoversSaid : Prop := patternCoversRow.holds Tryz.pinned (OpenSpec.ofChange patternCoversSpec)

/-- ITS FALSE NEIGHBOUR: 'it returns false'. Refute it at one input. -/
def patternCoversWrong : ChangeSpec := { name := "patternCovers", fn := fun _ => fun
  | [d1, d2] => { results := [.lit (.bool false)], args := [d1, d2] }
  | _ => none }
def PatternCoversWrongFalsely : Prop := patternCoversRow.holds Tryz.pinned (OpenSpec.ofChange patternCoversWrong)

/- THE SECOND FORM. 'bulk': how many values and letters a reading holds, each counted each time it is reached (what is shared counts as often as it is met; a slice's spare places count too). A statement '..UptoSaid' is the law's where the arguments, and the package variables that the reading takes, are together of bulk at most 1048576: NARROWER than '..Said'. Prove '..Said' where nothing that the law and all that it calls make is longer than what came in: it says more and counts as full. Else prove '..UptoSaid'. A law counts once. -/
mutual
def uptoBulk {H : Type} : DataW H → Nat
  | .lit (.string bytes) => bytes.length + 1
  | .lit _ => 1
  | .nil => 1
  | .ptr d => uptoBulk d + 1
  | .slice elems spare => uptoBulkAll elems + uptoBulkAll spare + 1
  | .agg parts => uptoBulkAll parts + 1
  | .iface _ d => uptoBulk d + 1
  | .map entries => uptoBulkEntries entries + 1
  | .held _ => 1
def uptoBulkAll {H : Type} : List (DataW H) → Nat
  | [] => 0
  | d :: r => uptoBulk d + uptoBulkAll r
def uptoBulkEntries {H : Type} : List (Lit × DataW H) → Nat
  | [] => 0
  | x :: r => uptoBulkEntry x + uptoBulkEntries r
def uptoBulkEntry {H : Type} : Lit × DataW H → Nat
  | (.string bytes, d) => bytes.length + uptoBulk d + 1
  | (_, d) => uptoBulk d + 1
 end
def uptoSmall : (H : Type) → List (DataW H) → Bool := fun _ ds => decide (uptoBulkAll ds ≤ 1048576)
def OpenSpec.upto (s : _root_.Go.ChangeSpec) : _root_.Go.OpenSpec := { _root_.Go.OpenSpec.ofChange s with cond := some uptoSmall }

/-- 'relucertlaw18.PatternOfMatchesReference', WHERE WHAT IT READS IS OF BULK AT MOST 1048576: true; the input reads as it did. -/
def patternOfMatchesReferenceUptoRow : OpenClaim := { program := "ytiiibhgnmlmoaaagreat", sum := "2e70c0decbf4e93ff496bea2a5444fb41abd254adf5b0b8443747e88f849a0d6", func := "relucert/relucertlaw18.PatternOfMatchesReference", spec := "patternOfMatchesReference", unfollowed := true, recurses := true, apart := false, narrowed := true }
def PatternOfMatchesReferenceUptoSaid : Prop := patternOfMatchesReferenceUptoRow.holds Tryz.pinned (OpenSpec.upto patternOfMatchesReferenceSpec)

/-- 'relucertlaw18.PatternFormsMatchReference', WHERE WHAT IT READS IS OF BULK AT MOST 1048576: true; the input reads as it did. -/
def patternFormsMatchReferenceUptoRow : OpenClaim := { program := "ytiiibhgnmlmoaaagreat", sum := "2e70c0decbf4e93ff496bea2a5444fb41abd254adf5b0b8443747e88f849a0d6", func := "relucert/relucertlaw18.PatternFormsMatchReference", spec := "patternFormsMatchReference", unfollowed := true, recurses := true, apart := false, narrowed := true }
def PatternFormsMatchReferenceUptoSaid : Prop := patternFormsMatchReferenceUptoRow.holds Tryz.pinned (OpenSpec.upto patternFormsMatchReferenceSpec)

/-- 'relucertlaw18.PatternPieceMatchesReference', WHERE WHAT IT READS IS OF BULK AT MOST 1048576: true; the input reads as it did. -/
def patternPieceMatchesReferenceUptoRow : OpenClaim := { program := "ytiiibhgnmlmoaaagreat", sum := "2e70c0decbf4e93ff496bea2a5444fb41abd254adf5b0b8443747e88f849a0d6", func := "relucert/relucertlaw18.PatternPieceMatchesReference", spec := "patternPieceMatchesReference", unfollowed := true, recurses := true, apart := false, narrowed := true }
def PatternPieceMatchesReferenceUptoSaid : Prop := patternPieceMatchesReferenceUptoRow.holds Tryz.pinned (OpenSpec.upto patternPieceMatchesReferenceSpec)

/-- 'relucertlaw18.PatternAgrees', WHERE WHAT IT READS IS OF BULK AT MOST 1048576: true; the input reads as it did. -/
def patternAgreesUptoRow : OpenClaim := { program := "ytiiibhgnmlmoaaagreat", sum := "2e70c0decbf4e93ff496bea2a5444fb41abd254adf5b0b8443747e88f849a0d6", func := "relucert/relucertlaw18.PatternAgrees", spec := "patternAgrees", unfollowed := true, recurses := true, apart := false, narrowed := true }
def PatternAgreesUptoSaid : Prop := patternAgreesUptoRow.holds Tryz.pinned (OpenSpec.upto patternAgreesSpec)

/-- 'relucertlaw18.PatternCovers', WHERE WHAT IT READS IS OF BULK AT MOST 1048576: true; the input reads as it did. -/
def patternCoversUptoRow : OpenClaim := { program := "ytiiibhgnmlmoaaagreat", sum := "2e70c0decbf4e93ff496bea2a5444fb41abd254adf5b0b8443747e88f849a0d6", func := "relucert/relucertlaw18.PatternCovers", spec := "patternCovers", unfollowed := true, recurses := true, apart := false, narrowed := true }
def PatternCoversUptoSaid : Prop := patternCoversUptoRow.holds Tryz.pinned (OpenSpec.upto patternCoversSpec)

end Rows
end Go.Proofs.YtiiibhgnmlmoaaaGreat
