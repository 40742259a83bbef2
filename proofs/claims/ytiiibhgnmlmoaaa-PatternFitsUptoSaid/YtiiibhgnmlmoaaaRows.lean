/-
  No cell of these rows narrows 'for every input' (looked for: loops, veiled, ifaces, maps, wideKeys, modest, calm, conditions, laid).
  DERIVED. THE GIVEN ROWS OF THIS SEAT. 2 by the template 'for every input the law returns true; each argument reads behind the call as it read before'; 0 by the template 'total and deterministic' (their statements: YtiiibhgnmlmoaaaTotals.lean).
  GIVEN WITH THE SEED: the statements are not yours to turn. If you find one false, say at which input.
  Laid BY PROGRAM, IN A SANDBOX (cutbox-rows.mjs): the forced cells as the released guide's own fill.sh prints them over the translation 7d3c1fd98c5efbc3… (all of the seat's roots in one cut). By AI agents, Wed Nov 11 2026. No macro, syntax, notation, axiom, sorry.
-/
import Derived.Test.YtiiibhgnmlmoaaaChecked
import GoSem.Claim
import GoSem.ClaimJoined
import GoSem.ClaimMapViews
import Derived.JoinedTies
import Derived.KernelRfl
namespace Go.Proofs.Ytiiibhgnmlmoaaa
/- THE CELL 'sum', in the pinned program and in every row, IS THE sha256 OF THE DUMP (.gsa) THAT YtiiibhgnmlmoaaaProg.lean LOADS. Nothing in Lean hashes anything: it is a label: what it is worth is what the hold of that sum in a sandbox is worth. -/
noncomputable def Try.pinned : Pinned := { name := "ytiiibhgnmlmoaaa", sum := "7d3c1fd98c5efbc339606b547f5c8d2c5bb8a9cb0e85112366dd77124784609d", checked := Try.checked }
namespace Rows
def none {H : Type} : Left H := { results := [], args := [] }

/-- 'relucertlaw18.PatternFits': WHATEVER THE INPUT: true; the input reads as it did. -/
def patternFitsSpec : ChangeSpec := { name := "patternFits", fn := fun _ => fun
  | [d1, d2] => { results := [.lit (.bool true)], args := [d1, d2] }
  | _ => none }
def patternFitsRow : OpenClaim := { program := "ytiiibhgnmlmoaaa", sum := "7d3c1fd98c5efbc339606b547f5c8d2c5bb8a9cb0e85112366dd77124784609d", func := "relucert/relucertlaw18.PatternFits", spec := "patternFits", unfollowed := true, recurses := true, apart := false }
def PatternFitsSaid : Prop := patternFitsRow.holds Try.pinned (OpenSpec.ofChange patternFitsSpec)

/-- ITS FALSE NEIGHBOUR: 'it returns false'. Refute it at one input. -/
def patternFitsWrong : ChangeSpec := { name := "patternFits", fn := fun _ => fun
  | [d1, d2] => { results := [.lit (.bool false)], args := [d1, d2] }
  | _ => none }
def PatternFitsWrongFalsely : Prop := patternFitsRow.holds Try.pinned (OpenSpec.ofChange patternFitsWrong)

/-- 'relucertlaw18.PatternAll': WHATEVER THE INPUT: true; the input reads as it did. -/
def patternAllSpec : ChangeSpec := { name := "patternAll", fn := fun _ => fun
  | [d1, d2] => { results := [.lit (.bool true)], args := [d1, d2] }
  | _ => none }
def patternAllRow : OpenClaim := { program := "ytiiibhgnmlmoaaa", sum := "7d3c1fd98c5efbc339606b547f5c8d2c5bb8a9cb0e85112366dd77124784609d", func := "relucert/relucertlaw18.PatternAll", spec := "patternAll", unfollowed := true, recurses := true, apart := false }
def PatternAllSaid : Prop := patternAllRow.holds Try.pinned (OpenSpec.ofChange patternAllSpec)

/-- ITS FALSE NEIGHBOUR: 'it returns false'. Refute it at one input. -/
def patternAllWrong : ChangeSpec := { name := "patternAll", fn := fun _ => fun
  | [d1, d2] => { results := [.lit (.bool false)], args := [d1, d2] }
  | _ => none }
def PatternAllWrongFalsely : Prop := patternAllRow.holds Try.pinned (OpenSpec.ofChange patternAllWrong)

/- THE SECOND FORM. 'bulk': how many values and letters a reading holds, each counted each time it is reached (what is shared counts as often as it is met; a slice's spare places count too). A statement '..UptoSaid' is the law's where the arguments, and the package variables that the reading takes, are together of bulk at most 1048576: NARROWER than '..Said'. Prove '..Said' where nothing that the law and all that it calls make is longer than what came in: it says more and counts as full. Else prove '..UptoSaid'. A law counts once. -/
mutual
def uptoBulk {H : Type} : DataW H → Nat
  | .lit (.string bytes) => bytes.length + 1
  | .lit _ => 1
  | .nil => 1
  | .ptr d => uptoBulk d + 1
  | .slice elems spare => uptoBulkAll elems + uptoBulkAll spare + 1
  | .agg parts => uptoBulkAll parts + 1
  | .iface _ d => uptoBulk d + 1
  | .map entries => uptoBulkEntries entries + 1
  | .held _ => 1
def uptoBulkAll {H : Type} : List (DataW H) → Nat
  | [] => 0
  | d :: r => uptoBulk d + uptoBulkAll r
def uptoBulkEntries {H : Type} : List (Lit × DataW H) → Nat
  | [] => 0
  | x :: r => uptoBulkEntry x + uptoBulkEntries r
def uptoBulkEntry {H : Type} : Lit × DataW H → Nat
  | (.string bytes, d) => bytes.length + uptoBulk d + 1
  | (_, d) => uptoBulk d + 1
 end
def uptoSmall : (H : Type) → List (DataW H) → Bool := fun _ ds => decide (uptoBulkAll ds ≤ 1048576)
def OpenSpec.upto (s : _root_.Go.ChangeSpec) : _root_.Go.OpenSpec := { _root_.Go.OpenSpec.ofChange s with cond := some uptoSmall }

/-- 'relucertlaw18.PatternFits', WHERE WHAT IT READS IS OF BULK AT MOST 1048576: true; the input reads as it did. -/
def patternFitsUptoRow : OpenClaim := { program := "ytiiibhgnmlmoaaa", sum := "7d3c1fd98c5efbc339606b547f5c8d2c5bb8a9cb0e85112366dd77124784609d", func := "relucert/relucertlaw18.PatternFits", spec := "patternFits", unfollowed := true, recurses := true, apart := false, narrowed := true }
def PatternFitsUptoSaid : Prop := patternFitsUptoRow.holds Try.pinned (OpenSpec.upto patternFitsSpec)

/-- 'relucertlaw18.PatternAll', WHERE WHAT IT READS IS OF BULK AT MOST 1048576: true; the input reads as it did. -/
def patternAllUptoRow : OpenClaim := { program := "ytiiibhgnmlmoaaa", sum := "7d3c1fd98c5efbc339606b547f5c8d2c5bb8a9cb0e85112366dd77124784609d", func := "relucert/relucertlaw18.PatternAll", spec := "patternAll", unfollowed := true, recurses := true, apart := false, narrowed := true }
def PatternAllUptoSaid : Prop := patternAllUptoRow.holds Try.pinned (OpenSpec.upto patternAllSpec)

end Rows
end Go.Proofs.Ytiiibhgnmlmoaaa
