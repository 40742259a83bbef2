/-
  No cell of these rows narrows 'for every input' (looked for: loops, veiled, ifaces, maps, wideKeys, modest, calm, conditions, laid).
  DERIVED. THE GIVEN ROWS OF THIS SEAT. 8 by the template 'for every input the law returns true; each argument reads behind the call as it read before'; 0 by the template 'total and deterministic' (their statements: YtlgpcglpefbgeaaGreatTotals.lean).
  GIVEN WITH THE SEED: the statements are not yours to turn. If you find one false, say at which input.
  Laid BY PROGRAM, IN A SANDBOX (cutbox-rows.mjs): the forced cells as the released guide's own fill.sh prints them over the translation 0a591c1a02eb72e6… (all of the seat's roots in one cut). By AI agents, Wed Nov 11 2026. No macro, syntax, notation, axiom, sorry.
-/
import Derived.Test.YtlgpcglpefbgeaaGreatChecked
import GoSem.Claim
import GoSem.ClaimJoined
import GoSem.ClaimMapViews
import Derived.JoinedTies
import Derived.KernelRfl
namespace Go.Proofs.YtlgpcglpefbgeaaGreat
/- THE CELL 'sum', in the pinned program and in every row, IS THE sha256 OF THE DUMP (.gsa) THAT YtlgpcglpefbgeaaGreatProg.lean LOADS. Nothing in Lean hashes anything: it is a label: what it is worth is what the hold of that sum in a sandbox is worth. -/
noncomputable def Tryz.pinned : Pinned := { name := "ytlgpcglpefbgeaagreat", sum := "0a591c1a02eb72e673faf99cd45b20351cb6e566e10d1ff01df1f6177c4361c2", checked := Tryz.checked }
namespace Rows
def none {H : Type} : Left H := { results := [], args := [] }

/-- 'relucertlaw19.RegionValid': WHATEVER THE INPUT: true; the input reads as it did. -/
def regionValidSpec : ChangeSpec := { name := "regionValid", fn := fun _ => fun
  | [d1, d2] => { results := [.lit (.bool true)], args := [d1, d2] }
  | _ => none }
def regionValidRow : OpenClaim := { program := "ytlgpcglpefbgeaagreat", sum := "0a591c1a02eb72e673faf99cd45b20351cb6e566e10d1ff01df1f6177c4361c2", func := "relucert/relucertlaw19.RegionValid", spec := "regionValid", unfollowed := true, recurses := true, apart := false }
def RegionValidSaid : Prop := regionValidRow.holds Tryz.pinned (OpenSpec.ofChange regionValidSpec)

/-- ITS FALSE NEIGHBOUR: 'it returns false'. Refute it at one input. -/
def regionValidWrong : ChangeSpec := { name := "regionValid", fn := fun _ => fun
  | [d1, d2] => { results := [.lit (.bool false)], args := [d1, d2] }
  | _ => none }
def RegionValidWrongFalsely : Prop := regionValidRow.holds Tryz.pinned (OpenSpec.ofChange regionValidWrong)

/-- 'relucertlaw19.RegionBox': WHATEVER THE INPUT: true; the input reads as it did. -/
def regionBoxSpec : ChangeSpec := { name := "regionBox", fn := fun _ => fun
  | [d1, d2] => { results := [.lit (.bool true)], args := [d1, d2] }
  | _ => none }
def regionBoxRow : OpenClaim := { program := "ytlgpcglpefbgeaagreat", sum := "0a591c1a02eb72e673faf99cd45b20351cb6e566e10d1ff01df1f6177c4361c2", func := "relucert/relucertlaw19.RegionBox", spec := "regionBox", unfollowed := true, recurses := true, apart := false }
def RegionBoxSaid : Prop := regionBoxRow.holds Tryz.pinned (OpenSpec.ofChange regionBoxSpec)

/-- ITS FALSE NEIGHBOUR: 'it returns false'. Refute it at one input. -/
def regionBoxWrong : ChangeSpec := { name := "regionBox", fn := fun _ => fun
  | [d1, d2] => { results := [.lit (.bool false)], args := [d1, d2] }
  | _ => none }
def RegionBoxWrongFalsely : Prop := regionBoxRow.holds Tryz.pinned (OpenSpec.ofChange regionBoxWrong)

/-- 'relucertlaw19.RegionContains': WHATEVER THE INPUT: true; the input reads as it did. -/
def regionContainsSpec : ChangeSpec := { name := "regionContains", fn := fun _ => fun
  | [d1, d2] => { results := [.lit (.bool true)], args := [d1, d2] }
  | _ => none }
def regionContainsRow : OpenClaim := { program := "ytlgpcglpefbgeaagreat", sum := "0a591c1a02eb72e673faf99cd45b20351cb6e566e10d1ff01df1f6177c4361c2", func := "relucert/relucertlaw19.RegionContains", spec := "regionContains", unfollowed := true, recurses := true, apart := false }
def RegionContainsSaid : Prop := regionContainsRow.holds Tryz.pinned (OpenSpec.ofChange regionContainsSpec)

/-- ITS FALSE NEIGHBOUR: 'it returns false'. Refute it at one input. -/
def regionContainsWrong : ChangeSpec := { name := "regionContains", fn := fun _ => fun
  | [d1, d2] => { results := [.lit (.bool false)], args := [d1, d2] }
  | _ => none }
def RegionContainsWrongFalsely : Prop := regionContainsRow.holds Tryz.pinned (OpenSpec.ofChange regionContainsWrong)

/-- 'relucertlaw19.RegionClip': WHATEVER THE INPUT: true; the input reads as it did. -/
def regionClipSpec : ChangeSpec := { name := "regionClip", fn := fun _ => fun
  | [d1, d2, d3] => { results := [.lit (.bool true)], args := [d1, d2, d3] }
  | _ => none }
def regionClipRow : OpenClaim := { program := "ytlgpcglpefbgeaagreat", sum := "0a591c1a02eb72e673faf99cd45b20351cb6e566e10d1ff01df1f6177c4361c2", func := "relucert/relucertlaw19.RegionClip", spec := "regionClip", unfollowed := true, recurses := true, apart := false }
def RegionClipSaid : Prop := regionClipRow.holds Tryz.pinned (OpenSpec.ofChange regionClipSpec)

/-- ITS FALSE NEIGHBOUR: 'it returns false'. Refute it at one input. -/
def regionClipWrong : ChangeSpec := { name := "regionClip", fn := fun _ => fun
  | [d1, d2, d3] => { results := [.lit (.bool false)], args := [d1, d2, d3] }
  | _ => none }
def RegionClipWrongFalsely : Prop := regionClipRow.holds Tryz.pinned (OpenSpec.ofChange regionClipWrong)

/-- 'relucertlaw19.RegionWithin': WHATEVER THE INPUT: true; the input reads as it did. -/
def regionWithinSpec : ChangeSpec := { name := "regionWithin", fn := fun _ => fun
  | [d1, d2, d3] => { results := [.lit (.bool true)], args := [d1, d2, d3] }
  | _ => none }
def regionWithinRow : OpenClaim := { program := "ytlgpcglpefbgeaagreat", sum := "0a591c1a02eb72e673faf99cd45b20351cb6e566e10d1ff01df1f6177c4361c2", func := "relucert/relucertlaw19.RegionWithin", spec := "regionWithin", unfollowed := true, recurses := true, apart := false }
def RegionWithinSaid : Prop := regionWithinRow.holds Tryz.pinned (OpenSpec.ofChange regionWithinSpec)

/-- ITS FALSE NEIGHBOUR: 'it returns false'. Refute it at one input. -/
def regionWithinWrong : ChangeSpec := { name := "regionWithin", fn := fun _ => fun
  | [d1, d2, d3] => { results := [.lit (.bool false)], args := [d1, d2, d3] }
  | _ => none }
def RegionWithinWrongFalsely : Prop := regionWithinRow.holds Tryz.pinned (OpenSpec.ofChange regionWithinWrong)

/-- 'relucertlaw19.RegionSmall': WHATEVER THE INPUT: true; the input reads as it did. -/
def regionSmallSpec : ChangeSpec := { name := "regionSmall", fn := fun _ => fun
  | [d1, d2] => { results := [.lit (.bool true)], args := [d1, d2] }
  | _ => none }
def regionSmallRow : OpenClaim := { program := "ytlgpcglpefbgeaagreat", sum := "0a591c1a02eb72e673faf99cd45b20351cb6e566e10d1ff01df1f6177c4361c2", func := "relucert/relucertlaw19.RegionSmall", spec := "regionSmall", unfollowed := true, recurses := true, apart := false }
def RegionSmallSaid : Prop := regionSmallRow.holds Tryz.pinned (OpenSpec.ofChange regionSmallSpec)

/-- ITS FALSE NEIGHBOUR: 'it returns false'. Refute it at one input. -/
def regionSmallWrong : ChangeSpec := { name := "regionSmall", fn := fun _ => fun
  | [d1, d2] => { results := [.lit (.bool false)], args := [d1, d2] }
  | _ => none }
def RegionSmallWrongFalsely : Prop := regionSmallRow.holds Tryz.pinned (OpenSpec.ofChange regionSmallWrong)

/-- 'relucertlaw19.RegionBall': WHATEVER THE INPUT: true; the input reads as it did. -/
def regionBallSpec : ChangeSpec := { name := "regionBall", fn := fun _ => fun
  | [d1, d2, d3] => { results := [.lit (.bool true)], args := [d1, d2, d3] }
  | _ => none }
def regionBallRow : OpenClaim := { program := "ytlgpcglpefbgeaagreat", sum := "0a591c1a02eb72e673faf99cd45b20351cb6e566e10d1ff01df1f6177c4361c2", func := "relucert/relucertlaw19.RegionBall", spec := "regionBall", unfollowed := true, recurses := true, apart := false }
def RegionBallSaid : Prop := regionBallRow.holds Tryz.pinned (OpenSpec.ofChange regionBallSpec)

/-- ITS FALSE NEIGHBOUR: 'it returns false'. Refute it at one input. -/
def regionBallWrong : ChangeSpec := { name := "regionBall", fn := fun _ => fun
  | [d1, d2, d3] => { results := [.lit (.bool false)], args := [d1, d2, d3] }
  | _ => none }
def RegionBallWrongFalsely : Prop := regionBallRow.holds Tryz.pinned (OpenSpec.ofChange regionBallWrong)

/-- 'relucertlaw19.RegionCorners': WHATEVER THE INPUT: true; the input reads as it did. -/
def regionCornersSpec : ChangeSpec := { name := "regionCorners", fn := fun _ => fun
  | [d1, d2] => { results := [.lit (.bool true)], args := [d1, d2] }
  | _ => none }
def regionCornersRow : OpenClaim := { program := "ytlgpcglpefbgeaagreat", sum := "0a591c1a02eb72e673faf99cd45b20351cb6e566e10d1ff01df1f6177c4361c2", func := "relucert/relucertlaw19.RegionCorners", spec := "regionCorners", unfollowed := true, recurses := true, apart := false }
def RegionCornersSaid : Prop := regionCornersRow.holds Tryz.pinned (OpenSpec.ofChange regionCornersSpec)

/-- ITS FALSE NEIGHBOUR: 'it returns false'. Refute it at one input. -/
def regionCornersWrong : ChangeSpec := { name := "regionCorners", fn := fun _ => fun
  | [d1, d2] => { results := [.lit (.bool false)], args := [d1, d2] }
  | _ => none }
def RegionCornersWrongFalsely : Prop := regionCornersRow.holds Tryz.pinned (OpenSpec.ofChange regionCornersWrong)

/- THE SECOND FORM. 'bulk': how many values and letters a reading holds, each counted each time it is reached (what is shared counts as often as it is met; a slice's spare places count too). A statement '..UptoSaid' is the law's where the arguments, and the package variables that the reading takes, are together of bulk at most 1048576: NARROWER than '..Said'. Prove '..Said' where nothing that the law and all that it calls make is longer than what came in: it says more and counts as full. Else prove '..UptoSaid'. A law counts once. -/
mutual
def uptoBulk {H : Type} : DataW H → Nat
  | .lit (.string bytes) => bytes.length + 1
  | .lit _ => 1
  | .nil => 1
  | .ptr d => uptoBulk d + 1
  | .slice elems spare => uptoBulkAll elems + uptoBulkAll spare + 1
  | .agg parts => uptoBulkAll parts + 1
  | .iface _ d => uptoBulk d + 1
  | .map entries => uptoBulkEntries entries + 1
  | .held _ => 1
def uptoBulkAll {H : Type} : List (DataW H) → Nat
  | [] => 0
  | d :: r => uptoBulk d + uptoBulkAll r
def uptoBulkEntries {H : Type} : List (Lit × DataW H) → Nat
  | [] => 0
  | x :: r => uptoBulkEntry x + uptoBulkEntries r
def uptoBulkEntry {H : Type} : Lit × DataW H → Nat
  | (.string bytes, d) => bytes.length + uptoBulk d + 1
  | (_, d) => uptoBulk d + 1
 end
def uptoSmall : (H : Type) → List (DataW H) → Bool := fun _ ds => decide (uptoBulkAll ds ≤ 1048576)
def OpenSpec.upto (s : _root_.Go.ChangeSpec) : _root_.Go.OpenSpec := { _root_.Go.OpenSpec.ofChange s with cond := some uptoSmall }

/-- 'relucertlaw19.RegionValid', WHERE WHAT IT READS IS OF BULK AT MOST 1048576: true; the input reads as it did. -/
def regionValidUptoRow : OpenClaim := { program := "ytlgpcglpefbgeaagreat", sum := "0a591c1a02eb72e673faf99cd45b20351cb6e566e10d1ff01df1f6177c4361c2", func := "relucert/relucertlaw19.RegionValid", spec := "regionValid", unfollowed := true, recurses := true, apart := false, narrowed := true }
def RegionValidUptoSaid : Prop := regionValidUptoRow.holds Tryz.pinned (OpenSpec.upto regionValidSpec)

/-- 'relucertlaw19.RegionBox', WHERE WHAT IT READS IS OF BULK AT MOST 1048576: true; the input reads as it did. -/
def regionBoxUptoRow : OpenClaim := { program := "ytlgpcglpefbgeaagreat", sum := "0a591c1a02eb72e673faf99cd45b20351cb6e566e10d1ff01df1f6177c4361c2", func := "relucert/relucertlaw19.RegionBox", spec := "regionBox", unfollowed := true, recurses := true, apart := false, narrowed := true }
def RegionBoxUptoSaid : Prop := regionBoxUptoRow.holds Tryz.pinned (OpenSpec.upto regionBoxSpec)

/-- 'relucertlaw19.RegionContains', WHERE WHAT IT READS IS OF BULK AT MOST 1048576: true; the input reads as it did. -/
def regionContainsUptoRow : OpenClaim := { program := "ytlgpcglpefbgeaagreat", sum := "0a591c1a02eb72e673faf99cd45b20351cb6e566e10d1ff01df1f6177c4361c2", func := "relucert/relucertlaw19.RegionContains", spec := "regionContains", unfollowed := true, recurses := true, apart := false, narrowed := true }
def RegionContainsUptoSaid : Prop := regionContainsUptoRow.holds Tryz.pinned (OpenSpec.upto regionContainsSpec)

/-- 'relucertlaw19.RegionClip', WHERE WHAT IT READS IS OF BULK AT MOST 1048576: true; the input reads as it did. -/
def regionClipUptoRow : OpenClaim := { program := "ytlgpcglpefbgeaagreat", sum := "0a591c1a02eb72e673faf99cd45b20351cb6e566e10d1ff01df1f6177c4361c2", func := "relucert/relucertlaw19.RegionClip", spec := "regionClip", unfollowed := true, recurses := true, apart := false, narrowed := true }
def RegionClipUptoSaid : Prop := regionClipUptoRow.holds Tryz.pinned (OpenSpec.upto regionClipSpec)

/-- 'relucertlaw19.RegionWithin', WHERE WHAT IT READS IS OF BULK AT MOST 1048576: true; the input reads as it did. -/
def regionWithinUptoRow : OpenClaim := { program := "ytlgpcglpefbgeaagreat", sum := "0a591c1a02eb72e673faf99cd45b20351cb6e566e10d1ff01df1f6177c4361c2", func := "relucert/relucertlaw19.RegionWithin", spec := "regionWithin", unfollowed := true, recurses := true, apart := false, narrowed := true }
def RegionWithinUptoSaid : Prop := regionWithinUptoRow.holds Tryz.pinned (OpenSpec.upto regionWithinSpec)

/-- 'relucertlaw19.RegionSmall', WHERE WHAT IT READS IS OF BULK AT MOST 1048576: true; the input reads as it did. -/
def regionSmallUptoRow : OpenClaim := { program := "ytlgpcglpefbgeaagreat", sum := "0a591c1a02eb72e673faf99cd45b20351cb6e566e10d1ff01df1f6177c4361c2", func := "relucert/relucertlaw19.RegionSmall", spec := "regionSmall", unfollowed := true, recurses := true, apart := false, narrowed := true }
def RegionSmallUptoSaid : Prop := regionSmallUptoRow.holds Tryz.pinned (OpenSpec.upto regionSmallSpec)

/-- 'relucertlaw19.RegionBall', WHERE WHAT IT READS IS OF BULK AT MOST 1048576: true; the input reads as it did. -/
def regionBallUptoRow : OpenClaim := { program := "ytlgpcglpefbgeaagreat", sum := "0a591c1a02eb72e673faf99cd45b20351cb6e566e10d1ff01df1f6177c4361c2", func := "relucert/relucertlaw19.RegionBall", spec := "regionBall", unfollowed := true, recurses := true, apart := false, narrowed := true }
def RegionBallUptoSaid : Prop := regionBallUptoRow.holds Tryz.pinned (OpenSpec.upto regionBallSpec)

/-- 'relucertlaw19.RegionCorners', WHERE WHAT IT READS IS OF BULK AT MOST 1048576: true; the input reads as it did. -/
def regionCornersUptoRow : OpenClaim := { program := "ytlgpcglpefbgeaagreat", sum := "0a591c1a02eb72e673faf99cd45b20351cb6e566e10d1ff01df1f6177c4361c2", func := "relucert/relucertlaw19.RegionCorners", spec := "regionCorners", unfollowed := true, recurses := true, apart := false, narrowed := true }
def RegionCornersUptoSaid : Prop := regionCornersUptoRow.holds Tryz.pinned (OpenSpec.upto regionCornersSpec)

end Rows
end Go.Proofs.YtlgpcglpefbgeaaGreat
