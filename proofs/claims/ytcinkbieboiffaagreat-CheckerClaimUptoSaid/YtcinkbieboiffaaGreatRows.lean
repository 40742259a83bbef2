/-
  NARROWER THAN 'FOR EVERY INPUT', by the rows' own cells (each row's printed sentence says how): CheckerTree: loops · CheckerSound: loops · CheckerLocal: loops · CheckerGreater: loops · CheckerRepeated: loops · CheckerUnchanged: loops · CheckerClaim: loops · CheckerClaimSound: loops.
  DERIVED. THE GIVEN ROWS OF THIS SEAT. 8 by the template 'for every input the law returns true; each argument reads behind the call as it read before'; 0 by the template 'total and deterministic' (their statements: YtcinkbieboiffaaGreatTotals.lean).
  GIVEN WITH THE SEED: the statements are not yours to turn. If you find one false, say at which input.
  Laid BY PROGRAM, IN A SANDBOX (cutbox-rows.mjs): the forced cells as the released guide's own fill.sh prints them over the translation f846f9c21387186c… (all of the seat's roots in one cut). By AI agents, Wed Nov 11 2026. No macro, syntax, notation, axiom, sorry.
-/
import Derived.Test.YtcinkbieboiffaaGreatChecked
import GoSem.Claim
import GoSem.ClaimJoined
import GoSem.ClaimMapViews
import Derived.JoinedTies
import Derived.KernelRfl
namespace Go.Proofs.YtcinkbieboiffaaGreat
/- THE CELL 'sum', in the pinned program and in every row, IS THE sha256 OF THE DUMP (.gsa) THAT YtcinkbieboiffaaGreatProg.lean LOADS. Nothing in Lean hashes anything: it is a label: what it is worth is what the hold of that sum in a sandbox is worth. -/
noncomputable def Tryz.pinned : Pinned := { name := "ytcinkbieboiffaagreat", sum := "f846f9c21387186cd63f7ae97925bd659e4b8962132c446dc15c0f150cf0c759", checked := Tryz.checked }
namespace Rows
def none {H : Type} : Left H := { results := [], args := [] }

/-- 'relucertlaw48.CheckerTree': WHATEVER THE INPUT: true; the input reads as it did. -/
def checkerTreeSpec : ChangeSpec := { name := "checkerTree", fn := fun _ => fun
  | [d] => { results := [.lit (.bool true)], args := [d] }
  | _ => none }
def checkerTreeRow : OpenClaim := { program := "ytcinkbieboiffaagreat", sum := "f846f9c21387186cd63f7ae97925bd659e4b8962132c446dc15c0f150cf0c759", func := "relucert/relucertlaw48.CheckerTree", spec := "checkerTree", unfollowed := true, recurses := true, loops := true, apart := false }
def CheckerTreeSaid : Prop := checkerTreeRow.holds Tryz.pinned (OpenSpec.ofChange checkerTreeSpec)

/-- ITS FALSE NEIGHBOUR: 'it returns false'. Refute it at one input. -/
def checkerTreeWrong : ChangeSpec := { name := "checkerTree", fn := fun _ => fun
  | [d] => { results := [.lit (.bool false)], args := [d] }
  | _ => none }
def CheckerTreeWrongFalsely : Prop := checkerTreeRow.holds Tryz.pinned (OpenSpec.ofChange checkerTreeWrong)

/-- 'relucertlaw48.CheckerSound': WHATEVER THE INPUT: true; the input reads as it did. -/
def checkerSoundSpec : ChangeSpec := { name := "checkerSound", fn := fun _ => fun
  | [d] => { results := [.lit (.bool true)], args := [d] }
  | _ => none }
def checkerSoundRow : OpenClaim := { program := "ytcinkbieboiffaagreat", sum := "f846f9c21387186cd63f7ae97925bd659e4b8962132c446dc15c0f150cf0c759", func := "relucert/relucertlaw48.CheckerSound", spec := "checkerSound", unfollowed := true, recurses := true, loops := true, apart := false }
def CheckerSoundSaid : Prop := checkerSoundRow.holds Tryz.pinned (OpenSpec.ofChange checkerSoundSpec)

/-- ITS FALSE NEIGHBOUR: 'it returns false'. Refute it at one input. -/
def checkerSoundWrong : ChangeSpec := { name := "checkerSound", fn := fun _ => fun
  | [d] => { results := [.lit (.bool false)], args := [d] }
  | _ => none }
def CheckerSoundWrongFalsely : Prop := checkerSoundRow.holds Tryz.pinned (OpenSpec.ofChange checkerSoundWrong)

/-- 'relucertlaw48.CheckerLocal': WHATEVER THE INPUT: true; the input reads as it did. -/
def checkerLocalSpec : ChangeSpec := { name := "checkerLocal", fn := fun _ => fun
  | [d1, d2, d3] => { results := [.lit (.bool true)], args := [d1, d2, d3] }
  | _ => none }
def checkerLocalRow : OpenClaim := { program := "ytcinkbieboiffaagreat", sum := "f846f9c21387186cd63f7ae97925bd659e4b8962132c446dc15c0f150cf0c759", func := "relucert/relucertlaw48.CheckerLocal", spec := "checkerLocal", unfollowed := true, recurses := true, loops := true, apart := false }
def CheckerLocalSaid : Prop := checkerLocalRow.holds Tryz.pinned (OpenSpec.ofChange checkerLocalSpec)

/-- ITS FALSE NEIGHBOUR: 'it returns false'. Refute it at one input. -/
def checkerLocalWrong : ChangeSpec := { name := "checkerLocal", fn := fun _ => fun
  | [d1, d2, d3] => { results := [.lit (.bool false)], args := [d1, d2, d3] }
  | _ => none }
def CheckerLocalWrongFalsely : Prop := checkerLocalRow.holds Tryz.pinned (OpenSpec.ofChange checkerLocalWrong)

/-- 'relucertlaw48.CheckerGreater': WHATEVER THE INPUT: true; the input reads as it did. -/
def checkerGreaterSpec : ChangeSpec := { name := "checkerGreater", fn := fun _ => fun
  | [d1, d2, d3] => { results := [.lit (.bool true)], args := [d1, d2, d3] }
  | _ => none }
def checkerGreaterRow : OpenClaim := { program := "ytcinkbieboiffaagreat", sum := "f846f9c21387186cd63f7ae97925bd659e4b8962132c446dc15c0f150cf0c759", func := "relucert/relucertlaw48.CheckerGreater", spec := "checkerGreater", unfollowed := true, recurses := true, loops := true, apart := false }
def CheckerGreaterSaid : Prop := checkerGreaterRow.holds Tryz.pinned (OpenSpec.ofChange checkerGreaterSpec)

/-- ITS FALSE NEIGHBOUR: 'it returns false'. Refute it at one input. -/
def checkerGreaterWrong : ChangeSpec := { name := "checkerGreater", fn := fun _ => fun
  | [d1, d2, d3] => { results := [.lit (.bool false)], args := [d1, d2, d3] }
  | _ => none }
def CheckerGreaterWrongFalsely : Prop := checkerGreaterRow.holds Tryz.pinned (OpenSpec.ofChange checkerGreaterWrong)

/-- 'relucertlaw48.CheckerRepeated': WHATEVER THE INPUT: true; the input reads as it did. -/
def checkerRepeatedSpec : ChangeSpec := { name := "checkerRepeated", fn := fun _ => fun
  | [d] => { results := [.lit (.bool true)], args := [d] }
  | _ => none }
def checkerRepeatedRow : OpenClaim := { program := "ytcinkbieboiffaagreat", sum := "f846f9c21387186cd63f7ae97925bd659e4b8962132c446dc15c0f150cf0c759", func := "relucert/relucertlaw48.CheckerRepeated", spec := "checkerRepeated", unfollowed := true, recurses := true, loops := true, apart := false }
def CheckerRepeatedSaid : Prop := checkerRepeatedRow.holds Tryz.pinned (OpenSpec.ofChange checkerRepeatedSpec)

/-- ITS FALSE NEIGHBOUR: 'it returns false'. Refute it at one input. -/
def checkerRepeatedWrong : ChangeSpec := { name := "checkerRepeated", fn := fun _ => fun
  | [d] => { results := [.lit (.bool false)], args := [d] }
  | _ => none }
def CheckerRepeatedWrongFalsely : Prop := checkerRepeatedRow.holds Tryz.pinned (OpenSpec.ofChange checkerRepeatedWrong)

/-- 'relucertlaw48.CheckerUnchanged': WHATEVER THE INPUT: true; the input reads as it did. -/
def checkerUnchangedSpec : ChangeSpec := { name := "checkerUnchanged", fn := fun _ => fun
  | [d] => { results := [.lit (.bool true)], args := [d] }
  | _ => none }
def checkerUnchangedRow : OpenClaim := { program := "ytcinkbieboiffaagreat", sum := "f846f9c21387186cd63f7ae97925bd659e4b8962132c446dc15c0f150cf0c759", func := "relucert/relucertlaw48.CheckerUnchanged", spec := "checkerUnchanged", unfollowed := true, recurses := true, loops := true, apart := false }
def CheckerUnchangedSaid : Prop := checkerUnchangedRow.holds Tryz.pinned (OpenSpec.ofChange checkerUnchangedSpec)

/-- ITS FALSE NEIGHBOUR: 'it returns false'. Refute it at one input. -/
def checkerUnchangedWrong : ChangeSpec := { name := "checkerUnchanged", fn := fun _ => fun
  | [d] => { results := [.lit (.bool false)], args := [d] }
  | _ => none }
def CheckerUnchangedWrongFalsely : Prop := checkerUnchangedRow.holds Tryz.pinned (OpenSpec.ofChange checkerUnchangedWrong)

/-- 'relucertlaw48.CheckerClaim': WHATEVER THE INPUT: true; the input reads as it did. -/
def checkerClaimSpec : ChangeSpec := { name := "checkerClaim", fn := fun _ => fun
  | [d] => { results := [.lit (.bool true)], args := [d] }
  | _ => none }
def checkerClaimRow : OpenClaim := { program := "ytcinkbieboiffaagreat", sum := "f846f9c21387186cd63f7ae97925bd659e4b8962132c446dc15c0f150cf0c759", func := "relucert/relucertlaw48.CheckerClaim", spec := "checkerClaim", unfollowed := true, recurses := true, loops := true, apart := false }
def CheckerClaimSaid : Prop := checkerClaimRow.holds Tryz.pinned (OpenSpec.ofChange checkerClaimSpec)

/-- ITS FALSE NEIGHBOUR: 'it returns false'. Refute it at one input. -/
def checkerClaimWrong : ChangeSpec := { name := "checkerClaim", fn := fun _ => fun
  | [d] => { results := [.lit (.bool false)], args := [d] }
  | _ => none }
def CheckerClaimWrongFalsely : Prop := checkerClaimRow.holds Tryz.pinned (OpenSpec.ofChange checkerClaimWrong)

/-- 'relucertlaw48.CheckerClaimSound': WHATEVER THE INPUT: true; the input reads as it did. -/
def checkerClaimSoundSpec : ChangeSpec := { name := "checkerClaimSound", fn := fun _ => fun
  | [d] => { results := [.lit (.bool true)], args := [d] }
  | _ => none }
def checkerClaimSoundRow : OpenClaim := { program := "ytcinkbieboiffaagreat", sum := "f846f9c21387186cd63f7ae97925bd659e4b8962132c446dc15c0f150cf0c759", func := "relucert/relucertlaw48.CheckerClaimSound", spec := "checkerClaimSound", unfollowed := true, recurses := true, loops := true, apart := false }
def CheckerClaimSoundSaid : Prop := checkerClaimSoundRow.holds Tryz.pinned (OpenSpec.ofChange checkerClaimSoundSpec)

/-- ITS FALSE NEIGHBOUR: 'it returns false'. Refute it at one input. -/
def checkerClaimSoundWrong : ChangeSpec := { name := "checkerClaimSound", fn := fun _ => fun
  | [d] => { results := [.lit (.bool false)], args := [d] }
  | _ => none }
def CheckerClaimSoundWrongFalsely : Prop := checkerClaimSoundRow.holds Tryz.pinned (OpenSpec.ofChange checkerClaimSoundWrong)

/- THE SECOND FORM. 'bulk': how many values and letters a reading holds, each counted each time it is reached (what is shared counts as often as it is met; a slice's spare places count too). A statement '..UptoSaid' is the law's where the arguments, and the package variables that the reading takes, are together of bulk at most 1048576: NARROWER than '..Said'. Prove '..Said' where nothing that the law and all that it calls make is longer than what came in: it says more and counts as full. Else prove '..UptoSaid'. A law counts once. -/
mutual
def uptoBulk {H : Type} : DataW H → Nat
  | .lit (.string bytes) => bytes.length + 1
  | .lit _ => 1
  | .nil => 1
  | .ptr d => uptoBulk d + 1
  | .slice elems spare => uptoBulkAll elems + uptoBulkAll spare + 1
  | .agg parts => uptoBulkAll parts + 1
  | .iface _ d => uptoBulk d + 1
  | .map entries => uptoBulkEntries entries + 1
  | .held _ => 1
def uptoBulkAll {H : Type} : List (DataW H) → Nat
  | [] => 0
  | d :: r => uptoBulk d + uptoBulkAll r
def uptoBulkEntries {H : Type} : List (Lit × DataW H) → Nat
  | [] => 0
  | x :: r => uptoBulkEntry x + uptoBulkEntries r
def uptoBulkEntry {H : Type} : Lit × DataW H → Nat
  | (.string bytes, d) => bytes.length + uptoBulk d + 1
  | (_, d) => uptoBulk d + 1
 end
def uptoSmall : (H : Type) → List (DataW H) → Bool := fun _ ds => decide (uptoBulkAll ds ≤ 1048576)
def OpenSpec.upto (s : _root_.Go.ChangeSpec) : _root_.Go.OpenSpec := { _root_.Go.OpenSpec.ofChange s with cond := some uptoSmall }

/-- 'relucertlaw48.CheckerTree', WHERE WHAT IT READS IS OF BULK AT MOST 1048576: true; the input reads as it did. -/
def checkerTreeUptoRow : OpenClaim := { program := "ytcinkbieboiffaagreat", sum := "f846f9c21387186cd63f7ae97925bd659e4b8962132c446dc15c0f150cf0c759", func := "relucert/relucertlaw48.CheckerTree", spec := "checkerTree", unfollowed := true, recurses := true, loops := true, apart := false, narrowed := true }
def CheckerTreeUptoSaid : Prop := checkerTreeUptoRow.holds Tryz.pinned (OpenSpec.upto checkerTreeSpec)

/-- 'relucertlaw48.CheckerSound', WHERE WHAT IT READS IS OF BULK AT MOST 1048576: true; the input reads as it did. -/
def checkerSoundUptoRow : OpenClaim := { program := "ytcinkbieboiffaagreat", sum := "f846f9c21387186cd63f7ae97925bd659e4b8962132c446dc15c0f150cf0c759", func := "relucert/relucertlaw48.CheckerSound", spec := "checkerSound", unfollowed := true, recurses := true, loops := true, apart := false, narrowed := true }
def CheckerSoundUptoSaid : Prop := checkerSoundUptoRow.holds Tryz.pinned (OpenSpec.upto checkerSoundSpec)

/-- 'relucertlaw48.CheckerLocal', WHERE WHAT IT READS IS OF BULK AT MOST 1048576: true; the input reads as it did. -/
def checkerLocalUptoRow : OpenClaim := { program := "ytcinkbieboiffaagreat", sum := "f846f9c21387186cd63f7ae97925bd659e4b8962132c446dc15c0f150cf0c759", func := "relucert/relucertlaw48.CheckerLocal", spec := "checkerLocal", unfollowed := true, recurses := true, loops := true, apart := false, narrowed := true }
def CheckerLocalUptoSaid : Prop := checkerLocalUptoRow.holds Tryz.pinned (OpenSpec.upto checkerLocalSpec)

/-- 'relucertlaw48.CheckerGreater', WHERE WHAT IT READS IS OF BULK AT MOST 1048576: true; the input reads as it did. -/
def checkerGreaterUptoRow : OpenClaim := { program := "ytcinkbieboiffaagreat", sum := "f846f9c21387186cd63f7ae97925bd659e4b8962132c446dc15c0f150cf0c759", func := "relucert/relucertlaw48.CheckerGreater", spec := "checkerGreater", unfollowed := true, recurses := true, loops := true, apart := false, narrowed := true }
def CheckerGreaterUptoSaid : Prop := checkerGreaterUptoRow.holds Tryz.pinned (OpenSpec.upto checkerGreaterSpec)

/-- 'relucertlaw48.CheckerRepeated', WHERE WHAT IT READS IS OF BULK AT MOST 1048576: true; the input reads as it did. -/
def checkerRepeatedUptoRow : OpenClaim := { program := "ytcinkbieboiffaagreat", sum := "f846f9c21387186cd63f7ae97925bd659e4b8962132c446dc15c0f150cf0c759", func := "relucert/relucertlaw48.CheckerRepeated", spec := "checkerRepeated", unfollowed := true, recurses := true, loops := true, apart := false, narrowed := true }
def CheckerRepeatedUptoSaid : Prop := checkerRepeatedUptoRow.holds Tryz.pinned (OpenSpec.upto checkerRepeatedSpec)

/-- 'relucertlaw48.CheckerUnchanged', WHERE WHAT IT READS IS OF BULK AT MOST 1048576: true; the input reads as it did. -/
def checkerUnchangedUptoRow : OpenClaim := { program := "ytcinkbieboiffaagreat", sum := "f846f9c21387186cd63f7ae97925bd659e4b8962132c446dc15c0f150cf0c759", func := "relucert/relucertlaw48.CheckerUnchanged", spec := "checkerUnchanged", unfollowed := true, recurses := true, loops := true, apart := false, narrowed := true }
def CheckerUnchangedUptoSaid : Prop := checkerUnchangedUptoRow.holds Tryz.pinned (OpenSpec.upto checkerUnchangedSpec)

/-- 'relucertlaw48.CheckerClaim', WHERE WHAT IT READS IS OF BULK AT MOST 1048576: true; the input reads as it did. -/
def checkerClaimUptoRow : OpenClaim := { program := "ytcinkbieboiffaagreat", sum := "f846f9c21387186cd63f7ae97925bd659e4b8962132c446dc15c0f150cf0c759", func := "relucert/relucertlaw48.CheckerClaim", spec := "checkerClaim", unfollowed := true, recurses := true, loops := true, apart := false, narrowed := true }
def CheckerClaimUptoSaid : Prop := checkerClaimUptoRow.holds Tryz.pinned (OpenSpec.upto checkerClaimSpec)

/-- 'relucertlaw48.CheckerClaimSound', WHERE WHAT IT READS IS OF BULK AT MOST 1048576: true; the input reads as it did. -/
def checkerClaimSoundUptoRow : OpenClaim := { program := "ytcinkbieboiffaagreat", sum := "f846f9c21387186cd63f7ae97925bd659e4b8962132c446dc15c0f150cf0c759", func := "relucert/relucertlaw48.CheckerClaimSound", spec := "checkerClaimSound", unfollowed := true, recurses := true, loops := true, apart := false, narrowed := true }
def CheckerClaimSoundUptoSaid : Prop := checkerClaimSoundUptoRow.holds Tryz.pinned (OpenSpec.upto checkerClaimSoundSpec)

end Rows
end Go.Proofs.YtcinkbieboiffaaGreat
