/-
  NARROWER THAN 'FOR EVERY INPUT', by the rows' own cells (each row's printed sentence says how): TrimLemmas: loops, laid · TrimSplits: loops, laid · TrimTrims: loops, laid · TrimAccepted: loops, laid · TrimSmaller: loops, laid · TrimNeeded: loops, laid · TrimUseless: loops, laid.
  DERIVED. THE GIVEN ROWS OF THIS SEAT. 7 by the template 'for every input the law returns true; each argument reads behind the call as it read before'; 0 by the template 'total and deterministic' (their statements: YtbelmkceegmdjaaGreatDoorTotals.lean).
  GIVEN WITH THE SEED: the statements are not yours to turn. If you find one false, say at which input.
  Laid BY PROGRAM, IN A SANDBOX (cutbox-rows.mjs): the forced cells as the released guide's own fill.sh prints them over the translation a93b33c604a555de… (all of the seat's roots in one cut). By AI agents, Wed Nov 11 2026. No macro, syntax, notation, axiom, sorry.
-/
import Derived.Test.YtbelmkceegmdjaaGreatDoorChecked
import GoSem.Claim
import GoSem.ClaimJoined
import GoSem.ClaimMapViews
import Derived.JoinedTies
import Derived.KernelRfl
namespace Go.Proofs.YtbelmkceegmdjaaGreatDoor
/- THE CELL 'sum', in the pinned program and in every row, IS THE sha256 OF THE DUMP (.gsa) THAT YtbelmkceegmdjaaGreatDoorProg.lean LOADS. Nothing in Lean hashes anything: it is a label: what it is worth is what the hold of that sum in a sandbox is worth. -/
noncomputable def Tryz.pinned : Pinned := { name := "ytbelmkceegmdjaagreatdoor", sum := "a93b33c604a555deee85b58734ad6dea406ad923c74d93bcc3e22b680476b1e1", checked := Tryz.checked }
namespace Rows
def none {H : Type} : Left H := { results := [], args := [] }

/- WHAT THE LISTED PACKAGE-LEVEL VARIABLES READ AS WHEN THE CALL BEGINS. Each datum BY PROGRAM (the guide's laid-datum.mjs) off the statement by which the dump's own 'gosem.cut.vars' lays the variable. In a bare row this is a premise. The card (YtbelmkceegmdjaaGreatDoorCards.lean) ties it to the program's text. -/
def laid_relucert_phase_opposites {H : Type} : DataW H := .agg [.lit (.int .i64 0), .lit (.int .i64 2), .lit (.int .i64 1), .lit (.int .i64 4), .lit (.int .i64 3)]

/-- 'relucertlaw49.TrimLemmas': WHATEVER THE INPUT: true; the input reads as it did. -/
def trimLemmasSpec : ChangeSpec := { name := "trimLemmas", fn := fun _ => fun
  | [d] => { results := [.lit (.bool true)], args := [d] }
  | _ => none }
def trimLemmasRow : OpenClaim := { program := "ytbelmkceegmdjaagreatdoor", sum := "a93b33c604a555deee85b58734ad6dea406ad923c74d93bcc3e22b680476b1e1", func := "relucert/relucertlaw49.TrimLemmas", spec := "trimLemmas", unfollowed := true, recurses := true, named := ["relucert/phase.opposites"], loops := true, apart := false, laid := [("relucert/phase.opposites", laid_relucert_phase_opposites)] }
def TrimLemmasSaid : Prop := trimLemmasRow.holds Tryz.pinned (OpenSpec.ofChange trimLemmasSpec)

/-- ITS FALSE NEIGHBOUR: 'it returns false'. Refute it at one input. -/
def trimLemmasWrong : ChangeSpec := { name := "trimLemmas", fn := fun _ => fun
  | [d] => { results := [.lit (.bool false)], args := [d] }
  | _ => none }
def TrimLemmasWrongFalsely : Prop := trimLemmasRow.holds Tryz.pinned (OpenSpec.ofChange trimLemmasWrong)

/-- 'relucertlaw49.TrimSplits': WHATEVER THE INPUT: true; the input reads as it did. -/
def trimSplitsSpec : ChangeSpec := { name := "trimSplits", fn := fun _ => fun
  | [d1, d2] => { results := [.lit (.bool true)], args := [d1, d2] }
  | _ => none }
def trimSplitsRow : OpenClaim := { program := "ytbelmkceegmdjaagreatdoor", sum := "a93b33c604a555deee85b58734ad6dea406ad923c74d93bcc3e22b680476b1e1", func := "relucert/relucertlaw49.TrimSplits", spec := "trimSplits", unfollowed := true, recurses := true, named := ["relucert/phase.opposites"], loops := true, apart := false, laid := [("relucert/phase.opposites", laid_relucert_phase_opposites)] }
def TrimSplitsSaid : Prop := trimSplitsRow.holds Tryz.pinned (OpenSpec.ofChange trimSplitsSpec)

/-- ITS FALSE NEIGHBOUR: 'it returns false'. Refute it at one input. -/
def trimSplitsWrong : ChangeSpec := { name := "trimSplits", fn := fun _ => fun
  | [d1, d2] => { results := [.lit (.bool false)], args := [d1, d2] }
  | _ => none }
def TrimSplitsWrongFalsely : Prop := trimSplitsRow.holds Tryz.pinned (OpenSpec.ofChange trimSplitsWrong)

/-- 'relucertlaw49.TrimTrims': WHATEVER THE INPUT: true; the input reads as it did. -/
def trimTrimsSpec : ChangeSpec := { name := "trimTrims", fn := fun _ => fun
  | [d1, d2] => { results := [.lit (.bool true)], args := [d1, d2] }
  | _ => none }
def trimTrimsRow : OpenClaim := { program := "ytbelmkceegmdjaagreatdoor", sum := "a93b33c604a555deee85b58734ad6dea406ad923c74d93bcc3e22b680476b1e1", func := "relucert/relucertlaw49.TrimTrims", spec := "trimTrims", unfollowed := true, recurses := true, named := ["relucert/phase.opposites"], loops := true, apart := false, laid := [("relucert/phase.opposites", laid_relucert_phase_opposites)] }
def TrimTrimsSaid : Prop := trimTrimsRow.holds Tryz.pinned (OpenSpec.ofChange trimTrimsSpec)

/-- ITS FALSE NEIGHBOUR: 'it returns false'. Refute it at one input. -/
def trimTrimsWrong : ChangeSpec := { name := "trimTrims", fn := fun _ => fun
  | [d1, d2] => { results := [.lit (.bool false)], args := [d1, d2] }
  | _ => none }
def TrimTrimsWrongFalsely : Prop := trimTrimsRow.holds Tryz.pinned (OpenSpec.ofChange trimTrimsWrong)

/-- 'relucertlaw49.TrimAccepted': WHATEVER THE INPUT: true; the input reads as it did. -/
def trimAcceptedSpec : ChangeSpec := { name := "trimAccepted", fn := fun _ => fun
  | [d1, d2] => { results := [.lit (.bool true)], args := [d1, d2] }
  | _ => none }
def trimAcceptedRow : OpenClaim := { program := "ytbelmkceegmdjaagreatdoor", sum := "a93b33c604a555deee85b58734ad6dea406ad923c74d93bcc3e22b680476b1e1", func := "relucert/relucertlaw49.TrimAccepted", spec := "trimAccepted", unfollowed := true, recurses := true, named := ["relucert/phase.opposites"], loops := true, apart := false, laid := [("relucert/phase.opposites", laid_relucert_phase_opposites)] }
def TrimAcceptedSaid : Prop := trimAcceptedRow.holds Tryz.pinned (OpenSpec.ofChange trimAcceptedSpec)

/-- ITS FALSE NEIGHBOUR: 'it returns false'. Refute it at one input. -/
def trimAcceptedWrong : ChangeSpec := { name := "trimAccepted", fn := fun _ => fun
  | [d1, d2] => { results := [.lit (.bool false)], args := [d1, d2] }
  | _ => none }
def TrimAcceptedWrongFalsely : Prop := trimAcceptedRow.holds Tryz.pinned (OpenSpec.ofChange trimAcceptedWrong)

/-- 'relucertlaw49.TrimSmaller': WHATEVER THE INPUT: true; the input reads as it did. -/
def trimSmallerSpec : ChangeSpec := { name := "trimSmaller", fn := fun _ => fun
  | [d1, d2] => { results := [.lit (.bool true)], args := [d1, d2] }
  | _ => none }
def trimSmallerRow : OpenClaim := { program := "ytbelmkceegmdjaagreatdoor", sum := "a93b33c604a555deee85b58734ad6dea406ad923c74d93bcc3e22b680476b1e1", func := "relucert/relucertlaw49.TrimSmaller", spec := "trimSmaller", unfollowed := true, recurses := true, named := ["relucert/phase.opposites"], loops := true, apart := false, laid := [("relucert/phase.opposites", laid_relucert_phase_opposites)] }
def TrimSmallerSaid : Prop := trimSmallerRow.holds Tryz.pinned (OpenSpec.ofChange trimSmallerSpec)

/-- ITS FALSE NEIGHBOUR: 'it returns false'. Refute it at one input. -/
def trimSmallerWrong : ChangeSpec := { name := "trimSmaller", fn := fun _ => fun
  | [d1, d2] => { results := [.lit (.bool false)], args := [d1, d2] }
  | _ => none }
def TrimSmallerWrongFalsely : Prop := trimSmallerRow.holds Tryz.pinned (OpenSpec.ofChange trimSmallerWrong)

/-- 'relucertlaw49.TrimNeeded': WHATEVER THE INPUT: true; the input reads as it did. -/
def trimNeededSpec : ChangeSpec := { name := "trimNeeded", fn := fun _ => fun
  | [d1, d2] => { results := [.lit (.bool true)], args := [d1, d2] }
  | _ => none }
def trimNeededRow : OpenClaim := { program := "ytbelmkceegmdjaagreatdoor", sum := "a93b33c604a555deee85b58734ad6dea406ad923c74d93bcc3e22b680476b1e1", func := "relucert/relucertlaw49.TrimNeeded", spec := "trimNeeded", unfollowed := true, recurses := true, named := ["relucert/phase.opposites"], loops := true, apart := false, laid := [("relucert/phase.opposites", laid_relucert_phase_opposites)] }
def TrimNeededSaid : Prop := trimNeededRow.holds Tryz.pinned (OpenSpec.ofChange trimNeededSpec)

/-- ITS FALSE NEIGHBOUR: 'it returns false'. Refute it at one input. -/
def trimNeededWrong : ChangeSpec := { name := "trimNeeded", fn := fun _ => fun
  | [d1, d2] => { results := [.lit (.bool false)], args := [d1, d2] }
  | _ => none }
def TrimNeededWrongFalsely : Prop := trimNeededRow.holds Tryz.pinned (OpenSpec.ofChange trimNeededWrong)

/-- 'relucertlaw49.TrimUseless': WHATEVER THE INPUT: true; the input reads as it did. -/
def trimUselessSpec : ChangeSpec := { name := "trimUseless", fn := fun _ => fun
  | [d1, d2, d3] => { results := [.lit (.bool true)], args := [d1, d2, d3] }
  | _ => none }
def trimUselessRow : OpenClaim := { program := "ytbelmkceegmdjaagreatdoor", sum := "a93b33c604a555deee85b58734ad6dea406ad923c74d93bcc3e22b680476b1e1", func := "relucert/relucertlaw49.TrimUseless", spec := "trimUseless", unfollowed := true, recurses := true, named := ["relucert/phase.opposites"], loops := true, apart := false, laid := [("relucert/phase.opposites", laid_relucert_phase_opposites)] }
def TrimUselessSaid : Prop := trimUselessRow.holds Tryz.pinned (OpenSpec.ofChange trimUselessSpec)

/-- ITS FALSE NEIGHBOUR: 'it returns false'. Refute it at one input. -/
def trimUselessWrong : ChangeSpec := { name := "trimUseless", fn := fun _ => fun
  | [d1, d2, d3] => { results := [.lit (.bool false)], args := [d1, d2, d3] }
  | _ => none }
def TrimUselessWrongFalsely : Prop := trimUselessRow.holds Tryz.pinned (OpenSpec.ofChange trimUselessWrong)

/- THE SECOND FORM. 'bulk': how many values and letters a reading holds, each counted each time it is reached (what is shared counts as often as it is met; a slice's spare places count too). A statement '..UptoSaid' is the law's where the arguments, and the package variables that the reading takes, are together of bulk at most 1048576: NARROWER than '..Said'. Prove '..Said' where nothing that the law and all that it calls make is longer than what came in: it says more and counts as full. Else prove '..UptoSaid'. A law counts once. -/
mutual
def uptoBulk {H : Type} : DataW H → Nat
  | .lit (.string bytes) => bytes.length + 1
  | .lit _ => 1
  | .nil => 1
  | .ptr d => uptoBulk d + 1
  | .slice elems spare => uptoBulkAll elems + uptoBulkAll spare + 1
  | .agg parts => uptoBulkAll parts + 1
  | .iface _ d => uptoBulk d + 1
  | .map entries => uptoBulkEntries entries + 1
  | .held _ => 1
def uptoBulkAll {H : Type} : List (DataW H) → Nat
  | [] => 0
  | d :: r => uptoBulk d + uptoBulkAll r
def uptoBulkEntries {H : Type} : List (Lit × DataW H) → Nat
  | [] => 0
  | x :: r => uptoBulkEntry x + uptoBulkEntries r
def uptoBulkEntry {H : Type} : Lit × DataW H → Nat
  | (.string bytes, d) => bytes.length + uptoBulk d + 1
  | (_, d) => uptoBulk d + 1
 end
def uptoSmall : (H : Type) → List (DataW H) → Bool := fun _ ds => decide (uptoBulkAll ds ≤ 1048576)
def OpenSpec.upto (s : _root_.Go.ChangeSpec) : _root_.Go.OpenSpec := { _root_.Go.OpenSpec.ofChange s with cond := some uptoSmall }

/-- 'relucertlaw49.TrimLemmas', WHERE WHAT IT READS IS OF BULK AT MOST 1048576: true; the input reads as it did. -/
def trimLemmasUptoRow : OpenClaim := { program := "ytbelmkceegmdjaagreatdoor", sum := "a93b33c604a555deee85b58734ad6dea406ad923c74d93bcc3e22b680476b1e1", func := "relucert/relucertlaw49.TrimLemmas", spec := "trimLemmas", unfollowed := true, recurses := true, named := ["relucert/phase.opposites"], loops := true, apart := false, laid := [("relucert/phase.opposites", laid_relucert_phase_opposites)], narrowed := true }
def TrimLemmasUptoSaid : Prop := trimLemmasUptoRow.holds Tryz.pinned (OpenSpec.upto trimLemmasSpec)

/-- 'relucertlaw49.TrimSplits', WHERE WHAT IT READS IS OF BULK AT MOST 1048576: true; the input reads as it did. -/
def trimSplitsUptoRow : OpenClaim := { program := "ytbelmkceegmdjaagreatdoor", sum := "a93b33c604a555deee85b58734ad6dea406ad923c74d93bcc3e22b680476b1e1", func := "relucert/relucertlaw49.TrimSplits", spec := "trimSplits", unfollowed := true, recurses := true, named := ["relucert/phase.opposites"], loops := true, apart := false, laid := [("relucert/phase.opposites", laid_relucert_phase_opposites)], narrowed := true }
def TrimSplitsUptoSaid : Prop := trimSplitsUptoRow.holds Tryz.pinned (OpenSpec.upto trimSplitsSpec)

/-- 'relucertlaw49.TrimTrims', WHERE WHAT IT READS IS OF BULK AT MOST 1048576: true; the input reads as it did. -/
def trimTrimsUptoRow : OpenClaim := { program := "ytbelmkceegmdjaagreatdoor", sum := "a93b33c604a555deee85b58734ad6dea406ad923c74d93bcc3e22b680476b1e1", func := "relucert/relucertlaw49.TrimTrims", spec := "trimTrims", unfollowed := true, recurses := true, named := ["relucert/phase.opposites"], loops := true, apart := false, laid := [("relucert/phase.opposites", laid_relucert_phase_opposites)], narrowed := true }
def TrimTrimsUptoSaid : Prop := trimTrimsUptoRow.holds Tryz.pinned (OpenSpec.upto trimTrimsSpec)

/-- 'relucertlaw49.TrimAccepted', WHERE WHAT IT READS IS OF BULK AT MOST 1048576: true; the input reads as it did. -/
def trimAcceptedUptoRow : OpenClaim := { program := "ytbelmkceegmdjaagreatdoor", sum := "a93b33c604a555deee85b58734ad6dea406ad923c74d93bcc3e22b680476b1e1", func := "relucert/relucertlaw49.TrimAccepted", spec := "trimAccepted", unfollowed := true, recurses := true, named := ["relucert/phase.opposites"], loops := true, apart := false, laid := [("relucert/phase.opposites", laid_relucert_phase_opposites)], narrowed := true }
def TrimAcceptedUptoSaid : Prop := trimAcceptedUptoRow.holds Tryz.pinned (OpenSpec.upto trimAcceptedSpec)

/-- 'relucertlaw49.TrimSmaller', WHERE WHAT IT READS IS OF BULK AT MOST 1048576: true; the input reads as it did. -/
def trimSmallerUptoRow : OpenClaim := { program := "ytbelmkceegmdjaagreatdoor", sum := "a93b33c604a555deee85b58734ad6dea406ad923c74d93bcc3e22b680476b1e1", func := "relucert/relucertlaw49.TrimSmaller", spec := "trimSmaller", unfollowed := true, recurses := true, named := ["relucert/phase.opposites"], loops := true, apart := false, laid := [("relucert/phase.opposites", laid_relucert_phase_opposites)], narrowed := true }
def TrimSmallerUptoSaid : Prop := trimSmallerUptoRow.holds Tryz.pinned (OpenSpec.upto trimSmallerSpec)

/-- 'relucertlaw49.TrimNeeded', WHERE WHAT IT READS IS OF BULK AT MOST 1048576: true; the input reads as it did. -/
def trimNeededUptoRow : OpenClaim := { program := "ytbelmkceegmdjaagreatdoor", sum := "a93b33c604a555deee85b58734ad6dea406ad923c74d93bcc3e22b680476b1e1", func := "relucert/relucertlaw49.TrimNeeded", spec := "trimNeeded", unfollowed := true, recurses := true, named := ["relucert/phase.opposites"], loops := true, apart := false, laid := [("relucert/phase.opposites", laid_relucert_phase_opposites)], narrowed := true }
def TrimNeededUptoSaid : Prop := trimNeededUptoRow.holds Tryz.pinned (OpenSpec.upto trimNeededSpec)

/-- 'relucertlaw49.TrimUseless', WHERE WHAT IT READS IS OF BULK AT MOST 1048576: true; the input reads as it did. -/
def trimUselessUptoRow : OpenClaim := { program := "ytbelmkceegmdjaagreatdoor", sum := "a93b33c604a555deee85b58734ad6dea406ad923c74d93bcc3e22b680476b1e1", func := "relucert/relucertlaw49.TrimUseless", spec := "trimUseless", unfollowed := true, recurses := true, named := ["relucert/phase.opposites"], loops := true, apart := false, laid := [("relucert/phase.opposites", laid_relucert_phase_opposites)], narrowed := true }
def TrimUselessUptoSaid : Prop := trimUselessUptoRow.holds Tryz.pinned (OpenSpec.upto trimUselessSpec)

end Rows
end Go.Proofs.YtbelmkceegmdjaaGreatDoor
