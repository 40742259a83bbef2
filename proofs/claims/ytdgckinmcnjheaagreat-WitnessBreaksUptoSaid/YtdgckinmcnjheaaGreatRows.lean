/-
  No cell of these rows narrows 'for every input' (looked for: loops, veiled, ifaces, maps, wideKeys, modest, calm, conditions, laid).
  DERIVED. THE GIVEN ROWS OF THIS SEAT. 7 by the template 'for every input the law returns true; each argument reads behind the call as it read before'; 0 by the template 'total and deterministic' (their statements: YtdgckinmcnjheaaGreatTotals.lean).
  GIVEN WITH THE SEED: the statements are not yours to turn. If you find one false, say at which input.
  Laid BY PROGRAM, IN A SANDBOX (cutbox-rows.mjs): the forced cells as the released guide's own fill.sh prints them over the translation e4846419b21d34d7… (all of the seat's roots in one cut). By AI agents, Wed Nov 11 2026. No macro, syntax, notation, axiom, sorry.
-/
import Derived.Test.YtdgckinmcnjheaaGreatChecked
import GoSem.Claim
import GoSem.ClaimJoined
import GoSem.ClaimMapViews
import Derived.JoinedTies
import Derived.KernelRfl
namespace Go.Proofs.YtdgckinmcnjheaaGreat
/- THE CELL 'sum', in the pinned program and in every row, IS THE sha256 OF THE DUMP (.gsa) THAT YtdgckinmcnjheaaGreatProg.lean LOADS. Nothing in Lean hashes anything: it is a label: what it is worth is what the hold of that sum in a sandbox is worth. -/
noncomputable def Tryz.pinned : Pinned := { name := "ytdgckinmcnjheaagreat", sum := "e4846419b21d34d7b89354d3c34c810b0130f0d325a51b2f0f8c8b72b9f0a885", checked := Tryz.checked }
namespace Rows
def none {H : Type} : Left H := { results := [], args := [] }

/-- 'relucertlaw43.WitnessCheck': WHATEVER THE INPUT: true; the input reads as it did. -/
def witnessCheckSpec : ChangeSpec := { name := "witnessCheck", fn := fun _ => fun
  | [d1, d2, d3] => { results := [.lit (.bool true)], args := [d1, d2, d3] }
  | _ => none }
def witnessCheckRow : OpenClaim := { program := "ytdgckinmcnjheaagreat", sum := "e4846419b21d34d7b89354d3c34c810b0130f0d325a51b2f0f8c8b72b9f0a885", func := "relucert/relucertlaw43.WitnessCheck", spec := "witnessCheck", unfollowed := true, recurses := true, apart := false }
def WitnessCheckSaid : Prop := witnessCheckRow.holds Tryz.pinned (OpenSpec.ofChange witnessCheckSpec)

/-- ITS FALSE NEIGHBOUR: 'it returns false'. Refute it at one input. -/
def witnessCheckWrong : ChangeSpec := { name := "witnessCheck", fn := fun _ => fun
  | [d1, d2, d3] => { results := [.lit (.bool false)], args := [d1, d2, d3] }
  | _ => none }
def WitnessCheckWrongFalsely : Prop := witnessCheckRow.holds Tryz.pinned (OpenSpec.ofChange witnessCheckWrong)

/-- 'relucertlaw43.WitnessSimplifyMatchesReference': WHATEVER THE INPUT: true; the input reads as it did. -/
def witnessSimplifyMatchesReferenceSpec : ChangeSpec := { name := "witnessSimplifyMatchesReference", fn := fun _ => fun
  | [d1, d2] => { results := [.lit (.bool true)], args := [d1, d2] }
  | _ => none }
def witnessSimplifyMatchesReferenceRow : OpenClaim := { program := "ytdgckinmcnjheaagreat", sum := "e4846419b21d34d7b89354d3c34c810b0130f0d325a51b2f0f8c8b72b9f0a885", func := "relucert/relucertlaw43.WitnessSimplifyMatchesReference", spec := "witnessSimplifyMatchesReference", unfollowed := true, recurses := true, apart := false }
def WitnessSimplifyMatchesReferenceSaid : Prop := witnessSimplifyMatchesReferenceRow.holds Tryz.pinned (OpenSpec.ofChange witnessSimplifyMatchesReferenceSpec)

/-- ITS FALSE NEIGHBOUR: 'it returns false'. Refute it at one input. -/
def witnessSimplifyMatchesReferenceWrong : ChangeSpec := { name := "witnessSimplifyMatchesReference", fn := fun _ => fun
  | [d1, d2] => { results := [.lit (.bool false)], args := [d1, d2] }
  | _ => none }
def WitnessSimplifyMatchesReferenceWrongFalsely : Prop := witnessSimplifyMatchesReferenceRow.holds Tryz.pinned (OpenSpec.ofChange witnessSimplifyMatchesReferenceWrong)

/-- 'relucertlaw43.WitnessSimplifyKeeps': WHATEVER THE INPUT: true; the input reads as it did. -/
def witnessSimplifyKeepsSpec : ChangeSpec := { name := "witnessSimplifyKeeps", fn := fun _ => fun
  | [d1, d2] => { results := [.lit (.bool true)], args := [d1, d2] }
  | _ => none }
def witnessSimplifyKeepsRow : OpenClaim := { program := "ytdgckinmcnjheaagreat", sum := "e4846419b21d34d7b89354d3c34c810b0130f0d325a51b2f0f8c8b72b9f0a885", func := "relucert/relucertlaw43.WitnessSimplifyKeeps", spec := "witnessSimplifyKeeps", unfollowed := true, recurses := true, apart := false }
def WitnessSimplifyKeepsSaid : Prop := witnessSimplifyKeepsRow.holds Tryz.pinned (OpenSpec.ofChange witnessSimplifyKeepsSpec)

/-- ITS FALSE NEIGHBOUR: 'it returns false'. Refute it at one input. -/
def witnessSimplifyKeepsWrong : ChangeSpec := { name := "witnessSimplifyKeeps", fn := fun _ => fun
  | [d1, d2] => { results := [.lit (.bool false)], args := [d1, d2] }
  | _ => none }
def WitnessSimplifyKeepsWrongFalsely : Prop := witnessSimplifyKeepsRow.holds Tryz.pinned (OpenSpec.ofChange witnessSimplifyKeepsWrong)

/-- 'relucertlaw43.WitnessAttackMatchesReference': WHATEVER THE INPUT: true; the input reads as it did. -/
def witnessAttackMatchesReferenceSpec : ChangeSpec := { name := "witnessAttackMatchesReference", fn := fun _ => fun
  | [d] => { results := [.lit (.bool true)], args := [d] }
  | _ => none }
def witnessAttackMatchesReferenceRow : OpenClaim := { program := "ytdgckinmcnjheaagreat", sum := "e4846419b21d34d7b89354d3c34c810b0130f0d325a51b2f0f8c8b72b9f0a885", func := "relucert/relucertlaw43.WitnessAttackMatchesReference", spec := "witnessAttackMatchesReference", unfollowed := true, recurses := true, apart := false }
def WitnessAttackMatchesReferenceSaid : Prop := witnessAttackMatchesReferenceRow.holds Tryz.pinned (OpenSpec.ofChange witnessAttackMatchesReferenceSpec)

/-- ITS FALSE NEIGHBOUR: 'it returns false'. Refute it at one input. -/
def witnessAttackMatchesReferenceWrong : ChangeSpec := { name := "witnessAttackMatchesReference", fn := fun _ => fun
  | [d] => { results := [.lit (.bool false)], args := [d] }
  | _ => none }
def WitnessAttackMatchesReferenceWrongFalsely : Prop := witnessAttackMatchesReferenceRow.holds Tryz.pinned (OpenSpec.ofChange witnessAttackMatchesReferenceWrong)

/-- 'relucertlaw43.WitnessBreaks': WHATEVER THE INPUT: true; the input reads as it did. -/
def witnessBreaksSpec : ChangeSpec := { name := "witnessBreaks", fn := fun _ => fun
  | [d1, d2] => { results := [.lit (.bool true)], args := [d1, d2] }
  | _ => none }
def witnessBreaksRow : OpenClaim := { program := "ytdgckinmcnjheaagreat", sum := "e4846419b21d34d7b89354d3c34c810b0130f0d325a51b2f0f8c8b72b9f0a885", func := "relucert/relucertlaw43.WitnessBreaks", spec := "witnessBreaks", unfollowed := true, recurses := true, apart := false }
def WitnessBreaksSaid : Prop := witnessBreaksRow.holds Tryz.pinned (OpenSpec.ofChange witnessBreaksSpec)

/-- ITS FALSE NEIGHBOUR: 'it returns false'. Refute it at one input. -/
def witnessBreaksWrong : ChangeSpec := { name := "witnessBreaks", fn := fun _ => fun
  | [d1, d2] => { results := [.lit (.bool false)], args := [d1, d2] }
  | _ => none }
def WitnessBreaksWrongFalsely : Prop := witnessBreaksRow.holds Tryz.pinned (OpenSpec.ofChange witnessBreaksWrong)

/-- 'relucertlaw43.WitnessAttackFinds': WHATEVER THE INPUT: true; the input reads as it did. -/
def witnessAttackFindsSpec : ChangeSpec := { name := "witnessAttackFinds", fn := fun _ => fun
  | [d1, d2] => { results := [.lit (.bool true)], args := [d1, d2] }
  | _ => none }
def witnessAttackFindsRow : OpenClaim := { program := "ytdgckinmcnjheaagreat", sum := "e4846419b21d34d7b89354d3c34c810b0130f0d325a51b2f0f8c8b72b9f0a885", func := "relucert/relucertlaw43.WitnessAttackFinds", spec := "witnessAttackFinds", unfollowed := true, recurses := true, apart := false }
def WitnessAttackFindsSaid : Prop := witnessAttackFindsRow.holds Tryz.pinned (OpenSpec.ofChange witnessAttackFindsSpec)

/-- ITS FALSE NEIGHBOUR: 'it returns false'. Refute it at one input. -/
def witnessAttackFindsWrong : ChangeSpec := { name := "witnessAttackFinds", fn := fun _ => fun
  | [d1, d2] => { results := [.lit (.bool false)], args := [d1, d2] }
  | _ => none }
def WitnessAttackFindsWrongFalsely : Prop := witnessAttackFindsRow.holds Tryz.pinned (OpenSpec.ofChange witnessAttackFindsWrong)

/-- 'relucertlaw43.WitnessLevel': WHATEVER THE INPUT: true; the input reads as it did. -/
def witnessLevelSpec : ChangeSpec := { name := "witnessLevel", fn := fun _ => fun
  | [d1, d2, d3] => { results := [.lit (.bool true)], args := [d1, d2, d3] }
  | _ => none }
def witnessLevelRow : OpenClaim := { program := "ytdgckinmcnjheaagreat", sum := "e4846419b21d34d7b89354d3c34c810b0130f0d325a51b2f0f8c8b72b9f0a885", func := "relucert/relucertlaw43.WitnessLevel", spec := "witnessLevel", unfollowed := true, recurses := true, apart := false }
def WitnessLevelSaid : Prop := witnessLevelRow.holds Tryz.pinned (OpenSpec.ofChange witnessLevelSpec)

/-- ITS FALSE NEIGHBOUR: 'it returns false'. Refute it at one input. -/
def witnessLevelWrong : ChangeSpec := { name := "witnessLevel", fn := fun _ => fun
  | [d1, d2, d3] => { results := [.lit (.bool false)], args := [d1, d2, d3] }
  | _ => none }
def WitnessLevelWrongFalsely : Prop := witnessLevelRow.holds Tryz.pinned (OpenSpec.ofChange witnessLevelWrong)

/- THE SECOND FORM. 'bulk': how many values and letters a reading holds, each counted each time it is reached (what is shared counts as often as it is met; a slice's spare places count too). A statement '..UptoSaid' is the law's where the arguments, and the package variables that the reading takes, are together of bulk at most 1048576: NARROWER than '..Said'. Prove '..Said' where nothing that the law and all that it calls make is longer than what came in: it says more and counts as full. Else prove '..UptoSaid'. A law counts once. -/
mutual
def uptoBulk {H : Type} : DataW H → Nat
  | .lit (.string bytes) => bytes.length + 1
  | .lit _ => 1
  | .nil => 1
  | .ptr d => uptoBulk d + 1
  | .slice elems spare => uptoBulkAll elems + uptoBulkAll spare + 1
  | .agg parts => uptoBulkAll parts + 1
  | .iface _ d => uptoBulk d + 1
  | .map entries => uptoBulkEntries entries + 1
  | .held _ => 1
def uptoBulkAll {H : Type} : List (DataW H) → Nat
  | [] => 0
  | d :: r => uptoBulk d + uptoBulkAll r
def uptoBulkEntries {H : Type} : List (Lit × DataW H) → Nat
  | [] => 0
  | x :: r => uptoBulkEntry x + uptoBulkEntries r
def uptoBulkEntry {H : Type} : Lit × DataW H → Nat
  | (.string bytes, d) => bytes.length + uptoBulk d + 1
  | (_, d) => uptoBulk d + 1
 end
def uptoSmall : (H : Type) → List (DataW H) → Bool := fun _ ds => decide (uptoBulkAll ds ≤ 1048576)
def OpenSpec.upto (s : _root_.Go.ChangeSpec) : _root_.Go.OpenSpec := { _root_.Go.OpenSpec.ofChange s with cond := some uptoSmall }

/-- 'relucertlaw43.WitnessCheck', WHERE WHAT IT READS IS OF BULK AT MOST 1048576: true; the input reads as it did. -/
def witnessCheckUptoRow : OpenClaim := { program := "ytdgckinmcnjheaagreat", sum := "e4846419b21d34d7b89354d3c34c810b0130f0d325a51b2f0f8c8b72b9f0a885", func := "relucert/relucertlaw43.WitnessCheck", spec := "witnessCheck", unfollowed := true, recurses := true, apart := false, narrowed := true }
def WitnessCheckUptoSaid : Prop := witnessCheckUptoRow.holds Tryz.pinned (OpenSpec.upto witnessCheckSpec)

/-- 'relucertlaw43.WitnessSimplifyMatchesReference', WHERE WHAT IT READS IS OF BULK AT MOST 1048576: true; the input reads as it did. -/
def witnessSimplifyMatchesReferenceUptoRow : OpenClaim := { program := "ytdgckinmcnjheaagreat", sum := "e4846419b21d34d7b89354d3c34c810b0130f0d325a51b2f0f8c8b72b9f0a885", func := "relucert/relucertlaw43.WitnessSimplifyMatchesReference", spec := "witnessSimplifyMatchesReference", unfollowed := true, recurses := true, apart := false, narrowed := true }
def WitnessSimplifyMatchesReferenceUptoSaid : Prop := witnessSimplifyMatchesReferenceUptoRow.holds Tryz.pinned (OpenSpec.upto witnessSimplifyMatchesReferenceSpec)

/-- 'relucertlaw43.WitnessSimplifyKeeps', WHERE WHAT IT READS IS OF BULK AT MOST 1048576: true; the input reads as it did. -/
def witnessSimplifyKeepsUptoRow : OpenClaim := { program := "ytdgckinmcnjheaagreat", sum := "e4846419b21d34d7b89354d3c34c810b0130f0d325a51b2f0f8c8b72b9f0a885", func := "relucert/relucertlaw43.WitnessSimplifyKeeps", spec := "witnessSimplifyKeeps", unfollowed := true, recurses := true, apart := false, narrowed := true }
def WitnessSimplifyKeepsUptoSaid : Prop := witnessSimplifyKeepsUptoRow.holds Tryz.pinned (OpenSpec.upto witnessSimplifyKeepsSpec)

/-- 'relucertlaw43.WitnessAttackMatchesReference', WHERE WHAT IT READS IS OF BULK AT MOST 1048576: true; the input reads as it did. -/
def witnessAttackMatchesReferenceUptoRow : OpenClaim := { program := "ytdgckinmcnjheaagreat", sum := "e4846419b21d34d7b89354d3c34c810b0130f0d325a51b2f0f8c8b72b9f0a885", func := "relucert/relucertlaw43.WitnessAttackMatchesReference", spec := "witnessAttackMatchesReference", unfollowed := true, recurses := true, apart := false, narrowed := true }
def WitnessAttackMatchesReferenceUptoSaid : Prop := witnessAttackMatchesReferenceUptoRow.holds Tryz.pinned (OpenSpec.upto witnessAttackMatchesReferenceSpec)

/-- 'relucertlaw43.WitnessBreaks', WHERE WHAT IT READS IS OF BULK AT MOST 1048576: true; the input reads as it did. -/
def witnessBreaksUptoRow : OpenClaim := { program := "ytdgckinmcnjheaagreat", sum := "e4846419b21d34d7b89354d3c34c810b0130f0d325a51b2f0f8c8b72b9f0a885", func := "relucert/relucertlaw43.WitnessBreaks", spec := "witnessBreaks", unfollowed := true, recurses := true, apart := false, narrowed := true }
def WitnessBreaksUptoSaid : Prop := witnessBreaksUptoRow.holds Tryz.pinned (OpenSpec.upto witnessBreaksSpec)

/-- 'relucertlaw43.WitnessAttackFinds', WHERE WHAT IT READS IS OF BULK AT MOST 1048576: true; the input reads as it did. -/
def witnessAttackFindsUptoRow : OpenClaim := { program := "ytdgckinmcnjheaagreat", sum := "e4846419b21d34d7b89354d3c34c810b0130f0d325a51b2f0f8c8b72b9f0a885", func := "relucert/relucertlaw43.WitnessAttackFinds", spec := "witnessAttackFinds", unfollowed := true, recurses := true, apart := false, narrowed := true }
def WitnessAttackFindsUptoSaid : Prop := witnessAttackFindsUptoRow.holds Tryz.pinned (OpenSpec.upto witnessAttackFindsSpec)

/-- 'relucertlaw43.WitnessLevel', WHERE WHAT IT READS IS OF BULK AT MOST 1048576: true; the input reads as it did. -/
def witnessLevelUptoRow : OpenClaim := { program := "ytdgckinmcnjheaagreat", sum := "e4846419b21d34d7b89354d3c34c810b0130f0d325a51b2f0f8c8b72b9f0a885", func := "relucert/relucertlaw43.WitnessLevel", spec := "witnessLevel", unfollowed := true, recurses := true, apart := false, narrowed := true }
def WitnessLevelUptoSaid : Prop := witnessLevelUptoRow.holds Tryz.pinned (OpenSpec.upto witnessLevelSpec)

end Rows
end Go.Proofs.YtdgckinmcnjheaaGreat
