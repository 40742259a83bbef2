/-
  What the rows' list of variables gives; the rows' ends.
-/
import Derived.Test.YtholmbhdbmjobaaDoorCards
import Derived.Test.YtholmbhdbmjobaaDoorTie
import Derived.Test.YtholmbhdbmjobaaDoorCDoor
import Derived.Test.YtholmbhdbmjobaaDoorCWk
import Derived.Test.YtholmbhdbmjobaaDoorCPiDoor2
import Derived.WalkKit
import Derived.ProofKit
import Derived.OpenShut
import Derived.Deep.DeepHandedRow
import Derived.Lib.LaidTab
set_option linter.unusedVariables false
set_option linter.unusedSimpArgs false
namespace Go.PI.Tryd
open Go Go.Proofs Go.PI Go.Proofs.YtholmbhdbmjobaaDoor
open Go.ChangeShapes Go.WideShapes Go.ChangeAt Go.RowKit

theorem own : ownKnob Tryd.prog.godebug = none := by kernel_rfl
theorem laidOut : laidOutB Tryd.prog = true := by kernel_rfl
theorem gTab : Tryd.prog.globalNamed "relucert/phase.opposites" = some 0 := by kernel_rfl
theorem gTabType : (Tryd.prog.globals[0]?).map (·.type) = some 106 := by kernel_rfl
abbrev laidV {H : Type} : List (String × DataW H) := [("relucert/phase.opposites", Rows.laid_relucert_phase_opposites)]
theorem table {W : World} (h : laidMetH Tryd.prog laidV W) : Lib.TabIs Tryd.prog W "relucert/phase.opposites" .i64 [0, 2, 1, 4, 3] :=
  Lib.tabIs_of_head (rest := []) gTab gTabType Tryd.underlying106 Tryd.underlying3 (by kernel_rfl) (by kernel_rfl) h
theorem gok {W : World} (h : laidMetH Tryd.prog laidV W) : Gok G0 W (AllB W) := by
  intro g e hg
  unfold G0 at hg
  split at hg
  · rename_i h0
    subst h0
    cases hg
    have c : ∀ i, i < 5 → W.cell? ⟨0, i, none⟩ = some (.int .i64 ([0, 2, 1, 4, 3].getD i 0)) := fun i hi => (table h).cell gTab i (by simpa using hi)
    refine .data _ _ (.cptr (.agg [.int .i64 0, .int .i64 2, .int .i64 1, .int .i64 4, .int .i64 3]) 0 0 0 (fun i => .int .i64 ([0, 2, 1, 4, 3].getD i 0)) ?_ (fun i hi => ⟨?_, rfl⟩) (fun i d hd => ?_))
    · have c0 := c 0 (by decide)
      simp only [World.cell?] at c0
      by_cases hb : 0 < W.heap.size
      · exact hb
      · rw [Array.getElem?_eq_none (by omega)] at c0; simp at c0
    · rw [Nat.zero_add]; exact c i hi
    · match i, hd with
      | 0, hd => cases hd; exact .int _ _
      | 1, hd => cases hd; exact .int _ _
      | 2, hd => cases hd; exact .int _ _
      | 3, hd => cases hd; exact .int _ _
      | 4, hd => cases hd; exact .int _ _
      | n + 5, hd => simp at hd
  · cases hg

mutual
theorem bulk_eq {H : Type} : ∀ d : DataW H, Rows.uptoBulk d = bulk d
  | .lit l => by cases l <;> rfl
  | .nil => rfl
  | .ptr d => by simp only [Rows.uptoBulk, bulk, bulk_eq d]
  | .slice elems spare => by simp only [Rows.uptoBulk, bulk, bulkAll_eq elems, bulkAll_eq spare]
  | .agg parts => by simp only [Rows.uptoBulk, bulk, bulkAll_eq parts]
  | .iface _ d => by simp only [Rows.uptoBulk, bulk, bulk_eq d]
  | .map entries => by simp only [Rows.uptoBulk, bulk, bulkEntries_eq entries]
  | .held _ => rfl
theorem bulkAll_eq {H : Type} : ∀ d : List (DataW H), Rows.uptoBulkAll d = bulkAll d
  | [] => rfl
  | d :: r => by simp only [Rows.uptoBulkAll, bulkAll, bulk_eq d, bulkAll_eq r]
theorem bulkEntries_eq {H : Type} : ∀ d : List (Lit × DataW H), Rows.uptoBulkEntries d = bulkEntries d
  | [] => rfl
  | x :: r => by simp only [Rows.uptoBulkEntries, bulkEntries, bulkEntry_eq x, bulkEntries_eq r]
theorem bulkEntry_eq {H : Type} : ∀ d : Lit × DataW H, Rows.uptoBulkEntry d = bulkEntry d
  | (l, d) => by cases l <;> simp only [Rows.uptoBulkEntry, bulkEntry, bulk_eq d]
end

/-- A world for the witnesses: the settled one, the table (block 0) holding what its initialiser lays. -/
noncomputable def laidWorld (os : Os) : World :=
  { World.holding Tryd.prog os ⟨#[], #[], []⟩ with heap := (World.holding Tryd.prog os ⟨#[], #[], []⟩).heap.modify 0 fun
      | .cells _ t frozen => .cells #[.int .i64 0, .int .i64 2, .int .i64 1, .int .i64 4, .int .i64 3] t frozen
      | o => o }
abbrev zNode : Value := .agg #[.slice none 0 0, .int .i64 0, .int .i64 0, .bool false, .slice none 0 0, .slice none 0 0, .slice none 0 0, .bool false, .slice none 0 0]
abbrev dNode {H : Type} : DataW H := .agg [.nil, .agg [.lit (.int .i64 0), .lit (.int .i64 0), .agg [.lit (.bool false), .nil, .nil]], .nil, .lit (.bool false), .nil]
end Go.PI.Tryd
