/-
  DERIVED. GIVEN WITH THE SEED: THE CARDS: each row of YtholmbhdbmjobaaDoorRows.lean that lists a variable, with what it lists TIED to the program's text (the seventh form; the later family's looks); each row that meets fmt, with fmt's text TOLD by the authors' own Lean function (tested against real Go, not proved from fmt's source: count such statements apart). THE CARD IS WHAT COUNTS. Prove the row's statement (the work); the ties are given (YtholmbhdbmjobaaDoorTie.lean); close each card by the builder's one call (the guide's Derived/Test/ToyasCard.lean, 'card_holds'). Laid BY PROGRAM, IN A SANDBOX (cutbox-door.mjs). By AI agents, Wed Nov 11 2026. No macro, syntax, notation, axiom, sorry.
-/
import Derived.Test.YtholmbhdbmjobaaDoorRows
import GoSem.ClaimSeven
namespace Go.Proofs.YtholmbhdbmjobaaDoor
namespace Rows

/-- THE TIED CARD OF 'relucertlaw45.TreeValid'. -/
def treeValidCard : Claim7 := { stood := { row := treeValidRow, standIns := [], harness := (true, "31bf18dce0ea159d97ff5a0b30675cf50565862e82e4b9e1e8e5ecb45ce840bb"), looks := false }, kinds := [], alts := [], laidByText := true, laidKinds := [.data], laidTests := true, laidLooks := .later }
def TreeValidCardSaid : Prop := Claim7.holds Tryd.pinned (.plain (OpenSpec.ofChange treeValidSpec)) treeValidCard

/-- THE TIED CARD OF 'relucertlaw45.TreeDeep'. -/
def treeDeepCard : Claim7 := { stood := { row := treeDeepRow, standIns := [], harness := (true, "31bf18dce0ea159d97ff5a0b30675cf50565862e82e4b9e1e8e5ecb45ce840bb"), looks := false }, kinds := [], alts := [], laidByText := true, laidKinds := [.data], laidTests := true, laidLooks := .later }
def TreeDeepCardSaid : Prop := Claim7.holds Tryd.pinned (.plain (OpenSpec.ofChange treeDeepSpec)) treeDeepCard

/-- THE TIED CARD OF 'relucertlaw45.TreeSizes'. -/
def treeSizesCard : Claim7 := { stood := { row := treeSizesRow, standIns := [], harness := (true, "31bf18dce0ea159d97ff5a0b30675cf50565862e82e4b9e1e8e5ecb45ce840bb"), looks := false }, kinds := [], alts := [], laidByText := true, laidKinds := [.data], laidTests := true, laidLooks := .later }
def TreeSizesCardSaid : Prop := Claim7.holds Tryd.pinned (.plain (OpenSpec.ofChange treeSizesSpec)) treeSizesCard

/-- THE TIED CARD OF 'relucertlaw45.TreeWalk'. -/
def treeWalkCard : Claim7 := { stood := { row := treeWalkRow, standIns := [], harness := (true, "31bf18dce0ea159d97ff5a0b30675cf50565862e82e4b9e1e8e5ecb45ce840bb"), looks := false }, kinds := [], alts := [], laidByText := true, laidKinds := [.data], laidTests := true, laidLooks := .later }
def TreeWalkCardSaid : Prop := Claim7.holds Tryd.pinned (.plain (OpenSpec.ofChange treeWalkSpec)) treeWalkCard

/-- THE TIED CARD OF 'relucertlaw45.TreeAt'. -/
def treeAtCard : Claim7 := { stood := { row := treeAtRow, standIns := [], harness := (true, "31bf18dce0ea159d97ff5a0b30675cf50565862e82e4b9e1e8e5ecb45ce840bb"), looks := false }, kinds := [], alts := [], laidByText := true, laidKinds := [.data], laidTests := true, laidLooks := .later }
def TreeAtCardSaid : Prop := Claim7.holds Tryd.pinned (.plain (OpenSpec.ofChange treeAtSpec)) treeAtCard

/-- THE TIED CARD OF 'relucertlaw45.TreeScope'. -/
def treeScopeCard : Claim7 := { stood := { row := treeScopeRow, standIns := [], harness := (true, "31bf18dce0ea159d97ff5a0b30675cf50565862e82e4b9e1e8e5ecb45ce840bb"), looks := false }, kinds := [], alts := [], laidByText := true, laidKinds := [.data], laidTests := true, laidLooks := .later }
def TreeScopeCardSaid : Prop := Claim7.holds Tryd.pinned (.plain (OpenSpec.ofChange treeScopeSpec)) treeScopeCard

/-- THE TIED CARD OF 'relucertlaw45.TreeEqual'. -/
def treeEqualCard : Claim7 := { stood := { row := treeEqualRow, standIns := [], harness := (true, "31bf18dce0ea159d97ff5a0b30675cf50565862e82e4b9e1e8e5ecb45ce840bb"), looks := false }, kinds := [], alts := [], laidByText := true, laidKinds := [.data], laidTests := true, laidLooks := .later }
def TreeEqualCardSaid : Prop := Claim7.holds Tryd.pinned (.plain (OpenSpec.ofChange treeEqualSpec)) treeEqualCard

/-- THE TIED CARD OF 'relucertlaw45.TreeReplace'. -/
def treeReplaceCard : Claim7 := { stood := { row := treeReplaceRow, standIns := [], harness := (true, "31bf18dce0ea159d97ff5a0b30675cf50565862e82e4b9e1e8e5ecb45ce840bb"), looks := false }, kinds := [], alts := [], laidByText := true, laidKinds := [.data], laidTests := true, laidLooks := .later }
def TreeReplaceCardSaid : Prop := Claim7.holds Tryd.pinned (.plain (OpenSpec.ofChange treeReplaceSpec)) treeReplaceCard

/-- THE TIED CARD OF 'relucertlaw45.TreeBack'. -/
def treeBackCard : Claim7 := { stood := { row := treeBackRow, standIns := [], harness := (true, "31bf18dce0ea159d97ff5a0b30675cf50565862e82e4b9e1e8e5ecb45ce840bb"), looks := false }, kinds := [], alts := [], laidByText := true, laidKinds := [.data], laidTests := true, laidLooks := .later }
def TreeBackCardSaid : Prop := Claim7.holds Tryd.pinned (.plain (OpenSpec.ofChange treeBackSpec)) treeBackCard

/-- THE SECOND FORM's CARD OF 'relucertlaw45.TreeValid'. -/
def treeValidUptoCard : Claim7 := { stood := { row := treeValidUptoRow, standIns := [], harness := (true, "31bf18dce0ea159d97ff5a0b30675cf50565862e82e4b9e1e8e5ecb45ce840bb"), looks := false }, kinds := [], alts := [], laidByText := true, laidKinds := [.data], laidTests := true, laidLooks := .later }
def TreeValidUptoCardSaid : Prop := Claim7.holds Tryd.pinned (.plain (OpenSpec.upto treeValidSpec)) treeValidUptoCard

/-- THE SECOND FORM's CARD OF 'relucertlaw45.TreeDeep'. -/
def treeDeepUptoCard : Claim7 := { stood := { row := treeDeepUptoRow, standIns := [], harness := (true, "31bf18dce0ea159d97ff5a0b30675cf50565862e82e4b9e1e8e5ecb45ce840bb"), looks := false }, kinds := [], alts := [], laidByText := true, laidKinds := [.data], laidTests := true, laidLooks := .later }
def TreeDeepUptoCardSaid : Prop := Claim7.holds Tryd.pinned (.plain (OpenSpec.upto treeDeepSpec)) treeDeepUptoCard

/-- THE SECOND FORM's CARD OF 'relucertlaw45.TreeSizes'. -/
def treeSizesUptoCard : Claim7 := { stood := { row := treeSizesUptoRow, standIns := [], harness := (true, "31bf18dce0ea159d97ff5a0b30675cf50565862e82e4b9e1e8e5ecb45ce840bb"), looks := false }, kinds := [], alts := [], laidByText := true, laidKinds := [.data], laidTests := true, laidLooks := .later }
def TreeSizesUptoCardSaid : Prop := Claim7.holds Tryd.pinned (.plain (OpenSpec.upto treeSizesSpec)) treeSizesUptoCard

/-- THE SECOND FORM's CARD OF 'relucertlaw45.TreeWalk'. -/
def treeWalkUptoCard : Claim7 := { stood := { row := treeWalkUptoRow, standIns := [], harness := (true, "31bf18dce0ea159d97ff5a0b30675cf50565862e82e4b9e1e8e5ecb45ce840bb"), looks := false }, kinds := [], alts := [], laidByText := true, laidKinds := [.data], laidTests := true, laidLooks := .later }
def TreeWalkUptoCardSaid : Prop := Claim7.holds Tryd.pinned (.plain (OpenSpec.upto treeWalkSpec)) treeWalkUptoCard

/-- THE SECOND FORM's CARD OF 'relucertlaw45.TreeAt'. -/
def treeAtUptoCard : Claim7 := { stood := { row := treeAtUptoRow, standIns := [], harness := (true, "31bf18dce0ea159d97ff5a0b30675cf50565862e82e4b9e1e8e5ecb45ce840bb"), looks := false }, kinds := [], alts := [], laidByText := true, laidKinds := [.data], laidTests := true, laidLooks := .later }
def TreeAtUptoCardSaid : Prop := Claim7.holds Tryd.pinned (.plain (OpenSpec.upto treeAtSpec)) treeAtUptoCard

/-- THE SECOND FORM's CARD OF 'relucertlaw45.TreeScope'. -/
def treeScopeUptoCard : Claim7 := { stood := { row := treeScopeUptoRow, standIns := [], harness := (true, "31bf18dce0ea159d97ff5a0b30675cf50565862e82e4b9e1e8e5ecb45ce840bb"), looks := false }, kinds := [], alts := [], laidByText := true, laidKinds := [.data], laidTests := true, laidLooks := .later }
def TreeScopeUptoCardSaid : Prop := Claim7.holds Tryd.pinned (.plain (OpenSpec.upto treeScopeSpec)) treeScopeUptoCard

/-- THE SECOND FORM's CARD OF 'relucertlaw45.TreeEqual'. -/
def treeEqualUptoCard : Claim7 := { stood := { row := treeEqualUptoRow, standIns := [], harness := (true, "31bf18dce0ea159d97ff5a0b30675cf50565862e82e4b9e1e8e5ecb45ce840bb"), looks := false }, kinds := [], alts := [], laidByText := true, laidKinds := [.data], laidTests := true, laidLooks := .later }
def TreeEqualUptoCardSaid : Prop := Claim7.holds Tryd.pinned (.plain (OpenSpec.upto treeEqualSpec)) treeEqualUptoCard

/-- THE SECOND FORM's CARD OF 'relucertlaw45.TreeReplace'. -/
def treeReplaceUptoCard : Claim7 := { stood := { row := treeReplaceUptoRow, standIns := [], harness := (true, "31bf18dce0ea159d97ff5a0b30675cf50565862e82e4b9e1e8e5ecb45ce840bb"), looks := false }, kinds := [], alts := [], laidByText := true, laidKinds := [.data], laidTests := true, laidLooks := .later }
def TreeReplaceUptoCardSaid : Prop := Claim7.holds Tryd.pinned (.plain (OpenSpec.upto treeReplaceSpec)) treeReplaceUptoCard

/-- THE SECOND FORM's CARD OF 'relucertlaw45.TreeBack'. -/
def treeBackUptoCard : Claim7 := { stood := { row := treeBackUptoRow, standIns := [], harness := (true, "31bf18dce0ea159d97ff5a0b30675cf50565862e82e4b9e1e8e5ecb45ce840bb"), looks := false }, kinds := [], alts := [], laidByText := true, laidKinds := [.data], laidTests := true, laidLooks := .later }
def TreeBackUptoCardSaid : Prop := Claim7.holds Tryd.pinned (.plain (OpenSpec.upto treeBackSpec)) treeBackUptoCard
end Rows
end Go.Proofs.YtholmbhdbmjobaaDoor
