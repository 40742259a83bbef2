/-
  DERIVED. GIVEN WITH THE SEED: THE CARDS: each row of YtbelmkceegmdjaaGreatDoorRows.lean that lists a variable, with what it lists TIED to the program's text (the seventh form; the later family's looks); each row that meets fmt, with fmt's text TOLD by the authors' own Lean function (tested against real Go, not proved from fmt's source: count such statements apart). THE CARD IS WHAT COUNTS. Prove the row's statement (the work); the ties are given (YtbelmkceegmdjaaGreatDoorTie.lean); close each card by the builder's one call (the guide's Derived/Test/ToyasCard.lean, 'card_holds'). Laid BY PROGRAM, IN A SANDBOX (cutbox-door.mjs). By AI agents, Wed Nov 11 2026. No macro, syntax, notation, axiom, sorry.
-/
import Derived.Test.YtbelmkceegmdjaaGreatDoorRows
import GoSem.ClaimSeven
namespace Go.Proofs.YtbelmkceegmdjaaGreatDoor
namespace Rows

/-- THE TIED CARD OF 'relucertlaw49.TrimLemmas'. -/
def trimLemmasCard : Claim7 := { stood := { row := trimLemmasRow, standIns := [], harness := (true, "b4c8c76652b3bc7dd3603b1b7d0d1ff8018830f976bd614cbbcb51b1faaf894d"), looks := false }, kinds := [], alts := [], laidByText := true, laidKinds := [.data], laidTests := true, laidLooks := .later }
def TrimLemmasCardSaid : Prop := Claim7.holds Tryz.pinned (.plain (OpenSpec.ofChange trimLemmasSpec)) trimLemmasCard

/-- THE TIED CARD OF 'relucertlaw49.TrimSplits'. -/
def trimSplitsCard : Claim7 := { stood := { row := trimSplitsRow, standIns := [], harness := (true, "b4c8c76652b3bc7dd3603b1b7d0d1ff8018830f976bd614cbbcb51b1faaf894d"), looks := false }, kinds := [], alts := [], laidByText := true, laidKinds := [.data], laidTests := true, laidLooks := .later }
def TrimSplitsCardSaid : Prop := Claim7.holds Tryz.pinned (.plain (OpenSpec.ofChange trimSplitsSpec)) trimSplitsCard

/-- THE TIED CARD OF 'relucertlaw49.TrimTrims'. -/
def trimTrimsCard : Claim7 := { stood := { row := trimTrimsRow, standIns := [], harness := (true, "b4c8c76652b3bc7dd3603b1b7d0d1ff8018830f976bd614cbbcb51b1faaf894d"), looks := false }, kinds := [], alts := [], laidByText := true, laidKinds := [.data], laidTests := true, laidLooks := .later }
def TrimTrimsCardSaid : Prop := Claim7.holds Tryz.pinned (.plain (OpenSpec.ofChange trimTrimsSpec)) trimTrimsCard

/-- THE TIED CARD OF 'relucertlaw49.TrimAccepted'. -/
def trimAcceptedCard : Claim7 := { stood := { row := trimAcceptedRow, standIns := [], harness := (true, "b4c8c76652b3bc7dd3603b1b7d0d1ff8018830f976bd614cbbcb51b1faaf894d"), looks := false }, kinds := [], alts := [], laidByText := true, laidKinds := [.data], laidTests := true, laidLooks := .later }
def TrimAcceptedCardSaid : Prop := Claim7.holds Tryz.pinned (.plain (OpenSpec.ofChange trimAcceptedSpec)) trimAcceptedCard

/-- THE TIED CARD OF 'relucertlaw49.TrimSmaller'. -/
def trimSmallerCard : Claim7 := { stood := { row := trimSmallerRow, standIns := [], harness := (true, "b4c8c76652b3bc7dd3603b1b7d0d1ff8018830f976bd614cbbcb51b1faaf894d"), looks := false }, kinds := [], alts := [], laidByText := true, laidKinds := [.data], laidTests := true, laidLooks := .later }
def TrimSmallerCardSaid : Prop := Claim7.holds Tryz.pinned (.plain (OpenSpec.ofChange trimSmallerSpec)) trimSmallerCard

/-- THE TIED CARD OF 'relucertlaw49.TrimNeeded'. -/
def trimNeededCard : Claim7 := { stood := { row := trimNeededRow, standIns := [], harness := (true, "b4c8c76652b3bc7dd3603b1b7d0d1ff8018830f976bd614cbbcb51b1faaf894d"), looks := false }, kinds := [], alts := [], laidByText := true, laidKinds := [.data], laidTests := true, laidLooks := .later }
def TrimNeededCardSaid : Prop := Claim7.holds Tryz.pinned (.plain (OpenSpec.ofChange trimNeededSpec)) trimNeededCard

/-- THE TIED CARD OF 'relucertlaw49.TrimUseless'. -/
def trimUselessCard : Claim7 := { stood := { row := trimUselessRow, standIns := [], harness := (true, "b4c8c76652b3bc7dd3603b1b7d0d1ff8018830f976bd614cbbcb51b1faaf894d"), looks := false }, kinds := [], alts := [], laidByText := true, laidKinds := [.data], laidTests := true, laidLooks := .later }
def TrimUselessCardSaid : Prop := Claim7.holds Tryz.pinned (.plain (OpenSpec.ofChange trimUselessSpec)) trimUselessCard

/-- THE SECOND FORM's CARD OF 'relucertlaw49.TrimLemmas'. -/
def trimLemmasUptoCard : Claim7 := { stood := { row := trimLemmasUptoRow, standIns := [], harness := (true, "b4c8c76652b3bc7dd3603b1b7d0d1ff8018830f976bd614cbbcb51b1faaf894d"), looks := false }, kinds := [], alts := [], laidByText := true, laidKinds := [.data], laidTests := true, laidLooks := .later }
def TrimLemmasUptoCardSaid : Prop := Claim7.holds Tryz.pinned (.plain (OpenSpec.upto trimLemmasSpec)) trimLemmasUptoCard

/-- THE SECOND FORM's CARD OF 'relucertlaw49.TrimSplits'. -/
def trimSplitsUptoCard : Claim7 := { stood := { row := trimSplitsUptoRow, standIns := [], harness := (true, "b4c8c76652b3bc7dd3603b1b7d0d1ff8018830f976bd614cbbcb51b1faaf894d"), looks := false }, kinds := [], alts := [], laidByText := true, laidKinds := [.data], laidTests := true, laidLooks := .later }
def TrimSplitsUptoCardSaid : Prop := Claim7.holds Tryz.pinned (.plain (OpenSpec.upto trimSplitsSpec)) trimSplitsUptoCard

/-- THE SECOND FORM's CARD OF 'relucertlaw49.TrimTrims'. -/
def trimTrimsUptoCard : Claim7 := { stood := { row := trimTrimsUptoRow, standIns := [], harness := (true, "b4c8c76652b3bc7dd3603b1b7d0d1ff8018830f976bd614cbbcb51b1faaf894d"), looks := false }, kinds := [], alts := [], laidByText := true, laidKinds := [.data], laidTests := true, laidLooks := .later }
def TrimTrimsUptoCardSaid : Prop := Claim7.holds Tryz.pinned (.plain (OpenSpec.upto trimTrimsSpec)) trimTrimsUptoCard

/-- THE SECOND FORM's CARD OF 'relucertlaw49.TrimAccepted'. -/
def trimAcceptedUptoCard : Claim7 := { stood := { row := trimAcceptedUptoRow, standIns := [], harness := (true, "b4c8c76652b3bc7dd3603b1b7d0d1ff8018830f976bd614cbbcb51b1faaf894d"), looks := false }, kinds := [], alts := [], laidByText := true, laidKinds := [.data], laidTests := true, laidLooks := .later }
def TrimAcceptedUptoCardSaid : Prop := Claim7.holds Tryz.pinned (.plain (OpenSpec.upto trimAcceptedSpec)) trimAcceptedUptoCard

/-- THE SECOND FORM's CARD OF 'relucertlaw49.TrimSmaller'. -/
def trimSmallerUptoCard : Claim7 := { stood := { row := trimSmallerUptoRow, standIns := [], harness := (true, "b4c8c76652b3bc7dd3603b1b7d0d1ff8018830f976bd614cbbcb51b1faaf894d"), looks := false }, kinds := [], alts := [], laidByText := true, laidKinds := [.data], laidTests := true, laidLooks := .later }
def TrimSmallerUptoCardSaid : Prop := Claim7.holds Tryz.pinned (.plain (OpenSpec.upto trimSmallerSpec)) trimSmallerUptoCard

/-- THE SECOND FORM's CARD OF 'relucertlaw49.TrimNeeded'. -/
def trimNeededUptoCard : Claim7 := { stood := { row := trimNeededUptoRow, standIns := [], harness := (true, "b4c8c76652b3bc7dd3603b1b7d0d1ff8018830f976bd614cbbcb51b1faaf894d"), looks := false }, kinds := [], alts := [], laidByText := true, laidKinds := [.data], laidTests := true, laidLooks := .later }
def TrimNeededUptoCardSaid : Prop := Claim7.holds Tryz.pinned (.plain (OpenSpec.upto trimNeededSpec)) trimNeededUptoCard

/-- THE SECOND FORM's CARD OF 'relucertlaw49.TrimUseless'. -/
def trimUselessUptoCard : Claim7 := { stood := { row := trimUselessUptoRow, standIns := [], harness := (true, "b4c8c76652b3bc7dd3603b1b7d0d1ff8018830f976bd614cbbcb51b1faaf894d"), looks := false }, kinds := [], alts := [], laidByText := true, laidKinds := [.data], laidTests := true, laidLooks := .later }
def TrimUselessUptoCardSaid : Prop := Claim7.holds Tryz.pinned (.plain (OpenSpec.upto trimUselessSpec)) trimUselessUptoCard
end Rows
end Go.Proofs.YtbelmkceegmdjaaGreatDoor
