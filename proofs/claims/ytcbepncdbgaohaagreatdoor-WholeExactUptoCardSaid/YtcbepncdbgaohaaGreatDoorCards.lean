/-
  DERIVED. GIVEN WITH THE SEED: THE CARDS: each row of YtcbepncdbgaohaaGreatDoorRows.lean that lists a variable, with what it lists TIED to the program's text (the seventh form; the later family's looks); each row that meets fmt, with fmt's text TOLD by the authors' own Lean function (tested against real Go, not proved from fmt's source: count such statements apart). THE CARD IS WHAT COUNTS. Prove the row's statement (the work); the ties are given (YtcbepncdbgaohaaGreatDoorTie.lean); close each card by the builder's one call (the guide's Derived/Test/ToyasCard.lean, 'card_holds'). Laid BY PROGRAM, IN A SANDBOX (cutbox-door.mjs). By AI agents, Wed Nov 11 2026. No macro, syntax, notation, axiom, sorry.
-/
import Derived.Test.YtcbepncdbgaohaaGreatDoorRows
import GoSem.ClaimSeven
namespace Go.Proofs.YtcbepncdbgaohaaGreatDoor
namespace Rows

/-- THE TIED CARD OF 'relucerttop.WholeExact'. -/
def wholeExactCard : Claim7 := { stood := { row := wholeExactRow, standIns := [], harness := (true, "929367c30b9f1686d9f366c07e12a837408bb6a27d5d4c6bebf710dfb4ef69d4"), looks := false }, kinds := [], alts := [], laidByText := true, laidKinds := [.data, .data, .data], laidTests := true, laidLooks := .later }
def WholeExactCardSaid : Prop := Claim7.holds Tryz.pinned (.plain (OpenSpec.ofChange wholeExactSpec)) wholeExactCard

/-- THE SECOND FORM's CARD OF 'relucerttop.WholeExact'. -/
def wholeExactUptoCard : Claim7 := { stood := { row := wholeExactUptoRow, standIns := [], harness := (true, "929367c30b9f1686d9f366c07e12a837408bb6a27d5d4c6bebf710dfb4ef69d4"), looks := false }, kinds := [], alts := [], laidByText := true, laidKinds := [.data, .data, .data], laidTests := true, laidLooks := .later }
def WholeExactUptoCardSaid : Prop := Claim7.holds Tryz.pinned (.plain (OpenSpec.upto wholeExactSpec)) wholeExactUptoCard
end Rows
end Go.Proofs.YtcbepncdbgaohaaGreatDoor
