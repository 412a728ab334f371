/-
  DERIVED. GIVEN WITH THE SEED: THE CARDS: each row of YtcicbbceknhkfaaGreatDoorRows.lean that lists a variable, with what it lists TIED to the program's text (the seventh form; the later family's looks); each row that meets fmt, with fmt's text TOLD by the authors' own Lean function (tested against real Go, not proved from fmt's source: count such statements apart). THE CARD IS WHAT COUNTS. Prove the row's statement (the work); the ties are given (YtcicbbceknhkfaaGreatDoorTie.lean); close each card by the builder's one call (the guide's Derived/Test/ToyasCard.lean, 'card_holds'). Laid BY PROGRAM, IN A SANDBOX (cutbox-door.mjs). By AI agents, Wed Nov 11 2026. No macro, syntax, notation, axiom, sorry.
-/
import Derived.Test.YtcicbbceknhkfaaGreatDoorRows
import GoSem.ClaimSeven
namespace Go.Proofs.YtcicbbceknhkfaaGreatDoor
namespace Rows

/-- THE TIED CARD OF 'windlasstop.WholeGcd'. -/
def wholeGcdCard : Claim7 := { stood := { row := wholeGcdRow, standIns := [], harness := (true, "818bf71bd8872578132955319abe5734aec1eb0298f30427a43ca8c6cef456b1"), looks := true }, kinds := [], alts := [], laidByText := true, laidKinds := [.data], laidTests := true, laidLooks := .later }
def WholeGcdCardSaid : Prop := Claim7.holds Tryz.pinned (.plain (OpenSpec.ofChange wholeGcdSpec)) wholeGcdCard

/-- THE SECOND FORM's CARD OF 'windlasstop.WholeGcd'. -/
def wholeGcdUptoCard : Claim7 := { stood := { row := wholeGcdUptoRow, standIns := [], harness := (true, "818bf71bd8872578132955319abe5734aec1eb0298f30427a43ca8c6cef456b1"), looks := true }, kinds := [], alts := [], laidByText := true, laidKinds := [.data], laidTests := true, laidLooks := .later }
def WholeGcdUptoCardSaid : Prop := Claim7.holds Tryz.pinned (.plain (OpenSpec.upto wholeGcdSpec)) wholeGcdUptoCard
end Rows
end Go.Proofs.YtcicbbceknhkfaaGreatDoor
