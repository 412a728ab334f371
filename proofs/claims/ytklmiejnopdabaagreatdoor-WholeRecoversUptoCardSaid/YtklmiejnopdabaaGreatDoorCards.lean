/-
  DERIVED. GIVEN WITH THE SEED: THE CARDS: each row of YtklmiejnopdabaaGreatDoorRows.lean that lists a variable, with what it lists TIED to the program's text (the seventh form; the later family's looks); each row that meets fmt, with fmt's text TOLD by the authors' own Lean function (tested against real Go, not proved from fmt's source: count such statements apart). THE CARD IS WHAT COUNTS. Prove the row's statement (the work); the ties are given (YtklmiejnopdabaaGreatDoorTie.lean); close each card by the builder's one call (the guide's Derived/Test/ToyasCard.lean, 'card_holds'). Laid BY PROGRAM, IN A SANDBOX (cutbox-door.mjs). By AI agents, Wed Nov 11 2026. No macro, syntax, notation, axiom, sorry.
-/
import Derived.Test.YtklmiejnopdabaaGreatDoorRows
import GoSem.ClaimSeven
namespace Go.Proofs.YtklmiejnopdabaaGreatDoor
namespace Rows

/-- THE TIED CARD OF 'windlasstop.WholeNulls'. -/
def wholeNullsCard : Claim7 := { stood := { row := wholeNullsRow, standIns := [], harness := (true, "f62cc1466df11fe9e108f824c74518c25bbe1c58b7e93f3d48392b28d97b64f3"), looks := true }, kinds := [], alts := [], laidByText := true, laidKinds := [.data], laidTests := true, laidLooks := .later }
def WholeNullsCardSaid : Prop := Claim7.holds Tryz.pinned (.plain (OpenSpec.ofChange wholeNullsSpec)) wholeNullsCard

/-- THE TIED CARD OF 'windlasstop.WholeKeeps'. -/
def wholeKeepsCard : Claim7 := { stood := { row := wholeKeepsRow, standIns := [], harness := (true, "f62cc1466df11fe9e108f824c74518c25bbe1c58b7e93f3d48392b28d97b64f3"), looks := true }, kinds := [], alts := [], laidByText := true, laidKinds := [.data], laidTests := true, laidLooks := .later }
def WholeKeepsCardSaid : Prop := Claim7.holds Tryz.pinned (.plain (OpenSpec.ofChange wholeKeepsSpec)) wholeKeepsCard

/-- THE TIED CARD OF 'windlasstop.WholeExits'. -/
def wholeExitsCard : Claim7 := { stood := { row := wholeExitsRow, standIns := [], harness := (true, "f62cc1466df11fe9e108f824c74518c25bbe1c58b7e93f3d48392b28d97b64f3"), looks := true }, kinds := [], alts := [], laidByText := true, laidKinds := [.data], laidTests := true, laidLooks := .later }
def WholeExitsCardSaid : Prop := Claim7.holds Tryz.pinned (.plain (OpenSpec.ofChange wholeExitsSpec)) wholeExitsCard

/-- THE TIED CARD OF 'windlasstop.WholeRecovers'. -/
def wholeRecoversCard : Claim7 := { stood := { row := wholeRecoversRow, standIns := [], harness := (true, "f62cc1466df11fe9e108f824c74518c25bbe1c58b7e93f3d48392b28d97b64f3"), looks := true }, kinds := [], alts := [], laidByText := true, laidKinds := [.data], laidTests := true, laidLooks := .later }
def WholeRecoversCardSaid : Prop := Claim7.holds Tryz.pinned (.plain (OpenSpec.ofChange wholeRecoversSpec)) wholeRecoversCard

/-- THE SECOND FORM's CARD OF 'windlasstop.WholeNulls'. -/
def wholeNullsUptoCard : Claim7 := { stood := { row := wholeNullsUptoRow, standIns := [], harness := (true, "f62cc1466df11fe9e108f824c74518c25bbe1c58b7e93f3d48392b28d97b64f3"), looks := true }, kinds := [], alts := [], laidByText := true, laidKinds := [.data], laidTests := true, laidLooks := .later }
def WholeNullsUptoCardSaid : Prop := Claim7.holds Tryz.pinned (.plain (OpenSpec.upto wholeNullsSpec)) wholeNullsUptoCard

/-- THE SECOND FORM's CARD OF 'windlasstop.WholeKeeps'. -/
def wholeKeepsUptoCard : Claim7 := { stood := { row := wholeKeepsUptoRow, standIns := [], harness := (true, "f62cc1466df11fe9e108f824c74518c25bbe1c58b7e93f3d48392b28d97b64f3"), looks := true }, kinds := [], alts := [], laidByText := true, laidKinds := [.data], laidTests := true, laidLooks := .later }
def WholeKeepsUptoCardSaid : Prop := Claim7.holds Tryz.pinned (.plain (OpenSpec.upto wholeKeepsSpec)) wholeKeepsUptoCard

/-- THE SECOND FORM's CARD OF 'windlasstop.WholeExits'. -/
def wholeExitsUptoCard : Claim7 := { stood := { row := wholeExitsUptoRow, standIns := [], harness := (true, "f62cc1466df11fe9e108f824c74518c25bbe1c58b7e93f3d48392b28d97b64f3"), looks := true }, kinds := [], alts := [], laidByText := true, laidKinds := [.data], laidTests := true, laidLooks := .later }
def WholeExitsUptoCardSaid : Prop := Claim7.holds Tryz.pinned (.plain (OpenSpec.upto wholeExitsSpec)) wholeExitsUptoCard

/-- THE SECOND FORM's CARD OF 'windlasstop.WholeRecovers'. -/
def wholeRecoversUptoCard : Claim7 := { stood := { row := wholeRecoversUptoRow, standIns := [], harness := (true, "f62cc1466df11fe9e108f824c74518c25bbe1c58b7e93f3d48392b28d97b64f3"), looks := true }, kinds := [], alts := [], laidByText := true, laidKinds := [.data], laidTests := true, laidLooks := .later }
def WholeRecoversUptoCardSaid : Prop := Claim7.holds Tryz.pinned (.plain (OpenSpec.upto wholeRecoversSpec)) wholeRecoversUptoCard
end Rows
end Go.Proofs.YtklmiejnopdabaaGreatDoor
