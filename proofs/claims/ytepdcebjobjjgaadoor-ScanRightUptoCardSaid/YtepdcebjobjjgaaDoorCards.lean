/-
  DERIVED. GIVEN WITH THE SEED: THE CARDS: each row of YtepdcebjobjjgaaDoorRows.lean that lists a variable, with what it lists TIED to the program's text (the seventh form; the later family's looks); each row that meets fmt, with fmt's text TOLD by the authors' own Lean function (tested against real Go, not proved from fmt's source: count such statements apart). THE CARD IS WHAT COUNTS. Prove the row's statement (the work); the ties are given (YtepdcebjobjjgaaDoorTie.lean); close each card by the builder's one call (the guide's Derived/Test/ToyasCard.lean, 'card_holds'). Laid BY PROGRAM, IN A SANDBOX (cutbox-door.mjs). By AI agents, Wed Nov 11 2026. No macro, syntax, notation, axiom, sorry.
-/
import Derived.Test.YtepdcebjobjjgaaDoorRows
import GoSem.ClaimSeven
namespace Go.Proofs.YtepdcebjobjjgaaDoor
namespace Rows

/-- THE TIED CARD OF 'windlasslaw13.ScanRight'. -/
def scanRightCard : Claim7 := { stood := { row := scanRightRow, standIns := [], harness := (true, "10325e808cf7186055d6c5374f5616d273e270703855116923b6f092382e0e6b"), looks := true }, kinds := [], alts := [], laidByText := true, laidKinds := [.data], laidTests := true, laidLooks := .later }
def ScanRightCardSaid : Prop := Claim7.holds Tryd.pinned (.plain (OpenSpec.ofChange scanRightSpec)) scanRightCard

/-- THE TIED CARD OF 'windlasslaw13.ScanRoom'. -/
def scanRoomCard : Claim7 := { stood := { row := scanRoomRow, standIns := [], harness := (true, "10325e808cf7186055d6c5374f5616d273e270703855116923b6f092382e0e6b"), looks := true }, kinds := [], alts := [], laidByText := true, laidKinds := [.data], laidTests := true, laidLooks := .later }
def ScanRoomCardSaid : Prop := Claim7.holds Tryd.pinned (.plain (OpenSpec.ofChange scanRoomSpec)) scanRoomCard

/-- THE TIED CARD OF 'windlasslaw13.ScanMany'. -/
def scanManyCard : Claim7 := { stood := { row := scanManyRow, standIns := [], harness := (true, "10325e808cf7186055d6c5374f5616d273e270703855116923b6f092382e0e6b"), looks := true }, kinds := [], alts := [], laidByText := true, laidKinds := [.data], laidTests := true, laidLooks := .later }
def ScanManyCardSaid : Prop := Claim7.holds Tryd.pinned (.plain (OpenSpec.ofChange scanManySpec)) scanManyCard

/-- THE TIED CARD OF 'windlasslaw13.ScanAgain'. -/
def scanAgainCard : Claim7 := { stood := { row := scanAgainRow, standIns := [], harness := (true, "10325e808cf7186055d6c5374f5616d273e270703855116923b6f092382e0e6b"), looks := true }, kinds := [], alts := [], laidByText := true, laidKinds := [.data], laidTests := true, laidLooks := .later }
def ScanAgainCardSaid : Prop := Claim7.holds Tryd.pinned (.plain (OpenSpec.ofChange scanAgainSpec)) scanAgainCard

/-- THE SECOND FORM's CARD OF 'windlasslaw13.ScanRight'. -/
def scanRightUptoCard : Claim7 := { stood := { row := scanRightUptoRow, standIns := [], harness := (true, "10325e808cf7186055d6c5374f5616d273e270703855116923b6f092382e0e6b"), looks := true }, kinds := [], alts := [], laidByText := true, laidKinds := [.data], laidTests := true, laidLooks := .later }
def ScanRightUptoCardSaid : Prop := Claim7.holds Tryd.pinned (.plain (OpenSpec.upto scanRightSpec)) scanRightUptoCard

/-- THE SECOND FORM's CARD OF 'windlasslaw13.ScanRoom'. -/
def scanRoomUptoCard : Claim7 := { stood := { row := scanRoomUptoRow, standIns := [], harness := (true, "10325e808cf7186055d6c5374f5616d273e270703855116923b6f092382e0e6b"), looks := true }, kinds := [], alts := [], laidByText := true, laidKinds := [.data], laidTests := true, laidLooks := .later }
def ScanRoomUptoCardSaid : Prop := Claim7.holds Tryd.pinned (.plain (OpenSpec.upto scanRoomSpec)) scanRoomUptoCard

/-- THE SECOND FORM's CARD OF 'windlasslaw13.ScanMany'. -/
def scanManyUptoCard : Claim7 := { stood := { row := scanManyUptoRow, standIns := [], harness := (true, "10325e808cf7186055d6c5374f5616d273e270703855116923b6f092382e0e6b"), looks := true }, kinds := [], alts := [], laidByText := true, laidKinds := [.data], laidTests := true, laidLooks := .later }
def ScanManyUptoCardSaid : Prop := Claim7.holds Tryd.pinned (.plain (OpenSpec.upto scanManySpec)) scanManyUptoCard

/-- THE SECOND FORM's CARD OF 'windlasslaw13.ScanAgain'. -/
def scanAgainUptoCard : Claim7 := { stood := { row := scanAgainUptoRow, standIns := [], harness := (true, "10325e808cf7186055d6c5374f5616d273e270703855116923b6f092382e0e6b"), looks := true }, kinds := [], alts := [], laidByText := true, laidKinds := [.data], laidTests := true, laidLooks := .later }
def ScanAgainUptoCardSaid : Prop := Claim7.holds Tryd.pinned (.plain (OpenSpec.upto scanAgainSpec)) scanAgainUptoCard
end Rows
end Go.Proofs.YtepdcebjobjjgaaDoor
