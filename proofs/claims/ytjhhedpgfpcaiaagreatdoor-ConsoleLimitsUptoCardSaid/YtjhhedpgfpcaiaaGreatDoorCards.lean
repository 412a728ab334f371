/-
  DERIVED. GIVEN WITH THE SEED: THE CARDS: each row of YtjhhedpgfpcaiaaGreatDoorRows.lean that lists a variable, with what it lists TIED to the program's text (the seventh form; the later family's looks); each row that meets fmt, with fmt's text TOLD by the authors' own Lean function (tested against real Go, not proved from fmt's source: count such statements apart). THE CARD IS WHAT COUNTS. Prove the row's statement (the work); the ties are given (YtjhhedpgfpcaiaaGreatDoorTie.lean); close each card by the builder's one call (the guide's Derived/Test/ToyasCard.lean, 'card_holds'). Laid BY PROGRAM, IN A SANDBOX (cutbox-door.mjs). By AI agents, Wed Nov 11 2026. No macro, syntax, notation, axiom, sorry.
-/
import Derived.Test.YtjhhedpgfpcaiaaGreatDoorRows
import GoSem.ClaimSeven
namespace Go.Proofs.YtjhhedpgfpcaiaaGreatDoor
namespace Rows

/-- THE TIED CARD OF 'windlasslaw25.ConsoleLimits'. -/
def consoleLimitsCard : Claim7 := { stood := { row := consoleLimitsRow, standIns := [], harness := (true, "6217c30bf9927fc1214cf5a39333ad5124e29264c6ad51f32b7c8d0fd60fdda1"), looks := true }, kinds := [], alts := [], laidByText := true, laidKinds := [.data, .data, .data, .data, .sentinel, .sentinel, .pinned], laidTests := true, laidLooks := .later }
def ConsoleLimitsCardSaid : Prop := Claim7.holds Tryz.pinned (.plain (OpenSpec.ofChange consoleLimitsSpec)) consoleLimitsCard

/-- THE SECOND FORM's CARD OF 'windlasslaw25.ConsoleLimits'. -/
def consoleLimitsUptoCard : Claim7 := { stood := { row := consoleLimitsUptoRow, standIns := [], harness := (true, "6217c30bf9927fc1214cf5a39333ad5124e29264c6ad51f32b7c8d0fd60fdda1"), looks := true }, kinds := [], alts := [], laidByText := true, laidKinds := [.data, .data, .data, .data, .sentinel, .sentinel, .pinned], laidTests := true, laidLooks := .later }
def ConsoleLimitsUptoCardSaid : Prop := Claim7.holds Tryz.pinned (.plain (OpenSpec.upto consoleLimitsSpec)) consoleLimitsUptoCard
end Rows
end Go.Proofs.YtjhhedpgfpcaiaaGreatDoor
