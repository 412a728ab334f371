/-
  DERIVED. GIVEN WITH THE SEED: THE CARDS: each row of YtipeiholgieclaaDoorRows.lean that lists a variable, with what it lists TIED to the program's text (the seventh form; the later family's looks); each row that meets fmt, with fmt's text TOLD by the authors' own Lean function (tested against real Go, not proved from fmt's source: count such statements apart). THE CARD IS WHAT COUNTS. Prove the row's statement (the work); the ties are given (YtipeiholgieclaaDoorTie.lean); close each card by the builder's one call (the guide's Derived/Test/ToyasCard.lean, 'card_holds'). Laid BY PROGRAM, IN A SANDBOX (cutbox-door.mjs). By AI agents, Wed Nov 11 2026. No macro, syntax, notation, axiom, sorry.
-/
import Derived.Test.YtipeiholgieclaaDoorRows
import GoSem.ClaimSeven
namespace Go.Proofs.YtipeiholgieclaaDoor
namespace Rows

/-- THE TIED CARD OF 'windlasslaw11.LiveRest'. -/
def liveRestCard : Claim7 := { stood := { row := liveRestRow, standIns := [], harness := (true, "f7357aa568ad291bb0cf52ed977812e9f69e3ca1104fe922b45ce1789145af4e"), looks := false }, kinds := [], alts := [], laidByText := true, laidKinds := [.data], laidTests := true, laidLooks := .later }
def LiveRestCardSaid : Prop := Claim7.holds Tryd.pinned (.plain (OpenSpec.ofChange liveRestSpec)) liveRestCard

/-- THE SECOND FORM's CARD OF 'windlasslaw11.LiveRest'. -/
def liveRestUptoCard : Claim7 := { stood := { row := liveRestUptoRow, standIns := [], harness := (true, "f7357aa568ad291bb0cf52ed977812e9f69e3ca1104fe922b45ce1789145af4e"), looks := false }, kinds := [], alts := [], laidByText := true, laidKinds := [.data], laidTests := true, laidLooks := .later }
def LiveRestUptoCardSaid : Prop := Claim7.holds Tryd.pinned (.plain (OpenSpec.upto liveRestSpec)) liveRestUptoCard
end Rows
end Go.Proofs.YtipeiholgieclaaDoor
