/-
  DERIVED. GIVEN WITH THE SEED: THE CARDS: each row of YtekkiedpcgaddaaDoorRows.lean that lists a variable, with what it lists TIED to the program's text (the seventh form; the later family's looks); each row that meets fmt, with fmt's text TOLD by the authors' own Lean function (tested against real Go, not proved from fmt's source: count such statements apart). THE CARD IS WHAT COUNTS. Prove the row's statement (the work); the ties are given (YtekkiedpcgaddaaDoorTie.lean); close each card by the builder's one call (the guide's Derived/Test/ToyasCard.lean, 'card_holds'). Laid BY PROGRAM, IN A SANDBOX (cutbox-door.mjs). By AI agents, Wed Nov 11 2026. No macro, syntax, notation, axiom, sorry.
-/
import Derived.Test.YtekkiedpcgaddaaDoorRows
import GoSem.ClaimSeven
namespace Go.Proofs.YtekkiedpcgaddaaDoor
namespace Rows

/-- THE TIED CARD OF 'windlasslaw02.TraceKeeps'. -/
def traceKeepsCard : Claim7 := { stood := { row := traceKeepsRow, standIns := [], harness := (true, "aa47ed5945c1b18358e5f0be195589b302961067a0c3e14d6416ccc844693855"), looks := false }, kinds := [], alts := [], laidByText := true, laidKinds := [.data, .data, .data], laidTests := true, laidLooks := .later }
def TraceKeepsCardSaid : Prop := Claim7.holds Tryd.pinned (.plain (OpenSpec.ofChange traceKeepsSpec)) traceKeepsCard

/-- THE TIED CARD OF 'windlasslaw02.TraceWords'. -/
def traceWordsCard : Claim7 := { stood := { row := traceWordsRow, standIns := [], harness := (true, "aa47ed5945c1b18358e5f0be195589b302961067a0c3e14d6416ccc844693855"), looks := false }, kinds := [], alts := [], laidByText := true, laidKinds := [.data, .data, .data], laidTests := true, laidLooks := .later }
def TraceWordsCardSaid : Prop := Claim7.holds Tryd.pinned (.plain (OpenSpec.ofChange traceWordsSpec)) traceWordsCard

/-- THE TIED CARD OF 'windlasslaw02.TraceTapes'. -/
def traceTapesCard : Claim7 := { stood := { row := traceTapesRow, standIns := [], harness := (true, "aa47ed5945c1b18358e5f0be195589b302961067a0c3e14d6416ccc844693855"), looks := false }, kinds := [], alts := [], laidByText := true, laidKinds := [.data, .data, .data], laidTests := true, laidLooks := .later }
def TraceTapesCardSaid : Prop := Claim7.holds Tryd.pinned (.plain (OpenSpec.ofChange traceTapesSpec)) traceTapesCard

/-- THE TIED CARD OF 'windlasslaw02.TraceCompares'. -/
def traceComparesCard : Claim7 := { stood := { row := traceComparesRow, standIns := [], harness := (true, "aa47ed5945c1b18358e5f0be195589b302961067a0c3e14d6416ccc844693855"), looks := false }, kinds := [], alts := [], laidByText := true, laidKinds := [.data, .data, .data], laidTests := true, laidLooks := .later }
def TraceComparesCardSaid : Prop := Claim7.holds Tryd.pinned (.plain (OpenSpec.ofChange traceComparesSpec)) traceComparesCard

/-- THE TIED CARD OF 'windlasslaw02.TraceOrder'. -/
def traceOrderCard : Claim7 := { stood := { row := traceOrderRow, standIns := [], harness := (true, "aa47ed5945c1b18358e5f0be195589b302961067a0c3e14d6416ccc844693855"), looks := false }, kinds := [], alts := [], laidByText := true, laidKinds := [.data, .data, .data], laidTests := true, laidLooks := .later }
def TraceOrderCardSaid : Prop := Claim7.holds Tryd.pinned (.plain (OpenSpec.ofChange traceOrderSpec)) traceOrderCard

/-- THE TIED CARD OF 'windlasslaw11.LiveSets'. -/
def liveSetsCard : Claim7 := { stood := { row := liveSetsRow, standIns := [], harness := (true, "aa47ed5945c1b18358e5f0be195589b302961067a0c3e14d6416ccc844693855"), looks := false }, kinds := [], alts := [], laidByText := true, laidKinds := [.data], laidTests := true, laidLooks := .later }
def LiveSetsCardSaid : Prop := Claim7.holds Tryd.pinned (.plain (OpenSpec.ofChange liveSetsSpec)) liveSetsCard

/-- THE TIED CARD OF 'windlasslaw11.LiveRest'. -/
def liveRestCard : Claim7 := { stood := { row := liveRestRow, standIns := [], harness := (true, "aa47ed5945c1b18358e5f0be195589b302961067a0c3e14d6416ccc844693855"), looks := false }, kinds := [], alts := [], laidByText := true, laidKinds := [.data], laidTests := true, laidLooks := .later }
def LiveRestCardSaid : Prop := Claim7.holds Tryd.pinned (.plain (OpenSpec.ofChange liveRestSpec)) liveRestCard

/-- THE TIED CARD OF 'windlasslaw11.LiveLoops'. -/
def liveLoopsCard : Claim7 := { stood := { row := liveLoopsRow, standIns := [], harness := (true, "aa47ed5945c1b18358e5f0be195589b302961067a0c3e14d6416ccc844693855"), looks := false }, kinds := [], alts := [], laidByText := true, laidKinds := [.data], laidTests := true, laidLooks := .later }
def LiveLoopsCardSaid : Prop := Claim7.holds Tryd.pinned (.plain (OpenSpec.ofChange liveLoopsSpec)) liveLoopsCard

/-- THE SECOND FORM's CARD OF 'windlasslaw02.TraceKeeps'. -/
def traceKeepsUptoCard : Claim7 := { stood := { row := traceKeepsUptoRow, standIns := [], harness := (true, "aa47ed5945c1b18358e5f0be195589b302961067a0c3e14d6416ccc844693855"), looks := false }, kinds := [], alts := [], laidByText := true, laidKinds := [.data, .data, .data], laidTests := true, laidLooks := .later }
def TraceKeepsUptoCardSaid : Prop := Claim7.holds Tryd.pinned (.plain (OpenSpec.upto traceKeepsSpec)) traceKeepsUptoCard

/-- THE SECOND FORM's CARD OF 'windlasslaw02.TraceWords'. -/
def traceWordsUptoCard : Claim7 := { stood := { row := traceWordsUptoRow, standIns := [], harness := (true, "aa47ed5945c1b18358e5f0be195589b302961067a0c3e14d6416ccc844693855"), looks := false }, kinds := [], alts := [], laidByText := true, laidKinds := [.data, .data, .data], laidTests := true, laidLooks := .later }
def TraceWordsUptoCardSaid : Prop := Claim7.holds Tryd.pinned (.plain (OpenSpec.upto traceWordsSpec)) traceWordsUptoCard

/-- THE SECOND FORM's CARD OF 'windlasslaw02.TraceTapes'. -/
def traceTapesUptoCard : Claim7 := { stood := { row := traceTapesUptoRow, standIns := [], harness := (true, "aa47ed5945c1b18358e5f0be195589b302961067a0c3e14d6416ccc844693855"), looks := false }, kinds := [], alts := [], laidByText := true, laidKinds := [.data, .data, .data], laidTests := true, laidLooks := .later }
def TraceTapesUptoCardSaid : Prop := Claim7.holds Tryd.pinned (.plain (OpenSpec.upto traceTapesSpec)) traceTapesUptoCard

/-- THE SECOND FORM's CARD OF 'windlasslaw02.TraceCompares'. -/
def traceComparesUptoCard : Claim7 := { stood := { row := traceComparesUptoRow, standIns := [], harness := (true, "aa47ed5945c1b18358e5f0be195589b302961067a0c3e14d6416ccc844693855"), looks := false }, kinds := [], alts := [], laidByText := true, laidKinds := [.data, .data, .data], laidTests := true, laidLooks := .later }
def TraceComparesUptoCardSaid : Prop := Claim7.holds Tryd.pinned (.plain (OpenSpec.upto traceComparesSpec)) traceComparesUptoCard

/-- THE SECOND FORM's CARD OF 'windlasslaw02.TraceOrder'. -/
def traceOrderUptoCard : Claim7 := { stood := { row := traceOrderUptoRow, standIns := [], harness := (true, "aa47ed5945c1b18358e5f0be195589b302961067a0c3e14d6416ccc844693855"), looks := false }, kinds := [], alts := [], laidByText := true, laidKinds := [.data, .data, .data], laidTests := true, laidLooks := .later }
def TraceOrderUptoCardSaid : Prop := Claim7.holds Tryd.pinned (.plain (OpenSpec.upto traceOrderSpec)) traceOrderUptoCard

/-- THE SECOND FORM's CARD OF 'windlasslaw11.LiveSets'. -/
def liveSetsUptoCard : Claim7 := { stood := { row := liveSetsUptoRow, standIns := [], harness := (true, "aa47ed5945c1b18358e5f0be195589b302961067a0c3e14d6416ccc844693855"), looks := false }, kinds := [], alts := [], laidByText := true, laidKinds := [.data], laidTests := true, laidLooks := .later }
def LiveSetsUptoCardSaid : Prop := Claim7.holds Tryd.pinned (.plain (OpenSpec.upto liveSetsSpec)) liveSetsUptoCard

/-- THE SECOND FORM's CARD OF 'windlasslaw11.LiveRest'. -/
def liveRestUptoCard : Claim7 := { stood := { row := liveRestUptoRow, standIns := [], harness := (true, "aa47ed5945c1b18358e5f0be195589b302961067a0c3e14d6416ccc844693855"), looks := false }, kinds := [], alts := [], laidByText := true, laidKinds := [.data], laidTests := true, laidLooks := .later }
def LiveRestUptoCardSaid : Prop := Claim7.holds Tryd.pinned (.plain (OpenSpec.upto liveRestSpec)) liveRestUptoCard

/-- THE SECOND FORM's CARD OF 'windlasslaw11.LiveLoops'. -/
def liveLoopsUptoCard : Claim7 := { stood := { row := liveLoopsUptoRow, standIns := [], harness := (true, "aa47ed5945c1b18358e5f0be195589b302961067a0c3e14d6416ccc844693855"), looks := false }, kinds := [], alts := [], laidByText := true, laidKinds := [.data], laidTests := true, laidLooks := .later }
def LiveLoopsUptoCardSaid : Prop := Claim7.holds Tryd.pinned (.plain (OpenSpec.upto liveLoopsSpec)) liveLoopsUptoCard
end Rows
end Go.Proofs.YtekkiedpcgaddaaDoor
