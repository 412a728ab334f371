/-
  DERIVED. GIVEN WITH THE SEED: THE CARDS: each row of YtgoejecjmodjiaaDoorRows.lean that lists a variable, with what it lists TIED to the program's text (the seventh form; the later family's looks); each row that meets fmt, with fmt's text TOLD by the authors' own Lean function (tested against real Go, not proved from fmt's source: count such statements apart). THE CARD IS WHAT COUNTS. Prove the row's statement (the work); the ties are given (YtgoejecjmodjiaaDoorTie.lean); close each card by the builder's one call (the guide's Derived/Test/ToyasCard.lean, 'card_holds'). Laid BY PROGRAM, IN A SANDBOX (cutbox-door.mjs). By AI agents, Wed Nov 11 2026. No macro, syntax, notation, axiom, sorry.
-/
import Derived.Test.YtgoejecjmodjiaaDoorRows
import GoSem.ClaimSeven
namespace Go.Proofs.YtgoejecjmodjiaaDoor
namespace Rows

/-- THE TIED CARD OF 'windlasslaw11.LiveLoops'. -/
def liveLoopsCard : Claim7 := { stood := { row := liveLoopsRow, standIns := [], harness := (true, "6676466226ad91fd90c5aa7bf0dcd4d8f3cb939bad2f8461f4bdc6ef6de89ace"), looks := false }, kinds := [], alts := [], laidByText := true, laidKinds := [.data], laidTests := true, laidLooks := .later }
def LiveLoopsCardSaid : Prop := Claim7.holds Tryd.pinned (.plain (OpenSpec.ofChange liveLoopsSpec)) liveLoopsCard

/-- THE TIED CARD OF 'windlasslaw11.LiveSets'. -/
def liveSetsCard : Claim7 := { stood := { row := liveSetsRow, standIns := [], harness := (true, "6676466226ad91fd90c5aa7bf0dcd4d8f3cb939bad2f8461f4bdc6ef6de89ace"), looks := false }, kinds := [], alts := [], laidByText := true, laidKinds := [.data], laidTests := true, laidLooks := .later }
def LiveSetsCardSaid : Prop := Claim7.holds Tryd.pinned (.plain (OpenSpec.ofChange liveSetsSpec)) liveSetsCard

/-- THE TIED CARD OF 'windlasslaw11.LiveRest'. -/
def liveRestCard : Claim7 := { stood := { row := liveRestRow, standIns := [], harness := (true, "6676466226ad91fd90c5aa7bf0dcd4d8f3cb939bad2f8461f4bdc6ef6de89ace"), looks := false }, kinds := [], alts := [], laidByText := true, laidKinds := [.data], laidTests := true, laidLooks := .later }
def LiveRestCardSaid : Prop := Claim7.holds Tryd.pinned (.plain (OpenSpec.ofChange liveRestSpec)) liveRestCard

/-- THE TIED CARD OF 'windlasslaw12.OrderAll'. -/
def orderAllCard : Claim7 := { stood := { row := orderAllRow, standIns := [], harness := (true, "6676466226ad91fd90c5aa7bf0dcd4d8f3cb939bad2f8461f4bdc6ef6de89ace"), looks := false }, kinds := [], alts := [], laidByText := true, laidKinds := [.data], laidTests := true, laidLooks := .later }
def OrderAllCardSaid : Prop := Claim7.holds Tryd.pinned (.plain (OpenSpec.ofChange orderAllSpec)) orderAllCard

/-- THE TIED CARD OF 'windlasslaw12.OrderMeets'. -/
def orderMeetsCard : Claim7 := { stood := { row := orderMeetsRow, standIns := [], harness := (true, "6676466226ad91fd90c5aa7bf0dcd4d8f3cb939bad2f8461f4bdc6ef6de89ace"), looks := false }, kinds := [], alts := [], laidByText := true, laidKinds := [.data], laidTests := true, laidLooks := .later }
def OrderMeetsCardSaid : Prop := Claim7.holds Tryd.pinned (.plain (OpenSpec.ofChange orderMeetsSpec)) orderMeetsCard

/-- THE TIED CARD OF 'windlasslaw12.OrderLines'. -/
def orderLinesCard : Claim7 := { stood := { row := orderLinesRow, standIns := [], harness := (true, "6676466226ad91fd90c5aa7bf0dcd4d8f3cb939bad2f8461f4bdc6ef6de89ace"), looks := false }, kinds := [], alts := [], laidByText := true, laidKinds := [.data], laidTests := true, laidLooks := .later }
def OrderLinesCardSaid : Prop := Claim7.holds Tryd.pinned (.plain (OpenSpec.ofChange orderLinesSpec)) orderLinesCard

/-- THE SECOND FORM's CARD OF 'windlasslaw11.LiveLoops'. -/
def liveLoopsUptoCard : Claim7 := { stood := { row := liveLoopsUptoRow, standIns := [], harness := (true, "6676466226ad91fd90c5aa7bf0dcd4d8f3cb939bad2f8461f4bdc6ef6de89ace"), looks := false }, kinds := [], alts := [], laidByText := true, laidKinds := [.data], laidTests := true, laidLooks := .later }
def LiveLoopsUptoCardSaid : Prop := Claim7.holds Tryd.pinned (.plain (OpenSpec.upto liveLoopsSpec)) liveLoopsUptoCard

/-- THE SECOND FORM's CARD OF 'windlasslaw11.LiveSets'. -/
def liveSetsUptoCard : Claim7 := { stood := { row := liveSetsUptoRow, standIns := [], harness := (true, "6676466226ad91fd90c5aa7bf0dcd4d8f3cb939bad2f8461f4bdc6ef6de89ace"), looks := false }, kinds := [], alts := [], laidByText := true, laidKinds := [.data], laidTests := true, laidLooks := .later }
def LiveSetsUptoCardSaid : Prop := Claim7.holds Tryd.pinned (.plain (OpenSpec.upto liveSetsSpec)) liveSetsUptoCard

/-- THE SECOND FORM's CARD OF 'windlasslaw11.LiveRest'. -/
def liveRestUptoCard : Claim7 := { stood := { row := liveRestUptoRow, standIns := [], harness := (true, "6676466226ad91fd90c5aa7bf0dcd4d8f3cb939bad2f8461f4bdc6ef6de89ace"), looks := false }, kinds := [], alts := [], laidByText := true, laidKinds := [.data], laidTests := true, laidLooks := .later }
def LiveRestUptoCardSaid : Prop := Claim7.holds Tryd.pinned (.plain (OpenSpec.upto liveRestSpec)) liveRestUptoCard

/-- THE SECOND FORM's CARD OF 'windlasslaw12.OrderAll'. -/
def orderAllUptoCard : Claim7 := { stood := { row := orderAllUptoRow, standIns := [], harness := (true, "6676466226ad91fd90c5aa7bf0dcd4d8f3cb939bad2f8461f4bdc6ef6de89ace"), looks := false }, kinds := [], alts := [], laidByText := true, laidKinds := [.data], laidTests := true, laidLooks := .later }
def OrderAllUptoCardSaid : Prop := Claim7.holds Tryd.pinned (.plain (OpenSpec.upto orderAllSpec)) orderAllUptoCard

/-- THE SECOND FORM's CARD OF 'windlasslaw12.OrderMeets'. -/
def orderMeetsUptoCard : Claim7 := { stood := { row := orderMeetsUptoRow, standIns := [], harness := (true, "6676466226ad91fd90c5aa7bf0dcd4d8f3cb939bad2f8461f4bdc6ef6de89ace"), looks := false }, kinds := [], alts := [], laidByText := true, laidKinds := [.data], laidTests := true, laidLooks := .later }
def OrderMeetsUptoCardSaid : Prop := Claim7.holds Tryd.pinned (.plain (OpenSpec.upto orderMeetsSpec)) orderMeetsUptoCard

/-- THE SECOND FORM's CARD OF 'windlasslaw12.OrderLines'. -/
def orderLinesUptoCard : Claim7 := { stood := { row := orderLinesUptoRow, standIns := [], harness := (true, "6676466226ad91fd90c5aa7bf0dcd4d8f3cb939bad2f8461f4bdc6ef6de89ace"), looks := false }, kinds := [], alts := [], laidByText := true, laidKinds := [.data], laidTests := true, laidLooks := .later }
def OrderLinesUptoCardSaid : Prop := Claim7.holds Tryd.pinned (.plain (OpenSpec.upto orderLinesSpec)) orderLinesUptoCard
end Rows
end Go.Proofs.YtgoejecjmodjiaaDoor
