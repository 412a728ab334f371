/-
  DERIVED. GIVEN WITH THE SEED: THE CARDS: each row of YtkfhljombjmdbaaDoorRows.lean that lists a variable, with what it lists TIED to the program's text (the seventh form; the later family's looks); each row that meets fmt, with fmt's text TOLD by the authors' own Lean function (tested against real Go, not proved from fmt's source: count such statements apart). THE CARD IS WHAT COUNTS. Prove the row's statement (the work); the ties are given (YtkfhljombjmdbaaDoorTie.lean); close each card by the builder's one call (the guide's Derived/Test/ToyasCard.lean, 'card_holds'). Laid BY PROGRAM, IN A SANDBOX (cutbox-door.mjs). By AI agents, Wed Nov 11 2026. No macro, syntax, notation, axiom, sorry.
-/
import Derived.Test.YtkfhljombjmdbaaDoorRows
import GoSem.ClaimSeven
namespace Go.Proofs.YtkfhljombjmdbaaDoor
namespace Rows

/-- THE TIED CARD OF 'windlasslaw02.TraceTexts'. -/
def traceTextsCard : Claim7 := { stood := { row := traceTextsRow, standIns := [], harness := (true, "25121b15ff404a21cfb1355ef1fffb76b1ae68c063a02114bca5b10348aba29e"), looks := true }, kinds := [], alts := [], laidByText := true, laidKinds := [.data, .data, .data, .data, .sentinel, .sentinel, .pinned], laidTests := true, laidLooks := .later }
def TraceTextsCardSaid : Prop := Claim7.holds Tryd.pinned (.plain (OpenSpec.ofChange traceTextsSpec)) traceTextsCard

/-- THE TIED CARD OF 'windlasslaw04.TextParses'. -/
def textParsesCard : Claim7 := { stood := { row := textParsesRow, standIns := [], harness := (true, "25121b15ff404a21cfb1355ef1fffb76b1ae68c063a02114bca5b10348aba29e"), looks := true }, kinds := [], alts := [], laidByText := true, laidKinds := [.data, .data, .data, .data, .sentinel, .sentinel, .pinned], laidTests := true, laidLooks := .later }
def TextParsesCardSaid : Prop := Claim7.holds Tryd.pinned (.plain (OpenSpec.ofChange textParsesSpec)) textParsesCard

/-- THE TIED CARD OF 'windlasslaw04.TextPrints'. -/
def textPrintsCard : Claim7 := { stood := { row := textPrintsRow, standIns := [], harness := (true, "25121b15ff404a21cfb1355ef1fffb76b1ae68c063a02114bca5b10348aba29e"), looks := true }, kinds := [], alts := [], laidByText := true, laidKinds := [.data, .data, .data, .data, .sentinel, .sentinel, .pinned], laidTests := true, laidLooks := .later }
def TextPrintsCardSaid : Prop := Claim7.holds Tryd.pinned (.plain (OpenSpec.ofChange textPrintsSpec)) textPrintsCard

/-- THE TIED CARD OF 'windlasslaw04.TextLoose'. -/
def textLooseCard : Claim7 := { stood := { row := textLooseRow, standIns := [], harness := (true, "25121b15ff404a21cfb1355ef1fffb76b1ae68c063a02114bca5b10348aba29e"), looks := true }, kinds := [], alts := [], laidByText := true, laidKinds := [.data, .data, .data, .data, .sentinel, .sentinel, .pinned], laidTests := true, laidLooks := .later }
def TextLooseCardSaid : Prop := Claim7.holds Tryd.pinned (.plain (OpenSpec.ofChange textLooseSpec)) textLooseCard

/-- THE TIED CARD OF 'windlasslaw04.TextNames'. -/
def textNamesCard : Claim7 := { stood := { row := textNamesRow, standIns := [], harness := (true, "25121b15ff404a21cfb1355ef1fffb76b1ae68c063a02114bca5b10348aba29e"), looks := true }, kinds := [], alts := [], laidByText := true, laidKinds := [.data, .data, .data, .data, .sentinel, .sentinel, .pinned], laidTests := true, laidLooks := .later }
def TextNamesCardSaid : Prop := Claim7.holds Tryd.pinned (.plain (OpenSpec.ofChange textNamesSpec)) textNamesCard

/-- THE TIED CARD OF 'windlasslaw04.TextJoins'. -/
def textJoinsCard : Claim7 := { stood := { row := textJoinsRow, standIns := [], harness := (true, "25121b15ff404a21cfb1355ef1fffb76b1ae68c063a02114bca5b10348aba29e"), looks := true }, kinds := [], alts := [], laidByText := true, laidKinds := [.data, .data, .data, .data, .sentinel, .sentinel, .pinned], laidTests := true, laidLooks := .later }
def TextJoinsCardSaid : Prop := Claim7.holds Tryd.pinned (.plain (OpenSpec.ofChange textJoinsSpec)) textJoinsCard

/-- THE TIED CARD OF 'windlasslaw04.TextLines'. -/
def textLinesCard : Claim7 := { stood := { row := textLinesRow, standIns := [], harness := (true, "25121b15ff404a21cfb1355ef1fffb76b1ae68c063a02114bca5b10348aba29e"), looks := true }, kinds := [], alts := [], laidByText := true, laidKinds := [.data, .data, .data, .data, .sentinel, .sentinel, .pinned], laidTests := true, laidLooks := .later }
def TextLinesCardSaid : Prop := Claim7.holds Tryd.pinned (.plain (OpenSpec.ofChange textLinesSpec)) textLinesCard

/-- THE TIED CARD OF 'windlasslaw12.OrderLines'. -/
def orderLinesCard : Claim7 := { stood := { row := orderLinesRow, standIns := [], harness := (true, "25121b15ff404a21cfb1355ef1fffb76b1ae68c063a02114bca5b10348aba29e"), looks := true }, kinds := [], alts := [], laidByText := true, laidKinds := [.data], laidTests := true, laidLooks := .later }
def OrderLinesCardSaid : Prop := Claim7.holds Tryd.pinned (.plain (OpenSpec.ofChange orderLinesSpec)) orderLinesCard

/-- THE TIED CARD OF 'windlasslaw12.OrderMeets'. -/
def orderMeetsCard : Claim7 := { stood := { row := orderMeetsRow, standIns := [], harness := (true, "25121b15ff404a21cfb1355ef1fffb76b1ae68c063a02114bca5b10348aba29e"), looks := true }, kinds := [], alts := [], laidByText := true, laidKinds := [.data], laidTests := true, laidLooks := .later }
def OrderMeetsCardSaid : Prop := Claim7.holds Tryd.pinned (.plain (OpenSpec.ofChange orderMeetsSpec)) orderMeetsCard

/-- THE TIED CARD OF 'windlasslaw12.OrderAll'. -/
def orderAllCard : Claim7 := { stood := { row := orderAllRow, standIns := [], harness := (true, "25121b15ff404a21cfb1355ef1fffb76b1ae68c063a02114bca5b10348aba29e"), looks := true }, kinds := [], alts := [], laidByText := true, laidKinds := [.data], laidTests := true, laidLooks := .later }
def OrderAllCardSaid : Prop := Claim7.holds Tryd.pinned (.plain (OpenSpec.ofChange orderAllSpec)) orderAllCard

/-- THE SECOND FORM's CARD OF 'windlasslaw02.TraceTexts'. -/
def traceTextsUptoCard : Claim7 := { stood := { row := traceTextsUptoRow, standIns := [], harness := (true, "25121b15ff404a21cfb1355ef1fffb76b1ae68c063a02114bca5b10348aba29e"), looks := true }, kinds := [], alts := [], laidByText := true, laidKinds := [.data, .data, .data, .data, .sentinel, .sentinel, .pinned], laidTests := true, laidLooks := .later }
def TraceTextsUptoCardSaid : Prop := Claim7.holds Tryd.pinned (.plain (OpenSpec.upto traceTextsSpec)) traceTextsUptoCard

/-- THE SECOND FORM's CARD OF 'windlasslaw04.TextParses'. -/
def textParsesUptoCard : Claim7 := { stood := { row := textParsesUptoRow, standIns := [], harness := (true, "25121b15ff404a21cfb1355ef1fffb76b1ae68c063a02114bca5b10348aba29e"), looks := true }, kinds := [], alts := [], laidByText := true, laidKinds := [.data, .data, .data, .data, .sentinel, .sentinel, .pinned], laidTests := true, laidLooks := .later }
def TextParsesUptoCardSaid : Prop := Claim7.holds Tryd.pinned (.plain (OpenSpec.upto textParsesSpec)) textParsesUptoCard

/-- THE SECOND FORM's CARD OF 'windlasslaw04.TextPrints'. -/
def textPrintsUptoCard : Claim7 := { stood := { row := textPrintsUptoRow, standIns := [], harness := (true, "25121b15ff404a21cfb1355ef1fffb76b1ae68c063a02114bca5b10348aba29e"), looks := true }, kinds := [], alts := [], laidByText := true, laidKinds := [.data, .data, .data, .data, .sentinel, .sentinel, .pinned], laidTests := true, laidLooks := .later }
def TextPrintsUptoCardSaid : Prop := Claim7.holds Tryd.pinned (.plain (OpenSpec.upto textPrintsSpec)) textPrintsUptoCard

/-- THE SECOND FORM's CARD OF 'windlasslaw04.TextLoose'. -/
def textLooseUptoCard : Claim7 := { stood := { row := textLooseUptoRow, standIns := [], harness := (true, "25121b15ff404a21cfb1355ef1fffb76b1ae68c063a02114bca5b10348aba29e"), looks := true }, kinds := [], alts := [], laidByText := true, laidKinds := [.data, .data, .data, .data, .sentinel, .sentinel, .pinned], laidTests := true, laidLooks := .later }
def TextLooseUptoCardSaid : Prop := Claim7.holds Tryd.pinned (.plain (OpenSpec.upto textLooseSpec)) textLooseUptoCard

/-- THE SECOND FORM's CARD OF 'windlasslaw04.TextNames'. -/
def textNamesUptoCard : Claim7 := { stood := { row := textNamesUptoRow, standIns := [], harness := (true, "25121b15ff404a21cfb1355ef1fffb76b1ae68c063a02114bca5b10348aba29e"), looks := true }, kinds := [], alts := [], laidByText := true, laidKinds := [.data, .data, .data, .data, .sentinel, .sentinel, .pinned], laidTests := true, laidLooks := .later }
def TextNamesUptoCardSaid : Prop := Claim7.holds Tryd.pinned (.plain (OpenSpec.upto textNamesSpec)) textNamesUptoCard

/-- THE SECOND FORM's CARD OF 'windlasslaw04.TextJoins'. -/
def textJoinsUptoCard : Claim7 := { stood := { row := textJoinsUptoRow, standIns := [], harness := (true, "25121b15ff404a21cfb1355ef1fffb76b1ae68c063a02114bca5b10348aba29e"), looks := true }, kinds := [], alts := [], laidByText := true, laidKinds := [.data, .data, .data, .data, .sentinel, .sentinel, .pinned], laidTests := true, laidLooks := .later }
def TextJoinsUptoCardSaid : Prop := Claim7.holds Tryd.pinned (.plain (OpenSpec.upto textJoinsSpec)) textJoinsUptoCard

/-- THE SECOND FORM's CARD OF 'windlasslaw04.TextLines'. -/
def textLinesUptoCard : Claim7 := { stood := { row := textLinesUptoRow, standIns := [], harness := (true, "25121b15ff404a21cfb1355ef1fffb76b1ae68c063a02114bca5b10348aba29e"), looks := true }, kinds := [], alts := [], laidByText := true, laidKinds := [.data, .data, .data, .data, .sentinel, .sentinel, .pinned], laidTests := true, laidLooks := .later }
def TextLinesUptoCardSaid : Prop := Claim7.holds Tryd.pinned (.plain (OpenSpec.upto textLinesSpec)) textLinesUptoCard

/-- THE SECOND FORM's CARD OF 'windlasslaw12.OrderLines'. -/
def orderLinesUptoCard : Claim7 := { stood := { row := orderLinesUptoRow, standIns := [], harness := (true, "25121b15ff404a21cfb1355ef1fffb76b1ae68c063a02114bca5b10348aba29e"), looks := true }, kinds := [], alts := [], laidByText := true, laidKinds := [.data], laidTests := true, laidLooks := .later }
def OrderLinesUptoCardSaid : Prop := Claim7.holds Tryd.pinned (.plain (OpenSpec.upto orderLinesSpec)) orderLinesUptoCard

/-- THE SECOND FORM's CARD OF 'windlasslaw12.OrderMeets'. -/
def orderMeetsUptoCard : Claim7 := { stood := { row := orderMeetsUptoRow, standIns := [], harness := (true, "25121b15ff404a21cfb1355ef1fffb76b1ae68c063a02114bca5b10348aba29e"), looks := true }, kinds := [], alts := [], laidByText := true, laidKinds := [.data], laidTests := true, laidLooks := .later }
def OrderMeetsUptoCardSaid : Prop := Claim7.holds Tryd.pinned (.plain (OpenSpec.upto orderMeetsSpec)) orderMeetsUptoCard

/-- THE SECOND FORM's CARD OF 'windlasslaw12.OrderAll'. -/
def orderAllUptoCard : Claim7 := { stood := { row := orderAllUptoRow, standIns := [], harness := (true, "25121b15ff404a21cfb1355ef1fffb76b1ae68c063a02114bca5b10348aba29e"), looks := true }, kinds := [], alts := [], laidByText := true, laidKinds := [.data], laidTests := true, laidLooks := .later }
def OrderAllUptoCardSaid : Prop := Claim7.holds Tryd.pinned (.plain (OpenSpec.upto orderAllSpec)) orderAllUptoCard
end Rows
end Go.Proofs.YtkfhljombjmdbaaDoor
