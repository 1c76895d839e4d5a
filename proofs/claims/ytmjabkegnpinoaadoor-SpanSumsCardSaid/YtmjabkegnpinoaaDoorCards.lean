/-
  DERIVED. GIVEN WITH THE SEED: THE CARDS: each row of YtmjabkegnpinoaaDoorRows.lean that lists a variable, with what it lists TIED to the program's text (the seventh form; the later family's looks); each row that meets fmt, with fmt's text TOLD by the authors' own Lean function (tested against real Go, not proved from fmt's source: count such statements apart). THE CARD IS WHAT COUNTS. Prove the row's statement (the work); the ties are given (YtmjabkegnpinoaaDoorTie.lean); close each card by the builder's one call (the guide's Derived/Test/ToyasCard.lean, 'card_holds'). Laid BY PROGRAM, IN A SANDBOX (cutbox-door.mjs). By AI agents, Wed Nov 11 2026. No macro, syntax, notation, axiom, sorry.
-/
import Derived.Test.YtmjabkegnpinoaaDoorRows
import GoSem.ClaimSeven
namespace Go.Proofs.YtmjabkegnpinoaaDoor
namespace Rows

/-- THE TIED CARD OF 'remontoirlaw02.SpanParses'. -/
def spanParsesCard : Claim7 := { stood := { row := spanParsesRow, standIns := [], harness := (true, "624fe595e9775ae2fd17bc570637d57620c5b77e9ba011c6689e72cc7c353f03"), looks := true }, kinds := [], alts := [], laidByText := true, laidKinds := [.data, .data, .data, .sentinel, .sentinel], laidTests := true, laidLooks := .later }
def SpanParsesCardSaid : Prop := Claim7.holds Tryd.pinned (.plain (OpenSpec.ofChange spanParsesSpec)) spanParsesCard

/-- THE TIED CARD OF 'remontoirlaw02.SpanPrints'. -/
def spanPrintsCard : Claim7 := { stood := { row := spanPrintsRow, standIns := [], harness := (true, "624fe595e9775ae2fd17bc570637d57620c5b77e9ba011c6689e72cc7c353f03"), looks := true }, kinds := [], alts := [], laidByText := true, laidKinds := [.data, .data, .data, .sentinel, .sentinel], laidTests := true, laidLooks := .later }
def SpanPrintsCardSaid : Prop := Claim7.holds Tryd.pinned (.plain (OpenSpec.ofChange spanPrintsSpec)) spanPrintsCard

/-- THE TIED CARD OF 'remontoirlaw02.SpanBack'. -/
def spanBackCard : Claim7 := { stood := { row := spanBackRow, standIns := [], harness := (true, "624fe595e9775ae2fd17bc570637d57620c5b77e9ba011c6689e72cc7c353f03"), looks := true }, kinds := [], alts := [], laidByText := true, laidKinds := [.data, .data, .data, .sentinel, .sentinel], laidTests := true, laidLooks := .later }
def SpanBackCardSaid : Prop := Claim7.holds Tryd.pinned (.plain (OpenSpec.ofChange spanBackSpec)) spanBackCard

/-- THE TIED CARD OF 'remontoirlaw02.SpanSums'. -/
def spanSumsCard : Claim7 := { stood := { row := spanSumsRow, standIns := [], harness := (true, "624fe595e9775ae2fd17bc570637d57620c5b77e9ba011c6689e72cc7c353f03"), looks := true }, kinds := [], alts := [], laidByText := true, laidKinds := [.data, .data, .data, .sentinel, .sentinel], laidTests := true, laidLooks := .later }
def SpanSumsCardSaid : Prop := Claim7.holds Tryd.pinned (.plain (OpenSpec.ofChange spanSumsSpec)) spanSumsCard

/-- THE TIED CARD OF 'remontoirlaw02.SpanCuts'. -/
def spanCutsCard : Claim7 := { stood := { row := spanCutsRow, standIns := [], harness := (true, "624fe595e9775ae2fd17bc570637d57620c5b77e9ba011c6689e72cc7c353f03"), looks := true }, kinds := [], alts := [], laidByText := true, laidKinds := [.data, .data, .data, .sentinel, .sentinel], laidTests := true, laidLooks := .later }
def SpanCutsCardSaid : Prop := Claim7.holds Tryd.pinned (.plain (OpenSpec.ofChange spanCutsSpec)) spanCutsCard

/-- THE TIED CARD OF 'remontoirlaw02.SpanCalendar'. -/
def spanCalendarCard : Claim7 := { stood := { row := spanCalendarRow, standIns := [], harness := (true, "624fe595e9775ae2fd17bc570637d57620c5b77e9ba011c6689e72cc7c353f03"), looks := true }, kinds := [], alts := [], laidByText := true, laidKinds := [.data, .data, .data, .sentinel, .sentinel], laidTests := true, laidLooks := .later }
def SpanCalendarCardSaid : Prop := Claim7.holds Tryd.pinned (.plain (OpenSpec.ofChange spanCalendarSpec)) spanCalendarCard

/-- THE SECOND FORM's CARD OF 'remontoirlaw02.SpanParses'. -/
def spanParsesUptoCard : Claim7 := { stood := { row := spanParsesUptoRow, standIns := [], harness := (true, "624fe595e9775ae2fd17bc570637d57620c5b77e9ba011c6689e72cc7c353f03"), looks := true }, kinds := [], alts := [], laidByText := true, laidKinds := [.data, .data, .data, .sentinel, .sentinel], laidTests := true, laidLooks := .later }
def SpanParsesUptoCardSaid : Prop := Claim7.holds Tryd.pinned (.plain (OpenSpec.upto spanParsesSpec)) spanParsesUptoCard

/-- THE SECOND FORM's CARD OF 'remontoirlaw02.SpanPrints'. -/
def spanPrintsUptoCard : Claim7 := { stood := { row := spanPrintsUptoRow, standIns := [], harness := (true, "624fe595e9775ae2fd17bc570637d57620c5b77e9ba011c6689e72cc7c353f03"), looks := true }, kinds := [], alts := [], laidByText := true, laidKinds := [.data, .data, .data, .sentinel, .sentinel], laidTests := true, laidLooks := .later }
def SpanPrintsUptoCardSaid : Prop := Claim7.holds Tryd.pinned (.plain (OpenSpec.upto spanPrintsSpec)) spanPrintsUptoCard

/-- THE SECOND FORM's CARD OF 'remontoirlaw02.SpanBack'. -/
def spanBackUptoCard : Claim7 := { stood := { row := spanBackUptoRow, standIns := [], harness := (true, "624fe595e9775ae2fd17bc570637d57620c5b77e9ba011c6689e72cc7c353f03"), looks := true }, kinds := [], alts := [], laidByText := true, laidKinds := [.data, .data, .data, .sentinel, .sentinel], laidTests := true, laidLooks := .later }
def SpanBackUptoCardSaid : Prop := Claim7.holds Tryd.pinned (.plain (OpenSpec.upto spanBackSpec)) spanBackUptoCard

/-- THE SECOND FORM's CARD OF 'remontoirlaw02.SpanSums'. -/
def spanSumsUptoCard : Claim7 := { stood := { row := spanSumsUptoRow, standIns := [], harness := (true, "624fe595e9775ae2fd17bc570637d57620c5b77e9ba011c6689e72cc7c353f03"), looks := true }, kinds := [], alts := [], laidByText := true, laidKinds := [.data, .data, .data, .sentinel, .sentinel], laidTests := true, laidLooks := .later }
def SpanSumsUptoCardSaid : Prop := Claim7.holds Tryd.pinned (.plain (OpenSpec.upto spanSumsSpec)) spanSumsUptoCard

/-- THE SECOND FORM's CARD OF 'remontoirlaw02.SpanCuts'. -/
def spanCutsUptoCard : Claim7 := { stood := { row := spanCutsUptoRow, standIns := [], harness := (true, "624fe595e9775ae2fd17bc570637d57620c5b77e9ba011c6689e72cc7c353f03"), looks := true }, kinds := [], alts := [], laidByText := true, laidKinds := [.data, .data, .data, .sentinel, .sentinel], laidTests := true, laidLooks := .later }
def SpanCutsUptoCardSaid : Prop := Claim7.holds Tryd.pinned (.plain (OpenSpec.upto spanCutsSpec)) spanCutsUptoCard

/-- THE SECOND FORM's CARD OF 'remontoirlaw02.SpanCalendar'. -/
def spanCalendarUptoCard : Claim7 := { stood := { row := spanCalendarUptoRow, standIns := [], harness := (true, "624fe595e9775ae2fd17bc570637d57620c5b77e9ba011c6689e72cc7c353f03"), looks := true }, kinds := [], alts := [], laidByText := true, laidKinds := [.data, .data, .data, .sentinel, .sentinel], laidTests := true, laidLooks := .later }
def SpanCalendarUptoCardSaid : Prop := Claim7.holds Tryd.pinned (.plain (OpenSpec.upto spanCalendarSpec)) spanCalendarUptoCard
end Rows
end Go.Proofs.YtmjabkegnpinoaaDoor
