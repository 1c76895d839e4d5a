/-
  DERIVED. GIVEN WITH THE SEED: THE CARDS: each row of YtcaegaljhogbjaaGreatDoorRows.lean that lists a variable, with what it lists TIED to the program's text (the seventh form; the later family's looks); each row that meets fmt, with fmt's text TOLD by the authors' own Lean function (tested against real Go, not proved from fmt's source: count such statements apart). THE CARD IS WHAT COUNTS. Prove the row's statement (the work); the ties are given (YtcaegaljhogbjaaGreatDoorTie.lean); close each card by the builder's one call (the guide's Derived/Test/ToyasCard.lean, 'card_holds'). Laid BY PROGRAM, IN A SANDBOX (cutbox-door.mjs). By AI agents, Wed Nov 11 2026. No macro, syntax, notation, axiom, sorry.
-/
import Derived.Test.YtcaegaljhogbjaaGreatDoorRows
import GoSem.ClaimSeven
namespace Go.Proofs.YtcaegaljhogbjaaGreatDoor
namespace Rows

/-- THE TIED CARD OF 'remontoirlaw18.GraphChecks'. -/
def graphChecksCard : Claim7 := { stood := { row := graphChecksRow, standIns := [], harness := (true, "64f70dfcf8207f2dafa7a0918457ec6fbb708d36acb1b408bf464b4cb6728831"), looks := true }, kinds := [], alts := [], laidByText := true, laidKinds := [.data, .data, .data, .data, .sentinel, .sentinel, .sentinel, .pinned], laidTests := true, laidLooks := .later }
def GraphChecksCardSaid : Prop := Claim7.holds Tryz.pinned (.plain (OpenSpec.ofChange graphChecksSpec)) graphChecksCard

/-- THE TIED CARD OF 'remontoirlaw18.GraphWrong'. -/
def graphWrongCard : Claim7 := { stood := { row := graphWrongRow, standIns := [], harness := (true, "64f70dfcf8207f2dafa7a0918457ec6fbb708d36acb1b408bf464b4cb6728831"), looks := true }, kinds := [], alts := [], laidByText := true, laidKinds := [.data, .data, .data, .data, .sentinel, .sentinel, .sentinel, .pinned], laidTests := true, laidLooks := .later }
def GraphWrongCardSaid : Prop := Claim7.holds Tryz.pinned (.plain (OpenSpec.ofChange graphWrongSpec)) graphWrongCard

/-- THE TIED CARD OF 'remontoirlaw18.GraphLacks'. -/
def graphLacksCard : Claim7 := { stood := { row := graphLacksRow, standIns := [], harness := (true, "64f70dfcf8207f2dafa7a0918457ec6fbb708d36acb1b408bf464b4cb6728831"), looks := true }, kinds := [], alts := [], laidByText := true, laidKinds := [.data, .data, .data, .data, .sentinel, .sentinel, .sentinel, .pinned], laidTests := true, laidLooks := .later }
def GraphLacksCardSaid : Prop := Claim7.holds Tryz.pinned (.plain (OpenSpec.ofChange graphLacksSpec)) graphLacksCard

/-- THE TIED CARD OF 'remontoirlaw18.GraphFlows'. -/
def graphFlowsCard : Claim7 := { stood := { row := graphFlowsRow, standIns := [], harness := (true, "64f70dfcf8207f2dafa7a0918457ec6fbb708d36acb1b408bf464b4cb6728831"), looks := true }, kinds := [], alts := [], laidByText := true, laidKinds := [.data, .data, .data, .data, .sentinel, .sentinel, .sentinel, .pinned], laidTests := true, laidLooks := .later }
def GraphFlowsCardSaid : Prop := Claim7.holds Tryz.pinned (.plain (OpenSpec.ofChange graphFlowsSpec)) graphFlowsCard

/-- THE SECOND FORM's CARD OF 'remontoirlaw18.GraphChecks'. -/
def graphChecksUptoCard : Claim7 := { stood := { row := graphChecksUptoRow, standIns := [], harness := (true, "64f70dfcf8207f2dafa7a0918457ec6fbb708d36acb1b408bf464b4cb6728831"), looks := true }, kinds := [], alts := [], laidByText := true, laidKinds := [.data, .data, .data, .data, .sentinel, .sentinel, .sentinel, .pinned], laidTests := true, laidLooks := .later }
def GraphChecksUptoCardSaid : Prop := Claim7.holds Tryz.pinned (.plain (OpenSpec.upto graphChecksSpec)) graphChecksUptoCard

/-- THE SECOND FORM's CARD OF 'remontoirlaw18.GraphWrong'. -/
def graphWrongUptoCard : Claim7 := { stood := { row := graphWrongUptoRow, standIns := [], harness := (true, "64f70dfcf8207f2dafa7a0918457ec6fbb708d36acb1b408bf464b4cb6728831"), looks := true }, kinds := [], alts := [], laidByText := true, laidKinds := [.data, .data, .data, .data, .sentinel, .sentinel, .sentinel, .pinned], laidTests := true, laidLooks := .later }
def GraphWrongUptoCardSaid : Prop := Claim7.holds Tryz.pinned (.plain (OpenSpec.upto graphWrongSpec)) graphWrongUptoCard

/-- THE SECOND FORM's CARD OF 'remontoirlaw18.GraphLacks'. -/
def graphLacksUptoCard : Claim7 := { stood := { row := graphLacksUptoRow, standIns := [], harness := (true, "64f70dfcf8207f2dafa7a0918457ec6fbb708d36acb1b408bf464b4cb6728831"), looks := true }, kinds := [], alts := [], laidByText := true, laidKinds := [.data, .data, .data, .data, .sentinel, .sentinel, .sentinel, .pinned], laidTests := true, laidLooks := .later }
def GraphLacksUptoCardSaid : Prop := Claim7.holds Tryz.pinned (.plain (OpenSpec.upto graphLacksSpec)) graphLacksUptoCard

/-- THE SECOND FORM's CARD OF 'remontoirlaw18.GraphFlows'. -/
def graphFlowsUptoCard : Claim7 := { stood := { row := graphFlowsUptoRow, standIns := [], harness := (true, "64f70dfcf8207f2dafa7a0918457ec6fbb708d36acb1b408bf464b4cb6728831"), looks := true }, kinds := [], alts := [], laidByText := true, laidKinds := [.data, .data, .data, .data, .sentinel, .sentinel, .sentinel, .pinned], laidTests := true, laidLooks := .later }
def GraphFlowsUptoCardSaid : Prop := Claim7.holds Tryz.pinned (.plain (OpenSpec.upto graphFlowsSpec)) graphFlowsUptoCard
end Rows
end Go.Proofs.YtcaegaljhogbjaaGreatDoor
