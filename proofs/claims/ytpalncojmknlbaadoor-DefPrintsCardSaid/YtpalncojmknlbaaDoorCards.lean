/-
  DERIVED. GIVEN WITH THE SEED: THE CARDS: each row of YtpalncojmknlbaaDoorRows.lean that lists a variable, with what it lists TIED to the program's text (the seventh form; the later family's looks); each row that meets fmt, with fmt's text TOLD by the authors' own Lean function (tested against real Go, not proved from fmt's source: count such statements apart). THE CARD IS WHAT COUNTS. Prove the row's statement (the work); the ties are given (YtpalncojmknlbaaDoorTie.lean); close each card by the builder's one call (the guide's Derived/Test/ToyasCard.lean, 'card_holds'). Laid BY PROGRAM, IN A SANDBOX (cutbox-door.mjs). By AI agents, Wed Nov 11 2026. No macro, syntax, notation, axiom, sorry.
-/
import Derived.Test.YtpalncojmknlbaaDoorRows
import GoSem.ClaimSeven
namespace Go.Proofs.YtpalncojmknlbaaDoor
namespace Rows

/-- THE TIED CARD OF 'remontoirlaw17.DefPrints'. -/
def defPrintsCard : Claim7 := { stood := { row := defPrintsRow, standIns := [], harness := (true, "9d600a1723bc6d342f5fe9d02ccb7124531e9353a5864dadc794b21aa57b0ea9"), looks := true }, kinds := [], alts := [], laidByText := true, laidKinds := [.data, .data, .data, .data, .sentinel, .sentinel, .pinned], laidTests := true, laidLooks := .later }
def DefPrintsCardSaid : Prop := Claim7.holds Tryd.pinned (.plain (OpenSpec.ofChange defPrintsSpec)) defPrintsCard

/-- THE TIED CARD OF 'remontoirlaw17.DefBack'. -/
def defBackCard : Claim7 := { stood := { row := defBackRow, standIns := [], harness := (true, "9d600a1723bc6d342f5fe9d02ccb7124531e9353a5864dadc794b21aa57b0ea9"), looks := true }, kinds := [], alts := [], laidByText := true, laidKinds := [.data, .data, .data, .data, .sentinel, .sentinel, .pinned], laidTests := true, laidLooks := .later }
def DefBackCardSaid : Prop := Claim7.holds Tryd.pinned (.plain (OpenSpec.ofChange defBackSpec)) defBackCard

/-- THE TIED CARD OF 'remontoirlaw17.DefCuts'. -/
def defCutsCard : Claim7 := { stood := { row := defCutsRow, standIns := [], harness := (true, "9d600a1723bc6d342f5fe9d02ccb7124531e9353a5864dadc794b21aa57b0ea9"), looks := true }, kinds := [], alts := [], laidByText := true, laidKinds := [.data, .data, .data, .data, .sentinel, .sentinel, .pinned], laidTests := true, laidLooks := .later }
def DefCutsCardSaid : Prop := Claim7.holds Tryd.pinned (.plain (OpenSpec.ofChange defCutsSpec)) defCutsCard

/-- THE TIED CARD OF 'remontoirlaw17.DefWrong'. -/
def defWrongCard : Claim7 := { stood := { row := defWrongRow, standIns := [], harness := (true, "9d600a1723bc6d342f5fe9d02ccb7124531e9353a5864dadc794b21aa57b0ea9"), looks := true }, kinds := [], alts := [], laidByText := true, laidKinds := [.data, .data, .data, .data, .sentinel, .sentinel, .pinned], laidTests := true, laidLooks := .later }
def DefWrongCardSaid : Prop := Claim7.holds Tryd.pinned (.plain (OpenSpec.ofChange defWrongSpec)) defWrongCard

/-- THE TIED CARD OF 'remontoirlaw17.DefMany'. -/
def defManyCard : Claim7 := { stood := { row := defManyRow, standIns := [], harness := (true, "9d600a1723bc6d342f5fe9d02ccb7124531e9353a5864dadc794b21aa57b0ea9"), looks := true }, kinds := [], alts := [], laidByText := true, laidKinds := [.data, .data, .data, .data, .sentinel, .sentinel, .pinned], laidTests := true, laidLooks := .later }
def DefManyCardSaid : Prop := Claim7.holds Tryd.pinned (.plain (OpenSpec.ofChange defManySpec)) defManyCard

/-- THE SECOND FORM's CARD OF 'remontoirlaw17.DefPrints'. -/
def defPrintsUptoCard : Claim7 := { stood := { row := defPrintsUptoRow, standIns := [], harness := (true, "9d600a1723bc6d342f5fe9d02ccb7124531e9353a5864dadc794b21aa57b0ea9"), looks := true }, kinds := [], alts := [], laidByText := true, laidKinds := [.data, .data, .data, .data, .sentinel, .sentinel, .pinned], laidTests := true, laidLooks := .later }
def DefPrintsUptoCardSaid : Prop := Claim7.holds Tryd.pinned (.plain (OpenSpec.upto defPrintsSpec)) defPrintsUptoCard

/-- THE SECOND FORM's CARD OF 'remontoirlaw17.DefBack'. -/
def defBackUptoCard : Claim7 := { stood := { row := defBackUptoRow, standIns := [], harness := (true, "9d600a1723bc6d342f5fe9d02ccb7124531e9353a5864dadc794b21aa57b0ea9"), looks := true }, kinds := [], alts := [], laidByText := true, laidKinds := [.data, .data, .data, .data, .sentinel, .sentinel, .pinned], laidTests := true, laidLooks := .later }
def DefBackUptoCardSaid : Prop := Claim7.holds Tryd.pinned (.plain (OpenSpec.upto defBackSpec)) defBackUptoCard

/-- THE SECOND FORM's CARD OF 'remontoirlaw17.DefCuts'. -/
def defCutsUptoCard : Claim7 := { stood := { row := defCutsUptoRow, standIns := [], harness := (true, "9d600a1723bc6d342f5fe9d02ccb7124531e9353a5864dadc794b21aa57b0ea9"), looks := true }, kinds := [], alts := [], laidByText := true, laidKinds := [.data, .data, .data, .data, .sentinel, .sentinel, .pinned], laidTests := true, laidLooks := .later }
def DefCutsUptoCardSaid : Prop := Claim7.holds Tryd.pinned (.plain (OpenSpec.upto defCutsSpec)) defCutsUptoCard

/-- THE SECOND FORM's CARD OF 'remontoirlaw17.DefWrong'. -/
def defWrongUptoCard : Claim7 := { stood := { row := defWrongUptoRow, standIns := [], harness := (true, "9d600a1723bc6d342f5fe9d02ccb7124531e9353a5864dadc794b21aa57b0ea9"), looks := true }, kinds := [], alts := [], laidByText := true, laidKinds := [.data, .data, .data, .data, .sentinel, .sentinel, .pinned], laidTests := true, laidLooks := .later }
def DefWrongUptoCardSaid : Prop := Claim7.holds Tryd.pinned (.plain (OpenSpec.upto defWrongSpec)) defWrongUptoCard

/-- THE SECOND FORM's CARD OF 'remontoirlaw17.DefMany'. -/
def defManyUptoCard : Claim7 := { stood := { row := defManyUptoRow, standIns := [], harness := (true, "9d600a1723bc6d342f5fe9d02ccb7124531e9353a5864dadc794b21aa57b0ea9"), looks := true }, kinds := [], alts := [], laidByText := true, laidKinds := [.data, .data, .data, .data, .sentinel, .sentinel, .pinned], laidTests := true, laidLooks := .later }
def DefManyUptoCardSaid : Prop := Claim7.holds Tryd.pinned (.plain (OpenSpec.upto defManySpec)) defManyUptoCard
end Rows
end Go.Proofs.YtpalncojmknlbaaDoor
