/-
  DERIVED. GIVEN WITH THE SEED: THE CARDS: each row of YtjkdibkgmfnkdaaDoorRows.lean that lists a variable, with what it lists TIED to the program's text (the seventh form; the later family's looks); each row that meets fmt, with fmt's text TOLD by the authors' own Lean function (tested against real Go, not proved from fmt's source: count such statements apart). THE CARD IS WHAT COUNTS. Prove the row's statement (the work); the ties are given (YtjkdibkgmfnkdaaDoorTie.lean); close each card by the builder's one call (the guide's Derived/Test/ToyasCard.lean, 'card_holds'). Laid BY PROGRAM, IN A SANDBOX (cutbox-door.mjs). By AI agents, Wed Nov 11 2026. No macro, syntax, notation, axiom, sorry.
-/
import Derived.Test.YtjkdibkgmfnkdaaDoorRows
import GoSem.ClaimSeven
namespace Go.Proofs.YtjkdibkgmfnkdaaDoor
namespace Rows

/-- THE TIED CARD OF 'remontoirlaw03.CycleParses'. -/
def cycleParsesCard : Claim7 := { stood := { row := cycleParsesRow, standIns := [], harness := (true, "d44eee58f56be7f0b3bd50dbc7e8421de66d4e25ef9fdfadd80996f8772204c4"), looks := true }, kinds := [], alts := [], laidByText := true, laidKinds := [.data, .data, .data, .sentinel, .sentinel], laidTests := true, laidLooks := .later }
def CycleParsesCardSaid : Prop := Claim7.holds Tryd.pinned (.plain (OpenSpec.ofChange cycleParsesSpec)) cycleParsesCard

/-- THE TIED CARD OF 'remontoirlaw03.CycleRounds'. -/
def cycleRoundsCard : Claim7 := { stood := { row := cycleRoundsRow, standIns := [], harness := (true, "d44eee58f56be7f0b3bd50dbc7e8421de66d4e25ef9fdfadd80996f8772204c4"), looks := true }, kinds := [], alts := [], laidByText := true, laidKinds := [.data, .data, .data, .sentinel, .sentinel], laidTests := true, laidLooks := .later }
def CycleRoundsCardSaid : Prop := Claim7.holds Tryd.pinned (.plain (OpenSpec.ofChange cycleRoundsSpec)) cycleRoundsCard

/-- THE TIED CARD OF 'remontoirlaw03.CycleErrors'. -/
def cycleErrorsCard : Claim7 := { stood := { row := cycleErrorsRow, standIns := [], harness := (true, "d44eee58f56be7f0b3bd50dbc7e8421de66d4e25ef9fdfadd80996f8772204c4"), looks := true }, kinds := [], alts := [], laidByText := true, laidKinds := [.data, .data, .data, .sentinel, .sentinel], laidTests := true, laidLooks := .later }
def CycleErrorsCardSaid : Prop := Claim7.holds Tryd.pinned (.plain (OpenSpec.ofChange cycleErrorsSpec)) cycleErrorsCard

/-- THE TIED CARD OF 'remontoirlaw03.CycleTimes'. -/
def cycleTimesCard : Claim7 := { stood := { row := cycleTimesRow, standIns := [], harness := (true, "d44eee58f56be7f0b3bd50dbc7e8421de66d4e25ef9fdfadd80996f8772204c4"), looks := true }, kinds := [], alts := [], laidByText := true, laidKinds := [.data, .data, .data, .sentinel, .sentinel], laidTests := true, laidLooks := .later }
def CycleTimesCardSaid : Prop := Claim7.holds Tryd.pinned (.plain (OpenSpec.ofChange cycleTimesSpec)) cycleTimesCard

/-- THE TIED CARD OF 'remontoirlaw03.CycleBack'. -/
def cycleBackCard : Claim7 := { stood := { row := cycleBackRow, standIns := [], harness := (true, "d44eee58f56be7f0b3bd50dbc7e8421de66d4e25ef9fdfadd80996f8772204c4"), looks := true }, kinds := [], alts := [], laidByText := true, laidKinds := [.data, .data, .data, .sentinel, .sentinel], laidTests := true, laidLooks := .later }
def CycleBackCardSaid : Prop := Claim7.holds Tryd.pinned (.plain (OpenSpec.ofChange cycleBackSpec)) cycleBackCard

/-- THE SECOND FORM's CARD OF 'remontoirlaw03.CycleParses'. -/
def cycleParsesUptoCard : Claim7 := { stood := { row := cycleParsesUptoRow, standIns := [], harness := (true, "d44eee58f56be7f0b3bd50dbc7e8421de66d4e25ef9fdfadd80996f8772204c4"), looks := true }, kinds := [], alts := [], laidByText := true, laidKinds := [.data, .data, .data, .sentinel, .sentinel], laidTests := true, laidLooks := .later }
def CycleParsesUptoCardSaid : Prop := Claim7.holds Tryd.pinned (.plain (OpenSpec.upto cycleParsesSpec)) cycleParsesUptoCard

/-- THE SECOND FORM's CARD OF 'remontoirlaw03.CycleRounds'. -/
def cycleRoundsUptoCard : Claim7 := { stood := { row := cycleRoundsUptoRow, standIns := [], harness := (true, "d44eee58f56be7f0b3bd50dbc7e8421de66d4e25ef9fdfadd80996f8772204c4"), looks := true }, kinds := [], alts := [], laidByText := true, laidKinds := [.data, .data, .data, .sentinel, .sentinel], laidTests := true, laidLooks := .later }
def CycleRoundsUptoCardSaid : Prop := Claim7.holds Tryd.pinned (.plain (OpenSpec.upto cycleRoundsSpec)) cycleRoundsUptoCard

/-- THE SECOND FORM's CARD OF 'remontoirlaw03.CycleErrors'. -/
def cycleErrorsUptoCard : Claim7 := { stood := { row := cycleErrorsUptoRow, standIns := [], harness := (true, "d44eee58f56be7f0b3bd50dbc7e8421de66d4e25ef9fdfadd80996f8772204c4"), looks := true }, kinds := [], alts := [], laidByText := true, laidKinds := [.data, .data, .data, .sentinel, .sentinel], laidTests := true, laidLooks := .later }
def CycleErrorsUptoCardSaid : Prop := Claim7.holds Tryd.pinned (.plain (OpenSpec.upto cycleErrorsSpec)) cycleErrorsUptoCard

/-- THE SECOND FORM's CARD OF 'remontoirlaw03.CycleTimes'. -/
def cycleTimesUptoCard : Claim7 := { stood := { row := cycleTimesUptoRow, standIns := [], harness := (true, "d44eee58f56be7f0b3bd50dbc7e8421de66d4e25ef9fdfadd80996f8772204c4"), looks := true }, kinds := [], alts := [], laidByText := true, laidKinds := [.data, .data, .data, .sentinel, .sentinel], laidTests := true, laidLooks := .later }
def CycleTimesUptoCardSaid : Prop := Claim7.holds Tryd.pinned (.plain (OpenSpec.upto cycleTimesSpec)) cycleTimesUptoCard

/-- THE SECOND FORM's CARD OF 'remontoirlaw03.CycleBack'. -/
def cycleBackUptoCard : Claim7 := { stood := { row := cycleBackUptoRow, standIns := [], harness := (true, "d44eee58f56be7f0b3bd50dbc7e8421de66d4e25ef9fdfadd80996f8772204c4"), looks := true }, kinds := [], alts := [], laidByText := true, laidKinds := [.data, .data, .data, .sentinel, .sentinel], laidTests := true, laidLooks := .later }
def CycleBackUptoCardSaid : Prop := Claim7.holds Tryd.pinned (.plain (OpenSpec.upto cycleBackSpec)) cycleBackUptoCard
end Rows
end Go.Proofs.YtjkdibkgmfnkdaaDoor
