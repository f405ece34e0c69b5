/-
  DERIVED. GIVEN WITH THE SEED: THE CARDS: each row of YtfcpigjmagbnkaaGreatDoorRows.lean that lists a variable, with what it lists TIED to the program's text (the seventh form; the later family's looks); each row that meets fmt, with fmt's text TOLD by the authors' own Lean function (tested against real Go, not proved from fmt's source: count such statements apart). THE CARD IS WHAT COUNTS. Prove the row's statement (the work); the ties are given (YtfcpigjmagbnkaaGreatDoorTie.lean); close each card by the builder's one call (the guide's Derived/Test/ToyasCard.lean, 'card_holds'). Laid BY PROGRAM, IN A SANDBOX (cutbox-door.mjs). By AI agents, Wed Nov 11 2026. No macro, syntax, notation, axiom, sorry.
-/
import Derived.Test.YtfcpigjmagbnkaaGreatDoorRows
import GoSem.ClaimSeven
namespace Go.Proofs.YtfcpigjmagbnkaaGreatDoor
namespace Rows

/-- THE TIED CARD OF 'surdlaw19.CellsWidth'. -/
def cellsWidthCard : Claim7 := { stood := { row := cellsWidthRow, standIns := [], harness := (true, "ff327bdc94eab9f6096d7166cb00d03f13cd1d36a11e6e488fd83e69b9e6c784"), looks := false }, kinds := [], alts := [], laidByText := true, laidKinds := [.widerDeep], laidTests := true, laidLooks := .later }
def CellsWidthCardSaid : Prop := Claim7.holds Tryz.pinned (.plain (OpenSpec.ofChange cellsWidthSpec)) cellsWidthCard

/-- THE TIED CARD OF 'surdlaw19.CellsGrid'. -/
def cellsGridCard : Claim7 := { stood := { row := cellsGridRow, standIns := [], harness := (true, "ff327bdc94eab9f6096d7166cb00d03f13cd1d36a11e6e488fd83e69b9e6c784"), looks := false }, kinds := [], alts := [], laidByText := true, laidKinds := [.data, .widerDeep], laidTests := true, laidLooks := .later }
def CellsGridCardSaid : Prop := Claim7.holds Tryz.pinned (.plain (OpenSpec.ofChange cellsGridSpec)) cellsGridCard

/-- THE TIED CARD OF 'surdlaw19.CellsNumbers'. -/
def cellsNumbersCard : Claim7 := { stood := { row := cellsNumbersRow, standIns := [], harness := (true, "ff327bdc94eab9f6096d7166cb00d03f13cd1d36a11e6e488fd83e69b9e6c784"), looks := false }, kinds := [], alts := [], laidByText := true, laidKinds := [.data, .widerDeep], laidTests := true, laidLooks := .later }
def CellsNumbersCardSaid : Prop := Claim7.holds Tryz.pinned (.plain (OpenSpec.ofChange cellsNumbersSpec)) cellsNumbersCard

/-- THE TIED CARD OF 'surdlaw19.CellsHalves'. -/
def cellsHalvesCard : Claim7 := { stood := { row := cellsHalvesRow, standIns := [], harness := (true, "ff327bdc94eab9f6096d7166cb00d03f13cd1d36a11e6e488fd83e69b9e6c784"), looks := false }, kinds := [], alts := [], laidByText := true, laidKinds := [.data, .widerDeep], laidTests := true, laidLooks := .later }
def CellsHalvesCardSaid : Prop := Claim7.holds Tryz.pinned (.plain (OpenSpec.ofChange cellsHalvesSpec)) cellsHalvesCard

/-- THE SECOND FORM's CARD OF 'surdlaw19.CellsWidth'. -/
def cellsWidthUptoCard : Claim7 := { stood := { row := cellsWidthUptoRow, standIns := [], harness := (true, "ff327bdc94eab9f6096d7166cb00d03f13cd1d36a11e6e488fd83e69b9e6c784"), looks := false }, kinds := [], alts := [], laidByText := true, laidKinds := [.widerDeep], laidTests := true, laidLooks := .later }
def CellsWidthUptoCardSaid : Prop := Claim7.holds Tryz.pinned (.plain (OpenSpec.upto cellsWidthSpec)) cellsWidthUptoCard

/-- THE SECOND FORM's CARD OF 'surdlaw19.CellsGrid'. -/
def cellsGridUptoCard : Claim7 := { stood := { row := cellsGridUptoRow, standIns := [], harness := (true, "ff327bdc94eab9f6096d7166cb00d03f13cd1d36a11e6e488fd83e69b9e6c784"), looks := false }, kinds := [], alts := [], laidByText := true, laidKinds := [.data, .widerDeep], laidTests := true, laidLooks := .later }
def CellsGridUptoCardSaid : Prop := Claim7.holds Tryz.pinned (.plain (OpenSpec.upto cellsGridSpec)) cellsGridUptoCard

/-- THE SECOND FORM's CARD OF 'surdlaw19.CellsNumbers'. -/
def cellsNumbersUptoCard : Claim7 := { stood := { row := cellsNumbersUptoRow, standIns := [], harness := (true, "ff327bdc94eab9f6096d7166cb00d03f13cd1d36a11e6e488fd83e69b9e6c784"), looks := false }, kinds := [], alts := [], laidByText := true, laidKinds := [.data, .widerDeep], laidTests := true, laidLooks := .later }
def CellsNumbersUptoCardSaid : Prop := Claim7.holds Tryz.pinned (.plain (OpenSpec.upto cellsNumbersSpec)) cellsNumbersUptoCard

/-- THE SECOND FORM's CARD OF 'surdlaw19.CellsHalves'. -/
def cellsHalvesUptoCard : Claim7 := { stood := { row := cellsHalvesUptoRow, standIns := [], harness := (true, "ff327bdc94eab9f6096d7166cb00d03f13cd1d36a11e6e488fd83e69b9e6c784"), looks := false }, kinds := [], alts := [], laidByText := true, laidKinds := [.data, .widerDeep], laidTests := true, laidLooks := .later }
def CellsHalvesUptoCardSaid : Prop := Claim7.holds Tryz.pinned (.plain (OpenSpec.upto cellsHalvesSpec)) cellsHalvesUptoCard
end Rows
end Go.Proofs.YtfcpigjmagbnkaaGreatDoor
