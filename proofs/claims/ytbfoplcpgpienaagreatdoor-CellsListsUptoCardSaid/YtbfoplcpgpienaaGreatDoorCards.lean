/-
  DERIVED. GIVEN WITH THE SEED: THE CARDS: each row of YtbfoplcpgpienaaGreatDoorRows.lean that lists a variable, with what it lists TIED to the program's text (the seventh form; the later family's looks); each row that meets fmt, with fmt's text TOLD by the authors' own Lean function (tested against real Go, not proved from fmt's source: count such statements apart). THE CARD IS WHAT COUNTS. Prove the row's statement (the work); the ties are given (YtbfoplcpgpienaaGreatDoorTie.lean); close each card by the builder's one call (the guide's Derived/Test/ToyasCard.lean, 'card_holds'). Laid BY PROGRAM, IN A SANDBOX (cutbox-door.mjs). By AI agents, Wed Nov 11 2026. No macro, syntax, notation, axiom, sorry.
-/
import Derived.Test.YtbfoplcpgpienaaGreatDoorRows
import GoSem.ClaimSeven
namespace Go.Proofs.YtbfoplcpgpienaaGreatDoor
namespace Rows

/-- THE TIED CARD OF 'surdlaw19.CellsForms'. -/
def cellsFormsCard : Claim7 := { stood := { row := cellsFormsRow, standIns := [], harness := (true, "527e9116ec994a699b1aa75dd9818e77fc66c1688f0640b37f0f935f52e82a19"), looks := false }, kinds := [], alts := [], laidByText := true, laidKinds := [.widerDeep], laidTests := true, laidLooks := .later }
def CellsFormsCardSaid : Prop := Claim7.holds Tryz.pinned (.plain (OpenSpec.ofChange cellsFormsSpec)) cellsFormsCard

/-- THE TIED CARD OF 'surdlaw19.CellsTwo'. -/
def cellsTwoCard : Claim7 := { stood := { row := cellsTwoRow, standIns := [], harness := (true, "527e9116ec994a699b1aa75dd9818e77fc66c1688f0640b37f0f935f52e82a19"), looks := false }, kinds := [], alts := [], laidByText := true, laidKinds := [.widerDeep], laidTests := true, laidLooks := .later }
def CellsTwoCardSaid : Prop := Claim7.holds Tryz.pinned (.plain (OpenSpec.ofChange cellsTwoSpec)) cellsTwoCard

/-- THE TIED CARD OF 'surdlaw19.CellsWidth'. -/
def cellsWidthCard : Claim7 := { stood := { row := cellsWidthRow, standIns := [], harness := (true, "527e9116ec994a699b1aa75dd9818e77fc66c1688f0640b37f0f935f52e82a19"), looks := false }, kinds := [], alts := [], laidByText := true, laidKinds := [.widerDeep], laidTests := true, laidLooks := .later }
def CellsWidthCardSaid : Prop := Claim7.holds Tryz.pinned (.plain (OpenSpec.ofChange cellsWidthSpec)) cellsWidthCard

/-- THE TIED CARD OF 'surdlaw19.CellsLists'. -/
def cellsListsCard : Claim7 := { stood := { row := cellsListsRow, standIns := [], harness := (true, "527e9116ec994a699b1aa75dd9818e77fc66c1688f0640b37f0f935f52e82a19"), looks := false }, kinds := [], alts := [], laidByText := true, laidKinds := [.widerDeep], laidTests := true, laidLooks := .later }
def CellsListsCardSaid : Prop := Claim7.holds Tryz.pinned (.plain (OpenSpec.ofChange cellsListsSpec)) cellsListsCard

/-- THE TIED CARD OF 'surdlaw19.CellsGrid'. -/
def cellsGridCard : Claim7 := { stood := { row := cellsGridRow, standIns := [], harness := (true, "527e9116ec994a699b1aa75dd9818e77fc66c1688f0640b37f0f935f52e82a19"), looks := false }, kinds := [], alts := [], laidByText := true, laidKinds := [.data, .widerDeep], laidTests := true, laidLooks := .later }
def CellsGridCardSaid : Prop := Claim7.holds Tryz.pinned (.plain (OpenSpec.ofChange cellsGridSpec)) cellsGridCard

/-- THE TIED CARD OF 'surdlaw19.CellsNumbers'. -/
def cellsNumbersCard : Claim7 := { stood := { row := cellsNumbersRow, standIns := [], harness := (true, "527e9116ec994a699b1aa75dd9818e77fc66c1688f0640b37f0f935f52e82a19"), looks := false }, kinds := [], alts := [], laidByText := true, laidKinds := [.data, .widerDeep], laidTests := true, laidLooks := .later }
def CellsNumbersCardSaid : Prop := Claim7.holds Tryz.pinned (.plain (OpenSpec.ofChange cellsNumbersSpec)) cellsNumbersCard

/-- THE TIED CARD OF 'surdlaw19.CellsHalves'. -/
def cellsHalvesCard : Claim7 := { stood := { row := cellsHalvesRow, standIns := [], harness := (true, "527e9116ec994a699b1aa75dd9818e77fc66c1688f0640b37f0f935f52e82a19"), looks := false }, kinds := [], alts := [], laidByText := true, laidKinds := [.data, .widerDeep], laidTests := true, laidLooks := .later }
def CellsHalvesCardSaid : Prop := Claim7.holds Tryz.pinned (.plain (OpenSpec.ofChange cellsHalvesSpec)) cellsHalvesCard

/-- THE SECOND FORM's CARD OF 'surdlaw19.CellsForms'. -/
def cellsFormsUptoCard : Claim7 := { stood := { row := cellsFormsUptoRow, standIns := [], harness := (true, "527e9116ec994a699b1aa75dd9818e77fc66c1688f0640b37f0f935f52e82a19"), looks := false }, kinds := [], alts := [], laidByText := true, laidKinds := [.widerDeep], laidTests := true, laidLooks := .later }
def CellsFormsUptoCardSaid : Prop := Claim7.holds Tryz.pinned (.plain (OpenSpec.upto cellsFormsSpec)) cellsFormsUptoCard

/-- THE SECOND FORM's CARD OF 'surdlaw19.CellsTwo'. -/
def cellsTwoUptoCard : Claim7 := { stood := { row := cellsTwoUptoRow, standIns := [], harness := (true, "527e9116ec994a699b1aa75dd9818e77fc66c1688f0640b37f0f935f52e82a19"), looks := false }, kinds := [], alts := [], laidByText := true, laidKinds := [.widerDeep], laidTests := true, laidLooks := .later }
def CellsTwoUptoCardSaid : Prop := Claim7.holds Tryz.pinned (.plain (OpenSpec.upto cellsTwoSpec)) cellsTwoUptoCard

/-- THE SECOND FORM's CARD OF 'surdlaw19.CellsWidth'. -/
def cellsWidthUptoCard : Claim7 := { stood := { row := cellsWidthUptoRow, standIns := [], harness := (true, "527e9116ec994a699b1aa75dd9818e77fc66c1688f0640b37f0f935f52e82a19"), looks := false }, kinds := [], alts := [], laidByText := true, laidKinds := [.widerDeep], laidTests := true, laidLooks := .later }
def CellsWidthUptoCardSaid : Prop := Claim7.holds Tryz.pinned (.plain (OpenSpec.upto cellsWidthSpec)) cellsWidthUptoCard

/-- THE SECOND FORM's CARD OF 'surdlaw19.CellsLists'. -/
def cellsListsUptoCard : Claim7 := { stood := { row := cellsListsUptoRow, standIns := [], harness := (true, "527e9116ec994a699b1aa75dd9818e77fc66c1688f0640b37f0f935f52e82a19"), looks := false }, kinds := [], alts := [], laidByText := true, laidKinds := [.widerDeep], laidTests := true, laidLooks := .later }
def CellsListsUptoCardSaid : Prop := Claim7.holds Tryz.pinned (.plain (OpenSpec.upto cellsListsSpec)) cellsListsUptoCard

/-- THE SECOND FORM's CARD OF 'surdlaw19.CellsGrid'. -/
def cellsGridUptoCard : Claim7 := { stood := { row := cellsGridUptoRow, standIns := [], harness := (true, "527e9116ec994a699b1aa75dd9818e77fc66c1688f0640b37f0f935f52e82a19"), looks := false }, kinds := [], alts := [], laidByText := true, laidKinds := [.data, .widerDeep], laidTests := true, laidLooks := .later }
def CellsGridUptoCardSaid : Prop := Claim7.holds Tryz.pinned (.plain (OpenSpec.upto cellsGridSpec)) cellsGridUptoCard

/-- THE SECOND FORM's CARD OF 'surdlaw19.CellsNumbers'. -/
def cellsNumbersUptoCard : Claim7 := { stood := { row := cellsNumbersUptoRow, standIns := [], harness := (true, "527e9116ec994a699b1aa75dd9818e77fc66c1688f0640b37f0f935f52e82a19"), looks := false }, kinds := [], alts := [], laidByText := true, laidKinds := [.data, .widerDeep], laidTests := true, laidLooks := .later }
def CellsNumbersUptoCardSaid : Prop := Claim7.holds Tryz.pinned (.plain (OpenSpec.upto cellsNumbersSpec)) cellsNumbersUptoCard

/-- THE SECOND FORM's CARD OF 'surdlaw19.CellsHalves'. -/
def cellsHalvesUptoCard : Claim7 := { stood := { row := cellsHalvesUptoRow, standIns := [], harness := (true, "527e9116ec994a699b1aa75dd9818e77fc66c1688f0640b37f0f935f52e82a19"), looks := false }, kinds := [], alts := [], laidByText := true, laidKinds := [.data, .widerDeep], laidTests := true, laidLooks := .later }
def CellsHalvesUptoCardSaid : Prop := Claim7.holds Tryz.pinned (.plain (OpenSpec.upto cellsHalvesSpec)) cellsHalvesUptoCard
end Rows
end Go.Proofs.YtbfoplcpgpienaaGreatDoor
