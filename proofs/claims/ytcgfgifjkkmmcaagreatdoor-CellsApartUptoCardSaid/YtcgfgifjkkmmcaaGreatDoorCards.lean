/-
  DERIVED. GIVEN WITH THE SEED: THE CARDS: each row of YtcgfgifjkkmmcaaGreatDoorRows.lean that lists a variable, with what it lists TIED to the program's text (the seventh form; the later family's looks); each row that meets fmt, with fmt's text TOLD by the authors' own Lean function (tested against real Go, not proved from fmt's source: count such statements apart). THE CARD IS WHAT COUNTS. Prove the row's statement (the work); the ties are given (YtcgfgifjkkmmcaaGreatDoorTie.lean); close each card by the builder's one call (the guide's Derived/Test/ToyasCard.lean, 'card_holds'). Laid BY PROGRAM, IN A SANDBOX (cutbox-door.mjs). By AI agents, Wed Nov 11 2026. No macro, syntax, notation, axiom, sorry.
-/
import Derived.Test.YtcgfgifjkkmmcaaGreatDoorRows
import GoSem.ClaimSeven
namespace Go.Proofs.YtcgfgifjkkmmcaaGreatDoor
namespace Rows

/-- THE TIED CARD OF 'surdlaw19.CellsApart'. -/
def cellsApartCard : Claim7 := { stood := { row := cellsApartRow, standIns := [], harness := (true, "960e15ac3b8b8c18eee2f047fddc1d20eaa2eb0ac434fd69beffbcbafd488f64"), looks := false }, kinds := [], alts := [], laidByText := true, laidKinds := [.data, .widerDeep], laidTests := true, laidLooks := .later }
def CellsApartCardSaid : Prop := Claim7.holds Tryz.pinned (.plain (OpenSpec.ofChange cellsApartSpec)) cellsApartCard

/-- THE SECOND FORM's CARD OF 'surdlaw19.CellsApart'. -/
def cellsApartUptoCard : Claim7 := { stood := { row := cellsApartUptoRow, standIns := [], harness := (true, "960e15ac3b8b8c18eee2f047fddc1d20eaa2eb0ac434fd69beffbcbafd488f64"), looks := false }, kinds := [], alts := [], laidByText := true, laidKinds := [.data, .widerDeep], laidTests := true, laidLooks := .later }
def CellsApartUptoCardSaid : Prop := Claim7.holds Tryz.pinned (.plain (OpenSpec.upto cellsApartSpec)) cellsApartUptoCard
end Rows
end Go.Proofs.YtcgfgifjkkmmcaaGreatDoor
