/-
  DERIVED. GIVEN WITH THE SEED: THE CARDS: each row of YtbicpbaciplfcaaGreatDoorRows.lean that lists a variable, with what it lists TIED to the program's text (the seventh form; the later family's looks); each row that meets fmt, with fmt's text TOLD by the authors' own Lean function (tested against real Go, not proved from fmt's source: count such statements apart). THE CARD IS WHAT COUNTS. Prove the row's statement (the work); the ties are given (YtbicpbaciplfcaaGreatDoorTie.lean); close each card by the builder's one call (the guide's Derived/Test/ToyasCard.lean, 'card_holds'). Laid BY PROGRAM, IN A SANDBOX (cutbox-door.mjs). By AI agents, Wed Nov 11 2026. No macro, syntax, notation, axiom, sorry.
-/
import Derived.Test.YtbicpbaciplfcaaGreatDoorRows
import GoSem.ClaimSeven
namespace Go.Proofs.YtbicpbaciplfcaaGreatDoor
namespace Rows

/-- THE TIED CARD OF 'surdlaw08.QqGrids'. -/
def qqGridsCard : Claim7 := { stood := { row := qqGridsRow, standIns := [], harness := (true, "66877c179e8a0d1e1281c8c046831505123b8948cab5e05f07d952d6f296c3a9"), looks := false }, kinds := [], alts := [], laidByText := true, laidKinds := [.data, .widerDeep], laidTests := true, laidLooks := .later }
def QqGridsCardSaid : Prop := Claim7.holds Tryz.pinned (.plain (OpenSpec.ofChange qqGridsSpec)) qqGridsCard

/-- THE SECOND FORM's CARD OF 'surdlaw08.QqGrids'. -/
def qqGridsUptoCard : Claim7 := { stood := { row := qqGridsUptoRow, standIns := [], harness := (true, "66877c179e8a0d1e1281c8c046831505123b8948cab5e05f07d952d6f296c3a9"), looks := false }, kinds := [], alts := [], laidByText := true, laidKinds := [.data, .widerDeep], laidTests := true, laidLooks := .later }
def QqGridsUptoCardSaid : Prop := Claim7.holds Tryz.pinned (.plain (OpenSpec.upto qqGridsSpec)) qqGridsUptoCard
end Rows
end Go.Proofs.YtbicpbaciplfcaaGreatDoor
