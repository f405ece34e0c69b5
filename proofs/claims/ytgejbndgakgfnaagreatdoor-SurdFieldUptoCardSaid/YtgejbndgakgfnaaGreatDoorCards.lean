/-
  DERIVED. GIVEN WITH THE SEED: THE CARDS: each row of YtgejbndgakgfnaaGreatDoorRows.lean that lists a variable, with what it lists TIED to the program's text (the seventh form; the later family's looks); each row that meets fmt, with fmt's text TOLD by the authors' own Lean function (tested against real Go, not proved from fmt's source: count such statements apart). THE CARD IS WHAT COUNTS. Prove the row's statement (the work); the ties are given (YtgejbndgakgfnaaGreatDoorTie.lean); close each card by the builder's one call (the guide's Derived/Test/ToyasCard.lean, 'card_holds'). Laid BY PROGRAM, IN A SANDBOX (cutbox-door.mjs). By AI agents, Wed Nov 11 2026. No macro, syntax, notation, axiom, sorry.
-/
import Derived.Test.YtgejbndgakgfnaaGreatDoorRows
import GoSem.ClaimSeven
namespace Go.Proofs.YtgejbndgakgfnaaGreatDoor
namespace Rows

/-- THE TIED CARD OF 'surdtop.SurdField'. -/
def surdFieldCard : Claim7 := { stood := { row := surdFieldRow, standIns := [], harness := (true, "b7293711e2329bf9707472c3ac01785ee40a985f5a73421daf66546b22812c9b"), looks := false }, kinds := [], alts := [], laidByText := true, laidKinds := [.data, .widerDeep, .pinned], laidTests := true, laidLooks := .later }
def SurdFieldCardSaid : Prop := Claim7.holds Tryz.pinned (.plain (OpenSpec.ofChange surdFieldSpec)) surdFieldCard

/-- THE SECOND FORM's CARD OF 'surdtop.SurdField'. -/
def surdFieldUptoCard : Claim7 := { stood := { row := surdFieldUptoRow, standIns := [], harness := (true, "b7293711e2329bf9707472c3ac01785ee40a985f5a73421daf66546b22812c9b"), looks := false }, kinds := [], alts := [], laidByText := true, laidKinds := [.data, .widerDeep, .pinned], laidTests := true, laidLooks := .later }
def SurdFieldUptoCardSaid : Prop := Claim7.holds Tryz.pinned (.plain (OpenSpec.upto surdFieldSpec)) surdFieldUptoCard
end Rows
end Go.Proofs.YtgejbndgakgfnaaGreatDoor
