/-
  DERIVED. GIVEN WITH THE SEED: THE CARDS: each row of YtpopphdnlhihdaaGreatDoorRows.lean that lists a variable, with what it lists TIED to the program's text (the seventh form; the later family's looks); each row that meets fmt, with fmt's text TOLD by the authors' own Lean function (tested against real Go, not proved from fmt's source: count such statements apart). THE CARD IS WHAT COUNTS. Prove the row's statement (the work); the ties are given (YtpopphdnlhihdaaGreatDoorTie.lean); close each card by the builder's one call (the guide's Derived/Test/ToyasCard.lean, 'card_holds'). Laid BY PROGRAM, IN A SANDBOX (cutbox-door.mjs). By AI agents, Wed Nov 11 2026. No macro, syntax, notation, axiom, sorry.
-/
import Derived.Test.YtpopphdnlhihdaaGreatDoorRows
import GoSem.ClaimSeven
namespace Go.Proofs.YtpopphdnlhihdaaGreatDoor
namespace Rows

/-- THE TIED CARD OF 'surdlaw08.QqMemory'. -/
def qqMemoryCard : Claim7 := { stood := { row := qqMemoryRow, standIns := [], harness := (true, "b25871e1596e0865a16bd6163f354b406137c0d313d6293f962c0ef98aacaf6a"), looks := false }, kinds := [], alts := [], laidByText := true, laidKinds := [.data, .widerDeep], laidTests := true, laidLooks := .later }
def QqMemoryCardSaid : Prop := Claim7.holds Tryz.pinned (.plain (OpenSpec.ofChange qqMemorySpec)) qqMemoryCard

/-- THE SECOND FORM's CARD OF 'surdlaw08.QqMemory'. -/
def qqMemoryUptoCard : Claim7 := { stood := { row := qqMemoryUptoRow, standIns := [], harness := (true, "b25871e1596e0865a16bd6163f354b406137c0d313d6293f962c0ef98aacaf6a"), looks := false }, kinds := [], alts := [], laidByText := true, laidKinds := [.data, .widerDeep], laidTests := true, laidLooks := .later }
def QqMemoryUptoCardSaid : Prop := Claim7.holds Tryz.pinned (.plain (OpenSpec.upto qqMemorySpec)) qqMemoryUptoCard
end Rows
end Go.Proofs.YtpopphdnlhihdaaGreatDoor
