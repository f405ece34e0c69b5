/-
  DERIVED. GIVEN WITH THE SEED: THE CARDS: each row of YthldhonccnajoaaGreatDoorRows.lean that lists a variable, with what it lists TIED to the program's text (the seventh form; the later family's looks); each row that meets fmt, with fmt's text TOLD by the authors' own Lean function (tested against real Go, not proved from fmt's source: count such statements apart). THE CARD IS WHAT COUNTS. Prove the row's statement (the work); the ties are given (YthldhonccnajoaaGreatDoorTie.lean); close each card by the builder's one call (the guide's Derived/Test/ToyasCard.lean, 'card_holds'). Laid BY PROGRAM, IN A SANDBOX (cutbox-door.mjs). By AI agents, Wed Nov 11 2026. No macro, syntax, notation, axiom, sorry.
-/
import Derived.Test.YthldhonccnajoaaGreatDoorRows
import GoSem.ClaimSeven
namespace Go.Proofs.YthldhonccnajoaaGreatDoor
namespace Rows

/-- THE TIED CARD OF 'surdlaw08.QqTexts'. -/
def qqTextsCard : Claim7 := { stood := { row := qqTextsRow, standIns := [], harness := (true, "b5769d11a9e5f345f5495fd049072732482ef3cbe5fb2138da986023140d2a85"), looks := false }, kinds := [], alts := [], laidByText := true, laidKinds := [.data, .widerDeep, .pinned], laidTests := true, laidLooks := .later }
def QqTextsCardSaid : Prop := Claim7.holds Tryz.pinned (.plain (OpenSpec.ofChange qqTextsSpec)) qqTextsCard

/-- THE SECOND FORM's CARD OF 'surdlaw08.QqTexts'. -/
def qqTextsUptoCard : Claim7 := { stood := { row := qqTextsUptoRow, standIns := [], harness := (true, "b5769d11a9e5f345f5495fd049072732482ef3cbe5fb2138da986023140d2a85"), looks := false }, kinds := [], alts := [], laidByText := true, laidKinds := [.data, .widerDeep, .pinned], laidTests := true, laidLooks := .later }
def QqTextsUptoCardSaid : Prop := Claim7.holds Tryz.pinned (.plain (OpenSpec.upto qqTextsSpec)) qqTextsUptoCard
end Rows
end Go.Proofs.YthldhonccnajoaaGreatDoor
