/-
  DERIVED. GIVEN WITH THE SEED: THE CARDS: each row of YtoehbmlfnjlchaaGreatDoorRows.lean that lists a variable, with what it lists TIED to the program's text (the seventh form; the later family's looks); each row that meets fmt, with fmt's text TOLD by the authors' own Lean function (tested against real Go, not proved from fmt's source: count such statements apart). THE CARD IS WHAT COUNTS. Prove the row's statement (the work); the ties are given (YtoehbmlfnjlchaaGreatDoorTie.lean); close each card by the builder's one call (the guide's Derived/Test/ToyasCard.lean, 'card_holds'). Laid BY PROGRAM, IN A SANDBOX (cutbox-door.mjs). By AI agents, Wed Nov 11 2026. No macro, syntax, notation, axiom, sorry.
-/
import Derived.Test.YtoehbmlfnjlchaaGreatDoorRows
import GoSem.ClaimSeven
namespace Go.Proofs.YtoehbmlfnjlchaaGreatDoor
namespace Rows

/-- THE TIED CARD OF 'surdlaw07.ZzApart'. -/
def zzApartCard : Claim7 := { stood := { row := zzApartRow, standIns := [], harness := (true, "2628300862cbc1d39d953c853efaefd4aef044bdc25f06588f3669ca8f610cd2"), looks := false }, kinds := [], alts := [], laidByText := true, laidKinds := [.data], laidTests := true, laidLooks := .later }
def ZzApartCardSaid : Prop := Claim7.holds Tryz.pinned (.plain (OpenSpec.ofChange zzApartSpec)) zzApartCard

/-- THE SECOND FORM's CARD OF 'surdlaw07.ZzApart'. -/
def zzApartUptoCard : Claim7 := { stood := { row := zzApartUptoRow, standIns := [], harness := (true, "2628300862cbc1d39d953c853efaefd4aef044bdc25f06588f3669ca8f610cd2"), looks := false }, kinds := [], alts := [], laidByText := true, laidKinds := [.data], laidTests := true, laidLooks := .later }
def ZzApartUptoCardSaid : Prop := Claim7.holds Tryz.pinned (.plain (OpenSpec.upto zzApartSpec)) zzApartUptoCard
end Rows
end Go.Proofs.YtoehbmlfnjlchaaGreatDoor
