/-
  DERIVED. GIVEN WITH THE SEED: THE CARDS: each row of YtlhadigkmlldeaaGreatDoorRows.lean that lists a variable, with what it lists TIED to the program's text (the seventh form; the later family's looks); each row that meets fmt, with fmt's text TOLD by the authors' own Lean function (tested against real Go, not proved from fmt's source: count such statements apart). THE CARD IS WHAT COUNTS. Prove the row's statement (the work); the ties are given (YtlhadigkmlldeaaGreatDoorTie.lean); close each card by the builder's one call (the guide's Derived/Test/ToyasCard.lean, 'card_holds'). Laid BY PROGRAM, IN A SANDBOX (cutbox-door.mjs). By AI agents, Wed Nov 11 2026. No macro, syntax, notation, axiom, sorry.
-/
import Derived.Test.YtlhadigkmlldeaaGreatDoorRows
import GoSem.ClaimSeven
namespace Go.Proofs.YtlhadigkmlldeaaGreatDoor
namespace Rows

/-- THE TIED CARD OF 'surdlaw08.QqBetween'. -/
def qqBetweenCard : Claim7 := { stood := { row := qqBetweenRow, standIns := [], harness := (true, "58c471ff10496e9cce21a52f888aabf89149a2d62cbf2bef4e0c407ea43f6460"), looks := false }, kinds := [], alts := [], laidByText := true, laidKinds := [.widerDeep], laidTests := true, laidLooks := .later }
def QqBetweenCardSaid : Prop := Claim7.holds Tryz.pinned (.plain (OpenSpec.ofChange qqBetweenSpec)) qqBetweenCard

/-- THE TIED CARD OF 'surdlaw08.QqForms'. -/
def qqFormsCard : Claim7 := { stood := { row := qqFormsRow, standIns := [], harness := (true, "58c471ff10496e9cce21a52f888aabf89149a2d62cbf2bef4e0c407ea43f6460"), looks := false }, kinds := [], alts := [], laidByText := true, laidKinds := [.widerDeep], laidTests := true, laidLooks := .later }
def QqFormsCardSaid : Prop := Claim7.holds Tryz.pinned (.plain (OpenSpec.ofChange qqFormsSpec)) qqFormsCard

/-- THE TIED CARD OF 'surdlaw08.QqOrder'. -/
def qqOrderCard : Claim7 := { stood := { row := qqOrderRow, standIns := [], harness := (true, "58c471ff10496e9cce21a52f888aabf89149a2d62cbf2bef4e0c407ea43f6460"), looks := false }, kinds := [], alts := [], laidByText := true, laidKinds := [.widerDeep], laidTests := true, laidLooks := .later }
def QqOrderCardSaid : Prop := Claim7.holds Tryz.pinned (.plain (OpenSpec.ofChange qqOrderSpec)) qqOrderCard

/-- THE TIED CARD OF 'surdlaw08.QqLaws'. -/
def qqLawsCard : Claim7 := { stood := { row := qqLawsRow, standIns := [], harness := (true, "58c471ff10496e9cce21a52f888aabf89149a2d62cbf2bef4e0c407ea43f6460"), looks := false }, kinds := [], alts := [], laidByText := true, laidKinds := [.widerDeep], laidTests := true, laidLooks := .later }
def QqLawsCardSaid : Prop := Claim7.holds Tryz.pinned (.plain (OpenSpec.ofChange qqLawsSpec)) qqLawsCard

/-- THE TIED CARD OF 'surdlaw08.QqField'. -/
def qqFieldCard : Claim7 := { stood := { row := qqFieldRow, standIns := [], harness := (true, "58c471ff10496e9cce21a52f888aabf89149a2d62cbf2bef4e0c407ea43f6460"), looks := false }, kinds := [], alts := [], laidByText := true, laidKinds := [.widerDeep], laidTests := true, laidLooks := .later }
def QqFieldCardSaid : Prop := Claim7.holds Tryz.pinned (.plain (OpenSpec.ofChange qqFieldSpec)) qqFieldCard

/-- THE TIED CARD OF 'surdlaw08.QqGrids'. -/
def qqGridsCard : Claim7 := { stood := { row := qqGridsRow, standIns := [], harness := (true, "58c471ff10496e9cce21a52f888aabf89149a2d62cbf2bef4e0c407ea43f6460"), looks := false }, kinds := [], alts := [], laidByText := true, laidKinds := [.data, .widerDeep], laidTests := true, laidLooks := .later }
def QqGridsCardSaid : Prop := Claim7.holds Tryz.pinned (.plain (OpenSpec.ofChange qqGridsSpec)) qqGridsCard

/-- THE SECOND FORM's CARD OF 'surdlaw08.QqBetween'. -/
def qqBetweenUptoCard : Claim7 := { stood := { row := qqBetweenUptoRow, standIns := [], harness := (true, "58c471ff10496e9cce21a52f888aabf89149a2d62cbf2bef4e0c407ea43f6460"), looks := false }, kinds := [], alts := [], laidByText := true, laidKinds := [.widerDeep], laidTests := true, laidLooks := .later }
def QqBetweenUptoCardSaid : Prop := Claim7.holds Tryz.pinned (.plain (OpenSpec.upto qqBetweenSpec)) qqBetweenUptoCard

/-- THE SECOND FORM's CARD OF 'surdlaw08.QqForms'. -/
def qqFormsUptoCard : Claim7 := { stood := { row := qqFormsUptoRow, standIns := [], harness := (true, "58c471ff10496e9cce21a52f888aabf89149a2d62cbf2bef4e0c407ea43f6460"), looks := false }, kinds := [], alts := [], laidByText := true, laidKinds := [.widerDeep], laidTests := true, laidLooks := .later }
def QqFormsUptoCardSaid : Prop := Claim7.holds Tryz.pinned (.plain (OpenSpec.upto qqFormsSpec)) qqFormsUptoCard

/-- THE SECOND FORM's CARD OF 'surdlaw08.QqOrder'. -/
def qqOrderUptoCard : Claim7 := { stood := { row := qqOrderUptoRow, standIns := [], harness := (true, "58c471ff10496e9cce21a52f888aabf89149a2d62cbf2bef4e0c407ea43f6460"), looks := false }, kinds := [], alts := [], laidByText := true, laidKinds := [.widerDeep], laidTests := true, laidLooks := .later }
def QqOrderUptoCardSaid : Prop := Claim7.holds Tryz.pinned (.plain (OpenSpec.upto qqOrderSpec)) qqOrderUptoCard

/-- THE SECOND FORM's CARD OF 'surdlaw08.QqLaws'. -/
def qqLawsUptoCard : Claim7 := { stood := { row := qqLawsUptoRow, standIns := [], harness := (true, "58c471ff10496e9cce21a52f888aabf89149a2d62cbf2bef4e0c407ea43f6460"), looks := false }, kinds := [], alts := [], laidByText := true, laidKinds := [.widerDeep], laidTests := true, laidLooks := .later }
def QqLawsUptoCardSaid : Prop := Claim7.holds Tryz.pinned (.plain (OpenSpec.upto qqLawsSpec)) qqLawsUptoCard

/-- THE SECOND FORM's CARD OF 'surdlaw08.QqField'. -/
def qqFieldUptoCard : Claim7 := { stood := { row := qqFieldUptoRow, standIns := [], harness := (true, "58c471ff10496e9cce21a52f888aabf89149a2d62cbf2bef4e0c407ea43f6460"), looks := false }, kinds := [], alts := [], laidByText := true, laidKinds := [.widerDeep], laidTests := true, laidLooks := .later }
def QqFieldUptoCardSaid : Prop := Claim7.holds Tryz.pinned (.plain (OpenSpec.upto qqFieldSpec)) qqFieldUptoCard

/-- THE SECOND FORM's CARD OF 'surdlaw08.QqGrids'. -/
def qqGridsUptoCard : Claim7 := { stood := { row := qqGridsUptoRow, standIns := [], harness := (true, "58c471ff10496e9cce21a52f888aabf89149a2d62cbf2bef4e0c407ea43f6460"), looks := false }, kinds := [], alts := [], laidByText := true, laidKinds := [.data, .widerDeep], laidTests := true, laidLooks := .later }
def QqGridsUptoCardSaid : Prop := Claim7.holds Tryz.pinned (.plain (OpenSpec.upto qqGridsSpec)) qqGridsUptoCard
end Rows
end Go.Proofs.YtlhadigkmlldeaaGreatDoor
