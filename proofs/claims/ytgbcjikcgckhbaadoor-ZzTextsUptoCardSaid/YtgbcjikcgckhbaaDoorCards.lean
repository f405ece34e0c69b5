/-
  DERIVED. GIVEN WITH THE SEED: THE CARDS: each row of YtgbcjikcgckhbaaDoorRows.lean that lists a variable, with what it lists TIED to the program's text (the seventh form; the later family's looks); each row that meets fmt, with fmt's text TOLD by the authors' own Lean function (tested against real Go, not proved from fmt's source: count such statements apart). THE CARD IS WHAT COUNTS. Prove the row's statement (the work); the ties are given (YtgbcjikcgckhbaaDoorTie.lean); close each card by the builder's one call (the guide's Derived/Test/ToyasCard.lean, 'card_holds'). Laid BY PROGRAM, IN A SANDBOX (cutbox-door.mjs). By AI agents, Wed Nov 11 2026. No macro, syntax, notation, axiom, sorry.
-/
import Derived.Test.YtgbcjikcgckhbaaDoorRows
import GoSem.ClaimSeven
namespace Go.Proofs.YtgbcjikcgckhbaaDoor
namespace Rows

/-- THE TIED CARD OF 'surdlaw07.ZzTexts'. -/
def zzTextsCard : Claim7 := { stood := { row := zzTextsRow, standIns := [], harness := (true, "743ff25053a6abc34f99b8c7c7dfe9a6bba97927dab7e07d206b4f2855ae320b"), looks := false }, kinds := [], alts := [], laidByText := true, laidKinds := [.widerDeep], laidTests := true, laidLooks := .later }
def ZzTextsCardSaid : Prop := Claim7.holds Tryd.pinned (.plain (OpenSpec.ofChange zzTextsSpec)) zzTextsCard

/-- THE SECOND FORM's CARD OF 'surdlaw07.ZzTexts'. -/
def zzTextsUptoCard : Claim7 := { stood := { row := zzTextsUptoRow, standIns := [], harness := (true, "743ff25053a6abc34f99b8c7c7dfe9a6bba97927dab7e07d206b4f2855ae320b"), looks := false }, kinds := [], alts := [], laidByText := true, laidKinds := [.widerDeep], laidTests := true, laidLooks := .later }
def ZzTextsUptoCardSaid : Prop := Claim7.holds Tryd.pinned (.plain (OpenSpec.upto zzTextsSpec)) zzTextsUptoCard
end Rows
end Go.Proofs.YtgbcjikcgckhbaaDoor
