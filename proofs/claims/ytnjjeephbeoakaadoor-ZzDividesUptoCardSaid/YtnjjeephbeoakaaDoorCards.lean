/-
  DERIVED. GIVEN WITH THE SEED: THE CARDS: each row of YtnjjeephbeoakaaDoorRows.lean that lists a variable, with what it lists TIED to the program's text (the seventh form; the later family's looks); each row that meets fmt, with fmt's text TOLD by the authors' own Lean function (tested against real Go, not proved from fmt's source: count such statements apart). THE CARD IS WHAT COUNTS. Prove the row's statement (the work); the ties are given (YtnjjeephbeoakaaDoorTie.lean); close each card by the builder's one call (the guide's Derived/Test/ToyasCard.lean, 'card_holds'). Laid BY PROGRAM, IN A SANDBOX (cutbox-door.mjs). By AI agents, Wed Nov 11 2026. No macro, syntax, notation, axiom, sorry.
-/
import Derived.Test.YtnjjeephbeoakaaDoorRows
import GoSem.ClaimSeven
namespace Go.Proofs.YtnjjeephbeoakaaDoor
namespace Rows

/-- THE TIED CARD OF 'surdlaw07.ZzPowers'. -/
def zzPowersCard : Claim7 := { stood := { row := zzPowersRow, standIns := [], harness := (true, "d9975c31123d856d015806793bbc866cc561ad6e5ac9872d4e6d3a34b258eb25"), looks := false }, kinds := [], alts := [], laidByText := true, laidKinds := [.data], laidTests := true, laidLooks := .later }
def ZzPowersCardSaid : Prop := Claim7.holds Tryd.pinned (.plain (OpenSpec.ofChange zzPowersSpec)) zzPowersCard

/-- THE TIED CARD OF 'surdlaw07.ZzDivides'. -/
def zzDividesCard : Claim7 := { stood := { row := zzDividesRow, standIns := [], harness := (true, "d9975c31123d856d015806793bbc866cc561ad6e5ac9872d4e6d3a34b258eb25"), looks := false }, kinds := [], alts := [], laidByText := true, laidKinds := [.data], laidTests := true, laidLooks := .later }
def ZzDividesCardSaid : Prop := Claim7.holds Tryd.pinned (.plain (OpenSpec.ofChange zzDividesSpec)) zzDividesCard

/-- THE SECOND FORM's CARD OF 'surdlaw07.ZzPowers'. -/
def zzPowersUptoCard : Claim7 := { stood := { row := zzPowersUptoRow, standIns := [], harness := (true, "d9975c31123d856d015806793bbc866cc561ad6e5ac9872d4e6d3a34b258eb25"), looks := false }, kinds := [], alts := [], laidByText := true, laidKinds := [.data], laidTests := true, laidLooks := .later }
def ZzPowersUptoCardSaid : Prop := Claim7.holds Tryd.pinned (.plain (OpenSpec.upto zzPowersSpec)) zzPowersUptoCard

/-- THE SECOND FORM's CARD OF 'surdlaw07.ZzDivides'. -/
def zzDividesUptoCard : Claim7 := { stood := { row := zzDividesUptoRow, standIns := [], harness := (true, "d9975c31123d856d015806793bbc866cc561ad6e5ac9872d4e6d3a34b258eb25"), looks := false }, kinds := [], alts := [], laidByText := true, laidKinds := [.data], laidTests := true, laidLooks := .later }
def ZzDividesUptoCardSaid : Prop := Claim7.holds Tryd.pinned (.plain (OpenSpec.upto zzDividesSpec)) zzDividesUptoCard
end Rows
end Go.Proofs.YtnjjeephbeoakaaDoor
