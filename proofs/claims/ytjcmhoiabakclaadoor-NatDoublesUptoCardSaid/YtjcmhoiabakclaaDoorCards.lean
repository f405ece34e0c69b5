/-
  DERIVED. GIVEN WITH THE SEED: THE CARDS: each row of YtjcmhoiabakclaaDoorRows.lean that lists a variable, with what it lists TIED to the program's text (the seventh form; the later family's looks); each row that meets fmt, with fmt's text TOLD by the authors' own Lean function (tested against real Go, not proved from fmt's source: count such statements apart). THE CARD IS WHAT COUNTS. Prove the row's statement (the work); the ties are given (YtjcmhoiabakclaaDoorTie.lean); close each card by the builder's one call (the guide's Derived/Test/ToyasCard.lean, 'card_holds'). Laid BY PROGRAM, IN A SANDBOX (cutbox-door.mjs). By AI agents, Wed Nov 11 2026. No macro, syntax, notation, axiom, sorry.
-/
import Derived.Test.YtjcmhoiabakclaaDoorRows
import GoSem.ClaimSeven
namespace Go.Proofs.YtjcmhoiabakclaaDoor
namespace Rows

/-- THE TIED CARD OF 'surdlaw02.NatForms'. -/
def natFormsCard : Claim7 := { stood := { row := natFormsRow, standIns := [], harness := (true, "69e12280987c57639486334b878a56c9f90a82f6044b0480b985c976a432e65b"), looks := false }, kinds := [], alts := [], laidByText := true, laidKinds := [.data], laidTests := true, laidLooks := .later }
def NatFormsCardSaid : Prop := Claim7.holds Tryd.pinned (.plain (OpenSpec.ofChange natFormsSpec)) natFormsCard

/-- THE TIED CARD OF 'surdlaw02.NatDoubles'. -/
def natDoublesCard : Claim7 := { stood := { row := natDoublesRow, standIns := [], harness := (true, "69e12280987c57639486334b878a56c9f90a82f6044b0480b985c976a432e65b"), looks := false }, kinds := [], alts := [], laidByText := true, laidKinds := [.data], laidTests := true, laidLooks := .later }
def NatDoublesCardSaid : Prop := Claim7.holds Tryd.pinned (.plain (OpenSpec.ofChange natDoublesSpec)) natDoublesCard

/-- THE SECOND FORM's CARD OF 'surdlaw02.NatForms'. -/
def natFormsUptoCard : Claim7 := { stood := { row := natFormsUptoRow, standIns := [], harness := (true, "69e12280987c57639486334b878a56c9f90a82f6044b0480b985c976a432e65b"), looks := false }, kinds := [], alts := [], laidByText := true, laidKinds := [.data], laidTests := true, laidLooks := .later }
def NatFormsUptoCardSaid : Prop := Claim7.holds Tryd.pinned (.plain (OpenSpec.upto natFormsSpec)) natFormsUptoCard

/-- THE SECOND FORM's CARD OF 'surdlaw02.NatDoubles'. -/
def natDoublesUptoCard : Claim7 := { stood := { row := natDoublesUptoRow, standIns := [], harness := (true, "69e12280987c57639486334b878a56c9f90a82f6044b0480b985c976a432e65b"), looks := false }, kinds := [], alts := [], laidByText := true, laidKinds := [.data], laidTests := true, laidLooks := .later }
def NatDoublesUptoCardSaid : Prop := Claim7.holds Tryd.pinned (.plain (OpenSpec.upto natDoublesSpec)) natDoublesUptoCard
end Rows
end Go.Proofs.YtjcmhoiabakclaaDoor
