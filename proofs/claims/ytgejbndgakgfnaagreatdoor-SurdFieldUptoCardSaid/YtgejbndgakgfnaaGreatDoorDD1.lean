/-
  surdref04: Digits, Undigits.
-/
import Derived.Test.YtgejbndgakgfnaaGreatDoorDD0
import Derived.Test.YtgejbndgakgfnaaGreatDoorGG
import Derived.Test.YtgejbndgakgfnaaGreatDoorGE
import Derived.Test.YtgejbndgakgfnaaGreatDoorGC
import Derived.Test.YtgejbndgakgfnaaGreatDoorNM8
import Derived.Test.YtgejbndgakgfnaaGreatDoorDG
namespace Go.Proofs.YtgejbndgakgfnaaGreatDoor
open Go Go.RowKit Ab
set_option linter.unusedSimpArgs false
set_option linter.unusedVariables false
set_option maxHeartbeats 10000000
theorem unD_pos {l : List Nat} {b : Nat} (hb : 2 ≤ b) (h : Lt b l) : unD l b = dg B (nv b l) ∧ unE l b = 0 := by
  have h2 : 2 ≤ b ∧ l.all (· < b) = true := ⟨hb, List.all_eq_true.2 fun x hx => by simpa using h x hx⟩
  exact ⟨if_pos h2, if_pos h2⟩
end Go.Proofs.YtgejbndgakgfnaaGreatDoor
