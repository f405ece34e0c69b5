/-
  Rational numbers: floors and ceilings of any shift, by the program and by the document.
-/
import Derived.Test.YtgejbndgakgfnaaGreatDoorQE
namespace Go.Proofs.YtgejbndgakgfnaaGreatDoor
open Go Go.RowKit Ab
set_option linter.unusedSimpArgs false
set_option linter.unusedVariables false
set_option maxHeartbeats 10000000
theorem rden_le (z : Int) (d : Nat) : rden z d ≤ d := Nat.div_le_self _ _
theorem rz_le' (z : Int) (d : Nat) : (rz z d).natAbs ≤ z.natAbs := by rw [rz_abs]; exact Nat.div_le_self _ _
end Go.Proofs.YtgejbndgakgfnaaGreatDoor
