/-
  The texts Q16, Q17, Q18, Q19.
-/
import Derived.Test.YtfcpigjmagbnkaaGreatDoorQD
namespace Go.Proofs.YtfcpigjmagbnkaaGreatDoor
open Go Go.RowKit Ab
set_option linter.unusedSimpArgs false
set_option linter.unusedVariables false
set_option maxHeartbeats 10000000
end Go.Proofs.YtfcpigjmagbnkaaGreatDoor
namespace Go.Proofs.YtfcpigjmagbnkaaGreatDoor
open Go Go.RowKit Ab
set_option linter.unusedSimpArgs false
set_option linter.unusedVariables false
set_option maxHeartbeats 10000000
theorem cap (m k K : Nat) (h : m * (K + 1) + 1 ≤ 1000000) (hk : k ≤ K) : m * k + 1 ≤ 1000000 ∧ m * (k + 1) + 1 ≤ 100000000 := by
  have h1 := Nat.mul_le_mul_left m (show k + 1 ≤ K + 1 by omega)
  have h2 := Nat.mul_le_mul_left m (show k ≤ k + 1 by omega)
  omega
end Go.Proofs.YtfcpigjmagbnkaaGreatDoor
namespace Go.Proofs.YtfcpigjmagbnkaaGreatDoor
open Go Go.RowKit Ab
set_option linter.unusedSimpArgs false
set_option linter.unusedVariables false
set_option maxHeartbeats 10000000
end Go.Proofs.YtfcpigjmagbnkaaGreatDoor
namespace Go.Proofs.YtfcpigjmagbnkaaGreatDoor
open Go Go.RowKit Ab
set_option linter.unusedSimpArgs false
set_option linter.unusedVariables false
set_option maxHeartbeats 10000000
end Go.Proofs.YtfcpigjmagbnkaaGreatDoor
