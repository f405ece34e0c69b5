/-
  The texts F1, F2, F3, F4.
-/
import Derived.Test.YtgejbndgakgfnaaGreatDoorGD
import Derived.Test.YtgejbndgakgfnaaGreatDoorGC
import Derived.Test.YtgejbndgakgfnaaGreatDoorNM8
import Derived.Test.YtgejbndgakgfnaaGreatDoorGG
namespace Go.Proofs.YtgejbndgakgfnaaGreatDoor
open Go Go.RowKit Ab
set_option linter.unusedSimpArgs false
set_option linter.unusedVariables false
set_option maxHeartbeats 10000000
theorem H2 : 2 ≤ 65536 := by decide
end Go.Proofs.YtgejbndgakgfnaaGreatDoor
namespace Go.Proofs.YtgejbndgakgfnaaGreatDoor
open Go Go.RowKit Ab
set_option linter.unusedSimpArgs false
set_option linter.unusedVariables false
set_option maxHeartbeats 10000000
end Go.Proofs.YtgejbndgakgfnaaGreatDoor
namespace Go.Proofs.YtgejbndgakgfnaaGreatDoor
open Go Go.RowKit Ab
set_option linter.unusedSimpArgs false
set_option linter.unusedVariables false
set_option maxHeartbeats 10000000
end Go.Proofs.YtgejbndgakgfnaaGreatDoor
namespace Go.Proofs.YtgejbndgakgfnaaGreatDoor
open Go Go.RowKit Ab
set_option linter.unusedSimpArgs false
set_option linter.unusedVariables false
set_option maxHeartbeats 10000000
end Go.Proofs.YtgejbndgakgfnaaGreatDoor
