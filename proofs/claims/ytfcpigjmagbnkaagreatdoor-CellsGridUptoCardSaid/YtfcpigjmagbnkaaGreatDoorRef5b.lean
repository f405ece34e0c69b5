/-
  surdref02: differences; the law's first check.
-/
import Derived.Test.YtfcpigjmagbnkaaGreatDoorGE
namespace Go.Proofs.YtfcpigjmagbnkaaGreatDoor
open Go Go.RowKit Ab
set_option linter.unusedSimpArgs false
set_option linter.unusedVariables false
set_option maxHeartbeats 10000000
end Go.Proofs.YtfcpigjmagbnkaaGreatDoor
