/-
  Lists of cells: apart, found, by the program and by the document; the law.
-/
import Derived.Test.YtfcpigjmagbnkaaGreatDoorC6
namespace Go.Proofs.YtfcpigjmagbnkaaGreatDoor
open Go Go.RowKit Ab
set_option linter.unusedSimpArgs false
set_option linter.unusedVariables false
set_option maxHeartbeats 10000000
abbrev Cel := Bool × List Nat × Int × Bool
end Go.Proofs.YtfcpigjmagbnkaaGreatDoor
