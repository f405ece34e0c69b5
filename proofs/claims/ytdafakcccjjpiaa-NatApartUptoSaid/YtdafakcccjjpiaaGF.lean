/-
  The texts M1, M2, M3, M4, M5, NM5, M6, M7, NM6.
-/
import Derived.Test.YtdafakcccjjpiaaGD
import Derived.Lib.Mul64
import Derived.WalkKit
import Derived.Lib.Walk
import Derived.Lib.SliceRun
import Derived.Lib.AppendZerosOnto
namespace Go.Proofs.Ytdafakcccjjpiaa
open Go Go.RowKit Ab
set_option linter.unusedSimpArgs false
set_option linter.unusedVariables false
set_option maxHeartbeats 10000000
end Go.Proofs.Ytdafakcccjjpiaa
namespace Go.Proofs.Ytdafakcccjjpiaa
open Go Go.RowKit Ab
set_option linter.unusedSimpArgs false
set_option linter.unusedVariables false
set_option maxHeartbeats 10000000
theorem w8 (a : Nat) (h : a < 256) : IntKind.u8.wrap (a : Int) = (a : Int) := by rw [IntKind.wrap_u8]; omega
end Go.Proofs.Ytdafakcccjjpiaa
namespace Go.Proofs.Ytdafakcccjjpiaa
open Go Go.RowKit Ab
set_option linter.unusedSimpArgs false
set_option linter.unusedVariables false
set_option maxHeartbeats 10000000
end Go.Proofs.Ytdafakcccjjpiaa
namespace Go.Proofs.Ytdafakcccjjpiaa
open Go Go.RowKit Ab
set_option linter.unusedSimpArgs false
set_option linter.unusedVariables false
set_option maxHeartbeats 10000000
end Go.Proofs.Ytdafakcccjjpiaa
namespace Go.Proofs.Ytdafakcccjjpiaa
open Go Go.RowKit Ab
set_option linter.unusedSimpArgs false
set_option linter.unusedVariables false
set_option maxHeartbeats 10000000
end Go.Proofs.Ytdafakcccjjpiaa
namespace Go.Proofs.Ytdafakcccjjpiaa
open Go Go.RowKit Ab
set_option linter.unusedSimpArgs false
set_option linter.unusedVariables false
set_option maxHeartbeats 10000000
end Go.Proofs.Ytdafakcccjjpiaa
namespace Go.Proofs.Ytdafakcccjjpiaa
open Go Go.RowKit Ab
set_option linter.unusedSimpArgs false
set_option linter.unusedVariables false
set_option maxHeartbeats 10000000
end Go.Proofs.Ytdafakcccjjpiaa
namespace Go.Proofs.Ytdafakcccjjpiaa
open Go Go.RowKit Ab
set_option linter.unusedSimpArgs false
set_option linter.unusedVariables false
set_option maxHeartbeats 10000000
end Go.Proofs.Ytdafakcccjjpiaa
namespace Go.Proofs.Ytdafakcccjjpiaa
open Go Go.RowKit Ab
set_option linter.unusedSimpArgs false
set_option linter.unusedVariables false
set_option maxHeartbeats 10000000
section
variable {X A Z R : List Nat} {t j n : Nat}
end
end Go.Proofs.Ytdafakcccjjpiaa
