/-
  gauss: powers; zpoly.Norm; values.
-/
import Derived.Test.YteaiegppmbcibaaG2
namespace Go.Proofs.Yteaiegppmbcibaa
open Go Go.RowKit Ab
set_option linter.unusedSimpArgs false
set_option linter.unusedVariables false
set_option maxHeartbeats 10000000
theorem pow_small {s k m : Nat} (hs : 1 ≤ s) (h : k ≤ m) (hm : s ^ m < SM) : s ^ k < SM := Nat.lt_of_le_of_lt (Nat.pow_le_pow_right hs h) hm
end Go.Proofs.Yteaiegppmbcibaa
