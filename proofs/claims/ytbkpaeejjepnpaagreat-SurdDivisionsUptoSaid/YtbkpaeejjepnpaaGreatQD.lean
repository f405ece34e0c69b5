/-
  The texts Q14, Q15.
-/
import Derived.Test.YtbkpaeejjepnpaaGreatQC
namespace Go.Proofs.YtbkpaeejjepnpaaGreat
open Go Go.RowKit Ab
set_option linter.unusedSimpArgs false
set_option linter.unusedVariables false
set_option maxHeartbeats 10000000
structure Ends (a d b e : Nat) : Prop where
  a0 : 0 < a
  d0 : 0 < d
  e0 : 0 < e
  ca : Nat.gcd a d = 1
  cb : Nat.gcd b e = 1
  le : a * e ≤ b * d
end Go.Proofs.YtbkpaeejjepnpaaGreat
namespace Go.Proofs.YtbkpaeejjepnpaaGreat
open Go Go.RowKit Ab
set_option linter.unusedSimpArgs false
set_option linter.unusedVariables false
set_option maxHeartbeats 10000000
end Go.Proofs.YtbkpaeejjepnpaaGreat
