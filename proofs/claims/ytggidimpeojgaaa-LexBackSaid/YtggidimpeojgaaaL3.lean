/-
  lex: the reference's rows; kinds.
-/
import Derived.Test.YtggidimpeojgaaaL2
namespace Go.Proofs.Ytggidimpeojgaaa
open Go Go.RowKit Ab
set_option linter.unusedSimpArgs false
set_option linter.unusedVariables false
set_option maxHeartbeats 10000000
theorem bz_L3 : type_of% (And.intro @wi (And.intro @tn_nat (And.intro @tn0 (And.intro @Nat.div_one (@Nat.mul_one))))) := And.intro @wi (And.intro @tn_nat (And.intro @tn0 (And.intro @Nat.div_one (@Nat.mul_one))))
end Go.Proofs.Ytggidimpeojgaaa
