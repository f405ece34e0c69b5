/-
  surdref02: differences; the law's first check.
-/
import Derived.Test.YtgbcjikcgckhbaaDoorGE
namespace Go.Proofs.YtgbcjikcgckhbaaDoor
open Go Go.RowKit Ab
set_option linter.unusedSimpArgs false
set_option linter.unusedVariables false
set_option maxHeartbeats 10000000
theorem bz_Ref5b : type_of% (And.intro @W_len (And.intro @D_len (And.intro @Nat.div_one (And.intro @Nat.mul_one (And.intro @tn_nat (And.intro @W_nf (And.intro @D_nf (And.intro @W_nil (@D_nil))))))))) := And.intro @W_len (And.intro @D_len (And.intro @Nat.div_one (And.intro @Nat.mul_one (And.intro @tn_nat (And.intro @W_nf (And.intro @D_nf (And.intro @W_nil (@D_nil))))))))
end Go.Proofs.YtgbcjikcgckhbaaDoor
