/-
  surdref01, surdref05: sums, differences.
-/
import Derived.Test.YtfkldohgiifgbaaF2
namespace Go.Proofs.Ytfkldohgiifgbaa
open Go Go.RowKit Ab
set_option linter.unusedSimpArgs false
set_option linter.unusedVariables false
set_option maxHeartbeats 10000000
theorem bz_F3 : type_of% (And.intro @W_len (And.intro @D_len (And.intro @Nat.div_one (And.intro @Nat.mul_one (And.intro @tn_nat (And.intro @W_nf (And.intro @D_nf (And.intro @W_nil (And.intro @D_nil (And.intro @wi (@D_get))))))))))) := And.intro @W_len (And.intro @D_len (And.intro @Nat.div_one (And.intro @Nat.mul_one (And.intro @tn_nat (And.intro @W_nf (And.intro @D_nf (And.intro @W_nil (And.intro @D_nil (And.intro @wi (@D_get))))))))))

/-- so many digits as there are in the one, in the other, and one more for a carry -/
def addh (x y : List Nat) : Nat := if (nv 65536 x + nv 65536 y) / 65536 ^ (max x.length y.length) = 0 then max x.length y.length else max x.length y.length + 1
end Go.Proofs.Ytfkldohgiifgbaa
