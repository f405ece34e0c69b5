/-
  surdref07: forms, sums, products.
-/
import Derived.Test.YtfcpigjmagbnkaaGreatDoorZ2
import Derived.Test.YtfcpigjmagbnkaaGreatDoorZ3
import Derived.Test.YtfcpigjmagbnkaaGreatDoorRef5b
namespace Go.Proofs.YtfcpigjmagbnkaaGreatDoor
open Go Go.RowKit Ab
set_option linter.unusedSimpArgs false
set_option linter.unusedVariables false
set_option maxHeartbeats 10000000
theorem bz_Z4 : type_of% (And.intro @Bool.false_and (And.intro @wi (And.intro @tn_nat (And.intro @Nat.div_one (And.intro @Nat.mul_one (And.intro @W_len (And.intro @W_nf (And.intro @W_cell (And.intro @W_nil (And.intro @W_get (@nf_g))))))))))) := And.intro @Bool.false_and (And.intro @wi (And.intro @tn_nat (And.intro @Nat.div_one (And.intro @Nat.mul_one (And.intro @W_len (And.intro @W_nf (And.intro @W_cell (And.intro @W_nil (And.intro @W_get (@nf_g))))))))))
theorem beq_neg (x y : Int) : ((decide (x < 0) == decide (y < 0)) = true) ↔ (decide (x < 0) = decide (y < 0)) := by simp
theorem cz_sub (x y : Int) : sgz (x - y) = cz x y := by unfold sgz cz; split <;> split <;> (try split) <;> (try split) <;> omega
end Go.Proofs.YtfcpigjmagbnkaaGreatDoor
