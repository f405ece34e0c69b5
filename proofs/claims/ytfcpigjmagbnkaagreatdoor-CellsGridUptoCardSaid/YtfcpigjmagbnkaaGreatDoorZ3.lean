/-
  surdref04.Mul: at school, in base 256.
-/
import Derived.Test.YtfcpigjmagbnkaaGreatDoorGH
import Derived.Test.YtfcpigjmagbnkaaGreatDoorNM8
namespace Go.Proofs.YtfcpigjmagbnkaaGreatDoor
open Go Go.RowKit Ab
set_option linter.unusedSimpArgs false
set_option linter.unusedVariables false
set_option maxHeartbeats 10000000
theorem bz_Z3 : type_of% (And.intro @W_len (And.intro @D_len (And.intro @Nat.div_one (And.intro @Nat.mul_one (And.intro @tn_nat (And.intro @W_nf (And.intro @D_nf (And.intro @W_nil (And.intro @D_nil (And.intro @wi (@D_get))))))))))) := And.intro @W_len (And.intro @D_len (And.intro @Nat.div_one (And.intro @Nat.mul_one (And.intro @tn_nat (And.intro @W_nf (And.intro @D_nf (And.intro @W_nil (And.intro @D_nil (And.intro @wi (@D_get))))))))))
theorem tn_pq (a b : Nat) : ((a : Int) + (b : Int)).toNat = a + b := by omega
theorem acc_bnd {s i x y : Nat} (h : s ≤ 65025 * i) (hx : x < 256) (hy : y < 256) : s + x * y ≤ 65025 * (i + 1) := by
  have h1 : x * y ≤ 255 * 255 := Nat.mul_le_mul (by omega) (by omega)
  omega
end Go.Proofs.YtfcpigjmagbnkaaGreatDoor
