/-
  surdref02: shifts.
-/
import Derived.Test.YtfcpigjmagbnkaaGreatDoorGH
import Derived.Test.YtfcpigjmagbnkaaGreatDoorGE
namespace Go.Proofs.YtfcpigjmagbnkaaGreatDoor
open Go Go.RowKit Ab
set_option linter.unusedSimpArgs false
set_option linter.unusedVariables false
set_option maxHeartbeats 10000000
theorem bz_RSh : type_of% (And.intro @W_len (And.intro @D_len (And.intro @Bl_len (And.intro @Nat.div_one (And.intro @Nat.mul_one (And.intro @tn_nat (And.intro @W_nf (And.intro @D_nf (And.intro @Bl_nf (And.intro @W_nil (And.intro @D_nil (And.intro @Bl_nil (And.intro @wi (@nv_dgB)))))))))))))) := And.intro @W_len (And.intro @D_len (And.intro @Bl_len (And.intro @Nat.div_one (And.intro @Nat.mul_one (And.intro @tn_nat (And.intro @W_nf (And.intro @D_nf (And.intro @Bl_nf (And.intro @W_nil (And.intro @D_nil (And.intro @Bl_nil (And.intro @wi (@nv_dgB)))))))))))))
theorem mn (a b : Nat) : min (a : Int) (b : Int) = ((min a b : Nat) : Int) := by omega
end Go.Proofs.YtfcpigjmagbnkaaGreatDoor
