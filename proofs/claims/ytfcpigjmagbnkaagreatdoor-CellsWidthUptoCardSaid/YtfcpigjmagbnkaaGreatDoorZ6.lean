/-
  zz, surdref07: plain ints, forms, bits.
-/
import Derived.Test.YtfcpigjmagbnkaaGreatDoorZ2
import Derived.Test.YtfcpigjmagbnkaaGreatDoorGG
import Derived.Test.YtfcpigjmagbnkaaGreatDoorGE
import Derived.Test.YtfcpigjmagbnkaaGreatDoorGC
import Derived.Test.YtfcpigjmagbnkaaGreatDoorNM8
import Derived.Test.YtfcpigjmagbnkaaGreatDoorGD
import Derived.Test.YtfcpigjmagbnkaaGreatDoorZb
namespace Go.Proofs.YtfcpigjmagbnkaaGreatDoor
open Go Go.RowKit Ab
set_option linter.unusedSimpArgs false
set_option linter.unusedVariables false
set_option maxHeartbeats 10000000
theorem bz_Z6 : type_of% (And.intro @Bool.false_and (And.intro @Bool.true_and (And.intro @wi (And.intro @tn_nat (And.intro @Nat.div_one (And.intro @Nat.mul_one (And.intro @W_len (And.intro @W_nf (And.intro @W_cell (And.intro @W_nil (And.intro @W_get (@nf_g)))))))))))) := And.intro @Bool.false_and (And.intro @Bool.true_and (And.intro @wi (And.intro @tn_nat (And.intro @Nat.div_one (And.intro @Nat.mul_one (And.intro @W_len (And.intro @W_nf (And.intro @W_cell (And.intro @W_nil (And.intro @W_get (@nf_g)))))))))))
def a80 : AC := .seq (.reg [qr 1 (.bx 25 (.t 0)),
 qr 2 (.mv (.k (.i .i64 0)))])
 (.seq (.reg [qr 3 (.fad 1 (.t 1)),
 qr 4 (.ld false 1 (.t 3)),
 qr 5 (.call 79 [(1, (.t 4))]),
 qm 2 5])
 (.ret))
theorem zbits_spec (s : Bool) (a : List Nat) (ha : Wd a) (la : a.length ≤ 1000000000) : AFun Tryz.prog J0 80 [zL s a] (.i .i64 ((bl (nv B a) : Nat) : Int)) := by
  have h := natBits_spec a ha (by omega)
  refine mkQ fol J0s Tryz.func80 a80 ?_
  unfold a80
  simp only [init_eq, initE, qm, qr, qn]
  exact wdQ (ai @lnilA @bz_Z6)
end Go.Proofs.YtfcpigjmagbnkaaGreatDoor
