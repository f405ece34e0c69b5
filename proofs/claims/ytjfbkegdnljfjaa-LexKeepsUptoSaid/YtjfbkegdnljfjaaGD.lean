/-
  The texts NM, B0, Ext, NM2, NM3, NM4, Limb1, Limb2, Limb3, Nat1.
-/
import Derived.Test.YtjfbkegdnljfjaaGC
import Derived.Test.YtjfbkegdnljfjaaRows
import Derived.Laws.Externs
namespace Go.Proofs.Ytjfbkegdnljfjaa
set_option linter.unusedSimpArgs false
set_option linter.unusedVariables false
set_option maxHeartbeats 10000000
section
variable {b : Nat}
end
end Go.Proofs.Ytjfbkegdnljfjaa
namespace Go.Proofs.Ytjfbkegdnljfjaa
open Go Go.RowKit Ab
set_option linter.unusedSimpArgs false
set_option linter.unusedVariables false
set_option maxHeartbeats 10000000
def J0 : World → Prop := fun _ => True
theorem J0s : ∀ (w : World) (e : Nat → Prop) (w' : World), J0 w → BelE w e w' → J0 w' := fun _ _ _ _ _ => trivial
theorem fol : Try.prog.follows .mixedOrders = true := by kernel_rfl
def W (a : List Nat) : List V := a.map fun x : Nat => .i .u64 (x : Int)
def B : Nat := 18446744073709551616
theorem wi {n : Int} (h : -9223372036854775808 ≤ n ∧ n < 9223372036854775808) : IntKind.i64.wrap n = n := by
  rw [IntKind.wrap_i64]; omega
theorem c0 : ((0 : Nat) : Int) = 0 := rfl
theorem c2 : ((2 : Nat) : Int) = 2 := rfl
theorem c3 : ((3 : Nat) : Int) = 3 := rfl
theorem c13 : ((13 : Nat) : Int) = 13 := rfl
theorem c1 : ((1 : Nat) : Int) = 1 := rfl
theorem tn_nat (n : Nat) : (n : Int).toNat = n := rfl
theorem S1 : type_of% (And.intro S0 (And.intro c0 (And.intro c1 (And.intro c2 (And.intro c3 c13))))) := And.intro S0 (And.intro c0 (And.intro c1 (And.intro c2 (And.intro c3 c13))))
end Go.Proofs.Ytjfbkegdnljfjaa
namespace Go.Proofs.Ytjfbkegdnljfjaa
open Go Go.RowKit Ab
set_option linter.unusedSimpArgs false
set_option linter.unusedVariables false
set_option maxHeartbeats 10000000
end Go.Proofs.Ytjfbkegdnljfjaa
namespace Go.Proofs.Ytjfbkegdnljfjaa
set_option linter.unusedSimpArgs false
set_option linter.unusedVariables false
set_option maxHeartbeats 10000000
section
variable {b : Nat}
end
end Go.Proofs.Ytjfbkegdnljfjaa
namespace Go.Proofs.Ytjfbkegdnljfjaa
open Go Go.RowKit Ab
set_option linter.unusedSimpArgs false
set_option linter.unusedVariables false
set_option maxHeartbeats 10000000
end Go.Proofs.Ytjfbkegdnljfjaa
namespace Go.Proofs.Ytjfbkegdnljfjaa
open Go Go.RowKit Ab
set_option linter.unusedSimpArgs false
set_option linter.unusedVariables false
set_option maxHeartbeats 10000000
def bl (x : Nat) : Nat := if x = 0 then 0 else x.log2 + 1
end Go.Proofs.Ytjfbkegdnljfjaa
namespace Go.Proofs.Ytjfbkegdnljfjaa
open Go Go.RowKit Ab
set_option linter.unusedSimpArgs false
set_option linter.unusedVariables false
set_option maxHeartbeats 10000000
end Go.Proofs.Ytjfbkegdnljfjaa
namespace Go.Proofs.Ytjfbkegdnljfjaa
open Go Go.RowKit Ab
set_option linter.unusedSimpArgs false
set_option linter.unusedVariables false
set_option maxHeartbeats 10000000
theorem mx (a b : Nat) : max (a : Int) (b : Int) = ((max a b : Nat) : Int) := by omega
end Go.Proofs.Ytjfbkegdnljfjaa
namespace Go.Proofs.Ytjfbkegdnljfjaa
open Go Go.RowKit Ab
set_option linter.unusedSimpArgs false
set_option linter.unusedVariables false
set_option maxHeartbeats 10000000
end Go.Proofs.Ytjfbkegdnljfjaa
namespace Go.Proofs.Ytjfbkegdnljfjaa
open Go Go.RowKit Ab
set_option linter.unusedSimpArgs false
set_option linter.unusedVariables false
set_option maxHeartbeats 10000000
theorem B0 : 0 < B := by decide
end Go.Proofs.Ytjfbkegdnljfjaa
