/-
  zpoly: sums, products; the law's small polynomials.
-/
import Derived.Test.YteaiegppmbcibaaLGKn
import Derived.Test.YteaiegppmbcibaaH0
namespace Go.Proofs.Yteaiegppmbcibaa
open Go Go.RowKit Ab
set_option linter.unusedSimpArgs false
set_option linter.unusedVariables false
set_option maxHeartbeats 10000000
theorem ZN_len (l : List Int) : (ZC (nfl l)).length = l.length * 2 := by rw [ZC_len, nfl_len]
theorem Cb_B {l : List Int} {m : Nat} (h : Cb l m) (hm : m < 18446744073709551616) : ∀ c, c ∈ l → c.natAbs < 18446744073709551616 := fun c hc => Nat.lt_of_le_of_lt (Cb_mem h c hc) hm
end Go.Proofs.Yteaiegppmbcibaa
