/-
  zz: quotients, shifts.
-/
import Derived.Test.YteaiegppmbcibaaZ1
namespace Go.Proofs.Yteaiegppmbcibaa
open Go Go.RowKit Ab
set_option linter.unusedSimpArgs false
set_option linter.unusedVariables false
set_option maxHeartbeats 10000000
def zr (x y : Int) : Int := if y = 0 then 0 else x.tmod y
theorem zv_lt {s : Bool} {a : List Nat} {m : Nat} (ha : Wd a) (la : a.length ≤ m) : (zv s a).natAbs < B ^ m := by rw [zv_abs]; exact nvlt ha la
end Go.Proofs.Yteaiegppmbcibaa
