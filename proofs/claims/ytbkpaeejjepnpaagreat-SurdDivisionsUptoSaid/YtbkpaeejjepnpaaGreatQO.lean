/-
  Rational numbers: the order, as rational numbers; the simplest number's law.
-/
import Derived.Test.YtbkpaeejjepnpaaGreatQV
namespace Go.Proofs.YtbkpaeejjepnpaaGreat
open Go Go.RowKit Ab
set_option linter.unusedSimpArgs false
set_option linter.unusedVariables false
set_option maxHeartbeats 10000000
def cq (p q : Rat) : Int := if p < q then -1 else if p = q then 0 else 1
structure Smp (z : Int) (d : Nat) (w : Int) (e : Nat) (t : Int × Nat) : Prop where
  n0 : t.2 ≠ 0
  co : Nat.gcd t.1.natAbs t.2 = 1
  lo : z * (t.2 : Int) ≤ t.1 * (d : Int)
  hi : t.1 * (e : Int) ≤ w * (t.2 : Int)
  mi : ∀ (x : Int) (y : Nat), 0 < y → z * (y : Int) ≤ x * (d : Int) → x * (e : Int) ≤ w * (y : Int) → t.2 ≤ y
  bn : t.1.natAbs ≤ z.natAbs
  bd : t.2 ≤ d
end Go.Proofs.YtbkpaeejjepnpaaGreat
