/-
  Plain numbers: a product as at school, in place; a product of halves.
-/
import Derived.Test.YteaiegppmbcibaaGD
import Derived.Lib.Mul64
import Derived.WalkKit
import Derived.Lib.Walk
import Derived.Lib.SliceRun
import Derived.Lib.AppendZerosOnto
namespace Go.Proofs.Yteaiegppmbcibaa
open Go Go.RowKit Ab
set_option linter.unusedSimpArgs false
set_option linter.unusedVariables false
set_option maxHeartbeats 10000000
theorem nv_set {b : Nat} : ∀ (l : List Nat) (i x : Nat), i < l.length → nv b (l.set i x) + b ^ i * l.getD i 0 = nv b l + b ^ i * x
  | [], i, x, h => by simp at h
  | y :: l, 0, x, h => by
    show nv b (x :: l) + b ^ 0 * y = nv b (y :: l) + b ^ 0 * x
    rw [nv_cons, nv_cons, Nat.pow_zero]; omega
  | y :: l, i + 1, x, h => by
    have ih := nv_set (b := b) l i x (by simpa using h)
    show nv b (y :: l.set i x) + b ^ (i + 1) * l.getD i 0 = nv b (y :: l) + b ^ (i + 1) * x
    rw [nv_cons, nv_cons, Nat.pow_succ, Nat.mul_comm (b ^ i) b, Nat.mul_assoc, Nat.mul_assoc]
    have := congrArg (b * ·) ih
    simp only [Nat.mul_add] at this
    omega
theorem getD_set_ne (l : List Nat) (i j x : Nat) (h : i ≠ j) : (l.set i x).getD j 0 = l.getD j 0 := by
  rw [List.getD_eq_getElem?_getD, List.getD_eq_getElem?_getD, List.getElem?_set_ne h]
end Go.Proofs.Yteaiegppmbcibaa
