/-
  Plain numbers: a product as at school, in place; a product of halves.
-/
import Derived.Test.YtdaedplbhpiacaaGF
namespace Go.Proofs.Ytdaedplbhpiacaa
open Go Go.RowKit Ab
set_option linter.unusedSimpArgs false
set_option linter.unusedVariables false
set_option maxHeartbeats 10000000
theorem nv_set {b : Nat} : ∀ (l : List Nat) (i x : Nat), i < l.length → nv b (l.set i x) + b ^ i * l.getD i 0 = nv b l + b ^ i * x
  | [], i, x, h => by simp at h
  | y :: l, 0, x, h => by
    show nv b (x :: l) + b ^ 0 * y = nv b (y :: l) + b ^ 0 * x
    rw [nv_cons, nv_cons, Nat.pow_zero]; omega
  | y :: l, i + 1, x, h => by
    have ih := nv_set (b := b) l i x (by simpa using h)
    show nv b (y :: l.set i x) + b ^ (i + 1) * l.getD i 0 = nv b (y :: l) + b ^ (i + 1) * x
    rw [nv_cons, nv_cons, Nat.pow_succ, Nat.mul_comm (b ^ i) b, Nat.mul_assoc, Nat.mul_assoc]
    have := congrArg (b * ·) ih
    simp only [Nat.mul_add] at this
    omega
theorem getD_set_ne (l : List Nat) (i j x : Nat) (h : i ≠ j) : (l.set i x).getD j 0 = l.getD j 0 := by
  rw [List.getD_eq_getElem?_getD, List.getD_eq_getElem?_getD, List.getElem?_set_ne h]
theorem mul_step {S T c k w x : Nat} {l : List Nat} (hk : k < l.length) (hR : nv B l + B ^ k * c = S + T) :
    nv B (l.set k ((x * w + c + l.getD k 0) % B)) + B ^ (k + 1) * ((x * w + c + l.getD k 0) / B) = S + (T + B ^ k * (x * w)) := by
  have h1 := nv_set (b := B) l k ((x * w + c + l.getD k 0) % B) hk
  have h2 := Nat.mod_add_div (x * w + c + l.getD k 0) B
  have h3 : B ^ k * ((x * w + c + l.getD k 0) % B) + B ^ (k + 1) * ((x * w + c + l.getD k 0) / B) = B ^ k * (x * w) + B ^ k * c + B ^ k * l.getD k 0 := by
    rw [Nat.pow_succ, Nat.mul_assoc, ← Nat.mul_add, h2, Nat.mul_add, Nat.mul_add]
  omega
theorem kar {n a1 a0 b1 b0 : Nat} : (a0 + B ^ n * a1) * (b0 + B ^ n * b1) = a1 * b1 * B ^ (2 * n) + ((a1 + a0) * (b1 + b0) - (a1 * b1 + a0 * b0)) * B ^ n + a0 * b0 ∧ a1 * b1 + a0 * b0 ≤ (a1 + a0) * (b1 + b0) := by
  have e : (a1 + a0) * (b1 + b0) = a1 * b1 + a0 * b0 + (a1 * b0 + a0 * b1) := by rw [Nat.add_mul, Nat.mul_add, Nat.mul_add]; omega
  refine ⟨?_, by omega⟩
  rw [e, Nat.add_sub_cancel_left, Nat.two_mul, Nat.pow_add]
  generalize B ^ n = P
  rw [Nat.add_mul, Nat.mul_add, Nat.mul_add, Nat.add_mul (a1 * b0)]
  have h1 : P * a1 * (P * b1) = a1 * b1 * (P * P) := by rw [Nat.mul_comm P a1, Nat.mul_mul_mul_comm, Nat.mul_comm P b1, ← Nat.mul_assoc, ← Nat.mul_assoc, Nat.mul_right_comm a1 P b1, Nat.mul_assoc (a1 * b1)]
  have h2 : P * a1 * b0 = a1 * b0 * P := by rw [Nat.mul_comm P a1, Nat.mul_right_comm]
  have h3 : a0 * (P * b1) = a0 * b1 * P := by rw [Nat.mul_comm P b1, ← Nat.mul_assoc]
  rw [h1, h2, h3]; omega
end Go.Proofs.Ytdaedplbhpiacaa
