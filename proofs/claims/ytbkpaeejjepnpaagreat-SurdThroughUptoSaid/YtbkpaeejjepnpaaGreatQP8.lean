/-
  surdtop.SurdDivisions.
-/
import Derived.Test.YtbkpaeejjepnpaaGreatQP7
namespace Go.Proofs.YtbkpaeejjepnpaaGreat
open Go Go.RowKit Ab
set_option linter.unusedSimpArgs false
set_option linter.unusedVariables false
set_option maxHeartbeats 10000000
theorem wt_take : ∀ (l : R3) (n : Nat), wt (l.take n) ≤ wt l
  | [], n => by simp
  | p :: r, 0 => by simp [wt]
  | p :: r, n + 1 => by simp only [List.take_succ_cons, wt]; have := wt_take r n; omega
theorem Qw_k {l : R3} {m : Nat} (h : Qw l m) (hc : ce l = 0) : Qk l m := fun p hp => by
  obtain ⟨h1, h2, h3, h4⟩ := h p hp
  obtain ⟨i, hi, rfl⟩ := List.getElem_of_mem hp
  have := ce_0 hc hi
  rw [List.getD_eq_getElem?_getD, List.getElem?_eq_getElem hi] at this
  exact ⟨h1, h2, h3, h4, this⟩
theorem B_le {u v : Nat} (h : u ≤ v) : B ^ u ≤ B ^ v := Nat.pow_le_pow_right B0 h
theorem B_lt {x u v : Nat} (h : x ≤ B ^ u) (k : u < v) : x < B ^ v := Nat.lt_of_le_of_lt h (Nat.pow_lt_pow_right (by decide) k)
theorem B_mul {x y u v : Nat} (h : x ≤ B ^ u) (k : y ≤ B ^ v) : x * y ≤ B ^ (u + v) := by rw [Nat.pow_add]; exact Nat.mul_le_mul h k
theorem B_pow {x u : Nat} (h : x ≤ B ^ u) (j : Nat) : x ^ j ≤ B ^ (j * u) := by rw [Nat.mul_comm, Nat.pow_mul]; exact Nat.pow_le_pow_left h j
end Go.Proofs.YtbkpaeejjepnpaaGreat
