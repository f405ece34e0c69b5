/-
  The texts Q16, Q17, Q18, Q19.
-/
import Derived.Test.YtbkpaeejjepnpaaGreatQD
namespace Go.Proofs.YtbkpaeejjepnpaaGreat
open Go Go.RowKit Ab
set_option linter.unusedSimpArgs false
set_option linter.unusedVariables false
set_option maxHeartbeats 10000000
theorem mul_lt {x y : Int} {m : Nat} (hx : x.natAbs < B ^ m) (hy : y.natAbs < B ^ m) : (x * y).natAbs < B ^ (m + m) := by
  rw [Int.natAbs_mul, Nat.pow_add]; exact Nat.mul_lt_mul'' hx hy
theorem mulN_lt {x y m : Nat} (hx : x < B ^ m) (hy : y < B ^ m) : x * y < B ^ (m + m) := by
  rw [Nat.pow_add]; exact Nat.mul_lt_mul'' hx hy
end Go.Proofs.YtbkpaeejjepnpaaGreat
namespace Go.Proofs.YtbkpaeejjepnpaaGreat
open Go Go.RowKit Ab
set_option linter.unusedSimpArgs false
set_option linter.unusedVariables false
set_option maxHeartbeats 10000000
theorem cap (m k K : Nat) (h : m * (K + 1) + 1 ≤ 1000000) (hk : k ≤ K) : m * k + 1 ≤ 1000000 ∧ m * (k + 1) + 1 ≤ 100000000 := by
  have h1 := Nat.mul_le_mul_left m (show k + 1 ≤ K + 1 by omega)
  have h2 := Nat.mul_le_mul_left m (show k ≤ k + 1 by omega)
  omega
end Go.Proofs.YtbkpaeejjepnpaaGreat
namespace Go.Proofs.YtbkpaeejjepnpaaGreat
open Go Go.RowKit Ab
set_option linter.unusedSimpArgs false
set_option linter.unusedVariables false
set_option maxHeartbeats 10000000
theorem rN_b (z : Int) (d : Nat) : rN z d = .g [.b (decide (z < 0)), .l 1 (W (dg B z.natAbs)), .l 1 (W (dg B d))] := rfl
end Go.Proofs.YtbkpaeejjepnpaaGreat
namespace Go.Proofs.YtbkpaeejjepnpaaGreat
open Go Go.RowKit Ab
set_option linter.unusedSimpArgs false
set_option linter.unusedVariables false
set_option maxHeartbeats 10000000
abbrev nul3 : Bool × List Nat × List Nat := (false, [], [])
theorem getD_mem {l : List (Bool × List Nat × List Nat)} {i : Nat} (h : i < l.length) : l.getD i nul3 ∈ l := by
  rw [List.getD_eq_getElem?_getD, List.getElem?_eq_getElem h]; exact List.getElem_mem _
theorem ce_0 {l : List (Bool × List Nat × List Nat)} (h : ce l = 0) {i : Nat} (hi : i < l.length) : nv B (l.getD i nul3).2.2 ≠ 0 := fun h0 => by
  unfold ce at h
  rw [if_pos (List.any_eq_true.2 ⟨_, getD_mem hi, by simpa using h0⟩)] at h
  exact absurd h (by decide)
theorem ce_01 (l : List (Bool × List Nat × List Nat)) : ce l = 0 ∨ ce l = 1 := by unfold ce; split; exact .inr rfl; exact .inl rfl
theorem ce_1 {l : List (Bool × List Nat × List Nat)} (h : ce l = 1) : ∃ i, i < l.length ∧ nv B (l.getD i nul3).2.2 = 0 ∧ ∀ u, u < i → nv B (l.getD u nul3).2.2 ≠ 0 := by
  have h1 : ∃ i, i < l.length ∧ nv B (l.getD i nul3).2.2 = 0 := by
    unfold ce at h
    split at h
    · rename_i ha
      obtain ⟨p, hp, h0⟩ := List.any_eq_true.1 ha
      obtain ⟨u, hu, rfl⟩ := List.getElem_of_mem hp
      exact ⟨u, hu, by rw [List.getD_eq_getElem?_getD, List.getElem?_eq_getElem hu]; simpa using h0⟩
    · exact absurd h (by decide)
  obtain ⟨i, hi, h0⟩ := h1
  have key : ∀ n i, i ≤ n → i < l.length → nv B (l.getD i nul3).2.2 = 0 → ∃ i, i < l.length ∧ nv B (l.getD i nul3).2.2 = 0 ∧ ∀ u, u < i → nv B (l.getD u nul3).2.2 ≠ 0 := by
    intro n
    induction n with
    | zero => intro i h1 h2 h3; exact ⟨i, h2, h3, fun u hu => by omega⟩
    | succ n ih =>
      intro i h1 h2 h3
      rcases Classical.em (∃ u, u < i ∧ nv B (l.getD u nul3).2.2 = 0) with ⟨u, hu, h4⟩ | h4
      · exact ih u (by omega) (by omega) h4
      · exact ⟨i, h2, h3, fun u hu h5 => h4 ⟨u, hu, h5⟩⟩
  exact key i i (Nat.le_refl _) hi h0
def pw (n : Int) : Int := if 120 < n ∧ n ≤ 4096 ∨ n < -120 ∧ -4096 ≤ n then n.tmod 120 else n
end Go.Proofs.YtbkpaeejjepnpaaGreat
