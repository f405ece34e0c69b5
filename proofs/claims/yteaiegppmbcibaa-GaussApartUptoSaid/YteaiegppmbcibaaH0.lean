/-
  Plain laws: sums and products of lists of coefficients, and their values.
-/
import Derived.Test.YteaiegppmbcibaaGM
namespace Go.Proofs.Yteaiegppmbcibaa
set_option linter.unusedSimpArgs false
set_option linter.unusedVariables false
set_option maxHeartbeats 10000000
def Cb (l : List Int) (m : Nat) : Prop := ∀ i, (l.getD i 0).natAbs ≤ m
theorem wsum_Cb {s m : Nat} : ∀ {l : List Int}, Cb l m → ∀ n, l.length ≤ n → wsum s l ≤ m * wsum s (List.replicate n 1)
  | [], _, n, _ => Nat.zero_le _
  | x :: r, h, 0, hn => by simp at hn
  | x :: r, h, n + 1, hn => by
    have h0 := h 0
    simp only [List.getD_cons_zero] at h0
    have ih := wsum_Cb (s := s) (l := r) (fun i => by have := h (i + 1); simpa only [List.getD_cons_succ] using this) n (by simpa using hn)
    simp only [wsum, List.replicate_succ, Int.natAbs_one]
    have := Nat.mul_le_mul_left s ih
    rw [Nat.mul_add, Nat.mul_one, Nat.mul_left_comm]
    omega
theorem wsum_mono {s t : Nat} (h : s ≤ t) : ∀ (l : List Int), wsum s l ≤ wsum t l
  | [] => Nat.le_refl _
  | x :: r => by
    simp only [wsum]
    have := Nat.mul_le_mul h (wsum_mono h r)
    omega
end Go.Proofs.Yteaiegppmbcibaa
namespace Go.Proofs.Yteaiegppmbcibaa
theorem Cb_mem {l : List Int} {m : Nat} (h : Cb l m) : ∀ c, c ∈ l → c.natAbs ≤ m := fun c hc => by
  obtain ⟨i, hi⟩ := List.getElem?_of_mem hc
  have := h i
  rwa [List.getD_eq_getElem?_getD, hi] at this
end Go.Proofs.Yteaiegppmbcibaa
