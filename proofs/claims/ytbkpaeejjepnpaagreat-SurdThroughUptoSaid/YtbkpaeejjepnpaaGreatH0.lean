/-
  Plain laws: sums and products of lists of coefficients, and their values.
-/
import Derived.Test.YtbkpaeejjepnpaaGreatGM
namespace Go.Proofs.YtbkpaeejjepnpaaGreat
set_option linter.unusedSimpArgs false
set_option linter.unusedVariables false
set_option maxHeartbeats 10000000
def Cb (l : List Int) (m : Nat) : Prop := ∀ i, (l.getD i 0).natAbs ≤ m
def hsum (z : GZ) (f : Nat → Int) : Nat → GZ
  | 0 => (0, 0)
  | n + 1 => gadd (hsum z f n) (gmul (f n, 0) (gpow z n))
end Go.Proofs.YtbkpaeejjepnpaaGreat
namespace Go.Proofs.YtbkpaeejjepnpaaGreat
def mrow (O : List Int) (i : Nat) (a : Int) (b : List Int) : Nat → List Int
  | 0 => O
  | j + 1 => (mrow O i a b j).set (i + j) ((mrow O i a b j).getD (i + j) 0 + a * b.getD j 0)
def mulF (a b : List Int) (n : Nat) : Nat → List Int
  | 0 => List.replicate n 0
  | i + 1 => mrow (mulF a b n i) i (a.getD i 0) b b.length
theorem mrow_len (O : List Int) (i : Nat) (a : Int) (b : List Int) : ∀ j, (mrow O i a b j).length = O.length
  | 0 => rfl
  | j + 1 => by rw [mrow, List.length_set, mrow_len O i a b j]
theorem mulF_len (a b : List Int) (n : Nat) : ∀ i, (mulF a b n i).length = n
  | 0 => by simp [mulF]
  | i + 1 => by rw [mulF, mrow_len, mulF_len a b n i]
theorem take_snoc' (l : List Int) (k : Nat) (h : k < l.length) : l.take (k + 1) = l.take k ++ [l.getD k 0] := by
  rw [List.take_succ_eq_append_getElem h, List.getD_eq_getElem?_getD, List.getElem?_eq_getElem h]; rfl
theorem getD_set5 (l : List Int) (n k : Nat) (x : Int) : (l.set n x).getD k 0 = if n = k then (if n < l.length then x else 0) else l.getD k 0 := by
  rw [List.getD_eq_getElem?_getD, List.getElem?_set, List.getD_eq_getElem?_getD]
  by_cases h : n = k
  · rw [if_pos h, if_pos h]
    split <;> rfl
  · rw [if_neg h, if_neg h]
theorem mrow_Cb {O b : List Int} {i m : Nat} {a : Int} (ha : a.natAbs ≤ m) (hb : Cb b m) : ∀ (j k : Nat), ((mrow O i a b j).getD k 0).natAbs ≤ (O.getD k 0).natAbs + (if i ≤ k ∧ k < i + j then m * m else 0)
  | 0, k => by rw [mrow]; omega
  | j + 1, k => by
    have ih := mrow_Cb (O := O) (i := i) ha hb j k
    have hp : (a * b.getD j 0).natAbs ≤ m * m := by rw [Int.natAbs_mul]; exact Nat.mul_le_mul ha (hb j)
    rw [mrow, getD_set5]
    generalize a * b.getD j 0 = h at *
    generalize m * m = mm at *
    by_cases hk : i + j = k
    · subst hk
      rw [if_neg (by omega)] at ih
      rw [if_pos rfl, if_pos (show i ≤ i + j ∧ i + j < i + (j + 1) by omega)]
      generalize (mrow O i a b j).getD (i + j) 0 = u at *
      generalize O.getD (i + j) 0 = v at *
      split <;> omega
    · rw [if_neg hk]
      by_cases h2 : i ≤ k ∧ k < i + j
      · rw [if_pos h2] at ih
        rw [if_pos (by omega)]; exact ih
      · rw [if_neg h2] at ih
        refine Nat.le_trans ih (Nat.le_add_right _ _)
theorem mulF_Cb {a b : List Int} {n m : Nat} (ha : Cb a m) (hb : Cb b m) : ∀ i, Cb (mulF a b n i) (i * (m * m))
  | 0 => fun k => by
    rw [mulF, List.getD_eq_getElem?_getD, List.getElem?_replicate]
    split <;> simp
  | i + 1 => fun k => by
    have h1 := mulF_Cb (n := n) ha hb i k
    have h2 := mrow_Cb (O := mulF a b n i) (i := i) (ha i) hb b.length k
    rw [mulF]
    refine Nat.le_trans h2 ?_
    rw [Nat.succ_mul]
    split <;> omega
def mull (a b : List Int) : List Int := if a.length = 0 ∨ b.length = 0 then [] else tzi (mulF a b (a.length + b.length - 1) a.length)
end Go.Proofs.YtbkpaeejjepnpaaGreat
