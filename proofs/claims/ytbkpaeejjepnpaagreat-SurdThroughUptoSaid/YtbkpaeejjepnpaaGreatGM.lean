/-
  Gaussian integers, plainly: size, sums, products, powers, values, turns, squares.
-/
import Derived.Test.YtbkpaeejjepnpaaGreatGD
namespace Go.Proofs.YtbkpaeejjepnpaaGreat
set_option linter.unusedSimpArgs false
set_option linter.unusedVariables false
set_option maxHeartbeats 10000000
abbrev GZ := Int × Int
def gsz (z : GZ) : Nat := z.1.natAbs + z.2.natAbs
def gadd (x y : GZ) : GZ := (x.1 + y.1, x.2 + y.2)
def gmul (x y : GZ) : GZ := (x.1 * y.1 - x.2 * y.2, x.1 * y.2 + x.2 * y.1)
def gpow (x : GZ) : Nat → GZ
  | 0 => (1, 0)
  | n + 1 => gmul (gpow x n) x
abbrev SM : Nat := 1125899906842624
def wsum (s : Nat) : List Int → Nat
  | [] => 0
  | c :: r => c.natAbs + s * wsum s r
def tzi : List Int → List Int
  | [] => []
  | x :: r => if x = 0 ∧ tzi r = [] then [] else x :: tzi r
theorem tzi_split : ∀ (l : List Int), ∃ n, l = tzi l ++ List.replicate n 0
  | [] => ⟨0, rfl⟩
  | x :: l => by
    obtain ⟨n, h⟩ := tzi_split l
    simp only [tzi]
    split
    · rename_i hx
      refine ⟨n + 1, ?_⟩
      rw [hx.2] at h
      rw [List.replicate_succ, h, hx.1]; simp
    · exact ⟨n, by rw [List.cons_append, ← h]⟩
theorem tzi_len (l : List Int) : (tzi l).length ≤ l.length := by
  obtain ⟨n, h⟩ := tzi_split l
  have := congrArg List.length h
  simp at this; omega
theorem tzi_take (l : List Int) : l.take (tzi l).length = tzi l := by
  obtain ⟨n, h⟩ := tzi_split l
  have : (tzi l ++ List.replicate n 0).take (tzi l).length = tzi l := by simp
  rw [← h] at this; exact this
theorem tzi_rep (n : Nat) : tzi (List.replicate n 0) = [] := by
  induction n with
  | zero => rfl
  | succ n ih => rw [List.replicate_succ, tzi, ih]; simp
theorem tzi_app_rep : ∀ (l : List Int) (n : Nat), tzi (l ++ List.replicate n 0) = tzi l
  | [], n => tzi_rep n
  | x :: l, n => by simp only [List.cons_append, tzi, tzi_app_rep l n]
theorem tzi_zero (l : List Int) (i : Nat) (hi : i < l.length) (h0 : l.getD i 0 = 0) : tzi (l.take (i + 1)) = tzi (l.take i) := by
  rw [List.take_succ_eq_append_getElem hi]
  have : l[i] = 0 := by rw [List.getD_eq_getElem?_getD, List.getElem?_eq_getElem hi] at h0; exact h0
  rw [this]
  exact tzi_app_rep _ 1
theorem tzi_last : ∀ (l : List Int) (x : Int), x ≠ 0 → tzi (l ++ [x]) = l ++ [x]
  | [], x, h => by simp [tzi, h]
  | y :: l, x, h => by simp [tzi, tzi_last l x h]
theorem tzi_top (l : List Int) (i : Nat) (hi : i < l.length) (h0 : l.getD i 0 ≠ 0) : tzi (l.take (i + 1)) = l.take (i + 1) := by
  rw [List.take_succ_eq_append_getElem hi, tzi_last _ _ (by rw [List.getD_eq_getElem?_getD, List.getElem?_eq_getElem hi] at h0; exact h0)]
def vOk (l : List Int) (z : GZ) : Prop := gsz z < SM ∧ wsum (max (gsz z) 1) l < SM
instance (l : List Int) (z : GZ) : Decidable (vOk l z) := by unfold vOk; infer_instance
end Go.Proofs.YtbkpaeejjepnpaaGreat
