/-
  Plain: texts of rationals.
-/
import Derived.Test.YtgejbndgakgfnaaGreatDoorZT0
namespace Go.Proofs.YtgejbndgakgfnaaGreatDoor
set_option linter.unusedSimpArgs false
set_option linter.unusedVariables false
set_option maxHeartbeats 10000000
def slA (s : List UInt8) : Nat := (s.takeWhile fun c => c != 47).length
theorem slA_cons (c : UInt8) (s : List UInt8) : slA (c :: s) = if c = 47 then 0 else slA s + 1 := by
  unfold slA
  by_cases h : c = 47
  · subst h; rfl
  · rw [List.takeWhile_cons, show (c != 47) = true from by simpa using h, if_pos rfl, if_neg h]; rfl
theorem slA_le : ∀ s, slA s ≤ s.length
  | [] => Nat.le_refl _
  | c :: s => by
    rw [slA_cons, List.length_cons]
    split
    · omega
    · have := slA_le s; omega
theorem slA_get : ∀ {s : List UInt8}, slA s < s.length → s.getD (slA s) 0 = 47
  | [], h => by simp at h
  | c :: s, h => by
    rw [slA_cons] at h ⊢
    by_cases hc : c = 47
    · rw [if_pos hc]; exact hc
    · rw [if_neg hc] at h ⊢
      exact slA_get (s := s) (by rw [List.length_cons] at h; omega)
theorem slA_none {s : List UInt8} (hj : ∀ j, j < s.length → s.getD j 0 ≠ 47) : slA s = s.length := by
  rcases Nat.lt_or_ge (slA s) s.length with h | h
  · exact absurd (slA_get h) (hj _ h)
  · exact Nat.le_antisymm (slA_le s) h
def digV (t : List UInt8) : List Nat := if t.all isDg then dg 18446744073709551616 (numT t) else []
def digB (t : List UInt8) : Bool := decide (t ≠ []) && t.all isDg
theorem numT_zero (t : List UInt8) : numT (48 :: t) = numT t := by
  unfold numT dgsT
  rw [List.reverse_cons, List.map_append, nv_app]
  show _ + _ * nv 10 [0] = _
  rw [show nv 10 [0] = 0 from rfl, Nat.mul_zero, Nat.add_zero]
def trZ (t : List UInt8) : List UInt8 := t.dropWhile fun c => c == 48
def trT (t : List UInt8) : List UInt8 := if trZ t = [] then [48] else trZ t
theorem trZ_cons (c : UInt8) (t : List UInt8) : trZ (c :: t) = if c = 48 then trZ t else c :: t := by
  unfold trZ
  rw [List.dropWhile_cons]
  by_cases h : c = 48
  · rw [if_pos h, if_pos (by simpa using h)]
  · rw [if_neg h, if_neg (by simpa using h)]
theorem trZ_num : ∀ t, numT (trZ t) = numT t
  | [] => rfl
  | c :: t => by
    rw [trZ_cons]
    split
    · rename_i h; rw [h, numT_zero]; exact trZ_num t
    · rfl
theorem trZ_all : ∀ t : List UInt8, (trZ t).all isDg = t.all isDg
  | [] => rfl
  | c :: t => by
    rw [trZ_cons]
    split
    · rename_i h; rw [trZ_all t, List.all_cons, h]; rfl
    · rfl
theorem trZ_head : ∀ t : List UInt8, trZ t = [] ∨ (trZ t).getD 0 0 ≠ 48
  | [] => .inl rfl
  | c :: t => by
    rw [trZ_cons]
    split
    · exact trZ_head t
    · rename_i h; exact .inr h
theorem trT_ok (t : List UInt8) : okN (trT t) = t.all isDg ∧ numT (trT t) = numT t := by
  unfold trT
  by_cases h : trZ t = []
  · rw [if_pos h, ← trZ_all t, ← trZ_num t, h]; exact ⟨rfl, rfl⟩
  · rw [if_neg h, trZ_num]
    refine ⟨?_, rfl⟩
    have h0 := (trZ_head t).resolve_left h
    rw [← trZ_all t]
    unfold okN
    rw [decide_eq_true ⟨h, fun e => h0 e.2⟩, Bool.true_and]
def topT (b : List UInt8) : List UInt8 := b.take (slA b)
def undT (b : List UInt8) : List UInt8 := b.drop (slA b + 1)
def mrT (b : List UInt8) : Bool := decide (slA b < b.length)
def okQ (s : List UInt8) : Bool := digB (topT (bdT s)) && (!(mrT (bdT s)) || digB (undT (bdT s)))
def numQ (s : List UInt8) : Nat := numT (topT (bdT s))
def denQ (s : List UInt8) : Nat := if mrT (bdT s) then numT (undT (bdT s)) else 1
end Go.Proofs.YtgejbndgakgfnaaGreatDoor
