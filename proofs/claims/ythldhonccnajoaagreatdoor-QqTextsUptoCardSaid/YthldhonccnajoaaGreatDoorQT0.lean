/-
  Plain: texts of rationals.
-/
import Derived.Test.YthldhonccnajoaaGreatDoorZT0
namespace Go.Proofs.YthldhonccnajoaaGreatDoor
set_option linter.unusedSimpArgs false
set_option linter.unusedVariables false
set_option maxHeartbeats 10000000
def slA (s : List UInt8) : Nat := (s.takeWhile fun c => c != 47).length
theorem slA_nil : slA [] = 0 := rfl
theorem slA_cons (c : UInt8) (s : List UInt8) : slA (c :: s) = if c = 47 then 0 else slA s + 1 := by
  unfold slA
  by_cases h : c = 47
  · subst h; rfl
  · rw [List.takeWhile_cons, show (c != 47) = true from by simpa using h, if_pos rfl, if_neg h]; rfl
theorem slA_le : ∀ s, slA s ≤ s.length
  | [] => Nat.le_refl _
  | c :: s => by
    rw [slA_cons, List.length_cons]
    split
    · omega
    · have := slA_le s; omega
theorem slA_drop {s : List UInt8} {k : Nat} (h : k < s.length) : slA (s.drop k) = if s.getD k 0 = 47 then 0 else slA (s.drop (k + 1)) + 1 := by
  rw [List.drop_eq_getElem_cons h, slA_cons, List.getD_eq_getElem?_getD, List.getElem?_eq_getElem h]; rfl
def digV (t : List UInt8) : List Nat := if t.all isDg then dg 18446744073709551616 (numT t) else []
def digB (t : List UInt8) : Bool := decide (t ≠ []) && t.all isDg
theorem numT_zero (t : List UInt8) : numT (48 :: t) = numT t := by
  unfold numT dgsT
  rw [List.reverse_cons, List.map_append, nv_app]
  show _ + _ * nv 10 [0] = _
  rw [show nv 10 [0] = 0 from rfl, Nat.mul_zero, Nat.add_zero]
theorem numT_nil : numT [] = 0 := rfl
theorem numT_snoc {t : List UInt8} {i : Nat} (h : i < t.length) : numT (t.take (i + 1)) = numT (t.take i) * 10 + dvl (t.getD i 0) := by
  unfold numT dgsT
  rw [List.take_succ_eq_append_getElem h, List.reverse_append, List.map_append, List.getD_eq_getElem?_getD, List.getElem?_eq_getElem h]
  show nv 10 (dvl t[i] :: _) = _
  rw [nv_cons, Nat.mul_comm]
  exact Nat.add_comm _ _
def trZ (t : List UInt8) : List UInt8 := t.dropWhile fun c => c == 48
def trT (t : List UInt8) : List UInt8 := if trZ t = [] then [48] else trZ t
theorem trZ_cons (c : UInt8) (t : List UInt8) : trZ (c :: t) = if c = 48 then trZ t else c :: t := by
  unfold trZ
  rw [List.dropWhile_cons]
  by_cases h : c = 48
  · rw [if_pos h, if_pos (by simpa using h)]
  · rw [if_neg h, if_neg (by simpa using h)]
theorem trZ_num : ∀ t, numT (trZ t) = numT t
  | [] => rfl
  | c :: t => by
    rw [trZ_cons]
    split
    · rename_i h; rw [h, numT_zero]; exact trZ_num t
    · rfl
theorem trZ_all : ∀ t : List UInt8, (trZ t).all isDg = t.all isDg
  | [] => rfl
  | c :: t => by
    rw [trZ_cons]
    split
    · rename_i h; rw [trZ_all t, List.all_cons, h]; rfl
    · rfl
theorem trZ_head : ∀ t : List UInt8, trZ t = [] ∨ (trZ t).getD 0 0 ≠ 48
  | [] => .inl rfl
  | c :: t => by
    rw [trZ_cons]
    split
    · exact trZ_head t
    · rename_i h; exact .inr h
theorem trT_ok (t : List UInt8) : okN (trT t) = t.all isDg ∧ numT (trT t) = numT t := by
  unfold trT
  by_cases h : trZ t = []
  · rw [if_pos h, ← trZ_all t, ← trZ_num t, h]; exact ⟨rfl, rfl⟩
  · rw [if_neg h, trZ_num]
    refine ⟨?_, rfl⟩
    have h0 := (trZ_head t).resolve_left h
    rw [← trZ_all t]
    unfold okN
    rw [decide_eq_true ⟨h, fun e => h0 e.2⟩, Bool.true_and]
def topT (b : List UInt8) : List UInt8 := b.take (slA b)
def undT (b : List UInt8) : List UInt8 := b.drop (slA b + 1)
def mrT (b : List UInt8) : Bool := decide (slA b < b.length)
def okQ (s : List UInt8) : Bool := digB (topT (bdT s)) && (!(mrT (bdT s)) || digB (undT (bdT s)))
def numQ (s : List UInt8) : Nat := numT (topT (bdT s))
def denQ (s : List UInt8) : Nat := if mrT (bdT s) then numT (undT (bdT s)) else 1
theorem okQ_dig {s : List UInt8} (h : okQ s = true) : (∀ c, c ∈ topT (bdT s) → isDg c = true) ∧ (mrT (bdT s) = true → ∀ c, c ∈ undT (bdT s) → isDg c = true) := by
  unfold okQ digB at h
  simp only [Bool.and_eq_true, Bool.or_eq_true, Bool.not_eq_true', List.all_eq_true] at h
  refine ⟨h.1.2, fun hm => ?_⟩
  rcases h.2 with h2 | h2
  · rw [hm] at h2; cases h2
  · exact h2.2
end Go.Proofs.YthldhonccnajoaaGreatDoor
