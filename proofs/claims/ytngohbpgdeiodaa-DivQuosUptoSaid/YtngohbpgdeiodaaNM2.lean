/-
  Plain numbers: adding, taking away, comparing, shifting lists of digits, digit by digit.
-/
import Derived.Test.YtngohbpgdeiodaaNM
namespace Go.Proofs.Ytngohbpgdeiodaa
set_option linter.unusedSimpArgs false
set_option linter.unusedVariables false
set_option maxHeartbeats 10000000
section
variable {b : Nat}
theorem nv_take_lt {l : List Nat} (hb : 0 < b) (h : Lt b l) (i : Nat) : nv b (l.take i) < b ^ i := by
  have h1 := nv_lt (Lt_take h i)
  exact Nat.lt_of_lt_of_le h1 (Nat.pow_le_pow_right hb (by rw [List.length_take]; exact Nat.min_le_left _ _))
/-- a word more, taken away -/
theorem sub_step {P A Y x y : Nat} (hP : 0 < P) (hA : A < P) (hY : Y < P) (hx : x < b) (hy : y < b) :
    ((A + P * x + P * b - (Y + P * y)) / P % b = (x + b - (y + if A < Y then 1 else 0)) % b) ∧ ((A + P * x + P * b - (Y + P * y)) % P = (A + P - Y) % P) ∧ ((A + P * x < Y + P * y) ↔ (x < y + if A < Y then 1 else 0)) := by
  have e : A + P * x + P * b - (Y + P * y) = (A + P - Y) + P * (x + b - y - 1) := by
    have h1 : P * x + P * b = P * (x + b) := (Nat.mul_add _ _ _).symm
    have h2 : P * (x + b) = P * y + P * (x + b - y - 1) + P := by rw [← Nat.mul_add, ← Nat.mul_succ]; congr 1; omega
    omega
  have lt : (A + P * x < Y + P * y) ↔ (x < y + if A < Y then 1 else 0) := by
    constructor
    · intro h
      rcases Nat.lt_or_ge x y with h1 | h1
      · split <;> omega
      · have := Nat.mul_le_mul_left P h1
        rcases Nat.lt_or_ge y x with h2 | h2
        · have h3 : P * (y + 1) ≤ P * x := Nat.mul_le_mul_left P h2
          rw [Nat.mul_succ] at h3; omega
        · have h3 : x = y := by omega
          subst h3
          rw [if_pos (by omega)]; omega
    · intro h
      rcases Nat.lt_or_ge x y with h1 | h1
      · have h3 : P * (x + 1) ≤ P * y := Nat.mul_le_mul_left P h1
        rw [Nat.mul_succ] at h3; omega
      · by_cases h2 : A < Y
        · rw [if_pos h2] at h
          have h3 : x = y := by omega
          subst h3; omega
        · rw [if_neg h2] at h; omega
  refine ⟨?_, ?_, lt⟩
  · rw [e, Nat.add_mul_div_left _ _ hP]
    by_cases h2 : A < Y
    · rw [if_pos h2, Nat.div_eq_of_lt (by omega)]; congr 1; omega
    · rw [if_neg h2]
      have : (A + P - Y) / P = 1 := by
        have h3 : A + P - Y = (A - Y) + P * 1 := by omega
        rw [h3, Nat.add_mul_div_left _ _ hP, Nat.div_eq_of_lt (by omega)]
      rw [this]; congr 1; omega
  · rw [e, Nat.add_mul_mod_self_left]
/-- a word more, added -/
theorem add_step {P A Y x y : Nat} (hP : 0 < P) (hb : 0 < b) :
    (A + P * x + (Y + P * y)) / P % b = (x + y + (A + Y) / P) % b ∧ (A + P * x + (Y + P * y)) % P = (A + Y) % P ∧ (A + P * x + (Y + P * y)) / (P * b) = (x + y + (A + Y) / P) / b := by
  have e : A + P * x + (Y + P * y) = (A + Y) + P * (x + y) := by rw [Nat.mul_add]; omega
  refine ⟨?_, ?_, ?_⟩
  · rw [e, Nat.add_mul_div_left _ _ hP]; congr 1; omega
  · rw [e, Nat.add_mul_mod_self_left]
  · rw [e, ← Nat.div_div_eq_div_mul, Nat.add_mul_div_left _ _ hP]; congr 1; omega
theorem fl_congr (hb : 0 < b) {n v u : Nat} (h : v % b ^ n = u % b ^ n) : fl b n v = fl b n u := by rw [← fl_mod hb, h, fl_mod hb]
/-- comparing from above -/
theorem cmp_lt {l r : List Nat} (hb : 0 < b) (hl : Lt b l) (hr : Lt b r) (i : Nat) (h : l.getD i 0 < r.getD i 0) : nv b (l.take (i + 1)) < nv b (r.take (i + 1)) := by
  rw [nv_take_succ', nv_take_succ']
  have h1 := nv_take_lt hb hl i
  have h3 : b ^ i * (l.getD i 0 + 1) ≤ b ^ i * r.getD i 0 := Nat.mul_le_mul_left _ h
  rw [Nat.mul_succ] at h3
  omega
end
theorem nv_div {b : Nat} {l : List Nat} (hb : 0 < b) (h : Lt b l) (i : Nat) : nv b l / b ^ i = nv b (l.drop i) := by
  rcases Nat.lt_or_ge l.length i with h1 | h1
  · rw [List.drop_of_length_le (by omega), Nat.div_eq_of_lt (Nat.lt_of_lt_of_le (nv_lt h) (Nat.pow_le_pow_right hb (by omega)))]; rfl
  · rw [nv_take_drop l i h1, Nat.add_mul_div_left _ _ (Nat.pow_pos hb), Nat.div_eq_of_lt (nv_take_lt hb h i), Nat.zero_add]
theorem nv_digit {b : Nat} {l : List Nat} (hb : 0 < b) (h : Lt b l) (i : Nat) : l.getD i 0 = nv b l / b ^ i % b := by
  rw [nv_div hb h]
  rcases Nat.lt_or_ge i l.length with h1 | h1
  · rw [nv_drop_get l i h1, Nat.add_mul_mod_self_left, Nat.mod_eq_of_lt (Lt_get h hb i)]
  · rw [List.drop_of_length_le h1, List.getD_eq_getElem?_getD, List.getElem?_eq_none h1]; simp [nv]
theorem fl_full {b i v : Nat} (hb : 2 ≤ b) (h : i = 0 ∨ b ^ (i - 1) ≤ v) (hv : v < b ^ i) : fl b i v = dg b v := by
  rw [← dg_fl hb hv]
  rcases Nat.eq_zero_or_pos i with h0 | h0
  · subst h0; rfl
  · obtain ⟨n, rfl⟩ : ∃ n, i = n + 1 := ⟨i - 1, by omega⟩
    rw [fl_succ, tz_last]
    have h1 : b ^ n ≤ v := by
      rcases h with h | h
      · omega
      · simpa using h
    rw [Nat.mod_eq_of_lt ((Nat.div_lt_iff_lt_mul (Nat.pow_pos (by omega))).2 (by rw [Nat.mul_comm, ← Nat.pow_succ]; exact hv))]
    have := (Nat.le_div_iff_mul_le (Nat.pow_pos (by omega : 0 < b))).2 (by rw [Nat.one_mul]; exact h1 : 1 * b ^ n ≤ v)
    omega
theorem nv_top {b : Nat} {l : List Nat} (h : tz l = l) (hl : l ≠ []) : b ^ (l.length - 1) ≤ nv b l := by
  obtain ⟨n, hn⟩ : ∃ n, l.length = n + 1 := ⟨l.length - 1, by have := List.length_pos_iff.2 hl; omega⟩
  have h1 := nv_take_succ (b := b) l n (by omega)
  rw [List.take_of_length_le (by omega)] at h1
  have h2 : l.getD n 0 ≠ 0 := fun h0 => by
    have h3 := tz_zero l n (by omega) h0
    rw [List.take_of_length_le (by omega), h] at h3
    have h4 := congrArg List.length h3
    have h5 := tz_len (l.take n)
    rw [List.length_take] at h5
    omega
  rw [h1, hn]
  have : b ^ n * 1 ≤ b ^ n * l.getD n 0 := Nat.mul_le_mul_left _ (by omega)
  simp at this ⊢; omega
theorem nv_eq_of {B : Nat} {l r : List Nat} (i : Nat) (h : ∀ j, i ≤ j → l.getD j 0 = r.getD j 0) : (nv B (l.take i) < nv B (r.take i) ↔ nv B l < nv B r) ∧ (nv B (l.take i) = nv B (r.take i) ↔ nv B l = nv B r) := by
  have key : ∀ k, ∃ t, nv B (l.take (i + k)) = nv B (l.take i) + t ∧ nv B (r.take (i + k)) = nv B (r.take i) + t := fun k => by
    induction k with
    | zero => exact ⟨0, rfl, rfl⟩
    | succ k ih =>
      obtain ⟨t, h1, h2⟩ := ih
      refine ⟨t + B ^ (i + k) * l.getD (i + k) 0, ?_, ?_⟩
      · rw [← Nat.add_assoc i k 1, nv_take_succ', h1, Nat.add_assoc]
      · rw [← Nat.add_assoc i k 1, nv_take_succ', h2, Nat.add_assoc, h _ (by omega)]
  obtain ⟨t, h1, h2⟩ := key (l.length + r.length)
  rw [List.take_of_length_le (by omega)] at h1
  rw [List.take_of_length_le (by omega)] at h2
  omega
end Go.Proofs.Ytngohbpgdeiodaa
