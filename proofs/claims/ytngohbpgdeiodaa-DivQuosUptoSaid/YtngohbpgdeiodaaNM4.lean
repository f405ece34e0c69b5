/-
  Plain numbers: how many bits; two words by one, digit by digit.
-/
import Derived.Test.YtngohbpgdeiodaaNM3
namespace Go.Proofs.Ytngohbpgdeiodaa
open Go Go.RowKit Ab
set_option linter.unusedSimpArgs false
set_option linter.unusedVariables false
set_option maxHeartbeats 10000000

/-- how many bits -/
def bl (x : Nat) : Nat := if x = 0 then 0 else x.log2 + 1
theorem bl_lt (x : Nat) : x < 2 ^ bl x := by
  unfold bl
  split
  · omega
  · exact Nat.lt_log2_self
theorem bl_le {x : Nat} (h : x ≠ 0) : 2 ^ (bl x - 1) ≤ x ∧ 1 ≤ bl x := by
  unfold bl
  rw [if_neg h]
  exact ⟨Nat.log2_self_le h, by omega⟩
theorem bl_uniq {x k : Nat} (h1 : 2 ^ k ≤ x) (h2 : x < 2 ^ (k + 1)) : bl x = k + 1 := by
  have h0 : x ≠ 0 := by have := Nat.two_pow_pos k; omega
  obtain ⟨h3, h4⟩ := bl_le h0
  have h5 := bl_lt x
  rcases Nat.lt_trichotomy (bl x) (k + 1) with h | h | h
  · have := Nat.pow_le_pow_right (show 0 < 2 by decide) (show bl x ≤ k by omega); omega
  · exact h
  · have := Nat.pow_le_pow_right (show 0 < 2 by decide) (show k + 1 ≤ bl x - 1 by omega); omega
theorem bl_div {x n : Nat} (h : 2 ^ n ≤ x) : bl x = n + bl (x / 2 ^ n) := by
  have hp := Nat.two_pow_pos n
  have hq : x / 2 ^ n ≠ 0 := by have := (Nat.le_div_iff_mul_le hp).2 (by simpa using h : 1 * 2 ^ n ≤ x); omega
  obtain ⟨h1, h2⟩ := bl_le hq
  have h3 := bl_lt (x / 2 ^ n)
  obtain ⟨k, hk⟩ : ∃ k, bl (x / 2 ^ n) = k + 1 := ⟨bl (x / 2 ^ n) - 1, by omega⟩
  rw [hk] at h1 h3 ⊢
  rw [← Nat.add_assoc]
  refine bl_uniq ?_ ?_
  · rw [Nat.add_comm, Nat.pow_add]; exact (Nat.le_div_iff_mul_le hp).1 h1
  · rw [show n + k + 1 = (k + 1) + n from by omega, Nat.pow_add]; exact (Nat.div_lt_iff_lt_mul hp).1 h3
theorem bl_64 {x : Nat} (h : x < 18446744073709551616) : bl x ≤ 64 := by
  by_cases h0 : x = 0
  · subst h0; decide
  · obtain ⟨h1, h2⟩ := bl_le h0
    rcases Nat.lt_or_ge 64 (bl x) with h3 | h3
    · have := Nat.pow_le_pow_right (show 0 < 2 by decide) (show 64 ≤ bl x - 1 by omega); omega
    · exact h3
theorem bl_pos {x : Nat} (h : x ≠ 0) : 0 < bl x := (bl_le h).2

/-! ### a digit of the quotient: guessed by the upper half, made less -/
theorem dig_stop {yn1 yn0 u32 u1 q r : Nat} (h : q * yn1 + r = u32) (h2 : q * yn0 ≤ 4294967296 * r + u1) : q * (yn1 * 4294967296 + yn0) ≤ u32 * 4294967296 + u1 := by
  have e : q * (yn1 * 4294967296 + yn0) = q * yn1 * 4294967296 + q * yn0 := by rw [Nat.mul_add, Nat.mul_assoc]
  rw [e]; generalize q * yn1 = a at *; generalize q * yn0 = c at *; omega
theorem dig_over {yn1 yn0 u32 u1 q r : Nat} (h : q * yn1 + r = u32) (h2 : 4294967296 * r + u1 < q * yn0) : u32 * 4294967296 + u1 < q * (yn1 * 4294967296 + yn0) := by
  have e : q * (yn1 * 4294967296 + yn0) = q * yn1 * 4294967296 + q * yn0 := by rw [Nat.mul_add, Nat.mul_assoc]
  rw [e]; generalize q * yn1 = a at *; generalize q * yn0 = c at *; omega
theorem dig_big {Y u32 u1 q : Nat} (hu : u32 < Y) (h1 : u1 < 4294967296) (hq : 4294967296 ≤ q) : u32 * 4294967296 + u1 < q * Y := by
  have := Nat.mul_le_mul hq (show u32 + 1 ≤ Y from hu)
  omega
theorem dig_init {yn1 yn0 u32 u1 : Nat} (h31 : 2147483648 ≤ yn1) (h0 : yn0 < 4294967296) (hu : u32 < yn1 * 4294967296 + yn0) (h1 : u1 < 4294967296) :
    u32 / yn1 * yn1 + u32 % yn1 = u32 ∧ u32 * 4294967296 + u1 < (u32 / yn1 + 1) * (yn1 * 4294967296 + yn0) ∧ u32 / yn1 ≤ 4294967297 := by
  have e := Nat.div_add_mod u32 yn1
  have hm := Nat.mod_lt u32 (show 0 < yn1 by omega)
  rw [Nat.mul_comm] at e
  refine ⟨e, ?_, ?_⟩
  · have h : (u32 / yn1 + 1) * (yn1 * 4294967296 + yn0) = (u32 / yn1 * yn1 + yn1) * 4294967296 + (u32 / yn1 + 1) * yn0 := by rw [Nat.mul_add, ← Nat.mul_assoc, Nat.add_mul _ 1 yn1, Nat.one_mul]
    rw [h]
    generalize u32 / yn1 * yn1 = a at *
    generalize (u32 / yn1 + 1) * yn0 = c at *
    omega
  · have : u32 / yn1 < 4294967298 := (Nat.div_lt_iff_lt_mul (by omega)).2 (by omega)
    omega
theorem dig_one {Y N q : Nat} (h1 : q * Y ≤ N) (h2 : N < (q + 1) * Y) : q = N / Y := by
  have hY : 0 < Y := by
    rcases Nat.eq_zero_or_pos Y with h | h
    · subst h; simp at h2
    · exact h
  exact (Nat.div_eq_of_lt_le h1 h2).symm
/-- both digits -/
theorem dig_two' {Y N un0 q r : Nat} (hY : 0 < Y) (e : Y * q + r = N) : (N * 4294967296 + un0) / Y = q * 4294967296 + (r * 4294967296 + un0) / Y ∧ (N * 4294967296 + un0) % Y = (r * 4294967296 + un0) % Y := by
  have h : N * 4294967296 + un0 = (r * 4294967296 + un0) + Y * (q * 4294967296) := by
    rw [← e, ← Nat.mul_assoc]; omega
  rw [h, Nat.add_mul_div_left _ _ hY, Nat.add_mul_mod_self_left, Nat.add_comm]
  exact ⟨rfl, rfl⟩
theorem dig_two {Y N un0 : Nat} (hY : 0 < Y) : (N * 4294967296 + un0) / Y = N / Y * 4294967296 + (N % Y * 4294967296 + un0) / Y ∧ (N * 4294967296 + un0) % Y = (N % Y * 4294967296 + un0) % Y :=
  dig_two' hY (Nat.div_add_mod N Y)
/-- shifted to the left by s: the divisor's top bit stands -/
theorem norm_bits {y : Nat} (h0 : y ≠ 0) (hy : y < 18446744073709551616) : 9223372036854775808 ≤ y * 2 ^ (64 - bl y) ∧ y * 2 ^ (64 - bl y) < 18446744073709551616 := by
  obtain ⟨h1, h2⟩ := bl_le h0
  have h3 := bl_lt y
  have h4 := bl_64 hy
  constructor
  · have := Nat.mul_le_mul_right (2 ^ (64 - bl y)) h1
    rw [← Nat.pow_add, show bl y - 1 + (64 - bl y) = 63 from by omega] at this
    exact this
  · have := (Nat.mul_lt_mul_right (Nat.two_pow_pos (64 - bl y))).2 h3
    rw [← Nat.pow_add, show bl y + (64 - bl y) = 64 from by omega] at this
    exact this
theorem shl_split {lo s : Nat} (hs : s ≤ 64) : lo * 2 ^ s = lo / 2 ^ (64 - s) * 18446744073709551616 + lo * 2 ^ s % 18446744073709551616 := by
  have e : (18446744073709551616 : Nat) = 2 ^ s * 2 ^ (64 - s) := by rw [← Nat.pow_add, show s + (64 - s) = 64 from by omega]
  have h := Nat.div_add_mod (lo * 2 ^ s) 18446744073709551616
  have h2 : lo * 2 ^ s / 18446744073709551616 = lo / 2 ^ (64 - s) := by rw [e, Nat.mul_comm lo, Nat.mul_div_mul_left _ _ (Nat.two_pow_pos s)]
  rw [h2] at h
  omega
theorem shr_lt {lo s : Nat} (hs : s ≤ 64) (hl : lo < 18446744073709551616) : lo / 2 ^ (64 - s) < 2 ^ s := by
  refine (Nat.div_lt_iff_lt_mul (Nat.two_pow_pos _)).2 ?_
  rw [← Nat.pow_add, show s + (64 - s) = 64 from by omega]; exact hl
theorem scale_div {U y s : Nat} : U * 2 ^ s / (y * 2 ^ s) = U / y ∧ U * 2 ^ s % (y * 2 ^ s) / 2 ^ s = U % y := by
  refine ⟨Nat.mul_div_mul_right _ _ (Nat.two_pow_pos s), ?_⟩
  rw [Nat.mul_mod_mul_right, Nat.mul_div_cancel _ (Nat.two_pow_pos s)]
end Go.Proofs.Ytngohbpgdeiodaa
