/-
  Plain numbers: a digit of the quotient guessed by the upper words; what is left.
-/
import Derived.Test.YtngohbpgdeiodaaM1
namespace Go.Proofs.Ytngohbpgdeiodaa
open Go Go.RowKit Ab
set_option linter.unusedSimpArgs false
set_option linter.unusedVariables false
set_option maxHeartbeats 10000000

theorem kn_guess {U V P : Nat} (hP : 0 < P) (hU : U < V * B) (hV : B ≤ V / P) : U / V ≤ min (B - 1) (U / P / (V / P)) ∧ min (B - 1) (U / P / (V / P)) ≤ U / V + 1 := by
  have hB : 0 < B := by decide
  have hV2 : 0 < V / P := Nat.lt_of_lt_of_le hB hV
  have hV0 : 0 < V := Nat.lt_of_lt_of_le hV2 (Nat.div_le_self _ _)
  have h1 : V / P * P ≤ V := Nat.div_mul_le_self V P
  have hd : U / V < B := (Nat.div_lt_iff_lt_mul hV0).2 (by rw [Nat.mul_comm]; exact hU)
  refine ⟨?_, ?_⟩
  · refine Nat.le_min.2 ⟨by omega, ?_⟩
    rw [Nat.le_div_iff_mul_le hV2, Nat.le_div_iff_mul_le hP, Nat.mul_assoc]
    exact Nat.le_trans (Nat.mul_le_mul_left _ h1) (Nat.div_mul_le_self U V)
  · rcases Nat.lt_or_ge (U / V + 1) (min (B - 1) (U / P / (V / P))) with h | h
    · exfalso
      obtain ⟨g, hg⟩ : ∃ g, g = min (B - 1) (U / P / (V / P)) := ⟨_, rfl⟩
      rw [← hg] at h
      have hg1 : g ≤ B - 1 := by rw [hg]; exact Nat.min_le_left _ _
      have hg2 : g ≤ U / P / (V / P) := by rw [hg]; exact Nat.min_le_right _ _
      rw [Nat.le_div_iff_mul_le hV2, Nat.le_div_iff_mul_le hP] at hg2
      have h2 : U < (U / V + 1) * V := by rw [Nat.add_mul, Nat.one_mul, Nat.mul_comm (U / V)]; exact Nat.lt_mul_div_succ U hV0 |> fun h => by rwa [Nat.mul_succ] at h
      have h3 : (U / V + 1) * V ≤ (g - 1) * V := Nat.mul_le_mul_right V (by omega)
      have h4 : V < (V / P + 1) * P := by have := Nat.lt_mul_div_succ V hP; rwa [Nat.mul_comm] at this
      have h5 : (g - 1) * V ≤ (g - 1) * ((V / P + 1) * P) := Nat.mul_le_mul_left _ (Nat.le_of_lt h4)
      have h6 : g * (V / P) * P < (g - 1) * ((V / P + 1) * P) := by omega
      rw [← Nat.mul_assoc] at h6
      have h7 := Nat.lt_of_mul_lt_mul_right h6
      have hg0 : 1 ≤ g := Nat.lt_of_le_of_lt (Nat.zero_le _) h
      obtain ⟨k, rfl⟩ : ∃ k, g = k + 1 := ⟨g - 1, by omega⟩
      rw [Nat.add_sub_cancel, Nat.add_mul, Nat.one_mul, Nat.mul_add, Nat.mul_one] at h7
      omega
    · exact h

/-- the multiple is taken away: it was right, or one too great -/
theorem kn_sub {U V P A t g c o : Nat} (hA : A < P) (hU : U = A + P * t) (hV : V < P) (hV0 : 0 < V) (hg1 : U / V ≤ g) (hg2 : g ≤ U / V + 1) (ho : o < P) (h : o + V * g = A + P * c) :
    (c ≤ t → g = U / V ∧ t = c ∧ o = U % V) ∧ (t < c → g = U / V + 1 ∧ c = t + 1 ∧ o + V = U % V + P) := by
  have e := Nat.div_add_mod U V
  have hm := Nat.mod_lt U hV0
  have hUg : U + P * c = o + V * g + P * t := by omega
  obtain ⟨d, hd⟩ : ∃ d, d = U / V := ⟨_, rfl⟩
  rw [← hd] at e hg1 hg2 ⊢
  generalize U % V = m at *
  refine ⟨fun hct => ?_, fun htc => ?_⟩
  · obtain ⟨s, rfl⟩ : ∃ s, t = c + s := ⟨t - c, by omega⟩
    have hg : g = d := by
      rcases Nat.lt_or_ge d g with h1 | h1
      · obtain rfl : g = d + 1 := by omega
        rw [Nat.mul_add, Nat.mul_add, Nat.mul_one] at hUg
        omega
      · omega
    subst hg
    rw [Nat.mul_add] at hUg
    have hs : s = 0 := by
      rcases Nat.eq_zero_or_pos s with h1 | h1
      · exact h1
      · have := Nat.mul_le_mul_left P (show 1 ≤ s from h1)
        omega
    subst hs
    exact ⟨rfl, by omega, by omega⟩
  · obtain ⟨s, rfl⟩ : ∃ s, c = t + 1 + s := ⟨c - t - 1, by omega⟩
    rw [Nat.mul_add, Nat.mul_add, Nat.mul_one] at hUg
    have hg : g = d + 1 := by
      rcases Nat.lt_or_ge d g with h1 | h1
      · omega
      · obtain rfl : g = d := by omega
        omega
    subst hg
    rw [Nat.mul_add, Nat.mul_one] at hUg
    have hs : s = 0 := by
      rcases Nat.eq_zero_or_pos s with h1 | h1
      · exact h1
      · have := Nat.mul_le_mul_left P (show 1 ≤ s from h1)
        omega
    subst hs
    exact ⟨rfl, by omega, by omega⟩
/-- the three upper words -/
theorem kn_top {U n : Nat} : ((U / B ^ (n + 2)) * B + U / B ^ (n + 1) % B) * B + U / B ^ n % B = U / B ^ n := by
  have h1 : U / B ^ (n + 2) = U / B ^ (n + 1) / B := by rw [Nat.div_div_eq_div_mul, ← Nat.pow_succ]
  have h2 : U / B ^ (n + 1) = U / B ^ n / B := by rw [Nat.div_div_eq_div_mul, ← Nat.pow_succ]
  rw [h1, Nat.div_add_mod', h2, Nat.div_add_mod']
theorem kn_top2 {V n : Nat} (h : V < B ^ (n + 2)) : (V / B ^ (n + 1) % B) * B + V / B ^ n % B = V / B ^ n := by
  have h2 : V / B ^ (n + 1) = V / B ^ n / B := by rw [Nat.div_div_eq_div_mul, ← Nat.pow_succ]
  have h3 : V / B ^ (n + 1) < B := (Nat.div_lt_iff_lt_mul (Nat.pow_pos (by decide))).2 (by rw [← Nat.pow_succ']; exact h)
  rw [Nat.mod_eq_of_lt h3, h2, Nat.div_add_mod']
end Go.Proofs.Ytngohbpgdeiodaa
