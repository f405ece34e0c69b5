/-
  Rows by a word, all of them; half way between; the least power of two that is finer.
-/
import Derived.Test.YtbfoplcpgpienaaGreatDoorQ20
namespace Go.Proofs.YtbfoplcpgpienaaGreatDoor
open Go Go.RowKit Ab
set_option linter.unusedSimpArgs false
set_option linter.unusedVariables false
set_option maxHeartbeats 10000000
theorem bz_Q21 : type_of% (And.intro @W_len (And.intro @D_len (And.intro @Nat.div_one (And.intro @Nat.mul_one (And.intro @tn_nat (And.intro @W_nf (And.intro @D_nf (And.intro @W_nil (And.intro @D_nil (And.intro @wi (And.intro @nf_g (And.intro @Bool.false_and (@W_cell))))))))))))) := And.intro @W_len (And.intro @D_len (And.intro @Nat.div_one (And.intro @Nat.mul_one (And.intro @tn_nat (And.intro @W_nf (And.intro @D_nf (And.intro @W_nil (And.intro @D_nil (And.intro @wi (And.intro @nf_g (And.intro @Bool.false_and (@W_cell))))))))))))
theorem ma_step {a : List Nat} {w c i : Nat} : nv B (a.take (i + 1)) * w + c = (nv B (a.take i) * w + c) + B ^ i * (a.getD i 0 * w) := by
  rw [nv_take_succ', Nat.add_mul, Nat.mul_assoc]; omega
theorem ma_lt {a : List Nat} {w c : Nat} (ha : Wd a) (hw : w < B) (hc : c < B) (i : Nat) : (nv B (a.take i) * w + c) / B ^ i < B := by
  refine (Nat.div_lt_iff_lt_mul (Nat.pow_pos B0)).2 ?_
  have h1 := nv_take_lt (b := B) (by decide) ha i
  have h2 : nv B (a.take i) * w ≤ (B ^ i - 1) * (B - 1) := Nat.mul_le_mul (by omega) (by omega)
  have h3 : (B ^ i - 1) * (B - 1) + (B - 1) = B ^ i * (B - 1) := by
    rw [← Nat.succ_mul]; congr 1; have := Nat.pow_pos (n := i) B0; omega
  have h4 : B * B ^ i = B ^ i * (B - 1) + B ^ i := by
    rw [Nat.mul_comm, ← Nat.mul_succ]; rfl
  have := Nat.pow_pos (n := i) B0
  omega
theorem ma_next {T i y : Nat} : (T + B ^ i * y) / B ^ (i + 1) = (y + T / B ^ i) / B ∧ (T + B ^ i * y) / B ^ i % B = (y + T / B ^ i) % B ∧ fl B i (T + B ^ i * y) = fl B i T := by
  refine ⟨?_, ?_, fl_congr B0 (Nat.add_mul_mod_self_left _ _ _)⟩
  · rw [Nat.pow_succ, ← Nat.div_div_eq_div_mul, Nat.add_mul_div_left _ _ (Nat.pow_pos B0), Nat.add_comm]
  · rw [Nat.add_mul_div_left _ _ (Nat.pow_pos B0), Nat.add_comm]
def FinP (u d k : Nat) : Prop := d < u * 2 ^ k ∧ ∀ j, j < k → u * 2 ^ j ≤ d
theorem fin_ex {u d : Nat} (hu : u ≠ 0) : ∃ k, FinP u d k ∧ k ≤ bl d := by
  have key : ∀ n, (∃ k, FinP u d k ∧ k ≤ n) ∨ ∀ j, j ≤ n → u * 2 ^ j ≤ d := fun n => by
    induction n with
    | zero =>
      by_cases h : d < u * 2 ^ 0
      · exact .inl ⟨0, ⟨h, fun j hj => by omega⟩, Nat.le_refl _⟩
      · exact .inr fun j hj => by obtain rfl : j = 0 := by omega
                                  omega
    | succ n ih =>
      rcases ih with ⟨k, h1, h2⟩ | h
      · exact .inl ⟨k, h1, by omega⟩
      · by_cases h2 : d < u * 2 ^ (n + 1)
        · exact .inl ⟨n + 1, ⟨h2, fun j hj => h j (by omega)⟩, Nat.le_refl _⟩
        · exact .inr fun j hj => by
            rcases Nat.lt_or_ge j (n + 1) with h3 | h3
            · exact h j (by omega)
            · obtain rfl : j = n + 1 := by omega
              omega
  rcases key (bl d) with h | h
  · exact h
  · have h1 := h (bl d) (Nat.le_refl _)
    have h2 := bl_lt d
    have h3 : 1 * 2 ^ bl d ≤ u * 2 ^ bl d := Nat.mul_le_mul_right _ (by omega)
    omega
theorem fin_bl {u d k : Nat} (hu : u ≠ 0) (hd : d ≠ 0) (h : FinP u d k) : (k = bl d - bl u ∧ d < u * 2 ^ (bl d - bl u)) ∨ (k = bl d - bl u + 1 ∧ ¬ d < u * 2 ^ (bl d - bl u)) := by
  obtain ⟨h1, h2⟩ := h
  obtain ⟨u1, u2⟩ := bl_le hu
  have u3 := bl_lt u
  obtain ⟨d1, d2⟩ := bl_le hd
  have d3 := bl_lt d
  have lo : bl d - bl u ≤ k := by
    rcases Nat.lt_or_ge k (bl d - bl u) with hk | hk
    · exfalso
      have h3 : u * 2 ^ k < 2 ^ bl u * 2 ^ k := Nat.mul_lt_mul_of_pos_right u3 (Nat.two_pow_pos k)
      rw [← Nat.pow_add] at h3
      have h4 : 2 ^ (bl u + k) ≤ 2 ^ (bl d - 1) := Nat.pow_le_pow_right (by decide) (by omega)
      omega
    · exact hk
  have hi : k ≤ bl d - bl u + 1 := by
    rcases Nat.lt_or_ge (bl d - bl u + 1) k with hk | hk
    · exfalso
      have h3 := h2 (bl d - bl u + 1) hk
      have h4 : 2 ^ (bl u - 1) * 2 ^ (bl d - bl u + 1) ≤ u * 2 ^ (bl d - bl u + 1) := Nat.mul_le_mul_right _ u1
      rw [← Nat.pow_add] at h4
      have h5 : 2 ^ bl d ≤ 2 ^ (bl u - 1 + (bl d - bl u + 1)) := Nat.pow_le_pow_right (by decide) (by omega)
      omega
    · exact hk
  by_cases hc : d < u * 2 ^ (bl d - bl u)
  · left
    refine ⟨?_, hc⟩
    rcases Nat.lt_or_ge (bl d - bl u) k with hk | hk
    · have := h2 _ hk; omega
    · omega
  · right
    refine ⟨?_, hc⟩
    rcases Nat.eq_or_lt_of_le lo with hk | hk
    · rw [← hk] at h1; exact absurd h1 hc
    · omega
end Go.Proofs.YtbfoplcpgpienaaGreatDoor
