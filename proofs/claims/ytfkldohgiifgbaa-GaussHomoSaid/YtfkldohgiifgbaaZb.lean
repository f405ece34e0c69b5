/-
  nat: how many bits.
-/
import Derived.Test.YtfkldohgiifgbaaGG
namespace Go.Proofs.Ytfkldohgiifgbaa
open Go Go.RowKit Ab
set_option linter.unusedSimpArgs false
set_option linter.unusedVariables false
set_option maxHeartbeats 10000000
theorem bz_Zb : type_of% (And.intro @wi (And.intro @tn_nat (And.intro @Nat.div_one (And.intro @Nat.mul_one (And.intro @W_len (And.intro @W_nf (And.intro @W_cell (And.intro @W_nil (@W_get))))))))) := And.intro @wi (And.intro @tn_nat (And.intro @Nat.div_one (And.intro @Nat.mul_one (And.intro @W_len (And.intro @W_nf (And.intro @W_cell (And.intro @W_nil (@W_get))))))))

/-! ### bits -/
theorem bl_0 : bl 0 = 0 := rfl
theorem bl_dvd {a : List Nat} (ha : Wd a) (h0 : 0 < (tz a).length) : ((((tz a).length : Nat) : Int) - 1) * 64 + ((bl (a.getD ((tz a).length - 1) 0) : Nat) : Int) = ((bl (nv B a) : Nat) : Int) := by
  have hne : tz a ≠ [] := fun h => by rw [h] at h0; simp at h0
  have ht := nv_top (b := B) (tz_tz a) hne
  rw [nv_tz] at ht
  have hl := nv_lt (Lt_tz ha)
  rw [nv_tz] at hl
  obtain ⟨t, hT⟩ : ∃ t, (tz a).length = t + 1 := ⟨(tz a).length - 1, by omega⟩
  rw [hT] at ht hl ⊢
  rw [Nat.add_sub_cancel] at ht ⊢
  have hd := nv_digit (b := B) (by decide) ha t
  rw [Nat.mod_eq_of_lt ((Nat.div_lt_iff_lt_mul (Nat.pow_pos (by decide))).2 (by rw [← Nat.pow_succ']; exact hl))] at hd
  have hp : B ^ t = 2 ^ (64 * t) := by rw [B64, ← Nat.pow_mul]
  have := bl_div (x := nv B a) (n := 64 * t) (by rw [← hp]; exact ht)
  rw [hd, this, ← hp]; omega
theorem bl_z {n : Nat} : (((bl n : Nat) : Int) = 0) = (n = 0) := propext ⟨fun h => by
  rcases Nat.eq_zero_or_pos n with h1 | h1
  · exact h1
  · have := bl_pos (x := n) (by omega); omega, fun h => by rw [h]; rfl⟩
theorem bl_len {a : List Nat} (ha : Wd a) : bl (nv B a) ≤ 64 * a.length := by
  rcases Nat.eq_zero_or_pos (nv B a) with h | h
  · rw [h]; exact Nat.zero_le _
  · obtain ⟨h1, h2⟩ := bl_le (x := nv B a) (by omega)
    have h3 := nv_lt ha
    rw [B64, ← Nat.pow_mul] at h3
    have := (Nat.pow_lt_pow_iff_right (by decide : 1 < 2)).1 (Nat.lt_of_le_of_lt h1 h3)
    omega

end Go.Proofs.Ytfkldohgiifgbaa
