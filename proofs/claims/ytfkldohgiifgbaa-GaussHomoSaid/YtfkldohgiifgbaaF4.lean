/-
  surdref05: plain arithmetic.
-/
import Derived.Test.YtfkldohgiifgbaaF3
namespace Go.Proofs.Ytfkldohgiifgbaa
open Go Go.RowKit Ab
set_option linter.unusedSimpArgs false
set_option linter.unusedVariables false
set_option maxHeartbeats 10000000
theorem bz_F4 : type_of% (And.intro @W_len (And.intro @D_len (And.intro @Nat.div_one (And.intro @Nat.mul_one (And.intro @tn_nat (And.intro @W_nf (And.intro @D_nf (And.intro @W_nil (And.intro @D_nil (And.intro @wi (@D_get))))))))))) := And.intro @W_len (And.intro @D_len (And.intro @Nat.div_one (And.intro @Nat.mul_one (And.intro @tn_nat (And.intro @W_nf (And.intro @D_nf (And.intro @W_nil (And.intro @D_nil (And.intro @wi (@D_get))))))))))

theorem addh_len (x y : List Nat) : addh x y ≤ max x.length y.length + 1 := by unfold addh; split <;> omega
theorem addh_val {x y : List Nat} (kx : Lt 65536 x) (ky : Lt 65536 y) : nv 65536 (fl 65536 (addh x y) (nv 65536 x + nv 65536 y)) = nv 65536 x + nv 65536 y := by
  rw [nv_fl, Nat.mod_eq_of_lt]
  unfold addh
  have h1 := nv_lt kx
  have h2 := nv_lt ky
  have h3 : 65536 ^ x.length ≤ 65536 ^ max x.length y.length := Nat.pow_le_pow_right (by decide) (by omega)
  have h4 : 65536 ^ y.length ≤ 65536 ^ max x.length y.length := Nat.pow_le_pow_right (by decide) (by omega)
  split
  · rename_i h
    rcases Nat.lt_or_ge (nv 65536 x + nv 65536 y) (65536 ^ max x.length y.length) with h5 | h5
    · exact h5
    · have := (Nat.le_div_iff_mul_le (Nat.pow_pos (by decide : 0 < 65536))).2 (by rw [Nat.one_mul]; exact h5 : 1 * 65536 ^ max x.length y.length ≤ _)
      omega
  · rw [Nat.pow_succ]; omega
theorem hsub_val {x y : List Nat} (hx : Lt 65536 x) (h : nv 65536 y ≤ nv 65536 x) (t : tz y = y) : nv 65536 (fl 65536 x.length (nv 65536 x + 65536 ^ x.length - nv 65536 (y.take x.length))) = nv 65536 x - nv 65536 y := by
  have h1 := nv_lt hx
  have hl : y.length ≤ x.length := by
    rcases Nat.eq_zero_or_pos y.length with h0 | h0
    · omega
    · have h2 := nv_top (b := 65536) t (fun h => by rw [h] at h0; simp at h0)
      have h3 : 65536 ^ (y.length - 1) < 65536 ^ x.length := by omega
      have := (Nat.pow_lt_pow_iff_right (by decide : 1 < 65536)).1 h3
      omega
  rw [nv_fl, List.take_of_length_le hl, show nv 65536 x + 65536 ^ x.length - nv 65536 y = (nv 65536 x - nv 65536 y) + 65536 ^ x.length from by omega, Nat.add_mod_right, Nat.mod_eq_of_lt (by omega)]
theorem times_bnd {s x y c : Nat} (hs : s < 65536) (hx : x < 65536) (hy : y < 65536) (hc : c < 65536) : c + (s + x * y) < 4294967296 := by
  have h1 : x * y ≤ 65535 * 65535 := Nat.mul_le_mul (by omega) (by omega)
  omega
theorem drop_zero_of {l : List Nat} {i : Nat} (h : ∀ j, i ≤ j → l.getD j 0 = 0) : nv 65536 l = nv 65536 (l.take i) := by
  have h1 := nv_eq_of (B := 65536) (l := l) (r := l.take i) i (fun j hj => by
    rw [h j hj, List.getD_eq_getElem?_getD, List.getElem?_take, if_neg (by omega)]; rfl)
  exact h1.2.1 (by rw [List.take_take, Nat.min_self])
end Go.Proofs.Ytfkldohgiifgbaa
