/-
  Plain: a number's digits, doubled digit by digit.
-/
import Derived.Test.YtdaedplbhpiacaaGD
namespace Go.Proofs.Ytdaedplbhpiacaa
set_option linter.unusedSimpArgs false
set_option linter.unusedVariables false
set_option maxHeartbeats 10000000
def dbl (b : Nat) : Nat → List Nat → List Nat
  | c, [] => if 0 < c then [c] else []
  | c, x :: r => (2 * x + c) % b :: dbl b ((2 * x + c) / b) r
theorem dbl_carry {b x c : Nat} (hx : x < b) (hc : c < 2) : (2 * x + c) / b < 2 := by
  rw [Nat.div_lt_iff_lt_mul (by omega)]; omega
theorem dbl_Lt {b : Nat} (hb : 2 ≤ b) : ∀ (l : List Nat) (c : Nat), Lt b l → c < 2 → Lt b (dbl b c l)
  | [], c, _, hc => by
    unfold dbl; split
    · exact Lt_cons.2 ⟨by omega, Lt_nil⟩
    · exact Lt_nil
  | x :: r, c, h, hc => Lt_cons.2 ⟨Nat.mod_lt _ (by omega), dbl_Lt hb r _ (Lt_cons.1 h).2 (dbl_carry (Lt_cons.1 h).1 hc)⟩
theorem nv_dbl {b : Nat} : ∀ (l : List Nat) (c : Nat), nv b (dbl b c l) = 2 * nv b l + c
  | [], c => by
    unfold dbl; split
    · simp [nv]
    · simp [nv]; omega
  | x :: r, c => by
    rw [dbl, nv_cons, nv_dbl r, nv_cons]
    have := Nat.mod_add_div (2 * x + c) b
    rw [Nat.mul_add, Nat.mul_add, ← Nat.mul_assoc, ← Nat.mul_assoc, Nat.mul_comm b 2]
    omega
theorem tz_dbl {b : Nat} (hb : 2 ≤ b) : ∀ (l : List Nat) (c : Nat), Lt b l → c < 2 → tz l = l → tz (dbl b c l) = dbl b c l
  | [], c, _, hc, _ => by
    unfold dbl; split
    · rw [tz, if_neg (by omega)]; rfl
    · rfl
  | x :: r, c, h, hc, ht => by
    have hx := (Lt_cons.1 h).1
    have hn : ¬ (x = 0 ∧ tz r = []) := fun e => by rw [tz, if_pos e] at ht; cases ht
    rw [tz, if_neg hn] at ht
    have hr : tz r = r := by injection ht
    have ih := tz_dbl hb r _ (Lt_cons.1 h).2 (dbl_carry hx hc) hr
    rw [dbl, tz, ih, if_neg]
    rintro ⟨h1, h2⟩
    have hv := nv_dbl (b := b) r ((2 * x + c) / b)
    rw [h2, nv_nil] at hv
    have h0 : (2 * x + c) / b = 0 := Nat.eq_zero_of_le_zero (hv ▸ Nat.le_add_left _ _)
    have hv0 : nv b r = 0 := by rw [h0] at hv; omega
    have h3 := Nat.mod_add_div (2 * x + c) b
    rw [h1, h0] at h3
    exact hn ⟨by omega, (tz_nil_iff (by omega)).2 hv0⟩
theorem dbl_dg {b u c : Nat} (hb : 2 ≤ b) (hc : c < 2) : dbl b c (dg b u) = dg b (2 * u + c) := by
  rw [← tz_dbl hb _ _ (dg_Lt (by omega) u) hc (tz_dg' u), tz_dg hb (dbl_Lt hb _ _ (dg_Lt (by omega) u) hc), nv_dbl, nv_dg hb]
theorem dbl_nil {b c : Nat} : dbl b c [] = if 0 < c then [c] else [] := rfl
theorem dbl_hi {b x c : Nat} (hx : x < b) (hc : c < 2) (h : b ≤ 2 * x) : (2 * x + c) % b = x - (b - x) + c ∧ (2 * x + c) / b = 1 := by
  have e : 2 * x + c = b * 1 + (x - (b - x) + c) := by omega
  have hl : x - (b - x) + c < b := by omega
  rw [e, Nat.mul_add_mod, Nat.mod_eq_of_lt hl, Nat.mul_add_div (by omega), Nat.div_eq_of_lt hl]
  exact ⟨rfl, rfl⟩
theorem dbl_eq {b x c : Nat} (hb : 2 ≤ b) (h : 2 * x + c = b) : (2 * x + c) % b = 0 ∧ (2 * x + c) / b = 1 := by
  rw [h]; exact ⟨Nat.mod_self b, Nat.div_self (by omega)⟩
theorem dbl_lo {b x c : Nat} (h : 2 * x + c < b) : (2 * x + c) % b = 2 * x + c ∧ (2 * x + c) / b = 0 := ⟨Nat.mod_eq_of_lt h, Nat.div_eq_of_lt h⟩
theorem set_midD (p : List Nat) (x y : Nat) (r : List Nat) : (p ++ x :: r).set p.length y = p ++ y :: r := by simp
theorem get_midD (p : List Nat) (x : Nat) (r : List Nat) : (p ++ x :: r).getD p.length 0 = x := by simp [List.getD_eq_getElem?_getD]
theorem half_bit (v k : Nat) : 2 * (v / 2 ^ (k + 1)) + v / 2 ^ k % 2 = v / 2 ^ k := by
  rw [Nat.pow_succ, ← Nat.div_div_eq_div_mul]
  have := Nat.mod_add_div (v / 2 ^ k) 2
  omega
end Go.Proofs.Ytdaedplbhpiacaa
