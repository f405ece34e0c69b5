/-
  Plain numbers: shifts of lists of words; bits of words.
-/
import Derived.Test.YtngohbpgdeiodaaB0
import Derived.Test.YtngohbpgdeiodaaNM2
namespace Go.Proofs.Ytngohbpgdeiodaa
open Go Go.RowKit Ab
set_option linter.unusedSimpArgs false
set_option linter.unusedVariables false
set_option maxHeartbeats 10000000

theorem B64 : B = 2 ^ 64 := rfl
theorem bor64 (a b : Nat) (ha : a < 18446744073709551616) (hb : b < 18446744073709551616) : bits .or .u64 (a : Int) (b : Int) = ((a ||| b : Nat) : Int) := by
  have h : a ||| b < 2 ^ 64 := Nat.or_lt_two_pow ha hb
  have e : (BitVec.ofNat 64 a ||| BitVec.ofNat 64 b).toNat = a ||| b := by rw [BitVec.toNat_or, BitVec.toNat_ofNat, BitVec.toNat_ofNat, Nat.mod_eq_of_lt ha, Nat.mod_eq_of_lt hb]
  have k : bits .or .u64 (a : Int) (b : Int) = IntKind.u64.wrap (((BitVec.ofInt 64 (a : Int) ||| BitVec.ofInt 64 (b : Int)).toNat : Nat) : Int) := rfl
  rw [k, BitVec.ofInt_natCast, BitVec.ofInt_natCast, e]
  exact wu ⟨by omega, by omega⟩
theorem band64 (a b : Nat) (ha : a < 18446744073709551616) (hb : b < 18446744073709551616) : bits .and .u64 (a : Int) (b : Int) = ((a &&& b : Nat) : Int) := by
  have h : a &&& b < 2 ^ 64 := Nat.lt_of_le_of_lt Nat.and_le_left ha
  have e : (BitVec.ofNat 64 a &&& BitVec.ofNat 64 b).toNat = a &&& b := by rw [BitVec.toNat_and, BitVec.toNat_ofNat, BitVec.toNat_ofNat, Nat.mod_eq_of_lt ha, Nat.mod_eq_of_lt hb]
  have k : bits .and .u64 (a : Int) (b : Int) = IntKind.u64.wrap (((BitVec.ofInt 64 (a : Int) &&& BitVec.ofInt 64 (b : Int)).toNat : Nat) : Int) := rfl
  rw [k, BitVec.ofInt_natCast, BitVec.ofInt_natCast, e]
  exact wu ⟨by omega, by omega⟩
theorem shl64 (x r : Nat) (h : r ≤ 64) : IntKind.u64.wrap ((x : Int) * 2 ^ (min r IntKind.u64.bits)) = ((x * 2 ^ r % 18446744073709551616 : Nat) : Int) := by
  rw [show min r IntKind.u64.bits = r from Nat.min_eq_left h, IntKind.wrap_u64]
  have : (x : Int) * 2 ^ r = ((x * 2 ^ r : Nat) : Int) := by simp
  rw [this]; omega
theorem shr64 (x r : Nat) (h : r ≤ 64) : (x : Int).fdiv (2 ^ (min r IntKind.u64.bits)) = ((x / 2 ^ r : Nat) : Int) := by
  rw [show min r IntKind.u64.bits = r from Nat.min_eq_left h]
  have : (2 : Int) ^ r = ((2 ^ r : Nat) : Int) := by simp
  rw [this, Int.fdiv_eq_ediv_of_nonneg _ (Int.natCast_nonneg _)]; rfl
theorem tn_64 (r : Nat) : (64 - (r : Int)).toNat = 64 - r := by omega
theorem tmod_64 (n : Nat) : (n : Int).tmod 64 = ((n % 64 : Nat) : Int) := rfl
theorem tdiv_64 (n : Nat) : (n : Int).tdiv 64 = ((n / 64 : Nat) : Int) := rfl
theorem or_low {x r low : Nat} (hr : r ≤ 64) (hl : low < 2 ^ r) : (x * 2 ^ r % 18446744073709551616) ||| low = x * 2 ^ r % 18446744073709551616 + low := by
  have e : x * 2 ^ r % 18446744073709551616 = 2 ^ r * (x % 2 ^ (64 - r)) := by
    rw [show 18446744073709551616 = 2 ^ r * 2 ^ (64 - r) from by rw [← Nat.pow_add, show r + (64 - r) = 64 from by omega], Nat.mul_comm x, Nat.mul_mod_mul_left]
  rw [e, ← Nat.two_pow_add_eq_or_of_lt hl]
theorem or_high {x r low : Nat} (hr : r ≤ 64) (hl : low < 2 ^ r) : low ||| (x * 2 ^ r % 18446744073709551616) = low + x * 2 ^ r % 18446744073709551616 := by
  rw [Nat.or_comm, or_low hr hl, Nat.add_comm]

/-- a word, shifted to the left over what came from below -/
theorem shl_step {V P x r : Nat} (hP : 0 < P) (hV : V < P) (hx : x < B) (hr : r ≤ 64) :
    ((V + P * x) * 2 ^ r) / P % B = x * 2 ^ r % 18446744073709551616 + V * 2 ^ r / P ∧ ((V + P * x) * 2 ^ r) / (P * B) = x / 2 ^ (64 - r) ∧ ((V + P * x) * 2 ^ r) % P = (V * 2 ^ r) % P ∧ V * 2 ^ r / P < 2 ^ r := by
  have hl : V * 2 ^ r / P < 2 ^ r := (Nat.div_lt_iff_lt_mul hP).2 (by rw [Nat.mul_comm]; exact Nat.mul_lt_mul_of_pos_left hV (Nat.pow_pos (by decide)))
  have e : (V + P * x) * 2 ^ r = V * 2 ^ r + P * (x * 2 ^ r) := by rw [Nat.add_mul, Nat.mul_assoc]
  have eB : B = 2 ^ (64 - r) * 2 ^ r := by rw [← Nat.pow_add, show 64 - r + r = 64 from by omega]; rfl
  have em : x * 2 ^ r % 18446744073709551616 = 2 ^ r * (x % 2 ^ (64 - r)) := by
    rw [show 18446744073709551616 = 2 ^ r * 2 ^ (64 - r) from by rw [← Nat.pow_add, show r + (64 - r) = 64 from by omega], Nat.mul_comm x, Nat.mul_mod_mul_left]
  have e1 : (V + P * x) * 2 ^ r / P = V * 2 ^ r / P + x * 2 ^ r := by rw [e, Nat.add_mul_div_left _ _ hP]
  have hq : x * 2 ^ r / B = x / 2 ^ (64 - r) := by rw [eB, Nat.mul_div_mul_right _ _ (Nat.pow_pos (by decide))]
  have hsum : V * 2 ^ r / P + x * 2 ^ r = (x * 2 ^ r % B + V * 2 ^ r / P) + B * (x * 2 ^ r / B) := by have := Nat.mod_add_div (x * 2 ^ r) B; omega
  have hlt : x * 2 ^ r % B + V * 2 ^ r / P < B := by
    have h1 : x % 2 ^ (64 - r) < 2 ^ (64 - r) := Nat.mod_lt _ (Nat.pow_pos (by decide))
    have h2 : 2 ^ r * (x % 2 ^ (64 - r) + 1) ≤ 2 ^ r * 2 ^ (64 - r) := Nat.mul_le_mul_left _ h1
    rw [show x * 2 ^ r % B = 2 ^ r * (x % 2 ^ (64 - r)) from em]
    rw [Nat.mul_add, Nat.mul_one, Nat.mul_comm (2 ^ r) (2 ^ (64 - r)), ← eB] at h2
    omega
  have hB : 0 < B := by decide
  refine ⟨?_, ?_, ?_, hl⟩
  · rw [e1, hsum, Nat.add_mul_mod_self_left, Nat.mod_eq_of_lt hlt]; rfl
  · rw [← Nat.div_div_eq_div_mul, e1, hsum, Nat.add_mul_div_left _ _ hB, Nat.div_eq_of_lt hlt, Nat.zero_add, hq]
  · rw [e, Nat.add_mul_mod_self_left]
/-- a word of a number shifted to the right -/
theorem shr_step {X r : Nat} (h0 : 0 < r) (hr : r < 64) : X / 2 ^ r % B = X % B / 2 ^ r + (X / B % B) * 2 ^ (64 - r) % 18446744073709551616 ∧ X % B / 2 ^ r < 2 ^ (64 - r) := by
  have eB : B = 2 ^ r * 2 ^ (64 - r) := by rw [← Nat.pow_add, show r + (64 - r) = 64 from by omega]; rfl
  have hlt : X % B / 2 ^ r < 2 ^ (64 - r) := (Nat.div_lt_iff_lt_mul (Nat.pow_pos (by decide))).2 (by rw [Nat.mul_comm, ← eB]; exact Nat.mod_lt _ (by decide))
  refine ⟨?_, hlt⟩
  have e1 : X / 2 ^ r = X % B / 2 ^ r + 2 ^ (64 - r) * (X / B) := by
    have h1 := Nat.mod_add_div X B
    have h2 : X = X % B + 2 ^ r * (2 ^ (64 - r) * (X / B)) := by rw [← Nat.mul_assoc, ← eB]; omega
    calc X / 2 ^ r = (X % B + 2 ^ r * (2 ^ (64 - r) * (X / B))) / 2 ^ r := by rw [← h2]
      _ = _ := Nat.add_mul_div_left _ _ (Nat.pow_pos (by decide))
  have em : ∀ y, y * 2 ^ (64 - r) % B = 2 ^ (64 - r) * (y % 2 ^ r) := fun y => by rw [eB, Nat.mul_comm y, Nat.mul_comm (2 ^ r), Nat.mul_mod_mul_left]
  have em2 : X / B % B * 2 ^ (64 - r) % 18446744073709551616 = 2 ^ (64 - r) * (X / B % 2 ^ r) := by
    rw [show (18446744073709551616 : Nat) = B from rfl, em, eB, Nat.mod_mul_right_mod]
  have em3 : 2 ^ (64 - r) * (X / B) % B = 2 ^ (64 - r) * (X / B % 2 ^ r) := by rw [Nat.mul_comm, em]
  rw [em2, e1]
  have h3 : X % B / 2 ^ r + 2 ^ (64 - r) * (X / B % 2 ^ r) < B := by
    have h4 : X / B % 2 ^ r < 2 ^ r := Nat.mod_lt _ (Nat.pow_pos (by decide))
    have h5 : 2 ^ (64 - r) * (X / B % 2 ^ r + 1) ≤ 2 ^ (64 - r) * 2 ^ r := Nat.mul_le_mul_left _ h4
    rw [Nat.mul_add, Nat.mul_one, Nat.mul_comm _ (2 ^ r), ← eB] at h5
    omega
  rw [Nat.add_mod, em3, Nat.mod_eq_of_lt (show X % B / 2 ^ r < B from by omega), Nat.mod_eq_of_lt h3]

/-- the words of a number times 2^n, as limb lays them -/
def shlOut (a : List Nat) (n : Nat) : List Nat := List.replicate (n / 64) 0 ++ (if n % 64 = 0 then a else fl B (a.length + 1) (nv B a * 2 ^ (n % 64)))
theorem shlOut_len (a : List Nat) (n : Nat) : (shlOut a n).length ≤ n / 64 + a.length + 1 := by
  unfold shlOut
  rw [List.length_append, List.length_replicate]
  split
  · omega
  · rw [fl_len]; omega
theorem shlOut_Wd {a : List Nat} (ha : Wd a) (n : Nat) : Wd (shlOut a n) := by
  unfold shlOut
  refine Lt_app.2 ⟨Lt_rep (by decide), ?_⟩
  split
  · exact ha
  · exact fl_Lt (by decide) _ _
theorem shlOut_nv {a : List Nat} (ha : Wd a) (n : Nat) : nv B (shlOut a n) = nv B a * 2 ^ n := by
  have e : (2 : Nat) ^ n = B ^ (n / 64) * 2 ^ (n % 64) := by rw [B64, ← Nat.pow_mul, ← Nat.pow_add, Nat.div_add_mod]
  unfold shlOut
  rw [nv_app, nv_rep, Nat.zero_add, List.length_replicate, e]
  split
  · rename_i h; rw [h, Nat.pow_zero, Nat.mul_one, Nat.mul_comm]
  · rw [nv_fl, Nat.mod_eq_of_lt, Nat.mul_left_comm]
    have h1 := nv_lt ha
    have h2 : 2 ^ (n % 64) ≤ B := by rw [B64]; exact Nat.pow_le_pow_right (by decide) (by omega)
    rw [Nat.pow_succ]
    exact Nat.lt_of_lt_of_le (Nat.mul_lt_mul_of_pos_right h1 (Nat.pow_pos (by decide))) (Nat.mul_le_mul_left _ h2)
theorem pow_split (n : Nat) : (2 : Nat) ^ n = B ^ (n / 64) * 2 ^ (n % 64) := by rw [B64, ← Nat.pow_mul, ← Nat.pow_add, Nat.div_add_mod]
/-- digit i of A / 2^n -/
theorem shr_digit {A n i : Nat} : A / 2 ^ n / B ^ i % B = A / B ^ (n / 64 + i) / 2 ^ (n % 64) % B := by
  rw [pow_split, Nat.div_div_eq_div_mul, Nat.div_div_eq_div_mul, Nat.pow_add]
  congr 2
  rw [Nat.mul_right_comm]
end Go.Proofs.Ytngohbpgdeiodaa
