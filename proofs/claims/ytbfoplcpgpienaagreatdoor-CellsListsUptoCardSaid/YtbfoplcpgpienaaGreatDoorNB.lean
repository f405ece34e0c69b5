/-
  nat, surdref02: words, plain ints, bits, how often 2 divides.
-/
import Derived.Test.YtbfoplcpgpienaaGreatDoorCT
import Derived.Test.YtbfoplcpgpienaaGreatDoorZb
import Derived.Test.YtbfoplcpgpienaaGreatDoorGH
namespace Go.Proofs.YtbfoplcpgpienaaGreatDoor
open Go Go.RowKit Ab
set_option linter.unusedSimpArgs false
set_option linter.unusedVariables false
set_option maxHeartbeats 10000000
theorem bz_NB : type_of% (And.intro @wi (And.intro @tn_nat (And.intro @Nat.div_one (And.intro @Nat.mul_one (And.intro @W_len (And.intro @W_nf (And.intro @W_cell (And.intro @W_nil (And.intro @W_get (And.intro @Bl_len (And.intro @Bl_nf (@Bl_nil)))))))))))) := And.intro @wi (And.intro @tn_nat (And.intro @Nat.div_one (And.intro @Nat.mul_one (And.intro @W_len (And.intro @W_nf (And.intro @W_cell (And.intro @W_nil (And.intro @W_get (And.intro @Bl_len (And.intro @Bl_nf (@Bl_nil)))))))))))
theorem bl_dg2 (n : Nat) : (dg 2 n).length = bl n := by
  have B22 : (2 : Nat) ≤ 2 := Nat.le_refl 2
  rcases Nat.eq_zero_or_pos n with h | h
  · rw [h]; rfl
  · have h1 : nv 2 (dg 2 n) < 2 ^ (dg 2 n).length := nv_lt (dg_Lt (b := 2) (by decide) n)
    rw [nv_dg B22] at h1
    have h2 : 2 ^ ((dg 2 n).length - 1) ≤ nv 2 (dg 2 n) := nv_top (b := 2) (tz_dg' n) (fun h0 => by rw [dg_nil B22] at h0; omega)
    rw [nv_dg B22] at h2
    have h3 : (dg 2 n).length ≠ 0 := fun h0 => by rw [h0, Nat.pow_zero] at h1; omega
    have := bl_uniq (k := (dg 2 n).length - 1) h2 (by rw [show (dg 2 n).length - 1 + 1 = (dg 2 n).length from by omega]; exact h1)
    omega
def nsV (u : Nat) : Int := if u < 9223372036854775808 then (u : Int) else 0
def nsE (u : Nat) : Int := if u < 9223372036854775808 then 0 else 13
theorem and1' (x : Nat) (h : x < 18446744073709551616) : bits .and .u64 (x : Int) 1 = ((x % 2 : Nat) : Int) := by
  rw [show (1 : Int) = ((1 : Nat) : Int) from rfl, band64 x 1 h (by decide), Nat.and_one_is_mod]
def bitV (v : Nat) (i : Int) : Nat := if i < 0 then 0 else v / 2 ^ i.toNat % 2
theorem bitV_n (v i : Nat) : bitV v (i : Int) = v / 2 ^ i % 2 := if_neg (by omega)
theorem bitV_neg {v : Nat} {i : Int} (h : i < 0) : bitV v i = 0 := if_pos h
theorem dg2_get (v i : Nat) : (dg 2 v).getD i 0 = v / 2 ^ i % 2 := by
  have := nv_digit (b := 2) (by decide) (dg_Lt (by decide) v) i
  rw [nv_dg (by decide)] at this; exact this
theorem dg2_off {v i : Nat} (h : (dg 2 v).length ≤ i) : v / 2 ^ i % 2 = 0 := by
  rw [← dg2_get, List.getD_eq_getElem?_getD, List.getElem?_eq_none h]; rfl
end Go.Proofs.YtbfoplcpgpienaaGreatDoor
