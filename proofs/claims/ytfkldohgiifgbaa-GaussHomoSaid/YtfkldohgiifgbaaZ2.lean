/-
  zz: quotients, shifts.
-/
import Derived.Test.YtfkldohgiifgbaaZ1
namespace Go.Proofs.Ytfkldohgiifgbaa
open Go Go.RowKit Ab
set_option linter.unusedSimpArgs false
set_option linter.unusedVariables false
set_option maxHeartbeats 10000000
theorem bz_Z2 : type_of% (And.intro @Bool.false_and (And.intro @wi (And.intro @tn_nat (And.intro @Nat.div_one (And.intro @Nat.mul_one (And.intro @W_len (And.intro @W_nf (And.intro @W_cell (And.intro @W_nil (And.intro @W_get (@nf_g))))))))))) := And.intro @Bool.false_and (And.intro @wi (And.intro @tn_nat (And.intro @Nat.div_one (And.intro @Nat.mul_one (And.intro @W_len (And.intro @W_nf (And.intro @W_cell (And.intro @W_nil (And.intro @W_get (@nf_g))))))))))

theorem zN_0 : zN 0 = .g [.b false, .l 1 []] := rfl
theorem tdiv_eq (s t : Bool) (u v : Nat) : zI (!(s == t)) (u / v) = (zI s u).tdiv (zI t v) := by
  unfold zI; cases s <;> cases t <;> simp [Int.neg_tdiv, Int.tdiv_neg] <;> rfl
theorem tmod_eq (s t : Bool) (u v : Nat) : zI s (u % v) = (zI s u).tmod (zI t v) := by
  unfold zI; cases s <;> cases t <;> simp [Int.neg_tmod, Int.tmod_neg] <;> rfl
theorem zv_z {s : Bool} {a : List Nat} : zv s a = 0 ↔ nv B a = 0 := by unfold zv zI; cases s <;> simp
/-- quotient, remainder, the code -/
def zq (x y : Int) : Int := x.tdiv y
def zr (x y : Int) : Int := if y = 0 then 0 else x.tmod y
def ze (y : Int) : Int := if y = 0 then 1 else 0
theorem zr_0 (x : Int) : zr x 0 = 0 := if_pos rfl
theorem zq_0 (x : Int) : zq x 0 = 0 := Int.tdiv_zero x
theorem zr_p {x y : Int} (h : y ≠ 0) : zr x y = x.tmod y := if_neg h
theorem ze_p {y : Int} (h : y ≠ 0) : ze y = 0 := if_neg h

/-- a size's bound, in words -/
theorem zq_abs (x y : Int) : (zq x y).natAbs ≤ x.natAbs := Int.natAbs_tdiv_le_natAbs x y
theorem zr_abs (x y : Int) : (zr x y).natAbs ≤ x.natAbs := by
  unfold zr; split
  · exact Nat.zero_le _
  · rw [Int.natAbs_tmod]; exact Nat.mod_le _ _
theorem zv_lt {s : Bool} {a : List Nat} {m : Nat} (ha : Wd a) (la : a.length ≤ m) : (zv s a).natAbs < B ^ m := by rw [zv_abs]; exact nvlt ha la
theorem sgzN (z : Int) : sgz (zv (decide (z < 0)) (dg B z.natAbs)) = sgz z := by rw [zv_N]
theorem zsignN {z : Int} {m : Nat} (hz : z.natAbs < B ^ m) (hm : m ≤ 1000000000) : AFun Try.prog J0 112 [zN z] (.i .i64 (sgz z)) := by
  have := zsign_spec (decide (z < 0)) (dg B z.natAbs) (Wd_dg _) (Nat.le_trans (dlen hz) hm)
  rwa [zv_N] at this
theorem zabs1 {x : Int} {m : Nat} (h : x.natAbs < B ^ m) : x.natAbs < B ^ (m + 1) := pup h (Nat.le_succ m)
theorem one_lt (m : Nat) : (1 : Int).natAbs < B ^ (m + 1) := by
  have := Nat.pow_le_pow_right (by decide : 0 < B) (Nat.succ_le_succ (Nat.zero_le m))
  rw [Nat.pow_one] at this
  exact Nat.lt_of_lt_of_le (by decide) this

end Go.Proofs.Ytfkldohgiifgbaa
