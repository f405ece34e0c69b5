/-
  ZzRing: the law's walk.
-/
import Derived.Test.YtnjjeephbeoakaaDoorLZKn
import Derived.Test.YtnjjeephbeoakaaDoorZ9
namespace Go.Proofs.YtnjjeephbeoakaaDoor
open Go Go.RowKit Ab
set_option linter.unusedSimpArgs false
set_option linter.unusedVariables false
set_option maxHeartbeats 10000000
theorem bz_LZRing : type_of% (And.intro @Bool.false_and (And.intro @wi (And.intro @tn_nat (And.intro @Nat.div_one (And.intro @Nat.mul_one (And.intro @W_len (And.intro @W_nf (And.intro @W_cell (And.intro @W_nil (And.intro @W_get (@nf_g))))))))))) := And.intro @Bool.false_and (And.intro @wi (And.intro @tn_nat (And.intro @Nat.div_one (And.intro @Nat.mul_one (And.intro @W_len (And.intro @W_nf (And.intro @W_cell (And.intro @W_nil (And.intro @W_get (@nf_g))))))))))

/-- a value that stands for an integer of so many words -/
def ZV (v : V) (x : Int) (m : Nat) : Prop := ∃ s a, v = zL s a ∧ Wd a ∧ a.length ≤ m ∧ zv s a = x
theorem ZVr {s : Bool} {a : List Nat} {m : Nat} (ha : Wd a) (la : a.length ≤ m) : ZV (zL s a) (zv s a) m := ⟨s, a, rfl, ha, la, rfl⟩
theorem ZVo {x : Int} {m : Nat} (h : x.natAbs < B ^ m) : ZV (zN x) x m := ⟨_, _, rfl, Wd_dg _, dlen h, zv_N x⟩
theorem zaddG {v w : V} {x y r : Int} {m : Nat} (hm : m ≤ 100000000) (hv : ZV v x m) (hw : ZV w y m) (e : x + y = r) : AFun Tryd.prog J0 25 [v, w] (zN r) := by
  obtain ⟨s, a, rfl, ha, la, rfl⟩ := hv
  obtain ⟨t, b, rfl, hb, lb, rfl⟩ := hw
  rw [← e]
  exact zadd_spec s t a b ha hb (by omega) (by omega)
theorem zsubG {v w : V} {x y r : Int} {m : Nat} (hm : m ≤ 100000000) (hv : ZV v x m) (hw : ZV w y m) (e : x - y = r) : AFun Tryd.prog J0 45 [v, w] (zN r) := by
  obtain ⟨s, a, rfl, ha, la, rfl⟩ := hv
  obtain ⟨t, b, rfl, hb, lb, rfl⟩ := hw
  rw [← e]
  exact zsub_spec s t a b ha hb (by omega) (by omega)
theorem zmulG {v w : V} {x y r : Int} {m : Nat} (hm : m ≤ 100000000) (hv : ZV v x m) (hw : ZV w y m) (e : x * y = r) : AFun Tryd.prog J0 16 [v, w] (zN r) := by
  obtain ⟨s, a, rfl, ha, la, rfl⟩ := hv
  obtain ⟨t, b, rfl, hb, lb, rfl⟩ := hw
  rw [← e]
  exact zmul_spec s t a b ha hb (by omega) (by omega)
theorem zcmpG {v w : V} {x y r : Int} {m : Nat} (hm : m ≤ 100000000) (hv : ZV v x m) (hw : ZV w y m) (e : cz x y = r) : AFun Tryd.prog J0 24 [v, w] (.i .i64 r) := by
  obtain ⟨s, a, rfl, ha, la, rfl⟩ := hv
  obtain ⟨t, b, rfl, hb, lb, rfl⟩ := hw
  rw [← e]
  exact zcmp_spec s t a b ha hb (by omega) (by omega)
theorem zsignG {v : V} {x r : Int} {m : Nat} (hm : m ≤ 100000000) (hv : ZV v x m) (e : sgz x = r) : AFun Tryd.prog J0 18 [v] (.i .i64 r) := by
  obtain ⟨s, a, rfl, ha, la, rfl⟩ := hv
  rw [← e]
  exact zsign_spec s a ha (by omega)
theorem znegG {v : V} {x r : Int} {m : Nat} (hm : m ≤ 100000000) (hv : ZV v x m) (e : -x = r) : AFun Tryd.prog J0 67 [v] (zN r) := by
  obtain ⟨s, a, rfl, ha, la, rfl⟩ := hv
  rw [← e]
  exact zneg_spec s a ha (by omega)
theorem cz_swap (x y : Int) : cz y x = -cz x y := by unfold cz; (repeat' split) <;> omega
theorem cz_add (x y z : Int) : cz (x + z) (y + z) = cz x y := by unfold cz; (repeat' split) <;> omega
theorem cz_bnd (x y : Int) : -1 ≤ cz x y ∧ cz x y ≤ 1 := by unfold cz; (repeat' split) <;> omega
theorem sgz_mul (x y : Int) : sgz (x * y) = sgz x * sgz y := by
  have sn : ∀ z : Int, z < 0 → sgz z = -1 := fun z h => if_pos h
  have sp : ∀ z : Int, 0 < z → sgz z = 1 := fun z h => (if_neg (by omega)).trans (if_pos h)
  rcases Int.lt_trichotomy x 0 with hx | hx | hx
  · rcases Int.lt_trichotomy y 0 with hy | hy | hy
    · rw [sn x hx, sn y hy, sp _ (Int.mul_pos_of_neg_of_neg hx hy)]; rfl
    · subst hy; rw [Int.mul_zero]; show 0 = _ * 0; rw [Int.mul_zero]
    · rw [sn x hx, sp y hy, sn _ (Int.mul_neg_of_neg_of_pos hx hy)]; rfl
  · subst hx; rw [Int.zero_mul]; show 0 = 0 * _; rw [Int.zero_mul]
  · rcases Int.lt_trichotomy y 0 with hy | hy | hy
    · rw [sp x hx, sn y hy, sn _ (Int.mul_neg_of_pos_of_neg hx hy)]; rfl
    · subst hy; rw [Int.mul_zero]; show 0 = _ * 0; rw [Int.mul_zero]
    · rw [sp x hx, sp y hy, sp _ (Int.mul_pos hx hy)]; rfl
theorem cz_mul (x y z : Int) : cz (x * z) (y * z) = cz x y * sgz z := by
  rw [← cz_sub, ← cz_sub, ← sgz_mul, Int.sub_mul]
theorem nab_mul {x y : Int} {m n : Nat} (hx : x.natAbs < B ^ m) (hy : y.natAbs < B ^ n) : (x * y).natAbs < B ^ (m + n) := by
  rw [Int.natAbs_mul, Nat.pow_add]; exact Nat.mul_lt_mul_of_lt_of_lt hx hy
theorem nab_add {x y : Int} {m : Nat} (hx : x.natAbs < B ^ m) (hy : y.natAbs < B ^ m) : (x + y).natAbs < B ^ (m + 1) := Nat.lt_of_le_of_lt (by omega) (padd hx hy)
theorem nab_sub {x y : Int} {m : Nat} (hx : x.natAbs < B ^ m) (hy : y.natAbs < B ^ m) : (x - y).natAbs < B ^ (m + 1) := Nat.lt_of_le_of_lt (by omega) (padd hx hy)
theorem nab_up {u m n : Nat} (h : u < B ^ m) (hn : m ≤ n) : u < B ^ n := Nat.lt_of_lt_of_le h (Nat.pow_le_pow_right (by decide) hn)
end Go.Proofs.YtnjjeephbeoakaaDoor
