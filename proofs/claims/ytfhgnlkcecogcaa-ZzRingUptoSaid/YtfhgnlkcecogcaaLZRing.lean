/-
  ZzRing: the law's walk.
-/
import Derived.Test.YtfhgnlkcecogcaaLZKn
import Derived.Test.YtfhgnlkcecogcaaZ9
namespace Go.Proofs.Ytfhgnlkcecogcaa
open Go Go.RowKit Ab
set_option linter.unusedSimpArgs false
set_option linter.unusedVariables false
set_option maxHeartbeats 10000000
theorem bz_LZRing : type_of% (And.intro @Bool.false_and (And.intro @wi (And.intro @tn_nat (And.intro @Nat.div_one (And.intro @Nat.mul_one (And.intro @W_len (And.intro @W_nf (And.intro @W_cell (And.intro @W_nil (And.intro @W_get (@nf_g))))))))))) := And.intro @Bool.false_and (And.intro @wi (And.intro @tn_nat (And.intro @Nat.div_one (And.intro @Nat.mul_one (And.intro @W_len (And.intro @W_nf (And.intro @W_cell (And.intro @W_nil (And.intro @W_get (@nf_g))))))))))

/-- a value that stands for an integer of so many words -/
def ZV (v : V) (x : Int) (m : Nat) : Prop := ∃ s a, v = zL s a ∧ Wd a ∧ a.length ≤ m ∧ zv s a = x
theorem ZVr {s : Bool} {a : List Nat} {m : Nat} (ha : Wd a) (la : a.length ≤ m) : ZV (zL s a) (zv s a) m := ⟨s, a, rfl, ha, la, rfl⟩
theorem ZVo {x : Int} {m : Nat} (h : x.natAbs < B ^ m) : ZV (zN x) x m := ⟨_, _, rfl, Wd_dg _, dlen h, zv_N x⟩
theorem zaddG {v w : V} {x y r : Int} {m : Nat} (hm : m ≤ 100000000) (hv : ZV v x m) (hw : ZV w y m) (e : x + y = r) : AFun Try.prog J0 19 [v, w] (zN r) := by
  obtain ⟨s, a, rfl, ha, la, rfl⟩ := hv
  obtain ⟨t, b, rfl, hb, lb, rfl⟩ := hw
  rw [← e]
  exact zadd_spec s t a b ha hb (by omega) (by omega)
theorem zsubG {v w : V} {x y r : Int} {m : Nat} (hm : m ≤ 100000000) (hv : ZV v x m) (hw : ZV w y m) (e : x - y = r) : AFun Try.prog J0 21 [v, w] (zN r) := by
  obtain ⟨s, a, rfl, ha, la, rfl⟩ := hv
  obtain ⟨t, b, rfl, hb, lb, rfl⟩ := hw
  rw [← e]
  exact zsub_spec s t a b ha hb (by omega) (by omega)
theorem zmulG {v w : V} {x y r : Int} {m : Nat} (hm : m ≤ 100000000) (hv : ZV v x m) (hw : ZV w y m) (e : x * y = r) : AFun Try.prog J0 20 [v, w] (zN r) := by
  obtain ⟨s, a, rfl, ha, la, rfl⟩ := hv
  obtain ⟨t, b, rfl, hb, lb, rfl⟩ := hw
  rw [← e]
  exact zmul_spec s t a b ha hb (by omega) (by omega)
theorem zcmpG {v w : V} {x y r : Int} {m : Nat} (hm : m ≤ 100000000) (hv : ZV v x m) (hw : ZV w y m) (e : cz x y = r) : AFun Try.prog J0 25 [v, w] (.i .i64 r) := by
  obtain ⟨s, a, rfl, ha, la, rfl⟩ := hv
  obtain ⟨t, b, rfl, hb, lb, rfl⟩ := hw
  rw [← e]
  exact zcmp_spec s t a b ha hb (by omega) (by omega)
theorem zsignG {v : V} {x r : Int} {m : Nat} (hm : m ≤ 100000000) (hv : ZV v x m) (e : sgz x = r) : AFun Try.prog J0 24 [v] (.i .i64 r) := by
  obtain ⟨s, a, rfl, ha, la, rfl⟩ := hv
  rw [← e]
  exact zsign_spec s a ha (by omega)
theorem znegG {v : V} {x r : Int} {m : Nat} (hm : m ≤ 100000000) (hv : ZV v x m) (e : -x = r) : AFun Try.prog J0 23 [v] (zN r) := by
  obtain ⟨s, a, rfl, ha, la, rfl⟩ := hv
  rw [← e]
  exact zneg_spec s a ha (by omega)
theorem zisNormO {x : Int} {m : Nat} (hm : m ≤ 100000000) (h : x.natAbs < B ^ m) : AFun Try.prog J0 28 [zN x] (.b true) := by
  have := zisNorm_spec (decide (x < 0)) (dg B x.natAbs) (Wd_dg _) (by have := dlen h; omega)
  rwa [show (decide (tz (dg B x.natAbs) = dg B x.natAbs) && !(decide (x < 0) && decide ((dg B x.natAbs).length = 0))) = true from by
    rw [decide_eq_true (tz_dg' _), Bool.true_and]
    by_cases h0 : (dg B x.natAbs).length = 0
    · have := (dg_nil B2).1 (List.eq_nil_of_length_eq_zero h0)
      rw [decide_eq_false (show ¬ x < 0 by omega)]; rfl
    · rw [decide_eq_false h0, Bool.and_false]; rfl] at this
theorem cz_swap (x y : Int) : cz y x = -cz x y := by unfold cz; (repeat' split) <;> omega
theorem cz_add (x y z : Int) : cz (x + z) (y + z) = cz x y := by unfold cz; (repeat' split) <;> omega
theorem cz_bnd (x y : Int) : -1 ≤ cz x y ∧ cz x y ≤ 1 := by unfold cz; (repeat' split) <;> omega
theorem sgz_mul (x y : Int) : sgz (x * y) = sgz x * sgz y := by
  have sn : ∀ z : Int, z < 0 → sgz z = -1 := fun z h => if_pos h
  have sp : ∀ z : Int, 0 < z → sgz z = 1 := fun z h => (if_neg (by omega)).trans (if_pos h)
  rcases Int.lt_trichotomy x 0 with hx | hx | hx
  · rcases Int.lt_trichotomy y 0 with hy | hy | hy
    · rw [sn x hx, sn y hy, sp _ (Int.mul_pos_of_neg_of_neg hx hy)]; rfl
    · subst hy; rw [Int.mul_zero]; show 0 = _ * 0; rw [Int.mul_zero]
    · rw [sn x hx, sp y hy, sn _ (Int.mul_neg_of_neg_of_pos hx hy)]; rfl
  · subst hx; rw [Int.zero_mul]; show 0 = 0 * _; rw [Int.zero_mul]
  · rcases Int.lt_trichotomy y 0 with hy | hy | hy
    · rw [sp x hx, sn y hy, sn _ (Int.mul_neg_of_pos_of_neg hx hy)]; rfl
    · subst hy; rw [Int.mul_zero]; show 0 = _ * 0; rw [Int.mul_zero]
    · rw [sp x hx, sp y hy, sp _ (Int.mul_pos hx hy)]; rfl
theorem cz_mul (x y z : Int) : cz (x * z) (y * z) = cz x y * sgz z := by
  rw [← cz_sub, ← cz_sub, ← sgz_mul, Int.sub_mul]
theorem nab_mul {x y : Int} {m n : Nat} (hx : x.natAbs < B ^ m) (hy : y.natAbs < B ^ n) : (x * y).natAbs < B ^ (m + n) := by
  rw [Int.natAbs_mul, Nat.pow_add]; exact Nat.mul_lt_mul_of_lt_of_lt hx hy
theorem nab_add {x y : Int} {m : Nat} (hx : x.natAbs < B ^ m) (hy : y.natAbs < B ^ m) : (x + y).natAbs < B ^ (m + 1) := Nat.lt_of_le_of_lt (by omega) (padd hx hy)
theorem nab_sub {x y : Int} {m : Nat} (hx : x.natAbs < B ^ m) (hy : y.natAbs < B ^ m) : (x - y).natAbs < B ^ (m + 1) := Nat.lt_of_le_of_lt (by omega) (padd hx hy)
theorem nab_up {u m n : Nat} (h : u < B ^ m) (hn : m ≤ n) : u < B ^ n := Nat.lt_of_lt_of_le h (Nat.pow_le_pow_right (by decide) hn)
-- surd/surdlaw07.ZzRing
def a5 : AC := .seq (.reg [⟨some 3, none, .bx 30 (.t 0)⟩, 
      ⟨some 4, none, .bx 30 (.t 1)⟩, 
      ⟨some 5, none, .bx 30 (.t 2)⟩, 
      ⟨some 6, none, .mv (.k (.b false))⟩])
  (.seq (.seq (.reg [⟨some 16, none, .call 6 []⟩, 
        ⟨some 17, none, .un .not (.t 16)⟩])
    (.cond (.t 17)
    (.seq (.reg [⟨some 6, none, .mv (.k (.b false))⟩])
      (.ret))
    (.skip)))
  (.seq (.dreg [⟨some 18, none, .ld true 2 (.t 3)⟩, 
      ⟨some 19, none, .ld true 2 (.t 4)⟩, 
      ⟨some 20, none, .call 19 [(1, (.t 18)), (1, (.t 19))]⟩, 
      ⟨some 21, none, .ld true 2 (.t 3)⟩, 
      ⟨some 22, none, .ld true 2 (.t 4)⟩, 
      ⟨some 23, none, .call 20 [(1, (.t 21)), (1, (.t 22))]⟩, 
      ⟨some 7, none, .al 30 [(.b false), (.l 1 [])]⟩, 
      ⟨some 8, none, .al 30 [(.b false), (.l 1 [])]⟩, 
      ⟨none, none, .st 2 (.t 7) (.t 20)⟩, 
      ⟨none, none, .st 2 (.t 8) (.t 23)⟩])
  (.seq (.seq (.dreg [⟨some 24, none, .ld true 2 (.t 7)⟩, 
        ⟨some 25, none, .ld true 2 (.t 4)⟩, 
        ⟨some 26, none, .ld true 2 (.t 3)⟩, 
        ⟨some 27, none, .call 19 [(1, (.t 25)), (1, (.t 26))]⟩, 
        ⟨some 28, none, .call 12 [(1, (.t 24)), (1, (.t 27))]⟩, 
        ⟨some 29, none, .un .not (.t 28)⟩, 
        ⟨some 30, none, .mv (.t 29)⟩, 
        ⟨some 31, some (30, false), .ld true 2 (.t 7)⟩, 
        ⟨some 32, some (30, false), .ld true 2 (.t 5)⟩, 
        ⟨some 33, some (30, false), .call 19 [(1, (.t 31)), (1, (.t 32))]⟩, 
        ⟨some 34, some (30, false), .ld true 2 (.t 3)⟩, 
        ⟨some 35, some (30, false), .ld true 2 (.t 4)⟩, 
        ⟨some 36, some (30, false), .ld true 2 (.t 5)⟩, 
        ⟨some 37, some (30, false), .call 19 [(1, (.t 35)), (1, (.t 36))]⟩, 
        ⟨some 38, some (30, false), .call 19 [(1, (.t 34)), (1, (.t 37))]⟩, 
        ⟨some 39, some (30, false), .call 12 [(1, (.t 33)), (1, (.t 38))]⟩, 
        ⟨some 40, some (30, false), .un .not (.t 39)⟩, 
        ⟨some 41, none, .pick (.t 30) (.k (.b true)) (.t 40)⟩, 
        ⟨some 42, none, .mv (.t 41)⟩, 
        ⟨some 43, some (42, false), .ld true 2 (.t 7)⟩, 
        ⟨some 44, some (42, false), .ld true 2 (.t 4)⟩, 
        ⟨some 45, some (42, false), .call 21 [(1, (.t 43)), (1, (.t 44))]⟩, 
        ⟨some 46, some (42, false), .ld true 2 (.t 3)⟩, 
        ⟨some 47, some (42, false), .call 22 [(1, (.t 46))]⟩, 
        ⟨some 48, some (42, false), .call 12 [(1, (.t 45)), (1, (.t 47))]⟩, 
        ⟨some 49, some (42, false), .un .not (.t 48)⟩, 
        ⟨some 50, none, .pick (.t 42) (.k (.b true)) (.t 49)⟩, 
        ⟨some 51, none, .mv (.t 50)⟩, 
        ⟨some 52, some (51, false), .ld true 2 (.t 3)⟩, 
        ⟨some 53, some (51, false), .ld true 2 (.t 4)⟩, 
        ⟨some 54, some (51, false), .call 21 [(1, (.t 52)), (1, (.t 53))]⟩, 
        ⟨some 55, some (51, false), .ld true 2 (.t 4)⟩, 
        ⟨some 56, some (51, false), .ld true 2 (.t 3)⟩, 
        ⟨some 57, some (51, false), .call 21 [(1, (.t 55)), (1, (.t 56))]⟩, 
        ⟨some 58, some (51, false), .call 23 [(1, (.t 57))]⟩, 
        ⟨some 59, some (51, false), .call 12 [(1, (.t 54)), (1, (.t 58))]⟩, 
        ⟨some 60, some (51, false), .un .not (.t 59)⟩, 
        ⟨some 61, none, .pick (.t 51) (.k (.b true)) (.t 60)⟩])
    (.cond (.t 61)
    (.seq (.reg [⟨some 6, none, .mv (.k (.b false))⟩])
      (.ret))
    (.skip)))
  (.seq (.seq (.dreg [⟨some 62, none, .ld true 2 (.t 8)⟩, 
        ⟨some 63, none, .ld true 2 (.t 4)⟩, 
        ⟨some 64, none, .ld true 2 (.t 3)⟩, 
        ⟨some 65, none, .call 20 [(1, (.t 63)), (1, (.t 64))]⟩, 
        ⟨some 66, none, .call 12 [(1, (.t 62)), (1, (.t 65))]⟩, 
        ⟨some 67, none, .un .not (.t 66)⟩, 
        ⟨some 68, none, .mv (.t 67)⟩, 
        ⟨some 69, some (68, false), .ld true 2 (.t 8)⟩, 
        ⟨some 70, some (68, false), .ld true 2 (.t 5)⟩, 
        ⟨some 71, some (68, false), .call 20 [(1, (.t 69)), (1, (.t 70))]⟩, 
        ⟨some 72, some (68, false), .ld true 2 (.t 3)⟩, 
        ⟨some 73, some (68, false), .ld true 2 (.t 4)⟩, 
        ⟨some 74, some (68, false), .ld true 2 (.t 5)⟩, 
        ⟨some 75, some (68, false), .call 20 [(1, (.t 73)), (1, (.t 74))]⟩, 
        ⟨some 76, some (68, false), .call 20 [(1, (.t 72)), (1, (.t 75))]⟩, 
        ⟨some 77, some (68, false), .call 12 [(1, (.t 71)), (1, (.t 76))]⟩, 
        ⟨some 78, some (68, false), .un .not (.t 77)⟩, 
        ⟨some 79, none, .pick (.t 68) (.k (.b true)) (.t 78)⟩, 
        ⟨some 80, none, .mv (.t 79)⟩, 
        ⟨some 81, some (80, false), .ld true 2 (.t 7)⟩, 
        ⟨some 82, some (80, false), .ld true 2 (.t 5)⟩, 
        ⟨some 83, some (80, false), .call 20 [(1, (.t 81)), (1, (.t 82))]⟩, 
        ⟨some 84, some (80, false), .ld true 2 (.t 3)⟩, 
        ⟨some 85, some (80, false), .ld true 2 (.t 5)⟩, 
        ⟨some 86, some (80, false), .call 20 [(1, (.t 84)), (1, (.t 85))]⟩, 
        ⟨some 87, some (80, false), .ld true 2 (.t 4)⟩, 
        ⟨some 88, some (80, false), .ld true 2 (.t 5)⟩, 
        ⟨some 89, some (80, false), .call 20 [(1, (.t 87)), (1, (.t 88))]⟩, 
        ⟨some 90, some (80, false), .call 19 [(1, (.t 86)), (1, (.t 89))]⟩, 
        ⟨some 91, some (80, false), .call 12 [(1, (.t 83)), (1, (.t 90))]⟩, 
        ⟨some 92, some (80, false), .un .not (.t 91)⟩, 
        ⟨some 93, none, .pick (.t 80) (.k (.b true)) (.t 92)⟩, 
        ⟨some 94, none, .mv (.t 93)⟩, 
        ⟨some 95, some (94, false), .ld true 2 (.t 8)⟩, 
        ⟨some 96, some (94, false), .call 24 [(1, (.t 95))]⟩, 
        ⟨some 97, some (94, false), .ld true 2 (.t 3)⟩, 
        ⟨some 98, some (94, false), .call 24 [(1, (.t 97))]⟩, 
        ⟨some 99, some (94, false), .ld true 2 (.t 4)⟩, 
        ⟨some 100, some (94, false), .call 24 [(1, (.t 99))]⟩, 
        ⟨some 101, some (94, false), .bin .mul (.t 98) (.t 100)⟩, 
        ⟨some 102, some (94, false), .bin .neq (.t 96) (.t 101)⟩, 
        ⟨some 103, none, .pick (.t 94) (.k (.b true)) (.t 102)⟩])
    (.cond (.t 103)
    (.seq (.reg [⟨some 6, none, .mv (.k (.b false))⟩])
      (.ret))
    (.skip)))
  (.seq (.reg [⟨some 104, none, .ld true 2 (.t 3)⟩, 
      ⟨some 105, none, .ld true 2 (.t 4)⟩, 
      ⟨some 106, none, .call 25 [(1, (.t 104)), (1, (.t 105))]⟩, 
      ⟨some 9, none, .mv (.t 106)⟩])
  (.seq (.seq (.dreg [⟨some 107, none, .ld true 2 (.t 3)⟩, 
        ⟨some 108, none, .ld true 2 (.t 4)⟩, 
        ⟨some 109, none, .call 21 [(1, (.t 107)), (1, (.t 108))]⟩, 
        ⟨some 110, none, .call 24 [(1, (.t 109))]⟩, 
        ⟨some 111, none, .mv (.t 9)⟩, 
        ⟨some 112, none, .bin .neq (.t 110) (.t 111)⟩, 
        ⟨some 113, none, .mv (.t 112)⟩, 
        ⟨some 114, some (113, false), .ld true 2 (.t 4)⟩, 
        ⟨some 115, some (113, false), .ld true 2 (.t 3)⟩, 
        ⟨some 116, some (113, false), .call 25 [(1, (.t 114)), (1, (.t 115))]⟩, 
        ⟨some 117, some (113, false), .mv (.t 9)⟩, 
        ⟨some 118, some (113, false), .un .neg (.t 117)⟩, 
        ⟨some 119, some (113, false), .bin .neq (.t 116) (.t 118)⟩, 
        ⟨some 120, none, .pick (.t 113) (.k (.b true)) (.t 119)⟩, 
        ⟨some 121, none, .mv (.t 120)⟩, 
        ⟨some 122, some (121, false), .ld true 2 (.t 3)⟩, 
        ⟨some 123, some (121, false), .ld true 2 (.t 5)⟩, 
        ⟨some 124, some (121, false), .call 19 [(1, (.t 122)), (1, (.t 123))]⟩, 
        ⟨some 125, some (121, false), .ld true 2 (.t 4)⟩, 
        ⟨some 126, some (121, false), .ld true 2 (.t 5)⟩, 
        ⟨some 127, some (121, false), .call 19 [(1, (.t 125)), (1, (.t 126))]⟩, 
        ⟨some 128, some (121, false), .call 25 [(1, (.t 124)), (1, (.t 127))]⟩, 
        ⟨some 129, some (121, false), .mv (.t 9)⟩, 
        ⟨some 130, some (121, false), .bin .neq (.t 128) (.t 129)⟩, 
        ⟨some 131, none, .pick (.t 121) (.k (.b true)) (.t 130)⟩, 
        ⟨some 132, none, .mv (.t 131)⟩, 
        ⟨some 133, some (132, false), .ld true 2 (.t 3)⟩, 
        ⟨some 134, some (132, false), .ld true 2 (.t 5)⟩, 
        ⟨some 135, some (132, false), .call 20 [(1, (.t 133)), (1, (.t 134))]⟩, 
        ⟨some 136, some (132, false), .ld true 2 (.t 4)⟩, 
        ⟨some 137, some (132, false), .ld true 2 (.t 5)⟩, 
        ⟨some 138, some (132, false), .call 20 [(1, (.t 136)), (1, (.t 137))]⟩, 
        ⟨some 139, some (132, false), .call 25 [(1, (.t 135)), (1, (.t 138))]⟩, 
        ⟨some 140, some (132, false), .mv (.t 9)⟩, 
        ⟨some 141, some (132, false), .ld true 2 (.t 5)⟩, 
        ⟨some 142, some (132, false), .call 24 [(1, (.t 141))]⟩, 
        ⟨some 143, some (132, false), .bin .mul (.t 140) (.t 142)⟩, 
        ⟨some 144, some (132, false), .bin .neq (.t 139) (.t 143)⟩, 
        ⟨some 145, none, .pick (.t 132) (.k (.b true)) (.t 144)⟩])
    (.cond (.t 145)
    (.seq (.reg [⟨some 6, none, .mv (.k (.b false))⟩])
      (.ret))
    (.skip)))
  (.seq (.reg [⟨some 147, none, .ld true 2 (.t 3)⟩, 
      ⟨some 148, none, .call 26 [(1, (.t 147)), (1, (.k (.i .i64 2)))]⟩, 
      ⟨some 146, none, .mv (.t 148)⟩, 
      ⟨some 149, none, .ext (.t 146) 0⟩, 
      ⟨some 150, none, .ext (.t 146) 1⟩, 
      ⟨some 10, none, .al 30 [(.b false), (.l 1 [])]⟩, 
      ⟨none, none, .st 2 (.t 10) (.t 149)⟩, 
      ⟨some 11, none, .mv (.t 150)⟩])
  (.seq (.reg [⟨some 152, none, .ld true 2 (.t 3)⟩, 
      ⟨some 153, none, .call 26 [(1, (.t 152)), (1, (.k (.i .i64 3)))]⟩, 
      ⟨some 151, none, .mv (.t 153)⟩, 
      ⟨some 154, none, .ext (.t 151) 0⟩, 
      ⟨some 155, none, .ext (.t 151) 1⟩, 
      ⟨some 12, none, .al 30 [(.b false), (.l 1 [])]⟩, 
      ⟨none, none, .st 2 (.t 12) (.t 154)⟩, 
      ⟨some 13, none, .mv (.t 155)⟩])
  (.seq (.reg [⟨some 157, none, .ld true 2 (.t 3)⟩, 
      ⟨some 158, none, .call 26 [(1, (.t 157)), (1, (.k (.i .i64 0)))]⟩, 
      ⟨some 156, none, .mv (.t 158)⟩, 
      ⟨some 159, none, .ext (.t 156) 0⟩, 
      ⟨some 160, none, .ext (.t 156) 1⟩, 
      ⟨some 14, none, .al 30 [(.b false), (.l 1 [])]⟩, 
      ⟨none, none, .st 2 (.t 14) (.t 159)⟩, 
      ⟨some 15, none, .mv (.t 160)⟩])
  (.seq (.dreg [⟨some 161, none, .mv (.t 11)⟩, 
      ⟨some 162, none, .bin .eql (.t 161) (.k (.i .i64 0))⟩, 
      ⟨some 163, none, .mv (.t 162)⟩, 
      ⟨some 164, some (163, true), .mv (.t 13)⟩, 
      ⟨some 165, some (163, true), .bin .eql (.t 164) (.k (.i .i64 0))⟩, 
      ⟨some 166, none, .pick (.t 163) (.t 165) (.k (.b false))⟩, 
      ⟨some 167, none, .mv (.t 166)⟩, 
      ⟨some 168, some (167, true), .mv (.t 15)⟩, 
      ⟨some 169, some (167, true), .bin .eql (.t 168) (.k (.i .i64 0))⟩, 
      ⟨some 170, none, .pick (.t 167) (.t 169) (.k (.b false))⟩, 
      ⟨some 171, none, .mv (.t 170)⟩, 
      ⟨some 172, some (171, true), .ld true 2 (.t 10)⟩, 
      ⟨some 173, some (171, true), .ld true 2 (.t 3)⟩, 
      ⟨some 174, some (171, true), .ld true 2 (.t 3)⟩, 
      ⟨some 175, some (171, true), .call 20 [(1, (.t 173)), (1, (.t 174))]⟩, 
      ⟨some 176, some (171, true), .call 12 [(1, (.t 172)), (1, (.t 175))]⟩, 
      ⟨some 177, none, .pick (.t 171) (.t 176) (.k (.b false))⟩, 
      ⟨some 178, none, .mv (.t 177)⟩, 
      ⟨some 179, some (178, true), .ld true 2 (.t 12)⟩, 
      ⟨some 180, some (178, true), .ld true 2 (.t 10)⟩, 
      ⟨some 181, some (178, true), .ld true 2 (.t 3)⟩, 
      ⟨some 182, some (178, true), .call 20 [(1, (.t 180)), (1, (.t 181))]⟩, 
      ⟨some 183, some (178, true), .call 12 [(1, (.t 179)), (1, (.t 182))]⟩, 
      ⟨some 184, none, .pick (.t 178) (.t 183) (.k (.b false))⟩, 
      ⟨some 185, none, .mv (.t 184)⟩, 
      ⟨some 186, some (185, true), .ld true 2 (.t 14)⟩, 
      ⟨some 187, some (185, true), .call 27 [(1, (.k (.i .i64 1)))]⟩, 
      ⟨some 188, some (185, true), .call 12 [(1, (.t 186)), (1, (.t 187))]⟩, 
      ⟨some 189, none, .pick (.t 185) (.t 188) (.k (.b false))⟩, 
      ⟨some 190, none, .mv (.t 189)⟩, 
      ⟨some 191, some (190, true), .ld true 2 (.t 7)⟩, 
      ⟨some 192, some (190, true), .call 28 [(1, (.t 191))]⟩, 
      ⟨some 193, none, .pick (.t 190) (.t 192) (.k (.b false))⟩, 
      ⟨some 194, none, .mv (.t 193)⟩, 
      ⟨some 195, some (194, true), .ld true 2 (.t 8)⟩, 
      ⟨some 196, some (194, true), .call 28 [(1, (.t 195))]⟩, 
      ⟨some 197, none, .pick (.t 194) (.t 196) (.k (.b false))⟩, 
      ⟨some 6, none, .mv (.t 197)⟩])
  (.ret)))))))))))
set_option maxRecDepth 100000 in
theorem zzRing_spec (s t u : Bool) (a b c : List Nat) (m : Nat) (hm : m ≤ 2000000) (h1 : 1 ≤ m) (ha : Wd a) (hb : Wd b) (hc : Wd c) (la : a.length ≤ m) (lb : b.length ≤ m) (lc : c.length ≤ m) : AFun Try.prog J0 5 [zL s a, zL t b, zL u c] (.b true) := by
  obtain ⟨M, hM⟩ : ∃ M, M = 4 * m := ⟨_, rfl⟩
  have va := ZVr (s := s) ha (show a.length ≤ M by omega)
  have vb := ZVr (s := t) hb (show b.length ≤ M by omega)
  have vc := ZVr (s := u) hc (show c.length ≤ M by omega)
  have bx := zv_lt (s := s) ha la
  have b_y := zv_lt (s := t) hb lb
  have bz := zv_lt (s := u) hc lc
  have hno := znorm_spec s a ha (by omega)
  have pw2 := zpow_spec s a 2 m (by omega) h1 (by omega) ha la
  have pw3 := zpow_spec s a 3 m (by omega) h1 (by omega) ha la
  have pw0 := zpow_spec s a 0 m (by omega) h1 (by omega) ha la
  have of1 := zofn_spec 1 (by decide) (by decide)
  obtain ⟨x, hx⟩ : ∃ x, x = zv s a := ⟨_, rfl⟩
  obtain ⟨y, hy⟩ : ∃ x, x = zv t b := ⟨_, rfl⟩
  obtain ⟨z, hz⟩ : ∃ x, x = zv u c := ⟨_, rfl⟩
  rw [← hx] at va bx hno pw2 pw3 pw0
  rw [← hy] at vb b_y
  rw [← hz] at vc bz
  clear hx hy hz
  have hM1 : M ≤ 100000000 := by omega
  obtain ⟨S, hS⟩ : ∃ S, S = x + y := ⟨_, rfl⟩
  obtain ⟨P, hP⟩ : ∃ S, S = x * y := ⟨_, rfl⟩
  obtain ⟨T, hT⟩ : ∃ S, S = x + y + z := ⟨_, rfl⟩
  obtain ⟨U, hU⟩ : ∃ S, S = y + z := ⟨_, rfl⟩
  obtain ⟨A, hA⟩ : ∃ S, S = x + z := ⟨_, rfl⟩
  obtain ⟨D, hD⟩ : ∃ S, S = x - y := ⟨_, rfl⟩
  obtain ⟨D', hD'⟩ : ∃ S, S = y - x := ⟨_, rfl⟩
  obtain ⟨Q, hQ⟩ : ∃ S, S = x * y * z := ⟨_, rfl⟩
  obtain ⟨Y, hY⟩ : ∃ S, S = y * z := ⟨_, rfl⟩
  obtain ⟨X, hX⟩ : ∃ S, S = x * z := ⟨_, rfl⟩
  obtain ⟨L, hL⟩ : ∃ S, S = (x + y) * z := ⟨_, rfl⟩
  obtain ⟨q2, hq2⟩ : ∃ S, S = x * x := ⟨_, rfl⟩
  obtain ⟨q3, hq3⟩ : ∃ S, S = x * x * x := ⟨_, rfl⟩
  obtain ⟨o, ho⟩ : ∃ o, o = cz x y := ⟨_, rfl⟩
  obtain ⟨gx, hgx⟩ : ∃ o, o = sgz x := ⟨_, rfl⟩
  obtain ⟨gy, hgy⟩ : ∃ o, o = sgz y := ⟨_, rfl⟩
  obtain ⟨gz, hgz⟩ : ∃ o, o = sgz z := ⟨_, rfl⟩
  have w1 : IntKind.i64.wrap (gx * gy) = gx * gy := mul1_bnd (by rw [hgx]; exact sgz_bnd x) (by rw [hgy]; exact sgz_bnd y)
  have w2 : IntKind.i64.wrap (o * gz) = o * gz := mul1_bnd (by rw [ho]; exact cz_bnd x y) (by rw [hgz]; exact sgz_bnd z)
  have w3 : IntKind.i64.wrap (0 - o) = -o := by have := cz_bnd x y; rw [wi (by omega)]; omega
  have kS : S.natAbs < B ^ (m + 1) := by rw [hS]; exact nab_add bx b_y
  have kP : P.natAbs < B ^ (m + m) := by rw [hP]; exact nab_mul bx b_y
  have kU : U.natAbs < B ^ (m + 1) := by rw [hU]; exact nab_add b_y bz
  have kA : A.natAbs < B ^ (m + 1) := by rw [hA]; exact nab_add bx bz
  have kD : D.natAbs < B ^ (m + 1) := by rw [hD]; exact nab_sub bx b_y
  have kD' : D'.natAbs < B ^ (m + 1) := by rw [hD']; exact nab_sub b_y bx
  have kY : Y.natAbs < B ^ (m + m) := by rw [hY]; exact nab_mul b_y bz
  have kX : X.natAbs < B ^ (m + m) := by rw [hX]; exact nab_mul bx bz
  have kq2 : q2.natAbs < B ^ (m + m) := by rw [hq2]; exact nab_mul bx bx
  have kq3 : q3.natAbs < B ^ (m + m + m) := by rw [hq3]; exact nab_mul (nab_mul bx bx) bx
  have kQ : Q.natAbs < B ^ (m + m + m) := by rw [hQ]; exact nab_mul (nab_mul bx b_y) bz
  have kL : L.natAbs < B ^ (m + 1 + m) := by rw [hL]; exact nab_mul (nab_add bx b_y) bz
  have kT : T.natAbs < B ^ (m + 1 + 1) := by rw [hT]; exact nab_add (nab_add bx b_y) (nab_up bz (by omega))
  have vS := ZVo (nab_up kS (show _ ≤ M by omega))
  have vP := ZVo (nab_up kP (show _ ≤ M by omega))
  have vU := ZVo (nab_up kU (show _ ≤ M by omega))
  have vA := ZVo (nab_up kA (show _ ≤ M by omega))
  have vD := ZVo (nab_up kD (show _ ≤ M by omega))
  have vD' := ZVo (nab_up kD' (show _ ≤ M by omega))
  have vY := ZVo (nab_up kY (show _ ≤ M by omega))
  have vX := ZVo (nab_up kX (show _ ≤ M by omega))
  have vq2 := ZVo (nab_up kq2 (show _ ≤ M by omega))
  have c1 := zaddG hM1 va vb hS.symm
  have c2 := zmulG hM1 va vb hP.symm
  have c3 := zaddG hM1 vb va (show y + x = S by omega)
  have c4 := zaddG hM1 vS vc (show S + z = T by omega)
  have c5 := zaddG hM1 vb vc hU.symm
  have c6 := zaddG hM1 va vU (show x + U = T by omega)
  have c7 := zsubG hM1 vS vb (show S - y = x by omega)
  have c8 := zsubG hM1 va vb hD.symm
  have c9 := zsubG hM1 vb va hD'.symm
  have c10 := znegG hM1 vD' (show -D' = D by omega)
  have c11 := zmulG hM1 vb va (show y * x = P by rw [hP, Int.mul_comm])
  have c12 := zmulG hM1 vP vc (show P * z = Q by rw [hP, hQ])
  have c13 := zmulG hM1 vb vc hY.symm
  have c14 := zmulG hM1 va vY (show x * Y = Q by rw [hY, hQ, Int.mul_assoc])
  have c15 := zmulG hM1 vS vc (show S * z = L by rw [hS, hL])
  have c16 := zmulG hM1 va vc hX.symm
  have c17 := zaddG hM1 vX vY (show X + Y = L by rw [hX, hY, hL, Int.add_mul])
  have g1 := zsignG hM1 vP (show sgz P = gx * gy by rw [hP, hgx, hgy, sgz_mul])
  have g2 := zsignG hM1 va hgx.symm
  have g3 := zsignG hM1 vb hgy.symm
  have g4 := zcmpG hM1 va vb ho.symm
  have g5 := zsignG hM1 vD (show sgz D = o by rw [hD, ho, cz_sub])
  have g6 := zcmpG hM1 vb va (show cz y x = -o by rw [ho, cz_swap])
  have c18 := zaddG hM1 va vc hA.symm
  have g7 := zcmpG hM1 vA vU (show cz A U = o by rw [hA, hU, ho, cz_add])
  have g8 := zcmpG hM1 vX vY (show cz X Y = o * gz by rw [hX, hY, ho, hgz, cz_mul])
  have g9 := zsignG hM1 vc hgz.symm
  rw [show x ^ 2 = q2 from by rw [hq2, show (2 : Nat) = 0 + 1 + 1 from rfl, Int.pow_succ, Int.pow_succ, Int.pow_zero, Int.one_mul]] at pw2
  rw [show x ^ 3 = q3 from by rw [hq3, show (3 : Nat) = 0 + 1 + 1 + 1 from rfl, Int.pow_succ, Int.pow_succ, Int.pow_succ, Int.pow_zero, Int.one_mul]] at pw3
  rw [show x ^ 0 = 1 from Int.pow_zero x] at pw0
  have c19 := zmulG hM1 va va hq2.symm
  have c20 := zmulG hM1 vq2 va (show q2 * x = q3 by rw [hq2, hq3])
  have i1 := zisNormO hM1 (nab_up kS (show _ ≤ M by omega))
  have i2 := zisNormO hM1 (nab_up kP (show _ ≤ M by omega))
  have e1 := zsame_true (rfl : S = S) kS (by omega)
  have e2 := zsame_true (rfl : T = T) kT (by omega)
  have e3 := zsame_true (rfl : x = x) bx (by omega)
  have e4 := zsame_true (rfl : D = D) kD (by omega)
  have e5 := zsame_true (rfl : P = P) kP (by omega)
  have e6 := zsame_true (rfl : Q = Q) kQ (by omega)
  have e7 := zsame_true (rfl : L = L) kL (by omega)
  have e8 := zsame_true (rfl : q2 = q2) kq2 (by omega)
  have e9 := zsame_true (rfl : q3 = q3) kq3 (by omega)
  have e10 := zsame_true (rfl : (1 : Int) = 1) (zsm 1 (by decide)) (by decide)
  clear hS hP hT hU hA hD hD' hQ hY hX hL hq2 hq3 ho hgx hgy hgz
  refine AFun.mk fol J0s Try.func5 rfl (ac := a5) (by kernel_rfl) rfl rfl ?_
  apply vm_start
  unfold a5
  simp only [init_eq, initE]
  have zc1 := zknown_spec
  have zc2 := c1
  have zc3 := c2
  have zc4 := c3
  have zc5 := c4
  have zc6 := c5
  have zc7 := c6
  have zc8 := c7
  have zc9 := c8
  have zc10 := c9
  have zc11 := c10
  have zc12 := c11
  have zc13 := c12
  have zc14 := c13
  have zc15 := c14
  have zc16 := c15
  have zc17 := c16
  have zc18 := c17
  have zc19 := g1
  have zc20 := g2
  have zc21 := g3
  have zc22 := g4
  have zc23 := g5
  have zc24 := g6
  have zc25 := g7
  have zc26 := g8
  have zc27 := g9
  have zc28 := hno
  have zc29 := c18
  have zc30 := pw2
  have zc31 := pw3
  have zc32 := pw0
  have zc33 := c19
  have zc34 := c20
  have zc35 := of1
  have zc36 := i1
  have zc37 := i2
  have zc38 := e1
  have zc39 := e2
  have zc40 := e3
  have zc41 := e4
  have zc42 := e5
  have zc43 := e6
  have zc44 := e7
  have zc45 := e8
  have zc46 := e9
  have zc47 := e10
  repeat first | (refine hK _ ?_; clear hK K) | simp only [Sv, ↓reduceIte, Nat.reduceEqDiff] | ((first | refine vm_reg (fun K hK => ?_) | refine vm_dreg (fun K hK => ?_) | refine clp_q ?_ | refine clq_mk (by assumption) ?_); simp (disch := (first | omega | assumption)) only [S1, ↓reduceIte, Nat.reduceEqDiff, Nat.reduceAdd, Nat.reduceMul, Nat.reduceDiv, AOp.sb, AOp.mut, ↓Bool.false_eq_true, beq_self_eq_true, ite_self, Nat.reduceLeDiff, Int.reduceEq, Int.reduceSub, Int.reduceAdd, Int.reduceNeg, Int.reduceLT, Int.reduceLE, Nat.reduceLT, bz_LZRing, List.length_nil, w1, w2, w3, eq_self])
  simp (disch := (first | omega | assumption)) only [retOk, retN, ret1, retF, ret1F, V.okArg, and_true, true_and, S1, ↓reduceIte, Nat.reduceEqDiff, Nat.reduceAdd, Nat.reduceMul, Nat.reduceDiv, AOp.sb, AOp.mut, ↓Bool.false_eq_true, beq_self_eq_true, ite_self, Nat.reduceLeDiff, Int.reduceEq, Int.reduceSub, Int.reduceAdd, Int.reduceNeg, Int.reduceLT, Int.reduceLE, Nat.reduceLT, bz_LZRing, List.length_nil, w1, w2, w3, eq_self]
end Go.Proofs.Ytfhgnlkcecogcaa
