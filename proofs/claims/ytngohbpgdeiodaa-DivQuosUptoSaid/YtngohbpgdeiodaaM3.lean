/-
  Words: two by one.
-/
import Derived.Test.YtngohbpgdeiodaaM2
namespace Go.Proofs.Ytngohbpgdeiodaa
open Go Go.RowKit Ab
set_option linter.unusedSimpArgs false
set_option linter.unusedVariables false
set_option maxHeartbeats 10000000

theorem mulK (a : Nat) : IntKind.u64.wrap (4294967296 * (a : Int)) = ((4294967296 * a % 18446744073709551616 : Nat) : Int) := mulU 4294967296 a
theorem mulK' (a : Nat) : IntKind.u64.wrap ((a : Int) * 4294967296) = ((a * 4294967296 % 18446744073709551616 : Nat) : Int) := mulU a 4294967296
theorem tdivU (a b : Nat) (h : a < 18446744073709551616) : IntKind.u64.wrap ((a : Int).tdiv (b : Int)) = ((a / b : Nat) : Int) := by
  have e : (a : Int).tdiv (b : Int) = ((a / b : Nat) : Int) := rfl
  have := Nat.div_le_self a b
  rw [e, IntKind.wrap_u64]
  generalize a / b = c at *
  omega
theorem tmodU (a b : Nat) : (a : Int).tmod (b : Int) = ((a % b : Nat) : Int) := rfl
theorem subU1 (a : Nat) (h1 : 1 ≤ a) (h2 : a < 18446744073709551616) : IntKind.u64.wrap ((a : Int) - 1) = ((a - 1 : Nat) : Int) := by rw [IntKind.wrap_u64]; omega
theorem sub64 (a : Nat) (h : a ≤ 64) : IntKind.u64.wrap (64 - (a : Int)) = ((64 - a : Nat) : Int) := by rw [IntKind.wrap_u64]; omega
theorem cvtU (a : Nat) (h : a ≤ 64) : IntKind.u64.wrap (a : Int) = (a : Int) := by rw [IntKind.wrap_u64]; omega
/-- a difference that does not turn over, though its parts may -/
theorem subM (a b c : Nat) (h : a = b + c) (hc : c < 18446744073709551616) : IntKind.u64.wrap (((a % 18446744073709551616 : Nat) : Int) - ((b % 18446744073709551616 : Nat) : Int)) = (c : Int) := by
  rw [IntKind.wrap_u64]; omega

theorem two_word (u a b : Nat) : (u * 4294967296 + a) * 4294967296 + b = u * 18446744073709551616 + (a * 4294967296 + b) := by omega
theorem p32 : 2 ^ (32 : Int).toNat = 4294967296 := rfl
theorem remU (a b : Nat) (h : a < 18446744073709551616) : IntKind.u64.wrap ((a : Int) - ((a / b * b % 18446744073709551616 : Nat) : Int)) = ((a % b : Nat) : Int) := by
  have e := Nat.div_add_mod a b
  rw [Nat.mul_comm] at e
  have h2 : a / b * b < 18446744073709551616 := by omega
  rw [Nat.mod_eq_of_lt h2, IntKind.wrap_u64]
  generalize a / b * b = c at *
  omega
theorem remM' {u u1 c m N : Nat} (hN : u * 4294967296 + u1 = N) (e : c + m = N) (hm : m < 18446744073709551616) :
    IntKind.u64.wrap ((((u * 4294967296 % 18446744073709551616 + u1) % 18446744073709551616 : Nat) : Int) - ((c % 18446744073709551616 : Nat) : Int)) = (m : Int) := by
  rw [IntKind.wrap_u64]
  omega
theorem remM {u u1 q Y : Nat} (hY : Y < 18446744073709551616) (hY0 : 0 < Y) (hq : q = (u * 4294967296 + u1) / Y) :
    IntKind.u64.wrap ((((u * 4294967296 % 18446744073709551616 + u1) % 18446744073709551616 : Nat) : Int) - ((q * Y % 18446744073709551616 : Nat) : Int)) = (((u * 4294967296 + u1) % Y : Nat) : Int) := by
  have e := Nat.div_add_mod (u * 4294967296 + u1) Y
  have hm := Nat.mod_lt (u * 4294967296 + u1) hY0
  rw [← hq, Nat.mul_comm] at e
  exact remM' rfl e (Nat.lt_trans hm hY)
theorem dig_stop' {Y yn1 yn0 u32 u1 q r : Nat} (hY : yn1 * 4294967296 + yn0 = Y) (h : q * yn1 + r = u32) (h2 : q * yn0 ≤ 4294967296 * r + u1) : q * Y ≤ u32 * 4294967296 + u1 := hY ▸ dig_stop h h2
theorem dig_over' {Y yn1 yn0 u32 u1 q r : Nat} (hY : yn1 * 4294967296 + yn0 = Y) (h : q * yn1 + r = u32) (h2 : 4294967296 * r + u1 < q * yn0) : u32 * 4294967296 + u1 < q * Y := hY ▸ dig_over h h2
theorem dig_init' {Y yn1 yn0 u32 u1 : Nat} (hY : yn1 * 4294967296 + yn0 = Y) (h31 : 2147483648 ≤ yn1) (h0 : yn0 < 4294967296) (hu : u32 < Y) (h1 : u1 < 4294967296) :
    u32 / yn1 * yn1 + u32 % yn1 = u32 ∧ u32 * 4294967296 + u1 < (u32 / yn1 + 1) * Y ∧ u32 / yn1 ≤ 4294967297 := by
  subst hY; exact dig_init h31 h0 hu h1
theorem sub_mul1 {q yn1 r u : Nat} (h : q * yn1 + r = u) (h0 : 1 ≤ q) : (q - 1) * yn1 + (r + yn1) = u := by
  obtain ⟨p, rfl⟩ : ∃ p, q = p + 1 := ⟨q - 1, by omega⟩
  rw [Nat.add_sub_cancel, ← h, Nat.add_mul, Nat.one_mul]; omega

-- math/bits.Div64
def a85 : AC := .seq (.reg [⟨some 6, none, .mv (.k (.i .u64 0))⟩, 
      ⟨some 7, none, .mv (.k (.i .u64 0))⟩])
  (.seq (.seq (.reg [⟨some 19, none, .mv (.t 2)⟩, 
        ⟨some 20, none, .bin .eql (.t 19) (.k (.i .u64 0))⟩])
    (.cond (.t 20)
    (.reg [⟨some 21, none, .ld false 1 (.k .any)⟩, 
        ⟨none, none, .bad⟩])
    (.skip)))
  (.seq (.seq (.reg [⟨some 22, none, .mv (.t 2)⟩, 
        ⟨some 23, none, .mv (.t 0)⟩, 
        ⟨some 24, none, .bin .leq (.t 22) (.t 23)⟩])
    (.cond (.t 24)
    (.reg [⟨some 25, none, .ld false 1 (.k .any)⟩, 
        ⟨none, none, .bad⟩])
    (.skip)))
  (.seq (.seq (.reg [⟨some 26, none, .mv (.t 0)⟩, 
        ⟨some 27, none, .bin .eql (.t 26) (.k (.i .u64 0))⟩])
    (.cond (.t 27)
    (.seq (.dreg [⟨some 28, none, .mv (.t 1)⟩, 
          ⟨some 29, none, .mv (.t 2)⟩, 
          ⟨some 30, none, .bin .quo (.t 28) (.t 29)⟩, 
          ⟨some 31, none, .mv (.t 1)⟩, 
          ⟨some 32, none, .mv (.t 2)⟩, 
          ⟨some 33, none, .bin .rem (.t 31) (.t 32)⟩, 
          ⟨some 6, none, .mv (.t 30)⟩, 
          ⟨some 7, none, .mv (.t 33)⟩])
      (.ret))
    (.skip)))
  (.seq (.reg [⟨some 34, none, .mv (.t 2)⟩, 
      ⟨some 35, none, .call 77 [(1, (.t 34))]⟩, 
      ⟨some 36, none, .cvt .u64 (.t 35)⟩, 
      ⟨some 8, none, .mv (.t 36)⟩])
  (.seq (.reg [⟨some 37, none, .mv (.t 2)⟩, 
      ⟨some 38, none, .mv (.t 8)⟩, 
      ⟨some 39, none, .bin .shl (.t 37) (.t 38)⟩, 
      ⟨some 2, none, .mv (.t 39)⟩])
  (.seq (.reg [⟨some 40, none, .mv (.t 2)⟩, 
      ⟨some 41, none, .bin .shr (.t 40) (.k (.i .u64 32))⟩, 
      ⟨some 9, none, .mv (.t 41)⟩])
  (.seq (.reg [⟨some 42, none, .mv (.t 2)⟩, 
      ⟨some 43, none, .bin .and (.t 42) (.k (.i .u64 4294967295))⟩, 
      ⟨some 10, none, .mv (.t 43)⟩])
  (.seq (.reg [⟨some 44, none, .mv (.t 0)⟩, 
      ⟨some 45, none, .mv (.t 8)⟩, 
      ⟨some 46, none, .bin .shl (.t 44) (.t 45)⟩, 
      ⟨some 47, none, .mv (.t 1)⟩, 
      ⟨some 48, none, .mv (.t 8)⟩, 
      ⟨some 49, none, .bin .sub (.k (.i .u64 64)) (.t 48)⟩, 
      ⟨some 50, none, .bin .shr (.t 47) (.t 49)⟩, 
      ⟨some 51, none, .bin .or (.t 46) (.t 50)⟩, 
      ⟨some 11, none, .mv (.t 51)⟩])
  (.seq (.reg [⟨some 52, none, .mv (.t 1)⟩, 
      ⟨some 53, none, .mv (.t 8)⟩, 
      ⟨some 54, none, .bin .shl (.t 52) (.t 53)⟩, 
      ⟨some 12, none, .mv (.t 54)⟩])
  (.seq (.reg [⟨some 55, none, .mv (.t 12)⟩, 
      ⟨some 56, none, .bin .shr (.t 55) (.k (.i .u64 32))⟩, 
      ⟨some 13, none, .mv (.t 56)⟩])
  (.seq (.reg [⟨some 57, none, .mv (.t 12)⟩, 
      ⟨some 58, none, .bin .and (.t 57) (.k (.i .u64 4294967295))⟩, 
      ⟨some 14, none, .mv (.t 58)⟩])
  (.seq (.reg [⟨some 59, none, .mv (.t 11)⟩, 
      ⟨some 60, none, .mv (.t 9)⟩, 
      ⟨some 61, none, .bin .quo (.t 59) (.t 60)⟩, 
      ⟨some 15, none, .mv (.t 61)⟩])
  (.seq (.reg [⟨some 62, none, .mv (.t 11)⟩, 
      ⟨some 63, none, .mv (.t 15)⟩, 
      ⟨some 64, none, .mv (.t 9)⟩, 
      ⟨some 65, none, .bin .mul (.t 63) (.t 64)⟩, 
      ⟨some 66, none, .bin .sub (.t 62) (.t 65)⟩, 
      ⟨some 16, none, .mv (.t 66)⟩])
  (.seq (.blk 0
    (.loop
      (.seq (.seq (.reg [⟨some 67, none, .mv (.t 15)⟩, 
              ⟨some 68, none, .bin .geq (.t 67) (.k (.i .u64 4294967296))⟩, 
              ⟨some 69, none, .mv (.t 68)⟩, 
              ⟨some 70, some (69, false), .mv (.t 15)⟩, 
              ⟨some 71, some (69, false), .mv (.t 10)⟩, 
              ⟨some 72, some (69, false), .bin .mul (.t 70) (.t 71)⟩, 
              ⟨some 73, some (69, false), .mv (.t 16)⟩, 
              ⟨some 74, some (69, false), .bin .mul (.k (.i .u64 4294967296)) (.t 73)⟩, 
              ⟨some 75, some (69, false), .mv (.t 13)⟩, 
              ⟨some 76, some (69, false), .bin .add (.t 74) (.t 75)⟩, 
              ⟨some 77, some (69, false), .bin .gtr (.t 72) (.t 76)⟩, 
              ⟨some 78, none, .pick (.t 69) (.k (.b true)) (.t 77)⟩])
          (.cond (.t 78)
          (.skip)
          (.exit 0)))
        (.blk 1
        (.seq (.reg [⟨some 79, none, .mv (.t 15)⟩, 
              ⟨some 80, none, .bin .sub (.t 79) (.k (.i .u64 1))⟩, 
              ⟨some 15, none, .mv (.t 80)⟩])
          (.seq (.reg [⟨some 81, none, .mv (.t 16)⟩, 
              ⟨some 82, none, .mv (.t 9)⟩, 
              ⟨some 83, none, .bin .add (.t 81) (.t 82)⟩, 
              ⟨some 16, none, .mv (.t 83)⟩])
          (.seq (.reg [⟨some 84, none, .mv (.t 16)⟩, 
              ⟨some 85, none, .bin .geq (.t 84) (.k (.i .u64 4294967296))⟩])
          (.cond (.t 85)
          (.exit 0)
          (.skip)))))))))
  (.seq (.reg [⟨some 86, none, .mv (.t 11)⟩, 
      ⟨some 87, none, .bin .mul (.t 86) (.k (.i .u64 4294967296))⟩, 
      ⟨some 88, none, .mv (.t 13)⟩, 
      ⟨some 89, none, .bin .add (.t 87) (.t 88)⟩, 
      ⟨some 90, none, .mv (.t 15)⟩, 
      ⟨some 91, none, .mv (.t 2)⟩, 
      ⟨some 92, none, .bin .mul (.t 90) (.t 91)⟩, 
      ⟨some 93, none, .bin .sub (.t 89) (.t 92)⟩, 
      ⟨some 17, none, .mv (.t 93)⟩])
  (.seq (.reg [⟨some 94, none, .mv (.t 17)⟩, 
      ⟨some 95, none, .mv (.t 9)⟩, 
      ⟨some 96, none, .bin .quo (.t 94) (.t 95)⟩, 
      ⟨some 18, none, .mv (.t 96)⟩])
  (.seq (.reg [⟨some 97, none, .mv (.t 17)⟩, 
      ⟨some 98, none, .mv (.t 18)⟩, 
      ⟨some 99, none, .mv (.t 9)⟩, 
      ⟨some 100, none, .bin .mul (.t 98) (.t 99)⟩, 
      ⟨some 101, none, .bin .sub (.t 97) (.t 100)⟩, 
      ⟨some 16, none, .mv (.t 101)⟩])
  (.seq (.blk 2
    (.loop
      (.seq (.seq (.reg [⟨some 102, none, .mv (.t 18)⟩, 
              ⟨some 103, none, .bin .geq (.t 102) (.k (.i .u64 4294967296))⟩, 
              ⟨some 104, none, .mv (.t 103)⟩, 
              ⟨some 105, some (104, false), .mv (.t 18)⟩, 
              ⟨some 106, some (104, false), .mv (.t 10)⟩, 
              ⟨some 107, some (104, false), .bin .mul (.t 105) (.t 106)⟩, 
              ⟨some 108, some (104, false), .mv (.t 16)⟩, 
              ⟨some 109, some (104, false), .bin .mul (.k (.i .u64 4294967296)) (.t 108)⟩, 
              ⟨some 110, some (104, false), .mv (.t 14)⟩, 
              ⟨some 111, some (104, false), .bin .add (.t 109) (.t 110)⟩, 
              ⟨some 112, some (104, false), .bin .gtr (.t 107) (.t 111)⟩, 
              ⟨some 113, none, .pick (.t 104) (.k (.b true)) (.t 112)⟩])
          (.cond (.t 113)
          (.skip)
          (.exit 2)))
        (.blk 3
        (.seq (.reg [⟨some 114, none, .mv (.t 18)⟩, 
              ⟨some 115, none, .bin .sub (.t 114) (.k (.i .u64 1))⟩, 
              ⟨some 18, none, .mv (.t 115)⟩])
          (.seq (.reg [⟨some 116, none, .mv (.t 16)⟩, 
              ⟨some 117, none, .mv (.t 9)⟩, 
              ⟨some 118, none, .bin .add (.t 116) (.t 117)⟩, 
              ⟨some 16, none, .mv (.t 118)⟩])
          (.seq (.reg [⟨some 119, none, .mv (.t 16)⟩, 
              ⟨some 120, none, .bin .geq (.t 119) (.k (.i .u64 4294967296))⟩])
          (.cond (.t 120)
          (.exit 2)
          (.skip)))))))))
  (.seq (.reg [⟨some 121, none, .mv (.t 15)⟩, 
      ⟨some 122, none, .bin .mul (.t 121) (.k (.i .u64 4294967296))⟩, 
      ⟨some 123, none, .mv (.t 18)⟩, 
      ⟨some 124, none, .bin .add (.t 122) (.t 123)⟩, 
      ⟨some 125, none, .mv (.t 17)⟩, 
      ⟨some 126, none, .bin .mul (.t 125) (.k (.i .u64 4294967296))⟩, 
      ⟨some 127, none, .mv (.t 14)⟩, 
      ⟨some 128, none, .bin .add (.t 126) (.t 127)⟩, 
      ⟨some 129, none, .mv (.t 18)⟩, 
      ⟨some 130, none, .mv (.t 2)⟩, 
      ⟨some 131, none, .bin .mul (.t 129) (.t 130)⟩, 
      ⟨some 132, none, .bin .sub (.t 128) (.t 131)⟩, 
      ⟨some 133, none, .mv (.t 8)⟩, 
      ⟨some 134, none, .bin .shr (.t 132) (.t 133)⟩, 
      ⟨some 6, none, .mv (.t 124)⟩, 
      ⟨some 7, none, .mv (.t 134)⟩])
  (.ret))))))))))))))))))))
theorem div64_spec (hi lo y : Nat) (hh : hi < y) (hy : y < 18446744073709551616) (hl : lo < 18446744073709551616) :
    AFun Try.prog J0 85 [.i .u64 (hi : Int), .i .u64 (lo : Int), .i .u64 (y : Int)] (.t [.i .u64 (((hi * 18446744073709551616 + lo) / y : Nat) : Int), .i .u64 (((hi * 18446744073709551616 + lo) % y : Nat) : Int)]) := by
  have hy0 : y ≠ 0 := by omega
  obtain ⟨hn1, hn2⟩ := norm_bits hy0 hy
  have hs : 64 - bl y ≤ 64 := by omega
  have hlz := lz64_spec y hy
  generalize 64 - bl y = s at *
  have c1 : ¬ (y : Int) = 0 := by omega
  have c2 : ¬ (y : Int) ≤ (hi : Int) := by omega
  refine AFun.mk fol J0s Try.func85 rfl (ac := a85) (by kernel_rfl) rfl rfl ?_
  apply vm_start
  unfold a85
  simp only [init_eq, initE]
  by_cases hz : (hi : Int) = 0
  · obtain rfl : hi = 0 := by omega
    have e0 : 0 * 18446744073709551616 + lo = lo := by omega
    rw [e0]
    have c3 : ¬ (y : Int) ≤ 0 := by omega
    repeat first | (refine hK _ ?_; clear hK K) | simp only [Sv, ↓reduceIte, Nat.reduceEqDiff] | ((first | refine vm_reg (fun K hK => ?_) | refine vm_dreg (fun K hK => ?_)); simp (disch := (first | omega | assumption)) only [S1, ↓reduceIte, Nat.reduceEqDiff, Nat.reduceAdd, Nat.reduceMul, Nat.reduceDiv, AOp.sb, AOp.mut, ↓Bool.false_eq_true, beq_self_eq_true, ite_self, Nat.reduceLeDiff, Int.reduceEq, Int.reduceSub, Int.reduceAdd, Int.reduceNeg, Int.reduceLT, Int.reduceLE, Nat.reduceLT, wi, tn_nat, Nat.div_one, Nat.mul_one, c1, c2, c3, tdivU, tmodU])
    simp (disch := (first | omega | assumption)) only [retOk, retN, ret1, retF, ret1F, V.okArg, and_true, true_and, S1, ↓reduceIte, Nat.reduceEqDiff, Nat.reduceAdd, Nat.reduceMul, Nat.reduceDiv, AOp.sb, AOp.mut, ↓Bool.false_eq_true, beq_self_eq_true, ite_self, Nat.reduceLeDiff, Int.reduceEq, Int.reduceSub, Int.reduceAdd, Int.reduceNeg, Int.reduceLT, Int.reduceLE, Nat.reduceLT, wi, tn_nat, Nat.div_one, Nat.mul_one, c1, c2, c3, tdivU, tmodU]
  · have hsh := shr_lt (lo := lo) hs hl
    have hsp := shl_split (lo := lo) hs
    have hle : hi * 2 ^ s + 2 ^ s ≤ y * 2 ^ s := by have := Nat.mul_le_mul_right (2 ^ s) (show hi + 1 ≤ y from hh); rwa [Nat.add_mul, Nat.one_mul] at this
    have hhm : hi * 2 ^ s % 18446744073709551616 = hi * 2 ^ s := Nat.mod_eq_of_lt (by omega)
    have hor := or_low (x := hi) hs hsh
    have hlt : lo / 2 ^ (64 - s) < 18446744073709551616 := Nat.lt_of_le_of_lt (Nat.div_le_self _ _) hl
    have hsc := scale_div (U := hi * 18446744073709551616 + lo) (y := y) (s := s)
    have hU : (hi * 18446744073709551616 + lo) * 2 ^ s = (hi * 2 ^ s + lo / 2 ^ (64 - s)) * 18446744073709551616 + lo * 2 ^ s % 18446744073709551616 := by
      rw [Nat.add_mul, Nat.add_mul, Nat.mul_right_comm]; omega
    have hbor : bits .or .u64 ((hi * 2 ^ s % 18446744073709551616 : Nat) : Int) ((lo / 2 ^ (64 - s) : Nat) : Int) = ((hi * 2 ^ s + lo / 2 ^ (64 - s) : Nat) : Int) := by
      rw [bor64 _ _ (by omega) hlt, hor, hhm]
    have hYm : y * 2 ^ s % 18446744073709551616 = y * 2 ^ s := Nat.mod_eq_of_lt hn2
    have h10 : lo * 2 ^ s % 18446744073709551616 < 18446744073709551616 := Nat.mod_lt _ (by decide)
    have hu : hi * 2 ^ s + lo / 2 ^ (64 - s) < y * 2 ^ s := by omega
    rw [hU] at hsc
    have hX : (hi * 18446744073709551616 + lo) / y < 18446744073709551616 := (Nat.div_lt_iff_lt_mul (by omega)).2 (by have := Nat.mul_le_mul_right 18446744073709551616 (show hi + 1 ≤ y from hh); omega)
    obtain ⟨X, hXe⟩ : ∃ X, X = (hi * 18446744073709551616 + lo) / y := ⟨_, rfl⟩
    obtain ⟨R, hRe⟩ : ∃ R, R = (hi * 18446744073709551616 + lo) % y := ⟨_, rfl⟩
    rw [← hXe] at hX hsc
    rw [← hRe] at hsc
    rw [← hXe, ← hRe]
    generalize hu32 : hi * 2 ^ s + lo / 2 ^ (64 - s) = u32 at *
    generalize hY : y * 2 ^ s = Y at *
    generalize hu10 : lo * 2 ^ s % 18446744073709551616 = u10 at *
    have hYe := Nat.div_add_mod' Y 4294967296
    have hyn0 := Nat.mod_lt Y (show 0 < 4294967296 by decide)
    have hun0 := Nat.mod_lt u10 (show 0 < 4294967296 by decide)
    have hue := Nat.div_add_mod' u10 4294967296
    have hy31 : 2147483648 ≤ Y / 4294967296 := by omega
    have hyn1 : Y / 4294967296 < 4294967296 := by omega
    have hun1 : u10 / 4294967296 < 4294967296 := by omega
    generalize hg1 : Y / 4294967296 = yn1 at *
    generalize hg2 : Y % 4294967296 = yn0 at *
    generalize hg3 : u10 / 4294967296 = un1 at *
    generalize hg4 : u10 % 4294967296 = un0 at *
    have hYB : Y < 18446744073709551616 := hn2
    have hYpos : 0 < Y := by omega
    have hu64 : u32 < 18446744073709551616 := by omega
    have e2 : (u32 * 4294967296 + un1) * 4294967296 + un0 = u32 * 18446744073709551616 + u10 := by rw [two_word, hue]
    have cy : ¬ (yn1 : Int) = 0 := by omega
    have zc1 := hlz
    repeat first | (refine hK _ ?_; clear hK K) | simp only [Sv, ↓reduceIte, Nat.reduceEqDiff] | ((first | refine vm_reg (fun K hK => ?_) | refine vm_dreg (fun K hK => ?_) | refine clp_q ?_ | refine clq_mk (by assumption) ?_); simp (disch := (first | omega | assumption)) only [S1, ↓reduceIte, Nat.reduceEqDiff, Nat.reduceAdd, Nat.reduceMul, Nat.reduceDiv, AOp.sb, AOp.mut, ↓Bool.false_eq_true, beq_self_eq_true, ite_self, Nat.reduceLeDiff, Int.reduceEq, Int.reduceSub, Int.reduceAdd, Int.reduceNeg, Int.reduceLT, Int.reduceLE, Nat.reduceLT, wi, tn_nat, Nat.div_one, Nat.mul_one, c1, c2, hz, cvtU, shl64, shr64, sub64, hY, hYm, hu10, hbor, p32, and32, hg1, hg2, hg3, hg4, tdivU, mulU, remU, ne_eq, cy, not_false_eq_true])
    obtain ⟨hi1, hi2, hi3⟩ := dig_init' (u32 := u32) (u1 := un1) hYe hy31 hyn0 hu (by omega)
    refine vm_loopA [] (Nat × Nat) (fun x => ⟨[(2, .i .u64 (Y : Int)), (8, .i .u64 (s : Int)), (9, .i .u64 (yn1 : Int)), (10, .i .u64 (yn0 : Int)), (11, .i .u64 (u32 : Int)), (13, .i .u64 (un1 : Int)), (14, .i .u64 (un0 : Int)), (15, .i .u64 (x.1 : Int)), (16, .i .u64 (x.2 : Int))], [], 0⟩)
      (fun x => x.1 * yn1 + x.2 = u32 ∧ x.2 < 4294967296 ∧ u32 * 4294967296 + un1 < (x.1 + 1) * Y ∧ x.1 ≤ 4294967297) (fun x => x.1) (u32 / yn1, u32 % yn1)
      ⟨hi1, Nat.lt_trans (Nat.mod_lt _ (by omega)) hyn1, hi2, hi3⟩ (by simp (disch := (first | omega | assumption)) only [Sl, Sa, Sw, ↓reduceIte, Nat.reduceEqDiff, Nat.reduceLT, List.all_nil, List.all_cons, Nat.reduceBneDiff, Nat.reduceAdd, bne_iff_ne, ne_eq, reduceCtorEq, not_false_eq_true, not_true_eq_false, Bool.and_true, Bool.true_and, and_true, true_and, and_self]) (by
      simp (disch := (first | omega | assumption)) only [Sl, Sa, Sw, ↓reduceIte, Nat.reduceEqDiff, Nat.reduceLT, List.all_nil, List.all_cons, Nat.reduceBneDiff, Nat.reduceAdd, bne_iff_ne, ne_eq, reduceCtorEq, not_false_eq_true, not_true_eq_false, Bool.and_true, Bool.true_and, and_true, true_and, and_self, i_eq]
      repeat' first | rfl | omega | (simp only [List.length_append, List.length_cons, List.length_nil]; done) | apply And.intro) ?_
    rintro ⟨q, r⟩ ⟨hq1, hr1, hq2, hq3⟩ Q' hQ he hr
    simp only [] at hq1 hr1 hq2 hq3 ⊢
    have m4 : (r + yn1) % 18446744073709551616 = r + yn1 := Nat.mod_eq_of_lt (by omega)
    by_cases h1 : (4294967296 : Int) ≤ (q : Int)
    · have hover := dig_big (u1 := un1) hu (by omega) (show 4294967296 ≤ q by omega)
      have hq0 : 1 ≤ q := by
        rcases Nat.eq_zero_or_pos q with h | h
        · subst h; simp at hover
        · exact h
      have hsm := sub_mul1 hq1 hq0
      by_cases h3 : (4294967296 : Int) ≤ ((r + yn1 : Nat) : Int)
      · repeat first
          | (refine hK _ ?_; clear hK K)
          | ((first | refine vm_reg (fun K hK => ?_) | refine vm_dreg (fun K hK => ?_)); simp (disch := (first | omega | assumption)) only [S1, ↓reduceIte, Nat.reduceEqDiff, Nat.reduceAdd, Nat.reduceMul, Nat.reduceDiv, AOp.sb, AOp.mut, ↓Bool.false_eq_true, beq_self_eq_true, ite_self, Nat.reduceLeDiff, Int.reduceEq, Int.reduceSub, Int.reduceAdd, Int.reduceNeg, Int.reduceLT, Int.reduceLE, Nat.reduceLT, wi, tn_nat, Nat.div_one, Nat.mul_one, h1,  subU1, addU, m4, h3]; refine hK _ ?_; clear hK K)
          | simp only [Sv, ↓reduceIte, Nat.reduceEqDiff]
        refine he _ _ ?_
        have hqe := dig_one (dig_stop' hYe hsm (by have g1 := Nat.mul_le_mul (show q - 1 ≤ 4294967296 by omega) (Nat.le_of_lt hyn0); omega)) (by rw [Nat.sub_add_cancel hq0]; exact hover)
        have hqs : q - 1 < 18446744073709551616 := by omega
        generalize q - 1 = q' at *
        have hpe := hqe
        generalize q' = p at hpe hqe ⊢
        have hvY := Nat.mod_lt (u32 * 4294967296 + un1) hYpos
        obtain ⟨v, hv⟩ : ∃ v, v = (u32 * 4294967296 + un1) % Y := ⟨_, rfl⟩
        have hsub := remM (u := u32) (u1 := un1) hYB hYpos hqe
        rw [← hv] at hvY hsub
        have hv64 : v < 18446744073709551616 := Nat.lt_trans hvY hYB
        repeat first
          | (refine hK _ ?_; clear hK K)
          | ((first | refine vm_reg (fun K hK => ?_) | refine vm_dreg (fun K hK => ?_)); simp (disch := (first | omega | assumption)) only [S1, ↓reduceIte, Nat.reduceEqDiff, Nat.reduceAdd, Nat.reduceMul, Nat.reduceDiv, AOp.sb, AOp.mut, ↓Bool.false_eq_true, beq_self_eq_true, ite_self, Nat.reduceLeDiff, Int.reduceEq, Int.reduceSub, Int.reduceAdd, Int.reduceNeg, Int.reduceLT, Int.reduceLE, Nat.reduceLT, wi, tn_nat, Nat.div_one, Nat.mul_one, mulU, addU, mulK', hsub, ne_eq, cy, not_false_eq_true, tdivU, remU]; refine hK _ ?_; clear hK K)
          | simp only [Sv, ↓reduceIte, Nat.reduceEqDiff]
        obtain ⟨hi1, hi2, hi3⟩ := dig_init' (u32 := v) (u1 := un0) hYe hy31 hyn0 hvY (by omega)
        refine vm_loopA [] (Nat × Nat) (fun x => ⟨[(2, .i .u64 (Y : Int)), (8, .i .u64 (s : Int)), (9, .i .u64 (yn1 : Int)), (10, .i .u64 (yn0 : Int)), (14, .i .u64 (un0 : Int)), (15, .i .u64 (p : Int)), (17, .i .u64 (v : Int)), (18, .i .u64 (x.1 : Int)), (16, .i .u64 (x.2 : Int))], [], 0⟩)
          (fun x => x.1 * yn1 + x.2 = v ∧ x.2 < 4294967296 ∧ v * 4294967296 + un0 < (x.1 + 1) * Y ∧ x.1 ≤ 4294967297) (fun x => x.1) (v / yn1, v % yn1)
          ⟨hi1, Nat.lt_trans (Nat.mod_lt _ (by omega)) hyn1, hi2, hi3⟩ (by simp (disch := (first | omega | assumption)) only [Sl, Sa, Sw, ↓reduceIte, Nat.reduceEqDiff, Nat.reduceLT, List.all_nil, List.all_cons, Nat.reduceBneDiff, Nat.reduceAdd, bne_iff_ne, ne_eq, reduceCtorEq, not_false_eq_true, not_true_eq_false, Bool.and_true, Bool.true_and, and_true, true_and, and_self]) (by
          simp (disch := (first | omega | assumption)) only [Sl, Sa, Sw, ↓reduceIte, Nat.reduceEqDiff, Nat.reduceLT, List.all_nil, List.all_cons, Nat.reduceBneDiff, Nat.reduceAdd, bne_iff_ne, ne_eq, reduceCtorEq, not_false_eq_true, not_true_eq_false, Bool.and_true, Bool.true_and, and_true, true_and, and_self, i_eq]
          repeat' first | rfl | omega | (simp only [List.length_append, List.length_cons, List.length_nil]; done) | apply And.intro) ?_
        rintro ⟨q, r⟩ ⟨hq1, hr1, hq2, hq3⟩ Q' hQ he hr
        simp only [] at hq1 hr1 hq2 hq3 ⊢
        have m4 : (r + yn1) % 18446744073709551616 = r + yn1 := Nat.mod_eq_of_lt (by omega)
        by_cases h1 : (4294967296 : Int) ≤ (q : Int)
        · have hover := dig_big (u1 := un0) hvY (by omega) (show 4294967296 ≤ q by omega)
          have hq0 : 1 ≤ q := by
            rcases Nat.eq_zero_or_pos q with h | h
            · subst h; simp at hover
            · exact h
          have hsm := sub_mul1 hq1 hq0
          by_cases h3 : (4294967296 : Int) ≤ ((r + yn1 : Nat) : Int)
          · repeat first
              | (refine hK _ ?_; clear hK K)
              | ((first | refine vm_reg (fun K hK => ?_) | refine vm_dreg (fun K hK => ?_)); simp (disch := (first | omega | assumption)) only [S1, ↓reduceIte, Nat.reduceEqDiff, Nat.reduceAdd, Nat.reduceMul, Nat.reduceDiv, AOp.sb, AOp.mut, ↓Bool.false_eq_true, beq_self_eq_true, ite_self, Nat.reduceLeDiff, Int.reduceEq, Int.reduceSub, Int.reduceAdd, Int.reduceNeg, Int.reduceLT, Int.reduceLE, Nat.reduceLT, wi, tn_nat, Nat.div_one, Nat.mul_one, h1,  subU1, addU, m4, h3]; refine hK _ ?_; clear hK K)
              | simp only [Sv, ↓reduceIte, Nat.reduceEqDiff]
            refine he _ _ ?_
            have hqe := dig_one (dig_stop' hYe hsm (by have g1 := Nat.mul_le_mul (show q - 1 ≤ 4294967296 by omega) (Nat.le_of_lt hyn0); omega)) (by rw [Nat.sub_add_cancel hq0]; exact hover)
            have hqs : q - 1 < 18446744073709551616 := by omega
            generalize q - 1 = q' at *
            have e1 := dig_two (N := u32 * 4294967296 + un1) (un0 := un0) hYpos
            rw [e2, ← hv, ← hpe, ← hqe] at e1
            obtain ⟨s1, s2⟩ := hsc
            rw [e1.1] at s1
            rw [e1.2] at s2
            repeat first
              | (refine hK _ ?_; clear hK K)
              | ((first | refine vm_reg (fun K hK => ?_) | refine vm_dreg (fun K hK => ?_)); simp (disch := (first | omega | assumption)) only [S1, ↓reduceIte, Nat.reduceEqDiff, Nat.reduceAdd, Nat.reduceMul, Nat.reduceDiv, AOp.sb, AOp.mut, ↓Bool.false_eq_true, beq_self_eq_true, ite_self, Nat.reduceLeDiff, Int.reduceEq, Int.reduceSub, Int.reduceAdd, Int.reduceNeg, Int.reduceLT, Int.reduceLE, Nat.reduceLT, wi, tn_nat, Nat.div_one, Nat.mul_one, mulU, addU, mulK', remM hYB hYpos hqe, shr64, s2]; refine hK _ ?_; clear hK K)
              | simp only [Sv, ↓reduceIte, Nat.reduceEqDiff]
            simp (disch := (first | omega | assumption)) only [retOk, retN, ret1, retF, ret1F, V.okArg, and_true, true_and, S1, ↓reduceIte, Nat.reduceEqDiff, Nat.reduceAdd, Nat.reduceMul, Nat.reduceDiv, AOp.sb, AOp.mut, ↓Bool.false_eq_true, beq_self_eq_true, ite_self, Nat.reduceLeDiff, Int.reduceEq, Int.reduceSub, Int.reduceAdd, Int.reduceNeg, Int.reduceLT, Int.reduceLE, Nat.reduceLT, wi, tn_nat, Nat.div_one, Nat.mul_one, i_eq]
            try omega
          · repeat first
              | (refine hK _ ?_; clear hK K)
              | ((first | refine vm_reg (fun K hK => ?_) | refine vm_dreg (fun K hK => ?_)); simp (disch := (first | omega | assumption)) only [S1, ↓reduceIte, Nat.reduceEqDiff, Nat.reduceAdd, Nat.reduceMul, Nat.reduceDiv, AOp.sb, AOp.mut, ↓Bool.false_eq_true, beq_self_eq_true, ite_self, Nat.reduceLeDiff, Int.reduceEq, Int.reduceSub, Int.reduceAdd, Int.reduceNeg, Int.reduceLT, Int.reduceLE, Nat.reduceLT, wi, tn_nat, Nat.div_one, Nat.mul_one, h1,  subU1, addU, m4, h3]; refine hK _ ?_; clear hK K)
              | simp only [Sv, ↓reduceIte, Nat.reduceEqDiff]
            refine hQ _ (q - 1, r + yn1) ⟨hsm, by simp only; omega, by simp only; rw [Nat.sub_add_cancel hq0]; exact hover, by simp only; omega⟩ (by simp only; omega) ?_
            simp (disch := (first | omega | assumption)) only [Sl, Sa, Sw, ↓reduceIte, Nat.reduceEqDiff, Nat.reduceLT, List.all_nil, List.all_cons, Nat.reduceBneDiff, Nat.reduceAdd, bne_iff_ne, ne_eq, reduceCtorEq, not_false_eq_true, not_true_eq_false, Bool.and_true, Bool.true_and, and_true, true_and, and_self, i_eq]
            repeat' first | rfl | omega | (simp only [List.length_append, List.length_cons, List.length_nil]; done) | apply And.intro
        · have g1 := Nat.mul_le_mul (show q ≤ 4294967295 by omega) (show yn0 ≤ 4294967295 by omega)
          have m1 : q * yn0 % 18446744073709551616 = q * yn0 := Nat.mod_eq_of_lt (by omega)
          have m2 : 4294967296 * r % 18446744073709551616 = 4294967296 * r := Nat.mod_eq_of_lt (by omega)
          have m3 : (4294967296 * r + un0) % 18446744073709551616 = 4294967296 * r + un0 := Nat.mod_eq_of_lt (by omega)
          by_cases h2 : ((4294967296 * r + un0 : Nat) : Int) < ((q * yn0 : Nat) : Int)
          · have hover := dig_over' hYe hq1 (show 4294967296 * r + un0 < q * yn0 by omega)
            have hq0 : 1 ≤ q := by
              rcases Nat.eq_zero_or_pos q with h | h
              · subst h; simp at hover
              · exact h
            have hsm := sub_mul1 hq1 hq0
            by_cases h3 : (4294967296 : Int) ≤ ((r + yn1 : Nat) : Int)
            · repeat first
                | (refine hK _ ?_; clear hK K)
                | ((first | refine vm_reg (fun K hK => ?_) | refine vm_dreg (fun K hK => ?_)); simp (disch := (first | omega | assumption)) only [S1, ↓reduceIte, Nat.reduceEqDiff, Nat.reduceAdd, Nat.reduceMul, Nat.reduceDiv, AOp.sb, AOp.mut, ↓Bool.false_eq_true, beq_self_eq_true, ite_self, Nat.reduceLeDiff, Int.reduceEq, Int.reduceSub, Int.reduceAdd, Int.reduceNeg, Int.reduceLT, Int.reduceLE, Nat.reduceLT, wi, tn_nat, Nat.div_one, Nat.mul_one, h1, mulU, mulK, m1, m2, m3, h2, subU1, addU, m4, h3]; refine hK _ ?_; clear hK K)
                | simp only [Sv, ↓reduceIte, Nat.reduceEqDiff]
              refine he _ _ ?_
              have hqe := dig_one (dig_stop' hYe hsm (by have g1 := Nat.mul_le_mul (show q - 1 ≤ 4294967296 by omega) (Nat.le_of_lt hyn0); omega)) (by rw [Nat.sub_add_cancel hq0]; exact hover)
              have hqs : q - 1 < 18446744073709551616 := by omega
              generalize q - 1 = q' at *
              have e1 := dig_two (N := u32 * 4294967296 + un1) (un0 := un0) hYpos
              rw [e2, ← hv, ← hpe, ← hqe] at e1
              obtain ⟨s1, s2⟩ := hsc
              rw [e1.1] at s1
              rw [e1.2] at s2
              repeat first
                | (refine hK _ ?_; clear hK K)
                | ((first | refine vm_reg (fun K hK => ?_) | refine vm_dreg (fun K hK => ?_)); simp (disch := (first | omega | assumption)) only [S1, ↓reduceIte, Nat.reduceEqDiff, Nat.reduceAdd, Nat.reduceMul, Nat.reduceDiv, AOp.sb, AOp.mut, ↓Bool.false_eq_true, beq_self_eq_true, ite_self, Nat.reduceLeDiff, Int.reduceEq, Int.reduceSub, Int.reduceAdd, Int.reduceNeg, Int.reduceLT, Int.reduceLE, Nat.reduceLT, wi, tn_nat, Nat.div_one, Nat.mul_one, mulU, addU, mulK', remM hYB hYpos hqe, shr64, s2]; refine hK _ ?_; clear hK K)
                | simp only [Sv, ↓reduceIte, Nat.reduceEqDiff]
              simp (disch := (first | omega | assumption)) only [retOk, retN, ret1, retF, ret1F, V.okArg, and_true, true_and, S1, ↓reduceIte, Nat.reduceEqDiff, Nat.reduceAdd, Nat.reduceMul, Nat.reduceDiv, AOp.sb, AOp.mut, ↓Bool.false_eq_true, beq_self_eq_true, ite_self, Nat.reduceLeDiff, Int.reduceEq, Int.reduceSub, Int.reduceAdd, Int.reduceNeg, Int.reduceLT, Int.reduceLE, Nat.reduceLT, wi, tn_nat, Nat.div_one, Nat.mul_one, i_eq]
              try omega
            · repeat first
                | (refine hK _ ?_; clear hK K)
                | ((first | refine vm_reg (fun K hK => ?_) | refine vm_dreg (fun K hK => ?_)); simp (disch := (first | omega | assumption)) only [S1, ↓reduceIte, Nat.reduceEqDiff, Nat.reduceAdd, Nat.reduceMul, Nat.reduceDiv, AOp.sb, AOp.mut, ↓Bool.false_eq_true, beq_self_eq_true, ite_self, Nat.reduceLeDiff, Int.reduceEq, Int.reduceSub, Int.reduceAdd, Int.reduceNeg, Int.reduceLT, Int.reduceLE, Nat.reduceLT, wi, tn_nat, Nat.div_one, Nat.mul_one, h1, mulU, mulK, m1, m2, m3, h2, subU1, addU, m4, h3]; refine hK _ ?_; clear hK K)
                | simp only [Sv, ↓reduceIte, Nat.reduceEqDiff]
              refine hQ _ (q - 1, r + yn1) ⟨hsm, by simp only; omega, by simp only; rw [Nat.sub_add_cancel hq0]; exact hover, by simp only; omega⟩ (by simp only; omega) ?_
              simp (disch := (first | omega | assumption)) only [Sl, Sa, Sw, ↓reduceIte, Nat.reduceEqDiff, Nat.reduceLT, List.all_nil, List.all_cons, Nat.reduceBneDiff, Nat.reduceAdd, bne_iff_ne, ne_eq, reduceCtorEq, not_false_eq_true, not_true_eq_false, Bool.and_true, Bool.true_and, and_true, true_and, and_self, i_eq]
              repeat' first | rfl | omega | (simp only [List.length_append, List.length_cons, List.length_nil]; done) | apply And.intro
          · repeat first
              | (refine hK _ ?_; clear hK K)
              | ((first | refine vm_reg (fun K hK => ?_) | refine vm_dreg (fun K hK => ?_)); simp (disch := (first | omega | assumption)) only [S1, ↓reduceIte, Nat.reduceEqDiff, Nat.reduceAdd, Nat.reduceMul, Nat.reduceDiv, AOp.sb, AOp.mut, ↓Bool.false_eq_true, beq_self_eq_true, ite_self, Nat.reduceLeDiff, Int.reduceEq, Int.reduceSub, Int.reduceAdd, Int.reduceNeg, Int.reduceLT, Int.reduceLE, Nat.reduceLT, wi, tn_nat, Nat.div_one, Nat.mul_one, h1, mulU, mulK, addU, m1, m2, m3, h2]; refine hK _ ?_; clear hK K)
              | simp only [Sv, ↓reduceIte, Nat.reduceEqDiff]
            refine he _ _ ?_
            have hqe := dig_one (dig_stop' hYe hq1 (by omega)) hq2
            have hqs : q < 18446744073709551616 := by omega
            have e1 := dig_two (N := u32 * 4294967296 + un1) (un0 := un0) hYpos
            rw [e2, ← hv, ← hpe, ← hqe] at e1
            obtain ⟨s1, s2⟩ := hsc
            rw [e1.1] at s1
            rw [e1.2] at s2
            repeat first
              | (refine hK _ ?_; clear hK K)
              | ((first | refine vm_reg (fun K hK => ?_) | refine vm_dreg (fun K hK => ?_)); simp (disch := (first | omega | assumption)) only [S1, ↓reduceIte, Nat.reduceEqDiff, Nat.reduceAdd, Nat.reduceMul, Nat.reduceDiv, AOp.sb, AOp.mut, ↓Bool.false_eq_true, beq_self_eq_true, ite_self, Nat.reduceLeDiff, Int.reduceEq, Int.reduceSub, Int.reduceAdd, Int.reduceNeg, Int.reduceLT, Int.reduceLE, Nat.reduceLT, wi, tn_nat, Nat.div_one, Nat.mul_one, mulU, addU, mulK', remM hYB hYpos hqe, shr64, s2]; refine hK _ ?_; clear hK K)
              | simp only [Sv, ↓reduceIte, Nat.reduceEqDiff]
            simp (disch := (first | omega | assumption)) only [retOk, retN, ret1, retF, ret1F, V.okArg, and_true, true_and, S1, ↓reduceIte, Nat.reduceEqDiff, Nat.reduceAdd, Nat.reduceMul, Nat.reduceDiv, AOp.sb, AOp.mut, ↓Bool.false_eq_true, beq_self_eq_true, ite_self, Nat.reduceLeDiff, Int.reduceEq, Int.reduceSub, Int.reduceAdd, Int.reduceNeg, Int.reduceLT, Int.reduceLE, Nat.reduceLT, wi, tn_nat, Nat.div_one, Nat.mul_one, i_eq]
            try omega
      · repeat first
          | (refine hK _ ?_; clear hK K)
          | ((first | refine vm_reg (fun K hK => ?_) | refine vm_dreg (fun K hK => ?_)); simp (disch := (first | omega | assumption)) only [S1, ↓reduceIte, Nat.reduceEqDiff, Nat.reduceAdd, Nat.reduceMul, Nat.reduceDiv, AOp.sb, AOp.mut, ↓Bool.false_eq_true, beq_self_eq_true, ite_self, Nat.reduceLeDiff, Int.reduceEq, Int.reduceSub, Int.reduceAdd, Int.reduceNeg, Int.reduceLT, Int.reduceLE, Nat.reduceLT, wi, tn_nat, Nat.div_one, Nat.mul_one, h1,  subU1, addU, m4, h3]; refine hK _ ?_; clear hK K)
          | simp only [Sv, ↓reduceIte, Nat.reduceEqDiff]
        refine hQ _ (q - 1, r + yn1) ⟨hsm, by simp only; omega, by simp only; rw [Nat.sub_add_cancel hq0]; exact hover, by simp only; omega⟩ (by simp only; omega) ?_
        simp (disch := (first | omega | assumption)) only [Sl, Sa, Sw, ↓reduceIte, Nat.reduceEqDiff, Nat.reduceLT, List.all_nil, List.all_cons, Nat.reduceBneDiff, Nat.reduceAdd, bne_iff_ne, ne_eq, reduceCtorEq, not_false_eq_true, not_true_eq_false, Bool.and_true, Bool.true_and, and_true, true_and, and_self, i_eq]
        repeat' first | rfl | omega | (simp only [List.length_append, List.length_cons, List.length_nil]; done) | apply And.intro
    · have g1 := Nat.mul_le_mul (show q ≤ 4294967295 by omega) (show yn0 ≤ 4294967295 by omega)
      have m1 : q * yn0 % 18446744073709551616 = q * yn0 := Nat.mod_eq_of_lt (by omega)
      have m2 : 4294967296 * r % 18446744073709551616 = 4294967296 * r := Nat.mod_eq_of_lt (by omega)
      have m3 : (4294967296 * r + un1) % 18446744073709551616 = 4294967296 * r + un1 := Nat.mod_eq_of_lt (by omega)
      by_cases h2 : ((4294967296 * r + un1 : Nat) : Int) < ((q * yn0 : Nat) : Int)
      · have hover := dig_over' hYe hq1 (show 4294967296 * r + un1 < q * yn0 by omega)
        have hq0 : 1 ≤ q := by
          rcases Nat.eq_zero_or_pos q with h | h
          · subst h; simp at hover
          · exact h
        have hsm := sub_mul1 hq1 hq0
        by_cases h3 : (4294967296 : Int) ≤ ((r + yn1 : Nat) : Int)
        · repeat first
            | (refine hK _ ?_; clear hK K)
            | ((first | refine vm_reg (fun K hK => ?_) | refine vm_dreg (fun K hK => ?_)); simp (disch := (first | omega | assumption)) only [S1, ↓reduceIte, Nat.reduceEqDiff, Nat.reduceAdd, Nat.reduceMul, Nat.reduceDiv, AOp.sb, AOp.mut, ↓Bool.false_eq_true, beq_self_eq_true, ite_self, Nat.reduceLeDiff, Int.reduceEq, Int.reduceSub, Int.reduceAdd, Int.reduceNeg, Int.reduceLT, Int.reduceLE, Nat.reduceLT, wi, tn_nat, Nat.div_one, Nat.mul_one, h1, mulU, mulK, m1, m2, m3, h2, subU1, addU, m4, h3]; refine hK _ ?_; clear hK K)
            | simp only [Sv, ↓reduceIte, Nat.reduceEqDiff]
          refine he _ _ ?_
          have hqe := dig_one (dig_stop' hYe hsm (by have g1 := Nat.mul_le_mul (show q - 1 ≤ 4294967296 by omega) (Nat.le_of_lt hyn0); omega)) (by rw [Nat.sub_add_cancel hq0]; exact hover)
          have hqs : q - 1 < 18446744073709551616 := by omega
          generalize q - 1 = q' at *
          have hpe := hqe
          generalize q' = p at hpe hqe ⊢
          have hvY := Nat.mod_lt (u32 * 4294967296 + un1) hYpos
          obtain ⟨v, hv⟩ : ∃ v, v = (u32 * 4294967296 + un1) % Y := ⟨_, rfl⟩
          have hsub := remM (u := u32) (u1 := un1) hYB hYpos hqe
          rw [← hv] at hvY hsub
          have hv64 : v < 18446744073709551616 := Nat.lt_trans hvY hYB
          repeat first
            | (refine hK _ ?_; clear hK K)
            | ((first | refine vm_reg (fun K hK => ?_) | refine vm_dreg (fun K hK => ?_)); simp (disch := (first | omega | assumption)) only [S1, ↓reduceIte, Nat.reduceEqDiff, Nat.reduceAdd, Nat.reduceMul, Nat.reduceDiv, AOp.sb, AOp.mut, ↓Bool.false_eq_true, beq_self_eq_true, ite_self, Nat.reduceLeDiff, Int.reduceEq, Int.reduceSub, Int.reduceAdd, Int.reduceNeg, Int.reduceLT, Int.reduceLE, Nat.reduceLT, wi, tn_nat, Nat.div_one, Nat.mul_one, mulU, addU, mulK', hsub, ne_eq, cy, not_false_eq_true, tdivU, remU]; refine hK _ ?_; clear hK K)
            | simp only [Sv, ↓reduceIte, Nat.reduceEqDiff]
          obtain ⟨hi1, hi2, hi3⟩ := dig_init' (u32 := v) (u1 := un0) hYe hy31 hyn0 hvY (by omega)
          refine vm_loopA [] (Nat × Nat) (fun x => ⟨[(2, .i .u64 (Y : Int)), (8, .i .u64 (s : Int)), (9, .i .u64 (yn1 : Int)), (10, .i .u64 (yn0 : Int)), (14, .i .u64 (un0 : Int)), (15, .i .u64 (p : Int)), (17, .i .u64 (v : Int)), (18, .i .u64 (x.1 : Int)), (16, .i .u64 (x.2 : Int))], [], 0⟩)
            (fun x => x.1 * yn1 + x.2 = v ∧ x.2 < 4294967296 ∧ v * 4294967296 + un0 < (x.1 + 1) * Y ∧ x.1 ≤ 4294967297) (fun x => x.1) (v / yn1, v % yn1)
            ⟨hi1, Nat.lt_trans (Nat.mod_lt _ (by omega)) hyn1, hi2, hi3⟩ (by simp (disch := (first | omega | assumption)) only [Sl, Sa, Sw, ↓reduceIte, Nat.reduceEqDiff, Nat.reduceLT, List.all_nil, List.all_cons, Nat.reduceBneDiff, Nat.reduceAdd, bne_iff_ne, ne_eq, reduceCtorEq, not_false_eq_true, not_true_eq_false, Bool.and_true, Bool.true_and, and_true, true_and, and_self]) (by
            simp (disch := (first | omega | assumption)) only [Sl, Sa, Sw, ↓reduceIte, Nat.reduceEqDiff, Nat.reduceLT, List.all_nil, List.all_cons, Nat.reduceBneDiff, Nat.reduceAdd, bne_iff_ne, ne_eq, reduceCtorEq, not_false_eq_true, not_true_eq_false, Bool.and_true, Bool.true_and, and_true, true_and, and_self, i_eq]
            repeat' first | rfl | omega | (simp only [List.length_append, List.length_cons, List.length_nil]; done) | apply And.intro) ?_
          rintro ⟨q, r⟩ ⟨hq1, hr1, hq2, hq3⟩ Q' hQ he hr
          simp only [] at hq1 hr1 hq2 hq3 ⊢
          have m4 : (r + yn1) % 18446744073709551616 = r + yn1 := Nat.mod_eq_of_lt (by omega)
          by_cases h1 : (4294967296 : Int) ≤ (q : Int)
          · have hover := dig_big (u1 := un0) hvY (by omega) (show 4294967296 ≤ q by omega)
            have hq0 : 1 ≤ q := by
              rcases Nat.eq_zero_or_pos q with h | h
              · subst h; simp at hover
              · exact h
            have hsm := sub_mul1 hq1 hq0
            by_cases h3 : (4294967296 : Int) ≤ ((r + yn1 : Nat) : Int)
            · repeat first
                | (refine hK _ ?_; clear hK K)
                | ((first | refine vm_reg (fun K hK => ?_) | refine vm_dreg (fun K hK => ?_)); simp (disch := (first | omega | assumption)) only [S1, ↓reduceIte, Nat.reduceEqDiff, Nat.reduceAdd, Nat.reduceMul, Nat.reduceDiv, AOp.sb, AOp.mut, ↓Bool.false_eq_true, beq_self_eq_true, ite_self, Nat.reduceLeDiff, Int.reduceEq, Int.reduceSub, Int.reduceAdd, Int.reduceNeg, Int.reduceLT, Int.reduceLE, Nat.reduceLT, wi, tn_nat, Nat.div_one, Nat.mul_one, h1,  subU1, addU, m4, h3]; refine hK _ ?_; clear hK K)
                | simp only [Sv, ↓reduceIte, Nat.reduceEqDiff]
              refine he _ _ ?_
              have hqe := dig_one (dig_stop' hYe hsm (by have g1 := Nat.mul_le_mul (show q - 1 ≤ 4294967296 by omega) (Nat.le_of_lt hyn0); omega)) (by rw [Nat.sub_add_cancel hq0]; exact hover)
              have hqs : q - 1 < 18446744073709551616 := by omega
              generalize q - 1 = q' at *
              have e1 := dig_two (N := u32 * 4294967296 + un1) (un0 := un0) hYpos
              rw [e2, ← hv, ← hpe, ← hqe] at e1
              obtain ⟨s1, s2⟩ := hsc
              rw [e1.1] at s1
              rw [e1.2] at s2
              repeat first
                | (refine hK _ ?_; clear hK K)
                | ((first | refine vm_reg (fun K hK => ?_) | refine vm_dreg (fun K hK => ?_)); simp (disch := (first | omega | assumption)) only [S1, ↓reduceIte, Nat.reduceEqDiff, Nat.reduceAdd, Nat.reduceMul, Nat.reduceDiv, AOp.sb, AOp.mut, ↓Bool.false_eq_true, beq_self_eq_true, ite_self, Nat.reduceLeDiff, Int.reduceEq, Int.reduceSub, Int.reduceAdd, Int.reduceNeg, Int.reduceLT, Int.reduceLE, Nat.reduceLT, wi, tn_nat, Nat.div_one, Nat.mul_one, mulU, addU, mulK', remM hYB hYpos hqe, shr64, s2]; refine hK _ ?_; clear hK K)
                | simp only [Sv, ↓reduceIte, Nat.reduceEqDiff]
              simp (disch := (first | omega | assumption)) only [retOk, retN, ret1, retF, ret1F, V.okArg, and_true, true_and, S1, ↓reduceIte, Nat.reduceEqDiff, Nat.reduceAdd, Nat.reduceMul, Nat.reduceDiv, AOp.sb, AOp.mut, ↓Bool.false_eq_true, beq_self_eq_true, ite_self, Nat.reduceLeDiff, Int.reduceEq, Int.reduceSub, Int.reduceAdd, Int.reduceNeg, Int.reduceLT, Int.reduceLE, Nat.reduceLT, wi, tn_nat, Nat.div_one, Nat.mul_one, i_eq]
              try omega
            · repeat first
                | (refine hK _ ?_; clear hK K)
                | ((first | refine vm_reg (fun K hK => ?_) | refine vm_dreg (fun K hK => ?_)); simp (disch := (first | omega | assumption)) only [S1, ↓reduceIte, Nat.reduceEqDiff, Nat.reduceAdd, Nat.reduceMul, Nat.reduceDiv, AOp.sb, AOp.mut, ↓Bool.false_eq_true, beq_self_eq_true, ite_self, Nat.reduceLeDiff, Int.reduceEq, Int.reduceSub, Int.reduceAdd, Int.reduceNeg, Int.reduceLT, Int.reduceLE, Nat.reduceLT, wi, tn_nat, Nat.div_one, Nat.mul_one, h1,  subU1, addU, m4, h3]; refine hK _ ?_; clear hK K)
                | simp only [Sv, ↓reduceIte, Nat.reduceEqDiff]
              refine hQ _ (q - 1, r + yn1) ⟨hsm, by simp only; omega, by simp only; rw [Nat.sub_add_cancel hq0]; exact hover, by simp only; omega⟩ (by simp only; omega) ?_
              simp (disch := (first | omega | assumption)) only [Sl, Sa, Sw, ↓reduceIte, Nat.reduceEqDiff, Nat.reduceLT, List.all_nil, List.all_cons, Nat.reduceBneDiff, Nat.reduceAdd, bne_iff_ne, ne_eq, reduceCtorEq, not_false_eq_true, not_true_eq_false, Bool.and_true, Bool.true_and, and_true, true_and, and_self, i_eq]
              repeat' first | rfl | omega | (simp only [List.length_append, List.length_cons, List.length_nil]; done) | apply And.intro
          · have g1 := Nat.mul_le_mul (show q ≤ 4294967295 by omega) (show yn0 ≤ 4294967295 by omega)
            have m1 : q * yn0 % 18446744073709551616 = q * yn0 := Nat.mod_eq_of_lt (by omega)
            have m2 : 4294967296 * r % 18446744073709551616 = 4294967296 * r := Nat.mod_eq_of_lt (by omega)
            have m3 : (4294967296 * r + un0) % 18446744073709551616 = 4294967296 * r + un0 := Nat.mod_eq_of_lt (by omega)
            by_cases h2 : ((4294967296 * r + un0 : Nat) : Int) < ((q * yn0 : Nat) : Int)
            · have hover := dig_over' hYe hq1 (show 4294967296 * r + un0 < q * yn0 by omega)
              have hq0 : 1 ≤ q := by
                rcases Nat.eq_zero_or_pos q with h | h
                · subst h; simp at hover
                · exact h
              have hsm := sub_mul1 hq1 hq0
              by_cases h3 : (4294967296 : Int) ≤ ((r + yn1 : Nat) : Int)
              · repeat first
                  | (refine hK _ ?_; clear hK K)
                  | ((first | refine vm_reg (fun K hK => ?_) | refine vm_dreg (fun K hK => ?_)); simp (disch := (first | omega | assumption)) only [S1, ↓reduceIte, Nat.reduceEqDiff, Nat.reduceAdd, Nat.reduceMul, Nat.reduceDiv, AOp.sb, AOp.mut, ↓Bool.false_eq_true, beq_self_eq_true, ite_self, Nat.reduceLeDiff, Int.reduceEq, Int.reduceSub, Int.reduceAdd, Int.reduceNeg, Int.reduceLT, Int.reduceLE, Nat.reduceLT, wi, tn_nat, Nat.div_one, Nat.mul_one, h1, mulU, mulK, m1, m2, m3, h2, subU1, addU, m4, h3]; refine hK _ ?_; clear hK K)
                  | simp only [Sv, ↓reduceIte, Nat.reduceEqDiff]
                refine he _ _ ?_
                have hqe := dig_one (dig_stop' hYe hsm (by have g1 := Nat.mul_le_mul (show q - 1 ≤ 4294967296 by omega) (Nat.le_of_lt hyn0); omega)) (by rw [Nat.sub_add_cancel hq0]; exact hover)
                have hqs : q - 1 < 18446744073709551616 := by omega
                generalize q - 1 = q' at *
                have e1 := dig_two (N := u32 * 4294967296 + un1) (un0 := un0) hYpos
                rw [e2, ← hv, ← hpe, ← hqe] at e1
                obtain ⟨s1, s2⟩ := hsc
                rw [e1.1] at s1
                rw [e1.2] at s2
                repeat first
                  | (refine hK _ ?_; clear hK K)
                  | ((first | refine vm_reg (fun K hK => ?_) | refine vm_dreg (fun K hK => ?_)); simp (disch := (first | omega | assumption)) only [S1, ↓reduceIte, Nat.reduceEqDiff, Nat.reduceAdd, Nat.reduceMul, Nat.reduceDiv, AOp.sb, AOp.mut, ↓Bool.false_eq_true, beq_self_eq_true, ite_self, Nat.reduceLeDiff, Int.reduceEq, Int.reduceSub, Int.reduceAdd, Int.reduceNeg, Int.reduceLT, Int.reduceLE, Nat.reduceLT, wi, tn_nat, Nat.div_one, Nat.mul_one, mulU, addU, mulK', remM hYB hYpos hqe, shr64, s2]; refine hK _ ?_; clear hK K)
                  | simp only [Sv, ↓reduceIte, Nat.reduceEqDiff]
                simp (disch := (first | omega | assumption)) only [retOk, retN, ret1, retF, ret1F, V.okArg, and_true, true_and, S1, ↓reduceIte, Nat.reduceEqDiff, Nat.reduceAdd, Nat.reduceMul, Nat.reduceDiv, AOp.sb, AOp.mut, ↓Bool.false_eq_true, beq_self_eq_true, ite_self, Nat.reduceLeDiff, Int.reduceEq, Int.reduceSub, Int.reduceAdd, Int.reduceNeg, Int.reduceLT, Int.reduceLE, Nat.reduceLT, wi, tn_nat, Nat.div_one, Nat.mul_one, i_eq]
                try omega
              · repeat first
                  | (refine hK _ ?_; clear hK K)
                  | ((first | refine vm_reg (fun K hK => ?_) | refine vm_dreg (fun K hK => ?_)); simp (disch := (first | omega | assumption)) only [S1, ↓reduceIte, Nat.reduceEqDiff, Nat.reduceAdd, Nat.reduceMul, Nat.reduceDiv, AOp.sb, AOp.mut, ↓Bool.false_eq_true, beq_self_eq_true, ite_self, Nat.reduceLeDiff, Int.reduceEq, Int.reduceSub, Int.reduceAdd, Int.reduceNeg, Int.reduceLT, Int.reduceLE, Nat.reduceLT, wi, tn_nat, Nat.div_one, Nat.mul_one, h1, mulU, mulK, m1, m2, m3, h2, subU1, addU, m4, h3]; refine hK _ ?_; clear hK K)
                  | simp only [Sv, ↓reduceIte, Nat.reduceEqDiff]
                refine hQ _ (q - 1, r + yn1) ⟨hsm, by simp only; omega, by simp only; rw [Nat.sub_add_cancel hq0]; exact hover, by simp only; omega⟩ (by simp only; omega) ?_
                simp (disch := (first | omega | assumption)) only [Sl, Sa, Sw, ↓reduceIte, Nat.reduceEqDiff, Nat.reduceLT, List.all_nil, List.all_cons, Nat.reduceBneDiff, Nat.reduceAdd, bne_iff_ne, ne_eq, reduceCtorEq, not_false_eq_true, not_true_eq_false, Bool.and_true, Bool.true_and, and_true, true_and, and_self, i_eq]
                repeat' first | rfl | omega | (simp only [List.length_append, List.length_cons, List.length_nil]; done) | apply And.intro
            · repeat first
                | (refine hK _ ?_; clear hK K)
                | ((first | refine vm_reg (fun K hK => ?_) | refine vm_dreg (fun K hK => ?_)); simp (disch := (first | omega | assumption)) only [S1, ↓reduceIte, Nat.reduceEqDiff, Nat.reduceAdd, Nat.reduceMul, Nat.reduceDiv, AOp.sb, AOp.mut, ↓Bool.false_eq_true, beq_self_eq_true, ite_self, Nat.reduceLeDiff, Int.reduceEq, Int.reduceSub, Int.reduceAdd, Int.reduceNeg, Int.reduceLT, Int.reduceLE, Nat.reduceLT, wi, tn_nat, Nat.div_one, Nat.mul_one, h1, mulU, mulK, addU, m1, m2, m3, h2]; refine hK _ ?_; clear hK K)
                | simp only [Sv, ↓reduceIte, Nat.reduceEqDiff]
              refine he _ _ ?_
              have hqe := dig_one (dig_stop' hYe hq1 (by omega)) hq2
              have hqs : q < 18446744073709551616 := by omega
              have e1 := dig_two (N := u32 * 4294967296 + un1) (un0 := un0) hYpos
              rw [e2, ← hv, ← hpe, ← hqe] at e1
              obtain ⟨s1, s2⟩ := hsc
              rw [e1.1] at s1
              rw [e1.2] at s2
              repeat first
                | (refine hK _ ?_; clear hK K)
                | ((first | refine vm_reg (fun K hK => ?_) | refine vm_dreg (fun K hK => ?_)); simp (disch := (first | omega | assumption)) only [S1, ↓reduceIte, Nat.reduceEqDiff, Nat.reduceAdd, Nat.reduceMul, Nat.reduceDiv, AOp.sb, AOp.mut, ↓Bool.false_eq_true, beq_self_eq_true, ite_self, Nat.reduceLeDiff, Int.reduceEq, Int.reduceSub, Int.reduceAdd, Int.reduceNeg, Int.reduceLT, Int.reduceLE, Nat.reduceLT, wi, tn_nat, Nat.div_one, Nat.mul_one, mulU, addU, mulK', remM hYB hYpos hqe, shr64, s2]; refine hK _ ?_; clear hK K)
                | simp only [Sv, ↓reduceIte, Nat.reduceEqDiff]
              simp (disch := (first | omega | assumption)) only [retOk, retN, ret1, retF, ret1F, V.okArg, and_true, true_and, S1, ↓reduceIte, Nat.reduceEqDiff, Nat.reduceAdd, Nat.reduceMul, Nat.reduceDiv, AOp.sb, AOp.mut, ↓Bool.false_eq_true, beq_self_eq_true, ite_self, Nat.reduceLeDiff, Int.reduceEq, Int.reduceSub, Int.reduceAdd, Int.reduceNeg, Int.reduceLT, Int.reduceLE, Nat.reduceLT, wi, tn_nat, Nat.div_one, Nat.mul_one, i_eq]
              try omega
        · repeat first
            | (refine hK _ ?_; clear hK K)
            | ((first | refine vm_reg (fun K hK => ?_) | refine vm_dreg (fun K hK => ?_)); simp (disch := (first | omega | assumption)) only [S1, ↓reduceIte, Nat.reduceEqDiff, Nat.reduceAdd, Nat.reduceMul, Nat.reduceDiv, AOp.sb, AOp.mut, ↓Bool.false_eq_true, beq_self_eq_true, ite_self, Nat.reduceLeDiff, Int.reduceEq, Int.reduceSub, Int.reduceAdd, Int.reduceNeg, Int.reduceLT, Int.reduceLE, Nat.reduceLT, wi, tn_nat, Nat.div_one, Nat.mul_one, h1, mulU, mulK, m1, m2, m3, h2, subU1, addU, m4, h3]; refine hK _ ?_; clear hK K)
            | simp only [Sv, ↓reduceIte, Nat.reduceEqDiff]
          refine hQ _ (q - 1, r + yn1) ⟨hsm, by simp only; omega, by simp only; rw [Nat.sub_add_cancel hq0]; exact hover, by simp only; omega⟩ (by simp only; omega) ?_
          simp (disch := (first | omega | assumption)) only [Sl, Sa, Sw, ↓reduceIte, Nat.reduceEqDiff, Nat.reduceLT, List.all_nil, List.all_cons, Nat.reduceBneDiff, Nat.reduceAdd, bne_iff_ne, ne_eq, reduceCtorEq, not_false_eq_true, not_true_eq_false, Bool.and_true, Bool.true_and, and_true, true_and, and_self, i_eq]
          repeat' first | rfl | omega | (simp only [List.length_append, List.length_cons, List.length_nil]; done) | apply And.intro
      · repeat first
          | (refine hK _ ?_; clear hK K)
          | ((first | refine vm_reg (fun K hK => ?_) | refine vm_dreg (fun K hK => ?_)); simp (disch := (first | omega | assumption)) only [S1, ↓reduceIte, Nat.reduceEqDiff, Nat.reduceAdd, Nat.reduceMul, Nat.reduceDiv, AOp.sb, AOp.mut, ↓Bool.false_eq_true, beq_self_eq_true, ite_self, Nat.reduceLeDiff, Int.reduceEq, Int.reduceSub, Int.reduceAdd, Int.reduceNeg, Int.reduceLT, Int.reduceLE, Nat.reduceLT, wi, tn_nat, Nat.div_one, Nat.mul_one, h1, mulU, mulK, addU, m1, m2, m3, h2]; refine hK _ ?_; clear hK K)
          | simp only [Sv, ↓reduceIte, Nat.reduceEqDiff]
        refine he _ _ ?_
        have hqe := dig_one (dig_stop' hYe hq1 (by omega)) hq2
        have hqs : q < 18446744073709551616 := by omega
        have hpe := hqe
        generalize q = p at hpe hqe ⊢
        have hvY := Nat.mod_lt (u32 * 4294967296 + un1) hYpos
        obtain ⟨v, hv⟩ : ∃ v, v = (u32 * 4294967296 + un1) % Y := ⟨_, rfl⟩
        have hsub := remM (u := u32) (u1 := un1) hYB hYpos hqe
        rw [← hv] at hvY hsub
        have hv64 : v < 18446744073709551616 := Nat.lt_trans hvY hYB
        repeat first
          | (refine hK _ ?_; clear hK K)
          | ((first | refine vm_reg (fun K hK => ?_) | refine vm_dreg (fun K hK => ?_)); simp (disch := (first | omega | assumption)) only [S1, ↓reduceIte, Nat.reduceEqDiff, Nat.reduceAdd, Nat.reduceMul, Nat.reduceDiv, AOp.sb, AOp.mut, ↓Bool.false_eq_true, beq_self_eq_true, ite_self, Nat.reduceLeDiff, Int.reduceEq, Int.reduceSub, Int.reduceAdd, Int.reduceNeg, Int.reduceLT, Int.reduceLE, Nat.reduceLT, wi, tn_nat, Nat.div_one, Nat.mul_one, mulU, addU, mulK', hsub, ne_eq, cy, not_false_eq_true, tdivU, remU]; refine hK _ ?_; clear hK K)
          | simp only [Sv, ↓reduceIte, Nat.reduceEqDiff]
        obtain ⟨hi1, hi2, hi3⟩ := dig_init' (u32 := v) (u1 := un0) hYe hy31 hyn0 hvY (by omega)
        refine vm_loopA [] (Nat × Nat) (fun x => ⟨[(2, .i .u64 (Y : Int)), (8, .i .u64 (s : Int)), (9, .i .u64 (yn1 : Int)), (10, .i .u64 (yn0 : Int)), (14, .i .u64 (un0 : Int)), (15, .i .u64 (p : Int)), (17, .i .u64 (v : Int)), (18, .i .u64 (x.1 : Int)), (16, .i .u64 (x.2 : Int))], [], 0⟩)
          (fun x => x.1 * yn1 + x.2 = v ∧ x.2 < 4294967296 ∧ v * 4294967296 + un0 < (x.1 + 1) * Y ∧ x.1 ≤ 4294967297) (fun x => x.1) (v / yn1, v % yn1)
          ⟨hi1, Nat.lt_trans (Nat.mod_lt _ (by omega)) hyn1, hi2, hi3⟩ (by simp (disch := (first | omega | assumption)) only [Sl, Sa, Sw, ↓reduceIte, Nat.reduceEqDiff, Nat.reduceLT, List.all_nil, List.all_cons, Nat.reduceBneDiff, Nat.reduceAdd, bne_iff_ne, ne_eq, reduceCtorEq, not_false_eq_true, not_true_eq_false, Bool.and_true, Bool.true_and, and_true, true_and, and_self]) (by
          simp (disch := (first | omega | assumption)) only [Sl, Sa, Sw, ↓reduceIte, Nat.reduceEqDiff, Nat.reduceLT, List.all_nil, List.all_cons, Nat.reduceBneDiff, Nat.reduceAdd, bne_iff_ne, ne_eq, reduceCtorEq, not_false_eq_true, not_true_eq_false, Bool.and_true, Bool.true_and, and_true, true_and, and_self, i_eq]
          repeat' first | rfl | omega | (simp only [List.length_append, List.length_cons, List.length_nil]; done) | apply And.intro) ?_
        rintro ⟨q, r⟩ ⟨hq1, hr1, hq2, hq3⟩ Q' hQ he hr
        simp only [] at hq1 hr1 hq2 hq3 ⊢
        have m4 : (r + yn1) % 18446744073709551616 = r + yn1 := Nat.mod_eq_of_lt (by omega)
        by_cases h1 : (4294967296 : Int) ≤ (q : Int)
        · have hover := dig_big (u1 := un0) hvY (by omega) (show 4294967296 ≤ q by omega)
          have hq0 : 1 ≤ q := by
            rcases Nat.eq_zero_or_pos q with h | h
            · subst h; simp at hover
            · exact h
          have hsm := sub_mul1 hq1 hq0
          by_cases h3 : (4294967296 : Int) ≤ ((r + yn1 : Nat) : Int)
          · repeat first
              | (refine hK _ ?_; clear hK K)
              | ((first | refine vm_reg (fun K hK => ?_) | refine vm_dreg (fun K hK => ?_)); simp (disch := (first | omega | assumption)) only [S1, ↓reduceIte, Nat.reduceEqDiff, Nat.reduceAdd, Nat.reduceMul, Nat.reduceDiv, AOp.sb, AOp.mut, ↓Bool.false_eq_true, beq_self_eq_true, ite_self, Nat.reduceLeDiff, Int.reduceEq, Int.reduceSub, Int.reduceAdd, Int.reduceNeg, Int.reduceLT, Int.reduceLE, Nat.reduceLT, wi, tn_nat, Nat.div_one, Nat.mul_one, h1,  subU1, addU, m4, h3]; refine hK _ ?_; clear hK K)
              | simp only [Sv, ↓reduceIte, Nat.reduceEqDiff]
            refine he _ _ ?_
            have hqe := dig_one (dig_stop' hYe hsm (by have g1 := Nat.mul_le_mul (show q - 1 ≤ 4294967296 by omega) (Nat.le_of_lt hyn0); omega)) (by rw [Nat.sub_add_cancel hq0]; exact hover)
            have hqs : q - 1 < 18446744073709551616 := by omega
            generalize q - 1 = q' at *
            have e1 := dig_two (N := u32 * 4294967296 + un1) (un0 := un0) hYpos
            rw [e2, ← hv, ← hpe, ← hqe] at e1
            obtain ⟨s1, s2⟩ := hsc
            rw [e1.1] at s1
            rw [e1.2] at s2
            repeat first
              | (refine hK _ ?_; clear hK K)
              | ((first | refine vm_reg (fun K hK => ?_) | refine vm_dreg (fun K hK => ?_)); simp (disch := (first | omega | assumption)) only [S1, ↓reduceIte, Nat.reduceEqDiff, Nat.reduceAdd, Nat.reduceMul, Nat.reduceDiv, AOp.sb, AOp.mut, ↓Bool.false_eq_true, beq_self_eq_true, ite_self, Nat.reduceLeDiff, Int.reduceEq, Int.reduceSub, Int.reduceAdd, Int.reduceNeg, Int.reduceLT, Int.reduceLE, Nat.reduceLT, wi, tn_nat, Nat.div_one, Nat.mul_one, mulU, addU, mulK', remM hYB hYpos hqe, shr64, s2]; refine hK _ ?_; clear hK K)
              | simp only [Sv, ↓reduceIte, Nat.reduceEqDiff]
            simp (disch := (first | omega | assumption)) only [retOk, retN, ret1, retF, ret1F, V.okArg, and_true, true_and, S1, ↓reduceIte, Nat.reduceEqDiff, Nat.reduceAdd, Nat.reduceMul, Nat.reduceDiv, AOp.sb, AOp.mut, ↓Bool.false_eq_true, beq_self_eq_true, ite_self, Nat.reduceLeDiff, Int.reduceEq, Int.reduceSub, Int.reduceAdd, Int.reduceNeg, Int.reduceLT, Int.reduceLE, Nat.reduceLT, wi, tn_nat, Nat.div_one, Nat.mul_one, i_eq]
            try omega
          · repeat first
              | (refine hK _ ?_; clear hK K)
              | ((first | refine vm_reg (fun K hK => ?_) | refine vm_dreg (fun K hK => ?_)); simp (disch := (first | omega | assumption)) only [S1, ↓reduceIte, Nat.reduceEqDiff, Nat.reduceAdd, Nat.reduceMul, Nat.reduceDiv, AOp.sb, AOp.mut, ↓Bool.false_eq_true, beq_self_eq_true, ite_self, Nat.reduceLeDiff, Int.reduceEq, Int.reduceSub, Int.reduceAdd, Int.reduceNeg, Int.reduceLT, Int.reduceLE, Nat.reduceLT, wi, tn_nat, Nat.div_one, Nat.mul_one, h1,  subU1, addU, m4, h3]; refine hK _ ?_; clear hK K)
              | simp only [Sv, ↓reduceIte, Nat.reduceEqDiff]
            refine hQ _ (q - 1, r + yn1) ⟨hsm, by simp only; omega, by simp only; rw [Nat.sub_add_cancel hq0]; exact hover, by simp only; omega⟩ (by simp only; omega) ?_
            simp (disch := (first | omega | assumption)) only [Sl, Sa, Sw, ↓reduceIte, Nat.reduceEqDiff, Nat.reduceLT, List.all_nil, List.all_cons, Nat.reduceBneDiff, Nat.reduceAdd, bne_iff_ne, ne_eq, reduceCtorEq, not_false_eq_true, not_true_eq_false, Bool.and_true, Bool.true_and, and_true, true_and, and_self, i_eq]
            repeat' first | rfl | omega | (simp only [List.length_append, List.length_cons, List.length_nil]; done) | apply And.intro
        · have g1 := Nat.mul_le_mul (show q ≤ 4294967295 by omega) (show yn0 ≤ 4294967295 by omega)
          have m1 : q * yn0 % 18446744073709551616 = q * yn0 := Nat.mod_eq_of_lt (by omega)
          have m2 : 4294967296 * r % 18446744073709551616 = 4294967296 * r := Nat.mod_eq_of_lt (by omega)
          have m3 : (4294967296 * r + un0) % 18446744073709551616 = 4294967296 * r + un0 := Nat.mod_eq_of_lt (by omega)
          by_cases h2 : ((4294967296 * r + un0 : Nat) : Int) < ((q * yn0 : Nat) : Int)
          · have hover := dig_over' hYe hq1 (show 4294967296 * r + un0 < q * yn0 by omega)
            have hq0 : 1 ≤ q := by
              rcases Nat.eq_zero_or_pos q with h | h
              · subst h; simp at hover
              · exact h
            have hsm := sub_mul1 hq1 hq0
            by_cases h3 : (4294967296 : Int) ≤ ((r + yn1 : Nat) : Int)
            · repeat first
                | (refine hK _ ?_; clear hK K)
                | ((first | refine vm_reg (fun K hK => ?_) | refine vm_dreg (fun K hK => ?_)); simp (disch := (first | omega | assumption)) only [S1, ↓reduceIte, Nat.reduceEqDiff, Nat.reduceAdd, Nat.reduceMul, Nat.reduceDiv, AOp.sb, AOp.mut, ↓Bool.false_eq_true, beq_self_eq_true, ite_self, Nat.reduceLeDiff, Int.reduceEq, Int.reduceSub, Int.reduceAdd, Int.reduceNeg, Int.reduceLT, Int.reduceLE, Nat.reduceLT, wi, tn_nat, Nat.div_one, Nat.mul_one, h1, mulU, mulK, m1, m2, m3, h2, subU1, addU, m4, h3]; refine hK _ ?_; clear hK K)
                | simp only [Sv, ↓reduceIte, Nat.reduceEqDiff]
              refine he _ _ ?_
              have hqe := dig_one (dig_stop' hYe hsm (by have g1 := Nat.mul_le_mul (show q - 1 ≤ 4294967296 by omega) (Nat.le_of_lt hyn0); omega)) (by rw [Nat.sub_add_cancel hq0]; exact hover)
              have hqs : q - 1 < 18446744073709551616 := by omega
              generalize q - 1 = q' at *
              have e1 := dig_two (N := u32 * 4294967296 + un1) (un0 := un0) hYpos
              rw [e2, ← hv, ← hpe, ← hqe] at e1
              obtain ⟨s1, s2⟩ := hsc
              rw [e1.1] at s1
              rw [e1.2] at s2
              repeat first
                | (refine hK _ ?_; clear hK K)
                | ((first | refine vm_reg (fun K hK => ?_) | refine vm_dreg (fun K hK => ?_)); simp (disch := (first | omega | assumption)) only [S1, ↓reduceIte, Nat.reduceEqDiff, Nat.reduceAdd, Nat.reduceMul, Nat.reduceDiv, AOp.sb, AOp.mut, ↓Bool.false_eq_true, beq_self_eq_true, ite_self, Nat.reduceLeDiff, Int.reduceEq, Int.reduceSub, Int.reduceAdd, Int.reduceNeg, Int.reduceLT, Int.reduceLE, Nat.reduceLT, wi, tn_nat, Nat.div_one, Nat.mul_one, mulU, addU, mulK', remM hYB hYpos hqe, shr64, s2]; refine hK _ ?_; clear hK K)
                | simp only [Sv, ↓reduceIte, Nat.reduceEqDiff]
              simp (disch := (first | omega | assumption)) only [retOk, retN, ret1, retF, ret1F, V.okArg, and_true, true_and, S1, ↓reduceIte, Nat.reduceEqDiff, Nat.reduceAdd, Nat.reduceMul, Nat.reduceDiv, AOp.sb, AOp.mut, ↓Bool.false_eq_true, beq_self_eq_true, ite_self, Nat.reduceLeDiff, Int.reduceEq, Int.reduceSub, Int.reduceAdd, Int.reduceNeg, Int.reduceLT, Int.reduceLE, Nat.reduceLT, wi, tn_nat, Nat.div_one, Nat.mul_one, i_eq]
              try omega
            · repeat first
                | (refine hK _ ?_; clear hK K)
                | ((first | refine vm_reg (fun K hK => ?_) | refine vm_dreg (fun K hK => ?_)); simp (disch := (first | omega | assumption)) only [S1, ↓reduceIte, Nat.reduceEqDiff, Nat.reduceAdd, Nat.reduceMul, Nat.reduceDiv, AOp.sb, AOp.mut, ↓Bool.false_eq_true, beq_self_eq_true, ite_self, Nat.reduceLeDiff, Int.reduceEq, Int.reduceSub, Int.reduceAdd, Int.reduceNeg, Int.reduceLT, Int.reduceLE, Nat.reduceLT, wi, tn_nat, Nat.div_one, Nat.mul_one, h1, mulU, mulK, m1, m2, m3, h2, subU1, addU, m4, h3]; refine hK _ ?_; clear hK K)
                | simp only [Sv, ↓reduceIte, Nat.reduceEqDiff]
              refine hQ _ (q - 1, r + yn1) ⟨hsm, by simp only; omega, by simp only; rw [Nat.sub_add_cancel hq0]; exact hover, by simp only; omega⟩ (by simp only; omega) ?_
              simp (disch := (first | omega | assumption)) only [Sl, Sa, Sw, ↓reduceIte, Nat.reduceEqDiff, Nat.reduceLT, List.all_nil, List.all_cons, Nat.reduceBneDiff, Nat.reduceAdd, bne_iff_ne, ne_eq, reduceCtorEq, not_false_eq_true, not_true_eq_false, Bool.and_true, Bool.true_and, and_true, true_and, and_self, i_eq]
              repeat' first | rfl | omega | (simp only [List.length_append, List.length_cons, List.length_nil]; done) | apply And.intro
          · repeat first
              | (refine hK _ ?_; clear hK K)
              | ((first | refine vm_reg (fun K hK => ?_) | refine vm_dreg (fun K hK => ?_)); simp (disch := (first | omega | assumption)) only [S1, ↓reduceIte, Nat.reduceEqDiff, Nat.reduceAdd, Nat.reduceMul, Nat.reduceDiv, AOp.sb, AOp.mut, ↓Bool.false_eq_true, beq_self_eq_true, ite_self, Nat.reduceLeDiff, Int.reduceEq, Int.reduceSub, Int.reduceAdd, Int.reduceNeg, Int.reduceLT, Int.reduceLE, Nat.reduceLT, wi, tn_nat, Nat.div_one, Nat.mul_one, h1, mulU, mulK, addU, m1, m2, m3, h2]; refine hK _ ?_; clear hK K)
              | simp only [Sv, ↓reduceIte, Nat.reduceEqDiff]
            refine he _ _ ?_
            have hqe := dig_one (dig_stop' hYe hq1 (by omega)) hq2
            have hqs : q < 18446744073709551616 := by omega
            have e1 := dig_two (N := u32 * 4294967296 + un1) (un0 := un0) hYpos
            rw [e2, ← hv, ← hpe, ← hqe] at e1
            obtain ⟨s1, s2⟩ := hsc
            rw [e1.1] at s1
            rw [e1.2] at s2
            repeat first
              | (refine hK _ ?_; clear hK K)
              | ((first | refine vm_reg (fun K hK => ?_) | refine vm_dreg (fun K hK => ?_)); simp (disch := (first | omega | assumption)) only [S1, ↓reduceIte, Nat.reduceEqDiff, Nat.reduceAdd, Nat.reduceMul, Nat.reduceDiv, AOp.sb, AOp.mut, ↓Bool.false_eq_true, beq_self_eq_true, ite_self, Nat.reduceLeDiff, Int.reduceEq, Int.reduceSub, Int.reduceAdd, Int.reduceNeg, Int.reduceLT, Int.reduceLE, Nat.reduceLT, wi, tn_nat, Nat.div_one, Nat.mul_one, mulU, addU, mulK', remM hYB hYpos hqe, shr64, s2]; refine hK _ ?_; clear hK K)
              | simp only [Sv, ↓reduceIte, Nat.reduceEqDiff]
            simp (disch := (first | omega | assumption)) only [retOk, retN, ret1, retF, ret1F, V.okArg, and_true, true_and, S1, ↓reduceIte, Nat.reduceEqDiff, Nat.reduceAdd, Nat.reduceMul, Nat.reduceDiv, AOp.sb, AOp.mut, ↓Bool.false_eq_true, beq_self_eq_true, ite_self, Nat.reduceLeDiff, Int.reduceEq, Int.reduceSub, Int.reduceAdd, Int.reduceNeg, Int.reduceLT, Int.reduceLE, Nat.reduceLT, wi, tn_nat, Nat.div_one, Nat.mul_one, i_eq]
            try omega
end Go.Proofs.Ytngohbpgdeiodaa
