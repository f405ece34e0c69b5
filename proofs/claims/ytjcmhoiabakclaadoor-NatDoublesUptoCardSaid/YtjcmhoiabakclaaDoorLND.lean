/-
  NatDoubles: the law's walk.
-/
import Derived.Test.YtjcmhoiabakclaaDoorLNF
namespace Go.Proofs.YtjcmhoiabakclaaDoor
open Go Go.RowKit Ab
set_option linter.unusedSimpArgs false
set_option linter.unusedVariables false
set_option maxHeartbeats 10000000
theorem bz_LND : type_of% (And.intro @wi (And.intro @tn_nat (And.intro @Nat.div_one (And.intro @Nat.mul_one (And.intro @W_len (And.intro @W_nf (And.intro @W_cell (And.intro @W_nil (@W_get))))))))) := And.intro @wi (And.intro @tn_nat (And.intro @Nat.div_one (And.intro @Nat.mul_one (And.intro @W_len (And.intro @W_nf (And.intro @W_cell (And.intro @W_nil (@W_get))))))))

theorem shlR_ok {v n : Nat} (h : n ≤ 1048576) : shlR v (n : Int) = (dg B (v * 2 ^ n), 0) := by unfold shlR; rw [if_neg (by omega)]; rfl
theorem shrR_ok {v n : Nat} : shrR v (n : Int) = (dg B (v / 2 ^ n), 0) := by unfold shrR; rw [if_neg (by omega)]; rfl
theorem lowR_ok {v n : Nat} : lowR v (n : Int) = dg B (v % 2 ^ n) := by unfold lowR; rw [if_neg (by omega)]; rfl
theorem sg_m {x y : Nat} (h : x < y) : sg x y = -1 := by unfold sg; rw [if_pos h]
theorem sg_n {x y : Nat} (h : ¬ x < y) : ¬ sg x y < 0 := by unfold sg; rw [if_neg h]; split <;> decide
theorem bl_mul {v n : Nat} (h : v ≠ 0) : bl (v * 2 ^ n) = bl v + n := by
  have hp := Nat.two_pow_pos n
  have := bl_div (x := v * 2 ^ n) (n := n) (by have := Nat.mul_le_mul_right (2 ^ n) (show 1 ≤ v by omega); omega)
  rw [Nat.mul_div_cancel _ hp] at this; omega
theorem nv_set0 (k x : Nat) : nv B ((List.replicate (k + 1) 0).set k x) = x * B ^ k := by
  induction k with
  | zero => show x + B * 0 = x * 1; omega
  | succ k ih =>
    rw [List.replicate_succ, List.set_cons_succ]
    show 0 + B * _ = _
    rw [ih, Nat.pow_succ, Nat.zero_add]
    generalize B ^ k = t
    generalize B = u
    rw [Nat.mul_comm u, Nat.mul_assoc]
theorem mod200 (n : Int) (h1 : -9223372036854775808 ≤ n) (h2 : n < 9223372036854775808) : ∃ m : Nat, m < 200 ∧ IntKind.i64.wrap ((IntKind.u64.wrap n).tmod 200) = (m : Int) := by
  obtain ⟨u, hu⟩ : ∃ u : Nat, IntKind.u64.wrap n = (u : Int) := ⟨(IntKind.u64.wrap n).toNat, by rw [IntKind.wrap_u64]; omega⟩
  refine ⟨u % 200, Nat.mod_lt _ (by decide), ?_⟩
  rw [hu, show ((u : Nat) : Int).tmod 200 = ((u % 200 : Nat) : Int) from rfl]
  exact wi ⟨by omega, by have := Nat.mod_lt u (show 0 < 200 by decide); omega⟩
-- surd/surdlaw02.NatDoubles
def a4 : AC := .seq (.reg [⟨some 4, none, .mv (.k (.b false))⟩])
  (.seq (.seq (.reg [⟨some 21, none, .call 5 []⟩, 
        ⟨some 22, none, .un .not (.t 21)⟩])
    (.cond (.t 22)
    (.seq (.reg [⟨some 4, none, .mv (.k (.b false))⟩])
      (.ret))
    (.skip)))
  (.seq (.reg [⟨some 23, none, .mv (.t 1)⟩, 
      ⟨some 24, none, .cvt .u64 (.t 23)⟩, 
      ⟨some 25, none, .bin .rem (.t 24) (.k (.i .u64 200))⟩, 
      ⟨some 26, none, .cvt .i64 (.t 25)⟩, 
      ⟨some 1, none, .mv (.t 26)⟩])
  (.seq (.reg [⟨some 28, none, .mv (.t 0)⟩, 
      ⟨some 29, none, .mv (.t 1)⟩, 
      ⟨some 30, none, .call 22 [(1, (.t 28)), (1, (.t 29))]⟩, 
      ⟨some 27, none, .mv (.t 30)⟩, 
      ⟨some 31, none, .ext (.t 27) 0⟩, 
      ⟨some 32, none, .ext (.t 27) 1⟩, 
      ⟨some 5, none, .mv (.t 31)⟩, 
      ⟨some 6, none, .mv (.t 32)⟩])
  (.seq (.reg [⟨some 33, none, .mv (.t 0)⟩, 
      ⟨some 34, none, .call 13 [(1, (.t 33))]⟩, 
      ⟨some 7, none, .mv (.t 34)⟩])
  (.seq (.seq (.reg [⟨some 8, none, .mv (.k (.i .i64 0))⟩])
    (.blk 0
    (.loop
      (.seq (.seq (.reg [⟨some 35, none, .mv (.t 8)⟩, 
              ⟨some 36, none, .mv (.t 1)⟩, 
              ⟨some 37, none, .bin .lss (.t 35) (.t 36)⟩])
          (.cond (.t 37)
          (.skip)
          (.exit 0)))
        (.seq (.blk 1
          (.reg [⟨some 40, none, .mv (.t 7)⟩, 
              ⟨some 41, none, .mv (.t 7)⟩, 
              ⟨some 42, none, .call 23 [(1, (.t 40)), (1, (.t 41))]⟩, 
              ⟨some 7, none, .mv (.t 42)⟩]))
        (.reg [⟨some 38, none, .mv (.t 8)⟩, 
          ⟨some 39, none, .bin .add (.t 38) (.k (.i .i64 1))⟩, 
          ⟨some 8, none, .mv (.t 39)⟩]))))))
  (.seq (.reg [⟨some 44, none, .mv (.t 5)⟩, 
      ⟨some 45, none, .mv (.t 1)⟩, 
      ⟨some 46, none, .call 24 [(1, (.t 44)), (1, (.t 45))]⟩, 
      ⟨some 43, none, .mv (.t 46)⟩, 
      ⟨some 47, none, .ext (.t 43) 0⟩, 
      ⟨some 48, none, .ext (.t 43) 1⟩, 
      ⟨some 9, none, .mv (.t 47)⟩, 
      ⟨some 10, none, .mv (.t 48)⟩])
  (.seq (.reg [⟨some 50, none, .mv (.t 0)⟩, 
      ⟨some 51, none, .mv (.t 1)⟩, 
      ⟨some 52, none, .call 25 [(1, (.t 50)), (1, (.t 51))]⟩, 
      ⟨some 49, none, .mv (.t 52)⟩, 
      ⟨some 53, none, .ext (.t 49) 0⟩, 
      ⟨some 54, none, .ext (.t 49) 1⟩, 
      ⟨some 55, none, .ext (.t 49) 2⟩, 
      ⟨some 11, none, .mv (.t 53)⟩, 
      ⟨some 12, none, .mv (.t 54)⟩, 
      ⟨some 13, none, .mv (.t 55)⟩])
  (.seq (.reg [⟨some 57, none, .mv (.t 11)⟩, 
      ⟨some 58, none, .mv (.t 1)⟩, 
      ⟨some 59, none, .call 22 [(1, (.t 57)), (1, (.t 58))]⟩, 
      ⟨some 56, none, .mv (.t 59)⟩, 
      ⟨some 60, none, .ext (.t 56) 0⟩, 
      ⟨some 61, none, .ext (.t 56) 1⟩, 
      ⟨some 14, none, .mv (.t 60)⟩, 
      ⟨some 15, none, .mv (.t 61)⟩])
  (.seq (.reg [⟨some 63, none, .bsl 24 1 1 [(.i .u64 0)] [(0, (.k (.i .u64 1)))]⟩, 
      ⟨some 64, none, .mv (.t 1)⟩, 
      ⟨some 65, none, .call 22 [(1, (.t 63)), (1, (.t 64))]⟩, 
      ⟨some 62, none, .mv (.t 65)⟩, 
      ⟨some 66, none, .ext (.t 62) 0⟩, 
      ⟨some 67, none, .ext (.t 62) 1⟩, 
      ⟨some 16, none, .mv (.t 66)⟩, 
      ⟨some 17, none, .mv (.t 67)⟩])
  (.seq (.seq (.reg [⟨some 68, none, .mv (.t 6)⟩, 
        ⟨some 69, none, .bin .neq (.t 68) (.k (.i .i64 0))⟩, 
        ⟨some 70, none, .mv (.t 69)⟩, 
        ⟨some 71, some (70, false), .mv (.t 10)⟩, 
        ⟨some 72, some (70, false), .bin .neq (.t 71) (.k (.i .i64 0))⟩, 
        ⟨some 73, none, .pick (.t 70) (.k (.b true)) (.t 72)⟩, 
        ⟨some 74, none, .mv (.t 73)⟩, 
        ⟨some 75, some (74, false), .mv (.t 13)⟩, 
        ⟨some 76, some (74, false), .bin .neq (.t 75) (.k (.i .i64 0))⟩, 
        ⟨some 77, none, .pick (.t 74) (.k (.b true)) (.t 76)⟩, 
        ⟨some 78, none, .mv (.t 77)⟩, 
        ⟨some 79, some (78, false), .mv (.t 15)⟩, 
        ⟨some 80, some (78, false), .bin .neq (.t 79) (.k (.i .i64 0))⟩, 
        ⟨some 81, none, .pick (.t 78) (.k (.b true)) (.t 80)⟩, 
        ⟨some 82, none, .mv (.t 81)⟩, 
        ⟨some 83, some (82, false), .mv (.t 17)⟩, 
        ⟨some 84, some (82, false), .bin .neq (.t 83) (.k (.i .i64 0))⟩, 
        ⟨some 85, none, .pick (.t 82) (.k (.b true)) (.t 84)⟩, 
        ⟨some 86, none, .mv (.t 85)⟩, 
        ⟨some 87, some (86, false), .mv (.t 5)⟩, 
        ⟨some 88, some (86, false), .mv (.t 7)⟩, 
        ⟨some 89, some (86, false), .call 10 [(1, (.t 87)), (1, (.t 88))]⟩, 
        ⟨some 90, some (86, false), .un .not (.t 89)⟩, 
        ⟨some 91, none, .pick (.t 86) (.k (.b true)) (.t 90)⟩, 
        ⟨some 92, none, .mv (.t 91)⟩, 
        ⟨some 93, some (92, false), .mv (.t 9)⟩, 
        ⟨some 94, some (92, false), .mv (.t 0)⟩, 
        ⟨some 95, some (92, false), .call 13 [(1, (.t 94))]⟩, 
        ⟨some 96, some (92, false), .call 10 [(1, (.t 93)), (1, (.t 95))]⟩, 
        ⟨some 97, some (92, false), .un .not (.t 96)⟩, 
        ⟨some 98, none, .pick (.t 92) (.k (.b true)) (.t 97)⟩, 
        ⟨some 99, none, .mv (.t 98)⟩, 
        ⟨some 100, some (99, false), .mv (.t 14)⟩, 
        ⟨some 101, some (99, false), .mv (.t 12)⟩, 
        ⟨some 102, some (99, false), .call 23 [(1, (.t 100)), (1, (.t 101))]⟩, 
        ⟨some 103, some (99, false), .mv (.t 0)⟩, 
        ⟨some 104, some (99, false), .call 13 [(1, (.t 103))]⟩, 
        ⟨some 105, some (99, false), .call 10 [(1, (.t 102)), (1, (.t 104))]⟩, 
        ⟨some 106, some (99, false), .un .not (.t 105)⟩, 
        ⟨some 107, none, .pick (.t 99) (.k (.b true)) (.t 106)⟩, 
        ⟨some 108, none, .mv (.t 107)⟩, 
        ⟨some 109, some (108, false), .mv (.t 12)⟩, 
        ⟨some 110, some (108, false), .mv (.t 16)⟩, 
        ⟨some 111, some (108, false), .call 26 [(1, (.t 109)), (1, (.t 110))]⟩, 
        ⟨some 112, some (108, false), .bin .geq (.t 111) (.k (.i .i64 0))⟩, 
        ⟨some 113, none, .pick (.t 108) (.k (.b true)) (.t 112)⟩])
    (.cond (.t 113)
    (.seq (.reg [⟨some 4, none, .mv (.k (.b false))⟩])
      (.ret))
    (.skip)))
  (.seq (.reg [⟨some 114, none, .mv (.t 0)⟩, 
      ⟨some 115, none, .call 16 [(1, (.t 114))]⟩, 
      ⟨some 18, none, .mv (.t 115)⟩])
  (.seq (.reg [⟨some 116, none, .mv (.t 18)⟩, 
      ⟨some 117, none, .bin .quo (.t 116) (.k (.i .i64 64))⟩, 
      ⟨some 118, none, .bin .add (.t 117) (.k (.i .i64 1))⟩, 
      ⟨some 119, none, .mk 24 1 8 [(.i .u64 0)] (.t 118) (.t 118)⟩, 
      ⟨some 19, none, .mv (.t 119)⟩])
  (.seq (.reg [⟨some 120, none, .mv (.t 19)⟩, 
      ⟨some 121, none, .mv (.t 18)⟩, 
      ⟨some 122, none, .bin .quo (.t 121) (.k (.i .i64 64))⟩, 
      ⟨some 123, none, .mv (.t 18)⟩, 
      ⟨some 124, none, .bin .rem (.t 123) (.k (.i .i64 64))⟩, 
      ⟨some 125, none, .bin .shl (.k (.i .u64 1)) (.t 124)⟩, 
      ⟨some 126, none, .idx 1 (.t 120) (.t 122)⟩, 
      ⟨none, none, .st 1 (.t 126) (.t 125)⟩])
  (.seq (.seq (.reg [⟨some 127, none, .mv (.t 0)⟩, 
        ⟨some 128, none, .mv (.t 19)⟩, 
        ⟨some 129, none, .call 26 [(1, (.t 127)), (1, (.t 128))]⟩, 
        ⟨some 130, none, .bin .geq (.t 129) (.k (.i .i64 0))⟩, 
        ⟨some 131, none, .mv (.t 130)⟩, 
        ⟨some 132, some (131, false), .mv (.t 5)⟩, 
        ⟨some 133, some (131, false), .call 16 [(1, (.t 132))]⟩, 
        ⟨some 134, some (131, false), .mv (.t 18)⟩, 
        ⟨some 135, some (131, false), .mv (.t 1)⟩, 
        ⟨some 136, some (131, false), .bin .add (.t 134) (.t 135)⟩, 
        ⟨some 137, some (131, false), .bin .neq (.t 133) (.t 136)⟩, 
        ⟨some 138, some (131, false), .mv (.t 137)⟩, 
        ⟨some 139, some (138, true), .mv (.t 18)⟩, 
        ⟨some 140, some (138, true), .bin .gtr (.t 139) (.k (.i .i64 0))⟩, 
        ⟨some 141, some (131, false), .pick (.t 138) (.t 140) (.k (.b false))⟩, 
        ⟨some 142, none, .pick (.t 131) (.k (.b true)) (.t 141)⟩])
    (.cond (.t 142)
    (.seq (.reg [⟨some 4, none, .mv (.k (.b false))⟩])
      (.ret))
    (.skip)))
  (.seq (.reg [⟨some 144, none, .mv (.t 19)⟩, 
      ⟨some 145, none, .call 24 [(1, (.t 144)), (1, (.k (.i .i64 1)))]⟩, 
      ⟨some 143, none, .mv (.t 145)⟩, 
      ⟨some 146, none, .ext (.t 143) 0⟩, 
      ⟨some 147, none, .ext (.t 143) 1⟩, 
      ⟨some 20, none, .mv (.t 146)⟩, 
      ⟨some 6, none, .mv (.t 147)⟩])
  (.seq (.seq (.reg [⟨some 148, none, .mv (.t 6)⟩, 
        ⟨some 149, none, .bin .neq (.t 148) (.k (.i .i64 0))⟩, 
        ⟨some 150, none, .mv (.t 149)⟩, 
        ⟨some 151, some (150, false), .mv (.t 18)⟩, 
        ⟨some 152, some (150, false), .bin .gtr (.t 151) (.k (.i .i64 0))⟩, 
        ⟨some 153, some (150, false), .mv (.t 152)⟩, 
        ⟨some 154, some (153, true), .mv (.t 0)⟩, 
        ⟨some 155, some (153, true), .mv (.t 20)⟩, 
        ⟨some 156, some (153, true), .call 26 [(1, (.t 154)), (1, (.t 155))]⟩, 
        ⟨some 157, some (153, true), .bin .lss (.t 156) (.k (.i .i64 0))⟩, 
        ⟨some 158, some (150, false), .pick (.t 153) (.t 157) (.k (.b false))⟩, 
        ⟨some 159, none, .pick (.t 150) (.k (.b true)) (.t 158)⟩])
    (.cond (.t 159)
    (.seq (.reg [⟨some 4, none, .mv (.k (.b false))⟩])
      (.ret))
    (.skip)))
  (.seq (.reg [⟨some 160, none, .mv (.t 18)⟩, 
      ⟨some 161, none, .bin .eql (.t 160) (.k (.i .i64 0))⟩, 
      ⟨some 162, none, .mv (.t 161)⟩, 
      ⟨some 163, some (162, false), .mv (.t 0)⟩, 
      ⟨some 164, some (162, false), .mv (.t 18)⟩, 
      ⟨some 165, some (162, false), .bin .sub (.t 164) (.k (.i .i64 1))⟩, 
      ⟨some 166, some (162, false), .call 18 [(1, (.t 163)), (1, (.t 165))]⟩, 
      ⟨some 167, some (162, false), .mv (.t 166)⟩, 
      ⟨some 168, some (167, true), .mv (.t 0)⟩, 
      ⟨some 169, some (167, true), .mv (.t 18)⟩, 
      ⟨some 170, some (167, true), .call 18 [(1, (.t 168)), (1, (.t 169))]⟩, 
      ⟨some 171, some (167, true), .un .not (.t 170)⟩, 
      ⟨some 172, some (162, false), .pick (.t 167) (.t 171) (.k (.b false))⟩, 
      ⟨some 173, some (162, false), .mv (.t 172)⟩, 
      ⟨some 174, some (173, true), .mv (.t 0)⟩, 
      ⟨some 175, some (173, true), .mv (.t 0)⟩, 
      ⟨some 176, some (173, true), .call 20 [(1, (.t 175))]⟩, 
      ⟨some 177, some (173, true), .call 18 [(1, (.t 174)), (1, (.t 176))]⟩, 
      ⟨some 178, some (162, false), .pick (.t 173) (.t 177) (.k (.b false))⟩, 
      ⟨some 179, some (162, false), .mv (.t 178)⟩, 
      ⟨some 180, some (179, true), .mv (.t 5)⟩, 
      ⟨some 181, some (179, true), .call 20 [(1, (.t 180))]⟩, 
      ⟨some 182, some (179, true), .mv (.t 0)⟩, 
      ⟨some 183, some (179, true), .call 20 [(1, (.t 182))]⟩, 
      ⟨some 184, some (179, true), .mv (.t 1)⟩, 
      ⟨some 185, some (179, true), .bin .add (.t 183) (.t 184)⟩, 
      ⟨some 186, some (179, true), .bin .eql (.t 181) (.t 185)⟩, 
      ⟨some 187, some (162, false), .pick (.t 179) (.t 186) (.k (.b false))⟩, 
      ⟨some 188, none, .pick (.t 162) (.k (.b true)) (.t 187)⟩, 
      ⟨some 4, none, .mv (.t 188)⟩])
  (.ret))))))))))))))))))
set_option maxRecDepth 100000 in
theorem natDoubles_spec (a : List Nat) (n0 : Int) (ha : Wd a) (h1 : -9223372036854775808 ≤ n0) (h2 : n0 < 9223372036854775808) (la : a.length ≤ 100000000) : AFun Tryd.prog J0 4 [.l 1 (W a), .i .i64 n0] (.b true) := by
  obtain ⟨n, hn, hw⟩ := mod200 n0 h1 h2
  have hlt := nv_lt ha
  obtain ⟨v, hv⟩ : ∃ v, v = nv B a := ⟨_, rfl⟩
  obtain ⟨L, hL⟩ : ∃ L, L = a.length + 4 := ⟨_, rfl⟩
  have hp := Nat.two_pow_pos n
  have h2n : 2 ^ n ≤ B ^ 4 := by rw [B64, ← Nat.pow_mul]; exact Nat.pow_le_pow_right (by decide) (by omega)
  have hBL : B ^ L = B ^ a.length * B ^ 4 := by rw [hL, Nat.pow_add]
  rw [← hv] at hlt
  have hvL : v * 2 ^ n < B ^ L := by
    rw [hBL]
    exact Nat.lt_of_lt_of_le (Nat.mul_lt_mul_of_pos_right hlt hp) (Nat.mul_le_mul_left _ h2n)
  have lenL : ∀ {x : Nat}, x < B ^ L → (dg B x).length ≤ 100000010 := fun h => Nat.le_trans (dlen h) (by omega)
  have hv0 : v < B ^ L := Nat.lt_of_le_of_lt (Nat.le_mul_of_pos_right v hp) hvL
  have hmod : v % 2 ^ n < 2 ^ n := Nat.mod_lt _ hp
  have h2L : 2 ^ n < B ^ L := by
    rw [hBL]
    have : 1 ≤ B ^ a.length := Nat.pow_pos (by decide)
    have h3 : 2 ^ n < B ^ 4 := by rw [B64, ← Nat.pow_mul]; exact Nat.pow_lt_pow_right (by decide) (by omega)
    exact Nat.lt_of_lt_of_le h3 (Nat.le_mul_of_pos_left _ this)
  -- the calls
  have p1 := shl_spec a (n : Int) ha (by omega)
  rw [← hv, shlR_ok (by omega)] at p1
  have p2 := (norm_dg a ha (by omega)).frozen
  rw [← hv] at p2
  have p3 := shr_spec (dg B (v * 2 ^ n)) (n : Int) (Wd_dg _) (by have := lenL hvL; omega) (by omega)
  rw [shrR_ok, nv_dgB, Nat.mul_div_cancel _ hp] at p3
  have p4 := cut_spec a (n : Int) ha (by omega) (by omega)
  rw [← hv, shrR_ok, lowR_ok] at p4
  have p5 := shl_spec (dg B (v / 2 ^ n)) (n : Int) (Wd_dg _) (by have := lenL (Nat.lt_of_le_of_lt (Nat.div_le_self v (2 ^ n)) hv0); omega)
  rw [shlR_ok (by omega), nv_dgB] at p5
  have p6 := shl_spec [1] (n : Int) (Wd1 (by decide)) (by simp)
  rw [shlR_ok (by omega), show nv B [1] = 1 from rfl, Nat.one_mul] at p6
  have q1 := same_spec (dg B (v * 2 ^ n)) (dg B (v * 2 ^ n)) (by have := lenL hvL; omega) (by have := lenL hvL; omega)
  have q2 := same_spec (dg B v) (dg B v) (by have := lenL hv0; omega) (by have := lenL hv0; omega)
  have hdl : v / 2 ^ n * 2 ^ n < B ^ L := Nat.lt_of_le_of_lt (Nat.div_mul_le_self v (2 ^ n)) hv0
  have hml : v % 2 ^ n < B ^ L := Nat.lt_trans hmod h2L
  have p7 := (add_spec (dg B (v / 2 ^ n * 2 ^ n)) (dg B (v % 2 ^ n)) (Wd_dg _) (Wd_dg _) (by have := lenL hdl; omega) (by have := lenL hml; omega)).frozen
  rw [nv_dgB, nv_dgB, Nat.mul_comm (v / 2 ^ n), Nat.div_add_mod] at p7
  rw [Nat.mul_comm (v / 2 ^ n)] at p5
  have p8 := cmp_spec (dg B (v % 2 ^ n)) (dg B (2 ^ n)) (Wd_dg _) (Wd_dg _) (by have := lenL hml; omega) (by have := lenL h2L; omega)
  rw [nv_dgB, nv_dgB, sg_m hmod] at p8
  have p9 := natBits_spec a ha (by omega)
  rw [← hv] at p9
  have hbl := bl_len ha
  rw [← hv] at hbl
  have hblt := bl_lt v
  obtain ⟨b, hb⟩ : ∃ b, b = bl v := ⟨_, rfl⟩
  rw [← hb] at p9 hbl hblt
  obtain ⟨top, htop⟩ : ∃ t, t = (List.replicate (b / 64 + 1) 0).set (b / 64) (2 ^ (b % 64)) := ⟨_, rfl⟩
  have htl : top.length = b / 64 + 1 := by rw [htop]; simp
  have h64 : 2 ^ (b % 64) < 18446744073709551616 := by
    have : b % 64 < 64 := Nat.mod_lt _ (by decide)
    exact Nat.lt_of_lt_of_le (Nat.pow_lt_pow_right (by decide) this) (by decide)
  have htw : Wd top := fun x hx => by
    rw [htop] at hx
    rcases List.mem_or_eq_of_mem_set hx with h | h
    · rw [(List.mem_replicate.1 h).2]; decide
    · rw [h]; exact h64
  have htv : nv B top = 2 ^ b := by rw [htop, nv_set0, pow_split b, Nat.mul_comm]
  have p10 := cmp_spec a top ha htw (by omega) (by omega)
  rw [← hv, htv, sg_m hblt] at p10
  have p11 := natBits_spec (dg B (v * 2 ^ n)) (Wd_dg _) (by have := lenL hvL; omega)
  rw [nv_dgB] at p11
  have p12 := shr_spec top ((1 : Nat) : Int) htw (by omega) (by decide)
  rw [shrR_ok, htv, Nat.pow_one] at p12
  have p13 := cmp_spec a (dg B (2 ^ b / 2)) ha (Wd_dg _) (by omega) (by
    have h3 : 2 ^ b / 2 < B ^ (b / 64 + 1) := by
      have := nv_lt htw
      rw [htl, htv] at this
      omega
    have := dlen h3; omega)
  rw [← hv, nv_dgB] at p13
  have p14 := natBit_spec a ((b : Int) - 1) ha (by omega)
  have p15 := natBit_spec a (b : Int) ha (by omega)
  have p16 := twos_spec a ha (by omega)
  have p17 := natBit_spec a ((ct v : Nat) : Int) ha
  have p18 := twos_spec (dg B (v * 2 ^ n)) (Wd_dg _) (by have := lenL hvL; omega)
  rw [nv_dgB] at p18
  rw [← hv] at p14 p15 p16 p17
  -- what is asked of the bits
  have c0 : v = 0 → b = 0 := fun h => by rw [hb, h]; rfl
  have c1 : v ≠ 0 → 0 < b ∧ bl (v * 2 ^ n) = b + n ∧ 2 ^ b / 2 ≤ v ∧ bitV v ((b : Int) - 1) = 1 ∧ bitV v (b : Int) = 0 ∧ ct v < 100000000000 ∧ bitV v ((ct v : Nat) : Int) = 1 ∧ ct (v * 2 ^ n) = ct v + n := fun h => by
    obtain ⟨k1, k2⟩ := bl_le h
    rw [← hb] at k1 k2
    obtain ⟨b', rfl⟩ : ∃ b', b = b' + 1 := ⟨b - 1, by omega⟩
    rw [Nat.add_sub_cancel] at k1
    have hbp := Nat.two_pow_pos b'
    have h3 : v / 2 ^ b' = 1 := by
      apply Nat.div_eq_of_lt_le
      · omega
      · rw [Nat.pow_succ] at hblt; omega
    have hct : ct v < 64 * (a.length + 4) := ct_lt (by rw [Nat.pow_mul]; rw [hL] at hv0; exact hv0) h
    refine ⟨by omega, by rw [bl_mul h, ← hb], by rw [Nat.pow_succ]; omega, ?_, ?_, by omega, ?_, ?_⟩
    · rw [show (((b' + 1 : Nat) : Int) - 1) = ((b' : Nat) : Int) from by omega, bitV_n, h3]
    · rw [bitV_n, Nat.div_eq_of_lt hblt]
    · rw [bitV_n]; exact (ct_bit h).1
    · rw [Nat.mul_comm, ct_shift h, Nat.add_comm]
  have wb : IntKind.i64.wrap (((b / 64 : Nat) : Int) + 1) = ((b / 64 + 1 : Nat) : Int) := by rw [wi (by omega)]; omega
  have sh1 := shl1 (b % 64) (Nat.mod_lt _ (by decide))
  refine AFun.mk fol J0s Tryd.func4 rfl (ac := a4) (by kernel_rfl) rfl rfl ?_
  apply vm_start
  unfold a4
  simp only [init_eq, initE]
  have zc1 := nknown_spec
  have zc2 := p1
  have zc3 := p2
  repeat first | (refine hK _ ?_; clear hK K) | simp only [Sv, ↓reduceIte, Nat.reduceEqDiff] | ((first | refine vm_reg (fun K hK => ?_) | refine vm_dreg (fun K hK => ?_) | refine vm_dregx (fun K hK => ?_) | refine clp_q ?_ | refine clq_mk (by assumption) ?_); simp (disch := (first | omega | assumption)) only [S1, ↓reduceIte, Nat.reduceEqDiff, Nat.reduceAdd, Nat.reduceMul, Nat.reduceDiv, AOp.sb, AOp.mut, ↓Bool.false_eq_true, beq_self_eq_true, ite_self, Nat.reduceLeDiff, Int.reduceEq, Int.reduceSub, Int.reduceAdd, Int.reduceNeg, Int.reduceLT, Int.reduceLE, Nat.reduceLT, bz_LND, List.length_nil, List.length_cons, hw])
  refine vm_loopA [] Nat (fun i => ⟨[(0, .l 1 (W a)), (1, .i .i64 (n : Int)), (5, .l 1 (W (dg B (v * 2 ^ n)))), (6, .i .i64 0), (7, .l 1 (W (dg B (v * 2 ^ i)))), (8, .i .i64 (i : Int))], [], 0⟩) (fun i => i ≤ n) (fun i => n - i) 0 (Nat.zero_le _) (by simp (disch := (first | omega | assumption)) only [Sl, Sa, Sw, ↓reduceIte, Nat.reduceEqDiff, Nat.reduceLT, List.all_nil, List.all_cons, Nat.reduceBneDiff, Nat.reduceAdd, bne_iff_ne, ne_eq, reduceCtorEq, not_false_eq_true, not_true_eq_false, Bool.and_true, Bool.true_and, and_true, true_and, and_self]) (by
    simp (disch := (first | omega | assumption)) only [Sl, Sa, Sw, ↓reduceIte, Nat.reduceEqDiff, Nat.reduceLT, List.all_nil, List.all_cons, Nat.reduceBneDiff, Nat.reduceAdd, bne_iff_ne, ne_eq, reduceCtorEq, not_false_eq_true, not_true_eq_false, Bool.and_true, Bool.true_and, and_true, true_and, and_self, i_eq, Nat.pow_zero, Nat.mul_one]
    try rfl) ?_
  intro i hi Q' hQ he hrr
  by_cases h : (i : Int) < (n : Int)
  · have hvi : v * 2 ^ i < B ^ L := Nat.lt_of_le_of_lt (Nat.mul_le_mul_left _ (Nat.pow_le_pow_right (by decide) hi)) hvL
    have hli := lenL hvi
    have pa := (add_spec (dg B (v * 2 ^ i)) (dg B (v * 2 ^ i)) (Wd_dg _) (Wd_dg _) (by omega) (by omega)).frozen
    rw [nv_dgB, show v * 2 ^ i + v * 2 ^ i = v * 2 ^ (i + 1) from by rw [Nat.pow_succ, ← Nat.mul_assoc]; omega] at pa
    repeat first
      | (refine hK _ ?_; clear hK K)
      | ((first | refine vm_reg (fun K hK => ?_) | refine vm_dreg (fun K hK => ?_) | refine vm_dregx (fun K hK => ?_)); simp (disch := (first | omega | assumption)) only [S1, ↓reduceIte, Nat.reduceEqDiff, Nat.reduceAdd, Nat.reduceMul, Nat.reduceDiv, AOp.sb, AOp.mut, ↓Bool.false_eq_true, beq_self_eq_true, ite_self, Nat.reduceLeDiff, Int.reduceEq, Int.reduceSub, Int.reduceAdd, Int.reduceNeg, Int.reduceLT, Int.reduceLE, Nat.reduceLT, bz_LND, List.length_nil, List.length_cons, h]; refine hK _ ?_; clear hK K)
      | simp only [Sv, ↓reduceIte, Nat.reduceEqDiff]
    have zc4 := pa
    repeat first | (refine hK _ ?_; clear hK K) | simp only [Sv, ↓reduceIte, Nat.reduceEqDiff] | ((first | refine vm_reg (fun K hK => ?_) | refine vm_dreg (fun K hK => ?_) | refine vm_dregx (fun K hK => ?_) | refine clp_q ?_ | refine clq_mk (by assumption) ?_); simp (disch := (first | omega | assumption)) only [S1, ↓reduceIte, Nat.reduceEqDiff, Nat.reduceAdd, Nat.reduceMul, Nat.reduceDiv, AOp.sb, AOp.mut, ↓Bool.false_eq_true, beq_self_eq_true, ite_self, Nat.reduceLeDiff, Int.reduceEq, Int.reduceSub, Int.reduceAdd, Int.reduceNeg, Int.reduceLT, Int.reduceLE, Nat.reduceLT, bz_LND, List.length_nil, List.length_cons, h])
    refine hQ _ (i + 1) (by omega) (by omega) ?_
    simp (disch := (first | omega | assumption)) only [Sl, Sa, Sw, ↓reduceIte, Nat.reduceEqDiff, Nat.reduceLT, List.all_nil, List.all_cons, Nat.reduceBneDiff, Nat.reduceAdd, bne_iff_ne, ne_eq, reduceCtorEq, not_false_eq_true, not_true_eq_false, Bool.and_true, Bool.true_and, and_true, true_and, and_self, i_eq]
    omega
  · obtain rfl : n = i := by omega
    repeat first
      | (refine hK _ ?_; clear hK K)
      | ((first | refine vm_reg (fun K hK => ?_) | refine vm_dreg (fun K hK => ?_) | refine vm_dregx (fun K hK => ?_)); simp (disch := (first | omega | assumption)) only [S1, ↓reduceIte, Nat.reduceEqDiff, Nat.reduceAdd, Nat.reduceMul, Nat.reduceDiv, AOp.sb, AOp.mut, ↓Bool.false_eq_true, beq_self_eq_true, ite_self, Nat.reduceLeDiff, Int.reduceEq, Int.reduceSub, Int.reduceAdd, Int.reduceNeg, Int.reduceLT, Int.reduceLE, Nat.reduceLT, bz_LND, List.length_nil, List.length_cons, h]; refine hK _ ?_; clear hK K)
      | simp only [Sv, ↓reduceIte, Nat.reduceEqDiff]
    refine he _ _ ?_
    by_cases hz : v = 0
    · have hb0 := c0 hz
      have hb1 : ¬ (0 : Int) < (b : Int) := by omega
      have hb2 : (((b : Nat) : Int) = 0) = True := eq_true (by omega)
      generalize bl (v * 2 ^ n) = x at *
      rcases Decidable.em ((x : Int) = (b : Int) + (n : Int)) with hq | hq
      all_goals
        have zc5 := p3
        have zc6 := p4
        have zc7 := p5
        have zc8 := p6
        have zc9 := q1
        have zc10 := q2
        have zc11 := p7
        have zc12 := p8
        have zc13 := p9
        have zc14 := p10
        have zc15 := p11
        have zc16 := p12
        repeat first | (refine hK _ ?_; clear hK K) | simp only [Sv, ↓reduceIte, Nat.reduceEqDiff] | ((first | refine vm_reg (fun K hK => ?_) | refine vm_dreg (fun K hK => ?_) | refine vm_dregx (fun K hK => ?_) | refine clp_q ?_ | refine clq_mk (by assumption) ?_); simp (disch := (first | omega | assumption)) only [S1, ↓reduceIte, Nat.reduceEqDiff, Nat.reduceAdd, Nat.reduceMul, Nat.reduceDiv, AOp.sb, AOp.mut, ↓Bool.false_eq_true, beq_self_eq_true, ite_self, Nat.reduceLeDiff, Int.reduceEq, Int.reduceSub, Int.reduceAdd, Int.reduceNeg, Int.reduceLT, Int.reduceLE, Nat.reduceLT, bz_LND, List.length_nil, List.length_cons, W1, tdiv_64, tmod_64, wb, sh1, mk_W, W_set, ← htop, tn_nat, List.length_replicate, hb1, hb2, hq])
        simp (disch := (first | omega | assumption)) only [retOk, retN, ret1, retF, ret1F, V.okArg, and_true, true_and, S1, ↓reduceIte, Nat.reduceEqDiff, Nat.reduceAdd, Nat.reduceMul, Nat.reduceDiv, AOp.sb, AOp.mut, ↓Bool.false_eq_true, beq_self_eq_true, ite_self, Nat.reduceLeDiff, Int.reduceEq, Int.reduceSub, Int.reduceAdd, Int.reduceNeg, Int.reduceLT, Int.reduceLE, Nat.reduceLT, bz_LND, List.length_nil, List.length_cons, W1, tdiv_64, tmod_64, wb, sh1, mk_W, W_set, ← htop, tn_nat, List.length_replicate, hb1, hb2, hq]
    · obtain ⟨d1, d2, d3, d4, d5, d6, d7, d8⟩ := c1 hz
      rw [d2] at p11
      rw [d4] at p14
      rw [d5] at p15
      rw [d7] at p17
      rw [d8] at p18
      have p17 := p17 (by omega)
      have s13 := sg_n (show ¬ v < 2 ^ b / 2 by omega)
      have hb0 : (0 : Int) < (b : Int) := by omega
      have hb1 : ¬ ((b : Int) = 0) := by omega
      have wbn : IntKind.i64.wrap ((b : Int) + (n : Int)) = ((b + n : Nat) : Int) := by rw [wi (by omega)]; omega
      have wb1 : IntKind.i64.wrap ((b : Int) - 1) = (b : Int) - 1 := wi (by omega)
      have wcn : IntKind.i64.wrap (((ct v : Nat) : Int) + (n : Int)) = ((ct v + n : Nat) : Int) := by rw [wi (by omega)]; omega
      generalize sg v (2 ^ b / 2) = s at *
      have zc17 := p3
      have zc18 := p4
      have zc19 := p5
      have zc20 := p6
      have zc21 := q1
      have zc22 := q2
      have zc23 := p7
      have zc24 := p8
      have zc25 := p9
      have zc26 := p10
      have zc27 := p11
      have zc28 := p12
      have zc29 := p13
      have zc30 := p14
      have zc31 := p15
      have zc32 := p16
      have zc33 := p17
      have zc34 := p18
      repeat first | (refine hK _ ?_; clear hK K) | simp only [Sv, ↓reduceIte, Nat.reduceEqDiff] | ((first | refine vm_reg (fun K hK => ?_) | refine vm_dreg (fun K hK => ?_) | refine vm_dregx (fun K hK => ?_) | refine clp_q ?_ | refine clq_mk (by assumption) ?_); simp (disch := (first | omega | assumption)) only [S1, ↓reduceIte, Nat.reduceEqDiff, Nat.reduceAdd, Nat.reduceMul, Nat.reduceDiv, AOp.sb, AOp.mut, ↓Bool.false_eq_true, beq_self_eq_true, ite_self, Nat.reduceLeDiff, Int.reduceEq, Int.reduceSub, Int.reduceAdd, Int.reduceNeg, Int.reduceLT, Int.reduceLE, Nat.reduceLT, bz_LND, List.length_nil, List.length_cons, W1, tdiv_64, tmod_64, wb, sh1, mk_W, W_set, ← htop, tn_nat, hb0, hb1, wbn, wb1, wcn, s13, List.length_replicate])
      simp (disch := (first | omega | assumption)) only [retOk, retN, ret1, retF, ret1F, V.okArg, and_true, true_and, S1, ↓reduceIte, Nat.reduceEqDiff, Nat.reduceAdd, Nat.reduceMul, Nat.reduceDiv, AOp.sb, AOp.mut, ↓Bool.false_eq_true, beq_self_eq_true, ite_self, Nat.reduceLeDiff, Int.reduceEq, Int.reduceSub, Int.reduceAdd, Int.reduceNeg, Int.reduceLT, Int.reduceLE, Nat.reduceLT, bz_LND, List.length_nil, List.length_cons, W1, tdiv_64, tmod_64, wb, sh1, mk_W, W_set, ← htop, tn_nat, hb0, hb1, wbn, wb1, wcn, s13, List.length_replicate]
end Go.Proofs.YtjcmhoiabakclaaDoor
