/-
  GaussRing: the law's walk.
-/
import Derived.Test.YtfkldohgiifgbaaLGKn
namespace Go.Proofs.Ytfkldohgiifgbaa
open Go Go.RowKit Ab
set_option linter.unusedSimpArgs false
set_option linter.unusedVariables false
set_option maxHeartbeats 10000000
theorem bz_LGRing : type_of% (And.intro @W_len (And.intro @D_len (And.intro @Nat.div_one (And.intro @Nat.mul_one (And.intro @tn_nat (And.intro @W_nf (And.intro @D_nf (And.intro @W_nil (And.intro @D_nil (And.intro @wi (And.intro @nf_g (And.intro @Bool.false_and (And.intro @W_cell (And.intro @ZC_cell (And.intro @ZC_nil (@eq_self)))))))))))))))) := And.intro @W_len (And.intro @D_len (And.intro @Nat.div_one (And.intro @Nat.mul_one (And.intro @tn_nat (And.intro @W_nf (And.intro @D_nf (And.intro @W_nil (And.intro @D_nil (And.intro @wi (And.intro @nf_g (And.intro @Bool.false_and (And.intro @W_cell (And.intro @ZC_cell (And.intro @ZC_nil (@eq_self)))))))))))))))

theorem gaddO {x y z : GZ} (h : gsz x + gsz y < SM) (e : gadd x y = z) : AFun Try.prog J0 37 [.g [.i .i64 x.1, .i .i64 x.2], .g [.i .i64 y.1, .i .i64 y.2]] (.t [.g [.i .i64 z.1, .i .i64 z.2], .i .i64 0]) := by
  have := gaddS x y
  rwa [show aF x y = z from (if_pos h).trans e, show aE x y = 0 from if_pos h] at this
theorem gmulO {x y z : GZ} {a b : Nat} (hx : gsz x ≤ a) (hy : gsz y ≤ b) (ha : a < SM) (hb : b < SM) (h : a * b < SM) (e : gmul x y = z) : AFun Try.prog J0 39 [.g [.i .i64 x.1, .i .i64 x.2], .g [.i .i64 y.1, .i .i64 y.2]] (.t [.g [.i .i64 z.1, .i .i64 z.2], .i .i64 0]) := by
  have ok : mOk x y := ⟨by omega, by omega, Nat.lt_of_le_of_lt (Nat.mul_le_mul hx hy) h⟩
  have := gmulS x y
  rwa [show mF x y = z from (if_pos ok).trans e, show mE x y = 0 from if_pos ok] at this
theorem gnormO {x : GZ} {n : Int} {a : Nat} (hx : gsz x ≤ a) (h : a * a < SM) (e : x.1 * x.1 + x.2 * x.2 = n) : AFun Try.prog J0 43 [.g [.i .i64 x.1, .i .i64 x.2]] (.t [.i .i64 n, .i .i64 0]) := by
  have ok : gsz x * gsz x < SM := Nat.lt_of_le_of_lt (Nat.mul_le_mul hx hx) h
  have := gnormS x
  rwa [show nF x = n from (if_pos ok).trans e, show nE x = 0 from if_pos ok] at this
theorem gconjO {x z : GZ} (h : gsz x < SM) (e : gconj x = z) : AFun Try.prog J0 41 [.g [.i .i64 x.1, .i .i64 x.2]] (.t [.g [.i .i64 z.1, .i .i64 z.2], .i .i64 0]) := by
  have := gconjS x
  rwa [show cF x = z from (if_pos h).trans e, show szE x = 0 from if_pos h] at this
theorem gpowO {x z : GZ} {n : Nat} (h1 : gsz x < SM) (hn : n < 100) (h : gsz x ^ n < SM) (e : gpow x n = z) : AFun Try.prog J0 45 [.g [.i .i64 x.1, .i .i64 x.2], .i .i64 (n : Int)] (.t [.g [.i .i64 z.1, .i .i64 z.2], .i .i64 0]) := by
  have e0 : pE x (n : Int) = 0 := by unfold pE; rw [if_neg (by omega), if_pos h1]; exact if_pos h
  have := gpowS x (n : Int) ⟨by omega, by omega⟩
  rwa [show pF x (n : Int) = z from (if_pos e0).trans e, e0] at this
theorem tmod_lt (a : Int) (k : Nat) (hk : 0 < k) : (a.tmod k).natAbs < k := by
  rw [Int.natAbs_tmod, Int.natAbs_natCast]; exact Nat.mod_lt _ hk
theorem few_sz (z : GZ) (k : Nat) (hk : 0 < k) : gsz (z.1.tmod k, z.2.tmod k) ≤ 2 * (k - 1) := by
  have h1 := tmod_lt z.1 k hk
  have h2 := tmod_lt z.2 k hk
  unfold gsz; simp only []; omega
theorem norm_mul (a b c d : Int) : (a * c - b * d) * (a * c - b * d) + (a * d + b * c) * (a * d + b * c) = (a * a + b * b) * (c * c + d * d) := by
  simp only [Int.sub_mul, Int.mul_sub, Int.add_mul, Int.mul_add]
  have e1 : a * c * (a * c) = a * a * (c * c) := by simp only [Int.mul_assoc, Int.mul_left_comm, Int.mul_comm]
  have e2 : b * d * (b * d) = b * b * (d * d) := by simp only [Int.mul_assoc, Int.mul_left_comm, Int.mul_comm]
  have e3 : a * d * (a * d) = a * a * (d * d) := by simp only [Int.mul_assoc, Int.mul_left_comm, Int.mul_comm]
  have e4 : b * c * (b * c) = b * b * (c * c) := by simp only [Int.mul_assoc, Int.mul_left_comm, Int.mul_comm]
  have e5 : a * c * (b * d) = a * d * (b * c) := by simp only [Int.mul_assoc, Int.mul_left_comm, Int.mul_comm]
  have e6 : b * d * (a * c) = a * d * (b * c) := by simp only [Int.mul_assoc, Int.mul_left_comm, Int.mul_comm]
  have e7 : b * c * (a * d) = a * d * (b * c) := by simp only [Int.mul_assoc, Int.mul_left_comm, Int.mul_comm]
  rw [e1, e2, e3, e4, e5, e6, e7]; omega
theorem norm_le (x : GZ) : (x.1 * x.1 + x.2 * x.2).natAbs ≤ gsz x * gsz x := by
  have h := gsz_prod x.1 x.2 x.1 x.2
  unfold gsz; rw [← h]; omega
theorem gconj_add (x y : GZ) : gadd (gconj x) (gconj y) = gconj (gadd x y) := by unfold gadd gconj; simp only [Prod.mk.injEq, true_and]; omega
theorem gconj_mul (x y : GZ) : gmul (gconj x) (gconj y) = gconj (gmul x y) := by unfold gmul gconj; simp only [Prod.mk.injEq, Int.neg_mul, Int.mul_neg]; omega
theorem gmul_conj (x : GZ) : gmul x (gconj x) = (x.1 * x.1 + x.2 * x.2, 0) := by
  unfold gmul gconj
  simp only [Prod.mk.injEq, Int.mul_neg]
  rw [Int.mul_comm x.2 x.1]
  constructor <;> omega
theorem gconj_sz (x : GZ) : gsz (gconj x) = gsz x := by unfold gsz gconj; simp
-- surd/surdlaw23.GaussRing
def a10 : AC := .seq (.reg [⟨some 3, none, .bx 27 (.t 0)⟩, 
      ⟨some 4, none, .bx 27 (.t 1)⟩, 
      ⟨some 5, none, .bx 27 (.t 2)⟩, 
      ⟨some 6, none, .mv (.k (.b false))⟩])
  (.seq (.seq (.reg [⟨some 43, none, .call 12 []⟩, 
        ⟨some 44, none, .un .not (.t 43)⟩])
    (.cond (.t 44)
    (.seq (.reg [⟨some 6, none, .mv (.k (.b false))⟩])
      (.ret))
    (.skip)))
  (.seq (.dreg [⟨some 45, none, .ld true 2 (.t 3)⟩, 
      ⟨some 46, none, .call 29 [(1, (.t 45)), (1, (.k (.i .i64 1000)))]⟩, 
      ⟨some 47, none, .ld true 2 (.t 4)⟩, 
      ⟨some 48, none, .call 29 [(1, (.t 47)), (1, (.k (.i .i64 1000)))]⟩, 
      ⟨some 49, none, .ld true 2 (.t 5)⟩, 
      ⟨some 50, none, .call 29 [(1, (.t 49)), (1, (.k (.i .i64 1000)))]⟩, 
      ⟨some 7, none, .al 31 [(.i .i64 0), (.i .i64 0)]⟩, 
      ⟨some 8, none, .al 31 [(.i .i64 0), (.i .i64 0)]⟩, 
      ⟨some 9, none, .al 31 [(.i .i64 0), (.i .i64 0)]⟩, 
      ⟨none, none, .st 2 (.t 7) (.t 46)⟩, 
      ⟨none, none, .st 2 (.t 8) (.t 48)⟩, 
      ⟨none, none, .st 2 (.t 9) (.t 50)⟩])
  (.seq (.reg [⟨some 52, none, .ld true 2 (.t 7)⟩, 
      ⟨some 53, none, .ld true 2 (.t 8)⟩, 
      ⟨some 54, none, .call 37 [(1, (.t 52)), (1, (.t 53))]⟩, 
      ⟨some 51, none, .mv (.t 54)⟩, 
      ⟨some 55, none, .ext (.t 51) 0⟩, 
      ⟨some 56, none, .ext (.t 51) 1⟩, 
      ⟨some 10, none, .al 31 [(.i .i64 0), (.i .i64 0)]⟩, 
      ⟨none, none, .st 2 (.t 10) (.t 55)⟩, 
      ⟨some 11, none, .mv (.t 56)⟩])
  (.seq (.reg [⟨some 58, none, .ld true 2 (.t 7)⟩, 
      ⟨some 59, none, .ld true 2 (.t 8)⟩, 
      ⟨some 60, none, .call 39 [(1, (.t 58)), (1, (.t 59))]⟩, 
      ⟨some 57, none, .mv (.t 60)⟩, 
      ⟨some 61, none, .ext (.t 57) 0⟩, 
      ⟨some 62, none, .ext (.t 57) 1⟩, 
      ⟨some 12, none, .al 31 [(.i .i64 0), (.i .i64 0)]⟩, 
      ⟨none, none, .st 2 (.t 12) (.t 61)⟩, 
      ⟨some 13, none, .mv (.t 62)⟩])
  (.seq (.reg [⟨some 64, none, .ld true 2 (.t 8)⟩, 
      ⟨some 65, none, .ld true 2 (.t 7)⟩, 
      ⟨some 66, none, .call 39 [(1, (.t 64)), (1, (.t 65))]⟩, 
      ⟨some 63, none, .mv (.t 66)⟩, 
      ⟨some 67, none, .ext (.t 63) 0⟩, 
      ⟨some 68, none, .ext (.t 63) 1⟩, 
      ⟨some 14, none, .al 31 [(.i .i64 0), (.i .i64 0)]⟩, 
      ⟨none, none, .st 2 (.t 14) (.t 67)⟩, 
      ⟨some 15, none, .mv (.t 68)⟩])
  (.seq (.reg [⟨some 70, none, .ld true 2 (.t 10)⟩, 
      ⟨some 71, none, .ld true 2 (.t 9)⟩, 
      ⟨some 72, none, .call 39 [(1, (.t 70)), (1, (.t 71))]⟩, 
      ⟨some 69, none, .mv (.t 72)⟩, 
      ⟨some 73, none, .ext (.t 69) 0⟩, 
      ⟨some 74, none, .ext (.t 69) 1⟩, 
      ⟨some 16, none, .al 31 [(.i .i64 0), (.i .i64 0)]⟩, 
      ⟨none, none, .st 2 (.t 16) (.t 73)⟩, 
      ⟨some 17, none, .mv (.t 74)⟩])
  (.seq (.reg [⟨some 76, none, .ld true 2 (.t 7)⟩, 
      ⟨some 77, none, .ld true 2 (.t 9)⟩, 
      ⟨some 78, none, .call 39 [(1, (.t 76)), (1, (.t 77))]⟩, 
      ⟨some 75, none, .mv (.t 78)⟩, 
      ⟨some 79, none, .ext (.t 75) 0⟩, 
      ⟨some 80, none, .ext (.t 75) 1⟩, 
      ⟨some 18, none, .al 31 [(.i .i64 0), (.i .i64 0)]⟩, 
      ⟨none, none, .st 2 (.t 18) (.t 79)⟩, 
      ⟨some 19, none, .mv (.t 80)⟩])
  (.seq (.reg [⟨some 82, none, .ld true 2 (.t 8)⟩, 
      ⟨some 83, none, .ld true 2 (.t 9)⟩, 
      ⟨some 84, none, .call 39 [(1, (.t 82)), (1, (.t 83))]⟩, 
      ⟨some 81, none, .mv (.t 84)⟩, 
      ⟨some 85, none, .ext (.t 81) 0⟩, 
      ⟨some 86, none, .ext (.t 81) 1⟩, 
      ⟨some 20, none, .al 31 [(.i .i64 0), (.i .i64 0)]⟩, 
      ⟨none, none, .st 2 (.t 20) (.t 85)⟩, 
      ⟨some 21, none, .mv (.t 86)⟩])
  (.seq (.reg [⟨some 88, none, .ld true 2 (.t 18)⟩, 
      ⟨some 89, none, .ld true 2 (.t 20)⟩, 
      ⟨some 90, none, .call 37 [(1, (.t 88)), (1, (.t 89))]⟩, 
      ⟨some 87, none, .mv (.t 90)⟩, 
      ⟨some 91, none, .ext (.t 87) 0⟩, 
      ⟨some 92, none, .ext (.t 87) 1⟩, 
      ⟨some 22, none, .al 31 [(.i .i64 0), (.i .i64 0)]⟩, 
      ⟨none, none, .st 2 (.t 22) (.t 91)⟩, 
      ⟨some 23, none, .mv (.t 92)⟩])
  (.seq (.reg [⟨some 94, none, .ld true 2 (.t 12)⟩, 
      ⟨some 95, none, .ld true 2 (.t 9)⟩, 
      ⟨some 96, none, .call 39 [(1, (.t 94)), (1, (.t 95))]⟩, 
      ⟨some 93, none, .mv (.t 96)⟩, 
      ⟨some 97, none, .ext (.t 93) 0⟩, 
      ⟨some 98, none, .ext (.t 93) 1⟩, 
      ⟨some 24, none, .al 31 [(.i .i64 0), (.i .i64 0)]⟩, 
      ⟨none, none, .st 2 (.t 24) (.t 97)⟩, 
      ⟨some 25, none, .mv (.t 98)⟩])
  (.seq (.reg [⟨some 100, none, .ld true 2 (.t 7)⟩, 
      ⟨some 101, none, .ld true 2 (.t 20)⟩, 
      ⟨some 102, none, .call 39 [(1, (.t 100)), (1, (.t 101))]⟩, 
      ⟨some 99, none, .mv (.t 102)⟩, 
      ⟨some 103, none, .ext (.t 99) 0⟩, 
      ⟨some 104, none, .ext (.t 99) 1⟩, 
      ⟨some 26, none, .al 31 [(.i .i64 0), (.i .i64 0)]⟩, 
      ⟨none, none, .st 2 (.t 26) (.t 103)⟩, 
      ⟨some 27, none, .mv (.t 104)⟩])
  (.seq (.seq (.reg [⟨some 105, none, .mv (.t 11)⟩, 
        ⟨some 106, none, .bin .neq (.t 105) (.k (.i .i64 0))⟩, 
        ⟨some 107, none, .mv (.t 106)⟩, 
        ⟨some 108, some (107, false), .mv (.t 13)⟩, 
        ⟨some 109, some (107, false), .bin .neq (.t 108) (.k (.i .i64 0))⟩, 
        ⟨some 110, none, .pick (.t 107) (.k (.b true)) (.t 109)⟩, 
        ⟨some 111, none, .mv (.t 110)⟩, 
        ⟨some 112, some (111, false), .mv (.t 15)⟩, 
        ⟨some 113, some (111, false), .bin .neq (.t 112) (.k (.i .i64 0))⟩, 
        ⟨some 114, none, .pick (.t 111) (.k (.b true)) (.t 113)⟩, 
        ⟨some 115, none, .mv (.t 114)⟩, 
        ⟨some 116, some (115, false), .mv (.t 17)⟩, 
        ⟨some 117, some (115, false), .bin .neq (.t 116) (.k (.i .i64 0))⟩, 
        ⟨some 118, none, .pick (.t 115) (.k (.b true)) (.t 117)⟩, 
        ⟨some 119, none, .mv (.t 118)⟩, 
        ⟨some 120, some (119, false), .mv (.t 19)⟩, 
        ⟨some 121, some (119, false), .bin .neq (.t 120) (.k (.i .i64 0))⟩, 
        ⟨some 122, none, .pick (.t 119) (.k (.b true)) (.t 121)⟩, 
        ⟨some 123, none, .mv (.t 122)⟩, 
        ⟨some 124, some (123, false), .mv (.t 21)⟩, 
        ⟨some 125, some (123, false), .bin .neq (.t 124) (.k (.i .i64 0))⟩, 
        ⟨some 126, none, .pick (.t 123) (.k (.b true)) (.t 125)⟩, 
        ⟨some 127, none, .mv (.t 126)⟩, 
        ⟨some 128, some (127, false), .mv (.t 23)⟩, 
        ⟨some 129, some (127, false), .bin .neq (.t 128) (.k (.i .i64 0))⟩, 
        ⟨some 130, none, .pick (.t 127) (.k (.b true)) (.t 129)⟩, 
        ⟨some 131, none, .mv (.t 130)⟩, 
        ⟨some 132, some (131, false), .mv (.t 25)⟩, 
        ⟨some 133, some (131, false), .bin .neq (.t 132) (.k (.i .i64 0))⟩, 
        ⟨some 134, none, .pick (.t 131) (.k (.b true)) (.t 133)⟩, 
        ⟨some 135, none, .mv (.t 134)⟩, 
        ⟨some 136, some (135, false), .mv (.t 27)⟩, 
        ⟨some 137, some (135, false), .bin .neq (.t 136) (.k (.i .i64 0))⟩, 
        ⟨some 138, none, .pick (.t 135) (.k (.b true)) (.t 137)⟩, 
        ⟨some 139, none, .mv (.t 138)⟩, 
        ⟨some 140, some (139, false), .ld true 2 (.t 12)⟩, 
        ⟨some 141, some (139, false), .ld true 2 (.t 14)⟩, 
        ⟨some 142, some (139, false), .pur (.eqs true [1, 1]) [(.t 140), (.t 141)]⟩, 
        ⟨some 143, none, .pick (.t 139) (.k (.b true)) (.t 142)⟩, 
        ⟨some 144, none, .mv (.t 143)⟩, 
        ⟨some 145, some (144, false), .ld true 2 (.t 16)⟩, 
        ⟨some 146, some (144, false), .ld true 2 (.t 22)⟩, 
        ⟨some 147, some (144, false), .pur (.eqs true [1, 1]) [(.t 145), (.t 146)]⟩, 
        ⟨some 148, none, .pick (.t 144) (.k (.b true)) (.t 147)⟩, 
        ⟨some 149, none, .mv (.t 148)⟩, 
        ⟨some 150, some (149, false), .ld true 2 (.t 24)⟩, 
        ⟨some 151, some (149, false), .ld true 2 (.t 26)⟩, 
        ⟨some 152, some (149, false), .pur (.eqs true [1, 1]) [(.t 150), (.t 151)]⟩, 
        ⟨some 153, none, .pick (.t 149) (.k (.b true)) (.t 152)⟩])
    (.cond (.t 153)
    (.seq (.reg [⟨some 6, none, .mv (.k (.b false))⟩])
      (.ret))
    (.skip)))
  (.seq (.reg [⟨some 155, none, .ld true 2 (.t 7)⟩, 
      ⟨some 156, none, .call 43 [(1, (.t 155))]⟩, 
      ⟨some 154, none, .mv (.t 156)⟩, 
      ⟨some 157, none, .ext (.t 154) 0⟩, 
      ⟨some 158, none, .ext (.t 154) 1⟩, 
      ⟨some 28, none, .mv (.t 157)⟩, 
      ⟨some 11, none, .mv (.t 158)⟩])
  (.seq (.reg [⟨some 160, none, .ld true 2 (.t 8)⟩, 
      ⟨some 161, none, .call 43 [(1, (.t 160))]⟩, 
      ⟨some 159, none, .mv (.t 161)⟩, 
      ⟨some 162, none, .ext (.t 159) 0⟩, 
      ⟨some 163, none, .ext (.t 159) 1⟩, 
      ⟨some 29, none, .mv (.t 162)⟩, 
      ⟨some 13, none, .mv (.t 163)⟩])
  (.seq (.reg [⟨some 165, none, .ld true 2 (.t 12)⟩, 
      ⟨some 166, none, .call 43 [(1, (.t 165))]⟩, 
      ⟨some 164, none, .mv (.t 166)⟩, 
      ⟨some 167, none, .ext (.t 164) 0⟩, 
      ⟨some 168, none, .ext (.t 164) 1⟩, 
      ⟨some 30, none, .mv (.t 167)⟩, 
      ⟨some 15, none, .mv (.t 168)⟩])
  (.seq (.reg [⟨some 170, none, .ld true 2 (.t 7)⟩, 
      ⟨some 171, none, .call 41 [(1, (.t 170))]⟩, 
      ⟨some 169, none, .mv (.t 171)⟩, 
      ⟨some 172, none, .ext (.t 169) 0⟩, 
      ⟨some 173, none, .ext (.t 169) 1⟩, 
      ⟨some 31, none, .al 31 [(.i .i64 0), (.i .i64 0)]⟩, 
      ⟨none, none, .st 2 (.t 31) (.t 172)⟩, 
      ⟨some 17, none, .mv (.t 173)⟩])
  (.seq (.reg [⟨some 175, none, .ld true 2 (.t 8)⟩, 
      ⟨some 176, none, .call 41 [(1, (.t 175))]⟩, 
      ⟨some 174, none, .mv (.t 176)⟩, 
      ⟨some 177, none, .ext (.t 174) 0⟩, 
      ⟨some 178, none, .ext (.t 174) 1⟩, 
      ⟨some 32, none, .al 31 [(.i .i64 0), (.i .i64 0)]⟩, 
      ⟨none, none, .st 2 (.t 32) (.t 177)⟩, 
      ⟨some 19, none, .mv (.t 178)⟩])
  (.seq (.reg [⟨some 180, none, .ld true 2 (.t 10)⟩, 
      ⟨some 181, none, .call 41 [(1, (.t 180))]⟩, 
      ⟨some 179, none, .mv (.t 181)⟩, 
      ⟨some 182, none, .ext (.t 179) 0⟩, 
      ⟨some 183, none, .ext (.t 179) 1⟩, 
      ⟨some 33, none, .al 31 [(.i .i64 0), (.i .i64 0)]⟩, 
      ⟨none, none, .st 2 (.t 33) (.t 182)⟩, 
      ⟨some 21, none, .mv (.t 183)⟩])
  (.seq (.reg [⟨some 185, none, .ld true 2 (.t 12)⟩, 
      ⟨some 186, none, .call 41 [(1, (.t 185))]⟩, 
      ⟨some 184, none, .mv (.t 186)⟩, 
      ⟨some 187, none, .ext (.t 184) 0⟩, 
      ⟨some 188, none, .ext (.t 184) 1⟩, 
      ⟨some 34, none, .al 31 [(.i .i64 0), (.i .i64 0)]⟩, 
      ⟨none, none, .st 2 (.t 34) (.t 187)⟩, 
      ⟨some 23, none, .mv (.t 188)⟩])
  (.seq (.reg [⟨some 190, none, .ld true 2 (.t 31)⟩, 
      ⟨some 191, none, .ld true 2 (.t 32)⟩, 
      ⟨some 192, none, .call 37 [(1, (.t 190)), (1, (.t 191))]⟩, 
      ⟨some 189, none, .mv (.t 192)⟩, 
      ⟨some 193, none, .ext (.t 189) 0⟩, 
      ⟨some 194, none, .ext (.t 189) 1⟩, 
      ⟨some 35, none, .al 31 [(.i .i64 0), (.i .i64 0)]⟩, 
      ⟨none, none, .st 2 (.t 35) (.t 193)⟩, 
      ⟨some 25, none, .mv (.t 194)⟩])
  (.seq (.reg [⟨some 196, none, .ld true 2 (.t 31)⟩, 
      ⟨some 197, none, .ld true 2 (.t 32)⟩, 
      ⟨some 198, none, .call 39 [(1, (.t 196)), (1, (.t 197))]⟩, 
      ⟨some 195, none, .mv (.t 198)⟩, 
      ⟨some 199, none, .ext (.t 195) 0⟩, 
      ⟨some 200, none, .ext (.t 195) 1⟩, 
      ⟨some 36, none, .al 31 [(.i .i64 0), (.i .i64 0)]⟩, 
      ⟨none, none, .st 2 (.t 36) (.t 199)⟩, 
      ⟨some 27, none, .mv (.t 200)⟩])
  (.seq (.seq (.reg [⟨some 201, none, .mv (.t 11)⟩, 
        ⟨some 202, none, .bin .neq (.t 201) (.k (.i .i64 0))⟩, 
        ⟨some 203, none, .mv (.t 202)⟩, 
        ⟨some 204, some (203, false), .mv (.t 13)⟩, 
        ⟨some 205, some (203, false), .bin .neq (.t 204) (.k (.i .i64 0))⟩, 
        ⟨some 206, none, .pick (.t 203) (.k (.b true)) (.t 205)⟩, 
        ⟨some 207, none, .mv (.t 206)⟩, 
        ⟨some 208, some (207, false), .mv (.t 15)⟩, 
        ⟨some 209, some (207, false), .bin .neq (.t 208) (.k (.i .i64 0))⟩, 
        ⟨some 210, none, .pick (.t 207) (.k (.b true)) (.t 209)⟩, 
        ⟨some 211, none, .mv (.t 210)⟩, 
        ⟨some 212, some (211, false), .mv (.t 17)⟩, 
        ⟨some 213, some (211, false), .bin .neq (.t 212) (.k (.i .i64 0))⟩, 
        ⟨some 214, none, .pick (.t 211) (.k (.b true)) (.t 213)⟩, 
        ⟨some 215, none, .mv (.t 214)⟩, 
        ⟨some 216, some (215, false), .mv (.t 19)⟩, 
        ⟨some 217, some (215, false), .bin .neq (.t 216) (.k (.i .i64 0))⟩, 
        ⟨some 218, none, .pick (.t 215) (.k (.b true)) (.t 217)⟩, 
        ⟨some 219, none, .mv (.t 218)⟩, 
        ⟨some 220, some (219, false), .mv (.t 21)⟩, 
        ⟨some 221, some (219, false), .bin .neq (.t 220) (.k (.i .i64 0))⟩, 
        ⟨some 222, none, .pick (.t 219) (.k (.b true)) (.t 221)⟩, 
        ⟨some 223, none, .mv (.t 222)⟩, 
        ⟨some 224, some (223, false), .mv (.t 23)⟩, 
        ⟨some 225, some (223, false), .bin .neq (.t 224) (.k (.i .i64 0))⟩, 
        ⟨some 226, none, .pick (.t 223) (.k (.b true)) (.t 225)⟩, 
        ⟨some 227, none, .mv (.t 226)⟩, 
        ⟨some 228, some (227, false), .mv (.t 25)⟩, 
        ⟨some 229, some (227, false), .bin .neq (.t 228) (.k (.i .i64 0))⟩, 
        ⟨some 230, none, .pick (.t 227) (.k (.b true)) (.t 229)⟩, 
        ⟨some 231, none, .mv (.t 230)⟩, 
        ⟨some 232, some (231, false), .mv (.t 27)⟩, 
        ⟨some 233, some (231, false), .bin .neq (.t 232) (.k (.i .i64 0))⟩, 
        ⟨some 234, none, .pick (.t 231) (.k (.b true)) (.t 233)⟩, 
        ⟨some 235, none, .mv (.t 234)⟩, 
        ⟨some 236, some (235, false), .mv (.t 30)⟩, 
        ⟨some 237, some (235, false), .mv (.t 28)⟩, 
        ⟨some 238, some (235, false), .mv (.t 29)⟩, 
        ⟨some 239, some (235, false), .bin .mul (.t 237) (.t 238)⟩, 
        ⟨some 240, some (235, false), .bin .neq (.t 236) (.t 239)⟩, 
        ⟨some 241, none, .pick (.t 235) (.k (.b true)) (.t 240)⟩, 
        ⟨some 242, none, .mv (.t 241)⟩, 
        ⟨some 243, some (242, false), .ld true 2 (.t 33)⟩, 
        ⟨some 244, some (242, false), .ld true 2 (.t 35)⟩, 
        ⟨some 245, some (242, false), .pur (.eqs true [1, 1]) [(.t 243), (.t 244)]⟩, 
        ⟨some 246, none, .pick (.t 242) (.k (.b true)) (.t 245)⟩, 
        ⟨some 247, none, .mv (.t 246)⟩, 
        ⟨some 248, some (247, false), .ld true 2 (.t 34)⟩, 
        ⟨some 249, some (247, false), .ld true 2 (.t 36)⟩, 
        ⟨some 250, some (247, false), .pur (.eqs true [1, 1]) [(.t 248), (.t 249)]⟩, 
        ⟨some 251, none, .pick (.t 247) (.k (.b true)) (.t 250)⟩])
    (.cond (.t 251)
    (.seq (.reg [⟨some 6, none, .mv (.k (.b false))⟩])
      (.ret))
    (.skip)))
  (.seq (.reg [⟨some 253, none, .ld true 2 (.t 7)⟩, 
      ⟨some 254, none, .ld true 2 (.t 31)⟩, 
      ⟨some 255, none, .call 39 [(1, (.t 253)), (1, (.t 254))]⟩, 
      ⟨some 252, none, .mv (.t 255)⟩, 
      ⟨some 256, none, .ext (.t 252) 0⟩, 
      ⟨some 257, none, .ext (.t 252) 1⟩, 
      ⟨some 37, none, .al 31 [(.i .i64 0), (.i .i64 0)]⟩, 
      ⟨none, none, .st 2 (.t 37) (.t 256)⟩, 
      ⟨some 11, none, .mv (.t 257)⟩])
  (.seq (.reg [⟨some 259, none, .ld true 2 (.t 7)⟩, 
      ⟨some 260, none, .call 45 [(1, (.t 259)), (1, (.k (.i .i64 2)))]⟩, 
      ⟨some 258, none, .mv (.t 260)⟩, 
      ⟨some 261, none, .ext (.t 258) 0⟩, 
      ⟨some 262, none, .ext (.t 258) 1⟩, 
      ⟨some 38, none, .al 31 [(.i .i64 0), (.i .i64 0)]⟩, 
      ⟨none, none, .st 2 (.t 38) (.t 261)⟩, 
      ⟨some 13, none, .mv (.t 262)⟩])
  (.seq (.reg [⟨some 264, none, .ld true 2 (.t 7)⟩, 
      ⟨some 265, none, .call 45 [(1, (.t 264)), (1, (.k (.i .i64 3)))]⟩, 
      ⟨some 263, none, .mv (.t 265)⟩, 
      ⟨some 266, none, .ext (.t 263) 0⟩, 
      ⟨some 267, none, .ext (.t 263) 1⟩, 
      ⟨some 39, none, .al 31 [(.i .i64 0), (.i .i64 0)]⟩, 
      ⟨none, none, .st 2 (.t 39) (.t 266)⟩, 
      ⟨some 15, none, .mv (.t 267)⟩])
  (.seq (.reg [⟨some 269, none, .ld true 2 (.t 7)⟩, 
      ⟨some 270, none, .ld true 2 (.t 7)⟩, 
      ⟨some 271, none, .call 39 [(1, (.t 269)), (1, (.t 270))]⟩, 
      ⟨some 268, none, .mv (.t 271)⟩, 
      ⟨some 272, none, .ext (.t 268) 0⟩, 
      ⟨some 273, none, .ext (.t 268) 1⟩, 
      ⟨some 40, none, .al 31 [(.i .i64 0), (.i .i64 0)]⟩, 
      ⟨none, none, .st 2 (.t 40) (.t 272)⟩, 
      ⟨some 17, none, .mv (.t 273)⟩])
  (.seq (.reg [⟨some 275, none, .ld true 2 (.t 40)⟩, 
      ⟨some 276, none, .ld true 2 (.t 7)⟩, 
      ⟨some 277, none, .call 39 [(1, (.t 275)), (1, (.t 276))]⟩, 
      ⟨some 274, none, .mv (.t 277)⟩, 
      ⟨some 278, none, .ext (.t 274) 0⟩, 
      ⟨some 279, none, .ext (.t 274) 1⟩, 
      ⟨some 41, none, .al 31 [(.i .i64 0), (.i .i64 0)]⟩, 
      ⟨none, none, .st 2 (.t 41) (.t 278)⟩, 
      ⟨some 19, none, .mv (.t 279)⟩])
  (.seq (.reg [⟨some 281, none, .ld true 2 (.t 7)⟩, 
      ⟨some 282, none, .call 45 [(1, (.t 281)), (1, (.k (.i .i64 0)))]⟩, 
      ⟨some 280, none, .mv (.t 282)⟩, 
      ⟨some 283, none, .ext (.t 280) 0⟩, 
      ⟨some 284, none, .ext (.t 280) 1⟩, 
      ⟨some 42, none, .al 31 [(.i .i64 0), (.i .i64 0)]⟩, 
      ⟨none, none, .st 2 (.t 42) (.t 283)⟩, 
      ⟨some 21, none, .mv (.t 284)⟩])
  (.seq (.reg [⟨some 285, none, .mv (.t 11)⟩, 
      ⟨some 286, none, .bin .eql (.t 285) (.k (.i .i64 0))⟩, 
      ⟨some 287, none, .mv (.t 286)⟩, 
      ⟨some 288, some (287, true), .mv (.t 13)⟩, 
      ⟨some 289, some (287, true), .bin .eql (.t 288) (.k (.i .i64 0))⟩, 
      ⟨some 290, none, .pick (.t 287) (.t 289) (.k (.b false))⟩, 
      ⟨some 291, none, .mv (.t 290)⟩, 
      ⟨some 292, some (291, true), .mv (.t 15)⟩, 
      ⟨some 293, some (291, true), .bin .eql (.t 292) (.k (.i .i64 0))⟩, 
      ⟨some 294, none, .pick (.t 291) (.t 293) (.k (.b false))⟩, 
      ⟨some 295, none, .mv (.t 294)⟩, 
      ⟨some 296, some (295, true), .mv (.t 17)⟩, 
      ⟨some 297, some (295, true), .bin .eql (.t 296) (.k (.i .i64 0))⟩, 
      ⟨some 298, none, .pick (.t 295) (.t 297) (.k (.b false))⟩, 
      ⟨some 299, none, .mv (.t 298)⟩, 
      ⟨some 300, some (299, true), .mv (.t 19)⟩, 
      ⟨some 301, some (299, true), .bin .eql (.t 300) (.k (.i .i64 0))⟩, 
      ⟨some 302, none, .pick (.t 299) (.t 301) (.k (.b false))⟩, 
      ⟨some 303, none, .mv (.t 302)⟩, 
      ⟨some 304, some (303, true), .mv (.t 21)⟩, 
      ⟨some 305, some (303, true), .bin .eql (.t 304) (.k (.i .i64 0))⟩, 
      ⟨some 306, none, .pick (.t 303) (.t 305) (.k (.b false))⟩, 
      ⟨some 307, none, .mv (.t 306)⟩, 
      ⟨some 308, some (307, true), .ld true 2 (.t 37)⟩, 
      ⟨some 309, some (307, true), .mv (.t 28)⟩, 
      ⟨some 310, some (307, true), .bld [(.i .i64 0), (.i .i64 0)] [(0, 1, (.t 309))]⟩, 
      ⟨some 311, some (307, true), .pur (.eqs false [1, 1]) [(.t 308), (.t 310)]⟩, 
      ⟨some 312, none, .pick (.t 307) (.t 311) (.k (.b false))⟩, 
      ⟨some 313, none, .mv (.t 312)⟩, 
      ⟨some 314, some (313, true), .ld true 2 (.t 38)⟩, 
      ⟨some 315, some (313, true), .ld true 2 (.t 40)⟩, 
      ⟨some 316, some (313, true), .pur (.eqs false [1, 1]) [(.t 314), (.t 315)]⟩, 
      ⟨some 317, none, .pick (.t 313) (.t 316) (.k (.b false))⟩, 
      ⟨some 318, none, .mv (.t 317)⟩, 
      ⟨some 319, some (318, true), .ld true 2 (.t 39)⟩, 
      ⟨some 320, some (318, true), .ld true 2 (.t 41)⟩, 
      ⟨some 321, some (318, true), .pur (.eqs false [1, 1]) [(.t 319), (.t 320)]⟩, 
      ⟨some 322, none, .pick (.t 318) (.t 321) (.k (.b false))⟩, 
      ⟨some 323, none, .mv (.t 322)⟩, 
      ⟨some 324, some (323, true), .ld true 2 (.t 42)⟩, 
      ⟨some 325, some (323, true), .bld [(.i .i64 0), (.i .i64 0)] [(0, 1, (.k (.i .i64 1)))]⟩, 
      ⟨some 326, some (323, true), .pur (.eqs false [1, 1]) [(.t 324), (.t 325)]⟩, 
      ⟨some 327, none, .pick (.t 323) (.t 326) (.k (.b false))⟩, 
      ⟨some 6, none, .mv (.t 327)⟩])
  (.ret))))))))))))))))))))))))))))))
set_option maxRecDepth 100000 in
theorem gaussRing_spec (u v w : GZ) : AFun Try.prog J0 10 [nV u, nV v, nV w] (.b true) := by
  have f1 := few_spec u 1000 (by decide) (by decide)
  have f2 := few_spec v 1000 (by decide) (by decide)
  have f3 := few_spec w 1000 (by decide) (by decide)
  have z1 := few_sz u 1000 (by decide)
  have z2 := few_sz v 1000 (by decide)
  have z3 := few_sz w 1000 (by decide)
  simp only [nV] at f1 f2 f3 ⊢
  obtain ⟨a, ha⟩ : ∃ a : GZ, a = (u.1.tmod (1000 : Nat), u.2.tmod (1000 : Nat)) := ⟨_, rfl⟩
  obtain ⟨b, hb⟩ : ∃ b : GZ, b = (v.1.tmod (1000 : Nat), v.2.tmod (1000 : Nat)) := ⟨_, rfl⟩
  obtain ⟨c, hc⟩ : ∃ c : GZ, c = (w.1.tmod (1000 : Nat), w.2.tmod (1000 : Nat)) := ⟨_, rfl⟩
  rw [← ha] at z1
  rw [← hb] at z2
  rw [← hc] at z3
  rw [show u.1.tmod ((1000 : Nat) : Int) = a.1 from by rw [ha], show u.2.tmod ((1000 : Nat) : Int) = a.2 from by rw [ha]] at f1
  rw [show v.1.tmod ((1000 : Nat) : Int) = b.1 from by rw [hb], show v.2.tmod ((1000 : Nat) : Int) = b.2 from by rw [hb]] at f2
  rw [show w.1.tmod ((1000 : Nat) : Int) = c.1 from by rw [hc], show w.2.tmod ((1000 : Nat) : Int) = c.2 from by rw [hc]] at f3
  obtain ⟨s, hs⟩ : ∃ s, s = gadd a b := ⟨_, rfl⟩
  obtain ⟨p, hp⟩ : ∃ p, p = gmul a b := ⟨_, rfl⟩
  obtain ⟨l, hl⟩ : ∃ l, l = gmul s c := ⟨_, rfl⟩
  obtain ⟨x, hx⟩ : ∃ x, x = gmul a c := ⟨_, rfl⟩
  obtain ⟨y, hy⟩ : ∃ y, y = gmul b c := ⟨_, rfl⟩
  obtain ⟨pc, hpc⟩ : ∃ pc, pc = gmul p c := ⟨_, rfl⟩
  obtain ⟨n1, hn1⟩ : ∃ n, n = a.1 * a.1 + a.2 * a.2 := ⟨_, rfl⟩
  obtain ⟨n2, hn2⟩ : ∃ n, n = b.1 * b.1 + b.2 * b.2 := ⟨_, rfl⟩
  obtain ⟨ca, hca⟩ : ∃ z, z = gconj a := ⟨_, rfl⟩
  obtain ⟨cb, hcb⟩ : ∃ z, z = gconj b := ⟨_, rfl⟩
  obtain ⟨cs, hcs⟩ : ∃ z, z = gconj s := ⟨_, rfl⟩
  obtain ⟨cp, hcp⟩ : ∃ z, z = gconj p := ⟨_, rfl⟩
  obtain ⟨sq, hsq⟩ : ∃ z, z = gmul a a := ⟨_, rfl⟩
  obtain ⟨cu, hcu⟩ : ∃ z, z = gmul sq a := ⟨_, rfl⟩
  have zs : gsz s ≤ 3996 := by rw [hs]; exact Nat.le_trans (gsz_add _ _) (by omega)
  have zp : gsz p ≤ 3992004 := by rw [hp]; exact Nat.le_trans (gsz_mul _ _) (Nat.mul_le_mul z1 z2)
  have zx : gsz x ≤ 3992004 := by rw [hx]; exact Nat.le_trans (gsz_mul _ _) (Nat.mul_le_mul z1 z3)
  have zy : gsz y ≤ 3992004 := by rw [hy]; exact Nat.le_trans (gsz_mul _ _) (Nat.mul_le_mul z2 z3)
  have zq : gsz sq ≤ 3992004 := by rw [hsq]; exact Nat.le_trans (gsz_mul _ _) (Nat.mul_le_mul z1 z1)
  have zca : gsz ca ≤ 1998 := by rw [hca, gconj_sz]; exact z1
  have zcb : gsz cb ≤ 1998 := by rw [hcb, gconj_sz]; exact z2
  have b1 : n1.natAbs ≤ 3992004 := by rw [hn1]; exact Nat.le_trans (norm_le a) (Nat.mul_le_mul z1 z1)
  have b2 : n2.natAbs ≤ 3992004 := by rw [hn2]; exact Nat.le_trans (norm_le b) (Nat.mul_le_mul z2 z2)
  have b12 : (n1 * n2).natAbs ≤ 3992004 * 3992004 := by rw [Int.natAbs_mul]; exact Nat.mul_le_mul b1 b2
  have wn : IntKind.i64.wrap (n1 * n2) = n1 * n2 := wi (by omega)
  have e1 := gaddO (x := a) (y := b) (by simp only [SM]; omega) hs.symm
  have e2 := gmulO z1 z2 (by decide) (by decide) (by decide) hp.symm
  have e3 := gmulO z2 z1 (by decide) (by decide) (by decide) ((gmul_comm b a).trans hp.symm)
  have e4 := gmulO zs z3 (by decide) (by decide) (by decide) hl.symm
  have e5 := gmulO z1 z3 (by decide) (by decide) (by decide) hx.symm
  have e6 := gmulO z2 z3 (by decide) (by decide) (by decide) hy.symm
  have e7 := gaddO (x := x) (y := y) (by simp only [SM]; omega) (show gadd x y = l by rw [hl, hs, gmul_add, hx, hy])
  have e8 := gmulO zp z3 (by decide) (by decide) (by decide) hpc.symm
  have e9 := gmulO z1 zy (by decide) (by decide) (by decide) (show gmul a y = pc by rw [hpc, hp, gmul_assoc, hy])
  have g1 := gnormO z1 (by decide) hn1.symm
  have g2 := gnormO z2 (by decide) hn2.symm
  have g3 := gnormO (n := n1 * n2) zp (by decide) (by rw [hp, hn1, hn2]; exact norm_mul _ _ _ _)
  have g4 := gconjO (x := a) (by simp only [SM]; omega) hca.symm
  have g5 := gconjO (x := b) (by simp only [SM]; omega) hcb.symm
  have g6 := gconjO (x := s) (by simp only [SM]; omega) hcs.symm
  have g7 := gconjO (x := p) (by simp only [SM]; omega) hcp.symm
  have g8 := gaddO (x := ca) (y := cb) (by simp only [SM]; omega) (show gadd ca cb = cs by rw [hca, hcb, gconj_add, hcs, hs])
  have g9 := gmulO zca zcb (by decide) (by decide) (by decide) (show gmul ca cb = cp by rw [hca, hcb, gconj_mul, hcp, hp])
  have k1 := gmulO z1 zca (by decide) (by decide) (by decide) (show gmul a ca = (n1, 0) by rw [hca, gmul_conj, hn1])
  have k2 := gpowO (x := a) (n := 2) (by simp only [SM]; omega) (by decide) (Nat.lt_of_le_of_lt (Nat.pow_le_pow_left z1 2) (by decide)) (show gpow a 2 = sq by rw [hsq]; show gmul (gmul (1, 0) a) a = _; rw [one_gmul])
  have k3 := gpowO (x := a) (n := 3) (by simp only [SM]; omega) (by decide) (Nat.lt_of_le_of_lt (Nat.pow_le_pow_left z1 3) (by decide)) (show gpow a 3 = cu by rw [hcu, hsq]; show gmul (gmul (gmul (1, 0) a) a) a = _; rw [one_gmul])
  have k4 := gmulO z1 z1 (by decide) (by decide) (by decide) hsq.symm
  have k5 := gmulO zq z1 (by decide) (by decide) (by decide) hcu.symm
  have k6 := gpowO (x := a) (n := 0) (by simp only [SM]; omega) (by decide) (by rw [Nat.pow_zero]; decide) (show gpow a 0 = (1, 0) from rfl)
  clear hs hp hl hx hy hpc hca hcb hcs hcp hsq hcu hn1 hn2
  refine AFun.mk fol J0s Try.func10 rfl (ac := a10) (by kernel_rfl) rfl rfl ?_
  apply vm_start
  unfold a10
  simp only [init_eq, initE]
  have zc1 := gknown_spec
  have zc2 := f1
  have zc3 := f2
  have zc4 := f3
  have zc5 := e1
  have zc6 := e2
  have zc7 := e3
  have zc8 := e4
  have zc9 := e5
  have zc10 := e6
  have zc11 := e7
  have zc12 := e8
  have zc13 := e9
  have zc14 := g1
  have zc15 := g2
  have zc16 := g3
  have zc17 := g4
  have zc18 := g5
  have zc19 := g6
  have zc20 := g7
  have zc21 := g8
  have zc22 := g9
  have zc23 := k1
  have zc24 := k2
  have zc25 := k3
  have zc26 := k4
  have zc27 := k5
  have zc28 := k6
  repeat first | (refine hK _ ?_; clear hK K) | simp only [Sv, ↓reduceIte, Nat.reduceEqDiff] | ((first | refine vm_reg (fun K hK => ?_) | refine vm_dreg (fun K hK => ?_) | refine clp_q ?_ | refine clq_mk (by assumption) ?_); simp (disch := (first | omega | assumption)) only [S1, ↓reduceIte, Nat.reduceEqDiff, Nat.reduceAdd, Nat.reduceMul, Nat.reduceDiv, AOp.sb, AOp.mut, ↓Bool.false_eq_true, beq_self_eq_true, ite_self, Nat.reduceLeDiff, Int.reduceEq, Int.reduceSub, Int.reduceAdd, Int.reduceNeg, Int.reduceLT, Int.reduceLE, Nat.reduceLT, bz_LGRing, wn])
  simp (disch := (first | omega | assumption)) only [retOk, retN, ret1, retF, ret1F, V.okArg, and_true, true_and, S1, ↓reduceIte, Nat.reduceEqDiff, Nat.reduceAdd, Nat.reduceMul, Nat.reduceDiv, AOp.sb, AOp.mut, ↓Bool.false_eq_true, beq_self_eq_true, ite_self, Nat.reduceLeDiff, Int.reduceEq, Int.reduceSub, Int.reduceAdd, Int.reduceNeg, Int.reduceLT, Int.reduceLE, Nat.reduceLT, bz_LGRing, wn]
end Go.Proofs.Ytfkldohgiifgbaa
