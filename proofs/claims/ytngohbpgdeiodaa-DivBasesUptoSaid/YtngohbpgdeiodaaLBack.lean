/-
  DivBack: the law's walk.
-/
import Derived.Test.YtngohbpgdeiodaaP2
import Derived.Test.YtngohbpgdeiodaaLQuos
namespace Go.Proofs.Ytngohbpgdeiodaa
open Go Go.RowKit Ab
set_option linter.unusedSimpArgs false
set_option linter.unusedVariables false
set_option maxHeartbeats 10000000

theorem isNorm_dg (v : Nat) (h : (dg B v).length ≤ 1099511627776) : AFun Try.prog J0 47 [.l 1 (W (dg B v))] (.b true) := by
  have := isNorm_spec (dg B v) h
  rwa [show decide (tz (dg B v) = dg B v) = true from decide_eq_true (tz_dg' v)] at this
theorem sg_of_lt {x y : Nat} (h : x < y) : sg x y = -1 := by unfold sg; rw [if_pos h]
theorem sg_of_eq {x y : Nat} (h : x = y) : sg x y = 0 := by unfold sg; rw [if_neg (by omega), if_pos h]
-- surd/surdlaw04.DivBack
def a10 : AC := .seq (.reg [⟨some 6, none, .mv (.k (.b false))⟩])
  (.seq (.seq (.reg [⟨some 26, none, .call 11 []⟩, 
        ⟨some 27, none, .un .not (.t 26)⟩])
    (.cond (.t 27)
    (.seq (.reg [⟨some 6, none, .mv (.k (.b false))⟩])
      (.ret))
    (.skip)))
  (.seq (.seq (.reg [⟨some 28, none, .mv (.t 1)⟩, 
        ⟨some 29, none, .call 34 [(1, (.t 28))]⟩, 
        ⟨some 30, none, .bin .eql (.t 29) (.k (.i .i64 0))⟩])
    (.cond (.t 30)
    (.seq (.reg [⟨some 32, none, .mv (.t 0)⟩, 
          ⟨some 33, none, .mv (.t 1)⟩, 
          ⟨some 34, none, .call 16 [(1, (.t 32)), (1, (.t 33))]⟩, 
          ⟨some 31, none, .mv (.t 34)⟩, 
          ⟨some 35, none, .ext (.t 31) 0⟩, 
          ⟨some 36, none, .ext (.t 31) 1⟩, 
          ⟨some 37, none, .ext (.t 31) 2⟩, 
          ⟨some 7, none, .mv (.t 35)⟩, 
          ⟨some 8, none, .mv (.t 36)⟩, 
          ⟨some 9, none, .mv (.t 37)⟩])
      (.seq (.reg [⟨some 39, none, .mv (.t 0)⟩, 
          ⟨some 40, none, .mv (.t 1)⟩, 
          ⟨some 41, none, .call 19 [(1, (.t 39)), (1, (.t 40))]⟩, 
          ⟨some 38, none, .mv (.t 41)⟩, 
          ⟨some 42, none, .ext (.t 38) 0⟩, 
          ⟨some 43, none, .ext (.t 38) 1⟩, 
          ⟨some 10, none, .mv (.t 42)⟩, 
          ⟨some 11, none, .mv (.t 43)⟩])
      (.seq (.reg [⟨some 44, none, .mv (.t 9)⟩, 
          ⟨some 45, none, .bin .eql (.t 44) (.k (.i .i64 1))⟩, 
          ⟨some 46, none, .mv (.t 45)⟩, 
          ⟨some 47, some (46, true), .mv (.t 11)⟩, 
          ⟨some 48, some (46, true), .bin .eql (.t 47) (.k (.i .i64 1))⟩, 
          ⟨some 49, none, .pick (.t 46) (.t 48) (.k (.b false))⟩, 
          ⟨some 50, none, .mv (.t 49)⟩, 
          ⟨some 51, some (50, true), .mv (.t 7)⟩, 
          ⟨some 52, some (50, true), .len (.t 51)⟩, 
          ⟨some 53, some (50, true), .bin .eql (.t 52) (.k (.i .i64 0))⟩, 
          ⟨some 54, none, .pick (.t 50) (.t 53) (.k (.b false))⟩, 
          ⟨some 55, none, .mv (.t 54)⟩, 
          ⟨some 56, some (55, true), .mv (.t 8)⟩, 
          ⟨some 57, some (55, true), .len (.t 56)⟩, 
          ⟨some 58, some (55, true), .bin .eql (.t 57) (.k (.i .i64 0))⟩, 
          ⟨some 59, none, .pick (.t 55) (.t 58) (.k (.b false))⟩, 
          ⟨some 60, none, .mv (.t 59)⟩, 
          ⟨some 61, some (60, true), .mv (.t 1)⟩, 
          ⟨some 62, some (60, true), .mv (.t 0)⟩, 
          ⟨some 63, some (60, true), .call 20 [(1, (.t 61)), (1, (.t 62))]⟩, 
          ⟨some 64, some (60, true), .mv (.t 0)⟩, 
          ⟨some 65, some (60, true), .call 34 [(1, (.t 64))]⟩, 
          ⟨some 66, some (60, true), .bin .eql (.t 65) (.k (.i .i64 0))⟩, 
          ⟨some 67, some (60, true), .eqb false (.t 63) (.t 66)⟩, 
          ⟨some 68, none, .pick (.t 60) (.t 67) (.k (.b false))⟩, 
          ⟨some 6, none, .mv (.t 68)⟩])
      (.ret))))
    (.skip)))
  (.seq (.reg [⟨some 70, none, .mv (.t 0)⟩, 
      ⟨some 71, none, .mv (.t 1)⟩, 
      ⟨some 72, none, .call 16 [(1, (.t 70)), (1, (.t 71))]⟩, 
      ⟨some 69, none, .mv (.t 72)⟩, 
      ⟨some 73, none, .ext (.t 69) 0⟩, 
      ⟨some 74, none, .ext (.t 69) 1⟩, 
      ⟨some 75, none, .ext (.t 69) 2⟩, 
      ⟨some 12, none, .mv (.t 73)⟩, 
      ⟨some 13, none, .mv (.t 74)⟩, 
      ⟨some 14, none, .mv (.t 75)⟩])
  (.seq (.seq (.reg [⟨some 76, none, .mv (.t 14)⟩, 
        ⟨some 77, none, .bin .neq (.t 76) (.k (.i .i64 0))⟩, 
        ⟨some 78, none, .mv (.t 77)⟩, 
        ⟨some 79, some (78, false), .mv (.t 13)⟩, 
        ⟨some 80, some (78, false), .mv (.t 1)⟩, 
        ⟨some 81, some (78, false), .call 37 [(1, (.t 79)), (1, (.t 80))]⟩, 
        ⟨some 82, some (78, false), .bin .geq (.t 81) (.k (.i .i64 0))⟩, 
        ⟨some 83, none, .pick (.t 78) (.k (.b true)) (.t 82)⟩, 
        ⟨some 84, none, .mv (.t 83)⟩, 
        ⟨some 85, some (84, false), .mv (.t 12)⟩, 
        ⟨some 86, some (84, false), .call 47 [(1, (.t 85))]⟩, 
        ⟨some 87, some (84, false), .un .not (.t 86)⟩, 
        ⟨some 88, none, .pick (.t 84) (.k (.b true)) (.t 87)⟩, 
        ⟨some 89, none, .mv (.t 88)⟩, 
        ⟨some 90, some (89, false), .mv (.t 13)⟩, 
        ⟨some 91, some (89, false), .call 47 [(1, (.t 90))]⟩, 
        ⟨some 92, some (89, false), .un .not (.t 91)⟩, 
        ⟨some 93, none, .pick (.t 89) (.k (.b true)) (.t 92)⟩, 
        ⟨some 94, none, .mv (.t 93)⟩, 
        ⟨some 95, some (94, false), .mv (.t 12)⟩, 
        ⟨some 96, some (94, false), .mv (.t 1)⟩, 
        ⟨some 97, some (94, false), .call 36 [(1, (.t 95)), (1, (.t 96))]⟩, 
        ⟨some 98, some (94, false), .mv (.t 13)⟩, 
        ⟨some 99, some (94, false), .call 35 [(1, (.t 97)), (1, (.t 98))]⟩, 
        ⟨some 100, some (94, false), .mv (.t 0)⟩, 
        ⟨some 101, some (94, false), .call 37 [(1, (.t 99)), (1, (.t 100))]⟩, 
        ⟨some 102, some (94, false), .bin .neq (.t 101) (.k (.i .i64 0))⟩, 
        ⟨some 103, none, .pick (.t 94) (.k (.b true)) (.t 102)⟩])
    (.cond (.t 103)
    (.seq (.reg [⟨some 6, none, .mv (.k (.b false))⟩])
      (.ret))
    (.skip)))
  (.seq (.reg [⟨some 105, none, .mv (.t 2)⟩, 
      ⟨some 106, none, .mv (.t 1)⟩, 
      ⟨some 107, none, .call 17 [(1, (.t 105)), (1, (.t 106))]⟩, 
      ⟨some 104, none, .mv (.t 107)⟩, 
      ⟨some 108, none, .ext (.t 104) 0⟩, 
      ⟨some 109, none, .ext (.t 104) 1⟩, 
      ⟨some 15, none, .mv (.t 108)⟩, 
      ⟨some 14, none, .mv (.t 109)⟩])
  (.seq (.reg [⟨some 110, none, .mv (.t 0)⟩, 
      ⟨some 111, none, .mv (.t 1)⟩, 
      ⟨some 112, none, .call 36 [(1, (.t 110)), (1, (.t 111))]⟩, 
      ⟨some 16, none, .mv (.t 112)⟩])
  (.seq (.reg [⟨some 114, none, .mv (.t 16)⟩, 
      ⟨some 115, none, .mv (.t 15)⟩, 
      ⟨some 116, none, .call 35 [(1, (.t 114)), (1, (.t 115))]⟩, 
      ⟨some 117, none, .mv (.t 1)⟩, 
      ⟨some 118, none, .call 16 [(1, (.t 116)), (1, (.t 117))]⟩, 
      ⟨some 113, none, .mv (.t 118)⟩, 
      ⟨some 119, none, .ext (.t 113) 0⟩, 
      ⟨some 120, none, .ext (.t 113) 1⟩, 
      ⟨some 121, none, .ext (.t 113) 2⟩, 
      ⟨some 17, none, .mv (.t 119)⟩, 
      ⟨some 18, none, .mv (.t 120)⟩, 
      ⟨some 19, none, .mv (.t 121)⟩])
  (.seq (.reg [⟨some 123, none, .mv (.t 16)⟩, 
      ⟨some 124, none, .mv (.t 1)⟩, 
      ⟨some 125, none, .call 19 [(1, (.t 123)), (1, (.t 124))]⟩, 
      ⟨some 122, none, .mv (.t 125)⟩, 
      ⟨some 126, none, .ext (.t 122) 0⟩, 
      ⟨some 127, none, .ext (.t 122) 1⟩, 
      ⟨some 20, none, .mv (.t 126)⟩, 
      ⟨some 21, none, .mv (.t 127)⟩])
  (.seq (.seq (.reg [⟨some 128, none, .mv (.t 14)⟩, 
        ⟨some 129, none, .bin .neq (.t 128) (.k (.i .i64 0))⟩, 
        ⟨some 130, none, .mv (.t 129)⟩, 
        ⟨some 131, some (130, false), .mv (.t 19)⟩, 
        ⟨some 132, some (130, false), .bin .neq (.t 131) (.k (.i .i64 0))⟩, 
        ⟨some 133, none, .pick (.t 130) (.k (.b true)) (.t 132)⟩, 
        ⟨some 134, none, .mv (.t 133)⟩, 
        ⟨some 135, some (134, false), .mv (.t 21)⟩, 
        ⟨some 136, some (134, false), .bin .neq (.t 135) (.k (.i .i64 0))⟩, 
        ⟨some 137, none, .pick (.t 134) (.k (.b true)) (.t 136)⟩, 
        ⟨some 138, none, .mv (.t 137)⟩, 
        ⟨some 139, some (138, false), .mv (.t 17)⟩, 
        ⟨some 140, some (138, false), .mv (.t 0)⟩, 
        ⟨some 141, some (138, false), .call 37 [(1, (.t 139)), (1, (.t 140))]⟩, 
        ⟨some 142, some (138, false), .bin .neq (.t 141) (.k (.i .i64 0))⟩, 
        ⟨some 143, none, .pick (.t 138) (.k (.b true)) (.t 142)⟩, 
        ⟨some 144, none, .mv (.t 143)⟩, 
        ⟨some 145, some (144, false), .mv (.t 18)⟩, 
        ⟨some 146, some (144, false), .mv (.t 15)⟩, 
        ⟨some 147, some (144, false), .call 14 [(1, (.t 145)), (1, (.t 146))]⟩, 
        ⟨some 148, some (144, false), .un .not (.t 147)⟩, 
        ⟨some 149, none, .pick (.t 144) (.k (.b true)) (.t 148)⟩, 
        ⟨some 150, none, .mv (.t 149)⟩, 
        ⟨some 151, some (150, false), .mv (.t 20)⟩, 
        ⟨some 152, some (150, false), .mv (.t 0)⟩, 
        ⟨some 153, some (150, false), .call 37 [(1, (.t 151)), (1, (.t 152))]⟩, 
        ⟨some 154, some (150, false), .bin .neq (.t 153) (.k (.i .i64 0))⟩, 
        ⟨some 155, none, .pick (.t 150) (.k (.b true)) (.t 154)⟩, 
        ⟨some 156, none, .mv (.t 155)⟩, 
        ⟨some 157, some (156, false), .mv (.t 1)⟩, 
        ⟨some 158, some (156, false), .mv (.t 16)⟩, 
        ⟨some 159, some (156, false), .call 20 [(1, (.t 157)), (1, (.t 158))]⟩, 
        ⟨some 160, some (156, false), .un .not (.t 159)⟩, 
        ⟨some 161, none, .pick (.t 156) (.k (.b true)) (.t 160)⟩])
    (.cond (.t 161)
    (.seq (.reg [⟨some 6, none, .mv (.k (.b false))⟩])
      (.ret))
    (.skip)))
  (.seq (.reg [⟨some 163, none, .mv (.t 0)⟩, 
      ⟨some 164, none, .mv (.t 1)⟩, 
      ⟨some 165, none, .call 23 [(1, (.t 163)), (1, (.t 164))]⟩, 
      ⟨some 162, none, .mv (.t 165)⟩, 
      ⟨some 166, none, .ext (.t 162) 0⟩, 
      ⟨some 167, none, .ext (.t 162) 1⟩, 
      ⟨some 22, none, .mv (.t 166)⟩, 
      ⟨some 14, none, .mv (.t 167)⟩])
  (.seq (.reg [⟨some 169, none, .mv (.t 0)⟩, 
      ⟨some 170, none, .mv (.t 1)⟩, 
      ⟨some 171, none, .call 25 [(1, (.t 169)), (1, (.t 170))]⟩, 
      ⟨some 168, none, .mv (.t 171)⟩, 
      ⟨some 172, none, .ext (.t 168) 0⟩, 
      ⟨some 173, none, .ext (.t 168) 1⟩, 
      ⟨some 23, none, .mv (.t 172)⟩, 
      ⟨some 19, none, .mv (.t 173)⟩])
  (.seq (.seq (.reg [⟨some 174, none, .mv (.t 14)⟩, 
        ⟨some 175, none, .bin .neq (.t 174) (.k (.i .i64 0))⟩, 
        ⟨some 176, none, .mv (.t 175)⟩, 
        ⟨some 177, some (176, false), .mv (.t 19)⟩, 
        ⟨some 178, some (176, false), .bin .neq (.t 177) (.k (.i .i64 0))⟩, 
        ⟨some 179, none, .pick (.t 176) (.k (.b true)) (.t 178)⟩])
    (.cond (.t 179)
    (.seq (.reg [⟨some 6, none, .mv (.k (.b false))⟩])
      (.ret))
    (.skip)))
  (.seq (.reg [⟨some 180, none, .mv (.t 12)⟩, 
      ⟨some 181, none, .bsl 29 1 1 [(.i .u64 0)] [(0, (.k (.i .u64 1)))]⟩, 
      ⟨some 182, none, .call 35 [(1, (.t 180)), (1, (.t 181))]⟩, 
      ⟨some 24, none, .mv (.t 182)⟩])
  (.seq (.seq (.reg [⟨some 183, none, .mv (.t 13)⟩, 
        ⟨some 184, none, .len (.t 183)⟩, 
        ⟨some 185, none, .bin .eql (.t 184) (.k (.i .i64 0))⟩])
    (.cond (.t 185)
    (.seq (.reg [⟨some 186, none, .mv (.t 22)⟩, 
          ⟨some 187, none, .mv (.t 12)⟩, 
          ⟨some 188, none, .call 14 [(1, (.t 186)), (1, (.t 187))]⟩, 
          ⟨some 189, none, .mv (.t 188)⟩, 
          ⟨some 190, some (189, true), .mv (.t 23)⟩, 
          ⟨some 191, some (189, true), .mv (.t 12)⟩, 
          ⟨some 192, some (189, true), .call 14 [(1, (.t 190)), (1, (.t 191))]⟩, 
          ⟨some 193, none, .pick (.t 189) (.t 192) (.k (.b false))⟩, 
          ⟨some 194, none, .mv (.t 193)⟩, 
          ⟨some 195, some (194, true), .mv (.t 1)⟩, 
          ⟨some 196, some (194, true), .mv (.t 0)⟩, 
          ⟨some 197, some (194, true), .call 20 [(1, (.t 195)), (1, (.t 196))]⟩, 
          ⟨some 198, none, .pick (.t 194) (.t 197) (.k (.b false))⟩, 
          ⟨some 6, none, .mv (.t 198)⟩])
      (.ret))
    (.skip)))
  (.seq (.reg [⟨some 200, none, .mv (.t 0)⟩, 
      ⟨some 201, none, .mv (.t 1)⟩, 
      ⟨some 202, none, .call 19 [(1, (.t 200)), (1, (.t 201))]⟩, 
      ⟨some 199, none, .mv (.t 202)⟩, 
      ⟨some 203, none, .ext (.t 199) 0⟩, 
      ⟨some 204, none, .ext (.t 199) 1⟩, 
      ⟨some 21, none, .mv (.t 204)⟩])
  (.seq (.reg [⟨some 205, none, .mv (.t 13)⟩, 
      ⟨some 206, none, .mv (.t 13)⟩, 
      ⟨some 207, none, .call 35 [(1, (.t 205)), (1, (.t 206))]⟩, 
      ⟨some 208, none, .mv (.t 1)⟩, 
      ⟨some 209, none, .call 37 [(1, (.t 207)), (1, (.t 208))]⟩, 
      ⟨some 210, none, .bin .geq (.t 209) (.k (.i .i64 0))⟩, 
      ⟨some 25, none, .mv (.t 210)⟩])
  (.seq (.reg [⟨some 211, none, .mv (.t 22)⟩, 
      ⟨some 212, none, .mv (.t 24)⟩, 
      ⟨some 213, none, .call 14 [(1, (.t 211)), (1, (.t 212))]⟩, 
      ⟨some 214, none, .mv (.t 213)⟩, 
      ⟨some 215, some (214, true), .mv (.t 25)⟩, 
      ⟨some 216, some (214, true), .mv (.t 215)⟩, 
      ⟨some 217, some (216, true), .mv (.t 23)⟩, 
      ⟨some 218, some (216, true), .mv (.t 24)⟩, 
      ⟨some 219, some (216, true), .call 14 [(1, (.t 217)), (1, (.t 218))]⟩, 
      ⟨some 220, some (214, true), .pick (.t 216) (.t 219) (.k (.b false))⟩, 
      ⟨some 221, some (214, true), .mv (.t 220)⟩, 
      ⟨some 222, some (221, false), .mv (.t 25)⟩, 
      ⟨some 223, some (221, false), .un .not (.t 222)⟩, 
      ⟨some 224, some (221, false), .mv (.t 223)⟩, 
      ⟨some 225, some (224, true), .mv (.t 23)⟩, 
      ⟨some 226, some (224, true), .mv (.t 12)⟩, 
      ⟨some 227, some (224, true), .call 14 [(1, (.t 225)), (1, (.t 226))]⟩, 
      ⟨some 228, some (221, false), .pick (.t 224) (.t 227) (.k (.b false))⟩, 
      ⟨some 229, some (214, true), .pick (.t 221) (.k (.b true)) (.t 228)⟩, 
      ⟨some 230, none, .pick (.t 214) (.t 229) (.k (.b false))⟩, 
      ⟨some 231, none, .mv (.t 230)⟩, 
      ⟨some 232, some (231, true), .mv (.t 21)⟩, 
      ⟨some 233, some (231, true), .bin .eql (.t 232) (.k (.i .i64 4))⟩, 
      ⟨some 234, none, .pick (.t 231) (.t 233) (.k (.b false))⟩, 
      ⟨some 235, none, .mv (.t 234)⟩, 
      ⟨some 236, some (235, true), .mv (.t 1)⟩, 
      ⟨some 237, some (235, true), .mv (.t 0)⟩, 
      ⟨some 238, some (235, true), .call 20 [(1, (.t 236)), (1, (.t 237))]⟩, 
      ⟨some 239, some (235, true), .un .not (.t 238)⟩, 
      ⟨some 240, none, .pick (.t 235) (.t 239) (.k (.b false))⟩, 
      ⟨some 6, none, .mv (.t 240)⟩])
  (.ret))))))))))))))))))
theorem divBack_spec (a b c : List Nat) (m : Nat) (hm : m ≤ 2000000) (ha : Wd a) (hb : Wd b) (hc : Wd c) (la : a.length ≤ m) (lb : b.length ≤ m) (lc : c.length ≤ m) : AFun Try.prog J0 10 [.l 1 (W a), .l 1 (W b), .l 1 (W c)] (.b true) := by
  have hu := nvlt ha la
  have hv := nvlt hb lb
  have hbb := natBits_spec b hb (by omega)
  have hba := natBits_spec a ha (by omega)
  have hq := quo_spec a b ha hb (by omega) (by omega)
  have hex := exact_spec a b ha hb (by omega) (by omega)
  have hdv := divides_spec b a hb ha (by omega) (by omega)
  have z1 := bl_z (n := nv B a)
  have z2 := bl_z (n := nv B b)
  refine AFun.mk fol J0s Try.func10 rfl (ac := a10) (by kernel_rfl) rfl rfl ?_
  apply vm_start
  unfold a10
  simp only [init_eq, initE]
  by_cases h0 : nv B b = 0
  · rw [h0] at hq hex hdv
    rw [qQ_0, qR_0, qE_0] at hq
    rw [show exQ (nv B a) 0 = [] from rfl, show exE (nv B a) 0 = 1 from rfl] at hex
    rw [show dvB (nv B a) 0 = decide (nv B a = 0) from rfl] at hdv
    rw [h0, bl_0] at hbb
    have zc1 := known_spec
    have zc2 := hbb
    have zc3 := hq
    have zc4 := hex
    have zc5 := hdv
    have zc6 := hba
    repeat first | (refine hK _ ?_; clear hK K) | simp only [Sv, ↓reduceIte, Nat.reduceEqDiff] | ((first | refine vm_reg (fun K hK => ?_) | refine vm_dreg (fun K hK => ?_) | refine clp_q ?_ | refine clq_mk (by assumption) ?_); simp (disch := (first | omega | assumption)) only [S1, ↓reduceIte, Nat.reduceEqDiff, Nat.reduceAdd, Nat.reduceMul, Nat.reduceDiv, AOp.sb, AOp.mut, ↓Bool.false_eq_true, beq_self_eq_true, ite_self, Nat.reduceLeDiff, Int.reduceEq, Int.reduceSub, Int.reduceAdd, Int.reduceNeg, Int.reduceLT, Int.reduceLE, Nat.reduceLT, wi, tn_nat, Nat.div_one, Nat.mul_one, W_len, W_nf, W_cell, W_nil, W_get, List.length_nil, List.length_cons, z1])
    simp (disch := (first | omega | assumption)) only [retOk, retN, ret1, retF, ret1F, V.okArg, and_true, true_and, S1, ↓reduceIte, Nat.reduceEqDiff, Nat.reduceAdd, Nat.reduceMul, Nat.reduceDiv, AOp.sb, AOp.mut, ↓Bool.false_eq_true, beq_self_eq_true, ite_self, Nat.reduceLeDiff, Int.reduceEq, Int.reduceSub, Int.reduceAdd, Int.reduceNeg, Int.reduceLT, Int.reduceLE, Nat.reduceLT, wi, tn_nat, Nat.div_one, Nat.mul_one, W_len, W_nf, W_cell, W_nil, W_get, List.length_nil, List.length_cons, z1]
  · have hp : 0 < nv B b := by omega
    have hmod := mod_spec c b hc hb (by omega) (by omega)
    have hup := up_spec a b ha hb (by omega) (by omega)
    have hnr := near_spec a b ha hb (by omega) (by omega)
    have hmu := mul_spec a b ha hb (by omega) (by omega)
    rw [qE_p hp, qR_p hp] at hq hmod
    rw [qE_p hp] at hup hnr
    rw [show exQ (nv B a) (nv B b) = if nv B a % nv B b = 0 then dg B (nv B a / nv B b) else [] from if_neg h0, show exE (nv B a) (nv B b) = if nv B a % nv B b = 0 then 0 else 4 from if_neg h0] at hex
    rw [show dvB (nv B a) (nv B b) = decide (nv B a % nv B b = 0) from if_neg h0] at hdv
    rw [show upQ (nv B a) (nv B b) = if nv B a % nv B b = 0 then dg B (nv B a / nv B b) else dg B (nv B a / nv B b + 1) from if_neg h0] at hup
    rw [show nrQ (nv B a) (nv B b) = if nv B a % nv B b + nv B a % nv B b < nv B b then dg B (nv B a / nv B b) else dg B (nv B a / nv B b + 1) from if_neg h0] at hnr
    unfold qQ at hq
    have hrlt := Nat.mod_lt (nv B a) hp
    have hllt := Nat.mod_lt (nv B c) hp
    have hdm := Nat.div_add_mod' (nv B a) (nv B b)
    have hqB : nv B a / nv B b < B ^ m := Nat.lt_of_le_of_lt (Nat.div_le_self _ _) hu
    have hrB : nv B a % nv B b < B ^ m := Nat.lt_trans hrlt hv
    have hlB : nv B c % nv B b < B ^ m := Nat.lt_trans hllt hv
    have pP : nv B a * nv B b < B ^ (m + m) := by rw [Nat.pow_add]; exact Nat.mul_lt_mul_of_lt_of_lt hu hv
    have pQ : nv B a / nv B b * nv B b < B ^ m := by omega
    have lq := dlen hqB
    have lr := dlen hrB
    have ll := dlen hlB
    have lP := dlen pP
    have lQ := dlen pQ
    have hcr := cmp_spec (dg B (nv B a % nv B b)) b (Wd_dg _) hb (by omega) (by omega)
    have hi1 := isNorm_dg (nv B a / nv B b) (by omega)
    have hi2 := isNorm_dg (nv B a % nv B b) (by omega)
    have hmq := mul_spec (dg B (nv B a / nv B b)) b (Wd_dg _) hb (by omega) (by omega)
    have haq := add_spec (dg B (nv B a / nv B b * nv B b)) (dg B (nv B a % nv B b)) (Wd_dg _) (Wd_dg _) (by omega) (by omega)
    have lu := dlen hu
    have hca := cmp_spec (dg B (nv B a)) a (Wd_dg _) ha (by omega) (by omega)
    have hpl := add_spec (dg B (nv B a * nv B b)) (dg B (nv B c % nv B b)) (Wd_dg _) (Wd_dg _) (by omega) (by omega)
    have pS := padd pP (pup hlB (by omega : m ≤ m + m))
    have lS := dlen pS
    have hq2 := quo_spec (dg B (nv B a * nv B b + nv B c % nv B b)) b (Wd_dg _) hb (by omega) (by omega)
    have hex2 := exact_spec (dg B (nv B a * nv B b)) b (Wd_dg _) hb (by omega) (by omega)
    have hdv2 := divides_spec b (dg B (nv B a * nv B b)) hb (Wd_dg _) (by omega) (by omega)
    have hmo := add_spec (dg B (nv B a / nv B b)) [1] (Wd_dg _) (Wd1 (by decide)) (by omega) (by simp)
    have hrr := add_spec (dg B (nv B a % nv B b)) (dg B (nv B a % nv B b)) (Wd_dg _) (Wd_dg _) (by omega) (by omega)
    have lrr := dlen (padd hrB hrB)
    have hch := cmp_spec (dg B (nv B a % nv B b + nv B a % nv B b)) b (Wd_dg _) hb (by omega) (by omega)
    simp only [nv_dgB, nv_one] at hcr hmq haq hca hpl hq2 hex2 hdv2 hmo hrr hch
    rw [hdm] at haq
    rw [sg_of_lt hrlt] at hcr
    rw [sg_of_eq rfl] at hca
    have e1 : (nv B a * nv B b + nv B c % nv B b) / nv B b = nv B a := by rw [Nat.mul_comm, Nat.mul_add_div hp, Nat.div_eq_of_lt hllt, Nat.add_zero]
    have e2 : (nv B a * nv B b + nv B c % nv B b) % nv B b = nv B c % nv B b := by rw [Nat.mul_comm, Nat.mul_add_mod, Nat.mod_mod]
    rw [qE_p hp, qR_p hp, e2, qQ, e1] at hq2
    have e3 : nv B a * nv B b % nv B b = 0 := Nat.mul_mod_left _ _
    have e4 : nv B a * nv B b / nv B b = nv B a := Nat.mul_div_cancel _ hp
    rw [show exQ (nv B a * nv B b) (nv B b) = dg B (nv B a) from (if_neg h0).trans ((if_pos e3).trans (by rw [e4])), show exE (nv B a * nv B b) (nv B b) = 0 from (if_neg h0).trans (if_pos e3)] at hex2
    rw [show dvB (nv B a * nv B b) (nv B b) = true from (if_neg h0).trans (decide_eq_true e3)] at hdv2
    have sL := same_true (rfl : dg B (nv B c % nv B b) = dg B (nv B c % nv B b)) (by omega)
    have sq := same_true (rfl : dg B (nv B a / nv B b) = dg B (nv B a / nv B b)) (by omega)
    have sq1 := same_true (rfl : dg B (nv B a / nv B b + 1) = dg B (nv B a / nv B b + 1)) (by have := dlen (div1_lt (v := nv B b) hu); omega)
    by_cases h1 : nv B a % nv B b = 0
    · rw [if_pos h1] at hup
      rw [if_pos (by omega)] at hnr
      rw [h1] at hq hrr hch hi2 haq hcr
      rw [dg_zero] at hq hi2 haq hcr
      rw [show decide (nv B a % nv B b = 0) = true from decide_eq_true h1] at hdv
      have zc7 := known_spec
      have zc8 := hbb
      have zc9 := hq
      have zc10 := hcr
      have zc11 := hi1
      have zc12 := hi2
      have zc13 := hmq
      have zc14 := haq
      have zc15 := hca
      have zc16 := hmod
      have zc17 := hmu
      have zc18 := hpl
      have zc19 := hq2
      have zc20 := hex2
      have zc21 := sL
      have zc22 := hdv2
      have zc23 := hup
      have zc24 := hnr
      have zc25 := hmo
      have zc26 := sq
      have zc27 := hdv
      repeat first | (refine hK _ ?_; clear hK K) | simp only [Sv, ↓reduceIte, Nat.reduceEqDiff] | ((first | refine vm_reg (fun K hK => ?_) | refine vm_dreg (fun K hK => ?_) | refine clp_q ?_ | refine clq_mk (by assumption) ?_); simp (disch := (first | omega | assumption)) only [S1, ↓reduceIte, Nat.reduceEqDiff, Nat.reduceAdd, Nat.reduceMul, Nat.reduceDiv, AOp.sb, AOp.mut, ↓Bool.false_eq_true, beq_self_eq_true, ite_self, Nat.reduceLeDiff, Int.reduceEq, Int.reduceSub, Int.reduceAdd, Int.reduceNeg, Int.reduceLT, Int.reduceLE, Nat.reduceLT, wi, tn_nat, Nat.div_one, Nat.mul_one, W_len, W_nf, W_cell, W_nil, W_get, List.length_nil, List.length_cons, z2, h0, W1])
      simp (disch := (first | omega | assumption)) only [retOk, retN, ret1, retF, ret1F, V.okArg, and_true, true_and, S1, ↓reduceIte, Nat.reduceEqDiff, Nat.reduceAdd, Nat.reduceMul, Nat.reduceDiv, AOp.sb, AOp.mut, ↓Bool.false_eq_true, beq_self_eq_true, ite_self, Nat.reduceLeDiff, Int.reduceEq, Int.reduceSub, Int.reduceAdd, Int.reduceNeg, Int.reduceLT, Int.reduceLE, Nat.reduceLT, wi, tn_nat, Nat.div_one, Nat.mul_one, W_len, W_nf, W_cell, W_nil, W_get, List.length_nil, List.length_cons, z2, h0, W1]
    · have hrp : (0 : Int) < (((dg B (nv B a % nv B b)).length : Nat) : Int) := by
        have : (dg B (nv B a % nv B b)).length ≠ 0 := fun h => h1 ((dg_nil B2).1 (List.eq_nil_of_length_eq_zero h))
        omega
      have hrn : ¬ (((dg B (nv B a % nv B b)).length : Nat) : Int) = 0 := by omega
      rw [if_neg h1] at hup
      rw [if_neg h1, if_neg h1] at hex
      rw [show decide (nv B a % nv B b = 0) = false from decide_eq_false h1] at hdv
      by_cases h2 : nv B a % nv B b + nv B a % nv B b < nv B b
      · rw [if_pos h2] at hnr
        rw [sg_of_lt h2] at hch
        have zc28 := known_spec
        have zc29 := hbb
        have zc30 := hq
        have zc31 := hcr
        have zc32 := hi1
        have zc33 := hi2
        have zc34 := hmq
        have zc35 := haq
        have zc36 := hca
        have zc37 := hmod
        have zc38 := hmu
        have zc39 := hpl
        have zc40 := hq2
        have zc41 := hex2
        have zc42 := sL
        have zc43 := hdv2
        have zc44 := hup
        have zc45 := hnr
        have zc46 := hmo
        have zc47 := hex
        have zc48 := hrr
        have zc49 := hch
        have zc50 := sq1
        have zc51 := sq
        have zc52 := hdv
        repeat first | (refine hK _ ?_; clear hK K) | simp only [Sv, ↓reduceIte, Nat.reduceEqDiff] | ((first | refine vm_reg (fun K hK => ?_) | refine vm_dreg (fun K hK => ?_) | refine clp_q ?_ | refine clq_mk (by assumption) ?_); simp (disch := (first | omega | assumption)) only [S1, ↓reduceIte, Nat.reduceEqDiff, Nat.reduceAdd, Nat.reduceMul, Nat.reduceDiv, AOp.sb, AOp.mut, ↓Bool.false_eq_true, beq_self_eq_true, ite_self, Nat.reduceLeDiff, Int.reduceEq, Int.reduceSub, Int.reduceAdd, Int.reduceNeg, Int.reduceLT, Int.reduceLE, Nat.reduceLT, wi, tn_nat, Nat.div_one, Nat.mul_one, W_len, W_nf, W_cell, W_nil, W_get, List.length_nil, List.length_cons, z2, h0, W1, hrn])
        simp (disch := (first | omega | assumption)) only [retOk, retN, ret1, retF, ret1F, V.okArg, and_true, true_and, S1, ↓reduceIte, Nat.reduceEqDiff, Nat.reduceAdd, Nat.reduceMul, Nat.reduceDiv, AOp.sb, AOp.mut, ↓Bool.false_eq_true, beq_self_eq_true, ite_self, Nat.reduceLeDiff, Int.reduceEq, Int.reduceSub, Int.reduceAdd, Int.reduceNeg, Int.reduceLT, Int.reduceLE, Nat.reduceLT, wi, tn_nat, Nat.div_one, Nat.mul_one, W_len, W_nf, W_cell, W_nil, W_get, List.length_nil, List.length_cons, z2, h0, W1, hrn]
      · rw [if_neg h2] at hnr
        have hsg : (0 : Int) ≤ sg (nv B a % nv B b + nv B a % nv B b) (nv B b) := by
          have := sg_lt (x := nv B a % nv B b + nv B a % nv B b) (y := nv B b)
          exact Int.not_lt.1 fun h => h2 (this.mp h)
        have zc53 := known_spec
        have zc54 := hbb
        have zc55 := hq
        have zc56 := hcr
        have zc57 := hi1
        have zc58 := hi2
        have zc59 := hmq
        have zc60 := haq
        have zc61 := hca
        have zc62 := hmod
        have zc63 := hmu
        have zc64 := hpl
        have zc65 := hq2
        have zc66 := hex2
        have zc67 := sL
        have zc68 := hdv2
        have zc69 := hup
        have zc70 := hnr
        have zc71 := hmo
        have zc72 := hex
        have zc73 := hrr
        have zc74 := hch
        have zc75 := sq1
        have zc76 := hdv
        repeat first | (refine hK _ ?_; clear hK K) | simp only [Sv, ↓reduceIte, Nat.reduceEqDiff] | ((first | refine vm_reg (fun K hK => ?_) | refine vm_dreg (fun K hK => ?_) | refine clp_q ?_ | refine clq_mk (by assumption) ?_); simp (disch := (first | omega | assumption)) only [S1, ↓reduceIte, Nat.reduceEqDiff, Nat.reduceAdd, Nat.reduceMul, Nat.reduceDiv, AOp.sb, AOp.mut, ↓Bool.false_eq_true, beq_self_eq_true, ite_self, Nat.reduceLeDiff, Int.reduceEq, Int.reduceSub, Int.reduceAdd, Int.reduceNeg, Int.reduceLT, Int.reduceLE, Nat.reduceLT, wi, tn_nat, Nat.div_one, Nat.mul_one, W_len, W_nf, W_cell, W_nil, W_get, List.length_nil, List.length_cons, z2, h0, W1, hrn, hsg])
        simp (disch := (first | omega | assumption)) only [retOk, retN, ret1, retF, ret1F, V.okArg, and_true, true_and, S1, ↓reduceIte, Nat.reduceEqDiff, Nat.reduceAdd, Nat.reduceMul, Nat.reduceDiv, AOp.sb, AOp.mut, ↓Bool.false_eq_true, beq_self_eq_true, ite_self, Nat.reduceLeDiff, Int.reduceEq, Int.reduceSub, Int.reduceAdd, Int.reduceNeg, Int.reduceLT, Int.reduceLE, Nat.reduceLT, wi, tn_nat, Nat.div_one, Nat.mul_one, W_len, W_nf, W_cell, W_nil, W_get, List.length_nil, List.length_cons, z2, h0, W1, hrn, hsg]
end Go.Proofs.Ytngohbpgdeiodaa
