/-
  LexKeeps: the law's walk as far as the pieces are asked for.
-/
import Derived.Test.YtjfbkegdnljfjaaLKY
namespace Go.Proofs.Ytjfbkegdnljfjaa
open Go Go.RowKit Ab
set_option linter.unusedSimpArgs false
set_option linter.unusedVariables false
set_option maxHeartbeats 10000000
theorem bz_LK1 : type_of% (And.intro @wi (And.intro @tn_nat (And.intro @tn0 (And.intro @Nat.div_one (And.intro @Nat.mul_one (And.intro @T_len (And.intro @m3 (And.intro @T_row (And.intro @T_nf (And.intro @T_app1 (And.intro @Tv_nf (And.intro @PT_len (@PT_app1))))))))))))) := And.intro @wi (And.intro @tn_nat (And.intro @tn0 (And.intro @Nat.div_one (And.intro @Nat.mul_one (And.intro @T_len (And.intro @m3 (And.intro @T_row (And.intro @T_nf (And.intro @T_app1 (And.intro @Tv_nf (And.intro @PT_len (@PT_app1))))))))))))
def a3 : AC := .seq (.reg [⟨some 4, none, .mv (.k (.b false))⟩])
 (.seq (.seq (.reg [⟨some 26, none, .call 4 []⟩,
 ⟨some 27, none, .un .not (.t 26)⟩])
 (.cond (.t 27)
 (.seq (.reg [⟨some 4, none, .mv (.k (.b false))⟩])
 (.ret))
 (.skip)))
 (.seq (.reg [⟨some 28, none, .mv (.t 1)⟩,
 ⟨some 29, none, .call 5 [(3, (.t 28))]⟩,
 ⟨some 30, none, .bld [(.i .i64 0), (.s []), (.i .i64 0)] [(0, 1, (.k (.i .i64 9))), (1, 1, (.k (.s [114, 111, 111, 109])))]⟩,
 ⟨some 31, none, .bld [(.i .i64 0), (.s []), (.i .i64 0)] [(0, 1, (.k (.i .i64 8))), (1, 1, (.k (.s [114, 111, 111, 109])))]⟩,
 ⟨some 32, none, .bsl 27 3 2 [(.i .i64 0), (.s []), (.i .i64 0), (.i .i64 0), (.s []), (.i .i64 0)] [(0, (.t 30)), (1, (.t 31))]⟩,
 ⟨some 33, none, .app 27 3 32 (.t 29) (.t 32)⟩,
 ⟨some 5, none, .mv (.t 33)⟩])
 (.seq (.reg [⟨some 34, none, .mv (.t 5)⟩,
 ⟨some 35, none, .mv (.t 1)⟩,
 ⟨some 36, none, .len (.t 35)⟩,
 ⟨some 37, none, .sub 3 (.t 34) none (some (.t 36))⟩,
 ⟨some 6, none, .mv (.t 37)⟩])
 (.seq (.reg [⟨some 39, none, .mv (.t 0)⟩,
 ⟨some 40, none, .call 6 [(1, (.t 39))]⟩,
 ⟨some 38, none, .mv (.t 40)⟩,
 ⟨some 41, none, .ext (.t 38) 0⟩,
 ⟨some 42, none, .ext (.t 38) 1⟩,
 ⟨some 7, none, .mv (.t 41)⟩,
 ⟨some 8, none, .mv (.t 42)⟩])
 (.seq (.reg [⟨some 44, none, .mv (.t 1)⟩,
 ⟨some 45, none, .call 7 [(3, (.t 44)), (1, (.k (.s [43])))]⟩,
 ⟨some 43, none, .mv (.t 45)⟩,
 ⟨some 46, none, .ext (.t 43) 0⟩,
 ⟨some 47, none, .ext (.t 43) 1⟩,
 ⟨some 9, none, .mv (.t 46)⟩,
 ⟨some 10, none, .mv (.t 47)⟩])
 (.seq (.reg [⟨some 49, none, .mv (.t 0)⟩,
 ⟨some 50, none, .call 8 [(1, (.t 49))]⟩,
 ⟨some 48, none, .mv (.t 50)⟩,
 ⟨some 51, none, .ext (.t 48) 0⟩,
 ⟨some 52, none, .ext (.t 48) 1⟩,
 ⟨some 11, none, .mv (.t 51)⟩,
 ⟨some 12, none, .mv (.t 52)⟩])
 (.seq (.reg [⟨some 54, none, .mv (.t 0)⟩,
 ⟨some 55, none, .call 8 [(1, (.t 54))]⟩,
 ⟨some 53, none, .mv (.t 55)⟩,
 ⟨some 56, none, .ext (.t 53) 0⟩,
 ⟨some 57, none, .ext (.t 53) 1⟩,
 ⟨some 13, none, .mv (.t 56)⟩,
 ⟨some 14, none, .mv (.t 57)⟩])
 (.seq (.reg [⟨some 59, none, .mv (.t 6)⟩,
 ⟨some 60, none, .call 9 [(3, (.t 59)), (1, (.k (.s [43])))]⟩,
 ⟨some 58, none, .mv (.t 60)⟩,
 ⟨some 61, none, .ext (.t 58) 0⟩,
 ⟨some 62, none, .ext (.t 58) 1⟩,
 ⟨some 15, none, .mv (.t 61)⟩,
 ⟨some 16, none, .mv (.t 62)⟩])
 (.seq (.reg [⟨some 64, none, .mv (.t 6)⟩,
 ⟨some 65, none, .call 9 [(3, (.t 64)), (1, (.k (.s [43])))]⟩,
 ⟨some 63, none, .mv (.t 65)⟩,
 ⟨some 66, none, .ext (.t 63) 0⟩,
 ⟨some 67, none, .ext (.t 63) 1⟩,
 ⟨some 17, none, .mv (.t 66)⟩,
 ⟨some 18, none, .mv (.t 67)⟩])
 (.seq (.reg [⟨some 68, none, .mv (.t 6)⟩,
 ⟨some 69, none, .call 10 [(3, (.t 68))]⟩])
 (.seq (.reg [⟨some 70, none, .mv (.t 6)⟩,
 ⟨some 71, none, .call 11 [(3, (.t 70))]⟩])
 (.seq (.reg [⟨some 72, none, .mv (.t 6)⟩,
 ⟨some 73, none, .call 12 [(3, (.t 72)), (1, (.k (.i .i64 0)))]⟩])
 (.seq (.seq (.reg [⟨some 74, none, .mv (.t 6)⟩,
 ⟨some 75, none, .call 14 [(3, (.t 74))]⟩,
 ⟨some 76, none, .mv (.t 1)⟩,
 ⟨some 77, none, .call 13 [(3, (.t 75)), (3, (.t 76))]⟩,
 ⟨some 78, none, .un .not (.t 77)⟩,
 ⟨some 79, none, .mv (.t 78)⟩,
 ⟨some 80, some (79, false), .mv (.t 5)⟩,
 ⟨some 81, some (79, false), .mv (.t 1)⟩,
 ⟨some 82, some (79, false), .len (.t 81)⟩,
 ⟨some 83, some (79, false), .idx 3 (.t 80) (.t 82)⟩,
 ⟨some 84, some (79, false), .fad 0 (.t 83)⟩,
 ⟨some 85, some (79, false), .ld false 1 (.t 84)⟩,
 ⟨some 86, some (79, false), .bin .neq (.t 85) (.k (.i .i64 9))⟩,
 ⟨some 87, none, .pick (.t 79) (.k (.b true)) (.t 86)⟩,
 ⟨some 88, none, .mv (.t 87)⟩,
 ⟨some 89, some (88, false), .mv (.t 5)⟩,
 ⟨some 90, some (88, false), .mv (.t 1)⟩,
 ⟨some 91, some (88, false), .len (.t 90)⟩,
 ⟨some 92, some (88, false), .bin .add (.t 91) (.k (.i .i64 1))⟩,
 ⟨some 93, some (88, false), .idx 3 (.t 89) (.t 92)⟩,
 ⟨some 94, some (88, false), .fad 0 (.t 93)⟩,
 ⟨some 95, some (88, false), .ld false 1 (.t 94)⟩,
 ⟨some 96, some (88, false), .bin .neq (.t 95) (.k (.i .i64 8))⟩,
 ⟨some 97, none, .pick (.t 88) (.k (.b true)) (.t 96)⟩,
 ⟨some 98, none, .mv (.t 97)⟩,
 ⟨some 99, some (98, false), .mv (.t 15)⟩,
 ⟨some 100, some (98, false), .len (.t 99)⟩,
 ⟨some 101, some (98, false), .mv (.t 9)⟩,
 ⟨some 102, some (98, false), .len (.t 101)⟩,
 ⟨some 103, some (98, false), .bin .neq (.t 100) (.t 102)⟩,
 ⟨some 104, none, .pick (.t 98) (.k (.b true)) (.t 103)⟩,
 ⟨some 105, none, .mv (.t 104)⟩,
 ⟨some 106, some (105, false), .mv (.t 17)⟩,
 ⟨some 107, some (105, false), .len (.t 106)⟩,
 ⟨some 108, some (105, false), .mv (.t 9)⟩,
 ⟨some 109, some (105, false), .len (.t 108)⟩,
 ⟨some 110, some (105, false), .bin .neq (.t 107) (.t 109)⟩,
 ⟨some 111, none, .pick (.t 105) (.k (.b true)) (.t 110)⟩])
 (.cond (.t 111)
 (.seq (.reg [⟨some 4, none, .mv (.k (.b false))⟩])
 (.ret))
 (.skip)))
 (.seq (.seq (.reg [⟨some 112, none, .mv (.t 11)⟩,
 ⟨some 113, none, .len (.t 112)⟩,
 ⟨some 114, none, .mv (.k (.i .i64 0))⟩])
 (.blk 0
 (.loop
 (.seq (.reg [⟨some 115, none, .bin .lss (.t 114) (.t 113)⟩])
 (.seq (.cond (.t 115)
 (.skip)
 (.exit 0))
 (.seq (.blk 1
 (.seq (.reg [⟨some 116, none, .mv (.t 114)⟩,
 ⟨some 19, none, .mv (.t 116)⟩])
 (.reg [⟨some 117, none, .mv (.t 11)⟩,
 ⟨some 118, none, .mv (.t 19)⟩,
 ⟨some 119, none, .bld [(.i .i64 0), (.s []), (.i .i64 0)] [(0, 1, (.k (.i .i64 (-1))))]⟩,
 ⟨some 120, none, .idx 3 (.t 117) (.t 118)⟩,
 ⟨none, none, .st 3 (.t 120) (.t 119)⟩])))
 (.reg [⟨some 121, none, .bin .add (.t 114) (.k (.i .i64 1))⟩,
 ⟨some 114, none, .mv (.t 121)⟩])))))))
 (.seq (.reg [⟨some 122, none, .mv (.t 11)⟩,
 ⟨some 123, none, .bld [(.i .i64 0), (.s []), (.i .i64 0)] [(0, 1, (.k (.i .i64 (-2))))]⟩,
 ⟨some 124, none, .bld [(.i .i64 0), (.s []), (.i .i64 0)] [(0, 1, (.k (.i .i64 (-3))))]⟩,
 ⟨some 125, none, .bsl 27 3 2 [(.i .i64 0), (.s []), (.i .i64 0), (.i .i64 0), (.s []), (.i .i64 0)] [(0, (.t 123)), (1, (.t 124))]⟩,
 ⟨some 126, none, .app 27 3 32 (.t 122) (.t 125)⟩])
 (.seq (.seq (.reg [⟨some 127, none, .mv (.t 15)⟩,
 ⟨some 128, none, .len (.t 127)⟩,
 ⟨some 129, none, .mv (.k (.i .i64 0))⟩])
 (.blk 2
 (.loop
 (.seq (.reg [⟨some 130, none, .bin .lss (.t 129) (.t 128)⟩])
 (.seq (.cond (.t 130)
 (.skip)
 (.exit 2))
 (.seq (.blk 3
 (.seq (.reg [⟨some 131, none, .mv (.t 129)⟩,
 ⟨some 20, none, .mv (.t 131)⟩])
 (.seq (.seq (.reg [⟨some 132, none, .mv (.t 15)⟩,
 ⟨some 133, none, .mv (.t 20)⟩,
 ⟨some 134, none, .idx 1 (.t 132) (.t 133)⟩,
 ⟨some 135, none, .ld false 1 (.t 134)⟩,
 ⟨some 136, none, .len (.t 135)⟩,
 ⟨some 137, none, .mv (.k (.i .i64 0))⟩])
 (.blk 4
 (.loop
 (.seq (.reg [⟨some 138, none, .bin .lss (.t 137) (.t 136)⟩])
 (.seq (.cond (.t 138)
 (.skip)
 (.exit 4))
 (.seq (.blk 5
 (.seq (.reg [⟨some 139, none, .mv (.t 137)⟩,
 ⟨some 21, none, .mv (.t 139)⟩])
 (.reg [⟨some 140, none, .mv (.t 15)⟩,
 ⟨some 141, none, .mv (.t 20)⟩,
 ⟨some 142, none, .idx 1 (.t 140) (.t 141)⟩,
 ⟨some 143, none, .ld false 1 (.t 142)⟩,
 ⟨some 144, none, .mv (.t 21)⟩,
 ⟨some 145, none, .mv (.t 20)⟩,
 ⟨some 146, none, .bin .sub (.k (.i .i64 (-4))) (.t 145)⟩,
 ⟨some 147, none, .bld [(.i .i64 0), (.s []), (.i .i64 0)] [(0, 1, (.t 146))]⟩,
 ⟨some 148, none, .idx 3 (.t 143) (.t 144)⟩,
 ⟨none, none, .st 3 (.t 148) (.t 147)⟩])))
 (.reg [⟨some 149, none, .bin .add (.t 137) (.k (.i .i64 1))⟩,
 ⟨some 137, none, .mv (.t 149)⟩])))))))
 (.reg [⟨some 150, none, .mv (.t 15)⟩,
 ⟨some 151, none, .mv (.t 20)⟩,
 ⟨some 152, none, .idx 1 (.t 150) (.t 151)⟩,
 ⟨some 153, none, .ld false 1 (.t 152)⟩,
 ⟨some 154, none, .bld [(.i .i64 0), (.s []), (.i .i64 0)] [(0, 1, (.k (.i .i64 (-9))))]⟩,
 ⟨some 155, none, .bsl 27 3 1 [(.i .i64 0), (.s []), (.i .i64 0)] [(0, (.t 154))]⟩,
 ⟨some 156, none, .app 27 3 32 (.t 153) (.t 155)⟩]))))
 (.reg [⟨some 157, none, .bin .add (.t 129) (.k (.i .i64 1))⟩,
 ⟨some 129, none, .mv (.t 157)⟩])))))))
 (.seq (.seq (.reg [⟨some 158, none, .mv (.t 15)⟩,
 ⟨some 159, none, .len (.t 158)⟩,
 ⟨some 160, none, .mv (.k (.i .i64 0))⟩])
 (.blk 6
 (.loop
 (.seq (.reg [⟨some 161, none, .bin .lss (.t 160) (.t 159)⟩])
 (.seq (.cond (.t 161)
 (.skip)
 (.exit 6))
 (.seq (.blk 7
 (.seq (.reg [⟨some 162, none, .mv (.t 160)⟩,
 ⟨some 22, none, .mv (.t 162)⟩])
 (.seq (.reg [⟨some 163, none, .mv (.t 15)⟩,
 ⟨some 164, none, .mv (.t 22)⟩,
 ⟨some 165, none, .idx 1 (.t 163) (.t 164)⟩,
 ⟨some 166, none, .ld false 1 (.t 165)⟩,
 ⟨some 167, none, .len (.t 166)⟩,
 ⟨some 168, none, .mv (.k (.i .i64 0))⟩])
 (.blk 8
 (.loop
 (.seq (.reg [⟨some 169, none, .bin .lss (.t 168) (.t 167)⟩])
 (.seq (.cond (.t 169)
 (.skip)
 (.exit 8))
 (.seq (.blk 9
 (.seq (.reg [⟨some 170, none, .mv (.t 168)⟩,
 ⟨some 23, none, .mv (.t 170)⟩])
 (.seq (.reg [⟨some 171, none, .mv (.t 15)⟩,
 ⟨some 172, none, .mv (.t 22)⟩,
 ⟨some 173, none, .idx 1 (.t 171) (.t 172)⟩,
 ⟨some 174, none, .ld false 1 (.t 173)⟩,
 ⟨some 175, none, .mv (.t 23)⟩,
 ⟨some 176, none, .idx 3 (.t 174) (.t 175)⟩,
 ⟨some 177, none, .fad 0 (.t 176)⟩,
 ⟨some 178, none, .ld false 1 (.t 177)⟩,
 ⟨some 179, none, .mv (.t 22)⟩,
 ⟨some 180, none, .bin .sub (.k (.i .i64 (-4))) (.t 179)⟩,
 ⟨some 181, none, .bin .neq (.t 178) (.t 180)⟩])
 (.cond (.t 181)
 (.seq (.reg [⟨some 4, none, .mv (.k (.b false))⟩])
 (.ret))
 (.skip)))))
 (.reg [⟨some 182, none, .bin .add (.t 168) (.k (.i .i64 1))⟩,
 ⟨some 168, none, .mv (.t 182)⟩])))))))))
 (.reg [⟨some 183, none, .bin .add (.t 160) (.k (.i .i64 1))⟩,
 ⟨some 160, none, .mv (.t 183)⟩])))))))
 (.seq (.seq (.reg [⟨some 184, none, .mv (.t 6)⟩,
 ⟨some 185, none, .call 14 [(3, (.t 184))]⟩,
 ⟨some 186, none, .mv (.t 1)⟩,
 ⟨some 187, none, .call 13 [(3, (.t 185)), (3, (.t 186))]⟩,
 ⟨some 188, none, .un .not (.t 187)⟩])
 (.cond (.t 188)
 (.seq (.reg [⟨some 4, none, .mv (.k (.b false))⟩])
 (.ret))
 (.skip)))
 (.seq (.seq (.reg [⟨some 189, none, .mv (.t 6)⟩,
 ⟨some 190, none, .len (.t 189)⟩,
 ⟨some 191, none, .mv (.k (.i .i64 0))⟩])
 (.blk 10
 (.loop
 (.seq (.reg [⟨some 192, none, .bin .lss (.t 191) (.t 190)⟩])
 (.seq (.cond (.t 192)
 (.skip)
 (.exit 10))
 (.seq (.blk 11
 (.seq (.reg [⟨some 193, none, .mv (.t 191)⟩,
 ⟨some 24, none, .mv (.t 193)⟩])
 (.reg [⟨some 194, none, .mv (.t 6)⟩,
 ⟨some 195, none, .mv (.t 24)⟩,
 ⟨some 196, none, .bld [(.i .i64 0), (.s []), (.i .i64 0)] [(0, 1, (.k (.i .i64 (-5))))]⟩,
 ⟨some 197, none, .idx 3 (.t 194) (.t 195)⟩,
 ⟨none, none, .st 3 (.t 197) (.t 196)⟩])))
 (.reg [⟨some 198, none, .bin .add (.t 191) (.k (.i .i64 1))⟩,
 ⟨some 191, none, .mv (.t 198)⟩])))))))
 (.seq (.seq (.reg [⟨some 199, none, .mv (.t 17)⟩,
 ⟨some 200, none, .len (.t 199)⟩,
 ⟨some 201, none, .mv (.k (.i .i64 0))⟩])
 (.blk 12
 (.loop
 (.seq (.reg [⟨some 202, none, .bin .lss (.t 201) (.t 200)⟩])
 (.seq (.cond (.t 202)
 (.skip)
 (.exit 12))
 (.seq (.blk 13
 (.seq (.reg [⟨some 203, none, .mv (.t 201)⟩,
 ⟨some 25, none, .mv (.t 203)⟩])
 (.seq (.seq (.dreg [⟨some 204, none, .mv (.t 17)⟩,
 ⟨some 205, none, .mv (.t 25)⟩,
 ⟨some 206, none, .idx 1 (.t 204) (.t 205)⟩,
 ⟨some 207, none, .ld false 1 (.t 206)⟩,
 ⟨some 208, none, .call 14 [(3, (.t 207))]⟩,
 ⟨some 209, none, .mv (.t 9)⟩,
 ⟨some 210, none, .mv (.t 25)⟩,
 ⟨some 211, none, .idx 1 (.t 209) (.t 210)⟩,
 ⟨some 212, none, .ld false 1 (.t 211)⟩,
 ⟨some 213, none, .call 13 [(3, (.t 208)), (3, (.t 212))]⟩,
 ⟨some 214, none, .un .not (.t 213)⟩])
 (.cond (.t 214)
 (.seq (.reg [⟨some 4, none, .mv (.k (.b false))⟩])
 (.ret))
 (.skip)))
 (.reg [⟨some 215, none, .mv (.t 15)⟩,
 ⟨some 216, none, .mv (.t 25)⟩,
 ⟨some 217, none, .idx 1 (.t 215) (.t 216)⟩,
 ⟨none, none, .st 1 (.t 217) (.k .nl)⟩]))))
 (.reg [⟨some 218, none, .bin .add (.t 201) (.k (.i .i64 1))⟩,
 ⟨some 201, none, .mv (.t 218)⟩])))))))
 (.seq (.reg [⟨some 219, none, .mv (.t 13)⟩,
 ⟨some 220, none, .call 14 [(3, (.t 219))]⟩,
 ⟨some 221, none, .mv (.t 7)⟩,
 ⟨some 222, none, .call 13 [(3, (.t 220)), (3, (.t 221))]⟩,
 ⟨some 223, none, .mv (.t 222)⟩,
 ⟨some 224, some (223, true), .mv (.t 5)⟩,
 ⟨some 225, some (223, true), .mv (.t 1)⟩,
 ⟨some 226, some (223, true), .len (.t 225)⟩,
 ⟨some 227, some (223, true), .idx 3 (.t 224) (.t 226)⟩,
 ⟨some 228, some (223, true), .fad 0 (.t 227)⟩,
 ⟨some 229, some (223, true), .ld false 1 (.t 228)⟩,
 ⟨some 230, some (223, true), .bin .eql (.t 229) (.k (.i .i64 9))⟩,
 ⟨some 231, none, .pick (.t 223) (.t 230) (.k (.b false))⟩,
 ⟨some 4, none, .mv (.t 231)⟩])
 (.ret))))))))))))))))))))))
def roomT : List UInt8 := [114, 111, 111, 109]
def r9 : Tk := ⟨9, roomT, 0⟩
def r8 : Tk := ⟨8, roomT, 0⟩
theorem T_app2 (ts : List Tk) : T ts ++ [V.i .i64 9, .s [114, 111, 111, 109], .i .i64 0, V.i .i64 8, .s [114, 111, 111, 109], .i .i64 0] = T (ts ++ [r9, r8]) := by rw [← T_app]; rfl
def k1K (s : List UInt8) (ts : List Tk) (st : St) : Prop :=
  ∃ i5 i11 i13, i5 ≠ i11 ∧ i5 ≠ i13 ∧ i11 ≠ i13 ∧ st.get 1 = .l 3 (T ts) ∧ st.get 5 = .ow 3 i5 (ts.length + 2) ∧ st.get 6 = .sl 3 i5 0 ts.length ∧ st.get 7 = .l 3 (T (scanR s).1) ∧ st.get 9 = .l 1 (PT (splitR ts [43]).1) ∧
    st.get 11 = .ow 3 i11 (scanR s).1.length ∧ st.get 13 = .ow 3 i13 (scanR s).1.length ∧ st.ob i5 = some ⟨27, 3, T (ts ++ [r9, r8]), true, false⟩ ∧ st.ob i11 = some ⟨27, 3, T (scanR s).1, true, false⟩ ∧ st.ob i13 = some ⟨27, 3, T (scanR s).1, true, false⟩
def chain (n : Nat) (A : AC) : AC := match n with
  | 0 => A.p1
  | n + 1 => A.p1.seq (chain n A.p2)
theorem k1_walk (s : List UInt8) (ts : List Tk) (hl : ts.length ≤ 1100000) :
    avc (AFun Try.prog J0) (XFun Try.prog) (chain 7 a3) (fun ex st => ex = .normal ∧ k1K s ts st) ⟨[(0, .s s), (1, .l 3 (T ts))], [], 0⟩ := by
  have hd : (scanR s).1.length * 3 / 3 = (scanR s).1.length := by omega
  have hd1 : ts.length * 3 / 3 = ts.length := by omega
  have h6 : (ts.length + 2) * 32 ≤ 70368744177664 := by omega
  have hx := scanR_len s
  have happ := T_app2 ts
  have z1 := awake_spec
  have z2 := to_spec ts (by omega)
  have z3 := rscan_spec s
  have z4 := rsplit_spec ts [43] (by omega) (by decide)
  have z5 := scanO_spec s
  apply vm_start
  unfold a3
  simp only [init_eq, initE, chain, AC.p1, AC.p2]
  have zc1 := z1
  have zc2 := z2
  have zc3 := z3
  have zc4 := z4
  have zc5 := z5
  repeat first | (refine hK _ ?_; clear hK K) | simp only [Sv, ↓reduceIte, Nat.reduceEqDiff] | ((first | refine vm_reg (fun K hK => ?_) | refine vm_dreg (fun K hK => ?_) | refine vm_dregx (fun K hK => ?_) | refine clp_q ?_ | refine clq_mk (by assumption) ?_ | refine mcq_q ?_ | (apply mcr_mk; assumption) | (apply ocr_mk; assumption)); simp (disch := (first | omega | assumption)) only [S1, ↓reduceIte, Nat.reduceEqDiff, Nat.reduceAdd, Nat.reduceMul, Nat.reduceDiv, AOp.sb, AOp.mut, frzf, ↓Bool.false_eq_true, beq_self_eq_true, ite_self, Nat.reduceLeDiff, Int.reduceEq, Int.reduceSub, Int.reduceAdd, Int.reduceNeg, Int.reduceLT, Int.reduceLE, Nat.reduceLT, bz_LK1, hd1, happ, hd])
  exact ⟨trivial, _, _, _, by decide, by decide, by decide, rfl, rfl, rfl, rfl, rfl, rfl, rfl, rfl, rfl, rfl⟩
end Go.Proofs.Ytjfbkegdnljfjaa
