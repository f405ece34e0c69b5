/-
  CellsHalves: the law's walk.
-/
import Derived.Test.YtfcpigjmagbnkaaGreatDoorLCGrid
import Derived.Test.YtfcpigjmagbnkaaGreatDoorC8
namespace Go.Proofs.YtfcpigjmagbnkaaGreatDoor
open Go Go.RowKit Ab
set_option linter.unusedSimpArgs false
set_option linter.unusedVariables false
set_option maxHeartbeats 10000000
theorem bz_LCHalves : type_of% (And.intro @W_len (And.intro @D_len (And.intro @Nat.div_one (And.intro @Nat.mul_one (And.intro @tn_nat (And.intro @W_nf (And.intro @D_nf (And.intro @W_nil (And.intro @D_nil (And.intro @wi (And.intro @nf_g (And.intro @Bool.false_and (@W_cell))))))))))))) := And.intro @W_len (And.intro @D_len (And.intro @Nat.div_one (And.intro @Nat.mul_one (And.intro @tn_nat (And.intro @W_nf (And.intro @D_nf (And.intro @W_nil (And.intro @D_nil (And.intro @wi (And.intro @nf_g (And.intro @Bool.false_and (@W_cell))))))))))))
theorem hv_ends (z : Int) (n : Nat) : loQ (z * 2) (n + 1) = loQ z n ∧ loQ (z * 2 + 2) (n + 1) = loQ (z + 1) n ∧ loQ z n < loQ (z * 2 + 1) (n + 1) ∧ loQ (z * 2 + 1) (n + 1) < loQ (z + 1) n ∧ (loQ z n + loQ (z + 1) n) / 2 = loQ (z * 2 + 1) (n + 1) := by
  have e : ((2 ^ (n + 1) : Nat) : Int) = 2 ^ n * 2 := by rw [Int.natCast_pow, Int.pow_succ]; rfl
  have e2 : ((2 ^ n : Nat) : Int) = 2 ^ n := Int.natCast_pow 2 n
  have hp : (0 : Int) < 2 ^ n := Int.pow_pos (by decide)
  refine ⟨?_, ?_, ?_, ?_, ?_⟩
  · rw [Rat.mkRat_eq_iff (two_ne _) (two_ne _), e, e2, Int.mul_assoc, Int.mul_comm 2]
  · rw [Rat.mkRat_eq_iff (two_ne _) (two_ne _), e, e2, show z * 2 + 2 = (z + 1) * 2 from by omega, Int.mul_assoc, Int.mul_comm 2]
  · rw [lt_q (two_ne _) (two_ne _), e, e2, ← Int.mul_assoc, Int.mul_right_comm]
    exact Int.mul_lt_mul_of_pos_right (by omega) hp
  · rw [lt_q (two_ne _) (two_ne _), e, e2, ← Int.mul_assoc, Int.mul_right_comm (z + 1)]
    exact Int.mul_lt_mul_of_pos_right (by omega) hp
  · have h := mid_eq z false n
    rw [show hiN z false = z + 1 from rfl] at h
    rw [h]
    congr 1
    omega
def thr (z : Int) (n : Nat) : List Cel := [(decide (z * 2 < 0), dg B (z * 2).natAbs, ((n + 1 : Nat) : Int), false), (decide (z * 2 + 1 < 0), dg B (z * 2 + 1).natAbs, ((n + 1 : Nat) : Int), true), (decide (z * 2 + 1 < 0), dg B (z * 2 + 1).natAbs, ((n + 1 : Nat) : Int), false)]
abbrev cX (l : List Cel) (i : Nat) : V := cL (l.getD i nulC).1 (l.getD i nulC).2.1 (l.getD i nulC).2.2.1 (l.getD i nulC).2.2.2
def hxq (L M H r : Rat) (i : Nat) : Bool := if i = 0 then haV false L M r else if i = 1 then haV true M M r else haV false M H r
def cnq (f : Nat → Bool) : Nat → Nat
  | 0 => 0
  | i + 1 => cnq f i + if f i then 1 else 0
theorem cnq_law {L M H r : Rat} (h1 : L < M) (h2 : M < H) : cnq (hxq L M H r) 3 = if haV false L H r then 1 else 0 := by
  have e : cnq (hxq L M H r) 3 = (if haV false L M r then 1 else 0) + (if haV true M M r then 1 else 0) + (if haV false M H r then 1 else 0) := by
    show 0 + (if hxq L M H r 0 then 1 else 0) + (if hxq L M H r 1 then 1 else 0) + (if hxq L M H r 2 then 1 else 0) = _
    rw [Nat.zero_add]; rfl
  rw [e]
  unfold haV
  simp only [cq_lt, cq_eq, Bool.false_eq_true, if_false, if_true, Bool.and_eq_true, decide_eq_true_eq]
  by_cases g1 : L < r
  · by_cases g2 : r < M
    · rw [if_pos ⟨g1, g2⟩, if_neg (by grind), if_neg (by grind), if_pos ⟨g1, by grind⟩]
    · by_cases g3 : M = r
      · rw [if_neg (by grind), if_pos g3, if_neg (by grind), if_pos ⟨g1, by grind⟩]
      · by_cases g4 : r < H
        · rw [if_neg (by grind), if_neg g3, if_pos ⟨by grind, g4⟩, if_pos ⟨g1, g4⟩]
        · rw [if_neg (by grind), if_neg g3, if_neg (by grind), if_neg (by grind)]
  · rw [if_neg (by grind), if_neg (by grind), if_neg (by grind), if_neg (by grind)]
theorem lt3 {P : Nat → Prop} (h0 : P 0) (h1 : P 1) (h2 : P 2) : ∀ i, i < 3 → P i := fun i hi => by
  rcases (by omega : i = 0 ∨ i = 1 ∨ i = 2) with rfl | rfl | rfl
  · exact h0
  · exact h1
  · exact h2
def a6 : AC := .seq (.reg [qr 2 (.bx 37 (.t 0)),
 qr 3 (.bx 27 (.t 1)),
 qr 4 (.mv (.k (.b false)))])
 (.seq (.seq (.reg [qr 38 (.call 7 []),
 qr 39 (.un .not (.t 38))])
 (.cond (.t 39)
 (.seq (.reg [qr 4 (.mv (.k (.b false)))])
 (.ret))
 (.skip)))
 (.seq (.reg [qr 40 (.fad 2 (.t 2)),
 qr 41 (.ld false 1 (.t 40)),
 qr 42 (.cvt .u64 (.t 41)),
 qr 43 (.bin .rem (.t 42) (.k (.i .u64 200))),
 qr 44 (.cvt .i64 (.t 43)),
 qr 45 (.fad 2 (.t 2)),
 qn (.st 1 (.t 45) (.t 44))])
 (.seq (.seq (.reg [qr 46 (.fad 3 (.t 2)),
 qr 47 (.ld false 1 (.t 46))])
 (.cond (.t 47)
 (.seq (.reg [qr 49 (.ld true 4 (.t 2)),
 qr 50 (.call 33 [(1, (.t 49))]),
 qm 48 50,
 qr 51 (.ext (.t 48) 0),
 qr 52 (.ext (.t 48) 1),
 qr 53 (.ext (.t 48) 2),
 qr 54 (.ext (.t 48) 3),
 qr 5 (.al 37 [(.b false), (.l 1 []), (.i .i64 0), (.b false)]),
 qr 6 (.al 37 [(.b false), (.l 1 []), (.i .i64 0), (.b false)]),
 qr 7 (.al 37 [(.b false), (.l 1 []), (.i .i64 0), (.b false)]),
 qn (.st 4 (.t 5) (.t 51)),
 qn (.st 4 (.t 6) (.t 52)),
 qn (.st 4 (.t 7) (.t 53)),
 qm 8 54])
 (.seq (.reg [qm 55 8,
 qr 56 (.bin .eql (.t 55) (.k (.i .i64 3))),
 qm 4 56])
 (.ret)))
 (.skip)))
 (.seq (.reg [qr 58 (.ld true 4 (.t 2)),
 qr 59 (.call 33 [(1, (.t 58))]),
 qm 57 59,
 qr 60 (.ext (.t 57) 0),
 qr 61 (.ext (.t 57) 1),
 qr 62 (.ext (.t 57) 2),
 qr 63 (.ext (.t 57) 3),
 qr 9 (.al 37 [(.b false), (.l 1 []), (.i .i64 0), (.b false)]),
 qr 10 (.al 37 [(.b false), (.l 1 []), (.i .i64 0), (.b false)]),
 qr 11 (.al 37 [(.b false), (.l 1 []), (.i .i64 0), (.b false)]),
 qn (.st 4 (.t 9) (.t 60)),
 qn (.st 4 (.t 10) (.t 61)),
 qn (.st 4 (.t 11) (.t 62)),
 qm 12 63])
 (.seq (.seq (.reg [qm 64 12,
 qr 65 (.bin .neq (.t 64) (.k (.i .i64 0))),
 qm 66 65,
 ⟨some 67, some (66, false), .fad 3 (.t 10)⟩,
 ⟨some 68, some (66, false), .ld false 1 (.t 67)⟩,
 ⟨some 69, some (66, false), .un .not (.t 68)⟩,
 qr 70 (.pick (.t 66) (.k (.b true)) (.t 69)),
 qm 71 70,
 ⟨some 72, some (71, false), .fad 3 (.t 9)⟩,
 ⟨some 73, some (71, false), .ld false 1 (.t 72)⟩,
 qr 74 (.pick (.t 71) (.k (.b true)) (.t 73)),
 qm 75 74,
 ⟨some 76, some (75, false), .fad 3 (.t 11)⟩,
 ⟨some 77, some (75, false), .ld false 1 (.t 76)⟩,
 qr 78 (.pick (.t 75) (.k (.b true)) (.t 77))])
 (.cond (.t 78)
 (.seq (.reg [qr 4 (.mv (.k (.b false)))])
 (.ret))
 (.skip)))
 (.seq (.reg [qr 79 (.ld true 4 (.t 9)),
 qr 80 (.ld true 4 (.t 10)),
 qr 81 (.ld true 4 (.t 11)),
 qr 82 (.bsl 37 4 3 [(.b false), (.l 1 []), (.i .i64 0), (.b false), (.b false), (.l 1 []), (.i .i64 0), (.b false), (.b false), (.l 1 []), (.i .i64 0), (.b false)] [(0, (.t 79)), (1, (.t 80)), (2, (.t 81))]),
 qm 13 82])
 (.seq (.reg [qr 14 (.mv (.k (.i .i64 0)))])
 (.seq (.seq (.reg [qr 15 (.mv (.k (.i .i64 0)))])
 (.blk 0
 (.loop
 (.seq (.seq (.reg [qm 83 15,
 qr 84 (.bin .lss (.t 83) (.k (.i .i64 3)))])
 (.cond (.t 84)
 (.skip)
 (.exit 0)))
 (.seq (.blk 1
 (.seq (.reg [qm 88 13,
 qm 89 15,
 qr 90 (.idx 4 (.t 88) (.t 89)),
 qr 91 (.ld true 4 (.t 90)),
 qr 92 (.call 14 [(1, (.t 91))]),
 qm 87 92,
 qr 93 (.ext (.t 87) 0),
 qr 94 (.ext (.t 87) 1),
 qr 16 (.al 37 [(.b false), (.l 1 []), (.i .i64 0), (.b false)]),
 qn (.st 4 (.t 16) (.t 93)),
 qm 17 94])
 (.seq (.reg [qr 96 (.ld true 4 (.t 16)),
 qr 97 (.ld true 4 (.t 2)),
 qr 98 (.call 34 [(1, (.t 96)), (1, (.t 97))]),
 qm 95 98,
 qr 99 (.ext (.t 95) 0),
 qr 100 (.ext (.t 95) 1),
 qm 18 99,
 qm 19 100])
 (.seq (.dreg [qm 102 13,
 qm 103 15,
 qr 104 (.idx 4 (.t 102) (.t 103)),
 qr 105 (.ld true 4 (.t 104)),
 qr 106 (.ld true 4 (.t 2)),
 qr 107 (.call 35 [(1, (.t 105)), (1, (.t 106))]),
 qm 101 107,
 qr 108 (.ext (.t 101) 0),
 qr 109 (.ext (.t 101) 1),
 qm 20 108,
 qm 21 109])
 (.seq (.dreg [qr 111 (.ld true 4 (.t 2)),
 qm 112 13,
 qm 113 15,
 qr 114 (.idx 4 (.t 112) (.t 113)),
 qr 115 (.ld true 4 (.t 114)),
 qr 116 (.call 35 [(1, (.t 111)), (1, (.t 115))]),
 qm 110 116,
 qr 117 (.ext (.t 110) 0),
 qr 118 (.ext (.t 110) 1),
 qm 22 117,
 qm 23 118])
 (.seq (.dreg [qm 120 13,
 qm 121 15,
 qr 122 (.idx 4 (.t 120) (.t 121)),
 qr 123 (.ld true 4 (.t 122)),
 qr 124 (.ld true 4 (.t 2)),
 qr 125 (.call 19 [(1, (.t 123)), (1, (.t 124))]),
 qm 119 125,
 qr 126 (.ext (.t 119) 0),
 qr 127 (.ext (.t 119) 1),
 qm 24 126,
 qm 25 127])
 (.seq (.seq (.reg [qm 128 17,
 qr 129 (.bin .neq (.t 128) (.k (.i .i64 0))),
 qm 130 129,
 ⟨some 131, some (130, false), .mv (.t 19)⟩,
 ⟨some 132, some (130, false), .bin .neq (.t 131) (.k (.i .i64 0))⟩,
 qr 133 (.pick (.t 130) (.k (.b true)) (.t 132)),
 qm 134 133,
 ⟨some 135, some (134, false), .mv (.t 21)⟩,
 ⟨some 136, some (134, false), .bin .neq (.t 135) (.k (.i .i64 0))⟩,
 qr 137 (.pick (.t 134) (.k (.b true)) (.t 136)),
 qm 138 137,
 ⟨some 139, some (138, false), .mv (.t 23)⟩,
 ⟨some 140, some (138, false), .bin .neq (.t 139) (.k (.i .i64 0))⟩,
 qr 141 (.pick (.t 138) (.k (.b true)) (.t 140)),
 qm 142 141,
 ⟨some 143, some (142, false), .mv (.t 25)⟩,
 ⟨some 144, some (142, false), .bin .neq (.t 143) (.k (.i .i64 0))⟩,
 qr 145 (.pick (.t 142) (.k (.b true)) (.t 144)),
 qm 146 145,
 ⟨some 147, some (146, false), .mv (.t 18)⟩,
 ⟨some 148, some (146, false), .un .not (.t 147)⟩,
 qr 149 (.pick (.t 146) (.k (.b true)) (.t 148)),
 qm 150 149,
 ⟨some 151, some (150, false), .mv (.t 20)⟩,
 ⟨some 152, some (150, false), .un .not (.t 151)⟩,
 qr 153 (.pick (.t 150) (.k (.b true)) (.t 152)),
 qm 154 153,
 ⟨some 155, some (154, false), .mv (.t 22)⟩,
 qr 156 (.pick (.t 154) (.k (.b true)) (.t 155)),
 qm 157 156,
 ⟨some 158, some (157, false), .mv (.t 24)⟩,
 ⟨some 159, some (157, false), .bin .neq (.t 158) (.k (.i .i64 0))⟩,
 qr 160 (.pick (.t 157) (.k (.b true)) (.t 159))])
 (.cond (.t 160)
 (.seq (.reg [qr 4 (.mv (.k (.b false)))])
 (.ret))
 (.skip)))
 (.seq (.seq (.reg [qm 161 15,
 qr 162 (.bin .gtr (.t 161) (.k (.i .i64 0)))])
 (.cond (.t 162)
 (.seq (.dreg [qm 164 13,
 qm 165 15,
 qr 166 (.bin .sub (.t 165) (.k (.i .i64 1))),
 qr 167 (.idx 4 (.t 164) (.t 166)),
 qr 168 (.ld true 4 (.t 167)),
 qm 169 13,
 qm 170 15,
 qr 171 (.idx 4 (.t 169) (.t 170)),
 qr 172 (.ld true 4 (.t 171)),
 qr 173 (.call 19 [(1, (.t 168)), (1, (.t 172))]),
 qm 163 173,
 qr 174 (.ext (.t 163) 0),
 qr 175 (.ext (.t 163) 1),
 qm 26 174,
 qm 27 175])
 (.seq (.dreg [qm 177 13,
 qm 178 15,
 qr 179 (.bin .sub (.t 178) (.k (.i .i64 1))),
 qr 180 (.idx 4 (.t 177) (.t 179)),
 qr 181 (.ld true 4 (.t 180)),
 qm 182 13,
 qm 183 15,
 qr 184 (.idx 4 (.t 182) (.t 183)),
 qr 185 (.ld true 4 (.t 184)),
 qr 186 (.call 20 [(1, (.t 181)), (1, (.t 185))]),
 qm 176 186,
 qr 187 (.ext (.t 176) 0),
 qr 188 (.ext (.t 176) 1),
 qm 28 187,
 qm 29 188])
 (.seq (.reg [qm 189 27,
 qr 190 (.bin .neq (.t 189) (.k (.i .i64 0))),
 qm 191 190,
 ⟨some 192, some (191, false), .mv (.t 29)⟩,
 ⟨some 193, some (191, false), .bin .neq (.t 192) (.k (.i .i64 0))⟩,
 qr 194 (.pick (.t 191) (.k (.b true)) (.t 193)),
 qm 195 194,
 ⟨some 196, some (195, false), .mv (.t 26)⟩,
 ⟨some 197, some (195, false), .bin .neq (.t 196) (.k (.i .i64 (-1)))⟩,
 qr 198 (.pick (.t 195) (.k (.b true)) (.t 197)),
 qm 199 198,
 ⟨some 200, some (199, false), .mv (.t 28)⟩,
 ⟨some 201, some (199, false), .un .not (.t 200)⟩,
 qr 202 (.pick (.t 199) (.k (.b true)) (.t 201))])
 (.cond (.t 202)
 (.seq (.reg [qr 4 (.mv (.k (.b false)))])
 (.ret))
 (.skip)))))
 (.skip)))
 (.seq (.dreg [qm 204 13,
 qm 205 15,
 qr 206 (.idx 4 (.t 204) (.t 205)),
 qr 207 (.ld true 4 (.t 206)),
 qr 208 (.ld true 3 (.t 3)),
 qr 209 (.call 15 [(1, (.t 207)), (1, (.t 208))]),
 qm 203 209,
 qr 210 (.ext (.t 203) 0),
 qr 211 (.ext (.t 203) 1),
 qm 30 210,
 qm 31 211])
 (.seq (.seq (.reg [qm 212 31,
 qr 213 (.bin .eql (.t 212) (.k (.i .i64 0))),
 qr 214 (.ld true 3 (.t 3)),
 qr 215 (.call 9 [(1, (.t 214))]),
 qr 216 (.eqb true (.t 213) (.t 215))])
 (.cond (.t 216)
 (.seq (.reg [qr 4 (.mv (.k (.b false)))])
 (.ret))
 (.skip)))
 (.seq (.reg [qm 217 30])
 (.cond (.t 217)
 (.reg [qm 218 14,
 qr 219 (.bin .add (.t 218) (.k (.i .i64 1))),
 qm 14 219])
 (.skip)))))))))))))
 (.reg [qm 85 15,
 qr 86 (.bin .add (.t 85) (.k (.i .i64 1))),
 qm 15 86]))))))
 (.seq (.reg [qr 221 (.ld true 4 (.t 2)),
 qr 222 (.call 18 [(1, (.t 221))]),
 qm 220 222,
 qr 223 (.ext (.t 220) 0),
 qr 224 (.ext (.t 220) 1),
 qr 32 (.al 27 [(.b false), (.l 1 []), (.l 1 [])]),
 qn (.st 3 (.t 32) (.t 223)),
 qm 33 224])
 (.seq (.reg [qr 226 (.ld true 4 (.t 10)),
 qr 227 (.ld true 3 (.t 32)),
 qr 228 (.call 15 [(1, (.t 226)), (1, (.t 227))]),
 qm 225 228,
 qr 229 (.ext (.t 225) 0),
 qr 230 (.ext (.t 225) 1),
 qm 34 229,
 qm 35 230])
 (.seq (.reg [qr 232 (.ld true 4 (.t 2)),
 qr 233 (.ld true 3 (.t 3)),
 qr 234 (.call 15 [(1, (.t 232)), (1, (.t 233))]),
 qm 231 234,
 qr 235 (.ext (.t 231) 0),
 qr 236 (.ext (.t 231) 1),
 qm 36 235,
 qm 37 236])
 (.seq (.seq (.reg [qm 237 33,
 qr 238 (.bin .neq (.t 237) (.k (.i .i64 0))),
 qm 239 238,
 ⟨some 240, some (239, false), .mv (.t 35)⟩,
 ⟨some 241, some (239, false), .bin .neq (.t 240) (.k (.i .i64 0))⟩,
 qr 242 (.pick (.t 239) (.k (.b true)) (.t 241)),
 qm 243 242,
 ⟨some 244, some (243, false), .mv (.t 34)⟩,
 ⟨some 245, some (243, false), .un .not (.t 244)⟩,
 qr 246 (.pick (.t 243) (.k (.b true)) (.t 245))])
 (.cond (.t 246)
 (.seq (.reg [qr 4 (.mv (.k (.b false)))])
 (.ret))
 (.skip)))
 (.seq (.reg [qm 247 37,
 qr 248 (.bin .neq (.t 247) (.k (.i .i64 0))),
 qm 249 248,
 ⟨some 250, some (249, true), .ld true 3 (.t 3)⟩,
 ⟨some 251, some (249, true), .call 9 [(1, (.t 250))]⟩,
 ⟨some 252, some (249, true), .un .not (.t 251)⟩,
 qr 253 (.pick (.t 249) (.t 252) (.k (.b false))),
 qm 254 253,
 ⟨some 255, some (254, false), .mv (.t 36)⟩,
 ⟨some 256, some (254, false), .mv (.t 255)⟩,
 ⟨some 257, some (256, true), .mv (.t 14)⟩,
 ⟨some 258, some (256, true), .bin .eql (.t 257) (.k (.i .i64 1))⟩,
 ⟨some 259, some (254, false), .pick (.t 256) (.t 258) (.k (.b false))⟩,
 qr 260 (.pick (.t 254) (.k (.b true)) (.t 259)),
 qm 261 260,
 ⟨some 262, some (261, false), .mv (.t 36)⟩,
 ⟨some 263, some (261, false), .un .not (.t 262)⟩,
 ⟨some 264, some (261, false), .mv (.t 263)⟩,
 ⟨some 265, some (264, true), .mv (.t 14)⟩,
 ⟨some 266, some (264, true), .bin .eql (.t 265) (.k (.i .i64 0))⟩,
 ⟨some 267, some (261, false), .pick (.t 264) (.t 266) (.k (.b false))⟩,
 qr 268 (.pick (.t 261) (.k (.b true)) (.t 267)),
 qm 4 268])
 (.ret))))))))))))))
theorem chalvesP (s : Bool) (a : List Nat) (k : Int) (t : Bool) (b d : List Nat) (ha : Wd a) (la : a.length ≤ 1100000) (k1 : -9223372036854775808 ≤ k) (k2 : k < 9223372036854775808) : AFun Tryz.prog J0 6 [cL s a k true, rL t b d] (.b true) := by
  have kn := cknown_spec
  obtain ⟨n, hn2, hn⟩ := mod200u k k1 k2
  have h1 := chalve_spec s a (n : Int) true ha (by omega)
  rw [show hvE (n : Int) true = 3 from by unfold hvE; rw [if_neg (not_not_intro (ckE_0 (by omega) (by omega))), if_pos rfl], if_neg (by decide), if_neg (by decide), if_neg (by decide)] at h1
  generalize (n : Int) = nn at *
  refine mkQ fol J0s Tryz.func6 a6 ?_
  unfold a6
  simp only [init_eq, initE, qm, qr, qn]
  exact wdQ (ai @hn @bz_LCHalves)
set_option maxRecDepth 100000 in
theorem chalvesO (s : Bool) (a : List Nat) (k : Int) (t : Bool) (b d : List Nat) (ha : Wd a) (hb : Wd b) (hd : Wd d) (la : a.length ≤ 1100000) (lb : b.length ≤ 1100000) (ld : d.length ≤ 1100000) (k1 : -9223372036854775808 ≤ k) (k2 : k < 9223372036854775808) : AFun Tryz.prog J0 6 [cL s a k false, rL t b d] (.b true) := by
  have kn := cknown_spec
  obtain ⟨n, hn2, hn⟩ := mod200u k k1 k2
  have h1 := chalve_spec s a (n : Int) false ha (by omega)
  rw [show hvE (n : Int) false = 0 from by unfold hvE; rw [if_neg (not_not_intro (ckE_0 (by omega) (by omega))), if_neg (by decide), if_neg (by omega)], if_pos rfl, if_pos rfl, if_pos rfl, show (n : Int) + 1 = ((n + 1 : Nat) : Int) from rfl] at h1
  have o1 := rOk_spec t b d hd (by omega)
  obtain ⟨m1, m2⟩ := cmid_spec s a n 1100000 false (by omega) ha la (by decide) (by decide)
  obtain ⟨M0, hM⟩ : ∃ M : Nat, M = 1100000 := ⟨_, rfl⟩
  have b0 : (zv s a).natAbs < B ^ M0 := zv_lt ha (by omega)
  have mR := mid_R (zv s a) false n M0 b0 (by omega) (by omega)
  have b1 : (zv s a * 2).natAbs < B ^ (M0 + 1) := by
    rw [Int.natAbs_mul, show (2 : Int).natAbs = 2 from rfl, Nat.mul_two]; exact padd b0 b0
  have b2 : (zv s a * 2 + 1).natAbs < B ^ (M0 + 1 + 1) := hiN_abs (p := false) b1
  have l1 : (dg B (zv s a * 2).natAbs).length ≤ 1100002 := Nat.le_trans (dlen b1) (by omega)
  have l2 : (dg B (zv s a * 2 + 1).natAbs).length ≤ 1100002 := Nat.le_trans (dlen b2) (by omega)
  have l0 : (dg B (zv s a).natAbs).length ≤ 1100002 := Nat.le_trans (dlen b0) (by omega)
  obtain ⟨q1, q2, q3, q4, q5⟩ := hv_ends (zv s a) n
  have q6 : loQ (zv s a) n < loQ (zv s a + 1) n := by grind
  have f0 : hiN (zv s a) false = zv s a + 1 := rfl
  have f1 : hiN (zv s a * 2) false = zv s a * 2 + 1 := rfl
  have f2 : hiN (zv s a * 2 + 1) true = zv s a * 2 + 1 := rfl
  have f3 : hiN (zv s a * 2 + 1) false = zv s a * 2 + 2 := by show zv s a * 2 + 1 + 1 = _; omega
  have k1' : n + 1 ≤ 1048576 := by omega
  have uE : upE ((n + 1 : Nat) : Int) = 0 := by unfold upE; rw [if_neg (not_not_intro (ckE_0 (by omega) (by omega))), if_neg (by omega)]
  have un : ((n + 1 : Nat) : Int) - 1 = (n : Int) := by omega
  have U0 := cup_spec (decide (zv s a * 2 < 0)) (dg B (zv s a * 2).natAbs) ((n + 1 : Nat) : Int) false (Wd_dg _) (by omega)
  have U1 := cup_spec (decide (zv s a * 2 + 1 < 0)) (dg B (zv s a * 2 + 1).natAbs) ((n + 1 : Nat) : Int) true (Wd_dg _) (by omega)
  have U2 := cup_spec (decide (zv s a * 2 + 1 < 0)) (dg B (zv s a * 2 + 1).natAbs) ((n + 1 : Nat) : Int) false (Wd_dg _) (by omega)
  have g0 : (zv s a * 2).fdiv 2 = zv s a := by rw [Int.fdiv_eq_ediv_of_nonneg _ (by decide)]; omega
  have g1 : (zv s a * 2 + 1).fdiv 2 = zv s a := by rw [Int.fdiv_eq_ediv_of_nonneg _ (by decide)]; omega
  have g2 : decide ((zv s a * 2 + 1) % 2 = 0) = false := decide_eq_false (by omega)
  rw [zv_N, uE, if_pos rfl, un, g0, Bool.false_and] at U0
  rw [zv_N, uE, if_pos rfl, un, g1, g2, Bool.and_false] at U1
  rw [zv_N, uE, if_pos rfl, un, g1, Bool.false_and] at U2
  have UU : ∀ i, i < 3 → AFun Tryz.prog J0 14 [cX (thr (zv s a) n) i] (.t [cN (zv s a) (n : Int) false, .i .i64 0]) := lt3 U0 U1 U2
  have S0 := csame_spec (decide (zv s a < 0)) s (dg B (zv s a).natAbs) a n n 1100002 false false (by omega) (by omega) (Wd_dg _) ha l0 (by omega) (by decide)
  rw [zv_N, show eqV false false (loQ (zv s a) n) (loQ (hiN (zv s a) false) n) (loQ (zv s a) n) (loQ (hiN (zv s a) false) n) = true from by unfold eqV; rw [cq_z, cq_z]; rfl] at S0
  have I0 := cwithin_spec (decide (zv s a * 2 < 0)) s (dg B (zv s a * 2).natAbs) a (n + 1) n 1100002 false false k1' (by omega) (Wd_dg _) ha l1 (by omega) (by decide)
  have I1 := cwithin_spec (decide (zv s a * 2 + 1 < 0)) s (dg B (zv s a * 2 + 1).natAbs) a (n + 1) n 1100002 true false k1' (by omega) (Wd_dg _) ha l2 (by omega) (by decide)
  have I2 := cwithin_spec (decide (zv s a * 2 + 1 < 0)) s (dg B (zv s a * 2 + 1).natAbs) a (n + 1) n 1100002 false false k1' (by omega) (Wd_dg _) ha l2 (by omega) (by decide)
  rw [zv_N, f1, f0, q1, show wiV false false (loQ (zv s a) n) (loQ (zv s a * 2 + 1) (n + 1)) (loQ (zv s a) n) (loQ (zv s a + 1) n) = true from by unfold wiV; rw [if_neg (by decide), cq_z, cq_m q4]; rfl] at I0
  rw [zv_N, f2, f0, show wiV true false (loQ (zv s a * 2 + 1) (n + 1)) (loQ (zv s a * 2 + 1) (n + 1)) (loQ (zv s a) n) (loQ (zv s a + 1) n) = true from by unfold wiV; rw [if_pos rfl, if_neg (by decide), cq_m q3, cq_m q4]; rfl] at I1
  rw [zv_N, f3, f0, q2, show wiV false false (loQ (zv s a * 2 + 1) (n + 1)) (loQ (zv s a + 1) n) (loQ (zv s a) n) (loQ (zv s a + 1) n) = true from by unfold wiV; rw [if_neg (by decide), cq_z, cq_m q3]; rfl] at I2
  have II : ∀ i, i < 3 → AFun Tryz.prog J0 35 [cX (thr (zv s a) n) i, cL s a (n : Int) false] (.t [.b true, .i .i64 0]) := lt3 I0 I1 I2
  have O0 := cwithin_spec s (decide (zv s a * 2 < 0)) a (dg B (zv s a * 2).natAbs) n (n + 1) 1100002 false false (by omega) k1' ha (Wd_dg _) (by omega) l1 (by decide)
  have O1 := cwithin_spec s (decide (zv s a * 2 + 1 < 0)) a (dg B (zv s a * 2 + 1).natAbs) n (n + 1) 1100002 false true (by omega) k1' ha (Wd_dg _) (by omega) l2 (by decide)
  have O2 := cwithin_spec s (decide (zv s a * 2 + 1 < 0)) a (dg B (zv s a * 2 + 1).natAbs) n (n + 1) 1100002 false false (by omega) k1' ha (Wd_dg _) (by omega) l2 (by decide)
  rw [zv_N, f1, f0, q1, show wiV false false (loQ (zv s a) n) (loQ (zv s a + 1) n) (loQ (zv s a) n) (loQ (zv s a * 2 + 1) (n + 1)) = false from by unfold wiV; rw [if_neg (by decide), cq_z, cq_p q4]; rfl] at O0
  rw [zv_N, f2, f0, show wiV false true (loQ (zv s a) n) (loQ (zv s a + 1) n) (loQ (zv s a * 2 + 1) (n + 1)) (loQ (zv s a * 2 + 1) (n + 1)) = false from rfl] at O1
  rw [zv_N, f3, f0, q2, show wiV false false (loQ (zv s a) n) (loQ (zv s a + 1) n) (loQ (zv s a * 2 + 1) (n + 1)) (loQ (zv s a + 1) n) = false from by unfold wiV; rw [if_neg (by decide), cq_p q3]; rfl] at O2
  have OO : ∀ i, i < 3 → AFun Tryz.prog J0 35 [cL s a (n : Int) false, cX (thr (zv s a) n) i] (.t [.b false, .i .i64 0]) := lt3 O0 O1 O2
  have C0 := ccmp_spec (decide (zv s a * 2 < 0)) s (dg B (zv s a * 2).natAbs) a (n + 1) n 1100002 false false k1' (by omega) (Wd_dg _) ha l1 (by omega) (by decide)
  have C1 := ccmp_spec (decide (zv s a * 2 + 1 < 0)) s (dg B (zv s a * 2 + 1).natAbs) a (n + 1) n 1100002 true false k1' (by omega) (Wd_dg _) ha l2 (by omega) (by decide)
  have C2 := ccmp_spec (decide (zv s a * 2 + 1 < 0)) s (dg B (zv s a * 2 + 1).natAbs) a (n + 1) n 1100002 false false k1' (by omega) (Wd_dg _) ha l2 (by omega) (by decide)
  rw [zv_N, f1, f0, q1, cq_p q3, cq_m q6, cp_9] at C0
  rw [zv_N, f2, f0, cq_p q3, cq_m q4, cp_9] at C1
  rw [zv_N, f3, f0, q2, cq_p q6, cq_m q4, cp_9] at C2
  have CCm : ∀ i, i < 3 → AFun Tryz.prog J0 19 [cX (thr (zv s a) n) i, cL s a (n : Int) false] (.t [.i .i64 0, .i .i64 0]) := lt3 C0 C1 C2
  have D0 := ccmp_spec (decide (zv s a * 2 < 0)) (decide (zv s a * 2 + 1 < 0)) (dg B (zv s a * 2).natAbs) (dg B (zv s a * 2 + 1).natAbs) (n + 1) (n + 1) 1100002 false true k1' k1' (Wd_dg _) (Wd_dg _) l1 l2 (by decide)
  have D1 := ccmp_spec (decide (zv s a * 2 + 1 < 0)) (decide (zv s a * 2 + 1 < 0)) (dg B (zv s a * 2 + 1).natAbs) (dg B (zv s a * 2 + 1).natAbs) (n + 1) (n + 1) 1100002 true false k1' k1' (Wd_dg _) (Wd_dg _) l2 l2 (by decide)
  rw [zv_N, zv_N, f1, f2, cq_z, cp_2''] at D0
  rw [zv_N, f2, cq_z, cp_2'] at D1
  have DD : ∀ i, 0 < i → i < 3 → AFun Tryz.prog J0 19 [cX (thr (zv s a) n) (i - 1), cX (thr (zv s a) n) i] (.t [.i .i64 (-1), .i .i64 0]) := fun i h1 h2 => by
    rcases (by omega : i = 1 ∨ i = 2) with rfl | rfl
    · exact D0
    · exact D1
  have T0 := ctouch_spec (decide (zv s a * 2 < 0)) (decide (zv s a * 2 + 1 < 0)) (dg B (zv s a * 2).natAbs) (dg B (zv s a * 2 + 1).natAbs) (n + 1) (n + 1) 1100002 false true k1' k1' (Wd_dg _) (Wd_dg _) l1 l2 (by decide)
  have T1 := ctouch_spec (decide (zv s a * 2 + 1 < 0)) (decide (zv s a * 2 + 1 < 0)) (dg B (zv s a * 2 + 1).natAbs) (dg B (zv s a * 2 + 1).natAbs) (n + 1) (n + 1) 1100002 true false k1' k1' (Wd_dg _) (Wd_dg _) l2 l2 (by decide)
  rw [zv_N, zv_N, f1, f2, q1, cq_z, cq_m q3, show (decide ((0 : Int) ≤ 0) && decide ((-1 : Int) ≤ 0)) = true from rfl] at T0
  rw [zv_N, f2, f3, q2, cq_z, cq_m q4, show (decide ((0 : Int) ≤ 0) && decide ((-1 : Int) ≤ 0)) = true from rfl] at T1
  have TT : ∀ i, 0 < i → i < 3 → AFun Tryz.prog J0 20 [cX (thr (zv s a) n) (i - 1), cX (thr (zv s a) n) i] (.t [.b true, .i .i64 0]) := fun i h1 h2 => by
    rcases (by omega : i = 1 ∨ i = 2) with rfl | rfl
    · exact T0
    · exact T1
  have Hm := cholds_spec (decide (zv s a * 2 + 1 < 0)) (dg B (zv s a * 2 + 1).natAbs) (n + 1) 1100002 true k1' (Wd_dg _) l2 (Rr_up mR (by omega : M0 + 2 ≤ 1100002)) (by decide) (by decide)
  rw [zv_N, f2, f0, q5, show haV true (loQ (zv s a * 2 + 1) (n + 1)) (loQ (zv s a * 2 + 1) (n + 1)) (loQ (zv s a * 2 + 1) (n + 1)) = true from by unfold haV; rw [if_pos rfl, cq_z]; rfl] at Hm
  rw [f0, q5] at m1
  have num : ∃ (hx : Nat → Bool) (he : Int) (hc : Bool), (∀ i, i < 3 → AFun Tryz.prog J0 15 [cX (thr (zv s a) n) i, rL t b d] (.t [.b (hx i), .i .i64 he])) ∧ AFun Tryz.prog J0 15 [cL s a (n : Int) false, rL t b d] (.t [.b hc, .i .i64 he]) ∧
      ((nv B d = 0 ∧ he = 1 ∧ (∀ i, hx i = false) ∧ hc = false) ∨ (nv B d ≠ 0 ∧ he = 0 ∧ cnq hx 3 = if hc then 1 else 0)) := by
    by_cases h0 : nv B d = 0
    · refine ⟨fun _ => false, 1, false, lt3 ?_ ?_ ?_, ?_, .inl ⟨h0, rfl, fun _ => rfl, rfl⟩⟩
      · exact cholds0_spec _ _ (n + 1) 1100002 _ t b d k1' (Wd_dg _) l1 hb hd (by omega) (by omega) h0 (by decide) (by decide)
      · exact cholds0_spec _ _ (n + 1) 1100002 _ t b d k1' (Wd_dg _) l2 hb hd (by omega) (by omega) h0 (by decide) (by decide)
      · exact cholds0_spec _ _ (n + 1) 1100002 _ t b d k1' (Wd_dg _) l2 hb hd (by omega) (by omega) h0 (by decide) (by decide)
      · exact cholds0_spec s a n 1100000 _ t b d (by omega) ha la hb hd lb ld h0 (by decide) (by decide)
    · have hv := Rr_raw (s := t) hb hd lb ld h0
      have hv2 := Rr_up hv (by decide : 1100000 ≤ 1100002)
      have A0 := cholds_spec (decide (zv s a * 2 < 0)) (dg B (zv s a * 2).natAbs) (n + 1) 1100002 false k1' (Wd_dg _) l1 hv2 (by decide) (by decide)
      have A1 := cholds_spec (decide (zv s a * 2 + 1 < 0)) (dg B (zv s a * 2 + 1).natAbs) (n + 1) 1100002 true k1' (Wd_dg _) l2 hv2 (by decide) (by decide)
      have A2 := cholds_spec (decide (zv s a * 2 + 1 < 0)) (dg B (zv s a * 2 + 1).natAbs) (n + 1) 1100002 false k1' (Wd_dg _) l2 hv2 (by decide) (by decide)
      have A3 := cholds_spec s a n 1100000 false (by omega) ha la hv (by decide) (by decide)
      rw [zv_N, f1, q1] at A0
      rw [zv_N, f2] at A1
      rw [zv_N, f3, q2] at A2
      rw [f0] at A3
      exact ⟨hxq (loQ (zv s a) n) (loQ (zv s a * 2 + 1) (n + 1)) (loQ (zv s a + 1) n) (mkRat (zv t b) (nv B d)), 0, _, lt3 A0 A1 A2, A3, .inr ⟨h0, rfl, cnq_law q3 q4⟩⟩
  obtain ⟨hx, he0, hc, HH, Hc, hnum⟩ := num
  have row := fun i (h : i < 3) => CC_row (thr (zv s a) n) i h
  have hz : (CC (thr (zv s a) n)).length = 12 := rfl
  have e12 : CC (thr (zv s a) n) = [.b (decide (zv s a * 2 < 0)), .l 1 (W (dg B (zv s a * 2).natAbs)), .i .i64 ((n + 1 : Nat) : Int), .b false, .b (decide (zv s a * 2 + 1 < 0)), .l 1 (W (dg B (zv s a * 2 + 1).natAbs)), .i .i64 ((n + 1 : Nat) : Int), .b true, .b (decide (zv s a * 2 + 1 < 0)), .l 1 (W (dg B (zv s a * 2 + 1).natAbs)), .i .i64 ((n + 1 : Nat) : Int), .b false] := rfl
  clear U0 U1 U2 I0 I1 I2 O0 O1 O2 C0 C1 C2 D0 D1 T0 T1 q1 q2 q3 q4 q5 q6 f0 f1 f2 f3 g0 g1 g2 uE un mR m2 b0 b1 b2 l0 l1 l2
  generalize hT : thr (zv s a) n = T at *
  generalize loQ (zv s a * 2 + 1) (n + 1) = M at *
  generalize hz2 : zv s a * 2 + 1 = z2 at *
  generalize hz1 : zv s a * 2 = z1 at *
  generalize hz0 : zv s a = z0 at *
  clear hT hz2 hz1 hz0
  generalize ((n + 1 : Nat) : Int) = nn1 at *
  generalize (n : Int) = nn at *
  generalize CC T = cs at *
  have cle : ∀ i, cnq hx i ≤ i := fun i => by
    induction i with
    | zero => exact Nat.le_refl _
    | succ i ih => show cnq hx i + (if hx i then 1 else 0) ≤ _; split <;> omega
  rcases hnum with ⟨h0, rfl, hall, rfl⟩ | ⟨h0, rfl, hcnt⟩
  · rw [decide_eq_true h0] at o1
    refine mkQ fol J0s Tryz.func6 a6 ?_
    unfold a6
    simp only [init_eq, initE, qm, qr, qn]
    refine wkQ (ai @hn @bz_LCHalves) ?_
    refine vm_loopA [] Nat (fun i => ⟨[(2, .pt 0 0), (3, .pt 1 0), (10, .pt 2 0), (13, .ow 4 3 3), (14, .i .i64 (cnq hx i : Int)), (15, .i .i64 (i : Int))],
        [(0, some ⟨37, 4, [.b s, .l 1 (W a), .i .i64 nn, .b false], true, true⟩), (1, some ⟨27, 3, [.b t, .l 1 (W b), .l 1 (W d)], true, true⟩), (2, some ⟨37, 4, [.b (decide (z2 < 0)), .l 1 (W (dg B z2.natAbs)), .i .i64 nn1, .b true], true, true⟩), (3, some ⟨37, 4, cs, true, false⟩)], 4⟩)
      (fun i => i ≤ 3) (fun i => 3 - i) 0 (Nat.zero_le _) (by exact leQ) (by
      simp (disch := (first | omega | assumption)) only [Sl, Sa, Sw, ↓reduceIte, Nat.reduceEqDiff, Nat.reduceLT, List.all_nil, List.all_cons, Nat.reduceBneDiff, Nat.reduceAdd, bne_iff_ne, ne_eq, reduceCtorEq, not_false_eq_true, not_true_eq_false, Bool.and_true, Bool.true_and, and_true, true_and, and_self, i_eq]
      first | exact e12.symm | exact ⟨rfl, e12.symm⟩ | exact ⟨rfl, rfl, e12.symm⟩ | exact ⟨⟨rfl, rfl⟩, e12.symm⟩) ?_
    intro i hi Q' hQ he hr
    have cl := cle i
    by_cases h : (i : Int) < 3
    · have hi3 : i < 3 := by omega
      have UUi := UU i hi3
      have IIi := II i hi3
      have OOi := OO i hi3
      have CCi := CCm i hi3
      have Hi := HH i hi3
      have rowi := row i hi3
      simp only [cX] at UUi IIi OOi CCi Hi
      have e := hall i
      rw [e] at Hi
      have ec : cnq hx (i + 1) = cnq hx i := by show cnq hx i + (if hx i then 1 else 0) = _; rw [e]; rfl
      clear e
      by_cases g : (0 : Int) < (i : Int)
      · have DDi := DD i (by omega) hi3
        have TTi := TT i (by omega) hi3
        have rowp := row (i - 1) (by omega)
        simp only [cX] at DDi TTi
        have w1 : IntKind.i64.wrap ((i : Int) - 1) = ((i - 1 : Nat) : Int) := by rw [wi (by omega)]; omega
        have h' : ((i - 1 : Nat) : Int) < (3 : Int) := by omega
        have h'' : i - 1 < 3 := by omega
        generalize T.getD (i - 1) nulC = y at *
        generalize T.getD i nulC = x at *
        have zc1 := UUi
        have zc2 := S0
        have zc3 := IIi
        have zc4 := OOi
        have zc5 := CCi
        have zc6 := DDi
        have zc7 := TTi
        have zc8 := Hi
        refine wkQ (ai @g (ai @h'' (ai @h' (ai @w1 (ai @rowp (ai @rowi (ai @hz (ai @h @bz_LCHalves)))))))) ?_
        refine hQ _ (i + 1) (by omega) (by omega) ?_
        simp (disch := (first | omega | assumption)) only [Sl, Sa, Sw, ↓reduceIte, Nat.reduceEqDiff, Nat.reduceLT, List.all_nil, List.all_cons, Nat.reduceBneDiff, Nat.reduceAdd, bne_iff_ne, ne_eq, reduceCtorEq, not_false_eq_true, not_true_eq_false, Bool.and_true, Bool.true_and, and_true, true_and, and_self, i_eq]
        refine ⟨?_, ?_⟩ <;> omega
      · generalize T.getD i nulC = x at *
        have zc9 := UUi
        have zc10 := S0
        have zc11 := IIi
        have zc12 := OOi
        have zc13 := CCi
        have zc14 := Hi
        refine wkQ (ai @g (ai @rowi (ai @hz (ai @h @bz_LCHalves)))) ?_
        refine hQ _ (i + 1) (by omega) (by omega) ?_
        simp (disch := (first | omega | assumption)) only [Sl, Sa, Sw, ↓reduceIte, Nat.reduceEqDiff, Nat.reduceLT, List.all_nil, List.all_cons, Nat.reduceBneDiff, Nat.reduceAdd, bne_iff_ne, ne_eq, reduceCtorEq, not_false_eq_true, not_true_eq_false, Bool.and_true, Bool.true_and, and_true, true_and, and_self, i_eq]
        refine ⟨?_, ?_⟩ <;> omega
    · obtain rfl : i = 3 := by omega
      have kq : ¬ ((3 : Nat) : Int) < 3 := by decide
      generalize cnq hx 3 = q at *
      refine spQ (ai @kq @bz_LCHalves) ?_
      refine he _ _ ?_
      have zc15 := m1
      have zc16 := Hm
      have zc17 := Hc
      exact wdQ @bz_LCHalves
  · rw [decide_eq_false h0] at o1
    refine mkQ fol J0s Tryz.func6 a6 ?_
    unfold a6
    simp only [init_eq, initE, qm, qr, qn]
    refine wkQ (ai @hn @bz_LCHalves) ?_
    refine vm_loopA [] Nat (fun i => ⟨[(2, .pt 0 0), (3, .pt 1 0), (10, .pt 2 0), (13, .ow 4 3 3), (14, .i .i64 (cnq hx i : Int)), (15, .i .i64 (i : Int))],
        [(0, some ⟨37, 4, [.b s, .l 1 (W a), .i .i64 nn, .b false], true, true⟩), (1, some ⟨27, 3, [.b t, .l 1 (W b), .l 1 (W d)], true, true⟩), (2, some ⟨37, 4, [.b (decide (z2 < 0)), .l 1 (W (dg B z2.natAbs)), .i .i64 nn1, .b true], true, true⟩), (3, some ⟨37, 4, cs, true, false⟩)], 4⟩)
      (fun i => i ≤ 3) (fun i => 3 - i) 0 (Nat.zero_le _) (by exact leQ) (by
      simp (disch := (first | omega | assumption)) only [Sl, Sa, Sw, ↓reduceIte, Nat.reduceEqDiff, Nat.reduceLT, List.all_nil, List.all_cons, Nat.reduceBneDiff, Nat.reduceAdd, bne_iff_ne, ne_eq, reduceCtorEq, not_false_eq_true, not_true_eq_false, Bool.and_true, Bool.true_and, and_true, true_and, and_self, i_eq]
      first | exact e12.symm | exact ⟨rfl, e12.symm⟩ | exact ⟨rfl, rfl, e12.symm⟩ | exact ⟨⟨rfl, rfl⟩, e12.symm⟩) ?_
    intro i hi Q' hQ he hr
    have cl := cle i
    by_cases h : (i : Int) < 3
    · have hi3 : i < 3 := by omega
      have UUi := UU i hi3
      have IIi := II i hi3
      have OOi := OO i hi3
      have CCi := CCm i hi3
      have Hi := HH i hi3
      have rowi := row i hi3
      simp only [cX] at UUi IIi OOi CCi Hi
      cases hxi : hx i
      · rw [hxi] at Hi
        have ec : cnq hx (i + 1) = cnq hx i := by show cnq hx i + (if hx i then 1 else 0) = _; rw [hxi]; rfl
        clear hxi
        by_cases g : (0 : Int) < (i : Int)
        · have DDi := DD i (by omega) hi3
          have TTi := TT i (by omega) hi3
          have rowp := row (i - 1) (by omega)
          simp only [cX] at DDi TTi
          have w1 : IntKind.i64.wrap ((i : Int) - 1) = ((i - 1 : Nat) : Int) := by rw [wi (by omega)]; omega
          have h' : ((i - 1 : Nat) : Int) < (3 : Int) := by omega
          have h'' : i - 1 < 3 := by omega
          generalize T.getD (i - 1) nulC = y at *
          generalize T.getD i nulC = x at *
          have zc18 := UUi
          have zc19 := S0
          have zc20 := IIi
          have zc21 := OOi
          have zc22 := CCi
          have zc23 := DDi
          have zc24 := TTi
          have zc25 := Hi
          refine wkQ (ai @g (ai @h'' (ai @h' (ai @w1 (ai @rowp (ai @rowi (ai @hz (ai @h @bz_LCHalves)))))))) ?_
          refine hQ _ (i + 1) (by omega) (by omega) ?_
          simp (disch := (first | omega | assumption)) only [Sl, Sa, Sw, ↓reduceIte, Nat.reduceEqDiff, Nat.reduceLT, List.all_nil, List.all_cons, Nat.reduceBneDiff, Nat.reduceAdd, bne_iff_ne, ne_eq, reduceCtorEq, not_false_eq_true, not_true_eq_false, Bool.and_true, Bool.true_and, and_true, true_and, and_self, i_eq]
          refine ⟨?_, ?_⟩ <;> omega
        · generalize T.getD i nulC = x at *
          have zc26 := UUi
          have zc27 := S0
          have zc28 := IIi
          have zc29 := OOi
          have zc30 := CCi
          have zc31 := Hi
          refine wkQ (ai @g (ai @rowi (ai @hz (ai @h @bz_LCHalves)))) ?_
          refine hQ _ (i + 1) (by omega) (by omega) ?_
          simp (disch := (first | omega | assumption)) only [Sl, Sa, Sw, ↓reduceIte, Nat.reduceEqDiff, Nat.reduceLT, List.all_nil, List.all_cons, Nat.reduceBneDiff, Nat.reduceAdd, bne_iff_ne, ne_eq, reduceCtorEq, not_false_eq_true, not_true_eq_false, Bool.and_true, Bool.true_and, and_true, true_and, and_self, i_eq]
          refine ⟨?_, ?_⟩ <;> omega
      · rw [hxi] at Hi
        have ec : cnq hx (i + 1) = cnq hx i + 1 := by show cnq hx i + (if hx i then 1 else 0) = _; rw [hxi]; rfl
        clear hxi
        have wc : IntKind.i64.wrap ((cnq hx i : Int) + 1) = (cnq hx i : Int) + 1 := wi (by omega)
        by_cases g : (0 : Int) < (i : Int)
        · have DDi := DD i (by omega) hi3
          have TTi := TT i (by omega) hi3
          have rowp := row (i - 1) (by omega)
          simp only [cX] at DDi TTi
          have w1 : IntKind.i64.wrap ((i : Int) - 1) = ((i - 1 : Nat) : Int) := by rw [wi (by omega)]; omega
          have h' : ((i - 1 : Nat) : Int) < (3 : Int) := by omega
          have h'' : i - 1 < 3 := by omega
          generalize T.getD (i - 1) nulC = y at *
          generalize T.getD i nulC = x at *
          have zc32 := UUi
          have zc33 := S0
          have zc34 := IIi
          have zc35 := OOi
          have zc36 := CCi
          have zc37 := DDi
          have zc38 := TTi
          have zc39 := Hi
          refine wkQ (ai @wc (ai @g (ai @h'' (ai @h' (ai @w1 (ai @rowp (ai @rowi (ai @hz (ai @h @bz_LCHalves))))))))) ?_
          refine hQ _ (i + 1) (by omega) (by omega) ?_
          simp (disch := (first | omega | assumption)) only [Sl, Sa, Sw, ↓reduceIte, Nat.reduceEqDiff, Nat.reduceLT, List.all_nil, List.all_cons, Nat.reduceBneDiff, Nat.reduceAdd, bne_iff_ne, ne_eq, reduceCtorEq, not_false_eq_true, not_true_eq_false, Bool.and_true, Bool.true_and, and_true, true_and, and_self, i_eq]
          refine ⟨?_, ?_⟩ <;> omega
        · generalize T.getD i nulC = x at *
          have zc40 := UUi
          have zc41 := S0
          have zc42 := IIi
          have zc43 := OOi
          have zc44 := CCi
          have zc45 := Hi
          refine wkQ (ai @wc (ai @g (ai @rowi (ai @hz (ai @h @bz_LCHalves))))) ?_
          refine hQ _ (i + 1) (by omega) (by omega) ?_
          simp (disch := (first | omega | assumption)) only [Sl, Sa, Sw, ↓reduceIte, Nat.reduceEqDiff, Nat.reduceLT, List.all_nil, List.all_cons, Nat.reduceBneDiff, Nat.reduceAdd, bne_iff_ne, ne_eq, reduceCtorEq, not_false_eq_true, not_true_eq_false, Bool.and_true, Bool.true_and, and_true, true_and, and_self, i_eq]
          refine ⟨?_, ?_⟩ <;> omega
    · obtain rfl : i = 3 := by omega
      have kq : ¬ ((3 : Nat) : Int) < 3 := by decide
      generalize cnq hx 3 = q at *
      cases hc
      · replace hcnt : q = 0 := hcnt
        subst hcnt
        refine spQ (ai @kq @bz_LCHalves) ?_
        refine he _ _ ?_
        have zc46 := m1
        have zc47 := Hm
        have zc48 := Hc
        exact wdQ @bz_LCHalves
      · replace hcnt : q = 1 := hcnt
        subst hcnt
        refine spQ (ai @kq @bz_LCHalves) ?_
        refine he _ _ ?_
        have zc49 := m1
        have zc50 := Hm
        have zc51 := Hc
        exact wdQ @bz_LCHalves
theorem cellsHalves_spec (s : Bool) (a : List Nat) (k : Int) (p : Bool) (t : Bool) (b d : List Nat) (ha : Wd a) (hb : Wd b) (hd : Wd d) (la : a.length ≤ 1100000) (lb : b.length ≤ 1100000) (ld : d.length ≤ 1100000) (k1 : -9223372036854775808 ≤ k) (k2 : k < 9223372036854775808) : AFun Tryz.prog J0 6 [cL s a k p, rL t b d] (.b true) := by
  cases p
  · exact chalvesO s a k t b d ha hb hd la lb ld k1 k2
  · exact chalvesP s a k t b d ha la k1 k2
end Go.Proofs.YtfcpigjmagbnkaaGreatDoor
