/-
  QqOrder: the law's walk.
-/
import Derived.Test.YtlhadigkmlldeaaGreatDoorQ23
import Derived.Test.YtlhadigkmlldeaaGreatDoorLQTk
namespace Go.Proofs.YtlhadigkmlldeaaGreatDoor
open Go Go.RowKit Ab
set_option linter.unusedSimpArgs false
set_option linter.unusedVariables false
set_option maxHeartbeats 10000000
theorem bz_LQOrder : type_of% (And.intro @W_len (And.intro @D_len (And.intro @Nat.div_one (And.intro @Nat.mul_one (And.intro @tn_nat (And.intro @W_nf (And.intro @D_nf (And.intro @W_nil (And.intro @D_nil (And.intro @wi (And.intro @nf_g (And.intro @Bool.false_and (@W_cell))))))))))))) := And.intro @W_len (And.intro @D_len (And.intro @Nat.div_one (And.intro @Nat.mul_one (And.intro @tn_nat (And.intro @W_nf (And.intro @D_nf (And.intro @W_nil (And.intro @D_nil (And.intro @wi (And.intro @nf_g (And.intro @Bool.false_and (@W_cell))))))))))))

theorem mod200 (k : Int) : -200 < k.tmod 200 ∧ k.tmod 200 < 200 := by
  have h1 := Int.tmod_lt_of_pos k (show (0 : Int) < 200 by decide)
  have h2 := Int.lt_tmod_of_pos k (show (0 : Int) < 200 by decide)
  omega
theorem zpos_q {z : Int} {d : Nat} (hd : d ≠ 0) : (cq (mkRat z d) 0 ≤ 0) = (z ≤ 0) := by
  rw [← sgz_q z hd]
  unfold sgz
  split
  · exact propext ⟨fun _ => by omega, fun _ => by decide⟩
  · split
    · exact propext ⟨fun h => absurd h (by decide), fun h => by omega⟩
    · exact propext ⟨fun _ => by omega, fun _ => by decide⟩
theorem bneg (a : Int) : (!decide (a = -a)) = false ∨ True := .inr trivial
-- surd/surdlaw08.QqOrder
def a5 : AC := .seq (.reg [qr 1 (.bx 30 (.t 0)),
 qr 2 (.mv (.k (.b false)))])
 (.seq (.seq (.reg [qr 45 (.call 9 []),
 qr 46 (.un .not (.t 45))])
 (.cond (.t 46)
 (.seq (.reg [qr 2 (.mv (.k (.b false)))])
 (.ret))
 (.skip)))
 (.seq (.reg [qr 47 (.ld true 18 (.t 1)),
 qr 48 (.call 10 [(1, (.t 47))]),
 qn (.st 18 (.t 1) (.t 48))])
 (.seq (.seq (.reg [qr 49 (.fad 0 (.t 1)),
 qr 50 (.ld true 3 (.t 49)),
 qr 51 (.call 11 [(1, (.t 50))]),
 qr 52 (.un .not (.t 51)),
 qm 53 52,
 ⟨some 54, some (53, false), .fad 3 (.t 1)⟩,
 ⟨some 55, some (53, false), .ld true 3 (.t 54)⟩,
 ⟨some 56, some (53, false), .call 11 [(1, (.t 55))]⟩,
 ⟨some 57, some (53, false), .un .not (.t 56)⟩,
 qr 58 (.pick (.t 53) (.k (.b true)) (.t 57)),
 qm 59 58,
 ⟨some 60, some (59, false), .fad 6 (.t 1)⟩,
 ⟨some 61, some (59, false), .ld true 3 (.t 60)⟩,
 ⟨some 62, some (59, false), .call 11 [(1, (.t 61))]⟩,
 ⟨some 63, some (59, false), .un .not (.t 62)⟩,
 qr 64 (.pick (.t 59) (.k (.b true)) (.t 63))])
 (.cond (.t 64)
 (.seq (.dreg [qr 66 (.fad 0 (.t 1)),
 qr 67 (.ld true 3 (.t 66)),
 qr 68 (.call 23 [(1, (.t 67))]),
 qr 69 (.fad 3 (.t 1)),
 qr 70 (.ld true 3 (.t 69)),
 qr 71 (.call 23 [(1, (.t 70))]),
 qr 72 (.call 39 [(1, (.t 68)), (1, (.t 71))]),
 qm 65 72,
 qr 73 (.ext (.t 65) 0),
 qr 74 (.ext (.t 65) 1),
 qr 3 (.al 27 [(.b false), (.l 1 []), (.l 1 [])]),
 qn (.st 3 (.t 3) (.t 73)),
 qm 4 74])
 (.seq (.reg [qr 75 (.fad 0 (.t 1)),
 qr 76 (.ld true 3 (.t 75)),
 qr 77 (.call 11 [(1, (.t 76))]),
 qm 78 77,
 ⟨some 79, some (78, true), .fad 3 (.t 1)⟩,
 ⟨some 80, some (78, true), .ld true 3 (.t 79)⟩,
 ⟨some 81, some (78, true), .call 11 [(1, (.t 80))]⟩,
 qr 82 (.pick (.t 78) (.t 81) (.k (.b false))),
 qm 83 82,
 ⟨some 84, some (83, false), .mv (.t 4)⟩,
 ⟨some 85, some (83, false), .bin .eql (.t 84) (.k (.i .i64 1))⟩,
 qr 86 (.pick (.t 83) (.k (.b true)) (.t 85)),
 qm 2 86])
 (.ret)))
 (.skip)))
 (.seq (.reg [qr 88 (.fad 0 (.t 1)),
 qr 89 (.ld true 3 (.t 88)),
 qr 90 (.fad 3 (.t 1)),
 qr 91 (.ld true 3 (.t 90)),
 qr 92 (.call 13 [(1, (.t 89)), (1, (.t 91))]),
 qm 87 92,
 qr 93 (.ext (.t 87) 0),
 qr 94 (.ext (.t 87) 1),
 qm 5 93,
 qm 6 94])
 (.seq (.reg [qr 96 (.fad 3 (.t 1)),
 qr 97 (.ld true 3 (.t 96)),
 qr 98 (.fad 0 (.t 1)),
 qr 99 (.ld true 3 (.t 98)),
 qr 100 (.call 13 [(1, (.t 97)), (1, (.t 99))]),
 qm 95 100,
 qr 101 (.ext (.t 95) 0),
 qr 102 (.ext (.t 95) 1),
 qm 7 101,
 qm 8 102])
 (.seq (.reg [qr 104 (.fad 0 (.t 1)),
 qr 105 (.ld true 3 (.t 104)),
 qr 106 (.fad 6 (.t 1)),
 qr 107 (.ld true 3 (.t 106)),
 qr 108 (.call 40 [(1, (.t 105)), (1, (.t 107))]),
 qm 103 108,
 qr 109 (.ext (.t 103) 0),
 qr 110 (.ext (.t 103) 1),
 qr 9 (.al 27 [(.b false), (.l 1 []), (.l 1 [])]),
 qn (.st 3 (.t 9) (.t 109)),
 qm 10 110])
 (.seq (.reg [qr 112 (.fad 3 (.t 1)),
 qr 113 (.ld true 3 (.t 112)),
 qr 114 (.fad 6 (.t 1)),
 qr 115 (.ld true 3 (.t 114)),
 qr 116 (.call 40 [(1, (.t 113)), (1, (.t 115))]),
 qm 111 116,
 qr 117 (.ext (.t 111) 0),
 qr 118 (.ext (.t 111) 1),
 qr 11 (.al 27 [(.b false), (.l 1 []), (.l 1 [])]),
 qn (.st 3 (.t 11) (.t 117)),
 qm 12 118])
 (.seq (.reg [qr 120 (.ld true 3 (.t 9)),
 qr 121 (.ld true 3 (.t 11)),
 qr 122 (.call 13 [(1, (.t 120)), (1, (.t 121))]),
 qm 119 122,
 qr 123 (.ext (.t 119) 0),
 qr 124 (.ext (.t 119) 1),
 qm 13 123,
 qm 14 124])
 (.seq (.reg [qr 126 (.fad 0 (.t 1)),
 qr 127 (.ld true 3 (.t 126)),
 qr 128 (.fad 3 (.t 1)),
 qr 129 (.ld true 3 (.t 128)),
 qr 130 (.call 41 [(1, (.t 127)), (1, (.t 129))]),
 qm 125 130,
 qr 131 (.ext (.t 125) 0),
 qr 132 (.ext (.t 125) 1),
 qr 15 (.al 27 [(.b false), (.l 1 []), (.l 1 [])]),
 qn (.st 3 (.t 15) (.t 131)),
 qm 16 132])
 (.seq (.reg [qr 134 (.ld true 3 (.t 15)),
 qr 135 (.call 37 [(1, (.t 134))]),
 qm 133 135,
 qr 136 (.ext (.t 133) 0),
 qr 137 (.ext (.t 133) 1),
 qm 17 136,
 qm 18 137])
 (.seq (.seq (.reg [qm 138 6,
 qr 139 (.bin .neq (.t 138) (.k (.i .i64 0))),
 qm 140 139,
 ⟨some 141, some (140, false), .mv (.t 8)⟩,
 ⟨some 142, some (140, false), .bin .neq (.t 141) (.k (.i .i64 0))⟩,
 qr 143 (.pick (.t 140) (.k (.b true)) (.t 142)),
 qm 144 143,
 ⟨some 145, some (144, false), .mv (.t 14)⟩,
 ⟨some 146, some (144, false), .bin .neq (.t 145) (.k (.i .i64 0))⟩,
 qr 147 (.pick (.t 144) (.k (.b true)) (.t 146)),
 qm 148 147,
 ⟨some 149, some (148, false), .mv (.t 18)⟩,
 ⟨some 150, some (148, false), .bin .neq (.t 149) (.k (.i .i64 0))⟩,
 qr 151 (.pick (.t 148) (.k (.b true)) (.t 150)),
 qm 152 151,
 ⟨some 153, some (152, false), .mv (.t 7)⟩,
 ⟨some 154, some (152, false), .mv (.t 5)⟩,
 ⟨some 155, some (152, false), .un .neg (.t 154)⟩,
 ⟨some 156, some (152, false), .bin .neq (.t 153) (.t 155)⟩,
 qr 157 (.pick (.t 152) (.k (.b true)) (.t 156)),
 qm 158 157,
 ⟨some 159, some (158, false), .mv (.t 13)⟩,
 ⟨some 160, some (158, false), .mv (.t 5)⟩,
 ⟨some 161, some (158, false), .bin .neq (.t 159) (.t 160)⟩,
 qr 162 (.pick (.t 158) (.k (.b true)) (.t 161)),
 qm 163 162,
 ⟨some 164, some (163, false), .mv (.t 17)⟩,
 ⟨some 165, some (163, false), .mv (.t 5)⟩,
 ⟨some 166, some (163, false), .bin .neq (.t 164) (.t 165)⟩,
 qr 167 (.pick (.t 163) (.k (.b true)) (.t 166))])
 (.cond (.t 167)
 (.seq (.reg [qr 2 (.mv (.k (.b false)))])
 (.ret))
 (.skip)))
 (.seq (.reg [qr 169 (.fad 0 (.t 1)),
 qr 170 (.ld true 3 (.t 169)),
 qr 171 (.fad 3 (.t 1)),
 qr 172 (.ld true 3 (.t 171)),
 qr 173 (.call 39 [(1, (.t 170)), (1, (.t 172))]),
 qm 168 173,
 qr 174 (.ext (.t 168) 0),
 qr 175 (.ext (.t 168) 1),
 qr 19 (.al 27 [(.b false), (.l 1 []), (.l 1 [])]),
 qn (.st 3 (.t 19) (.t 174)),
 qm 6 175])
 (.seq (.reg [qr 177 (.fad 0 (.t 1)),
 qr 178 (.ld true 3 (.t 177)),
 qr 179 (.ld true 3 (.t 19)),
 qr 180 (.call 13 [(1, (.t 178)), (1, (.t 179))]),
 qm 176 180,
 qr 181 (.ext (.t 176) 0),
 qr 182 (.ext (.t 176) 1),
 qm 20 181,
 qm 8 182])
 (.seq (.reg [qr 184 (.ld true 3 (.t 19)),
 qr 185 (.fad 3 (.t 1)),
 qr 186 (.ld true 3 (.t 185)),
 qr 187 (.call 13 [(1, (.t 184)), (1, (.t 186))]),
 qm 183 187,
 qr 188 (.ext (.t 183) 0),
 qr 189 (.ext (.t 183) 1),
 qm 21 188,
 qm 14 189])
 (.seq (.seq (.reg [qm 190 6,
 qr 191 (.bin .neq (.t 190) (.k (.i .i64 0))),
 qm 192 191,
 ⟨some 193, some (192, false), .mv (.t 8)⟩,
 ⟨some 194, some (192, false), .bin .neq (.t 193) (.k (.i .i64 0))⟩,
 qr 195 (.pick (.t 192) (.k (.b true)) (.t 194)),
 qm 196 195,
 ⟨some 197, some (196, false), .mv (.t 14)⟩,
 ⟨some 198, some (196, false), .bin .neq (.t 197) (.k (.i .i64 0))⟩,
 qr 199 (.pick (.t 196) (.k (.b true)) (.t 198)),
 qm 200 199,
 ⟨some 201, some (200, false), .mv (.t 20)⟩,
 ⟨some 202, some (200, false), .mv (.t 5)⟩,
 ⟨some 203, some (200, false), .bin .neq (.t 201) (.t 202)⟩,
 qr 204 (.pick (.t 200) (.k (.b true)) (.t 203)),
 qm 205 204,
 ⟨some 206, some (205, false), .mv (.t 21)⟩,
 ⟨some 207, some (205, false), .mv (.t 5)⟩,
 ⟨some 208, some (205, false), .bin .neq (.t 206) (.t 207)⟩,
 qr 209 (.pick (.t 205) (.k (.b true)) (.t 208))])
 (.cond (.t 209)
 (.seq (.reg [qr 2 (.mv (.k (.b false)))])
 (.ret))
 (.skip)))
 (.seq (.reg [qr 210 (.fad 15 (.t 1)),
 qr 211 (.ld false 1 (.t 210)),
 qr 212 (.bin .rem (.t 211) (.k (.i .i64 200))),
 qm 22 212])
 (.seq (.reg [qr 214 (.fad 0 (.t 1)),
 qr 215 (.ld true 3 (.t 214)),
 qm 216 22,
 qr 217 (.call 20 [(1, (.t 215)), (1, (.t 216))]),
 qm 213 217,
 qr 218 (.ext (.t 213) 0),
 qr 219 (.ext (.t 213) 1),
 qr 23 (.al 25 [(.b false), (.l 1 [])]),
 qn (.st 2 (.t 23) (.t 218)),
 qm 6 219])
 (.seq (.reg [qr 221 (.fad 0 (.t 1)),
 qr 222 (.ld true 3 (.t 221)),
 qm 223 22,
 qr 224 (.call 17 [(1, (.t 222)), (1, (.t 223))]),
 qm 220 224,
 qr 225 (.ext (.t 220) 0),
 qr 226 (.ext (.t 220) 1),
 qr 24 (.al 25 [(.b false), (.l 1 [])]),
 qn (.st 2 (.t 24) (.t 225)),
 qm 8 226])
 (.seq (.seq (.reg [qm 227 6,
 qr 228 (.bin .neq (.t 227) (.k (.i .i64 0))),
 qm 229 228,
 ⟨some 230, some (229, false), .mv (.t 8)⟩,
 ⟨some 231, some (229, false), .bin .neq (.t 230) (.k (.i .i64 0))⟩,
 qr 232 (.pick (.t 229) (.k (.b true)) (.t 231))])
 (.cond (.t 232)
 (.seq (.reg [qr 2 (.mv (.k (.b false)))])
 (.ret))
 (.skip)))
 (.seq (.reg [qr 234 (.call 42 [(1, (.k (.i .i64 1)))]),
 qm 235 22,
 qr 236 (.call 33 [(1, (.t 234)), (1, (.t 235))]),
 qm 233 236,
 qr 237 (.ext (.t 233) 0),
 qr 238 (.ext (.t 233) 1),
 qr 25 (.al 27 [(.b false), (.l 1 []), (.l 1 [])]),
 qn (.st 3 (.t 25) (.t 237)),
 qm 26 238])
 (.seq (.reg [qr 240 (.fad 0 (.t 1)),
 qr 241 (.ld true 3 (.t 240)),
 qr 242 (.ld true 3 (.t 25)),
 qr 243 (.call 43 [(1, (.t 241)), (1, (.t 242))]),
 qm 239 243,
 qr 244 (.ext (.t 239) 0),
 qr 245 (.ext (.t 239) 1),
 qr 27 (.al 27 [(.b false), (.l 1 []), (.l 1 [])]),
 qn (.st 3 (.t 27) (.t 244)),
 qm 28 245])
 (.seq (.dreg [qr 247 (.ld true 2 (.t 23)),
 qr 248 (.call 44 [(1, (.t 247))]),
 qr 249 (.ld true 3 (.t 27)),
 qr 250 (.call 13 [(1, (.t 248)), (1, (.t 249))]),
 qm 246 250,
 qr 251 (.ext (.t 246) 0),
 qr 252 (.ext (.t 246) 1),
 qm 29 251,
 qm 30 252])
 (.seq (.dreg [qr 254 (.ld true 3 (.t 27)),
 qr 255 (.ld true 2 (.t 24)),
 qr 256 (.call 44 [(1, (.t 255))]),
 qr 257 (.call 13 [(1, (.t 254)), (1, (.t 256))]),
 qm 253 257,
 qr 258 (.ext (.t 253) 0),
 qr 259 (.ext (.t 253) 1),
 qm 31 258,
 qm 32 259])
 (.seq (.reg [qr 260 (.ld true 2 (.t 24)),
 qr 261 (.ld true 2 (.t 23)),
 qr 262 (.call 45 [(1, (.t 260)), (1, (.t 261))]),
 qr 33 (.al 25 [(.b false), (.l 1 [])]),
 qn (.st 2 (.t 33) (.t 262))])
 (.seq (.seq (.dreg [qm 263 29,
 qr 264 (.bin .gtr (.t 263) (.k (.i .i64 0))),
 qm 265 264,
 ⟨some 266, some (265, false), .mv (.t 31)⟩,
 ⟨some 267, some (265, false), .bin .gtr (.t 266) (.k (.i .i64 0))⟩,
 qr 268 (.pick (.t 265) (.k (.b true)) (.t 267)),
 qm 269 268,
 ⟨some 270, some (269, false), .ld true 2 (.t 33)⟩,
 ⟨some 271, some (269, false), .call 42 [(1, (.k (.i .i64 1)))]⟩,
 ⟨some 272, some (269, false), .call 21 [(1, (.t 270)), (1, (.t 271))]⟩,
 ⟨some 273, some (269, false), .bin .gtr (.t 272) (.k (.i .i64 0))⟩,
 qr 274 (.pick (.t 269) (.k (.b true)) (.t 273)),
 qm 275 274,
 ⟨some 276, some (275, false), .ld true 2 (.t 33)⟩,
 ⟨some 277, some (275, false), .call 46 [(1, (.t 276))]⟩,
 ⟨some 278, some (275, false), .bin .eql (.t 277) (.k (.i .i64 0))⟩,
 ⟨some 279, some (275, false), .mv (.t 29)⟩,
 ⟨some 280, some (275, false), .bin .eql (.t 279) (.k (.i .i64 0))⟩,
 ⟨some 281, some (275, false), .eqb true (.t 278) (.t 280)⟩,
 qr 282 (.pick (.t 275) (.k (.b true)) (.t 281)),
 qm 283 282,
 ⟨some 284, some (283, false), .mv (.t 29)⟩,
 ⟨some 285, some (283, false), .bin .eql (.t 284) (.k (.i .i64 0))⟩,
 ⟨some 286, some (283, false), .mv (.t 31)⟩,
 ⟨some 287, some (283, false), .bin .eql (.t 286) (.k (.i .i64 0))⟩,
 ⟨some 288, some (283, false), .eqb true (.t 285) (.t 287)⟩,
 qr 289 (.pick (.t 283) (.k (.b true)) (.t 288))])
 (.cond (.t 289)
 (.seq (.reg [qr 2 (.mv (.k (.b false)))])
 (.ret))
 (.skip)))
 (.seq (.seq (.reg [qr 291 (.fad 0 (.t 1)),
 qr 292 (.ld true 3 (.t 291)),
 qr 293 (.call 37 [(1, (.t 292))]),
 qm 290 293,
 qr 294 (.ext (.t 290) 0),
 qr 295 (.ext (.t 290) 1),
 qm 34 294,
 qm 35 295])
 (.seq (.reg [qm 296 34,
 qr 297 (.bin .leq (.t 296) (.k (.i .i64 0)))])
 (.cond (.t 297)
 (.seq (.reg [qr 299 (.fad 0 (.t 1)),
 qr 300 (.ld true 3 (.t 299)),
 qr 301 (.call 47 [(1, (.t 300))]),
 qm 298 301,
 qr 302 (.ext (.t 298) 0),
 qr 303 (.ext (.t 298) 1),
 qm 36 302,
 qm 37 303])
 (.seq (.reg [qm 304 37,
 qr 305 (.bin .eql (.t 304) (.k (.i .i64 2))),
 qm 2 305])
 (.ret)))
 (.skip))))
 (.seq (.reg [qr 307 (.fad 0 (.t 1)),
 qr 308 (.ld true 3 (.t 307)),
 qr 309 (.call 47 [(1, (.t 308))]),
 qm 306 309,
 qr 310 (.ext (.t 306) 0),
 qr 311 (.ext (.t 306) 1),
 qm 38 310,
 qm 6 311])
 (.seq (.reg [qr 313 (.call 42 [(1, (.k (.i .i64 1)))]),
 qm 314 38,
 qr 315 (.un .neg (.t 314)),
 qr 316 (.call 33 [(1, (.t 313)), (1, (.t 315))]),
 qm 312 316,
 qr 317 (.ext (.t 312) 0),
 qr 318 (.ext (.t 312) 1),
 qr 39 (.al 27 [(.b false), (.l 1 []), (.l 1 [])]),
 qn (.st 3 (.t 39) (.t 317)),
 qm 40 318])
 (.seq (.reg [qr 320 (.ld true 3 (.t 39)),
 qr 321 (.fad 0 (.t 1)),
 qr 322 (.ld true 3 (.t 321)),
 qr 323 (.call 13 [(1, (.t 320)), (1, (.t 322))]),
 qm 319 323,
 qr 324 (.ext (.t 319) 0),
 qr 325 (.ext (.t 319) 1),
 qm 41 324,
 qm 42 325])
 (.seq (.seq (.reg [qm 326 6,
 qr 327 (.bin .neq (.t 326) (.k (.i .i64 0))),
 qm 328 327,
 ⟨some 329, some (328, false), .mv (.t 38)⟩,
 ⟨some 330, some (328, false), .bin .lss (.t 329) (.k (.i .i64 0))⟩,
 qr 331 (.pick (.t 328) (.k (.b true)) (.t 330)),
 qm 332 331,
 ⟨some 333, some (332, false), .mv (.t 41)⟩,
 ⟨some 334, some (332, false), .bin .geq (.t 333) (.k (.i .i64 0))⟩,
 qr 335 (.pick (.t 332) (.k (.b true)) (.t 334))])
 (.cond (.t 335)
 (.seq (.reg [qr 2 (.mv (.k (.b false)))])
 (.ret))
 (.skip)))
 (.seq (.seq (.reg [qm 336 38,
 qr 337 (.bin .eql (.t 336) (.k (.i .i64 0)))])
 (.cond (.t 337)
 (.seq (.reg [qr 2 (.mv (.k (.b true)))])
 (.ret))
 (.skip)))
 (.seq (.reg [qr 339 (.call 42 [(1, (.k (.i .i64 1)))]),
 qm 340 38,
 qr 341 (.bin .sub (.k (.i .i64 1)) (.t 340)),
 qr 342 (.call 33 [(1, (.t 339)), (1, (.t 341))]),
 qm 338 342,
 qr 343 (.ext (.t 338) 0),
 qr 344 (.ext (.t 338) 1),
 qr 43 (.al 27 [(.b false), (.l 1 []), (.l 1 [])]),
 qn (.st 3 (.t 43) (.t 343)),
 qm 44 344])
 (.seq (.reg [qr 346 (.ld true 3 (.t 43)),
 qr 347 (.fad 0 (.t 1)),
 qr 348 (.ld true 3 (.t 347)),
 qr 349 (.call 13 [(1, (.t 346)), (1, (.t 348))]),
 qm 345 349,
 qr 350 (.ext (.t 345) 0),
 qr 351 (.ext (.t 345) 1),
 qm 41 350])
 (.seq (.reg [qm 352 41,
 qr 353 (.bin .geq (.t 352) (.k (.i .i64 0))),
 qm 2 353])
 (.ret)))))))))))))))))))))))))))))))))))
set_option maxRecDepth 100000 in
theorem qqOrder_spec (s0 s1 s2 s3 s4 : Bool) (aa0 d0 aa1 d1 aa2 d2 aa3 aa4 : List Nat) (n m k : Int) (l : List (Bool × List Nat × List Nat)) (st : List UInt8)
    (wa0 : Wd aa0) (wd0 : Wd d0) (wa1 : Wd aa1) (wd1 : Wd d1) (wa2 : Wd aa2) (wd2 : Wd d2) :
    AFun Tryz.prog J0 5 [caseV s0 s1 s2 s3 s4 aa0 d0 aa1 d1 aa2 d2 aa3 aa4 n m k l st] (.b true) := by
  have hl := lless_spec s0 s1 s2 s3 s4 aa0 d0 aa1 d1 aa2 d2 aa3 aa4 n m k l st
  obtain ⟨b0, e, vb0, lb0⟩ := take12 wa0; rw [e] at hl
  obtain ⟨e0, e, ve0, le0⟩ := take12 wd0; rw [e] at hl
  obtain ⟨b1, e, vb1, lb1⟩ := take12 wa1; rw [e] at hl
  obtain ⟨e1, e, ve1, le1⟩ := take12 wd1; rw [e] at hl
  obtain ⟨b2, e, vb2, lb2⟩ := take12 wa2; rw [e] at hl
  obtain ⟨e2, e, ve2, le2⟩ := take12 wd2; rw [e] at hl
  generalize aa3.take 12 = b3 at *
  generalize aa4.take 12 = b4 at *
  generalize fewL l = ls at *
  clear wa0 wd0 wa1 wd1 wa2 wd2 e
  have hf := lfixed_spec
  have o0 := rOk_spec s0 b0 e0 ve0 (by omega)
  have o1 := rOk_spec s1 b1 e1 ve1 (by omega)
  have o2 := rOk_spec s2 b2 e2 ve2 (by omega)
  by_cases bad : nv B e0 = 0 ∨ nv B e1 = 0 ∨ nv B e2 = 0
  · have cA := lc_spec s0 b0 e0 (by omega) (by omega)
    have cB := lc_spec s1 b1 e1 (by omega) (by omega)
    have x1 := qmid_spec s0 s1 b0 b1 e0 e1 12 (by decide) vb0 vb1 ve0 ve1 lb0 lb1 le0 le1
    by_cases h0 : nv B e0 = 0
    · rw [decide_eq_true h0] at o0
      rw [h0, Nat.zero_mul, Nat.zero_mul, rv_0, re_0] at x1
      refine mkQ fol J0s Tryz.func5 a5 ?_
      unfold a5
      simp only [init_eq, initE, qm, qr, qn]
      exact wdQ @bz_LQOrder
    · rw [decide_eq_false h0] at o0
      by_cases h1 : nv B e1 = 0
      · rw [decide_eq_true h1] at o1
        rw [h1, Nat.mul_zero, Nat.zero_mul, rv_0, re_0] at x1
        refine mkQ fol J0s Tryz.func5 a5 ?_
        unfold a5
        simp only [init_eq, initE, qm, qr, qn]
        exact wdQ @bz_LQOrder
      · rw [decide_eq_false h1] at o1
        rw [decide_eq_true (by omega)] at o2
        have hD : nv B e0 * nv B e1 * 2 ≠ 0 := by have := Nat.mul_ne_zero h0 h1; omega
        rw [rv_p _ hD, re_p hD] at x1
        generalize rz (zv s0 b0 * (nv B e1 : Int) + zv s1 b1 * (nv B e0 : Int)) (nv B e0 * nv B e1 * 2) = x at *
        generalize rden (zv s0 b0 * (nv B e1 : Int) + zv s1 b1 * (nv B e0 : Int)) (nv B e0 * nv B e1 * 2) = y at *
        refine mkQ fol J0s Tryz.func5 a5 ?_
        unfold a5
        simp only [init_eq, initE, qm, qr, qn]
        exact wdQ @bz_LQOrder
  · have h0 : nv B e0 ≠ 0 := by omega
    have h1 : nv B e1 ≠ 0 := by omega
    have h2 : nv B e2 ≠ 0 := by omega
    rw [decide_eq_false h0] at o0
    rw [decide_eq_false h1] at o1
    rw [decide_eq_false h2] at o2
    have hA := Rr_raw (s := s0) vb0 ve0 lb0 le0 h0
    have hB := Rr_raw (s := s1) vb1 ve1 lb1 le1 h1
    have hC := Rr_raw (s := s2) vb2 ve2 lb2 le2 h2
    obtain ⟨t1, t2⟩ := mod200 k
    obtain ⟨t, ht⟩ : ∃ t, t = k.tmod 200 := ⟨_, rfl⟩
    rw [← ht] at t1 t2
    have f1 := qfloor_spec s0 b0 e0 t 16384 (by decide) (by decide) vb0 ve0 (by omega) (by omega)
    have f2 := qceil_spec s0 b0 e0 t 16384 (by decide) (by decide) vb0 ve0 (by omega) (by omega)
    have hE : glE (nv B e0) t = 0 := by unfold glE; rw [if_neg h0, if_neg (by omega)]
    rw [hE] at f1 f2
    obtain ⟨q1, q2⟩ := gl_q (zv s0 b0) (t := t) h0 (by omega) (by omega)
    obtain ⟨q3, q4⟩ := gl_q (-(zv s0 b0)) (t := t) h0 (by omega) (by omega)
    rw [← Rat.neg_mkRat, Rat.neg_mul] at q3 q4
    obtain ⟨c1, c2, c3, c4, c5⟩ := fc_law q1 q2 q3 q4
    obtain ⟨M, hM⟩ : ∃ M : Nat, M = 40000 := ⟨_, rfl⟩
    have bL : (glV (zv s0 b0) (nv B e0) t).natAbs < B ^ M := pup (glV_abs (m := 12) (zv_lt vb0 lb0)) (by omega)
    have bM : (-(glV (-(zv s0 b0)) (nv B e0) t)).natAbs < B ^ M := by
      rw [Int.natAbs_neg]
      exact pup (glV_abs (m := 12) (by rw [Int.natAbs_neg]; exact zv_lt vb0 lb0)) (by omega)
    have hfk := fun kk (hs : 0 < zv s0 b0) (hk : FinP (nv B b0) (nv B e0) kk) => And.intro (qfiner_k s0 b0 e0 kk 12 (by decide) vb0 ve0 lb0 le0 h0 hs hk) (And.intro (fin_below h0 hs hk) (fun h => fin_ahead h0 hs hk h))
    have hfs := qfiner_s s0 b0 e0 12 (by decide) vb0 ve0 lb0 le0 h0
    have hzp := zpos_q (z := zv s0 b0) h0
    have hbl := bl_len ve0
    clear hE q1 q2 q3 q4 bad
    generalize -(glV (-(zv s0 b0)) (nv B e0) t) = Hi at *
    generalize glV (zv s0 b0) (nv B e0) t = Lo at *
    generalize mkRat (zv s0 b0) (nv B e0) = P at *
    generalize mkRat (zv s1 b1) (nv B e1) = Q at *
    generalize mkRat (zv s2 b2) (nv B e2) = R at *
    obtain ⟨p1, g1⟩ := qaddR hA hC (by decide)
    obtain ⟨p2, g2⟩ := qaddR hB hC (by decide)
    obtain ⟨p3, g3⟩ := qsubR hA hB (by decide)
    have k1 := qcmpR hA hB (by decide)
    have k2 := qcmpR hB hA (by decide)
    have k3 := qcmpR g1 g2 (by decide)
    rw [cq_anti P Q] at k2
    rw [cq_shift] at k3
    have k4 := qsignR g3 (by decide)
    rw [cq_sub] at k4
    obtain ⟨p4, g4⟩ := qmidR hA hB (by decide)
    have k5 := qcmpR (Rr_up hA (by decide : 12 ≤ 12 + 12 + 1)) g4 (by decide)
    have k6 := qcmpR g4 (Rr_up hB (by decide : 12 ≤ 12 + 12 + 1)) (by decide)
    rw [cq_mid1] at k5
    rw [cq_mid2] at k6
    have z1 := hZ_spec 1 (by decide) (by decide)
    obtain ⟨p5, g5⟩ := qdyR (t := t) (m := 20000) (by decide) (by decide) (by omega) (by omega)
    obtain ⟨p6, g6⟩ := qmulR (Rr_up hA (by decide : 12 ≤ 20000)) g5 (by decide)
    obtain ⟨p7, g7⟩ := rZR bL (by omega) (by omega)
    obtain ⟨p8, g8⟩ := rZR bM (by omega) (by omega)
    have k7 := qcmpR (Rr_up g7 (by omega : M ≤ 40000)) g6 (by decide)
    have k8 := qcmpR g6 (Rr_up g8 (by omega : M ≤ 40000)) (by decide)
    have z2 := hzsub_spec (decide (Hi < 0)) (decide (Lo < 0)) (dg B Hi.natAbs) (dg B Lo.natAbs) M (by omega) (Wd_dg _) (Wd_dg _) (dlen bM) (dlen bL)
    rw [zv_N, zv_N] at z2
    have bS : (Hi - Lo).natAbs < B ^ 1 := by rw [Nat.pow_one]; show _ < 18446744073709551616; omega
    have z3 := horder_spec (decide (Hi - Lo < 0)) (decide ((1 : Int) < 0)) (dg B (Hi - Lo).natAbs) (dg B (1 : Int).natAbs) 1 (by decide) (Wd_dg _) (Wd_dg _) (dlen bS) (dlen (by decide))
    rw [zv_N, zv_N] at z3
    have z4 := hsgnN bS (by decide)
    have k9 := qsignR hA (by decide)
    have cm : cz (Hi - Lo) 1 ≤ 0 := by unfold cz; rcases c3 with h | h <;> rw [h] <;> decide
    have sz : (sgz (Hi - Lo) = 0) = (Hi - Lo = 0) := sgz_zz _
    have ncm : ¬ 0 < cz (Hi - Lo) 1 := by omega
    have nc1 : ¬ 0 < cq (mkRat Lo 1) (P * twq t) := by omega
    have nc2 : ¬ 0 < cq (P * twq t) (mkRat Hi 1) := by omega
    have wn : IntKind.i64.wrap (0 - cq P Q) = -(cq P Q) := by
      have : cq P Q = -1 ∨ cq P Q = 0 ∨ cq P Q = 1 := by unfold cq; split; exact .inl rfl; split; exact .inr (.inl rfl); exact .inr (.inr rfl)
      rw [wi (by omega)]; omega
    have sx : (sgz (Hi - Lo) = 0) = (cq (mkRat Lo 1) (P * twq t) = 0) := by rw [sz, c4]
    have done1 : ∀ (x1 x2 x3 : Int), (x1 = 0) = (x2 = 0) → (x2 = 0) = (x3 = 0) → (decide (x1 = 0) = decide (x2 = 0)) ∧ decide (x2 = 0) = decide (x3 = 0) := fun x1 x2 x3 h1 h2 => by
      constructor
      · exact decide_eq_decide.2 (Iff.of_eq h1)
      · exact decide_eq_decide.2 (Iff.of_eq h2)
    obtain ⟨y1, y2⟩ := done1 _ _ _ sx c5
    generalize cz (Hi - Lo) 1 = ord at *
    generalize sgz (Hi - Lo) = sg0 at *
    have tm : k.tmod 200 = t := ht.symm
    by_cases hs : zv s0 b0 ≤ 0
    · have hsg : cq P 0 ≤ 0 := by rw [hzp]; exact hs
      have x1 := hfs hs
      clear hfk hfs hzp g1 g2 g3 g4 g5 g6 g7 g8 hA hB hC c1 c2 c3 c4 c5 sz sx done1
      generalize (P + Q) / 2 = MID at *
      generalize P + R = PR at *
      generalize Q + R = QR at *
      generalize P - Q = PQ at *
      generalize P * twq t = AT at *
      generalize twq t = TW at *
      generalize cq (mkRat Lo 1) AT = v1 at *
      generalize cq AT (mkRat Hi 1) = v2 at *
      generalize mkRat Lo 1 = LO at *
      generalize mkRat Hi 1 = HI at *
      generalize Hi - Lo = STEP at *
      generalize cq P Q = n0 at *
      generalize cq P 0 = sp at *
      refine mkQ fol J0s Tryz.func5 a5 ?_
      unfold a5
      simp only [init_eq, initE, qm, qr, qn]
      have zc1 := p1
      have zc2 := p2
      have zc3 := p3
      have zc4 := p4
      have zc5 := p5
      have zc6 := p6
      have zc7 := p7
      have zc8 := p8
      exact wdQ (ai @hsg (ai @y2 (ai @y1 (ai @nc2 (ai @nc1 (ai @ncm (ai @wn (ai @tm @bz_LQOrder))))))))
    · have hsg : ¬ cq P 0 ≤ 0 := by rw [hzp]; exact hs
      have hu : nv B b0 ≠ 0 := fun h => by rw [zv_z.2 h] at hs; omega
      obtain ⟨kk, hk, hkb⟩ := fin_ex (u := nv B b0) (d := nv B e0) hu
      obtain ⟨x1, x2, x3⟩ := hfk kk (by omega) hk
      have wk : IntKind.i64.wrap (0 - (kk : Int)) = -(kk : Int) := by rw [wi (by omega)]; omega
      obtain ⟨p9, g9⟩ := qdyR (t := -(kk : Int)) (m := 20000) (by decide) (by decide) (by omega) (by omega)
      have k10 := qcmpR g9 (Rr_up hA (by decide : 12 ≤ 20000)) (by decide)
      have kp : ¬ (kk : Int) < 0 := by omega
      have nx2 : ¬ 0 ≤ cq (twq (-(kk : Int))) P := by omega
      by_cases hk0 : kk = 0
      · subst hk0
        clear x3 hfk hfs hzp g1 g2 g3 g4 g5 g6 g7 g8 g9 hA hB hC c1 c2 c3 c4 c5 sz sx done1
        replace wk : IntKind.i64.wrap (0 - 0) = 0 := rfl
        generalize (P + Q) / 2 = MID at *
        generalize P + R = PR at *
        generalize Q + R = QR at *
        generalize P - Q = PQ at *
        generalize P * twq t = AT at *
        generalize twq t = TW at *
        generalize cq (mkRat Lo 1) AT = v1 at *
        generalize cq AT (mkRat Hi 1) = v2 at *
        generalize mkRat Lo 1 = LO at *
        generalize mkRat Hi 1 = HI at *
        generalize Hi - Lo = STEP at *
        generalize cq P Q = n0 at *
        generalize cq P 0 = sp at *
        replace x1 : AFun Tryz.prog J0 47 [rL s0 b0 e0] (.t [.i .i64 0, .i .i64 0]) := x1
        replace p9 : AFun Tryz.prog J0 33 [zN 1, .i .i64 0] (.t [rN (twq (-((0 : Nat) : Int))).num (twq (-((0 : Nat) : Int))).den, .i .i64 0]) := p9
        generalize twq (-((0 : Nat) : Int)) = T2 at *
        generalize cq T2 P = v3 at *
        refine mkQ fol J0s Tryz.func5 a5 ?_
        unfold a5
        simp only [init_eq, initE, qm, qr, qn]
        have zc9 := p1
        have zc10 := p2
        have zc11 := p3
        have zc12 := p4
        have zc13 := p5
        have zc14 := p6
        have zc15 := p7
        have zc16 := p8
        have zc17 := p9
        exact wdQ (ai @nx2 (ai @hsg (ai @y2 (ai @y1 (ai @nc2 (ai @nc1 (ai @ncm (ai @wn (ai @tm @bz_LQOrder)))))))))
      · have wk2 : IntKind.i64.wrap (1 - (kk : Int)) = 1 - (kk : Int) := wi (by omega)
        obtain ⟨p10, g10⟩ := qdyR (t := 1 - (kk : Int)) (m := 20000) (by decide) (by decide) (by omega) (by omega)
        have k11 := qcmpR g10 (Rr_up hA (by decide : 12 ≤ 20000)) (by decide)
        have x4 := x3 hk0
        have hkI : ¬ (kk : Int) = 0 := by omega
        clear x3 hfk hfs hzp g1 g2 g3 g4 g5 g6 g7 g8 g9 g10 hA hB hC c1 c2 c3 c4 c5 sz sx done1
        generalize (P + Q) / 2 = MID at *
        generalize P + R = PR at *
        generalize Q + R = QR at *
        generalize P - Q = PQ at *
        generalize P * twq t = AT at *
        generalize twq t = TW at *
        generalize cq (mkRat Lo 1) AT = v1 at *
        generalize cq AT (mkRat Hi 1) = v2 at *
        generalize mkRat Lo 1 = LO at *
        generalize mkRat Hi 1 = HI at *
        generalize Hi - Lo = STEP at *
        generalize cq P Q = n0 at *
        generalize cq P 0 = sp at *
        generalize twq (-(kk : Int)) = T2 at *
        generalize cq T2 P = v3 at *
        generalize twq (1 - (kk : Int)) = T3 at *
        generalize cq T3 P = v4 at *
        refine mkQ fol J0s Tryz.func5 a5 ?_
        unfold a5
        simp only [init_eq, initE, qm, qr, qn]
        have zc18 := p1
        have zc19 := p2
        have zc20 := p3
        have zc21 := p4
        have zc22 := p5
        have zc23 := p6
        have zc24 := p7
        have zc25 := p8
        have zc26 := p9
        have zc27 := p10
        exact wdQ (ai @wk2 (ai @wk (ai @hkI (ai @kp (ai @x4 (ai @nx2 (ai @hsg (ai @y2 (ai @y1 (ai @nc2 (ai @nc1 (ai @ncm (ai @wn (ai @tm @bz_LQOrder))))))))))))))
end Go.Proofs.YtlhadigkmlldeaaGreatDoor
