/-
  QqLaws: the law's walk.
-/
import Derived.Test.YtlhadigkmlldeaaGreatDoorQV
import Derived.Test.YtlhadigkmlldeaaGreatDoorLQKn
namespace Go.Proofs.YtlhadigkmlldeaaGreatDoor
open Go Go.RowKit Ab
set_option linter.unusedSimpArgs false
set_option linter.unusedVariables false
set_option maxHeartbeats 10000000
theorem bz_LQLaws : type_of% (And.intro @W_len (And.intro @D_len (And.intro @Nat.div_one (And.intro @Nat.mul_one (And.intro @tn_nat (And.intro @W_nf (And.intro @D_nf (And.intro @W_nil (And.intro @D_nil (And.intro @wi (And.intro @nf_g (And.intro @Bool.false_and (@W_cell))))))))))))) := And.intro @W_len (And.intro @D_len (And.intro @Nat.div_one (And.intro @Nat.mul_one (And.intro @tn_nat (And.intro @W_nf (And.intro @D_nf (And.intro @W_nil (And.intro @D_nil (And.intro @wi (And.intro @nf_g (And.intro @Bool.false_and (@W_cell))))))))))))

theorem and15 (n : Int) : ∃ k : Nat, k ≤ 15 ∧ bits .and .i64 n 15 = (k : Int) := by
  have q : bits .and .i64 n 15 = IntKind.i64.wrap (((BitVec.ofInt 64 n &&& BitVec.ofInt 64 15).toNat : Nat) : Int) := rfl
  have h : (BitVec.ofInt 64 n &&& BitVec.ofInt 64 15).toNat ≤ 15 := by rw [BitVec.toNat_and]; exact Nat.and_le_right
  exact ⟨_, h, by rw [q]; exact wi (by omega)⟩
theorem ce3 (p q r : Bool × List Nat × List Nat) (h : nv B p.2.2 = 0 ∨ nv B q.2.2 = 0 ∨ nv B r.2.2 = 0) : ce [p, q, r] = 1 := by
  unfold ce
  rw [if_pos]
  simp only [List.any_cons, List.any_nil, Bool.or_false, Bool.or_eq_true, beq_iff_eq]
  exact h
theorem ce3' (p q r : Bool × List Nat × List Nat) (h : nv B p.2.2 ≠ 0 ∧ nv B q.2.2 ≠ 0 ∧ nv B r.2.2 ≠ 0) : ce [p, q, r] = 0 := by
  unfold ce
  rw [if_neg]
  simp only [List.any_cons, List.any_nil, Bool.or_false, Bool.or_eq_true, beq_iff_eq]
  omega
-- surd/surdlaw08.QqLaws
def a6 : AC := .seq (.reg [qr 1 (.bx 30 (.t 0)),
 qr 2 (.mv (.k (.b false)))])
 (.seq (.seq (.reg [qr 35 (.call 9 []),
 qr 36 (.un .not (.t 35))])
 (.cond (.t 36)
 (.seq (.reg [qr 2 (.mv (.k (.b false)))])
 (.ret))
 (.skip)))
 (.seq (.reg [qr 37 (.ld true 18 (.t 1)),
 qr 38 (.call 10 [(1, (.t 37))]),
 qn (.st 18 (.t 1) (.t 38))])
 (.seq (.seq (.reg [qr 39 (.fad 0 (.t 1)),
 qr 40 (.ld true 3 (.t 39)),
 qr 41 (.call 11 [(1, (.t 40))]),
 qr 42 (.un .not (.t 41)),
 qm 43 42,
 ⟨some 44, some (43, false), .fad 3 (.t 1)⟩,
 ⟨some 45, some (43, false), .ld true 3 (.t 44)⟩,
 ⟨some 46, some (43, false), .call 11 [(1, (.t 45))]⟩,
 ⟨some 47, some (43, false), .un .not (.t 46)⟩,
 qr 48 (.pick (.t 43) (.k (.b true)) (.t 47)),
 qm 49 48,
 ⟨some 50, some (49, false), .fad 6 (.t 1)⟩,
 ⟨some 51, some (49, false), .ld true 3 (.t 50)⟩,
 ⟨some 52, some (49, false), .call 11 [(1, (.t 51))]⟩,
 ⟨some 53, some (49, false), .un .not (.t 52)⟩,
 qr 54 (.pick (.t 49) (.k (.b true)) (.t 53))])
 (.cond (.t 54)
 (.seq (.dreg [qr 56 (.fad 0 (.t 1)),
 qr 57 (.ld true 3 (.t 56)),
 qr 58 (.call 23 [(1, (.t 57))]),
 qr 59 (.fad 3 (.t 1)),
 qr 60 (.ld true 3 (.t 59)),
 qr 61 (.call 23 [(1, (.t 60))]),
 qr 62 (.fad 6 (.t 1)),
 qr 63 (.ld true 3 (.t 62)),
 qr 64 (.call 23 [(1, (.t 63))]),
 qr 65 (.bsl 27 3 3 [(.b false), (.l 1 []), (.l 1 []), (.b false), (.l 1 []), (.l 1 []), (.b false), (.l 1 []), (.l 1 [])] [(0, (.t 58)), (1, (.t 61)), (2, (.t 64))]),
 qr 66 (.call 48 [(3, (.t 65))]),
 qm 55 66,
 qr 67 (.ext (.t 55) 0),
 qr 68 (.ext (.t 55) 1),
 qr 3 (.al 27 [(.b false), (.l 1 []), (.l 1 [])]),
 qn (.st 3 (.t 3) (.t 67)),
 qm 4 68])
 (.seq (.reg [qm 69 4,
 qr 70 (.bin .eql (.t 69) (.k (.i .i64 1))),
 qm 2 70])
 (.ret)))
 (.skip)))
 (.seq (.reg [qr 72 (.fad 0 (.t 1)),
 qr 73 (.ld true 3 (.t 72)),
 qr 74 (.fad 3 (.t 1)),
 qr 75 (.ld true 3 (.t 74)),
 qr 76 (.call 40 [(1, (.t 73)), (1, (.t 75))]),
 qr 77 (.ext (.t 76) 0),
 qr 78 (.ext (.t 76) 1),
 qr 79 (.call 49 [(1, (.t 77)), (1, (.t 78))]),
 qm 71 79,
 qr 80 (.ext (.t 71) 0),
 qr 81 (.ext (.t 71) 1),
 qr 5 (.al 27 [(.b false), (.l 1 []), (.l 1 [])]),
 qn (.st 3 (.t 5) (.t 80)),
 qm 6 81])
 (.seq (.reg [qr 83 (.fad 3 (.t 1)),
 qr 84 (.ld true 3 (.t 83)),
 qr 85 (.fad 0 (.t 1)),
 qr 86 (.ld true 3 (.t 85)),
 qr 87 (.call 40 [(1, (.t 84)), (1, (.t 86))]),
 qr 88 (.ext (.t 87) 0),
 qr 89 (.ext (.t 87) 1),
 qr 90 (.call 49 [(1, (.t 88)), (1, (.t 89))]),
 qm 82 90,
 qr 91 (.ext (.t 82) 0),
 qr 92 (.ext (.t 82) 1),
 qr 7 (.al 27 [(.b false), (.l 1 []), (.l 1 [])]),
 qn (.st 3 (.t 7) (.t 91)),
 qm 8 92])
 (.seq (.reg [qr 94 (.fad 3 (.t 1)),
 qr 95 (.ld true 3 (.t 94)),
 qr 96 (.fad 6 (.t 1)),
 qr 97 (.ld true 3 (.t 96)),
 qr 98 (.call 40 [(1, (.t 95)), (1, (.t 97))]),
 qr 99 (.ext (.t 98) 0),
 qr 100 (.ext (.t 98) 1),
 qr 101 (.call 49 [(1, (.t 99)), (1, (.t 100))]),
 qm 93 101,
 qr 102 (.ext (.t 93) 0),
 qr 103 (.ext (.t 93) 1),
 qr 9 (.al 27 [(.b false), (.l 1 []), (.l 1 [])]),
 qn (.st 3 (.t 9) (.t 102)),
 qm 10 103])
 (.seq (.reg [qr 105 (.ld true 3 (.t 5)),
 qr 106 (.fad 6 (.t 1)),
 qr 107 (.ld true 3 (.t 106)),
 qr 108 (.call 40 [(1, (.t 105)), (1, (.t 107))]),
 qr 109 (.ext (.t 108) 0),
 qr 110 (.ext (.t 108) 1),
 qr 111 (.call 49 [(1, (.t 109)), (1, (.t 110))]),
 qm 104 111,
 qr 112 (.ext (.t 104) 0),
 qr 113 (.ext (.t 104) 1),
 qr 11 (.al 27 [(.b false), (.l 1 []), (.l 1 [])]),
 qn (.st 3 (.t 11) (.t 112)),
 qm 12 113])
 (.seq (.reg [qr 115 (.fad 0 (.t 1)),
 qr 116 (.ld true 3 (.t 115)),
 qr 117 (.ld true 3 (.t 9)),
 qr 118 (.call 40 [(1, (.t 116)), (1, (.t 117))]),
 qr 119 (.ext (.t 118) 0),
 qr 120 (.ext (.t 118) 1),
 qr 121 (.call 49 [(1, (.t 119)), (1, (.t 120))]),
 qm 114 121,
 qr 122 (.ext (.t 114) 0),
 qr 123 (.ext (.t 114) 1),
 qr 13 (.al 27 [(.b false), (.l 1 []), (.l 1 [])]),
 qn (.st 3 (.t 13) (.t 122)),
 qm 14 123])
 (.seq (.reg [qr 125 (.fad 6 (.t 1)),
 qr 126 (.ld true 3 (.t 125)),
 qr 127 (.fad 0 (.t 1)),
 qr 128 (.ld true 3 (.t 127)),
 qr 129 (.fad 3 (.t 1)),
 qr 130 (.ld true 3 (.t 129)),
 qr 131 (.bsl 27 3 3 [(.b false), (.l 1 []), (.l 1 []), (.b false), (.l 1 []), (.l 1 []), (.b false), (.l 1 []), (.l 1 [])] [(0, (.t 126)), (1, (.t 128)), (2, (.t 130))]),
 qr 132 (.call 48 [(3, (.t 131))]),
 qr 133 (.ext (.t 132) 0),
 qr 134 (.ext (.t 132) 1),
 qr 135 (.call 49 [(1, (.t 133)), (1, (.t 134))]),
 qm 124 135,
 qr 136 (.ext (.t 124) 0),
 qr 137 (.ext (.t 124) 1),
 qr 15 (.al 27 [(.b false), (.l 1 []), (.l 1 [])]),
 qn (.st 3 (.t 15) (.t 136)),
 qm 16 137])
 (.seq (.seq (.reg [qm 138 6,
 qr 139 (.un .not (.t 138)),
 qm 140 139,
 ⟨some 141, some (140, false), .mv (.t 8)⟩,
 ⟨some 142, some (140, false), .un .not (.t 141)⟩,
 qr 143 (.pick (.t 140) (.k (.b true)) (.t 142)),
 qm 144 143,
 ⟨some 145, some (144, false), .mv (.t 10)⟩,
 ⟨some 146, some (144, false), .un .not (.t 145)⟩,
 qr 147 (.pick (.t 144) (.k (.b true)) (.t 146)),
 qm 148 147,
 ⟨some 149, some (148, false), .mv (.t 12)⟩,
 ⟨some 150, some (148, false), .un .not (.t 149)⟩,
 qr 151 (.pick (.t 148) (.k (.b true)) (.t 150)),
 qm 152 151,
 ⟨some 153, some (152, false), .mv (.t 14)⟩,
 ⟨some 154, some (152, false), .un .not (.t 153)⟩,
 qr 155 (.pick (.t 152) (.k (.b true)) (.t 154)),
 qm 156 155,
 ⟨some 157, some (156, false), .mv (.t 16)⟩,
 ⟨some 158, some (156, false), .un .not (.t 157)⟩,
 qr 159 (.pick (.t 156) (.k (.b true)) (.t 158)),
 qm 160 159,
 ⟨some 161, some (160, false), .ld true 3 (.t 5)⟩,
 ⟨some 162, some (160, false), .ld true 3 (.t 7)⟩,
 ⟨some 163, some (160, false), .call 50 [(1, (.t 161)), (1, (.t 162))]⟩,
 ⟨some 164, some (160, false), .un .not (.t 163)⟩,
 qr 165 (.pick (.t 160) (.k (.b true)) (.t 164)),
 qm 166 165,
 ⟨some 167, some (166, false), .ld true 3 (.t 11)⟩,
 ⟨some 168, some (166, false), .ld true 3 (.t 13)⟩,
 ⟨some 169, some (166, false), .call 50 [(1, (.t 167)), (1, (.t 168))]⟩,
 ⟨some 170, some (166, false), .un .not (.t 169)⟩,
 qr 171 (.pick (.t 166) (.k (.b true)) (.t 170)),
 qm 172 171,
 ⟨some 173, some (172, false), .ld true 3 (.t 11)⟩,
 ⟨some 174, some (172, false), .ld true 3 (.t 15)⟩,
 ⟨some 175, some (172, false), .call 50 [(1, (.t 173)), (1, (.t 174))]⟩,
 ⟨some 176, some (172, false), .un .not (.t 175)⟩,
 qr 177 (.pick (.t 172) (.k (.b true)) (.t 176))])
 (.cond (.t 177)
 (.seq (.reg [qr 2 (.mv (.k (.b false)))])
 (.ret))
 (.skip)))
 (.seq (.reg [qr 179 (.fad 0 (.t 1)),
 qr 180 (.ld true 3 (.t 179)),
 qr 181 (.ld true 3 (.t 9)),
 qr 182 (.call 43 [(1, (.t 180)), (1, (.t 181))]),
 qr 183 (.ext (.t 182) 0),
 qr 184 (.ext (.t 182) 1),
 qr 185 (.call 49 [(1, (.t 183)), (1, (.t 184))]),
 qm 178 185,
 qr 186 (.ext (.t 178) 0),
 qr 187 (.ext (.t 178) 1),
 qr 17 (.al 27 [(.b false), (.l 1 []), (.l 1 [])]),
 qn (.st 3 (.t 17) (.t 186)),
 qm 6 187])
 (.seq (.reg [qr 189 (.fad 0 (.t 1)),
 qr 190 (.ld true 3 (.t 189)),
 qr 191 (.fad 3 (.t 1)),
 qr 192 (.ld true 3 (.t 191)),
 qr 193 (.call 43 [(1, (.t 190)), (1, (.t 192))]),
 qr 194 (.ext (.t 193) 0),
 qr 195 (.ext (.t 193) 1),
 qr 196 (.call 49 [(1, (.t 194)), (1, (.t 195))]),
 qm 188 196,
 qr 197 (.ext (.t 188) 0),
 qr 198 (.ext (.t 188) 1),
 qr 18 (.al 27 [(.b false), (.l 1 []), (.l 1 [])]),
 qn (.st 3 (.t 18) (.t 197)),
 qm 8 198])
 (.seq (.reg [qr 200 (.fad 6 (.t 1)),
 qr 201 (.ld true 3 (.t 200)),
 qr 202 (.fad 0 (.t 1)),
 qr 203 (.ld true 3 (.t 202)),
 qr 204 (.call 43 [(1, (.t 201)), (1, (.t 203))]),
 qr 205 (.ext (.t 204) 0),
 qr 206 (.ext (.t 204) 1),
 qr 207 (.call 49 [(1, (.t 205)), (1, (.t 206))]),
 qm 199 207,
 qr 208 (.ext (.t 199) 0),
 qr 209 (.ext (.t 199) 1),
 qr 19 (.al 27 [(.b false), (.l 1 []), (.l 1 [])]),
 qn (.st 3 (.t 19) (.t 208)),
 qm 10 209])
 (.seq (.reg [qr 211 (.ld true 3 (.t 18)),
 qr 212 (.ld true 3 (.t 19)),
 qr 213 (.call 40 [(1, (.t 211)), (1, (.t 212))]),
 qr 214 (.ext (.t 213) 0),
 qr 215 (.ext (.t 213) 1),
 qr 216 (.call 49 [(1, (.t 214)), (1, (.t 215))]),
 qm 210 216,
 qr 217 (.ext (.t 210) 0),
 qr 218 (.ext (.t 210) 1),
 qr 20 (.al 27 [(.b false), (.l 1 []), (.l 1 [])]),
 qn (.st 3 (.t 20) (.t 217)),
 qm 12 218])
 (.seq (.reg [qr 220 (.ld true 3 (.t 5)),
 qr 221 (.fad 3 (.t 1)),
 qr 222 (.ld true 3 (.t 221)),
 qr 223 (.call 41 [(1, (.t 220)), (1, (.t 222))]),
 qr 224 (.ext (.t 223) 0),
 qr 225 (.ext (.t 223) 1),
 qr 226 (.call 49 [(1, (.t 224)), (1, (.t 225))]),
 qm 219 226,
 qr 227 (.ext (.t 219) 0),
 qr 228 (.ext (.t 219) 1),
 qr 21 (.al 27 [(.b false), (.l 1 []), (.l 1 [])]),
 qn (.st 3 (.t 21) (.t 227)),
 qm 14 228])
 (.seq (.reg [qr 230 (.fad 0 (.t 1)),
 qr 231 (.ld true 3 (.t 230)),
 qr 232 (.call 25 [(1, (.t 231))]),
 qr 233 (.ext (.t 232) 0),
 qr 234 (.ext (.t 232) 1),
 qr 235 (.call 49 [(1, (.t 233)), (1, (.t 234))]),
 qm 229 235,
 qr 236 (.ext (.t 229) 0),
 qr 237 (.ext (.t 229) 1),
 qr 22 (.al 27 [(.b false), (.l 1 []), (.l 1 [])]),
 qn (.st 3 (.t 22) (.t 236)),
 qm 16 237])
 (.seq (.seq (.reg [qm 238 6,
 qr 239 (.un .not (.t 238)),
 qm 240 239,
 ⟨some 241, some (240, false), .mv (.t 8)⟩,
 ⟨some 242, some (240, false), .un .not (.t 241)⟩,
 qr 243 (.pick (.t 240) (.k (.b true)) (.t 242)),
 qm 244 243,
 ⟨some 245, some (244, false), .mv (.t 10)⟩,
 ⟨some 246, some (244, false), .un .not (.t 245)⟩,
 qr 247 (.pick (.t 244) (.k (.b true)) (.t 246)),
 qm 248 247,
 ⟨some 249, some (248, false), .mv (.t 12)⟩,
 ⟨some 250, some (248, false), .un .not (.t 249)⟩,
 qr 251 (.pick (.t 248) (.k (.b true)) (.t 250)),
 qm 252 251,
 ⟨some 253, some (252, false), .mv (.t 14)⟩,
 ⟨some 254, some (252, false), .un .not (.t 253)⟩,
 qr 255 (.pick (.t 252) (.k (.b true)) (.t 254)),
 qm 256 255,
 ⟨some 257, some (256, false), .mv (.t 16)⟩,
 ⟨some 258, some (256, false), .un .not (.t 257)⟩,
 qr 259 (.pick (.t 256) (.k (.b true)) (.t 258)),
 qm 260 259,
 ⟨some 261, some (260, false), .ld true 3 (.t 17)⟩,
 ⟨some 262, some (260, false), .ld true 3 (.t 20)⟩,
 ⟨some 263, some (260, false), .call 50 [(1, (.t 261)), (1, (.t 262))]⟩,
 ⟨some 264, some (260, false), .un .not (.t 263)⟩,
 qr 265 (.pick (.t 260) (.k (.b true)) (.t 264)),
 qm 266 265,
 ⟨some 267, some (266, false), .ld true 3 (.t 21)⟩,
 ⟨some 268, some (266, false), .ld true 3 (.t 22)⟩,
 ⟨some 269, some (266, false), .call 50 [(1, (.t 267)), (1, (.t 268))]⟩,
 ⟨some 270, some (266, false), .un .not (.t 269)⟩,
 qr 271 (.pick (.t 266) (.k (.b true)) (.t 270))])
 (.cond (.t 271)
 (.seq (.reg [qr 2 (.mv (.k (.b false)))])
 (.ret))
 (.skip)))
 (.seq (.reg [qr 272 (.fad 13 (.t 1)),
 qr 273 (.ld false 1 (.t 272)),
 qr 274 (.bin .and (.t 273) (.k (.i .i64 15))),
 qm 23 274])
 (.seq (.reg [qr 276 (.fad 0 (.t 1)),
 qr 277 (.ld true 3 (.t 276)),
 qm 278 23,
 qr 279 (.call 51 [(1, (.t 277)), (1, (.t 278))]),
 qr 280 (.ext (.t 279) 0),
 qr 281 (.ext (.t 279) 1),
 qr 282 (.call 49 [(1, (.t 280)), (1, (.t 281))]),
 qm 275 282,
 qr 283 (.ext (.t 275) 0),
 qr 284 (.ext (.t 275) 1),
 qr 24 (.al 27 [(.b false), (.l 1 []), (.l 1 [])]),
 qn (.st 3 (.t 24) (.t 283)),
 qm 6 284])
 (.seq (.reg [qr 286 (.fad 0 (.t 1)),
 qr 287 (.ld true 3 (.t 286)),
 qm 288 23,
 qr 289 (.bin .add (.t 288) (.k (.i .i64 1))),
 qr 290 (.call 51 [(1, (.t 287)), (1, (.t 289))]),
 qr 291 (.ext (.t 290) 0),
 qr 292 (.ext (.t 290) 1),
 qr 293 (.call 49 [(1, (.t 291)), (1, (.t 292))]),
 qm 285 293,
 qr 294 (.ext (.t 285) 0),
 qr 295 (.ext (.t 285) 1),
 qr 25 (.al 27 [(.b false), (.l 1 []), (.l 1 [])]),
 qn (.st 3 (.t 25) (.t 294)),
 qm 8 295])
 (.seq (.reg [qr 297 (.ld true 3 (.t 24)),
 qr 298 (.fad 0 (.t 1)),
 qr 299 (.ld true 3 (.t 298)),
 qr 300 (.call 43 [(1, (.t 297)), (1, (.t 299))]),
 qr 301 (.ext (.t 300) 0),
 qr 302 (.ext (.t 300) 1),
 qr 303 (.call 49 [(1, (.t 301)), (1, (.t 302))]),
 qm 296 303,
 qr 304 (.ext (.t 296) 0),
 qr 305 (.ext (.t 296) 1),
 qr 26 (.al 27 [(.b false), (.l 1 []), (.l 1 [])]),
 qn (.st 3 (.t 26) (.t 304)),
 qm 10 305])
 (.seq (.seq (.reg [qm 306 6,
 qr 307 (.un .not (.t 306)),
 qm 308 307,
 ⟨some 309, some (308, false), .mv (.t 8)⟩,
 ⟨some 310, some (308, false), .un .not (.t 309)⟩,
 qr 311 (.pick (.t 308) (.k (.b true)) (.t 310)),
 qm 312 311,
 ⟨some 313, some (312, false), .mv (.t 10)⟩,
 ⟨some 314, some (312, false), .un .not (.t 313)⟩,
 qr 315 (.pick (.t 312) (.k (.b true)) (.t 314)),
 qm 316 315,
 ⟨some 317, some (316, false), .ld true 3 (.t 25)⟩,
 ⟨some 318, some (316, false), .ld true 3 (.t 26)⟩,
 ⟨some 319, some (316, false), .call 50 [(1, (.t 317)), (1, (.t 318))]⟩,
 ⟨some 320, some (316, false), .un .not (.t 319)⟩,
 qr 321 (.pick (.t 316) (.k (.b true)) (.t 320))])
 (.cond (.t 321)
 (.seq (.reg [qr 2 (.mv (.k (.b false)))])
 (.ret))
 (.skip)))
 (.seq (.seq (.reg [qr 322 (.fad 3 (.t 1)),
 qr 323 (.fad 0 (.t 322)),
 qr 324 (.fad 1 (.t 323)),
 qr 325 (.ld false 1 (.t 324)),
 qr 326 (.call 52 [(1, (.t 325))])])
 (.cond (.t 326)
 (.seq (.reg [qr 328 (.fad 0 (.t 1)),
 qr 329 (.ld true 3 (.t 328)),
 qr 330 (.fad 3 (.t 1)),
 qr 331 (.ld true 3 (.t 330)),
 qr 332 (.call 53 [(1, (.t 329)), (1, (.t 331))]),
 qm 327 332,
 qr 333 (.ext (.t 327) 0),
 qr 334 (.ext (.t 327) 1),
 qr 27 (.al 27 [(.b false), (.l 1 []), (.l 1 [])]),
 qn (.st 3 (.t 27) (.t 333)),
 qm 28 334])
 (.seq (.reg [qr 336 (.fad 3 (.t 1)),
 qr 337 (.ld true 3 (.t 336)),
 qr 338 (.call 51 [(1, (.t 337)), (1, (.k (.i .i64 (-1))))]),
 qm 335 338,
 qr 339 (.ext (.t 335) 0),
 qr 340 (.ext (.t 335) 1),
 qr 29 (.al 27 [(.b false), (.l 1 []), (.l 1 [])]),
 qn (.st 3 (.t 29) (.t 339)),
 qm 30 340])
 (.seq (.reg [qm 341 28,
 qr 342 (.bin .eql (.t 341) (.k (.i .i64 1))),
 qm 343 342,
 ⟨some 344, some (343, true), .mv (.t 30)⟩,
 ⟨some 345, some (343, true), .bin .eql (.t 344) (.k (.i .i64 1))⟩,
 qr 346 (.pick (.t 343) (.t 345) (.k (.b false))),
 qm 2 346])
 (.ret))))
 (.skip)))
 (.seq (.reg [qr 348 (.ld true 3 (.t 18)),
 qr 349 (.fad 3 (.t 1)),
 qr 350 (.ld true 3 (.t 349)),
 qr 351 (.call 53 [(1, (.t 348)), (1, (.t 350))]),
 qr 352 (.ext (.t 351) 0),
 qr 353 (.ext (.t 351) 1),
 qr 354 (.call 49 [(1, (.t 352)), (1, (.t 353))]),
 qm 347 354,
 qr 355 (.ext (.t 347) 0),
 qr 356 (.ext (.t 347) 1),
 qr 31 (.al 27 [(.b false), (.l 1 []), (.l 1 [])]),
 qn (.st 3 (.t 31) (.t 355)),
 qm 6 356])
 (.seq (.reg [qr 358 (.fad 3 (.t 1)),
 qr 359 (.ld true 3 (.t 358)),
 qr 360 (.call 51 [(1, (.t 359)), (1, (.k (.i .i64 (-1))))]),
 qr 361 (.ext (.t 360) 0),
 qr 362 (.ext (.t 360) 1),
 qr 363 (.call 49 [(1, (.t 361)), (1, (.t 362))]),
 qm 357 363,
 qr 364 (.ext (.t 357) 0),
 qr 365 (.ext (.t 357) 1),
 qr 32 (.al 27 [(.b false), (.l 1 []), (.l 1 [])]),
 qn (.st 3 (.t 32) (.t 364)),
 qm 8 365])
 (.seq (.reg [qr 367 (.ld true 3 (.t 32)),
 qr 368 (.fad 0 (.t 1)),
 qr 369 (.ld true 3 (.t 368)),
 qr 370 (.call 43 [(1, (.t 367)), (1, (.t 369))]),
 qr 371 (.ext (.t 370) 0),
 qr 372 (.ext (.t 370) 1),
 qr 373 (.call 49 [(1, (.t 371)), (1, (.t 372))]),
 qm 366 373,
 qr 374 (.ext (.t 366) 0),
 qr 375 (.ext (.t 366) 1),
 qr 33 (.al 27 [(.b false), (.l 1 []), (.l 1 [])]),
 qn (.st 3 (.t 33) (.t 374)),
 qm 10 375])
 (.seq (.reg [qr 377 (.fad 0 (.t 1)),
 qr 378 (.ld true 3 (.t 377)),
 qr 379 (.fad 3 (.t 1)),
 qr 380 (.ld true 3 (.t 379)),
 qr 381 (.call 53 [(1, (.t 378)), (1, (.t 380))]),
 qr 382 (.ext (.t 381) 0),
 qr 383 (.ext (.t 381) 1),
 qr 384 (.call 49 [(1, (.t 382)), (1, (.t 383))]),
 qm 376 384,
 qr 385 (.ext (.t 376) 0),
 qr 386 (.ext (.t 376) 1),
 qr 34 (.al 27 [(.b false), (.l 1 []), (.l 1 [])]),
 qn (.st 3 (.t 34) (.t 385)),
 qm 12 386])
 (.seq (.reg [qm 387 6,
 qm 388 387,
 ⟨some 389, some (388, true), .mv (.t 8)⟩,
 qr 390 (.pick (.t 388) (.t 389) (.k (.b false))),
 qm 391 390,
 ⟨some 392, some (391, true), .mv (.t 10)⟩,
 qr 393 (.pick (.t 391) (.t 392) (.k (.b false))),
 qm 394 393,
 ⟨some 395, some (394, true), .mv (.t 12)⟩,
 qr 396 (.pick (.t 394) (.t 395) (.k (.b false))),
 qm 397 396,
 ⟨some 398, some (397, true), .ld true 3 (.t 31)⟩,
 ⟨some 399, some (397, true), .ld true 3 (.t 22)⟩,
 ⟨some 400, some (397, true), .call 50 [(1, (.t 398)), (1, (.t 399))]⟩,
 qr 401 (.pick (.t 397) (.t 400) (.k (.b false))),
 qm 402 401,
 ⟨some 403, some (402, true), .ld true 3 (.t 33)⟩,
 ⟨some 404, some (402, true), .ld true 3 (.t 34)⟩,
 ⟨some 405, some (402, true), .call 50 [(1, (.t 403)), (1, (.t 404))]⟩,
 qr 406 (.pick (.t 402) (.t 405) (.k (.b false))),
 qm 2 406])
 (.ret)))))))))))))))))))))))))))))
set_option maxRecDepth 100000 in
theorem qqLaws_spec (s0 s1 s2 s3 s4 : Bool) (aa0 d0 aa1 d1 aa2 d2 aa3 aa4 : List Nat) (n m k : Int) (l : List (Bool × List Nat × List Nat)) (st : List UInt8)
    (wa0 : Wd aa0) (wd0 : Wd d0) (wa1 : Wd aa1) (wd1 : Wd d1) (wa2 : Wd aa2) (wd2 : Wd d2) :
    AFun Tryz.prog J0 6 [caseV s0 s1 s2 s3 s4 aa0 d0 aa1 d1 aa2 d2 aa3 aa4 n m k l st] (.b true) := by
  have hl := lless_spec s0 s1 s2 s3 s4 aa0 d0 aa1 d1 aa2 d2 aa3 aa4 n m k l st
  obtain ⟨b0, e, vb0, lb0⟩ := take12 wa0; rw [e] at hl
  obtain ⟨e0, e, ve0, le0⟩ := take12 wd0; rw [e] at hl
  obtain ⟨b1, e, vb1, lb1⟩ := take12 wa1; rw [e] at hl
  obtain ⟨e1, e, ve1, le1⟩ := take12 wd1; rw [e] at hl
  obtain ⟨b2, e, vb2, lb2⟩ := take12 wa2; rw [e] at hl
  obtain ⟨e2, e, ve2, le2⟩ := take12 wd2; rw [e] at hl
  generalize aa3.take 12 = b3 at *
  generalize aa4.take 12 = b4 at *
  generalize fewL l = ls at *
  clear wa0 wd0 wa1 wd1 wa2 wd2 e
  have hf := lfixed_spec
  have o0 := rOk_spec s0 b0 e0 ve0 (by omega)
  have o1 := rOk_spec s1 b1 e1 ve1 (by omega)
  have o2 := rOk_spec s2 b2 e2 ve2 (by omega)
  have lok : LOk [(s0, b0, e0), (s1, b1, e1), (s2, b2, e2)] := fun p hp => by
    simp only [List.mem_cons, List.not_mem_nil, or_false] at hp
    rcases hp with rfl | rfl | rfl
    · exact ⟨vb0, ve0, lb0, le0⟩
    · exact ⟨vb1, ve1, lb1, le1⟩
    · exact ⟨vb2, ve2, lb2, le2⟩
  by_cases bad : nv B e0 = 0 ∨ nv B e1 = 0 ∨ nv B e2 = 0
  · have x1 := qsum_spec _ (by simp) lok
    rw [ce3 _ _ _ bad, show sumV [(s0, b0, e0), (s1, b1, e1), (s2, b2, e2)] = .g [.b false, .l 1 [], .l 1 []] from if_pos (ce3 _ _ _ bad)] at x1
    replace x1 : AFun Tryz.prog J0 48 [.l 3 [.b s0, .l 1 (W b0), .l 1 (W e0), .b s1, .l 1 (W b1), .l 1 (W e1), .b s2, .l 1 (W b2), .l 1 (W e2)]] (.t [.g [.b false, .l 1 [], .l 1 []], .i .i64 1]) := x1
    have cA := lc_spec s0 b0 e0 (by omega) (by omega)
    have cB := lc_spec s1 b1 e1 (by omega) (by omega)
    have cC := lc_spec s2 b2 e2 (by omega) (by omega)
    clear lok
    by_cases h0 : nv B e0 = 0
    · rw [decide_eq_true h0] at o0
      refine mkQ fol J0s Tryz.func6 a6 ?_
      unfold a6
      simp only [init_eq, initE, qm, qr, qn]
      exact wdQ @bz_LQLaws
    · rw [decide_eq_false h0] at o0
      by_cases h1 : nv B e1 = 0
      · rw [decide_eq_true h1] at o1
        refine mkQ fol J0s Tryz.func6 a6 ?_
        unfold a6
        simp only [init_eq, initE, qm, qr, qn]
        exact wdQ @bz_LQLaws
      · rw [decide_eq_false h1] at o1
        rw [decide_eq_true (by omega)] at o2
        refine mkQ fol J0s Tryz.func6 a6 ?_
        unfold a6
        simp only [init_eq, initE, qm, qr, qn]
        exact wdQ @bz_LQLaws
  · have h0 : nv B e0 ≠ 0 := by omega
    have h1 : nv B e1 ≠ 0 := by omega
    have h2 : nv B e2 ≠ 0 := by omega
    rw [decide_eq_false h0] at o0
    rw [decide_eq_false h1] at o1
    rw [decide_eq_false h2] at o2
    have hA := Rr_raw (s := s0) vb0 ve0 lb0 le0 h0
    have hB := Rr_raw (s := s1) vb1 ve1 lb1 le1 h1
    have hC := Rr_raw (s := s2) vb2 ve2 lb2 le2 h2
    have lok' : LOk [(s2, b2, e2), (s0, b0, e0), (s1, b1, e1)] := fun p hp => by
      simp only [List.mem_cons, List.not_mem_nil, or_false] at hp
      rcases hp with rfl | rfl | rfl
      · exact ⟨vb2, ve2, lb2, le2⟩
      · exact ⟨vb0, ve0, lb0, le0⟩
      · exact ⟨vb1, ve1, lb1, le1⟩
    have hce := ce3' (s2, b2, e2) (s0, b0, e0) (s1, b1, e1) ⟨h2, h0, h1⟩
    have x1 := qsum_spec _ (by simp) lok'
    obtain ⟨sz1, sz2⟩ := sumZ_q hce 3 (Nat.le_refl _)
    rw [hce, show sumV [(s2, b2, e2), (s0, b0, e0), (s1, b1, e1)] = rN (sumZ [(s2, b2, e2), (s0, b0, e0), (s1, b1, e1)] 3).1 (sumZ [(s2, b2, e2), (s0, b0, e0), (s1, b1, e1)] 3).2 from if_neg (by rw [hce]; decide), sz1, sz2] at x1
    have hs3 : sumQ [(s2, b2, e2), (s0, b0, e0), (s1, b1, e1)] 3 = mkRat (zv s0 b0) (nv B e0) + mkRat (zv s1 b1) (nv B e1) + mkRat (zv s2 b2) (nv B e2) := by
      show 0 + mkRat (zv s2 b2) (nv B e2) + mkRat (zv s0 b0) (nv B e0) + mkRat (zv s1 b1) (nv B e1) = _
      grind
    rw [hs3] at x1
    replace x1 : AFun Tryz.prog J0 48 [.l 3 [.b s2, .l 1 (W b2), .l 1 (W e2), .b s0, .l 1 (W b0), .l 1 (W e0), .b s1, .l 1 (W b1), .l 1 (W e1)]] (.t [rN (mkRat (zv s0 b0) (nv B e0) + mkRat (zv s1 b1) (nv B e1) + mkRat (zv s2 b2) (nv B e2)).num (mkRat (zv s0 b0) (nv B e0) + mkRat (zv s1 b1) (nv B e1) + mkRat (zv s2 b2) (nv B e2)).den, .i .i64 0]) := x1
    clear lok lok' sz1 sz2 hs3 hce bad
    have hz := hzero_spec b1 vb1 (by omega)
    have hq0 : (mkRat (zv s1 b1) (nv B e1) = 0) = (nv B b1 = 0) := by
      rw [propext (Rat.mkRat_eq_zero h1)]; exact propext zv_z
    -- the answers where b is 0
    have qz : nv B b1 = 0 → AFun Tryz.prog J0 53 [rL s0 b0 e0, rL s1 b1 e1] (.t [.g [.b false, .l 1 [], .l 1 []], .i .i64 1]) ∧ AFun Tryz.prog J0 51 [rL s1 b1 e1, .i .i64 (-1)] (.t [.g [.b false, .l 1 [], .l 1 []], .i .i64 1]) := fun h => by
      have hz1 : zv s1 b1 = 0 := zv_z.2 h
      constructor
      · have := qquo_spec s0 s1 b0 b1 e0 e1 12 (by decide) vb0 vb1 ve0 ve1 lb0 lb1 le0 le1 (Nat.mul_ne_zero h0 h1)
        rw [hz1, Int.zero_mul] at this
        exact this
      · have := qpow_spec s1 b1 e1 (-1) 12 100 (by decide) (by decide) vb1 ve1 lb1 le1 (.inr (by decide))
        have hr0 : rz (zv s1 b1) (nv B e1) = 0 := by rw [r_num h1, hz1, Rat.zero_mkRat]; rfl
        unfold pV pE pv pe at this
        rw [if_neg (show ¬ (nv B e1 = 0 ∨ (-1 : Int) < -4096 ∨ 4096 < (-1 : Int)) from by omega), if_neg h1, if_neg (show ¬ ((-1 : Int) < -4096 ∨ 4096 < (-1 : Int)) from by omega), if_pos (show (-1 : Int) < 0 from by decide), if_pos (show (-1 : Int) < 0 from by decide), hr0] at this
        exact this
    generalize mkRat (zv s0 b0) (nv B e0) = P at *
    generalize mkRat (zv s1 b1) (nv B e1) = Q at *
    generalize mkRat (zv s2 b2) (nv B e2) = R at *
    obtain ⟨p1, g1⟩ := qaddR hA hB (by decide)
    obtain ⟨p2, _⟩ := qaddR hB hA (by decide)
    rw [Rat.add_comm Q P] at p2
    obtain ⟨p3, g3⟩ := qaddR hB hC (by decide)
    obtain ⟨p4, g4⟩ := qaddR g1 (Rr_up hC (by decide : 12 ≤ 12 + 12 + 1)) (by decide)
    obtain ⟨p5, _⟩ := qaddR (Rr_up hA (by decide : 12 ≤ 12 + 12 + 1)) g3 (by decide)
    rw [← Rat.add_assoc] at p5
    obtain ⟨p6, g6⟩ := qmulR (Rr_up hA (by decide : 12 ≤ 12 + 12 + 1)) g3 (by decide)
    obtain ⟨p7, g7⟩ := qmulR hA hB (by decide)
    obtain ⟨p8, g8⟩ := qmulR hC hA (by decide)
    obtain ⟨p9, _⟩ := qaddR g7 g8 (by decide)
    rw [show P * Q + R * P = P * (Q + R) from by grind] at p9
    obtain ⟨p10, _⟩ := qsubR g1 (Rr_up hB (by decide : 12 ≤ 12 + 12 + 1)) (by decide)
    rw [show P + Q - Q = P from by grind] at p10
    obtain ⟨p11, g11⟩ := qnormR hA (by decide)
    obtain ⟨kk, hk, hbits⟩ := and15 n
    obtain ⟨p12, g12⟩ := qpowR (n := kk) hA (by decide) (by decide) (by omega)
    obtain ⟨p13, g13⟩ := qpowR (n := kk + 1) hA (by decide) (by decide) (by omega)
    rw [show (((kk + 1 : Nat)) : Int) = (kk : Int) + 1 from rfl] at p13
    obtain ⟨p14, _⟩ := qmulR (m := 200) (Rr_up g12 (by omega)) (Rr_up hA (by decide)) (by decide)
    rw [← Rat.pow_succ] at p14
    have c1 := lop_spec g1 (by decide)
    have c3 := lop_spec g3 (by decide)
    have c4 := lop_spec g4 (by decide)
    have c6 := lop_spec g6 (by decide)
    have c7 := lop_spec g7 (by decide)
    have c8 := lop_spec g8 (by decide)
    have c11 := lop_spec g11 (by decide)
    have c12 := lop_spec (Rr_up g12 (by omega : _ ≤ 1000)) (by decide)
    have c13 := lop_spec (Rr_up g13 (by omega : _ ≤ 1000)) (by decide)
    have e1' := sameR g1 (by decide)
    have e4 := sameR g4 (by decide)
    have e6 := sameR g6 (by decide)
    have e11 := sameR g11 (by decide)
    have e13 := sameR (Rr_up g13 (by omega : _ ≤ 1000)) (by decide)
    by_cases hb0 : nv B b1 = 0
    · rw [decide_eq_true hb0] at hz
      obtain ⟨qz1, qz2⟩ := qz hb0
      clear qz hq0 g1 g3 g4 g6 g7 g8 g11 g12 g13 hA hB hC
      generalize P + Q + R = PQR at *
      generalize P * (Q + R) = PM at *
      generalize P + Q = PQ at *
      generalize Q + R = QR at *
      generalize P * Q = M1 at *
      generalize R * P = M2 at *
      generalize P ^ (kk + 1) = K1 at *
      generalize P ^ kk = K0 at *
      refine mkQ fol J0s Tryz.func6 a6 ?_
      unfold a6
      simp only [init_eq, initE, qm, qr, qn]
      have zc1 := p1
      have zc2 := p2
      have zc3 := p3
      have zc4 := p4
      have zc5 := p5
      have zc6 := e1'
      have zc7 := p6
      have zc8 := p7
      have zc9 := p8
      have zc10 := p9
      have zc11 := p10
      have zc12 := p11
      have zc13 := p12
      have zc14 := p13
      have zc15 := p14
      have zc16 := qz1
      have zc17 := qz2
      exact wdQ (ai @hbits @bz_LQLaws)
    · have hQ : Q ≠ 0 := by rw [ne_eq, hq0]; exact hb0
      rw [decide_eq_false hb0] at hz
      obtain ⟨p15, _⟩ := qquoR g7 (Rr_up hB (by decide : 12 ≤ 12 + 12)) (by decide) hQ
      rw [show P * Q / Q = P from by grind] at p15
      obtain ⟨p16, g16⟩ := qinvR hB (by decide) (by decide) hQ
      obtain ⟨p17, _⟩ := qmulR g16 hA (by decide)
      rw [show Q⁻¹ * P = P / Q from by grind] at p17
      obtain ⟨p18, g18⟩ := qquoR hA hB (by decide) hQ
      have c16 := lop_spec g16 (by decide)
      have c18 := lop_spec g18 (by decide)
      have e18 := sameR g18 (by decide)
      clear qz hq0 g1 g3 g4 g6 g7 g8 g11 g12 g13 g16 g18 hA hB hC
      generalize P + Q + R = PQR at *
      generalize P * (Q + R) = PM at *
      generalize P + Q = PQ at *
      generalize Q + R = QR at *
      generalize P * Q = M1 at *
      generalize R * P = M2 at *
      generalize P ^ (kk + 1) = K1 at *
      generalize P ^ kk = K0 at *
      generalize P / Q = D0 at *
      generalize Q⁻¹ = I0 at *
      refine mkQ fol J0s Tryz.func6 a6 ?_
      unfold a6
      simp only [init_eq, initE, qm, qr, qn]
      have zc18 := p1
      have zc19 := p2
      have zc20 := p3
      have zc21 := p4
      have zc22 := p5
      have zc23 := e1'
      have zc24 := p6
      have zc25 := p7
      have zc26 := p8
      have zc27 := p9
      have zc28 := p10
      have zc29 := p11
      have zc30 := p12
      have zc31 := p13
      have zc32 := p14
      have zc33 := p15
      have zc34 := p16
      have zc35 := p17
      have zc36 := p18
      exact wdQ (ai @hbits @bz_LQLaws)
end Go.Proofs.YtlhadigkmlldeaaGreatDoor
