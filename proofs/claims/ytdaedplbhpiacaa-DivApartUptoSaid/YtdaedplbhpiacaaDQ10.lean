/-
  DivApart: the checks, walked by the layer.
-/
import Derived.Test.YtdaedplbhpiacaaGH
import Derived.Test.YtdaedplbhpiacaaDD1
import Derived.Test.YtdaedplbhpiacaaZ3
import Derived.Test.YtdaedplbhpiacaaDKn
import Derived.Test.YtdaedplbhpiacaaDQ9
namespace Go.Proofs.Ytdaedplbhpiacaa
open Go Go.RowKit Ab
set_option linter.unusedSimpArgs false
set_option linter.unusedVariables false
set_option maxHeartbeats 10000000
theorem bz_DQ10 : type_of% (And.intro @W_len (And.intro @Nat.div_one (And.intro @Nat.mul_one (And.intro @tn_nat (And.intro @W_nf (And.intro @W_nil (And.intro @wi (And.intro @nf_g (And.intro @Bool.false_and (@W_cell)))))))))) := And.intro @W_len (And.intro @Nat.div_one (And.intro @Nat.mul_one (And.intro @tn_nat (And.intro @W_nf (And.intro @W_nil (And.intro @wi (And.intro @nf_g (And.intro @Bool.false_and (@W_cell)))))))))
def a21 : AC := .seq (.reg [qr 6 (.mv (.k .nl)),
 qr 7 (.mv (.k (.i .i64 0)))])
 (.seq (.reg [qm 8 0,
 qm 9 1,
 qr 10 (.call 46 [(1, (.t 8)), (1, (.t 9))]),
 qm 11 2,
 qr 12 (.call 45 [(1, (.t 10)), (1, (.t 11))]),
 qr 13 (.ext (.t 12) 0),
 qr 14 (.ext (.t 12) 1),
 qm 6 13,
 qm 7 14])
 (.ret))
theorem rmulmod_spec (a b m : List Nat) (ha : Wd a) (hb : Wd b) (hm : Wd m) (la : a.length ≤ 10000000) (lb : b.length ≤ 10000000) (lm : m.length ≤ 10000000) :
    AFun Try.prog J0 21 [.l 1 (W a), .l 1 (W b), .l 1 (W m)] (.t [.l 1 (W (qR (nv B a * nv B b) (nv B m))), .i .i64 (qE (nv B m))]) := by
  have h1 := rmul_spec a b ha hb (by omega) (by omega)
  have hl : (dg B (nv B a * nv B b)).length ≤ a.length + b.length := dlen (by rw [Nat.pow_add]; exact Nat.mul_lt_mul_of_lt_of_lt (nv_lt ha) (nv_lt hb))
  have h2 := rmod_spec (dg B (nv B a * nv B b)) m (Wd_dg _) hm (by omega) (by omega)
  rw [nv_dgB] at h2
  refine mkQ fol J0s Try.func21 a21 ?_
  unfold a21
  simp only [init_eq, initE, qm, qr, qn]
  exact wdQ @bz_DQ10
theorem sameV (a b : List Nat) (la : a.length ≤ 9223372036854775807) (e : a = b) : AFun Try.prog J0 22 [.l 1 (W a), .l 1 (W b)] (.b true) := by
  subst e
  have := same_spec a a la la
  simpa using this
def a23 : AC := .seq (.reg [qr 4 (.mv (.k (.b false)))])
 (.seq (.reg [qm 5 0,
 qm 6 1,
 qr 7 (.call 22 [(1, (.t 5)), (1, (.t 6))]),
 qm 4 7])
 (.ret))
theorem words_tt (a : List Nat) (la : a.length ≤ 1099511627776) : AFun Try.prog J0 23 [.l 1 (W a), .l 1 (W a)] (.b true) := by
  have hs := sameV a a (by omega) rfl
  refine mkQ fol J0s Try.func23 a23 ?_
  unfold a23
  simp only [init_eq, initE, qm, qr, qn]
  exact wdQ @bz_DQ10
def a3 : AC := .seq (.reg [qr 6 (.mv (.k (.b false)))])
 (.seq (.seq (.reg [qr 52 (.call 4 []),
 qr 53 (.un .not (.t 52))])
 (.cond (.t 53)
 (.seq (.reg [qr 6 (.mv (.k (.b false)))])
 (.ret))
 (.skip)))
 (.seq (.reg [qr 54 (.bld [(.l 1 []), (.l 1 []), (.l 1 [])] []),
 qr 55 (.bx 29 (.t 54)),
 qm 7 55])
 (.seq (.reg [qm 56 7,
 qm 57 0,
 qr 58 (.call 5 [(1, (.t 56)), (1, (.t 57))]),
 qm 59 7,
 qm 60 1,
 qr 61 (.call 5 [(1, (.t 59)), (1, (.t 60))]),
 qm 8 58,
 qm 9 61])
 (.seq (.reg [qm 62 2,
 qr 63 (.bin .or (.t 62) (.k (.i .u64 2))),
 qm 2 63])
 (.seq (.seq (.reg [qr 10 (.mv (.k (.i .i64 0)))])
 (.blk 0
 (.loop
 (.seq (.seq (.reg [qm 64 10,
 qr 65 (.bin .lss (.t 64) (.k (.i .i64 2)))])
 (.cond (.t 65)
 (.skip)
 (.exit 0)))
 (.seq (.blk 1
 (.seq (.reg [qr 68 (.bsl 24 1 0 [] []),
 qm 69 8,
 qr 70 (.app 24 1 8 (.t 68) (.t 69)),
 qr 71 (.bsl 24 1 0 [] []),
 qm 72 9,
 qr 73 (.app 24 1 8 (.t 71) (.t 72)),
 qm 11 70,
 qm 12 73])
 (.seq (.reg [qm 75 8,
 qm 76 9,
 qr 77 (.call 6 [(1, (.t 75)), (1, (.t 76))]),
 qm 74 77,
 qr 78 (.ext (.t 74) 0),
 qr 79 (.ext (.t 74) 1),
 qr 80 (.ext (.t 74) 2),
 qm 13 78,
 qm 14 79,
 qm 15 80])
 (.seq (.reg [qm 82 8,
 qm 83 9,
 qr 84 (.call 6 [(1, (.t 82)), (1, (.t 83))]),
 qm 81 84,
 qr 85 (.ext (.t 81) 0),
 qr 86 (.ext (.t 81) 1),
 qr 87 (.ext (.t 81) 2),
 qm 16 85,
 qm 17 86,
 qm 18 87])
 (.seq (.reg [qm 89 8,
 qm 90 9,
 qr 91 (.call 7 [(1, (.t 89)), (1, (.t 90))]),
 qm 88 91,
 qr 92 (.ext (.t 88) 0),
 qr 93 (.ext (.t 88) 1),
 qm 19 92,
 qm 20 93])
 (.seq (.reg [qm 95 8,
 qm 96 9,
 qr 97 (.call 8 [(1, (.t 95)), (1, (.t 96))]),
 qm 94 97,
 qr 98 (.ext (.t 94) 0),
 qr 99 (.ext (.t 94) 1),
 qm 21 98,
 qm 22 99])
 (.seq (.reg [qm 101 8,
 qm 102 9,
 qr 103 (.call 9 [(1, (.t 101)), (1, (.t 102))]),
 qm 100 103,
 qr 104 (.ext (.t 100) 0),
 qr 105 (.ext (.t 100) 1),
 qm 23 104,
 qm 24 105])
 (.seq (.reg [qm 107 8,
 qm 108 2,
 qr 109 (.call 10 [(1, (.t 107)), (1, (.t 108))]),
 qm 106 109,
 qr 110 (.ext (.t 106) 0),
 qr 111 (.ext (.t 106) 1),
 qr 112 (.ext (.t 106) 2),
 qm 25 110,
 qm 26 111,
 qm 27 112])
 (.seq (.reg [qm 114 8,
 qm 115 9,
 qr 116 (.call 11 [(1, (.t 114)), (1, (.t 115))]),
 qm 113 116,
 qr 117 (.ext (.t 113) 0),
 qr 118 (.ext (.t 113) 1),
 qm 28 117,
 qm 29 118])
 (.seq (.reg [qm 120 8,
 qm 121 2,
 qr 122 (.call 12 [(1, (.t 120)), (1, (.t 121))]),
 qm 119 122,
 qr 123 (.ext (.t 119) 0),
 qr 124 (.ext (.t 119) 1),
 qm 30 123,
 qm 31 124])
 (.seq (.reg [qm 126 8,
 qm 127 8,
 qm 128 9,
 qr 129 (.call 13 [(1, (.t 126)), (1, (.t 127)), (1, (.t 128))]),
 qm 125 129,
 qr 130 (.ext (.t 125) 0),
 qr 131 (.ext (.t 125) 1),
 qm 32 130,
 qm 33 131])
 (.seq (.reg [qm 133 8,
 qr 134 (.bsl 24 1 1 [(.i .u64 0)] [(0, (.k (.i .u64 1)))]),
 qr 135 (.call 11 [(1, (.t 133)), (1, (.t 134))]),
 qm 132 135,
 qr 136 (.ext (.t 132) 0),
 qr 137 (.ext (.t 132) 1),
 qm 34 136,
 qm 35 137])
 (.seq (.seq (.reg [qm 138 10,
 qr 139 (.bin .eql (.t 138) (.k (.i .i64 0))),
 qm 140 139,
 ⟨some 141, some (140, true), .mv (.t 7)⟩,
 ⟨some 142, some (140, true), .call 14 [(1, (.t 141))]⟩,
 ⟨some 143, some (140, true), .un .not (.t 142)⟩,
 qr 144 (.pick (.t 140) (.t 143) (.k (.b false)))])
 (.cond (.t 144)
 (.seq (.reg [qr 6 (.mv (.k (.b false)))])
 (.ret))
 (.skip)))
 (.seq (.reg [qm 146 11,
 qm 147 12,
 qr 148 (.call 15 [(1, (.t 146)), (1, (.t 147))]),
 qm 145 148,
 qr 149 (.ext (.t 145) 0),
 qr 150 (.ext (.t 145) 1),
 qr 151 (.ext (.t 145) 2),
 qm 36 149,
 qm 37 150,
 qm 38 151])
 (.seq (.reg [qm 153 11,
 qm 154 12,
 qr 155 (.call 16 [(1, (.t 153)), (1, (.t 154))]),
 qm 152 155,
 qr 156 (.ext (.t 152) 0),
 qr 157 (.ext (.t 152) 1),
 qm 39 156,
 qm 40 157])
 (.seq (.reg [qm 159 11,
 qm 160 12,
 qr 161 (.call 17 [(1, (.t 159)), (1, (.t 160))]),
 qm 158 161,
 qr 162 (.ext (.t 158) 0),
 qr 163 (.ext (.t 158) 1),
 qm 41 162,
 qm 42 163])
 (.seq (.reg [qm 165 11,
 qm 166 2,
 qr 167 (.call 18 [(1, (.t 165)), (1, (.t 166))]),
 qm 164 167,
 qr 168 (.ext (.t 164) 0),
 qr 169 (.ext (.t 164) 1),
 qr 170 (.ext (.t 164) 2),
 qm 43 168,
 qm 44 169,
 qm 45 170])
 (.seq (.reg [qm 172 11,
 qm 173 12,
 qr 174 (.call 19 [(1, (.t 172)), (1, (.t 173))]),
 qm 171 174,
 qr 175 (.ext (.t 171) 0),
 qr 176 (.ext (.t 171) 1),
 qm 46 175,
 qm 47 176])
 (.seq (.reg [qm 178 11,
 qm 179 2,
 qr 180 (.call 20 [(1, (.t 178)), (1, (.t 179))]),
 qm 177 180,
 qr 181 (.ext (.t 177) 0),
 qr 182 (.ext (.t 177) 1),
 qm 48 181,
 qm 49 182])
 (.seq (.reg [qm 184 11,
 qm 185 11,
 qm 186 12,
 qr 187 (.call 21 [(1, (.t 184)), (1, (.t 185)), (1, (.t 186))]),
 qm 183 187,
 qr 188 (.ext (.t 183) 0),
 qr 189 (.ext (.t 183) 1),
 qm 50 188,
 qm 51 189])
 (.seq (.seq (.reg [qm 190 13,
 qm 191 36,
 qr 192 (.call 22 [(1, (.t 190)), (1, (.t 191))]),
 qr 193 (.un .not (.t 192)),
 qm 194 193,
 ⟨some 195, some (194, false), .mv (.t 14)⟩,
 ⟨some 196, some (194, false), .mv (.t 37)⟩,
 ⟨some 197, some (194, false), .call 22 [(1, (.t 195)), (1, (.t 196))]⟩,
 ⟨some 198, some (194, false), .un .not (.t 197)⟩,
 qr 199 (.pick (.t 194) (.k (.b true)) (.t 198)),
 qm 200 199,
 ⟨some 201, some (200, false), .mv (.t 16)⟩,
 ⟨some 202, some (200, false), .mv (.t 36)⟩,
 ⟨some 203, some (200, false), .call 22 [(1, (.t 201)), (1, (.t 202))]⟩,
 ⟨some 204, some (200, false), .un .not (.t 203)⟩,
 qr 205 (.pick (.t 200) (.k (.b true)) (.t 204)),
 qm 206 205,
 ⟨some 207, some (206, false), .mv (.t 17)⟩,
 ⟨some 208, some (206, false), .mv (.t 37)⟩,
 ⟨some 209, some (206, false), .call 22 [(1, (.t 207)), (1, (.t 208))]⟩,
 ⟨some 210, some (206, false), .un .not (.t 209)⟩,
 qr 211 (.pick (.t 206) (.k (.b true)) (.t 210)),
 qm 212 211,
 ⟨some 213, some (212, false), .mv (.t 19)⟩,
 ⟨some 214, some (212, false), .mv (.t 37)⟩,
 ⟨some 215, some (212, false), .call 22 [(1, (.t 213)), (1, (.t 214))]⟩,
 ⟨some 216, some (212, false), .un .not (.t 215)⟩,
 qr 217 (.pick (.t 212) (.k (.b true)) (.t 216)),
 qm 218 217,
 ⟨some 219, some (218, false), .mv (.t 15)⟩,
 ⟨some 220, some (218, false), .mv (.t 38)⟩,
 ⟨some 221, some (218, false), .bin .neq (.t 219) (.t 220)⟩,
 qr 222 (.pick (.t 218) (.k (.b true)) (.t 221)),
 qm 223 222,
 ⟨some 224, some (223, false), .mv (.t 18)⟩,
 ⟨some 225, some (223, false), .mv (.t 38)⟩,
 ⟨some 226, some (223, false), .bin .neq (.t 224) (.t 225)⟩,
 qr 227 (.pick (.t 223) (.k (.b true)) (.t 226)),
 qm 228 227,
 ⟨some 229, some (228, false), .mv (.t 20)⟩,
 ⟨some 230, some (228, false), .mv (.t 38)⟩,
 ⟨some 231, some (228, false), .bin .neq (.t 229) (.t 230)⟩,
 qr 232 (.pick (.t 228) (.k (.b true)) (.t 231)),
 qm 233 232,
 ⟨some 234, some (233, false), .mv (.t 22)⟩,
 ⟨some 235, some (233, false), .mv (.t 38)⟩,
 ⟨some 236, some (233, false), .bin .neq (.t 234) (.t 235)⟩,
 qr 237 (.pick (.t 233) (.k (.b true)) (.t 236)),
 qm 238 237,
 ⟨some 239, some (238, false), .mv (.t 21)⟩,
 ⟨some 240, some (238, false), .mv (.t 39)⟩,
 ⟨some 241, some (238, false), .call 22 [(1, (.t 239)), (1, (.t 240))]⟩,
 ⟨some 242, some (238, false), .un .not (.t 241)⟩,
 qr 243 (.pick (.t 238) (.k (.b true)) (.t 242)),
 qm 244 243,
 ⟨some 245, some (244, false), .mv (.t 23)⟩,
 ⟨some 246, some (244, false), .mv (.t 41)⟩,
 ⟨some 247, some (244, false), .call 22 [(1, (.t 245)), (1, (.t 246))]⟩,
 ⟨some 248, some (244, false), .un .not (.t 247)⟩,
 qr 249 (.pick (.t 244) (.k (.b true)) (.t 248)),
 qm 250 249,
 ⟨some 251, some (250, false), .mv (.t 25)⟩,
 ⟨some 252, some (250, false), .mv (.t 43)⟩,
 ⟨some 253, some (250, false), .call 22 [(1, (.t 251)), (1, (.t 252))]⟩,
 ⟨some 254, some (250, false), .un .not (.t 253)⟩,
 qr 255 (.pick (.t 250) (.k (.b true)) (.t 254)),
 qm 256 255,
 ⟨some 257, some (256, false), .mv (.t 28)⟩,
 ⟨some 258, some (256, false), .mv (.t 46)⟩,
 ⟨some 259, some (256, false), .call 22 [(1, (.t 257)), (1, (.t 258))]⟩,
 ⟨some 260, some (256, false), .un .not (.t 259)⟩,
 qr 261 (.pick (.t 256) (.k (.b true)) (.t 260)),
 qm 262 261,
 ⟨some 263, some (262, false), .mv (.t 29)⟩,
 ⟨some 264, some (262, false), .mv (.t 47)⟩,
 ⟨some 265, some (262, false), .bin .neq (.t 263) (.t 264)⟩,
 qr 266 (.pick (.t 262) (.k (.b true)) (.t 265)),
 qm 267 266,
 ⟨some 268, some (267, false), .mv (.t 30)⟩,
 ⟨some 269, some (267, false), .mv (.t 48)⟩,
 ⟨some 270, some (267, false), .call 23 [(1, (.t 268)), (1, (.t 269))]⟩,
 ⟨some 271, some (267, false), .un .not (.t 270)⟩,
 qr 272 (.pick (.t 267) (.k (.b true)) (.t 271)),
 qm 273 272,
 ⟨some 274, some (273, false), .mv (.t 32)⟩,
 ⟨some 275, some (273, false), .mv (.t 50)⟩,
 ⟨some 276, some (273, false), .call 22 [(1, (.t 274)), (1, (.t 275))]⟩,
 ⟨some 277, some (273, false), .un .not (.t 276)⟩,
 qr 278 (.pick (.t 273) (.k (.b true)) (.t 277)),
 qm 279 278,
 ⟨some 280, some (279, false), .mv (.t 34)⟩,
 ⟨some 281, some (279, false), .mv (.t 11)⟩,
 ⟨some 282, some (279, false), .call 24 [(1, (.t 281))]⟩,
 ⟨some 283, some (279, false), .call 22 [(1, (.t 280)), (1, (.t 282))]⟩,
 ⟨some 284, some (279, false), .un .not (.t 283)⟩,
 qr 285 (.pick (.t 279) (.k (.b true)) (.t 284))])
 (.cond (.t 285)
 (.seq (.reg [qr 6 (.mv (.k (.b false)))])
 (.ret))
 (.skip)))
 (.seq (.reg [qm 286 7,
 qm 287 13,
 qm 288 14,
 qm 289 16,
 qm 290 17,
 qm 291 19,
 qm 292 21,
 qm 293 23,
 qm 294 25,
 qm 295 28,
 qm 296 30,
 qm 297 32,
 qm 298 34,
 qr 299 (.bsl 23 1 12 [(.l 1 []), (.l 1 []), (.l 1 []), (.l 1 []), (.l 1 []), (.l 1 []), (.l 1 []), (.l 1 []), (.l 1 []), (.l 1 []), (.l 1 []), (.l 1 [])] [(0, (.t 287)), (1, (.t 288)), (2, (.t 289)), (3, (.t 290)), (4, (.t 291)), (5, (.t 292)), (6, (.t 293)), (7, (.t 294)), (8, (.t 295)), (9, (.t 296)), (10, (.t 297)), (11, (.t 298))]),
 qr 300 (.call 25 [(1, (.t 286)), (1, (.t 299))])])
 (.seq (.reg [qm 301 10,
 qr 302 (.bin .eql (.t 301) (.k (.i .i64 0)))])
 (.cond (.t 302)
 (.reg [qm 303 7,
 qr 304 (.call 26 [(1, (.t 303))])])
 (.skip)))))))))))))))))))))))))
 (.reg [qm 66 10,
 qr 67 (.bin .add (.t 66) (.k (.i .i64 1))),
 qm 10 67]))))))
 (.seq (.reg [qm 305 7,
 qr 306 (.call 27 [(1, (.t 305))]),
 qm 6 306])
 (.ret)))))))
def aE (A : AC) : AC := abk (alp (abk ((drp 5 A).p1.p2))).p2.p1
theorem dchk_walk (a b Q R U N X D P M W2 : List Nat) (β r e1 e2 e3 e4 e5 : Int) (e xe : Int) (lQ : Q.length ≤ 9223372036854775807) (lR : R.length ≤ 9223372036854775807) (lU : U.length ≤ 9223372036854775807) (lN : N.length ≤ 9223372036854775807) (lX : X.length ≤ 9223372036854775807) (lD : D.length ≤ 1099511627776) (lP : P.length ≤ 9223372036854775807) (lM : M.length ≤ 9223372036854775807) (lW : W2.length ≤ 9223372036854775807)
    (c1 : AFun Try.prog J0 15 [.l 1 (W a), .l 1 (W b)] (.t [.l 1 (W Q), .l 1 (W R), .i .i64 e])) (c2 : AFun Try.prog J0 16 [.l 1 (W a), .l 1 (W b)] (.t [.l 1 (W U), .i .i64 e1])) (c3 : AFun Try.prog J0 17 [.l 1 (W a), .l 1 (W b)] (.t [.l 1 (W N), .i .i64 e2])) (c4 : AFun Try.prog J0 18 [.l 1 (W a), .i .u64 β] (.t [.l 1 (W W2), .i .u64 r, .i .i64 e3])) (c5 : AFun Try.prog J0 19 [.l 1 (W a), .l 1 (W b)] (.t [.l 1 (W X), .i .i64 xe])) (c6 : AFun Try.prog J0 20 [.l 1 (W a), .i .u64 β] (.t [.l 1 (W D), .i .i64 e4])) (c7 : AFun Try.prog J0 21 [.l 1 (W a), .l 1 (W a), .l 1 (W b)] (.t [.l 1 (W P), .i .i64 e5])) (c8 : AFun Try.prog J0 24 [.l 1 (W a)] (.o 24 1 (W M))) :
    avc (AFun Try.prog J0) (XFun Try.prog) ((drp 12 (aE a3)).p1.seq ((drp 13 (aE a3)).p1.seq ((drp 14 (aE a3)).p1.seq ((drp 15 (aE a3)).p1.seq ((drp 16 (aE a3)).p1.seq ((drp 17 (aE a3)).p1.seq ((drp 18 (aE a3)).p1.seq (drp 19 (aE a3)).p1))))))) (fun ex s => ex = .normal ∧ True)
      ⟨[(2, .i .u64 β), (11, .l 1 (W a)), (12, .l 1 (W b)), (13, .l 1 (W Q)), (14, .l 1 (W R)), (15, .i .i64 e), (16, .l 1 (W Q)), (17, .l 1 (W R)), (18, .i .i64 e), (19, .l 1 (W R)), (20, .i .i64 e), (21, .l 1 (W U)), (22, .i .i64 e), (23, .l 1 (W N)), (25, .l 1 (W W2)), (28, .l 1 (W X)), (29, .i .i64 xe), (30, .l 1 (W D)), (32, .l 1 (W P)), (34, .l 1 (W M))], [], 0⟩ := by
  have sQ := sameV Q Q lQ rfl
  have sR := sameV R R lR rfl
  have sU := sameV U U lU rfl
  have sN := sameV N N lN rfl
  have sX := sameV X X lX rfl
  have sP := sameV P P lP rfl
  have sM := sameV M M lM rfl
  have sW := sameV W2 W2 lW rfl
  have sD := words_tt D lD
  apply vm_start
  unfold aE a3
  simp only [init_eq, initE, qm, qr, qn, AC.p1, AC.p2, drp, abk, alp]
  have zc1 := c1
  have zc2 := c2
  have zc3 := c3
  have zc4 := c4
  have zc5 := c5
  have zc6 := c6
  have zc7 := c7
  have zc8 := c8
  refine wkQ @bz_DQ10 ?_
  exact ⟨trivial, trivial⟩
theorem dunt_walk (x0 : V) (L : List (List Nat)) (c1 : AFun Try.prog J0 14 [.ip [x0, .l 1 (LA L), .l 1 (LA L)] 0] (.b true)) :
    avc (AFun Try.prog J0) (XFun Try.prog) (drp 11 (aE a3)).p1 (fun ex s => ex = .normal ∧ True) ⟨[(7, .ip [x0, .l 1 (LA L), .l 1 (LA L)] 0), (10, .i .i64 0)], [], 0⟩ := by
  apply vm_start
  unfold aE a3
  simp only [init_eq, initE, qm, qr, qn, AC.p1, AC.p2, drp, abk, alp]
  have zc9 := c1
  refine wkQ @bz_DQ10 ?_
  exact ⟨trivial, trivial⟩
theorem dunt_walk1 (k : Nat) (hk : k ≠ 0) :
    avc (AFun Try.prog J0) (XFun Try.prog) (drp 11 (aE a3)).p1 (fun ex s => ex = .normal ∧ True) ⟨[(10, .i .i64 (k : Int))], [], 0⟩ := by
  have h' : ¬ (k : Int) = 0 := by omega
  apply vm_start
  unfold aE a3
  simp only [init_eq, initE, qm, qr, qn, AC.p1, AC.p2, drp, abk, alp]
  refine spQ (ai @h' @bz_DQ10) ?_
  exact ⟨trivial, trivial⟩
end Go.Proofs.Ytdaedplbhpiacaa
