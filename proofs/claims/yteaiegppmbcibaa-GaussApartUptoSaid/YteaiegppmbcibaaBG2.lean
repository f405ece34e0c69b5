/-
  surdlaw23.GaussApart: the law's walk behind the book.
-/
import Derived.Test.YteaiegppmbcibaaBG1
import Derived.Test.YteaiegppmbcibaaBK8
import Derived.Test.YteaiegppmbcibaaLGHomo
import Derived.Test.YteaiegppmbcibaaR23d
namespace Go.Proofs.Yteaiegppmbcibaa
open Go Go.RowKit Ab
set_option linter.unusedSimpArgs false
set_option linter.unusedVariables false
set_option maxHeartbeats 10000000
theorem bz_BG2 : type_of% (And.intro @W_len (And.intro @D_len (And.intro @Nat.div_one (And.intro @Nat.mul_one (And.intro @tn_nat (And.intro @W_nf (And.intro @D_nf (And.intro @W_nil (And.intro @D_nil (And.intro @wi (And.intro @nf_g (And.intro @Bool.false_and (And.intro @W_cell (And.intro @ZC_cell (And.intro @ZC_nil (And.intro @NC_cell (@NC_nf))))))))))))))))) := And.intro @W_len (And.intro @D_len (And.intro @Nat.div_one (And.intro @Nat.mul_one (And.intro @tn_nat (And.intro @W_nf (And.intro @D_nf (And.intro @W_nil (And.intro @D_nil (And.intro @wi (And.intro @nf_g (And.intro @Bool.false_and (And.intro @W_cell (And.intro @ZC_cell (And.intro @ZC_nil (And.intro @NC_cell (@NC_nf))))))))))))))))
theorem NC_set : ∀ (l : List GZ) (i : Nat) (a b : Int), ((NC l).set (i * 2) (.i .i64 a)).set (i * 2 + 1) (.i .i64 b) = NC (l.set i (a, b))
  | [], i, a, b => by simp [NC]
  | p :: r, 0, a, b => rfl
  | p :: r, i + 1, a, b => by
    have := NC_set r i a b
    rw [show (i + 1) * 2 = i * 2 + 1 + 1 from by omega]
    simp only [NC, List.set_cons_succ, this]
theorem NC_set0 : ∀ (l : List GZ) (i : Nat) (a : Int), (NC l).set (i * 2 + 0) (.i .i64 a) = NC (l.set i (a, (l.getD i (0, 0)).2))
  | [], i, a => by simp [NC]
  | p :: r, 0, a => rfl
  | p :: r, i + 1, a => by
    have := NC_set0 r i a
    rw [Nat.add_zero] at this ⊢
    rw [show (i + 1) * 2 = i * 2 + 1 + 1 from by omega]
    simp only [NC, List.set_cons_succ, this]
    rfl
theorem NC_set1 : ∀ (l : List GZ) (i : Nat) (a : Int), (NC l).set (i * 2 + 1) (.i .i64 a) = NC (l.set i ((l.getD i (0, 0)).1, a))
  | [], i, a => by simp [NC]
  | p :: r, 0, a => rfl
  | p :: r, i + 1, a => by
    have := NC_set1 r i a
    rw [show (i + 1) * 2 + 1 = (i * 2 + 1) + 1 + 1 from by omega]
    simp only [NC, List.set_cons_succ, this]
    rfl
theorem NC_take : ∀ (l : List GZ) (n : Nat), (NC l).take (n * 2) = NC (l.take n)
  | [], n => by simp [NC]
  | p :: r, 0 => rfl
  | p :: r, n + 1 => by
    have := NC_take r n
    rw [show (n + 1) * 2 = n * 2 + 1 + 1 from by omega]
    simp only [NC, List.take_succ_cons, this]
theorem NC_rep (n : Nat) : (List.replicate n [V.i .i64 0, V.i .i64 0]).flatten = NC (List.replicate n (0, 0)) := by
  induction n with
  | zero => rfl
  | succ n ih => rw [List.replicate_succ, List.flatten_cons, ih, List.replicate_succ]; rfl
theorem NC_gd : ∀ (l : List GZ) (i : Nat), i < l.length → (NC l).getD (i * 2 + 0) .un = .i .i64 (l.getD i (0, 0)).1 ∧ (NC l).getD (i * 2 + 1) .un = .i .i64 (l.getD i (0, 0)).2
  | [], i, h => by simp at h
  | p :: r, 0, h => ⟨rfl, rfl⟩
  | p :: r, i + 1, h => by
    have := NC_gd r i (by simpa using h)
    rw [show (i + 1) * 2 = i * 2 + 1 + 1 from by omega]
    simpa [NC] using this
def fwz (z : GZ) : GZ := (z.1.tmod 9, z.2.tmod 9)
def fuN (fs : List GZ) (i : Nat) : List GZ := fs.take i ++ List.replicate (fs.length + 9 - i) (0, 0)
theorem fuN_len (fs : List GZ) (i : Nat) (h : i ≤ fs.length) : (fuN fs i).length = fs.length + 9 := by simp [fuN]; omega
theorem fuN_succ (fs : List GZ) (i : Nat) (h : i < fs.length) : (fuN fs i).set i (fs.getD i (0, 0)) = fuN fs (i + 1) := by
  unfold fuN
  have hl : (fs.take i).length = i := by simp; omega
  rw [List.set_append, if_neg (by omega), hl, Nat.sub_self, show fs.length + 9 - i = (fs.length + 9 - (i + 1)) + 1 from by omega, List.replicate_succ, List.set_cons_zero, GZ_snoc fs i h, List.append_assoc]; rfl
theorem fuN_take (fs : List GZ) : (fuN fs fs.length).take fs.length = fs := by
  unfold fuN
  rw [List.take_length, List.take_left]
theorem ZOk_sm2 {xs : List Int} (lx : xs.length ≤ 2000000) (h : ∀ c, c ∈ xs → c.natAbs < 18446744073709551616) : ZOk (nfl xs) 2000000 := by
  refine ⟨by rw [nfl_len]; exact lx, fun p hp => ?_⟩
  obtain ⟨c, hc, rfl⟩ := List.mem_map.1 hp
  refine ⟨Wd_dg _, Nat.le_trans (dlen (k := 1) ?_) (by decide)⟩
  rw [Nat.pow_one]
  exact h c hc
theorem okz {cs : List Int} {z : GZ} (hc : Cb cs 9) (lc : cs.length ≤ 5) (hz : gsz z ≤ 22) : vOk cs z := by
  have hS : max (gsz z) 1 ≤ 22 := by omega
  have h1 : wsum (max (gsz z) 1) cs ≤ 9 * wsum 22 (List.replicate 5 1) := Nat.le_trans (wsum_mono hS cs) (wsum_Cb hc 5 lc)
  exact ⟨by simp only [SM]; omega, Nat.lt_of_le_of_lt h1 (by decide)⟩
theorem horz {cs : List Int} {z : GZ} (hc : Cb cs 9) (lc : cs.length ≤ 5) (hz : gsz z ≤ 22) : gsz (horner z cs) ≤ 9 * wsum 22 (List.replicate 5 1) := by
  have hS : max (gsz z) 1 ≤ 22 := by omega
  exact Nat.le_trans (horner_sz z (by omega) cs) (Nat.le_trans (wsum_mono hS cs) (wsum_Cb hc 5 lc))
theorem fwz_sz (z : GZ) : gsz (fwz z) ≤ 16 := by
  unfold gsz fwz
  simp only []
  have h1 := Int.natAbs_tmod z.1 9
  have h2 := Int.natAbs_tmod z.2 9
  rw [h1, h2]
  have := Nat.mod_lt z.1.natAbs (show 0 < (9 : Int).natAbs by decide)
  have := Nat.mod_lt z.2.natAbs (show 0 < (9 : Int).natAbs by decide)
  rw [show (9 : Int).natAbs = 9 from rfl] at *
  omega
def incN (k : Int) (C : List GZ) : Nat → List GZ
  | 0 => C
  | i + 1 => (incN k C i).set i ((C.getD i (0, 0)).1 + k, (C.getD i (0, 0)).2)
theorem incN_len (k : Int) (C : List GZ) : ∀ i, (incN k C i).length = C.length
  | 0 => rfl
  | i + 1 => by rw [incN, List.length_set, incN_len k C i]
theorem incN_ge (k : Int) (C : List GZ) (j : Nat) : ∀ i, i ≤ j → (incN k C i).getD j (0, 0) = C.getD j (0, 0)
  | 0, _ => rfl
  | i + 1, h => by
    rw [incN, List.getD_eq_getElem?_getD, List.getElem?_set_ne (by omega), ← List.getD_eq_getElem?_getD, incN_ge k C j i (by omega)]
theorem incN_lt (k : Int) (C : List GZ) (j : Nat) (hj : j < C.length) : ∀ i, j < i → (incN k C i).getD j (0, 0) = ((C.getD j (0, 0)).1 + k, (C.getD j (0, 0)).2)
  | 0, h => by omega
  | i + 1, h => by
    rw [incN, List.getD_eq_getElem?_getD]
    by_cases e : i = j
    · subst e
      rw [List.getElem?_set_self (by rw [incN_len]; exact hj)]; rfl
    · rw [List.getElem?_set_ne e, ← List.getD_eq_getElem?_getD, incN_lt k C j hj i (by omega)]
theorem incN_set (k : Int) (C : List GZ) (i : Nat) : (NC (incN k C i)).set (i * 2 + 0) (.i .i64 ((C.getD i (0, 0)).1 + k)) = NC (incN k C (i + 1)) := by
  rw [NC_set0, incN_ge k C i i (Nat.le_refl _)]; rfl
def a3 : AC := .seq (.reg [qr 4 (.mv (.k (.b false)))])
 (.seq (.seq (.reg [qr 30 (.call 4 []),
 qr 31 (.un .not (.t 30))])
 (.cond (.t 31)
 (.seq (.reg [qr 4 (.mv (.k (.b false)))])
 (.ret))
 (.skip)))
 (.seq (.reg [qr 32 (.bld [(.l 1 []), (.l 1 []), (.l 1 []), (.l 1 []), (.l 1 []), (.l 1 []), (.l 1 [])] []),
 qr 33 (.bx 33 (.t 32)),
 qm 5 33])
 (.seq (.reg [qm 34 5,
 qm 35 0,
 qr 36 (.call 6 [(2, (.t 35))]),
 qr 37 (.call 5 [(1, (.t 34)), (2, (.t 36))]),
 qm 6 37])
 (.seq (.reg [qm 38 1,
 qr 39 (.len (.t 38)),
 qr 40 (.bin .add (.t 39) (.k (.i .i64 9))),
 qr 41 (.mk 38 2 16 [(.i .i64 0), (.i .i64 0)] (.t 40) (.t 40)),
 qm 7 41])
 (.seq (.seq (.reg [qr 8 (.mv (.k (.i .i64 0)))])
 (.blk 0
 (.loop
 (.seq (.seq (.reg [qm 42 8,
 qm 43 1,
 qr 44 (.len (.t 43)),
 qr 45 (.bin .lss (.t 42) (.t 44))])
 (.cond (.t 45)
 (.skip)
 (.exit 0)))
 (.seq (.blk 1
 (.reg [qm 48 7,
 qm 49 8,
 qm 50 1,
 qm 51 8,
 qr 52 (.idx 2 (.t 50) (.t 51)),
 qr 53 (.ld true 2 (.t 52)),
 qr 54 (.call 7 [(1, (.t 53)), (1, (.k (.i .i64 9)))]),
 qr 55 (.idx 2 (.t 48) (.t 49)),
 qn (.st 2 (.t 55) (.t 54))]))
 (.reg [qm 46 8,
 qr 47 (.bin .add (.t 46) (.k (.i .i64 1))),
 qm 8 47]))))))
 (.seq (.reg [qm 56 7,
 qm 57 1,
 qr 58 (.len (.t 57)),
 qr 59 (.sub 2 (.t 56) none (some (.t 58))),
 qm 9 59])
 (.seq (.reg [qr 60 (.bsl 38 2 0 [] []),
 qm 61 7,
 qr 62 (.app 38 2 16 (.t 60) (.t 61)),
 qm 10 62])
 (.seq (.reg [qm 64 6,
 qm 65 9,
 qr 66 (.call 8 [(2, (.t 64)), (2, (.t 65))]),
 qm 63 66,
 qr 67 (.ext (.t 63) 0),
 qr 68 (.ext (.t 63) 1),
 qm 11 67,
 qm 12 68])
 (.seq (.reg [qm 70 6,
 qm 71 9,
 qr 72 (.call 8 [(2, (.t 70)), (2, (.t 71))]),
 qm 69 72,
 qr 73 (.ext (.t 69) 0),
 qr 74 (.ext (.t 69) 1),
 qm 13 73,
 qm 14 74])
 (.seq (.reg [qr 76 (.bld [(.i .i64 0), (.i .i64 0)] []),
 qr 77 (.call 9 [(1, (.t 76)), (1, (.k (.i .i64 2)))]),
 qm 75 77,
 qr 78 (.ext (.t 75) 0),
 qr 79 (.ext (.t 75) 1),
 qm 15 78,
 qm 16 79])
 (.seq (.reg [qr 81 (.bld [(.i .i64 0), (.i .i64 0)] []),
 qr 82 (.call 9 [(1, (.t 81)), (1, (.k (.i .i64 2)))]),
 qm 80 82,
 qr 83 (.ext (.t 80) 0),
 qr 84 (.ext (.t 80) 1),
 qm 17 83,
 qm 18 84])
 (.seq (.reg [qm 85 9,
 qr 86 (.call 10 [(2, (.t 85))])])
 (.seq (.seq (.reg [qm 87 12,
 qr 88 (.bin .neq (.t 87) (.k (.i .i64 0))),
 qm 89 88,
 ⟨some 90, some (89, false), .mv (.t 14)⟩,
 ⟨some 91, some (89, false), .bin .neq (.t 90) (.k (.i .i64 0))⟩,
 qr 92 (.pick (.t 89) (.k (.b true)) (.t 91)),
 qm 93 92,
 ⟨some 94, some (93, false), .mv (.t 16)⟩,
 ⟨some 95, some (93, false), .bin .neq (.t 94) (.k (.i .i64 0))⟩,
 qr 96 (.pick (.t 93) (.k (.b true)) (.t 95)),
 qm 97 96,
 ⟨some 98, some (97, false), .mv (.t 18)⟩,
 ⟨some 99, some (97, false), .bin .neq (.t 98) (.k (.i .i64 0))⟩,
 qr 100 (.pick (.t 97) (.k (.b true)) (.t 99)),
 qm 101 100,
 ⟨some 102, some (101, false), .mv (.t 5)⟩,
 ⟨some 103, some (101, false), .call 11 [(1, (.t 102))]⟩,
 ⟨some 104, some (101, false), .un .not (.t 103)⟩,
 qr 105 (.pick (.t 101) (.k (.b true)) (.t 104)),
 qm 106 105,
 ⟨some 107, some (106, false), .mv (.t 11)⟩,
 ⟨some 108, some (106, false), .len (.t 107)⟩,
 ⟨some 109, some (106, false), .mv (.t 9)⟩,
 ⟨some 110, some (106, false), .len (.t 109)⟩,
 ⟨some 111, some (106, false), .bin .neq (.t 108) (.t 110)⟩,
 qr 112 (.pick (.t 106) (.k (.b true)) (.t 111)),
 qm 113 112,
 ⟨some 114, some (113, false), .mv (.t 13)⟩,
 ⟨some 115, some (113, false), .len (.t 114)⟩,
 ⟨some 116, some (113, false), .mv (.t 9)⟩,
 ⟨some 117, some (113, false), .len (.t 116)⟩,
 ⟨some 118, some (113, false), .bin .neq (.t 115) (.t 117)⟩,
 qr 119 (.pick (.t 113) (.k (.b true)) (.t 118)),
 qm 120 119,
 ⟨some 121, some (120, false), .mv (.t 15)⟩,
 ⟨some 122, some (120, false), .len (.t 121)⟩,
 ⟨some 123, some (120, false), .bin .neq (.t 122) (.k (.i .i64 16))⟩,
 qr 124 (.pick (.t 120) (.k (.b true)) (.t 123)),
 qm 125 124,
 ⟨some 126, some (125, false), .mv (.t 17)⟩,
 ⟨some 127, some (125, false), .len (.t 126)⟩,
 ⟨some 128, some (125, false), .bin .neq (.t 127) (.k (.i .i64 16))⟩,
 qr 129 (.pick (.t 125) (.k (.b true)) (.t 128))])
 (.cond (.t 129)
 (.seq (.reg [qr 4 (.mv (.k (.b false)))])
 (.ret))
 (.skip)))
 (.seq (.seq (.reg [qr 19 (.mv (.k (.i .i64 0)))])
 (.blk 2
 (.loop
 (.seq (.seq (.reg [qm 130 19,
 qm 131 7,
 qr 132 (.len (.t 131)),
 qr 133 (.bin .lss (.t 130) (.t 132))])
 (.cond (.t 133)
 (.skip)
 (.exit 2)))
 (.seq (.blk 3
 (.seq (.dreg [qm 136 7,
 qm 137 19,
 qr 138 (.idx 2 (.t 136) (.t 137)),
 qr 139 (.ld true 2 (.t 138)),
 qm 140 10,
 qm 141 19,
 qr 142 (.idx 2 (.t 140) (.t 141)),
 qr 143 (.ld true 2 (.t 142)),
 qr 144 (.pur (.eqs true [1, 1]) [(.t 139), (.t 143)])])
 (.cond (.t 144)
 (.seq (.reg [qr 4 (.mv (.k (.b false)))])
 (.ret))
 (.skip))))
 (.reg [qm 134 19,
 qr 135 (.bin .add (.t 134) (.k (.i .i64 1))),
 qm 19 135]))))))
 (.seq (.reg [qr 145 (.bsl 38 2 0 [] []),
 qm 146 13,
 qr 147 (.app 38 2 16 (.t 145) (.t 146)),
 qm 20 147])
 (.seq (.seq (.reg [qr 21 (.mv (.k (.i .i64 0)))])
 (.blk 4
 (.loop
 (.seq (.seq (.reg [qm 148 21,
 qm 149 9,
 qr 150 (.len (.t 149)),
 qr 151 (.bin .lss (.t 148) (.t 150))])
 (.cond (.t 151)
 (.skip)
 (.exit 4)))
 (.seq (.blk 5
 (.seq (.reg [qm 154 9,
 qm 155 21,
 qr 156 (.idx 2 (.t 154) (.t 155)),
 qr 157 (.fad 0 (.t 156)),
 qr 158 (.ld false 1 (.t 157)),
 qr 159 (.bin .add (.t 158) (.k (.i .i64 1))),
 qr 160 (.idx 2 (.t 154) (.t 155)),
 qr 161 (.fad 0 (.t 160)),
 qn (.st 1 (.t 161) (.t 159))])
 (.reg [qm 162 11,
 qm 163 21,
 qm 164 11,
 qm 165 21,
 qr 166 (.idx 2 (.t 164) (.t 165)),
 qr 167 (.fad 0 (.t 166)),
 qr 168 (.ld false 1 (.t 167)),
 qr 169 (.bin .add (.t 168) (.k (.i .i64 5))),
 qr 170 (.idx 2 (.t 162) (.t 163)),
 qr 171 (.fad 0 (.t 170)),
 qn (.st 1 (.t 171) (.t 169))])))
 (.reg [qm 152 21,
 qr 153 (.bin .add (.t 152) (.k (.i .i64 1))),
 qm 21 153]))))))
 (.seq (.seq (.reg [qr 22 (.mv (.k (.i .i64 0)))])
 (.blk 6
 (.loop
 (.seq (.seq (.reg [qm 172 22,
 qr 173 (.bin .lss (.t 172) (.k (.i .i64 16)))])
 (.cond (.t 173)
 (.skip)
 (.exit 6)))
 (.seq (.blk 7
 (.reg [qm 176 15,
 qm 177 22,
 qr 178 (.idx 2 (.t 176) (.t 177)),
 qr 179 (.fad 1 (.t 178)),
 qn (.st 1 (.t 179) (.k (.i .i64 99)))]))
 (.reg [qm 174 22,
 qr 175 (.bin .add (.t 174) (.k (.i .i64 1))),
 qm 22 175]))))))
 (.seq (.seq (.reg [qr 23 (.mv (.k (.i .i64 0)))])
 (.blk 8
 (.loop
 (.seq (.seq (.reg [qm 180 23,
 qm 181 13,
 qr 182 (.len (.t 181)),
 qr 183 (.bin .lss (.t 180) (.t 182))])
 (.cond (.t 183)
 (.skip)
 (.exit 8)))
 (.seq (.blk 9
 (.seq (.dreg [qm 186 13,
 qm 187 23,
 qr 188 (.idx 2 (.t 186) (.t 187)),
 qr 189 (.ld true 2 (.t 188)),
 qm 190 20,
 qm 191 23,
 qr 192 (.idx 2 (.t 190) (.t 191)),
 qr 193 (.ld true 2 (.t 192)),
 qr 194 (.pur (.eqs true [1, 1]) [(.t 189), (.t 193)])])
 (.cond (.t 194)
 (.seq (.reg [qr 4 (.mv (.k (.b false)))])
 (.ret))
 (.skip))))
 (.reg [qm 184 23,
 qr 185 (.bin .add (.t 184) (.k (.i .i64 1))),
 qm 23 185]))))))
 (.seq (.seq (.reg [qr 24 (.mv (.k (.i .i64 0)))])
 (.blk 10
 (.loop
 (.seq (.seq (.reg [qm 195 24,
 qr 196 (.bin .lss (.t 195) (.k (.i .i64 16)))])
 (.cond (.t 196)
 (.skip)
 (.exit 10)))
 (.seq (.blk 11
 (.seq (.reg [qm 199 17,
 qm 200 24,
 qr 201 (.idx 2 (.t 199) (.t 200)),
 qr 202 (.fad 1 (.t 201)),
 qr 203 (.ld false 1 (.t 202)),
 qr 204 (.bin .eql (.t 203) (.k (.i .i64 99)))])
 (.cond (.t 204)
 (.seq (.reg [qr 4 (.mv (.k (.b false)))])
 (.ret))
 (.skip))))
 (.reg [qm 197 24,
 qr 198 (.bin .add (.t 197) (.k (.i .i64 1))),
 qm 24 198]))))))
 (.seq (.reg [qm 206 6,
 qm 207 9,
 qr 208 (.call 8 [(2, (.t 206)), (2, (.t 207))]),
 qm 205 208,
 qr 209 (.ext (.t 205) 0),
 qr 210 (.ext (.t 205) 1),
 qm 25 209,
 qm 26 210])
 (.seq (.seq (.reg [qr 27 (.mv (.k (.i .i64 0)))])
 (.blk 12
 (.loop
 (.seq (.seq (.reg [qm 211 27,
 qm 212 9,
 qr 213 (.len (.t 212)),
 qr 214 (.bin .lss (.t 211) (.t 213))])
 (.cond (.t 214)
 (.skip)
 (.exit 12)))
 (.seq (.blk 13
 (.seq (.dreg [qm 218 6,
 qm 219 9,
 qm 220 27,
 qr 221 (.idx 2 (.t 219) (.t 220)),
 qr 222 (.fad 0 (.t 221)),
 qr 223 (.ld false 1 (.t 222)),
 qm 224 9,
 qm 225 27,
 qr 226 (.idx 2 (.t 224) (.t 225)),
 qr 227 (.fad 1 (.t 226)),
 qr 228 (.ld false 1 (.t 227)),
 qr 229 (.bld [(.i .i64 0), (.i .i64 0)] [(0, 1, (.t 223)), (1, 1, (.t 228))]),
 qr 230 (.call 12 [(2, (.t 218)), (1, (.t 229))]),
 qm 217 230,
 qr 231 (.ext (.t 217) 0),
 qr 232 (.ext (.t 217) 1),
 qr 28 (.al 40 [(.i .i64 0), (.i .i64 0)]),
 qn (.st 2 (.t 28) (.t 231)),
 qm 29 232])
 (.seq (.dreg [qm 233 29,
 qr 234 (.bin .neq (.t 233) (.k (.i .i64 0))),
 qm 235 234,
 ⟨some 236, some (235, false), .mv (.t 25)⟩,
 ⟨some 237, some (235, false), .mv (.t 27)⟩,
 ⟨some 238, some (235, false), .idx 2 (.t 236) (.t 237)⟩,
 ⟨some 239, some (235, false), .ld true 2 (.t 238)⟩,
 ⟨some 240, some (235, false), .ld true 2 (.t 28)⟩,
 ⟨some 241, some (235, false), .call 13 [(1, (.t 239)), (1, (.t 240))]⟩,
 ⟨some 242, some (235, false), .un .not (.t 241)⟩,
 qr 243 (.pick (.t 235) (.k (.b true)) (.t 242))])
 (.cond (.t 243)
 (.seq (.reg [qr 4 (.mv (.k (.b false)))])
 (.ret))
 (.skip)))))
 (.reg [qm 215 27,
 qr 216 (.bin .add (.t 215) (.k (.i .i64 1))),
 qm 27 216]))))))
 (.seq (.reg [qm 244 26,
 qr 245 (.bin .eql (.t 244) (.k (.i .i64 0))),
 qm 4 245])
 (.ret)))))))))))))))))))))))
set_option maxRecDepth 100000 in
theorem rest_walk (cs : List Int) (zs : List GZ) (x0 x3 : V) (L : List (List Nat)) (q qz : List (Bool × List Nat)) (hc : Cb cs 9) (lc : cs.length ≤ 5) (lz : zs.length ≤ 100000000) (hL : L.length ≤ 1000000) (ha : ∀ a, a ∈ L → a.length ≤ 1000000000000) (hm : qz = q ++ List.replicate 5 (false, [])) (ll : q.length ≤ 1000000) :
    avc (AFun Try.prog J0) (XFun Try.prog) a3.p2.p2.p2.p2 (fun ex s => (ex = .normal ∨ ex = .ret) ∧ s.get 4 = .b true)
      ⟨[(1, .l 2 (NC zs)), (5, .ip [x0, .l 1 (LL L), .l 1 (LL L), x3, .l 1 [], .l 1 [.l 2 (ZC qz)], .l 1 []] 0), (6, .l 2 (ZC (nfl cs)))], [], 0⟩ := by
  obtain ⟨fs, hfs⟩ : ∃ fs, fs = zs.map fwz := ⟨_, rfl⟩
  have hfl : fs.length = zs.length := by rw [hfs, List.length_map]
  have hnz := NC_len zs
  have hnl : zs.length * 2 / 2 = zs.length := by omega
  have sp := spared_spec L x0 x3 q qz hL ha hm ll
  have hrep := NC_rep (zs.length + 9)
  have w1 : IntKind.i64.wrap ((zs.length : Int) + 9) = ((zs.length + 9 : Nat) : Int) := by rw [wi (by omega)]; rfl
  apply vm_start
  unfold a3
  simp only [init_eq, initE, qm, qr, qn, AC.p1, AC.p2]
  refine spQ (ai @hrep (ai @w1 (ai @hnl (ai @hnz @bz_BG2)))) ?_
  refine vm_loopA [] Nat (fun i => ⟨[(1, .l 2 (NC zs)), (5, .ip [x0, .l 1 (LL L), .l 1 (LL L), x3, .l 1 [], .l 1 [.l 2 (ZC qz)], .l 1 []] 0), (6, .l 2 (ZC (nfl cs))), (7, .ow 2 0 (zs.length + 9)), (8, .i .i64 (i : Int))], [(0, some ⟨38, 2, NC (fuN fs i), true, false⟩)], 1⟩)
    (fun i => i ≤ zs.length) (fun i => zs.length - i) 0 (Nat.zero_le _) (by exact leQ) (by
    rw [show fuN fs 0 = List.replicate (zs.length + 9) (0, 0) from by unfold fuN; rw [List.take_zero, List.nil_append, hfl, Nat.sub_zero]]
    exact ltQ) ?_
  intro i hi Q' hQ he hr
  by_cases h : (i : Int) < (zs.length : Int)
  · have row := NC_row zs i (by omega)
    have fw := few_spec (zs.getD i (0, 0)) 9 (by decide) (by decide)
    have hset := NC_set (fuN fs i) i (fs.getD i (0, 0)).1 (fs.getD i (0, 0)).2
    rw [show ((fs.getD i (0, 0)).1, (fs.getD i (0, 0)).2) = fs.getD i (0, 0) from rfl, fuN_succ fs i (by omega)] at hset
    have hfi : fs.getD i (0, 0) = fwz (zs.getD i (0, 0)) := by
      rw [hfs, List.getD_eq_getElem?_getD, List.getD_eq_getElem?_getD, List.getElem?_map, List.getElem?_eq_getElem (by omega)]; rfl
    rw [hfi] at hset
    have lfu := NC_len (fuN fs i)
    rw [fuN_len fs i (by omega)] at lfu
    generalize zs.getD i (0, 0) = z at *
    simp only [nV, fwz] at fw hset
    have h9 : ((9 : Nat) : Int) = 9 := rfl
    rw [h9] at fw
    refine wkQ (ai @lfu (ai @hset (ai @row (ai @hnl (ai @hnz (ai @h @bz_BG2)))))) ?_
    refine hQ _ (i + 1) (by omega) (by omega) ?_
    exact ltQ
  · obtain rfl : i = zs.length := by omega
    have hC0 : (fuN fs zs.length).take zs.length = fs := by rw [← hfl]; exact fuN_take fs
    have lC : (fuN fs zs.length).length = zs.length + 9 := by rw [fuN_len fs _ (by omega), hfl]
    have hfz : ∀ z, z ∈ fs → gsz z ≤ 16 := fun z hz => by
      rw [hfs] at hz
      obtain ⟨y, _, rfl⟩ := List.mem_map.1 hz
      exact fwz_sz y
    generalize fuN fs zs.length = C at *
    have lN := NC_len C
    rw [lC] at lN
    have htk := NC_take C zs.length
    rw [hC0] at htk
    have v1 := gvalsO (nfl cs) 100000000 (by decide) (ZOk_small (by omega) (Cb_B hc (by decide))) fs (by omega) (fun z hz => by rw [zcs_nfl]; exact okz hc lc (Nat.le_trans (hfz z hz) (by decide)))
    have sq := gsquareO (0, 0) 2 (by decide) (by decide) (by decide) (by decide)
    have tu := gturnsS fs (by omega)
    simp only [nV] at sq
    rw [zcs_nfl] at v1
    obtain ⟨R, hR⟩ : ∃ R, R = fs.map (vF cs) := ⟨_, rfl⟩
    rw [← hR] at v1
    have lR : R.length = zs.length := by rw [hR, List.length_map, hfl]
    have lNR := NC_len R
    rw [lR] at lNR
    have dR : zs.length * 2 / 2 = zs.length := hnl
    have lS := NC_len (sqs (0, 0) 2 (8 * 2))
    rw [sqs_len] at lS
    have d0 : List.drop 0 (NC C) = NC C := rfl
    have dC : (zs.length + 9) * 2 / 2 = zs.length + 9 := by omega
    have hI : ∀ k, k < 16 → ((sqs (0, 0) 2 (8 * 2)).getD k (0, 0)).2 ≠ 99 := by decide
    generalize sqs (0, 0) 2 (8 * 2) = S at *
    refine spQ (ai @hnl (ai @hnz (ai @h @bz_BG2))) ?_
    refine he _ _ ?_
    refine wkQ (ai @dR (ai @lS (ai @lNR (ai @Nat.zero_add (ai @dC (ai @d0 (ai @htk (ai @lN (ai @hnl (ai @hnz @bz_BG2)))))))))) ?_
    have bC : ∀ j, j < zs.length → gsz (C.getD j (0, 0)) ≤ 16 := fun j hj => by
      have h1 : (C.take zs.length).getD j (0, 0) = C.getD j (0, 0) := by
        rw [List.getD_eq_getElem?_getD, List.getElem?_take, if_pos hj, ← List.getD_eq_getElem?_getD]
      rw [← h1, hC0]
      exact hfz _ (GZ_mem (by omega))
    have bR : ∀ j, j < zs.length → gsz (R.getD j (0, 0)) ≤ 9 * wsum 22 (List.replicate 5 1) := fun j hj => by
      have h1 : R.getD j (0, 0) = vF cs (fs.getD j (0, 0)) := by
        rw [hR, List.getD_eq_getElem?_getD, List.getD_eq_getElem?_getD, List.getElem?_map, List.getElem?_eq_getElem (by omega)]; rfl
      have h2 := Nat.le_trans (hfz _ (GZ_mem (l := fs) (i := j) (by omega))) (show 16 ≤ 22 by decide)
      rw [h1, show vF cs (fs.getD j (0, 0)) = horner (fs.getD j (0, 0)) cs from if_pos (okz hc lc h2)]
      exact horz hc lc h2
    rw [show 9 * wsum 22 (List.replicate 5 1) = 9 * wsum 22 (List.replicate 5 1) from rfl] at bR
    have bb : 9 * wsum 22 (List.replicate 5 1) ≤ 1000000000000 := by decide
    refine vm_loopA [] Nat (fun i => ⟨[(6, .l 2 (ZC (nfl cs))), (7, .ow 2 0 (zs.length + 9)), (9, .sl 2 0 0 zs.length), (10, .ow 2 1 (zs.length + 9)), (11, .ow 2 2 zs.length), (13, .ow 2 3 zs.length), (15, .ow 2 4 16), (17, .ow 2 5 16), (19, .i .i64 (i : Int))],
        [(0, some ⟨38, 2, NC C, true, false⟩), (1, some ⟨38, 2, NC C, true, false⟩), (2, some ⟨38, 2, NC R, true, false⟩), (3, some ⟨38, 2, NC R, true, false⟩), (4, some ⟨38, 2, NC S, true, false⟩), (5, some ⟨38, 2, NC S, true, false⟩)], 6⟩)
      (fun i => i ≤ zs.length + 9) (fun i => zs.length + 9 - i) 0 (Nat.zero_le _) (by exact leQ) (by
      exact ltQ) ?_
    intro i hi2 Q2 hQ2 he2 hr2
    by_cases h2 : (i : Int) < ((zs.length + 9 : Nat) : Int)
    · have rowC := NC_row C i (by omega)
      generalize C.getD i (0, 0) = z at *
      have e1 : (z.1 = z.1) = True := eq_self _
      have e2 : (z.2 = z.2) = True := eq_self _
      refine spQ (ai @e2 (ai @e1 (ai @rowC (ai @lN (ai @h2 @bz_BG2))))) ?_
      refine hQ2 _ (i + 1) (by omega) (by omega) ?_
      exact ltQ
    · obtain rfl : i = zs.length + 9 := by omega
      refine spQ (ai @h2 @bz_BG2) ?_
      refine he2 _ _ ?_
      refine spQ (ai @Nat.zero_add (ai @dR (ai @lNR @bz_BG2))) ?_
      refine vm_loopA [] Nat (fun i => ⟨[(6, .l 2 (ZC (nfl cs))), (9, .sl 2 0 0 zs.length), (11, .ow 2 1 zs.length), (13, .ow 2 2 zs.length), (15, .ow 2 3 16), (17, .ow 2 4 16), (20, .ow 2 5 zs.length), (21, .i .i64 (i : Int))],
          [(0, some ⟨38, 2, NC (incN 1 C i), true, false⟩), (1, some ⟨38, 2, NC (incN 5 R i), true, false⟩), (2, some ⟨38, 2, NC R, true, false⟩), (3, some ⟨38, 2, NC S, true, false⟩), (4, some ⟨38, 2, NC S, true, false⟩), (5, some ⟨38, 2, NC R, true, false⟩)], 6⟩)
        (fun i => i ≤ zs.length) (fun i => zs.length - i) 0 (Nat.zero_le _) (by exact leQ) (by
        exact ltQ) ?_
      intro i hi4 Q4 hQ4 he4 hr4
      by_cases h4 : (i : Int) < (zs.length : Int)
      · have g1 := (NC_gd (incN 1 C i) i (by rw [incN_len]; omega)).1
        have g2 := (NC_gd (incN 5 R i) i (by rw [incN_len]; omega)).1
        rw [incN_ge 1 C i i (Nat.le_refl _)] at g1
        rw [incN_ge 5 R i i (Nat.le_refl _)] at g2
        have hs1 := incN_set 1 C i
        have hs2 := incN_set 5 R i
        have l1 := NC_len (incN 1 C i)
        have l2 := NC_len (incN 5 R i)
        rw [incN_len] at l1 l2
        have b1 := bC i (by omega)
        have b2 := Nat.le_trans (bR i (by omega)) bb
        unfold gsz at b1 b2
        have w1' : IntKind.i64.wrap ((C.getD i (0, 0)).1 + 1) = (C.getD i (0, 0)).1 + 1 := wi (by omega)
        have w2' : IntKind.i64.wrap ((R.getD i (0, 0)).1 + 5) = (R.getD i (0, 0)).1 + 5 := wi (by omega)
        generalize (C.getD i (0, 0)).1 = x at *
        generalize (R.getD i (0, 0)).1 = y at *
        refine spQ (ai @Nat.zero_add (ai @w1' (ai @hs1 (ai @g1 (ai @lC (ai @l1 (ai @h4 @bz_BG2))))))) ?_
        refine spQ (ai @w2' (ai @hs2 (ai @g2 (ai @lR (ai @l2 @bz_BG2))))) ?_
        refine hQ4 _ (i + 1) (by omega) (by omega) ?_
        exact ltQ
      · obtain rfl : i = zs.length := by omega
        refine spQ (ai @h4 @bz_BG2) ?_
        refine he4 _ _ ?_
        obtain ⟨F2, hF2⟩ : ∃ F2, F2 = incN 1 C zs.length := ⟨_, rfl⟩
        have lF2 : F2.length = zs.length + 9 := by rw [hF2, incN_len, lC]
        have bF : ∀ j, j < zs.length → gsz (F2.getD j (0, 0)) ≤ 17 := fun j hj => by
          rw [hF2, incN_lt 1 C j (by omega) _ hj]
          have := bC j hj
          unfold gsz at *
          simp only [] at *
          omega
        rw [← hF2]
        clear hF2 bC bR htk hC0 v1 sq tu sp
        refine spQ @bz_BG2 ?_
        refine vm_loopA [] (Nat × List GZ) (fun x => ⟨[(6, .l 2 (ZC (nfl cs))), (9, .sl 2 0 0 zs.length), (13, .ow 2 1 zs.length), (15, .ow 2 2 16), (17, .ow 2 3 16), (20, .ow 2 4 zs.length), (22, .i .i64 (x.1 : Int))],
            [(0, some ⟨38, 2, NC F2, true, false⟩), (1, some ⟨38, 2, NC R, true, false⟩), (2, some ⟨38, 2, NC x.2, true, false⟩), (3, some ⟨38, 2, NC S, true, false⟩), (4, some ⟨38, 2, NC R, true, false⟩)], 5⟩)
          (fun x => x.1 ≤ 16 ∧ x.2.length = 16) (fun x => 16 - x.1) (0, S) ⟨Nat.zero_le _, by show S.length = 16; have := lS; rw [NC_len] at this; omega⟩ (by exact leQ) (by
          exact ltQ) ?_
        rintro ⟨i, S'⟩ ⟨hi6, lS'⟩ Q6 hQ6 he6 hr6
        simp only [] at hi6 lS' ⊢
        by_cases h6 : (i : Int) < 16
        · have l3 := NC_len S'
          rw [lS'] at l3
          have hs3 := NC_set1 S' i 99
          refine spQ (ai @hs3 (ai @l3 (ai @h6 @bz_BG2))) ?_
          refine hQ6 _ (i + 1, S'.set i ((S'.getD i (0, 0)).1, 99)) ⟨by simp only []; omega, by simp only [List.length_set]; exact lS'⟩ (by simp only []; omega) ?_
          simp only []
          exact ltQ
        · refine spQ (ai @h6 @bz_BG2) ?_
          refine he6 _ _ ?_
          refine spQ @bz_BG2 ?_
          refine vm_loopA [] Nat (fun i => ⟨[(6, .l 2 (ZC (nfl cs))), (9, .sl 2 0 0 zs.length), (13, .ow 2 1 zs.length), (17, .ow 2 2 16), (20, .ow 2 3 zs.length), (23, .i .i64 (i : Int))],
              [(0, some ⟨38, 2, NC F2, true, false⟩), (1, some ⟨38, 2, NC R, true, false⟩), (2, some ⟨38, 2, NC S, true, false⟩), (3, some ⟨38, 2, NC R, true, false⟩)], 4⟩)
            (fun i => i ≤ zs.length) (fun i => zs.length - i) 0 (Nat.zero_le _) (by exact leQ) (by
            exact ltQ) ?_
          intro i hi8 Q8 hQ8 he8 hr8
          by_cases h8 : (i : Int) < (zs.length : Int)
          · have rowR := NC_row R i (by omega)
            generalize R.getD i (0, 0) = z at *
            have e1 : (z.1 = z.1) = True := eq_self _
            have e2 : (z.2 = z.2) = True := eq_self _
            refine spQ (ai @e2 (ai @e1 (ai @rowR (ai @lNR (ai @h8 @bz_BG2))))) ?_
            refine hQ8 _ (i + 1) (by omega) (by omega) ?_
            exact ltQ
          · obtain rfl : i = zs.length := by omega
            refine spQ (ai @h8 @bz_BG2) ?_
            refine he8 _ _ ?_
            refine spQ @bz_BG2 ?_
            refine vm_loopA [] Nat (fun i => ⟨[(6, .l 2 (ZC (nfl cs))), (9, .sl 2 0 0 zs.length), (17, .ow 2 1 16), (24, .i .i64 (i : Int))],
                [(0, some ⟨38, 2, NC F2, true, false⟩), (1, some ⟨38, 2, NC S, true, false⟩)], 2⟩)
              (fun i => i ≤ 16) (fun i => 16 - i) 0 (Nat.zero_le _) (by exact leQ) (by
              exact ltQ) ?_
            intro i hi10 Q10 hQ10 he10 hr10
            by_cases h10 : (i : Int) < 16
            · have lS2 : S.length = 16 := by have := lS; rw [NC_len] at this; omega
              have g3 := (NC_gd S i (by omega)).2
              have n99 := hI i (by omega)
              generalize (S.getD i (0, 0)).2 = y at *
              refine spQ (ai @n99 (ai @g3 (ai @lS (ai @h10 @bz_BG2)))) ?_
              refine hQ10 _ (i + 1) (by omega) (by omega) ?_
              exact ltQ
            · refine spQ (ai @h10 @bz_BG2) ?_
              refine he10 _ _ ?_
              have lF := NC_len F2
              rw [lF2] at lF
              have htk := NC_take F2 zs.length
              obtain ⟨f2, hf2⟩ : ∃ f2, f2 = F2.take zs.length := ⟨_, rfl⟩
              rw [← hf2] at htk
              have lf2 : f2.length = zs.length := by rw [hf2, List.length_take, lF2]; omega
              have hf : ∀ j, j < zs.length → f2.getD j (0, 0) = F2.getD j (0, 0) := fun j hj => by
                rw [hf2, List.getD_eq_getElem?_getD, List.getElem?_take, if_pos hj, ← List.getD_eq_getElem?_getD]
              have okf : ∀ j, j < zs.length → vOk cs (F2.getD j (0, 0)) := fun j hj => okz hc lc (Nat.le_trans (bF j hj) (by decide))
              have v2 := gvalsO (nfl cs) 100000000 (by decide) (ZOk_small (by omega) (Cb_B hc (by decide))) f2 (by omega) (GZ_all fun j hj => by rw [zcs_nfl, hf j (by omega)]; exact okf j (by omega))
              rw [zcs_nfl] at v2
              obtain ⟨R2, hR2⟩ : ∃ R2, R2 = f2.map (vF cs) := ⟨_, rfl⟩
              rw [← hR2] at v2
              have lR2 : R2.length = zs.length := by rw [hR2, List.length_map, lf2]
              have lNR2 := NC_len R2
              rw [lR2] at lNR2
              have hRj : ∀ j, j < zs.length → R2.getD j (0, 0) = vF cs (F2.getD j (0, 0)) := fun j hj => by
                rw [← hf j hj, hR2, List.getD_eq_getElem?_getD, List.getD_eq_getElem?_getD, List.getElem?_map, List.getElem?_eq_getElem (by omega)]; rfl
              have d0 : List.drop 0 (NC F2) = NC F2 := rfl
              have rv := rvalS (nfl cs) 2000000 (by decide) (ZOk_sm2 (by omega) (Cb_B hc (by decide)))
              refine wkQ (ai @hnl (ai @lNR2 (ai @lF (ai @d0 (ai @htk @bz_BG2))))) ?_
              refine vm_loopA [] Nat (fun i => ⟨[(6, .l 2 (ZC (nfl cs))), (9, .sl 2 0 0 zs.length), (25, .ow 2 1 zs.length), (26, .i .i64 0), (27, .i .i64 (i : Int))],
                  [(0, some ⟨38, 2, NC F2, true, false⟩), (1, some ⟨38, 2, NC R2, true, false⟩)], 2⟩)
                (fun i => i ≤ zs.length) (fun i => zs.length - i) 0 (Nat.zero_le _) (by exact leQ) (by
                exact ltQ) ?_
              intro i hi12 Q12 hQ12 he12 hr12
              by_cases h12 : (i : Int) < (zs.length : Int)
              · obtain ⟨g4, g5⟩ := NC_gd F2 i (by omega)
                have rowR := NC_row R2 i (by omega)
                rw [hRj i (by omega)] at rowR
                have bz := bF i (by omega)
                have ok := okf i (by omega)
                have rz := rv (F2.getD i (0, 0)) (by
                  unfold gsz at bz
                  unfold Pz Pi
                  omega)
                have iz := is_spec (vF cs (F2.getD i (0, 0)))
                rw [zcs_nfl, show vE cs (F2.getD i (0, 0)) = 0 from if_pos ok] at rz
                simp only [nV] at rz iz
                generalize vF cs (F2.getD i (0, 0)) = y at *
                generalize F2.getD i (0, 0) = z at *
                refine wkQ (ai @rowR (ai @lNR2 (ai @Nat.zero_add (ai @g5 (ai @g4 (ai @lF2 (ai @lF (ai @h12 @bz_BG2)))))))) ?_
                refine hQ12 _ (i + 1) (by omega) (by omega) ?_
                exact ltQ
              · obtain rfl : i = zs.length := by omega
                refine spQ (ai @h12 @bz_BG2) ?_
                refine he12 _ _ ?_
                refine spQ @bz_BG2 ?_
                exact ⟨.inr trivial, trivial⟩
end Go.Proofs.Yteaiegppmbcibaa
