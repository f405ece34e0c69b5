/-
  slices: two rising runs made one: where one of them is a single number.
-/
import Derived.Test.YtdafakcccjjpiaaNS2
namespace Go.Proofs.Ytdafakcccjjpiaa
open Go Go.RowKit Ab
set_option linter.unusedSimpArgs false
set_option linter.unusedVariables false
set_option maxHeartbeats 10000000
theorem bz_NS3 : type_of% (And.intro @W_len (And.intro @Nat.div_one (And.intro @Nat.mul_one (And.intro @tn_nat (And.intro @W_nf (@W_nil)))))) := And.intro @W_len (And.intro @Nat.div_one (And.intro @Nat.mul_one (And.intro @tn_nat (And.intro @W_nf (@W_nil)))))
theorem half_w {i j : Nat} (hi : i ≤ 1099511627776) (hj : j ≤ 1099511627776) : IntKind.i64.wrap ((IntKind.u64.wrap ((i + j : Nat) : Int)).fdiv (2 ^ (min (1 : Int).toNat IntKind.u64.bits))) = (((i + j) / 2 : Nat) : Int) := by
  rw [wu (by omega), show (1 : Int).toNat = 1 from rfl, shr64 (i + j) 1 (by decide), Nat.pow_one, wi (by omega)]
def a55 : AC := .seq (.seq (.reg [qm 25 2,
 qm 26 1,
 qr 27 (.bin .sub (.t 25) (.t 26)),
 qr 28 (.bin .eql (.t 27) (.k (.i .i64 1)))])
 (.cond (.t 28)
 (.seq (.reg [qm 29 2,
 qm 10 29])
 (.seq (.reg [qm 30 3,
 qm 11 30])
 (.seq (.blk 0
 (.loop
 (.seq (.seq (.reg [qm 31 10,
 qm 32 11,
 qr 33 (.bin .lss (.t 31) (.t 32))])
 (.cond (.t 33)
 (.skip)
 (.exit 0)))
 (.blk 1
 (.seq (.reg [qm 34 10,
 qm 35 11,
 qr 36 (.bin .add (.t 34) (.t 35)),
 qr 37 (.cvt .u64 (.t 36)),
 qr 38 (.bin .shr (.t 37) (.k (.i .u64 1))),
 qr 39 (.cvt .i64 (.t 38)),
 qm 12 39])
 (.seq (.dreg [qm 40 4,
 qm 41 0,
 qm 42 12,
 qr 43 (.idx 1 (.t 41) (.t 42)),
 qr 44 (.ld false 1 (.t 43)),
 qm 45 0,
 qm 46 1,
 qr 47 (.idx 1 (.t 45) (.t 46)),
 qr 48 (.ld false 1 (.t 47)),
 qr 49 (.dcall (.t 40) [(1, (.t 44)), (1, (.t 48))]),
 qr 50 (.bin .lss (.t 49) (.k (.i .i64 0)))])
 (.cond (.t 50)
 (.reg [qm 51 12,
 qr 52 (.bin .add (.t 51) (.k (.i .i64 1))),
 qm 10 52])
 (.reg [qm 53 12,
 qm 11 53]))))))))
 (.seq (.seq (.reg [qm 54 1,
 qm 13 54])
 (.blk 2
 (.loop
 (.seq (.seq (.reg [qm 55 13,
 qm 56 10,
 qr 57 (.bin .sub (.t 56) (.k (.i .i64 1))),
 qr 58 (.bin .lss (.t 55) (.t 57))])
 (.cond (.t 58)
 (.skip)
 (.exit 2)))
 (.seq (.blk 3
 (.dreg [qm 61 0,
 qm 62 13,
 qm 63 0,
 qm 64 13,
 qr 65 (.bin .add (.t 64) (.k (.i .i64 1))),
 qm 66 0,
 qm 67 13,
 qr 68 (.bin .add (.t 67) (.k (.i .i64 1))),
 qr 69 (.idx 1 (.t 66) (.t 68)),
 qr 70 (.ld false 1 (.t 69)),
 qm 71 0,
 qm 72 13,
 qr 73 (.idx 1 (.t 71) (.t 72)),
 qr 74 (.ld false 1 (.t 73)),
 qr 75 (.idx 1 (.t 61) (.t 62)),
 qn (.st 1 (.t 75) (.t 70)),
 qr 76 (.idx 1 (.t 63) (.t 65)),
 qn (.st 1 (.t 76) (.t 74))]))
 (.reg [qm 59 13,
 qr 60 (.bin .add (.t 59) (.k (.i .i64 1))),
 qm 13 60]))))))
 (.ret)))))
 (.skip)))
 (.seq (.seq (.reg [qm 77 3,
 qm 78 2,
 qr 79 (.bin .sub (.t 77) (.t 78)),
 qr 80 (.bin .eql (.t 79) (.k (.i .i64 1)))])
 (.cond (.t 80)
 (.seq (.reg [qm 81 1,
 qm 14 81])
 (.seq (.reg [qm 82 2,
 qm 15 82])
 (.seq (.blk 4
 (.loop
 (.seq (.seq (.reg [qm 83 14,
 qm 84 15,
 qr 85 (.bin .lss (.t 83) (.t 84))])
 (.cond (.t 85)
 (.skip)
 (.exit 4)))
 (.blk 5
 (.seq (.reg [qm 86 14,
 qm 87 15,
 qr 88 (.bin .add (.t 86) (.t 87)),
 qr 89 (.cvt .u64 (.t 88)),
 qr 90 (.bin .shr (.t 89) (.k (.i .u64 1))),
 qr 91 (.cvt .i64 (.t 90)),
 qm 16 91])
 (.seq (.dreg [qm 92 4,
 qm 93 0,
 qm 94 2,
 qr 95 (.idx 1 (.t 93) (.t 94)),
 qr 96 (.ld false 1 (.t 95)),
 qm 97 0,
 qm 98 16,
 qr 99 (.idx 1 (.t 97) (.t 98)),
 qr 100 (.ld false 1 (.t 99)),
 qr 101 (.dcall (.t 92) [(1, (.t 96)), (1, (.t 100))]),
 qr 102 (.bin .lss (.t 101) (.k (.i .i64 0))),
 qr 103 (.un .not (.t 102))])
 (.cond (.t 103)
 (.reg [qm 104 16,
 qr 105 (.bin .add (.t 104) (.k (.i .i64 1))),
 qm 14 105])
 (.reg [qm 106 16,
 qm 15 106]))))))))
 (.seq (.seq (.reg [qm 107 2,
 qm 17 107])
 (.blk 6
 (.loop
 (.seq (.seq (.reg [qm 108 17,
 qm 109 14,
 qr 110 (.bin .gtr (.t 108) (.t 109))])
 (.cond (.t 110)
 (.skip)
 (.exit 6)))
 (.seq (.blk 7
 (.dreg [qm 113 0,
 qm 114 17,
 qm 115 0,
 qm 116 17,
 qr 117 (.bin .sub (.t 116) (.k (.i .i64 1))),
 qm 118 0,
 qm 119 17,
 qr 120 (.bin .sub (.t 119) (.k (.i .i64 1))),
 qr 121 (.idx 1 (.t 118) (.t 120)),
 qr 122 (.ld false 1 (.t 121)),
 qm 123 0,
 qm 124 17,
 qr 125 (.idx 1 (.t 123) (.t 124)),
 qr 126 (.ld false 1 (.t 125)),
 qr 127 (.idx 1 (.t 113) (.t 114)),
 qn (.st 1 (.t 127) (.t 122)),
 qr 128 (.idx 1 (.t 115) (.t 117)),
 qn (.st 1 (.t 128) (.t 126))]))
 (.reg [qm 111 17,
 qr 112 (.bin .sub (.t 111) (.k (.i .i64 1))),
 qm 17 112]))))))
 (.ret)))))
 (.skip)))
 (.seq (.reg [qm 129 1,
 qm 130 3,
 qr 131 (.bin .add (.t 129) (.t 130)),
 qr 132 (.cvt .u64 (.t 131)),
 qr 133 (.bin .shr (.t 132) (.k (.i .u64 1))),
 qr 134 (.cvt .i64 (.t 133)),
 qm 18 134])
 (.seq (.reg [qm 135 18,
 qm 136 2,
 qr 137 (.bin .add (.t 135) (.t 136)),
 qm 19 137])
 (.seq (.reg [qr 20 (.mv (.k (.i .i64 0))),
 qr 21 (.mv (.k (.i .i64 0)))])
 (.seq (.seq (.reg [qm 138 2,
 qm 139 18,
 qr 140 (.bin .gtr (.t 138) (.t 139))])
 (.cond (.t 140)
 (.seq (.reg [qm 141 19,
 qm 142 3,
 qr 143 (.bin .sub (.t 141) (.t 142)),
 qm 20 143])
 (.reg [qm 144 18,
 qm 21 144]))
 (.seq (.reg [qm 145 1,
 qm 20 145])
 (.reg [qm 146 2,
 qm 21 146]))))
 (.seq (.reg [qm 147 19,
 qr 148 (.bin .sub (.t 147) (.k (.i .i64 1))),
 qm 22 148])
 (.seq (.blk 8
 (.loop
 (.seq (.seq (.reg [qm 149 20,
 qm 150 21,
 qr 151 (.bin .lss (.t 149) (.t 150))])
 (.cond (.t 151)
 (.skip)
 (.exit 8)))
 (.blk 9
 (.seq (.reg [qm 152 20,
 qm 153 21,
 qr 154 (.bin .add (.t 152) (.t 153)),
 qr 155 (.cvt .u64 (.t 154)),
 qr 156 (.bin .shr (.t 155) (.k (.i .u64 1))),
 qr 157 (.cvt .i64 (.t 156)),
 qm 23 157])
 (.seq (.dreg [qm 158 4,
 qm 159 0,
 qm 160 22,
 qm 161 23,
 qr 162 (.bin .sub (.t 160) (.t 161)),
 qr 163 (.idx 1 (.t 159) (.t 162)),
 qr 164 (.ld false 1 (.t 163)),
 qm 165 0,
 qm 166 23,
 qr 167 (.idx 1 (.t 165) (.t 166)),
 qr 168 (.ld false 1 (.t 167)),
 qr 169 (.dcall (.t 158) [(1, (.t 164)), (1, (.t 168))]),
 qr 170 (.bin .lss (.t 169) (.k (.i .i64 0))),
 qr 171 (.un .not (.t 170))])
 (.cond (.t 171)
 (.reg [qm 172 23,
 qr 173 (.bin .add (.t 172) (.k (.i .i64 1))),
 qm 20 173])
 (.reg [qm 174 23,
 qm 21 174]))))))))
 (.seq (.reg [qm 175 19,
 qm 176 20,
 qr 177 (.bin .sub (.t 175) (.t 176)),
 qm 24 177])
 (.seq (.seq (.reg [qm 178 20,
 qm 179 2,
 qr 180 (.bin .lss (.t 178) (.t 179)),
 qm 181 180,
 ⟨some 182, some (181, true), .mv (.t 2)⟩,
 ⟨some 183, some (181, true), .mv (.t 24)⟩,
 ⟨some 184, some (181, true), .bin .lss (.t 182) (.t 183)⟩,
 qr 185 (.pick (.t 181) (.t 184) (.k (.b false)))])
 (.cond (.t 185)
 (.reg [qm 186 0,
 qm 187 20,
 qm 188 2,
 qm 189 24,
 qm 190 4,
 qr 191 (.mcall 56 0 [(1, (.t 186)), (1, (.t 187)), (1, (.t 188)), (1, (.t 189)), (1, (.t 190))])])
 (.skip)))
 (.seq (.seq (.reg [qm 192 1,
 qm 193 20,
 qr 194 (.bin .lss (.t 192) (.t 193)),
 qm 195 194,
 ⟨some 196, some (195, true), .mv (.t 20)⟩,
 ⟨some 197, some (195, true), .mv (.t 18)⟩,
 ⟨some 198, some (195, true), .bin .lss (.t 196) (.t 197)⟩,
 qr 199 (.pick (.t 195) (.t 198) (.k (.b false)))])
 (.cond (.t 199)
 (.reg [qm 200 0,
 qm 201 1,
 qm 202 20,
 qm 203 18,
 qm 204 4,
 qr 205 (.mcall 55 0 [(1, (.t 200)), (1, (.t 201)), (1, (.t 202)), (1, (.t 203)), (1, (.t 204))])])
 (.skip)))
 (.seq (.reg [qm 206 18,
 qm 207 24,
 qr 208 (.bin .lss (.t 206) (.t 207)),
 qm 209 208,
 ⟨some 210, some (209, true), .mv (.t 24)⟩,
 ⟨some 211, some (209, true), .mv (.t 3)⟩,
 ⟨some 212, some (209, true), .bin .lss (.t 210) (.t 211)⟩,
 qr 213 (.pick (.t 209) (.t 212) (.k (.b false)))])
 (.cond (.t 213)
 (.reg [qm 214 0,
 qm 215 18,
 qm 216 24,
 qm 217 3,
 qm 218 4,
 qr 219 (.mcall 55 0 [(1, (.t 214)), (1, (.t 215)), (1, (.t 216)), (1, (.t 217)), (1, (.t 218))])])
 (.skip)))))))))))))
theorem symM1_spec (L : List Nat) (a b : Nat) (hs : SmL L) (h2 : a + 1 < b) (h3 : b ≤ L.length) (hl : L.length ≤ 1099511627776) (sb : SoB L (a + 1) b) : AFun Try.prog J0 55 [.o 23 1 (NV L), .i .i64 (a : Int), .i .i64 ((a + 1 : Nat) : Int), .i .i64 (b : Int), .c (.func (.func 26) #[] #[])] (.mu (.t []) (NV (srt L a b))) := by
  have kL : (NV L).length = L.length := NV_len L
  obtain ⟨m, hm⟩ : ∃ m, m = a + 1 := ⟨_, rfl⟩
  rw [← hm]
  have w1 : IntKind.i64.wrap ((m : Int) - (a : Int)) = 1 := by rw [wi (by omega)]; omega
  refine AFun.mkm (m := 0) fol J0s Try.func55 rfl (ac := a55) (by kernel_rfl) rfl rfl rfl rfl (by kernel_rfl) ?_
  apply vm_start
  unfold a55
  simp only [initL_eq, initE, lent, qm, qr, qn]
  rw [show (NV L).length / 1 = L.length from by rw [NV_len, Nat.div_one]]
  refine spQ (ai @w1 @bz_NS3) ?_
  refine vm_loopA [] (Nat × Nat) (fun x => ⟨[(0, .ow 1 0 L.length), (1, .i .i64 (a : Int)), (2, .i .i64 (m : Int)), (3, .i .i64 (b : Int)), (4, .c (.func (.func 26) #[] #[])), (10, .i .i64 (x.1 : Int)), (11, .i .i64 (x.2 : Int))], [(0, some ⟨23, 1, NV L, true, false⟩)], 1⟩)
    (fun x => m ≤ x.1 ∧ x.1 ≤ x.2 ∧ x.2 ≤ b ∧ (∀ y, m ≤ y → y < x.1 → L.getD y 0 < L.getD a 0) ∧ ∀ y, x.2 ≤ y → y < b → L.getD a 0 ≤ L.getD y 0)
    (fun x => x.2 - x.1) (m, b) ⟨Nat.le_refl _, by simp only; omega, Nat.le_refl _, fun y _ _ => by simp only at *; omega, fun y _ _ => by simp only at *; omega⟩ (by exact leQ) (by
    exact ltQ) ?_
  rintro ⟨i, j⟩ ⟨hi, hij, hj, hlo, hhi⟩ Q' hQ he hr
  simp only [] at hi hij hj hlo hhi ⊢
  by_cases h : (i : Int) < (j : Int)
  · have wa := iadd (show i ≤ 1099511627776 by omega) (show j ≤ 1099511627776 by omega)
    have wh := half_w (show i ≤ 1099511627776 by omega) (show j ≤ 1099511627776 by omega)
    obtain ⟨c, hc⟩ : ∃ c, c = (i + j) / 2 := ⟨_, rfl⟩
    rw [← hc] at wh
    have c1 := vcmp_spec hs (AlO.rfl (a := 0) (b := 0)) c a (by omega) (by omega)
    have g1 := NV_get L c (by omega)
    have g2 := NV_get L a (by omega)
    have wc := iadd1 (show c ≤ 1099511627776 by omega)
    by_cases hcc : L.getD c 0 < L.getD a 0
    · have n1 := sg_n hcc
      generalize sg (L.getD c 0) (L.getD a 0) = cc at *
      refine wkQ (ai @wc (ai @n1 (ai @g2 (ai @g1 (ai @kL (ai @wh (ai @wa (ai @h @bz_NS3)))))))) ?_
      refine hQ _ (c + 1, j) ⟨by simp only; omega, by simp only; omega, hj, fun y hy hy2 => ?_, hhi⟩ (by simp only; omega) ?_
      · simp only at hy2
        exact Nat.lt_of_le_of_lt (sb.le (by omega) (by omega) (by omega)) hcc
      · simp (disch := (first | omega | assumption)) only [Sl, Sa, Sw, ↓reduceIte, Nat.reduceEqDiff, Nat.reduceLT, List.all_nil, List.all_cons, Nat.reduceBneDiff, Nat.reduceAdd, bne_iff_ne, ne_eq, reduceCtorEq, not_false_eq_true, not_true_eq_false, Bool.and_true, Bool.true_and, and_true, true_and, and_self, i_eq]
        repeat' first | rfl | omega | (simp only [List.length_append, List.length_cons, List.length_nil]; done) | apply And.intro
    · have n1 := sg_p hcc
      generalize sg (L.getD c 0) (L.getD a 0) = cc at *
      refine wkQ (ai @wc (ai @n1 (ai @g2 (ai @g1 (ai @kL (ai @wh (ai @wa (ai @h @bz_NS3)))))))) ?_
      refine hQ _ (i, c) ⟨hi, by simp only; omega, by simp only; omega, hlo, fun y hy hy2 => ?_⟩ (by simp only; omega) ?_
      · simp only at hy
        exact Nat.le_trans (Nat.le_of_not_lt hcc) (sb.le (by omega) hy (by omega))
      · simp (disch := (first | omega | assumption)) only [Sl, Sa, Sw, ↓reduceIte, Nat.reduceEqDiff, Nat.reduceLT, List.all_nil, List.all_cons, Nat.reduceBneDiff, Nat.reduceAdd, bne_iff_ne, ne_eq, reduceCtorEq, not_false_eq_true, not_true_eq_false, Bool.and_true, Bool.true_and, and_true, true_and, and_self, i_eq]
        repeat' first | rfl | omega | (simp only [List.length_append, List.length_cons, List.length_nil]; done) | apply And.intro
  · obtain rfl : i = j := by omega
    refine spQ (ai @h @bz_NS3) ?_
    refine he _ _ ?_
    refine spQ @bz_NS3 ?_
    refine vm_loopA [] (Nat × List Nat) (fun x => ⟨[(0, .ow 1 0 L.length), (10, .i .i64 (i : Int)), (13, .i .i64 (x.1 : Int))], [(0, some ⟨23, 1, NV x.2, true, false⟩)], 1⟩)
      (fun x => a ≤ x.1 ∧ x.1 ≤ i - 1 ∧ AlO L x.2 a b ∧ ins1 L a x.1 x.2)
      (fun x => i - x.1) (a, L) ⟨Nat.le_refl _, by simp only; omega, AlO.rfl, ins1_0 L a⟩ (by exact leQ) (by
      exact ltQ) ?_
    rintro ⟨k, M⟩ ⟨hk, hk2, hM, hI⟩ Q2 hQ2 he2 hr2
    simp only [] at hk hk2 hM hI ⊢
    have wi1 := isub1 (show 1 ≤ i by omega) (by omega)
    have wk := iadd1 (show k ≤ 1099511627776 by omega)
    have kM : (NV M).length = L.length := by rw [NV_len, hM.1]
    by_cases h4 : k < i - 1
    · have h5 : (k : Int) < ((i - 1 : Nat) : Int) := by omega
      have g1 := NV_get M k (by have := hM.1; omega)
      have g2 := NV_get M (k + 1) (by have := hM.1; omega)
      have e : NV (swp M k (k + 1)) = NV ((M.set k (M.getD (k + 1) 0)).set (k + 1) (M.getD k 0)) := rfl
      have s1 := NV_set M k (M.getD (k + 1) 0)
      have s2 := NV_set (M.set k (M.getD (k + 1) 0)) (k + 1) (M.getD k 0)
      have k2 := NV_len (M.set k (M.getD (k + 1) 0))
      rw [List.length_set, hM.1] at k2
      have hsw := hM.trans (swp_AlO (L := M) (i := k) (j := k + 1) (a := a) (b := b) (by have := hM.1; omega) (by have := hM.1; omega) (by omega) (by omega) (by omega) (by omega)) (Nat.le_refl _) (Nat.le_refl _)
      have hst := ins1_s hI (by have := hM.1; omega) hk
      refine spQ (ai @k2 (ai @s2 (ai @s1 (ai @g2 (ai @g1 (ai @kM (ai @wk (ai @h5 (ai @wi1 @bz_NS3))))))))) ?_
      refine hQ2 _ (k + 1, swp M k (k + 1)) ⟨by simp only; omega, by simp only; omega, hsw, hst⟩ (by simp only; omega) ?_
      simp (disch := (first | omega | assumption)) only [Sl, Sa, Sw, ↓reduceIte, Nat.reduceEqDiff, Nat.reduceLT, List.all_nil, List.all_cons, Nat.reduceBneDiff, Nat.reduceAdd, bne_iff_ne, ne_eq, reduceCtorEq, not_false_eq_true, not_true_eq_false, Bool.and_true, Bool.true_and, and_true, true_and, and_self, i_eq, e]
      repeat' first | rfl | omega | (simp only [List.length_append, List.length_cons, List.length_nil]; done) | apply And.intro
    · have h5 : ¬ (k : Int) < ((i - 1 : Nat) : Int) := by omega
      obtain rfl : k = i - 1 := by omega
      have e : M = srt L a b := srt_of hM (ins1_end hI sb (by omega) (by omega) (fun x h1 h2 => hlo x (by omega) h2) hhi) (by omega) h3
      subst e
      refine spQ (ai @h5 (ai @wi1 @bz_NS3)) ?_
      refine he2 _ _ ?_
      refine spQ @bz_NS3 ?_
      exact ⟨0, rfl, rfl⟩
end Go.Proofs.Ytdafakcccjjpiaa
