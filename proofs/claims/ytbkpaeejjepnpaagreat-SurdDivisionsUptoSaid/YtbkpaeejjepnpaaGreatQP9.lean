/-
  surdtop.SurdDivisions: the law's walk.
-/
import Derived.Test.YtbkpaeejjepnpaaGreatQP8
namespace Go.Proofs.YtbkpaeejjepnpaaGreat
open Go Go.RowKit Ab
set_option linter.unusedSimpArgs false
set_option linter.unusedVariables false
set_option maxHeartbeats 10000000
theorem bz_QP9 : type_of% (And.intro @W_len (And.intro @D_len (And.intro @Nat.div_one (And.intro @Nat.mul_one (And.intro @tn_nat (And.intro @W_nf (And.intro @D_nf (And.intro @W_nil (And.intro @D_nil (And.intro @wi (And.intro @nf_g (And.intro @Bool.false_and (And.intro @W_cell (And.intro @RC_nf (And.intro @ZC_cell (@ZC_nil)))))))))))))))) := And.intro @W_len (And.intro @D_len (And.intro @Nat.div_one (And.intro @Nat.mul_one (And.intro @tn_nat (And.intro @W_nf (And.intro @D_nf (And.intro @W_nil (And.intro @D_nil (And.intro @wi (And.intro @nf_g (And.intro @Bool.false_and (And.intro @W_cell (And.intro @RC_nf (And.intro @ZC_cell (@ZC_nil)))))))))))))))
def a3 : AC := .seq (.reg [qr 4 (.mv (.k (.b false)))])
 (.seq (.reg [qr 24 (.call 5 [(1, (.k (.i .i64 1)))]),
 qr 25 (.bsl 29 1 1 [(.i .u64 0)] [(0, (.k (.i .u64 2)))]),
 qr 26 (.bld [(.b false), (.l 1 []), (.l 1 [])] [(0, 2, (.t 24)), (2, 1, (.t 25))]),
 qr 27 (.call 5 [(1, (.k (.i .i64 1)))]),
 qr 28 (.call 6 []),
 qr 29 (.bld [(.b false), (.l 1 []), (.l 1 [])] [(0, 2, (.t 27)), (2, 1, (.t 28))]),
 qr 30 (.bsl 31 3 2 [(.b false), (.l 1 []), (.l 1 []), (.b false), (.l 1 []), (.l 1 [])] [(0, (.t 26)), (1, (.t 29))]),
 qm 5 30])
 (.seq (.reg [qm 32 5,
 qr 33 (.call 8 [(3, (.t 32))]),
 qr 34 (.call 7 [(3, (.t 33))]),
 qm 31 34,
 qr 35 (.ext (.t 31) 0),
 qr 36 (.ext (.t 31) 1),
 qr 37 (.ext (.t 31) 2),
 qm 6 35,
 qm 7 36,
 qm 8 37])
 (.seq (.seq (.reg [qm 38 8,
 qr 39 (.bin .neq (.t 38) (.k (.i .i64 0))),
 qm 40 39,
 ⟨some 41, some (40, false), .mv (.t 6)⟩,
 ⟨some 42, some (40, false), .bsl 29 1 1 [(.i .u64 0)] [(0, (.k (.i .u64 2)))]⟩,
 ⟨some 43, some (40, false), .call 9 [(1, (.t 41)), (1, (.t 42))]⟩,
 ⟨some 44, some (40, false), .un .not (.t 43)⟩,
 qr 45 (.pick (.t 40) (.k (.b true)) (.t 44)),
 qm 46 45,
 ⟨some 47, some (46, false), .mv (.t 7)⟩,
 ⟨some 48, some (46, false), .bsl 3 1 2 [(.i .i64 0), (.i .i64 0)] [(0, (.k (.i .i64 1))), (1, (.k (.i .i64 2)))]⟩,
 ⟨some 49, some (46, false), .call 11 [(1, (.t 48))]⟩,
 ⟨some 50, some (46, false), .call 10 [(2, (.t 47)), (2, (.t 49))]⟩,
 ⟨some 51, some (46, false), .un .not (.t 50)⟩,
 qr 52 (.pick (.t 46) (.k (.b true)) (.t 51))])
 (.cond (.t 52)
 (.seq (.reg [qr 4 (.mv (.k (.b false)))])
 (.ret))
 (.skip)))
 (.seq (.seq (.reg [qm 53 0,
 qr 54 (.len (.t 53)),
 qr 55 (.bin .gtr (.t 54) (.k (.i .i64 40)))])
 (.cond (.t 55)
 (.reg [qm 56 0,
 qr 57 (.sub 3 (.t 56) none (some (.k (.i .i64 40)))),
 qm 0 57])
 (.skip)))
 (.seq (.seq (.reg [qm 58 1,
 qr 59 (.len (.t 58)),
 qr 60 (.bin .gtr (.t 59) (.k (.i .i64 40)))])
 (.cond (.t 60)
 (.reg [qm 61 1,
 qr 62 (.sub 3 (.t 61) none (some (.k (.i .i64 40)))),
 qm 1 62])
 (.skip)))
 (.seq (.seq (.reg [qm 63 0,
 qr 64 (.call 12 [(3, (.t 63))]),
 qr 65 (.un .not (.t 64)),
 qm 66 65,
 ⟨some 67, some (66, false), .mv (.t 1)⟩,
 ⟨some 68, some (66, false), .call 12 [(3, (.t 67))]⟩,
 ⟨some 69, some (66, false), .un .not (.t 68)⟩,
 qr 70 (.pick (.t 66) (.k (.b true)) (.t 69))])
 (.cond (.t 70)
 (.seq (.reg [qm 72 0,
 qr 73 (.call 8 [(3, (.t 72))]),
 qm 74 1,
 qr 75 (.call 8 [(3, (.t 74))]),
 qr 76 (.call 13 [(3, (.t 73)), (3, (.t 75))]),
 qm 71 76,
 qr 77 (.ext (.t 71) 0),
 qr 78 (.ext (.t 71) 1),
 qm 9 77,
 qm 10 78])
 (.seq (.reg [qm 79 10,
 qr 80 (.bin .eql (.t 79) (.k (.i .i64 1))),
 qm 4 80])
 (.ret)))
 (.skip)))
 (.seq (.reg [qm 82 0,
 qr 83 (.call 8 [(3, (.t 82))]),
 qr 84 (.call 14 [(3, (.t 83))]),
 qm 81 84,
 qr 85 (.ext (.t 81) 0),
 qr 86 (.ext (.t 81) 1),
 qm 11 85,
 qm 8 86])
 (.seq (.reg [qm 88 0,
 qr 89 (.call 8 [(3, (.t 88))]),
 qr 90 (.call 7 [(3, (.t 89))]),
 qm 87 90,
 qr 91 (.ext (.t 87) 0),
 qr 92 (.ext (.t 87) 1),
 qr 93 (.ext (.t 87) 2),
 qm 12 91,
 qm 13 92,
 qm 14 93])
 (.seq (.seq (.reg [qm 94 8,
 qr 95 (.bin .neq (.t 94) (.k (.i .i64 0))),
 qm 96 95,
 ⟨some 97, some (96, false), .mv (.t 14)⟩,
 ⟨some 98, some (96, false), .bin .neq (.t 97) (.k (.i .i64 0))⟩,
 qr 99 (.pick (.t 96) (.k (.b true)) (.t 98)),
 qm 100 99,
 ⟨some 101, some (100, false), .mv (.t 12)⟩,
 ⟨some 102, some (100, false), .len (.t 101)⟩,
 ⟨some 103, some (100, false), .bin .eql (.t 102) (.k (.i .i64 0))⟩,
 qr 104 (.pick (.t 100) (.k (.b true)) (.t 103))])
 (.cond (.t 104)
 (.seq (.reg [qr 4 (.mv (.k (.b false)))])
 (.ret))
 (.skip)))
 (.seq (.reg [qm 106 13,
 qr 107 (.call 16 [(2, (.t 106))]),
 qr 108 (.call 5 [(1, (.k (.i .i64 1)))]),
 qm 109 12,
 qr 110 (.call 17 [(1, (.t 109))]),
 qr 111 (.bld [(.b false), (.l 1 []), (.l 1 [])] [(0, 2, (.t 108)), (2, 1, (.t 110))]),
 qr 112 (.call 15 [(3, (.t 107)), (1, (.t 111))]),
 qm 105 112,
 qr 113 (.ext (.t 105) 0),
 qr 114 (.ext (.t 105) 1),
 qm 15 113,
 qm 8 114])
 (.seq (.seq (.reg [qm 115 8,
 qr 116 (.bin .neq (.t 115) (.k (.i .i64 0))),
 qm 117 116,
 ⟨some 118, some (117, false), .mv (.t 15)⟩,
 ⟨some 119, some (117, false), .mv (.t 11)⟩,
 ⟨some 120, some (117, false), .call 18 [(3, (.t 118)), (3, (.t 119))]⟩,
 ⟨some 121, some (117, false), .un .not (.t 120)⟩,
 qr 122 (.pick (.t 117) (.k (.b true)) (.t 121))])
 (.cond (.t 122)
 (.seq (.reg [qr 4 (.mv (.k (.b false)))])
 (.ret))
 (.skip)))
 (.seq (.reg [qm 124 0,
 qr 125 (.call 8 [(3, (.t 124))]),
 qr 126 (.call 19 [(3, (.t 125))]),
 qm 123 126,
 qr 127 (.ext (.t 123) 0),
 qr 128 (.ext (.t 123) 1),
 qm 16 127,
 qm 8 128])
 (.seq (.reg [qm 130 16,
 qr 131 (.call 20 [(3, (.t 130))]),
 qm 129 131,
 qr 132 (.ext (.t 129) 0),
 qr 133 (.ext (.t 129) 1),
 qm 17 132,
 qm 14 133])
 (.seq (.seq (.reg [qm 134 8,
 qr 135 (.bin .neq (.t 134) (.k (.i .i64 0))),
 qm 136 135,
 ⟨some 137, some (136, false), .mv (.t 14)⟩,
 ⟨some 138, some (136, false), .bin .neq (.t 137) (.k (.i .i64 0))⟩,
 qr 139 (.pick (.t 136) (.k (.b true)) (.t 138)),
 qm 140 139,
 ⟨some 141, some (140, false), .mv (.t 17)⟩,
 ⟨some 142, some (140, false), .mv (.t 11)⟩,
 ⟨some 143, some (140, false), .call 18 [(3, (.t 141)), (3, (.t 142))]⟩,
 ⟨some 144, some (140, false), .un .not (.t 143)⟩,
 qr 145 (.pick (.t 140) (.k (.b true)) (.t 144))])
 (.cond (.t 145)
 (.seq (.reg [qr 4 (.mv (.k (.b false)))])
 (.ret))
 (.skip)))
 (.seq (.reg [qm 147 1,
 qr 148 (.call 8 [(3, (.t 147))]),
 qr 149 (.call 14 [(3, (.t 148))]),
 qm 146 149,
 qr 150 (.ext (.t 146) 0),
 qr 151 (.ext (.t 146) 1),
 qm 18 150,
 qm 8 151])
 (.seq (.reg [qm 153 0,
 qr 154 (.call 8 [(3, (.t 153))]),
 qm 155 1,
 qr 156 (.call 8 [(3, (.t 155))]),
 qr 157 (.call 21 [(3, (.t 154)), (3, (.t 156))]),
 qm 152 157,
 qr 158 (.ext (.t 152) 0),
 qr 159 (.ext (.t 152) 1),
 qr 160 (.ext (.t 152) 2),
 qm 19 158,
 qm 20 159,
 qm 14 160])
 (.seq (.seq (.reg [qm 161 8,
 qr 162 (.bin .neq (.t 161) (.k (.i .i64 0)))])
 (.cond (.t 162)
 (.seq (.reg [qr 4 (.mv (.k (.b false)))])
 (.ret))
 (.skip)))
 (.seq (.seq (.reg [qm 163 18,
 qr 164 (.len (.t 163)),
 qr 165 (.bin .eql (.t 164) (.k (.i .i64 0)))])
 (.cond (.t 165)
 (.seq (.reg [qm 166 14,
 qr 167 (.bin .eql (.t 166) (.k (.i .i64 1))),
 qm 4 167])
 (.ret))
 (.skip)))
 (.seq (.reg [qm 169 19,
 qm 170 1,
 qr 171 (.call 8 [(3, (.t 170))]),
 qr 172 (.call 13 [(3, (.t 169)), (3, (.t 171))]),
 qm 168 172,
 qr 173 (.ext (.t 168) 0),
 qr 174 (.ext (.t 168) 1),
 qm 21 173,
 qm 8 174])
 (.seq (.reg [qm 176 21,
 qm 177 20,
 qr 178 (.call 8 [(3, (.t 177))]),
 qr 179 (.call 22 [(3, (.t 176)), (3, (.t 178))]),
 qm 175 179,
 qr 180 (.ext (.t 175) 0),
 qr 181 (.ext (.t 175) 1),
 qm 22 180,
 qm 23 181])
 (.seq (.reg [qm 182 14,
 qr 183 (.bin .eql (.t 182) (.k (.i .i64 0))),
 qm 184 183,
 ⟨some 185, some (184, true), .mv (.t 8)⟩,
 ⟨some 186, some (184, true), .bin .eql (.t 185) (.k (.i .i64 0))⟩,
 qr 187 (.pick (.t 184) (.t 186) (.k (.b false))),
 qm 188 187,
 ⟨some 189, some (188, true), .mv (.t 23)⟩,
 ⟨some 190, some (188, true), .bin .eql (.t 189) (.k (.i .i64 0))⟩,
 qr 191 (.pick (.t 188) (.t 190) (.k (.b false))),
 qm 192 191,
 ⟨some 193, some (192, true), .mv (.t 22)⟩,
 ⟨some 194, some (192, true), .mv (.t 11)⟩,
 ⟨some 195, some (192, true), .call 18 [(3, (.t 193)), (3, (.t 194))]⟩,
 qr 196 (.pick (.t 192) (.t 195) (.k (.b false))),
 qm 197 196,
 ⟨some 198, some (197, true), .mv (.t 20)⟩,
 ⟨some 199, some (197, true), .len (.t 198)⟩,
 ⟨some 200, some (197, true), .mv (.t 18)⟩,
 ⟨some 201, some (197, true), .len (.t 200)⟩,
 ⟨some 202, some (197, true), .bin .lss (.t 199) (.t 201)⟩,
 qr 203 (.pick (.t 197) (.t 202) (.k (.b false))),
 qm 4 203])
 (.ret))))))))))))))))))))))
set_option maxRecDepth 100000 in
theorem surdDivisions_spec (l0 k0 : R3) (m : Nat) (hm : m ≤ 1048577) (hT : wt l0 + wt k0 ≤ 1048576) (ll0 : l0.length ≤ 1048576) (lk0 : k0.length ≤ 1048576) (hl0 : Qw l0 m) (hk0 : Qw k0 m) :
    AFun Tryz.prog J0 3 [.l 3 (RC l0), .l 3 (RC k0)] (.b true) := by
  have o1 := twholeN 1 (.inl rfl)
  have z1 : zN 1 = .g [.b false, .l 1 [.i .u64 1]] := by show V.g [.b (decide ((1 : Int) < 0)), .l 1 (W (dg B 1))] = _; rw [show dg B 1 = [1] from by decide +kernel]; rfl
  have o2 := (tone_spec).frozen
  have hh : ([.b false, .l 1 [.i .u64 1], .l 1 [.i .u64 2], .b false, .l 1 [.i .u64 1], .l 1 [.i .u64 1]] : List V) = RC lhalf := rfl
  have c0 := tcopyP_spec lhalf 10 (by decide) (by decide) (Qk_Ql lhalf_k)
  obtain ⟨w1, w2, w3⟩ := raw_PB lhalf_k
  have d0 := pclear_spec lhalf (tzq (qcs lhalf)) (DD lhalf) (B ^ wt lhalf) 10 (by decide) (Nat.le_trans (tzq_len _) (by decide)) ⟨w1, fun i => by rw [tzq_cf]; exact w3 i⟩ (Nat.lt_of_le_of_lt w2 (by decide)) (by decide) (pnorm_spec lhalf 10 (by decide) (by decide) lhalf_k)
  rw [lhalf_D, lhalf_Z, show dg B 2 = [2] from by decide +kernel] at d0
  have s0 := tsame_spec [2] (by decide)
  have p0 := tpoly_spec [1, 2] (by decide) (by decide)
  have q0 := tsameZ_spec (nfl [1, 2]) 1 (by decide) (by decide) (Zk_nfl (fun i => by
    match i with
    | 0 => decide
    | 1 => decide
    | i + 2 => simp; decide))
  rw [show I64 [1, 2] = [.i .i64 1, .i .i64 2] from rfl] at p0
  rw [show W [2] = [V.i .u64 2] from rfl] at d0 s0
  rw [z1] at o1
  rw [← hh] at c0 d0
  clear w1 w2 w3 hh
  have hz0 := RC_len l0
  have hz1 := RC_len k0
  have hd0 : l0.length * 3 / 3 = l0.length := by omega
  have hd1 : k0.length * 3 / 3 = k0.length := by omega
  have t0 : (RC l0).take (Int.toNat 40 * 3) = RC (l0.take 40) := RC_take l0 40
  have t1 : (RC k0).take (Int.toNat 40 * 3) = RC (k0.take 40) := RC_take k0 40
  generalize nfl [1, 2] = zz12 at *
  refine mkQ fol J0s Tryz.func3 a3 ?_
  unfold a3
  simp only [init_eq, initE, qm, qr, qn]
  refine wkQ (ai @hd0 (ai @hz0 @bz_QP9)) ?_
  refine vmc_share (fun s' => lk s'.env 0 = .l 3 (RC (r40 l0)) ∧ lk s'.env 1 = .l 3 (RC (r40 k0))) ?_ ?_
  · rintro ⟨env, obs, nx⟩ ⟨v0, v1⟩
    simp only [] at v0 v1
    have ll := r40_len l0
    have lk := r40_len k0
    have hl : Qw (r40 l0) m := fun p hp => hl0 p (r40_mem hp)
    have hk : Qw (r40 k0) m := fun p hp => hk0 p (r40_mem hp)
    have hT2 : wt (r40 l0) + wt (r40 k0) ≤ 1048576 := by have := r40_wt l0; have := r40_wt k0; omega
    clear hz0 hz1 hd0 hd1 t0 t1 hl0 hk0 hT ll0 lk0 c0 d0 s0 p0 q0
    generalize r40 l0 = l at *
    generalize r40 k0 = k at *
    have m1 := tmeansP_spec l m (by omega) (by omega) hl
    have m2 := tmeansP_spec k m (by omega) (by omega) hk
    have cl := tcopyP_spec l m (by omega) (by omega) (Qw_Ql hl)
    have ck := tcopyP_spec k m (by omega) (by omega) (Qw_Ql hk)
    rcases ce_01 l with e1 | e1
    · have kl := Qw_k hl e1
      rcases ce_01 k with e2 | e2
      · have kk := Qw_k hk e2
        rw [decide_eq_true e1] at m1
        rw [decide_eq_true e2] at m2
        have hmw : wt l + 1 ≤ 1048577 := by omega
        obtain ⟨x1, x2, x3⟩ := raw_PB kl
        have PA : PB (tzq (qcs l)) (DD l) (B ^ wt l) := ⟨x1, fun i => by rw [tzq_cf]; exact x3 i⟩
        have tA := tzq_idem (qcs l)
        have lA : (tzq (qcs l)).length ≤ 40 := Nat.le_trans (tzq_len _) (by rw [qcs_len]; exact ll)
        have EA : DD l < B ^ (wt l + 1) := B_lt x2 (by omega)
        have MA : B ^ wt l < B ^ (wt l + 1) := B_lt (Nat.le_refl _) (by omega)
        have cA := PB_Cq PA EA MA
        have D0 := clD_pos PA
        have Dm : clD (tzq (qcs l)) < B ^ (wt l + 1) := Nat.lt_of_le_of_lt (Nat.le_of_dvd (Nat.pos_of_ne_zero PA.1) (clD_dvd PA)) EA
        have n1 := pnorm_spec l m (by omega) (by omega) kl
        have n2 := pclear_spec l (tzq (qcs l)) (DD l) (B ^ wt l) (wt l + 1) (by omega) (by omega) PA EA MA n1
        have of1 := pof_spec (clZ (tzq (qcs l))) (wt l + 1) (by omega) (by rw [clZ_len]; omega) (fun i => Nat.lt_of_le_of_lt (clZ_lt PA i) MA)
        have lz : (rof (tzi (clZ (tzq (qcs l))))).length ≤ 40 := by rw [rof_len]; exact Nat.le_trans (tzi_len _) (by rw [clZ_len]; exact lA)
        have cz : Cq (rof (tzi (clZ (tzq (qcs l))))) (wt l + 1) := fun i => by
          rw [rof_get, tzi_cf]
          exact ⟨Nat.lt_of_le_of_lt (show (((clZ (tzq (qcs l))).getD i 0 : Int) : Rat).num.natAbs ≤ _ from clZ_lt PA i) MA, Nat.lt_of_le_of_lt (show (((clZ (tzq (qcs l))).getD i 0 : Int) : Rat).den ≤ B ^ wt l from Nat.pow_pos B0) MA⟩
        have cN := (tcopyN_spec (dg B (clD (tzq (qcs l)))) (by have := dlen Dm; omega)).frozen
        have sc := pscale_spec (nfq (rof (tzi (clZ (tzq (qcs l)))))) false [1] (dg B (clD (tzq (qcs l)))) (wt l + 1) (by omega) (by rw [nfq_len]; omega) (Qk_nfq cz) (Wd_one (by decide)) (Wd_dg _) (by show 1 ≤ _; omega) (dlen Dm) (by rw [nv_dgB]; exact D0)
        rw [qcs_nfq, nv_dgB, show zv false [1] = 1 from rfl, back_law tA D0] at sc
        have hDl : ¬ (((dg B (clD (tzq (qcs l)))).length : Nat) : Int) = 0 := fun h => D0 ((dg_nil (b := B) (by decide)).1 (List.eq_nil_of_length_eq_zero (by omega)))
        have sA := tsameP_spec (nfq (tzq (qcs l))) (wt l + 1) (by omega) (by rw [nfq_len]; omega) (Qk_Ql (Qk_nfq cA))
        have in1 := pinteg_spec l (tzq (qcs l)) (wt l + 1) (by omega) (by omega) cA n1
        have cI := integ_size cA (by omega) (by omega)
        have lI : (if (tzq (qcs l)).length = 0 then [] else inq (tzq (qcs l))).length ≤ 41 := by
          split
          · exact Nat.zero_le _
          · rw [inq_len]; omega
        have nI := pnorm_spec (nfq (if (tzq (qcs l)).length = 0 then [] else inq (tzq (qcs l)))) (wt l + 1 + 1 + (wt l + 1 + 1)) (by omega) (by rw [nfq_len]; omega) (Qk_nfq cI)
        rw [qcs_nfq] at nI
        have dr1 := pderiv_spec (nfq (if (tzq (qcs l)).length = 0 then [] else inq (tzq (qcs l)))) _ (wt l + 1 + 1 + (wt l + 1 + 1)) (by omega) (Nat.le_trans (tzq_len _) (by omega)) (Cq_tzq cI) nI
        rw [integ_law tA] at dr1
        have k1 := pnorm_spec k m (by omega) (by omega) kk
        have zA := QC_len (tzq (qcs l))
        have zC := QC_len (tzq (qcs k))
        have dC : (tzq (qcs k)).length * 3 / 3 = (tzq (qcs k)).length := by omega
        clear nI cI lI cz lz EA MA x1 x2 x3
        by_cases c0 : (tzq (qcs k)).length = 0
        · have cI : (((tzq (qcs k)).length : Nat) : Int) = 0 := by omega
          have bo := pboth_spec l k m (by omega) (by omega) (by omega) kl kk
          rw [show tzq (qcs k) = [] from List.eq_nil_of_length_eq_zero c0, show RC (nfq []) = [] from rfl] at bo
          have dv := pdiv_0 l k (tzq (qcs l)) bo
          clear bo
          generalize (if (tzq (qcs l)).length = 0 then [] else inq (tzq (qcs l))) = I at *
          generalize rof (tzi (clZ (tzq (qcs l)))) = RZ at *
          generalize clZ (tzq (qcs l)) = Z at *
          generalize clD (tzq (qcs l)) = D at *
          generalize tzq (qcs l) = A at *
          generalize tzq (qcs k) = C at *
          exact wdQ (ai @cI (ai @dC (ai @zC (ai @hDl (ai @v1 (ai @v0 @bz_QP9))))))
        · have cI : ¬ (((tzq (qcs k)).length : Nat) : Int) = 0 := by omega
          obtain ⟨L, hBy, hDv, hsz⟩ := div_law kl kk ll lk hT2 (by omega)
          have lC : (tzq (qcs k)).length ≤ 40 := Nat.le_trans (tzq_len _) (by rw [qcs_len]; exact lk)
          obtain ⟨MM, hMM⟩ : ∃ MM, MM = 41 * 1048576 + 42 := ⟨_, rfl⟩
          rw [← hMM] at hsz
          obtain ⟨y1, y2, y3⟩ := raw_PB kk
          have PC : PB (tzq (qcs k)) (DD k) (B ^ wt k) := ⟨y1, fun i => by rw [tzq_cf]; exact y3 i⟩
          have EC : DD k < B ^ MM := B_lt y2 (by omega)
          have MC : B ^ wt k < B ^ MM := B_lt (Nat.le_refl _) (by omega)
          have dv := pdiv_spec l k (tzq (qcs l)) (tzq (qcs k)) (DD l) (B ^ wt l) L (DD k) (B ^ wt k) MM 40 (by omega) (by omega) (by omega) hBy hDv (by omega) (fun j hj => ⟨(hsz j hj).1, (hsz j hj).2.1, (hsz j hj).2.2.1, (hsz j hj).2.2.2.1⟩) (PB_Cq PC EC MC) (pboth_to l k m (by omega) (by omega) (by omega) kl kk)
          obtain ⟨j, f1, f2, f3⟩ := dvl_spec hBy ((tzq (qcs l)).length + 1) _ _ 0 hDv (by omega)
          obtain ⟨h1, h2, h3, h4, h5⟩ := hsz j (by omega)
          generalize dvl (tzq (qcs k)) ((tzq (qcs l)).length + 1) (tzq (qcs l)) (List.replicate ((tzq (qcs l)).length + 1 - (tzq (qcs k)).length) 0) = F at *
          obtain ⟨quo, rem⟩ := F
          simp only at dv f1 f2 f3
          have lq : quo.length ≤ 41 := by rw [f1.hl]; omega
          have cr := PB_Cq f1.hr h1 h2
          have PQ := PB_tzq f1.hq
          have cq := PB_Cq PQ h1 h3
          have lqt := Nat.le_trans (tzq_len quo) lq
          have e : ∀ i, (mulq (tzq quo) (tzq (qcs k))).getD i 0 = (tzq (qcs l)).getD i 0 - rem.getD i 0 := fun i => by
            rw [mulq_cf, f1.he i, cvq_congr (fun u => tzq_cf quo u) (fun u => rfl)]; grind
          have cm : Cq (mulq (tzq quo) (tzq (qcs k))) MM := fun i => by
            rw [e]
            have hLj : L ^ j ≠ 0 := Nat.pos_iff_ne_zero.1 (Nat.pow_pos (Nat.pos_of_ne_zero hBy.L0))
            have q1 := Fq_sz f1.hr.1 (Fq_sub (Fq_up PA.1 hLj (PA.2 i)) (f1.hr.2 i))
            exact ⟨Nat.lt_of_le_of_lt q1.1 h5, Nat.lt_of_le_of_lt q1.2.1 h1⟩
          have bo := pboth_spec (nfq (tzq quo)) k MM (by omega) (by rw [nfq_len]; omega) (by omega) (Qk_nfq cq) (Qk_up kk (by omega))
          rw [qcs_nfq, tzq_idem] at bo
          have mu := pmul_spec (nfq (tzq quo)) k (tzq quo) (tzq (qcs k)) (mulq (tzq quo) (tzq (qcs k))) _ _ (DD k) (B ^ wt k) MM (by omega) (tzq_idem _) (tzq_idem _) (by omega) (by omega) PQ PC h1 h3 EC MC (Cq_up cm (by omega)) (fun i => mulq_cf _ _ i) bo
          have hcc : ∀ M9, wt l + 1 ≤ M9 → Cq (eaq (fun x y => x + y) (qcs (nfq (tzq (mulq (tzq quo) (tzq (qcs k)))))) (qcs (nfq rem))) M9 := fun M9 h9 i => by
            rw [eaq_cf _ (by grind), qcs_nfq, qcs_nfq, tzq_cf, e, show (tzq (qcs l)).getD i 0 - rem.getD i 0 + rem.getD i 0 = (tzq (qcs l)).getD i 0 from by grind]
            exact Cq_up cA h9 i
          have ad := padd_spec (nfq (tzq (mulq (tzq quo) (tzq (qcs k))))) (nfq rem) MM (by omega) (by rw [nfq_len]; refine Nat.le_trans (tzq_len _) ?_; unfold mulq; simp; omega) (by rw [nfq_len]; omega) (Qk_nfq (Cq_tzq cm)) (Qk_nfq cr) (hcc 49000000 (by omega))
          rw [qcs_nfq, qcs_nfq, show tzq (eaq (fun x y => x + y) (tzq (mulq (tzq quo) (tzq (qcs k)))) rem) = tzq (qcs l) from tzq_eq (tzq_idem _) tA fun i => by
            rw [tzq_cf, eaq_cf _ (by grind), tzq_cf, e]; grind] at ad
          have cR := tcopyP_spec (nfq rem) MM (by omega) (by rw [nfq_len]; omega) (Qk_Ql (Qk_nfq cr))
          have zR := QC_len rem
          have dR : rem.length * 3 / 3 = rem.length := by omega
          have hlt : (rem.length : Int) < (((tzq (qcs k)).length : Nat) : Int) := by omega
          clear hcc bo cm e cq cr PQ h1 h2 h3 h4 h5 hsz hDv hBy f1 f3 PC EC MC y1 y2 y3
          generalize tzq (mulq (tzq quo) (tzq (qcs k))) = PR at *
          generalize tzq quo = QU at *
          generalize (if (tzq (qcs l)).length = 0 then [] else inq (tzq (qcs l))) = I at *
          generalize rof (tzi (clZ (tzq (qcs l)))) = RZ at *
          generalize clZ (tzq (qcs l)) = Z at *
          generalize clD (tzq (qcs l)) = D at *
          generalize tzq (qcs l) = A at *
          generalize tzq (qcs k) = C at *
          exact wdQ (ai @hlt (ai @dR (ai @zR (ai @cI (ai @dC (ai @zC (ai @hDl (ai @v1 (ai @v0 @bz_QP9)))))))))
      · have b1 := pmul_bad l k (pboth_bad2 l k m (by omega) (by omega) (by omega) kl hk e2)
        rw [decide_eq_true e1] at m1
        rw [decide_eq_false (by omega)] at m2
        exact wdQ (ai @v1 (ai @v0 @bz_QP9))
    · have b1 := pmul_bad l k (pboth_bad1 l k m (by omega) (by omega) hl e1)
      rw [decide_eq_false (by omega)] at m1
      exact wdQ (ai @v1 (ai @v0 @bz_QP9))
  · intro r' ph
    have f0 : 40 < l0.length → r40 l0 = l0.take 40 := fun h => if_pos h
    have f1 : 40 < k0.length → r40 k0 = k0.take 40 := fun h => if_pos h
    have g0 : ¬ 40 < l0.length → r40 l0 = l0 := fun h => if_neg h
    have g1 : ¬ 40 < k0.length → r40 k0 = k0 := fun h => if_neg h
    by_cases a0 : (40 : Int) < (l0.length : Int) <;> by_cases a1 : (40 : Int) < (k0.length : Int)
    all_goals
      first | rw [f0 (by omega)] at ph | rw [g0 (by omega)] at ph
      first | rw [f1 (by omega)] at ph | rw [g1 (by omega)] at ph
      refine smQ (ai @a0 @bz_QP9) ?_
      refine spQ (ai @t1 (ai @t0 (ai @hd1 (ai @hd0 (ai @hz1 (ai @hz0 (ai @a1 (ai @a0 @bz_QP9)))))))) ?_
      refine ph _ ?_
      exact ⟨rfl, rfl⟩
end Go.Proofs.YtbkpaeejjepnpaaGreat
