/-
  QqField: the law's walk.
-/
import Derived.Test.YtlhadigkmlldeaaGreatDoorLQTk
import Derived.Test.YtlhadigkmlldeaaGreatDoorQE
namespace Go.Proofs.YtlhadigkmlldeaaGreatDoor
open Go Go.RowKit Ab
set_option linter.unusedSimpArgs false
set_option linter.unusedVariables false
set_option maxHeartbeats 10000000
theorem bz_LQField : type_of% (And.intro @RC_nf (And.intro @W_len (And.intro @D_len (And.intro @Nat.div_one (And.intro @Nat.mul_one (And.intro @tn_nat (And.intro @W_nf (And.intro @D_nf (And.intro @W_nil (And.intro @D_nil (And.intro @wi (And.intro @nf_g (And.intro @Bool.false_and (@W_cell)))))))))))))) := And.intro @RC_nf (And.intro @W_len (And.intro @D_len (And.intro @Nat.div_one (And.intro @Nat.mul_one (And.intro @tn_nat (And.intro @W_nf (And.intro @D_nf (And.intro @W_nil (And.intro @D_nil (And.intro @wi (And.intro @nf_g (And.intro @Bool.false_and (@W_cell)))))))))))))

theorem fewL_ok {l : List (Bool × List Nat × List Nat)} (h : ∀ p, p ∈ l → Wd p.2.1 ∧ Wd p.2.2) : LOk (fewL l) := fun p hp => by
  unfold fewL at hp
  obtain ⟨q, hq, rfl⟩ := List.mem_map.1 hp
  obtain ⟨w1, w2⟩ := h q (List.mem_of_mem_take hq)
  exact ⟨Wd_take w1 12, Wd_take w2 12, by simp only [few3, List.length_take]; omega, by simp only [few3, List.length_take]; omega⟩
theorem fewL_len (l : List (Bool × List Nat × List Nat)) : (fewL l).length ≤ 30 := by
  unfold fewL; rw [List.length_map, List.length_take]; omega
theorem RC_snoc {l : List (Bool × List Nat × List Nat)} {i : Nat} (h : i < l.length) : RC (l.take i) ++ [.b (l.getD i nul3).1, .l 1 (W (l.getD i nul3).2.1), .l 1 (W (l.getD i nul3).2.2)] = RC (l.take (i + 1)) := by
  have hgi : l.getD i nul3 = l[i] := by simp [List.getD_eq_getElem?_getD, h]
  rw [List.take_succ_eq_append_getElem h, RC_app, hgi]; rfl
-- surd/surdlaw08.QqField
def a7 : AC := .seq (.reg [qr 1 (.bx 30 (.t 0)),
 qr 2 (.mv (.k (.b false)))])
 (.seq (.seq (.reg [qr 9 (.call 9 []),
 qr 10 (.un .not (.t 9))])
 (.cond (.t 10)
 (.seq (.reg [qr 2 (.mv (.k (.b false)))])
 (.ret))
 (.skip)))
 (.seq (.reg [qr 11 (.ld true 18 (.t 1)),
 qr 12 (.call 10 [(1, (.t 11))]),
 qn (.st 18 (.t 1) (.t 12))])
 (.seq (.dreg [qr 14 (.fad 0 (.t 1)),
 qr 15 (.ld true 3 (.t 14)),
 qr 16 (.call 23 [(1, (.t 15))]),
 qr 17 (.fad 3 (.t 1)),
 qr 18 (.ld true 3 (.t 17)),
 qr 19 (.call 23 [(1, (.t 18))]),
 qr 20 (.call 40 [(1, (.t 16)), (1, (.t 19))]),
 qm 13 20,
 qr 21 (.ext (.t 13) 0),
 qr 22 (.ext (.t 13) 1),
 qr 3 (.al 27 [(.b false), (.l 1 []), (.l 1 [])]),
 qn (.st 3 (.t 3) (.t 21)),
 qm 4 22])
 (.seq (.reg [qr 24 (.fad 0 (.t 1)),
 qr 25 (.ld true 3 (.t 24)),
 qr 26 (.fad 3 (.t 1)),
 qr 27 (.ld true 3 (.t 26)),
 qr 28 (.call 54 [(1, (.t 25)), (1, (.t 27))]),
 qm 23 28,
 qr 29 (.ext (.t 23) 0),
 qr 30 (.ext (.t 23) 1),
 qr 5 (.al 27 [(.b false), (.l 1 []), (.l 1 [])]),
 qn (.st 3 (.t 5) (.t 29)),
 qm 6 30])
 (.seq (.seq (.reg [qr 31 (.ld true 3 (.t 3)),
 qr 32 (.ld true 3 (.t 5)),
 qm 33 4,
 qm 34 6,
 qr 35 (.call 27 [(1, (.t 31)), (1, (.t 32)), (1, (.t 33)), (1, (.t 34))]),
 qr 36 (.un .not (.t 35))])
 (.cond (.t 36)
 (.seq (.reg [qr 2 (.mv (.k (.b false)))])
 (.ret))
 (.skip)))
 (.seq (.dreg [qr 38 (.fad 0 (.t 1)),
 qr 39 (.ld true 3 (.t 38)),
 qr 40 (.call 23 [(1, (.t 39))]),
 qr 41 (.fad 3 (.t 1)),
 qr 42 (.ld true 3 (.t 41)),
 qr 43 (.call 23 [(1, (.t 42))]),
 qr 44 (.call 41 [(1, (.t 40)), (1, (.t 43))]),
 qm 37 44,
 qr 45 (.ext (.t 37) 0),
 qr 46 (.ext (.t 37) 1),
 qn (.st 3 (.t 3) (.t 45)),
 qm 4 46])
 (.seq (.reg [qr 48 (.fad 0 (.t 1)),
 qr 49 (.ld true 3 (.t 48)),
 qr 50 (.fad 3 (.t 1)),
 qr 51 (.ld true 3 (.t 50)),
 qr 52 (.call 55 [(1, (.t 49)), (1, (.t 51))]),
 qm 47 52,
 qr 53 (.ext (.t 47) 0),
 qr 54 (.ext (.t 47) 1),
 qn (.st 3 (.t 5) (.t 53)),
 qm 6 54])
 (.seq (.seq (.reg [qr 55 (.ld true 3 (.t 3)),
 qr 56 (.ld true 3 (.t 5)),
 qm 57 4,
 qm 58 6,
 qr 59 (.call 27 [(1, (.t 55)), (1, (.t 56)), (1, (.t 57)), (1, (.t 58))]),
 qr 60 (.un .not (.t 59))])
 (.cond (.t 60)
 (.seq (.reg [qr 2 (.mv (.k (.b false)))])
 (.ret))
 (.skip)))
 (.seq (.dreg [qr 62 (.fad 0 (.t 1)),
 qr 63 (.ld true 3 (.t 62)),
 qr 64 (.call 23 [(1, (.t 63))]),
 qr 65 (.fad 3 (.t 1)),
 qr 66 (.ld true 3 (.t 65)),
 qr 67 (.call 23 [(1, (.t 66))]),
 qr 68 (.call 43 [(1, (.t 64)), (1, (.t 67))]),
 qm 61 68,
 qr 69 (.ext (.t 61) 0),
 qr 70 (.ext (.t 61) 1),
 qn (.st 3 (.t 3) (.t 69)),
 qm 4 70])
 (.seq (.reg [qr 72 (.fad 0 (.t 1)),
 qr 73 (.ld true 3 (.t 72)),
 qr 74 (.fad 3 (.t 1)),
 qr 75 (.ld true 3 (.t 74)),
 qr 76 (.call 56 [(1, (.t 73)), (1, (.t 75))]),
 qm 71 76,
 qr 77 (.ext (.t 71) 0),
 qr 78 (.ext (.t 71) 1),
 qn (.st 3 (.t 5) (.t 77)),
 qm 6 78])
 (.seq (.seq (.reg [qr 79 (.ld true 3 (.t 3)),
 qr 80 (.ld true 3 (.t 5)),
 qm 81 4,
 qm 82 6,
 qr 83 (.call 27 [(1, (.t 79)), (1, (.t 80)), (1, (.t 81)), (1, (.t 82))]),
 qr 84 (.un .not (.t 83))])
 (.cond (.t 84)
 (.seq (.reg [qr 2 (.mv (.k (.b false)))])
 (.ret))
 (.skip)))
 (.seq (.dreg [qr 86 (.fad 0 (.t 1)),
 qr 87 (.ld true 3 (.t 86)),
 qr 88 (.call 23 [(1, (.t 87))]),
 qr 89 (.fad 3 (.t 1)),
 qr 90 (.ld true 3 (.t 89)),
 qr 91 (.call 23 [(1, (.t 90))]),
 qr 92 (.call 53 [(1, (.t 88)), (1, (.t 91))]),
 qm 85 92,
 qr 93 (.ext (.t 85) 0),
 qr 94 (.ext (.t 85) 1),
 qn (.st 3 (.t 3) (.t 93)),
 qm 4 94])
 (.seq (.reg [qr 96 (.fad 0 (.t 1)),
 qr 97 (.ld true 3 (.t 96)),
 qr 98 (.fad 3 (.t 1)),
 qr 99 (.ld true 3 (.t 98)),
 qr 100 (.call 57 [(1, (.t 97)), (1, (.t 99))]),
 qm 95 100,
 qr 101 (.ext (.t 95) 0),
 qr 102 (.ext (.t 95) 1),
 qn (.st 3 (.t 5) (.t 101)),
 qm 6 102])
 (.seq (.seq (.reg [qr 103 (.ld true 3 (.t 3)),
 qr 104 (.ld true 3 (.t 5)),
 qm 105 4,
 qm 106 6,
 qr 107 (.call 27 [(1, (.t 103)), (1, (.t 104)), (1, (.t 105)), (1, (.t 106))]),
 qr 108 (.un .not (.t 107))])
 (.cond (.t 108)
 (.seq (.reg [qr 2 (.mv (.k (.b false)))])
 (.ret))
 (.skip)))
 (.seq (.reg [qr 110 (.fad 0 (.t 1)),
 qr 111 (.ld true 3 (.t 110)),
 qr 112 (.call 23 [(1, (.t 111))]),
 qr 113 (.call 58 [(1, (.t 112))]),
 qm 109 113,
 qr 114 (.ext (.t 109) 0),
 qr 115 (.ext (.t 109) 1),
 qn (.st 3 (.t 3) (.t 114)),
 qm 4 115])
 (.seq (.reg [qr 117 (.fad 0 (.t 1)),
 qr 118 (.ld true 3 (.t 117)),
 qr 119 (.call 59 [(1, (.t 118))]),
 qm 116 119,
 qr 120 (.ext (.t 116) 0),
 qr 121 (.ext (.t 116) 1),
 qn (.st 3 (.t 5) (.t 120)),
 qm 6 121])
 (.seq (.seq (.reg [qr 122 (.ld true 3 (.t 3)),
 qr 123 (.ld true 3 (.t 5)),
 qm 124 4,
 qm 125 6,
 qr 126 (.call 27 [(1, (.t 122)), (1, (.t 123)), (1, (.t 124)), (1, (.t 125))]),
 qr 127 (.un .not (.t 126))])
 (.cond (.t 127)
 (.seq (.reg [qr 2 (.mv (.k (.b false)))])
 (.ret))
 (.skip)))
 (.seq (.dreg [qr 129 (.fad 0 (.t 1)),
 qr 130 (.ld true 3 (.t 129)),
 qr 131 (.call 23 [(1, (.t 130))]),
 qr 132 (.fad 13 (.t 1)),
 qr 133 (.ld false 1 (.t 132)),
 qr 134 (.call 60 [(1, (.t 133))]),
 qr 135 (.call 51 [(1, (.t 131)), (1, (.t 134))]),
 qm 128 135,
 qr 136 (.ext (.t 128) 0),
 qr 137 (.ext (.t 128) 1),
 qn (.st 3 (.t 3) (.t 136)),
 qm 4 137])
 (.seq (.dreg [qr 139 (.fad 0 (.t 1)),
 qr 140 (.ld true 3 (.t 139)),
 qr 141 (.fad 13 (.t 1)),
 qr 142 (.ld false 1 (.t 141)),
 qr 143 (.call 60 [(1, (.t 142))]),
 qr 144 (.call 61 [(1, (.t 140)), (1, (.t 143))]),
 qm 138 144,
 qr 145 (.ext (.t 138) 0),
 qr 146 (.ext (.t 138) 1),
 qn (.st 3 (.t 5) (.t 145)),
 qm 6 146])
 (.seq (.seq (.reg [qr 147 (.ld true 3 (.t 3)),
 qr 148 (.ld true 3 (.t 5)),
 qm 149 4,
 qm 150 6,
 qr 151 (.call 27 [(1, (.t 147)), (1, (.t 148)), (1, (.t 149)), (1, (.t 150))]),
 qr 152 (.un .not (.t 151))])
 (.cond (.t 152)
 (.seq (.reg [qr 2 (.mv (.k (.b false)))])
 (.ret))
 (.skip)))
 (.seq (.reg [qr 7 (.mv (.k .nl))])
 (.seq (.seq (.reg [qr 8 (.mv (.k (.i .i64 0)))])
 (.blk 0
 (.loop
 (.seq (.seq (.reg [qm 153 8,
 qr 154 (.fad 16 (.t 1)),
 qr 155 (.ld false 1 (.t 154)),
 qr 156 (.len (.t 155)),
 qr 157 (.bin .lss (.t 153) (.t 156))])
 (.cond (.t 157)
 (.skip)
 (.exit 0)))
 (.seq (.blk 1
 (.reg [qm 160 7,
 qr 161 (.fad 16 (.t 1)),
 qr 162 (.ld false 1 (.t 161)),
 qm 163 8,
 qr 164 (.idx 3 (.t 162) (.t 163)),
 qr 165 (.ld true 3 (.t 164)),
 qr 166 (.call 23 [(1, (.t 165))]),
 qr 167 (.bsl 27 3 1 [(.b false), (.l 1 []), (.l 1 [])] [(0, (.t 166))]),
 qr 168 (.app 27 3 56 (.t 160) (.t 167)),
 qm 7 168]))
 (.reg [qm 158 8,
 qr 159 (.bin .add (.t 158) (.k (.i .i64 1))),
 qm 8 159]))))))
 (.seq (.reg [qm 170 7,
 qr 171 (.call 48 [(3, (.t 170))]),
 qm 169 171,
 qr 172 (.ext (.t 169) 0),
 qr 173 (.ext (.t 169) 1),
 qn (.st 3 (.t 3) (.t 172)),
 qm 4 173])
 (.seq (.reg [qr 175 (.fad 16 (.t 1)),
 qr 176 (.ld false 1 (.t 175)),
 qr 177 (.call 62 [(3, (.t 176))]),
 qm 174 177,
 qr 178 (.ext (.t 174) 0),
 qr 179 (.ext (.t 174) 1),
 qn (.st 3 (.t 5) (.t 178)),
 qm 6 179])
 (.seq (.reg [qr 180 (.ld true 3 (.t 3)),
 qr 181 (.ld true 3 (.t 5)),
 qm 182 4,
 qm 183 6,
 qr 184 (.call 27 [(1, (.t 180)), (1, (.t 181)), (1, (.t 182)), (1, (.t 183))]),
 qm 2 184])
 (.ret))))))))))))))))))))))))))
theorem qqField_spec (s0 s1 s2 s3 s4 : Bool) (aa0 d0 aa1 d1 aa2 d2 aa3 aa4 : List Nat) (n m k : Int) (l : List (Bool × List Nat × List Nat)) (st : List UInt8)
    (wa0 : Wd aa0) (wd0 : Wd d0) (wa1 : Wd aa1) (wd1 : Wd d1) (n1 : -9223372036854775808 ≤ n) (n2 : n < 9223372036854775808) (wl : ∀ p, p ∈ l → Wd p.2.1 ∧ Wd p.2.2) :
    AFun Tryz.prog J0 7 [caseV s0 s1 s2 s3 s4 aa0 d0 aa1 d1 aa2 d2 aa3 aa4 n m k l st] (.b true) := by
  have hl := lless_spec s0 s1 s2 s3 s4 aa0 d0 aa1 d1 aa2 d2 aa3 aa4 n m k l st
  have lok := fewL_ok wl
  have llen := fewL_len l
  obtain ⟨b0, e, vb0, lb0⟩ := take12 wa0; rw [e] at hl
  obtain ⟨e0, e, ve0, le0⟩ := take12 wd0; rw [e] at hl
  obtain ⟨b1, e, vb1, lb1⟩ := take12 wa1; rw [e] at hl
  obtain ⟨e1, e, ve1, le1⟩ := take12 wd1; rw [e] at hl
  generalize aa2.take 12 = b2 at *
  generalize d2.take 12 = e2 at *
  generalize aa3.take 12 = b3 at *
  generalize aa4.take 12 = b4 at *
  generalize fewL l = ls at *
  clear wa0 wd0 wa1 wd1 wl e
  have cA := lc_spec s0 b0 e0 (by omega) (by omega)
  have cB := lc_spec s1 b1 e1 (by omega) (by omega)
  have z0 := zv_lt (s := s0) vb0 lb0
  have z1 := zv_lt (s := s1) vb1 lb1
  have y0 := nvlt ve0 le0
  have y1 := nvlt ve1 le1
  have p1 := qadd_spec s0 s1 b0 b1 e0 e1 12 (by decide) vb0 vb1 ve0 ve1 lb0 lb1 le0 le1
  have p2 := rAdd_spec s0 s1 b0 b1 e0 e1 12 (by decide) vb0 vb1 ve0 ve1 lb0 lb1 le0 le1
  have bm : (nv B e0 * nv B e1) < B ^ 25 := pup (mulN_lt y0 y1) (by decide)
  have bs : (zv s0 b0 * (nv B e1 : Int)).natAbs < B ^ 24 := mul_lt z0 y1
  have bt : (zv s1 b1 * (nv B e0 : Int)).natAbs < B ^ 24 := mul_lt z1 y0
  obtain ⟨ps, pa, pd, ev, _, _, pl, pm⟩ := RV_rv (Nat.lt_of_le_of_lt (Int.natAbs_add_le _ _) (padd bs bt)) bm
  rw [ev] at p1 p2
  have p3 := lsame_true ps pa pd (by omega) (by omega) (re (nv B e0 * nv B e1))
  have q1 := qsub_spec s0 s1 b0 b1 e0 e1 12 (by decide) vb0 vb1 ve0 ve1 lb0 lb1 le0 le1
  have q2 := rSub_spec s0 s1 b0 b1 e0 e1 12 (by decide) vb0 vb1 ve0 ve1 lb0 lb1 le0 le1
  obtain ⟨qs, qa, qd, ev, _, _, ql, qmm⟩ := RV_rv (Nat.lt_of_le_of_lt (Int.natAbs_sub_le _ _) (padd bs bt)) bm
  rw [ev] at q1 q2
  have q3 := lsame_true qs qa qd (by omega) (by omega) (re (nv B e0 * nv B e1))
  have r1 := qmul_spec s0 s1 b0 b1 e0 e1 12 (by decide) vb0 vb1 ve0 ve1 lb0 lb1 le0 le1
  have r2 := rMul_spec s0 s1 b0 b1 e0 e1 12 (by decide) vb0 vb1 ve0 ve1 lb0 lb1 le0 le1
  obtain ⟨rs, ra, rd, ev, _, _, rl, rm⟩ := RV_rv (pup (mul_lt z0 z1) (by decide : 12 + 12 ≤ 25)) bm
  rw [ev] at r1 r2
  have r3 := lsame_true rs ra rd (by omega) (by omega) (re (nv B e0 * nv B e1))
  have t1 := qquoA_spec s0 s1 b0 b1 e0 e1 12 (by decide) vb0 vb1 ve0 ve1 lb0 lb1 le0 le1
  have t2 := rQuo_spec s0 s1 b0 b1 e0 e1 12 (by decide) vb0 vb1 ve0 ve1 lb0 lb1 le0 le1
  obtain ⟨ts, ta, td, ev, _, _, tl, tm⟩ := RV_qv z0 z1 y0 y1
  rw [ev] at t1 t2
  have t3 := lsame_true ts ta td (by omega) (by omega) (qe (nv B e0) (zv s1 b1) (nv B e1))
  have u1 := qneg_spec s0 b0 e0 12 (by decide) vb0 ve0 lb0 le0
  have u2 := rNeg_spec s0 b0 e0 12 (by decide) vb0 ve0 lb0 le0
  obtain ⟨us, ua, ud, ev, _, _, ul, um⟩ := RV_rv (z := -(zv s0 b0)) (by rw [Int.natAbs_neg]; exact z0) y0
  rw [ev] at u1 u2
  have u3 := lsame_true us ua ud (by omega) (by omega) (re (nv B e0))
  have np := lpower_spec n n1 n2
  have hpw := pw_small n
  have v1 := qpow_spec s0 b0 e0 (pw n) 12 120 (by decide) (by decide) vb0 ve0 lb0 le0 hpw
  have v2 := rpow_spec s0 b0 e0 (pw n) 12 120 (by decide) (by decide) vb0 ve0 lb0 le0 hpw
  have v0 : ∃ (s : Bool) (a d : List Nat), pV (zv s0 b0) (nv B e0) (pw n) = rL s a d ∧ a.length ≤ 1000000 ∧ d.length ≤ 1000000 := by
    by_cases hr : pw n < -4096 ∨ 4096 < pw n
    · unfold pV
      rw [if_pos (.inr hr)]
      exact ⟨false, [], [], rfl, Nat.zero_le _, Nat.zero_le _⟩
    · obtain ⟨s, a, d, ev, _, _, h1, h2⟩ := RV_pV (n := pw n) z0 y0 (by decide)
      exact ⟨s, a, d, ev, by omega, by omega⟩
  obtain ⟨vs, va, vd, ev, vl, vm⟩ := v0
  rw [ev] at v1 v2
  have v3 := lsame_true vs va vd (by omega) (by omega) (pE (zv s0 b0) (nv B e0) (pw n))
  have x1 := qsum_spec ls (by omega) lok
  have x2 := rsum_spec ls (by omega) lok
  obtain ⟨xs, xa, xd, ev, _, _, xl, xm⟩ := RV_sumV lok
  rw [ev] at x1 x2
  have x3 := lsame_true xs xa xd (by omega) (by omega) (ce ls)
  have cL : ∀ i, i < ls.length → AFun Tryz.prog J0 23 [rL (ls.getD i nul3).1 (ls.getD i nul3).2.1 (ls.getD i nul3).2.2] (rL (ls.getD i nul3).1 (ls.getD i nul3).2.1 (ls.getD i nul3).2.2) := fun i hi => by
    obtain ⟨_, _, h1, h2⟩ := lok _ (getD_mem hi)
    exact lc_spec _ _ _ (by omega) (by omega)
  clear ev bm bs bt hpw lok
  generalize pE (zv s0 b0) (nv B e0) (pw n) = y2 at *
  generalize qe (nv B e0) (zv s1 b1) (nv B e1) = y3 at *
  generalize re (nv B e0 * nv B e1) = y4 at *
  generalize re (nv B e0) = y5 at *
  generalize pw n = y6 at *
  generalize ce ls = y7 at *
  have hf := lfixed_spec
  have hz := RC_len ls
  have hd : ls.length * 3 / 3 = ls.length := by omega
  refine mkQ fol J0s Tryz.func7 a7 ?_
  unfold a7
  simp only [init_eq, initE, qm, qr, qn]
  refine wkQ (ai @hd (ai @hz @bz_LQField)) ?_
  refine vm_loopA [(7, 27, 3)] Nat (fun i => ⟨[(1, .pt 0 0), (3, .pt 1 0), (5, .pt 2 0), (7, .ow 3 3 i), (8, .i .i64 (i : Int))],
      [(0, some ⟨30, 18, [.b s0, .l 1 (W b0), .l 1 (W e0), .b s1, .l 1 (W b1), .l 1 (W e1), .b s2, .l 1 (W b2), .l 1 (W e2), .b s3, .l 1 (W b3), .b s4, .l 1 (W b4), .i .i64 n, .i .i64 m, .i .i64 k, .l 3 (RC ls), .s st], true, true⟩),
       (1, some ⟨27, 3, [.b vs, .l 1 (W va), .l 1 (W vd)], true, true⟩), (2, some ⟨27, 3, [.b vs, .l 1 (W va), .l 1 (W vd)], true, true⟩),
       (3, some ⟨27, 3, RC (ls.take i), true, false⟩)], 4⟩)
    (fun i => i ≤ ls.length) (fun i => ls.length - i) 0 (Nat.zero_le _) (by exact leQ) (by
    exact ltQ) ?_
  intro i hi Q' hQ he hr
  by_cases h : (i : Int) < (ls.length : Int)
  · have row := RC_row ls i (by omega)
    have hap := RC_snoc (l := ls) (i := i) (by omega)
    have l0 := RC_len (ls.take i)
    have l1 := RC_len (ls.take (i + 1))
    rw [List.length_take] at l0 l1
    have hcl := cL i (by omega)
    clear cL
    generalize ls.getD i nul3 = x at *
    refine wkQ (ai @hap (ai @row (ai @hd (ai @hz (ai @h @bz_LQField))))) ?_
    refine hQ _ (i + 1) (by omega) (by omega) ?_
    exact ltQ
  · obtain rfl : i = ls.length := by omega
    rw [List.take_length]
    refine spQ (ai @hd (ai @hz (ai @h @bz_LQField))) ?_
    refine he _ _ ?_
    exact wdQ @bz_LQField
end Go.Proofs.YtlhadigkmlldeaaGreatDoor
