/-
  QqGrids: the law's walk.
-/
import Derived.Test.YtbicpbaciplfcaaGreatDoorQ22
import Derived.Test.YtbicpbaciplfcaaGreatDoorLQTk
namespace Go.Proofs.YtbicpbaciplfcaaGreatDoor
open Go Go.RowKit Ab
set_option linter.unusedSimpArgs false
set_option linter.unusedVariables false
set_option maxHeartbeats 10000000
theorem bz_LQGrids : type_of% (And.intro @W_len (And.intro @D_len (And.intro @Nat.div_one (And.intro @Nat.mul_one (And.intro @tn_nat (And.intro @W_nf (And.intro @D_nf (And.intro @W_nil (And.intro @D_nil (And.intro @wi (And.intro @nf_g (And.intro @Bool.false_and (@W_cell))))))))))))) := And.intro @W_len (And.intro @D_len (And.intro @Nat.div_one (And.intro @Nat.mul_one (And.intro @tn_nat (And.intro @W_nf (And.intro @D_nf (And.intro @W_nil (And.intro @D_nil (And.intro @wi (And.intro @nf_g (And.intro @Bool.false_and (@W_cell))))))))))))
theorem fin_both (s : Bool) (a d : List Nat) (m : Nat) (hm : m ≤ 10000000) (ha : Wd a) (hd : Wd d) (la : a.length ≤ m) (ld : d.length ≤ m) : ∃ x y : Int, AFun Tryz.prog J0 18 [rL s a d] (.t [.i .i64 x, .i .i64 y]) ∧ AFun Tryz.prog J0 19 [rL s a d] (.t [.i .i64 x, .i .i64 y]) := by
  by_cases h0 : nv B d = 0
  · exact ⟨_, _, qfiner_0 s a d m hm hd ld h0, rfiner_0 s a d m hm hd ld h0⟩
  · by_cases hs : 0 < zv s a
    · obtain ⟨k, hk, _⟩ := fin_ex (u := nv B a) (d := nv B d) (fun h => by rw [zv_z.2 h] at hs; omega)
      exact ⟨_, _, qfiner_k s a d k m hm ha hd la ld h0 hs hk, rfiner_k s a d k m hm ha hd la ld h0 hs hk⟩
    · exact ⟨_, _, qfiner_s s a d m hm ha hd la ld h0 (by omega), rfiner_s s a d m hm ha hd la ld h0 (by omega)⟩
def a3 : AC := .seq (.reg [qr 1 (.bx 30 (.t 0)),
 qr 2 (.mv (.k (.b false)))])
 (.seq (.seq (.reg [qr 11 (.call 4 []),
 qr 12 (.un .not (.t 11))])
 (.cond (.t 12)
 (.seq (.reg [qr 2 (.mv (.k (.b false)))])
 (.ret))
 (.skip)))
 (.seq (.reg [qr 13 (.ld true 18 (.t 1)),
 qr 14 (.call 5 [(1, (.t 13))]),
 qn (.st 18 (.t 1) (.t 14))])
 (.seq (.dreg [qr 16 (.fad 0 (.t 1)),
 qr 17 (.ld true 3 (.t 16)),
 qr 18 (.call 7 [(1, (.t 17))]),
 qr 19 (.fad 15 (.t 1)),
 qr 20 (.ld false 1 (.t 19)),
 qr 21 (.call 8 [(1, (.t 20))]),
 qr 22 (.call 6 [(1, (.t 18)), (1, (.t 21))]),
 qm 15 22,
 qr 23 (.ext (.t 15) 0),
 qr 24 (.ext (.t 15) 1),
 qr 3 (.al 25 [(.b false), (.l 1 [])]),
 qn (.st 2 (.t 3) (.t 23)),
 qm 4 24])
 (.seq (.dreg [qr 26 (.fad 0 (.t 1)),
 qr 27 (.ld true 3 (.t 26)),
 qr 28 (.fad 15 (.t 1)),
 qr 29 (.ld false 1 (.t 28)),
 qr 30 (.call 8 [(1, (.t 29))]),
 qr 31 (.call 9 [(1, (.t 27)), (1, (.t 30))]),
 qm 25 31,
 qr 32 (.ext (.t 25) 0),
 qr 33 (.ext (.t 25) 1),
 qr 5 (.al 25 [(.b false), (.l 1 [])]),
 qn (.st 2 (.t 5) (.t 32)),
 qm 6 33])
 (.seq (.seq (.reg [qr 34 (.ld true 2 (.t 3)),
 qr 35 (.ld true 2 (.t 5)),
 qm 36 4,
 qm 37 6,
 qr 38 (.call 10 [(1, (.t 34)), (1, (.t 35)), (1, (.t 36)), (1, (.t 37))]),
 qr 39 (.un .not (.t 38))])
 (.cond (.t 39)
 (.seq (.reg [qr 2 (.mv (.k (.b false)))])
 (.ret))
 (.skip)))
 (.seq (.dreg [qr 41 (.fad 0 (.t 1)),
 qr 42 (.ld true 3 (.t 41)),
 qr 43 (.call 7 [(1, (.t 42))]),
 qr 44 (.fad 15 (.t 1)),
 qr 45 (.ld false 1 (.t 44)),
 qr 46 (.call 8 [(1, (.t 45))]),
 qr 47 (.call 11 [(1, (.t 43)), (1, (.t 46))]),
 qm 40 47,
 qr 48 (.ext (.t 40) 0),
 qr 49 (.ext (.t 40) 1),
 qn (.st 2 (.t 3) (.t 48)),
 qm 4 49])
 (.seq (.dreg [qr 51 (.fad 0 (.t 1)),
 qr 52 (.ld true 3 (.t 51)),
 qr 53 (.fad 15 (.t 1)),
 qr 54 (.ld false 1 (.t 53)),
 qr 55 (.call 8 [(1, (.t 54))]),
 qr 56 (.call 12 [(1, (.t 52)), (1, (.t 55))]),
 qm 50 56,
 qr 57 (.ext (.t 50) 0),
 qr 58 (.ext (.t 50) 1),
 qn (.st 2 (.t 5) (.t 57)),
 qm 6 58])
 (.seq (.seq (.reg [qr 59 (.ld true 2 (.t 3)),
 qr 60 (.ld true 2 (.t 5)),
 qm 61 4,
 qm 62 6,
 qr 63 (.call 10 [(1, (.t 59)), (1, (.t 60)), (1, (.t 61)), (1, (.t 62))]),
 qr 64 (.un .not (.t 63))])
 (.cond (.t 64)
 (.seq (.reg [qr 2 (.mv (.k (.b false)))])
 (.ret))
 (.skip)))
 (.seq (.dreg [qr 66 (.fad 0 (.t 1)),
 qr 67 (.ld true 3 (.t 66)),
 qr 68 (.call 7 [(1, (.t 67))]),
 qr 69 (.fad 3 (.t 1)),
 qr 70 (.ld true 3 (.t 69)),
 qr 71 (.call 7 [(1, (.t 70))]),
 qr 72 (.call 13 [(1, (.t 68)), (1, (.t 71))]),
 qm 65 72,
 qr 73 (.ext (.t 65) 0),
 qr 74 (.ext (.t 65) 1),
 qr 7 (.al 27 [(.b false), (.l 1 []), (.l 1 [])]),
 qn (.st 3 (.t 7) (.t 73)),
 qm 4 74])
 (.seq (.reg [qr 76 (.fad 0 (.t 1)),
 qr 77 (.ld true 3 (.t 76)),
 qr 78 (.fad 3 (.t 1)),
 qr 79 (.ld true 3 (.t 78)),
 qr 80 (.call 14 [(1, (.t 77)), (1, (.t 79))]),
 qm 75 80,
 qr 81 (.ext (.t 75) 0),
 qr 82 (.ext (.t 75) 1),
 qr 8 (.al 27 [(.b false), (.l 1 []), (.l 1 [])]),
 qn (.st 3 (.t 8) (.t 81)),
 qm 6 82])
 (.seq (.seq (.reg [qr 83 (.ld true 3 (.t 7)),
 qr 84 (.ld true 3 (.t 8)),
 qm 85 4,
 qm 86 6,
 qr 87 (.call 15 [(1, (.t 83)), (1, (.t 84)), (1, (.t 85)), (1, (.t 86))]),
 qr 88 (.un .not (.t 87))])
 (.cond (.t 88)
 (.seq (.reg [qr 2 (.mv (.k (.b false)))])
 (.ret))
 (.skip)))
 (.seq (.reg [qr 90 (.fad 0 (.t 1)),
 qr 91 (.ld true 3 (.t 90)),
 qr 92 (.call 7 [(1, (.t 91))]),
 qr 93 (.call 16 [(1, (.t 92))]),
 qm 89 93,
 qr 94 (.ext (.t 89) 0),
 qr 95 (.ext (.t 89) 1),
 qm 9 94,
 qm 4 95])
 (.seq (.reg [qr 97 (.fad 0 (.t 1)),
 qr 98 (.ld true 3 (.t 97)),
 qr 99 (.call 17 [(1, (.t 98))]),
 qm 96 99,
 qr 100 (.ext (.t 96) 0),
 qr 101 (.ext (.t 96) 1),
 qm 10 100,
 qm 6 101])
 (.seq (.seq (.reg [qm 102 9,
 qm 103 10,
 qr 104 (.bin .neq (.t 102) (.t 103)),
 qm 105 104,
 ⟨some 106, some (105, false), .mv (.t 4)⟩,
 ⟨some 107, some (105, false), .mv (.t 6)⟩,
 ⟨some 108, some (105, false), .bin .neq (.t 106) (.t 107)⟩,
 qr 109 (.pick (.t 105) (.k (.b true)) (.t 108))])
 (.cond (.t 109)
 (.seq (.reg [qr 2 (.mv (.k (.b false)))])
 (.ret))
 (.skip)))
 (.seq (.reg [qr 111 (.fad 0 (.t 1)),
 qr 112 (.ld true 3 (.t 111)),
 qr 113 (.call 7 [(1, (.t 112))]),
 qr 114 (.call 18 [(1, (.t 113))]),
 qm 110 114,
 qr 115 (.ext (.t 110) 0),
 qr 116 (.ext (.t 110) 1),
 qm 9 115,
 qm 4 116])
 (.seq (.reg [qr 118 (.fad 0 (.t 1)),
 qr 119 (.ld true 3 (.t 118)),
 qr 120 (.call 19 [(1, (.t 119))]),
 qm 117 120,
 qr 121 (.ext (.t 117) 0),
 qr 122 (.ext (.t 117) 1),
 qm 10 121,
 qm 6 122])
 (.seq (.reg [qm 123 9,
 qm 124 10,
 qr 125 (.bin .eql (.t 123) (.t 124)),
 qm 126 125,
 ⟨some 127, some (126, true), .mv (.t 4)⟩,
 ⟨some 128, some (126, true), .mv (.t 6)⟩,
 ⟨some 129, some (126, true), .bin .eql (.t 127) (.t 128)⟩,
 qr 130 (.pick (.t 126) (.t 129) (.k (.b false))),
 qm 2 130])
 (.ret))))))))))))))))))
theorem qqGrids_spec (s0 s1 s2 s3 s4 : Bool) (aa0 d0 aa1 d1 aa2 d2 aa3 aa4 : List Nat) (n m k : Int) (l : List (Bool × List Nat × List Nat)) (st : List UInt8)
    (wa0 : Wd aa0) (wd0 : Wd d0) (wa1 : Wd aa1) (wd1 : Wd d1) (k1 : -9223372036854775808 ≤ k) (k2 : k < 9223372036854775808) :
    AFun Tryz.prog J0 3 [caseV s0 s1 s2 s3 s4 aa0 d0 aa1 d1 aa2 d2 aa3 aa4 n m k l st] (.b true) := by
  have hl := lless_spec s0 s1 s2 s3 s4 aa0 d0 aa1 d1 aa2 d2 aa3 aa4 n m k l st
  obtain ⟨b0, e, vb0, lb0⟩ := take12 wa0; rw [e] at hl
  obtain ⟨e0, e, ve0, le0⟩ := take12 wd0; rw [e] at hl
  obtain ⟨b1, e, vb1, lb1⟩ := take12 wa1; rw [e] at hl
  obtain ⟨e1, e, ve1, le1⟩ := take12 wd1; rw [e] at hl
  generalize aa2.take 12 = b2 at *
  generalize d2.take 12 = e2 at *
  generalize aa3.take 12 = b3 at *
  generalize aa4.take 12 = b4 at *
  generalize fewL l = ls at *
  clear wa0 wd0 wa1 wd1 e
  have hf := lfixed_spec
  have cA := lc_spec s0 b0 e0 (by omega) (by omega)
  have cB := lc_spec s1 b1 e1 (by omega) (by omega)
  have nk := lnear_spec k k1 k2
  have f1 := qfloor_spec s0 b0 e0 (nr k) 16385 (by decide) (by decide) vb0 ve0 (by omega) (by omega)
  have f2 := rFloor_spec s0 b0 e0 (nr k) 16385 (by decide) (by decide) vb0 ve0 (by omega) (by omega)
  have f4 := qceil_spec s0 b0 e0 (nr k) 16385 (by decide) (by decide) vb0 ve0 (by omega) (by omega)
  have f5 := rCeil_spec s0 b0 e0 (nr k) 16385 (by decide) (by decide) vb0 ve0 (by omega) (by omega)
  have bF := glV_abs (d := nv B e0) (k := nr k) (zv_lt (s := s0) vb0 lb0)
  have bC : (-(glV (-(zv s0 b0)) (nv B e0) (nr k))).natAbs < B ^ (12 + 16385) := by
    rw [Int.natAbs_neg]; exact glV_abs (m := 12) (by rw [Int.natAbs_neg]; exact zv_lt vb0 lb0)
  generalize glV (zv s0 b0) (nv B e0) (nr k) = F at *
  generalize -(glV (-(zv s0 b0)) (nv B e0) (nr k)) = C at *
  generalize glE (nv B e0) (nr k) = ee at *
  have f3 := lsameI_true (decide (F < 0)) (dg B F.natAbs) (Nat.le_trans (dlen bF) (by decide)) ee
  have f6 := lsameI_true (decide (C < 0)) (dg B C.natAbs) (Nat.le_trans (dlen bC) (by decide)) ee
  have m1 := qmid_spec s0 s1 b0 b1 e0 e1 12 (by decide) vb0 vb1 ve0 ve1 lb0 lb1 le0 le1
  have m2 := rmid_spec s0 s1 b0 b1 e0 e1 12 (by decide) (by decide) vb0 vb1 ve0 ve1 lb0 lb1 le0 le1
  have bD := mulN_lt (nvlt ve0 le0) (nvlt ve1 le1)
  obtain ⟨us, ua, ud, ev, _, _, ul, um⟩ := RV_rv (z := zv s0 b0 * (nv B e1 : Int) + zv s1 b1 * (nv B e0 : Int)) (d := nv B e0 * nv B e1 * 2) (m := 25) (Nat.lt_of_le_of_lt (Int.natAbs_add_le _ _) (padd (mul_lt (zv_lt vb0 lb0) (nvlt ve1 le1)) (mul_lt (zv_lt vb1 lb1) (nvlt ve0 le0)))) (by rw [Nat.mul_two]; exact padd bD bD)
  rw [ev] at m1 m2
  have m3 := lsame_true us ua ud (by omega) (by omega) (re (nv B e0 * nv B e1 * 2))
  have v1 := qlevel_spec s0 b0 e0 12 (by decide) vb0 ve0 lb0 le0
  have v2 := rlevel_spec s0 b0 e0 12 (by decide) vb0 ve0 lb0 le0
  obtain ⟨x, y, w1, w2⟩ := fin_both s0 b0 e0 12 (by decide) vb0 ve0 lb0 le0
  generalize re (nv B e0 * nv B e1 * 2) = er at *
  generalize lvV (zv s0 b0) (nv B e0) = p at *
  generalize lvE (zv s0 b0) (nv B e0) = q at *
  generalize nr k = kk at *
  refine mkQ fol J0s Tryz.func3 a3 ?_
  unfold a3
  simp only [init_eq, initE, qm, qr, qn]
  have zc1 := w1
  have zc2 := w2
  exact wdQ (ai @eqsA @bz_LQGrids)
end Go.Proofs.YtbicpbaciplfcaaGreatDoor
