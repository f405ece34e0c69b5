/-
  QqBetween: the law's walk.
-/
import Derived.Test.YtlhadigkmlldeaaGreatDoorQO
import Derived.Test.YtlhadigkmlldeaaGreatDoorQ20
import Derived.Test.YtlhadigkmlldeaaGreatDoorLQKn
namespace Go.Proofs.YtlhadigkmlldeaaGreatDoor
open Go Go.RowKit Ab
set_option linter.unusedSimpArgs false
set_option linter.unusedVariables false
set_option maxHeartbeats 10000000
theorem bz_LQBetween : type_of% (And.intro @W_len (And.intro @D_len (And.intro @Nat.div_one (And.intro @Nat.mul_one (And.intro @tn_nat (And.intro @W_nf (And.intro @D_nf (And.intro @W_nil (And.intro @D_nil (And.intro @wi (And.intro @nf_g (And.intro @Bool.false_and (@W_cell))))))))))))) := And.intro @W_len (And.intro @D_len (And.intro @Nat.div_one (And.intro @Nat.mul_one (And.intro @tn_nat (And.intro @W_nf (And.intro @D_nf (And.intro @W_nil (And.intro @D_nil (And.intro @wi (And.intro @nf_g (And.intro @Bool.false_and (@W_cell))))))))))))

theorem rz_neg (x : Int) (d : Nat) : rz (-x) d = -(rz x d) ∧ rden (-x) d = rden x d := by
  have e : rG (-x) d = rG x d := by unfold rG; rw [Int.natAbs_neg]
  unfold rz rden
  rw [e]
  exact ⟨Int.neg_tdiv _ _, rfl⟩
theorem qsimp_e (s t : Bool) (a b d e : List Nat) (m : Nat) (hm : m ≤ 1000000) (ha : Wd a) (hb : Wd b) (hd : Wd d) (he : Wd e) (la : a.length ≤ m) (lb : b.length ≤ m) (ld : d.length ≤ m) (le : e.length ≤ m) (h0 : nv B d * nv B e = 0) :
    AFun Tryz.prog J0 12 [rL s a d, rL t b e] (.t [.g [.b false, .l 1 [], .l 1 []], .i .i64 1]) := by
  have h1 := qcmp_spec s t a b d e m (by omega) ha hb hd he la lb ld le
  rw [if_pos h0, h0, re_0] at h1
  refine mkcQ fol J0s Tryz.func12 a12 [.c 4 true 3, .t 5] ?_
  unfold a12
  simp only [init_eq, initE, qm, qr, qn]
  exact wcQ @bz_LQBetween
theorem qsimp_gt (s t : Bool) (a b d e : List Nat) (m : Nat) (hm : m ≤ 1000000) (ha : Wd a) (hb : Wd b) (hd : Wd d) (he : Wd e) (la : a.length ≤ m) (lb : b.length ≤ m) (ld : d.length ≤ m) (le : e.length ≤ m) (h0 : nv B d * nv B e ≠ 0) (hgt : 0 < cz (zv s a * (nv B e : Int)) (zv t b * (nv B d : Int))) :
    AFun Tryz.prog J0 12 [rL s a d, rL t b e] (.t [.g [.b false, .l 1 [], .l 1 []], .i .i64 7]) := by
  have h1 := qcmp_spec s t a b d e m (by omega) ha hb hd he la lb ld le
  rw [if_neg h0, re_p h0] at h1
  generalize cz (zv s a * (nv B e : Int)) (zv t b * (nv B d : Int)) = c at *
  refine mkcQ fol J0s Tryz.func12 a12 [.c 4 true 3, .t 5] ?_
  unfold a12
  simp only [init_eq, initE, qm, qr, qn]
  exact wcQ (ai @hgt @bz_LQBetween)
theorem mono_f {x y : Int} {e : Nat} (h : x ≤ y) : x * (e : Int) ≤ y * (e : Int) := Int.mul_le_mul_of_nonneg_right h (by omega)
/-- no number of that denominator lies between -/
theorem btw_none {z w : Int} {d e i : Nat} {t : Int × Nat} (hd : d ≠ 0) (he : e ≠ 0) (hs : Smp (rz z d) (rden z d) (rz w e) (rden w e) t) (hi : 1 ≤ i) (hit : i < t.2) : (w * (i : Int)).fdiv (e : Int) < -((-(z * (i : Int))).fdiv (d : Int)) := by
  rcases (by omega : (w * (i : Int)).fdiv (e : Int) < -((-(z * (i : Int))).fdiv (d : Int)) ∨ -((-(z * (i : Int))).fdiv (d : Int)) ≤ (w * (i : Int)).fdiv (e : Int)) with h | h
  · exact h
  · exfalso
    have l1 : (-(z * (i : Int))).fdiv (d : Int) * (d : Int) ≤ -(z * (i : Int)) := by
      rw [Int.fdiv_eq_ediv_of_nonneg _ (Int.natCast_nonneg d)]; exact Int.ediv_mul_le _ (by omega)
    have l2 : (w * (i : Int)).fdiv (e : Int) * (e : Int) ≤ w * (i : Int) := by
      rw [Int.fdiv_eq_ediv_of_nonneg _ (Int.natCast_nonneg e)]; exact Int.ediv_mul_le _ (by omega)
    have l3 := mono_f (e := e) h
    generalize (-(z * (i : Int))).fdiv (d : Int) = L at *
    generalize (w * (i : Int)).fdiv (e : Int) = M at *
    have := hs.mi (-L) i (by omega) ((rz_le z (-L) i hd).2 (by rw [Int.neg_mul]; omega)) ((rz_ge w (-L) i he).2 (by omega))
    omega
-- surd/surdlaw08.QqBetween
def a3 : AC := .seq (.reg [qr 1 (.bx 30 (.t 0)),
 qr 2 (.mv (.k (.b false)))])
 (.seq (.seq (.reg [qr 18 (.call 9 []),
 qr 19 (.un .not (.t 18))])
 (.cond (.t 19)
 (.seq (.reg [qr 2 (.mv (.k (.b false)))])
 (.ret))
 (.skip)))
 (.seq (.reg [qr 20 (.ld true 18 (.t 1)),
 qr 21 (.call 10 [(1, (.t 20))]),
 qn (.st 18 (.t 1) (.t 21))])
 (.seq (.seq (.reg [qr 22 (.fad 0 (.t 1)),
 qr 23 (.ld true 3 (.t 22)),
 qr 24 (.call 11 [(1, (.t 23))]),
 qr 25 (.un .not (.t 24)),
 qm 26 25,
 ⟨some 27, some (26, false), .fad 3 (.t 1)⟩,
 ⟨some 28, some (26, false), .ld true 3 (.t 27)⟩,
 ⟨some 29, some (26, false), .call 11 [(1, (.t 28))]⟩,
 ⟨some 30, some (26, false), .un .not (.t 29)⟩,
 qr 31 (.pick (.t 26) (.k (.b true)) (.t 30))])
 (.cond (.t 31)
 (.seq (.reg [qr 33 (.fad 0 (.t 1)),
 qr 34 (.ld true 3 (.t 33)),
 qr 35 (.fad 3 (.t 1)),
 qr 36 (.ld true 3 (.t 35)),
 qr 37 (.call 12 [(1, (.t 34)), (1, (.t 36))]),
 qm 32 37,
 qr 38 (.ext (.t 32) 0),
 qr 39 (.ext (.t 32) 1),
 qr 3 (.al 27 [(.b false), (.l 1 []), (.l 1 [])]),
 qn (.st 3 (.t 3) (.t 38)),
 qm 4 39])
 (.seq (.reg [qm 40 4,
 qr 41 (.bin .eql (.t 40) (.k (.i .i64 1))),
 qm 2 41])
 (.ret)))
 (.skip)))
 (.seq (.reg [qr 43 (.fad 0 (.t 1)),
 qr 44 (.ld true 3 (.t 43)),
 qr 45 (.fad 3 (.t 1)),
 qr 46 (.ld true 3 (.t 45)),
 qr 47 (.call 13 [(1, (.t 44)), (1, (.t 46))]),
 qm 42 47,
 qr 48 (.ext (.t 42) 0),
 qr 49 (.ext (.t 42) 1),
 qm 5 48,
 qm 6 49])
 (.seq (.reg [qr 51 (.fad 0 (.t 1)),
 qr 52 (.ld true 3 (.t 51)),
 qr 53 (.fad 3 (.t 1)),
 qr 54 (.ld true 3 (.t 53)),
 qr 55 (.call 12 [(1, (.t 52)), (1, (.t 54))]),
 qm 50 55,
 qr 56 (.ext (.t 50) 0),
 qr 57 (.ext (.t 50) 1),
 qr 7 (.al 27 [(.b false), (.l 1 []), (.l 1 [])]),
 qn (.st 3 (.t 7) (.t 56)),
 qm 8 57])
 (.seq (.seq (.reg [qm 58 5,
 qr 59 (.bin .gtr (.t 58) (.k (.i .i64 0)))])
 (.cond (.t 59)
 (.seq (.reg [qm 60 8,
 qr 61 (.bin .eql (.t 60) (.k (.i .i64 7))),
 qm 62 61,
 ⟨some 63, some (62, true), .fad 2 (.t 7)⟩,
 ⟨some 64, some (62, true), .ld false 1 (.t 63)⟩,
 ⟨some 65, some (62, true), .len (.t 64)⟩,
 ⟨some 66, some (62, true), .bin .eql (.t 65) (.k (.i .i64 0))⟩,
 qr 67 (.pick (.t 62) (.t 66) (.k (.b false))),
 qm 2 67])
 (.ret))
 (.skip)))
 (.seq (.reg [qr 69 (.fad 0 (.t 1)),
 qr 70 (.ld true 3 (.t 69)),
 qr 71 (.ld true 3 (.t 7)),
 qr 72 (.call 13 [(1, (.t 70)), (1, (.t 71))]),
 qm 68 72,
 qr 73 (.ext (.t 68) 0),
 qr 74 (.ext (.t 68) 1),
 qm 9 73,
 qm 10 74])
 (.seq (.reg [qr 76 (.ld true 3 (.t 7)),
 qr 77 (.fad 3 (.t 1)),
 qr 78 (.ld true 3 (.t 77)),
 qr 79 (.call 13 [(1, (.t 76)), (1, (.t 78))]),
 qm 75 79,
 qr 80 (.ext (.t 75) 0),
 qr 81 (.ext (.t 75) 1),
 qm 11 80,
 qm 12 81])
 (.seq (.seq (.reg [qm 82 8,
 qr 83 (.bin .neq (.t 82) (.k (.i .i64 0))),
 qm 84 83,
 ⟨some 85, some (84, false), .mv (.t 10)⟩,
 ⟨some 86, some (84, false), .bin .neq (.t 85) (.k (.i .i64 0))⟩,
 qr 87 (.pick (.t 84) (.k (.b true)) (.t 86)),
 qm 88 87,
 ⟨some 89, some (88, false), .mv (.t 12)⟩,
 ⟨some 90, some (88, false), .bin .neq (.t 89) (.k (.i .i64 0))⟩,
 qr 91 (.pick (.t 88) (.k (.b true)) (.t 90)),
 qm 92 91,
 ⟨some 93, some (92, false), .mv (.t 9)⟩,
 ⟨some 94, some (92, false), .bin .gtr (.t 93) (.k (.i .i64 0))⟩,
 qr 95 (.pick (.t 92) (.k (.b true)) (.t 94)),
 qm 96 95,
 ⟨some 97, some (96, false), .mv (.t 11)⟩,
 ⟨some 98, some (96, false), .bin .gtr (.t 97) (.k (.i .i64 0))⟩,
 qr 99 (.pick (.t 96) (.k (.b true)) (.t 98)),
 qm 100 99,
 ⟨some 101, some (100, false), .ld true 3 (.t 7)⟩,
 ⟨some 102, some (100, false), .call 14 [(1, (.t 101))]⟩,
 ⟨some 103, some (100, false), .un .not (.t 102)⟩,
 qr 104 (.pick (.t 100) (.k (.b true)) (.t 103))])
 (.cond (.t 104)
 (.seq (.reg [qr 2 (.mv (.k (.b false)))])
 (.ret))
 (.skip)))
 (.seq (.seq (.reg [qr 13 (.mv (.k (.i .i64 1)))])
 (.blk 0
 (.loop
 (.seq (.seq (.dreg [qm 105 13,
 qr 106 (.bin .leq (.t 105) (.k (.i .i64 60))),
 qm 107 106,
 ⟨some 108, some (107, true), .mv (.t 13)⟩,
 ⟨some 109, some (107, true), .call 16 [(1, (.t 108))]⟩,
 ⟨some 110, some (107, true), .fad 2 (.t 7)⟩,
 ⟨some 111, some (107, true), .ld false 1 (.t 110)⟩,
 ⟨some 112, some (107, true), .call 15 [(1, (.t 109)), (1, (.t 111))]⟩,
 ⟨some 113, some (107, true), .bin .lss (.t 112) (.k (.i .i64 0))⟩,
 qr 114 (.pick (.t 107) (.t 113) (.k (.b false)))])
 (.cond (.t 114)
 (.skip)
 (.exit 0)))
 (.seq (.blk 1
 (.seq (.dreg [qr 118 (.fad 0 (.t 1)),
 qr 119 (.ld true 3 (.t 118)),
 qm 120 13,
 qr 121 (.call 19 [(1, (.t 120)), (1, (.k (.i .i64 1)))]),
 qr 122 (.call 18 [(1, (.t 119)), (1, (.t 121))]),
 qr 123 (.call 17 [(1, (.t 122)), (1, (.k (.i .i64 0)))]),
 qm 117 123,
 qr 124 (.ext (.t 117) 0),
 qr 125 (.ext (.t 117) 1),
 qr 14 (.al 25 [(.b false), (.l 1 [])]),
 qn (.st 2 (.t 14) (.t 124)),
 qm 15 125])
 (.seq (.dreg [qr 127 (.fad 3 (.t 1)),
 qr 128 (.ld true 3 (.t 127)),
 qm 129 13,
 qr 130 (.call 19 [(1, (.t 129)), (1, (.k (.i .i64 1)))]),
 qr 131 (.call 18 [(1, (.t 128)), (1, (.t 130))]),
 qr 132 (.call 20 [(1, (.t 131)), (1, (.k (.i .i64 0)))]),
 qm 126 132,
 qr 133 (.ext (.t 126) 0),
 qr 134 (.ext (.t 126) 1),
 qr 16 (.al 25 [(.b false), (.l 1 [])]),
 qn (.st 2 (.t 16) (.t 133)),
 qm 17 134])
 (.seq (.reg [qr 135 (.ld true 2 (.t 14)),
 qr 136 (.ld true 2 (.t 16)),
 qr 137 (.call 21 [(1, (.t 135)), (1, (.t 136))]),
 qr 138 (.bin .leq (.t 137) (.k (.i .i64 0)))])
 (.cond (.t 138)
 (.seq (.reg [qr 2 (.mv (.k (.b false)))])
 (.ret))
 (.skip))))))
 (.reg [qm 115 13,
 qr 116 (.bin .add (.t 115) (.k (.i .i64 1))),
 qm 13 116]))))))
 (.seq (.reg [qr 2 (.mv (.k (.b true)))])
 (.ret))))))))))))
set_option maxRecDepth 100000 in
theorem qqBetween_spec (s0 s1 s2 s3 s4 : Bool) (aa0 d0 aa1 d1 aa2 d2 aa3 aa4 : List Nat) (n m k : Int) (l : List (Bool × List Nat × List Nat)) (st : List UInt8)
    (wa0 : Wd aa0) (wd0 : Wd d0) (wa1 : Wd aa1) (wd1 : Wd d1) (wa2 : Wd aa2) (wd2 : Wd d2) :
    AFun Tryz.prog J0 3 [caseV s0 s1 s2 s3 s4 aa0 d0 aa1 d1 aa2 d2 aa3 aa4 n m k l st] (.b true) := by
  have hl := lless_spec s0 s1 s2 s3 s4 aa0 d0 aa1 d1 aa2 d2 aa3 aa4 n m k l st
  obtain ⟨b0, e, vb0, lb0⟩ := take12 wa0; rw [e] at hl
  obtain ⟨e0, e, ve0, le0⟩ := take12 wd0; rw [e] at hl
  obtain ⟨b1, e, vb1, lb1⟩ := take12 wa1; rw [e] at hl
  obtain ⟨e1, e, ve1, le1⟩ := take12 wd1; rw [e] at hl
  obtain ⟨b2, e, vb2, lb2⟩ := take12 wa2; rw [e] at hl
  obtain ⟨e2, e, ve2, le2⟩ := take12 wd2; rw [e] at hl
  generalize aa3.take 12 = b3 at *
  generalize aa4.take 12 = b4 at *
  generalize fewL l = ls at *
  clear wa0 wd0 wa1 wd1 wa2 wd2 e
  have hf := lfixed_spec
  have o0 := rOk_spec s0 b0 e0 ve0 (by omega)
  have o1 := rOk_spec s1 b1 e1 ve1 (by omega)
  by_cases bad : nv B e0 * nv B e1 = 0
  · have x1 := qsimp_e s0 s1 b0 b1 e0 e1 12 (by decide) vb0 vb1 ve0 ve1 lb0 lb1 le0 le1 bad
    by_cases h0 : nv B e0 = 0
    · rw [decide_eq_true h0] at o0
      refine mkQ fol J0s Tryz.func3 a3 ?_
      unfold a3
      simp only [init_eq, initE, qm, qr, qn]
      exact wdQ @bz_LQBetween
    · rw [decide_eq_false h0] at o0
      have h1 : nv B e1 = 0 := by rcases Nat.mul_eq_zero.1 bad with h | h; exact absurd h h0; exact h
      rw [decide_eq_true h1] at o1
      refine mkQ fol J0s Tryz.func3 a3 ?_
      unfold a3
      simp only [init_eq, initE, qm, qr, qn]
      exact wdQ @bz_LQBetween
  · have h0 : nv B e0 ≠ 0 := fun h => bad (by rw [h, Nat.zero_mul])
    have h1 : nv B e1 ≠ 0 := fun h => bad (by rw [h, Nat.mul_zero])
    rw [decide_eq_false h0] at o0
    rw [decide_eq_false h1] at o1
    have k1 := qcmp_spec s0 s1 b0 b1 e0 e1 12 (by decide) vb0 vb1 ve0 ve1 lb0 lb1 le0 le1
    rw [if_neg bad, re_p bad] at k1
    by_cases hgt : 0 < cz (zv s0 b0 * (nv B e1 : Int)) (zv s1 b1 * (nv B e0 : Int))
    · have x1 := qsimp_gt s0 s1 b0 b1 e0 e1 12 (by decide) vb0 vb1 ve0 ve1 lb0 lb1 le0 le1 bad hgt
      generalize cz (zv s0 b0 * (nv B e1 : Int)) (zv s1 b1 * (nv B e0 : Int)) = c at *
      refine mkQ fol J0s Tryz.func3 a3 ?_
      unfold a3
      simp only [init_eq, initE, qm, qr, qn]
      exact wdQ (ai @hgt @bz_LQBetween)
    · have hle : zv s0 b0 * (nv B e1 : Int) ≤ zv s1 b1 * (nv B e0 : Int) := by rw [cz_gt] at hgt; omega
      have x1 := qsimp_spec s0 s1 b0 b1 e0 e1 16384 (by decide) (by decide) vb0 vb1 ve0 ve1 (by omega) (by omega) (by omega) (by omega) h0 h1 hle
      have hs := smp_law (rden_pos (z := zv s0 b0) h0) (rden_pos (z := zv s1 b1) h1) (r_co _ h0) (r_co _ h1) ((r_le h0 h1).2 hle)
      have bz : (rz (zv s0 b0) (nv B e0)).natAbs < B ^ 12 := Nat.lt_of_le_of_lt (rz_le' _ _) (zv_lt vb0 lb0)
      have bd : rden (zv s0 b0) (nv B e0) < B ^ 12 := Nat.lt_of_le_of_lt (rden_le _ _) (nvlt ve0 le0)
      generalize smp (rz (zv s0 b0) (nv B e0)) (rden (zv s0 b0) (nv B e0)) (rz (zv s1 b1) (nv B e1)) (rden (zv s1 b1) (nv B e1)) = t at *
      have bt1 : t.1.natAbs < B ^ 12 := Nat.lt_of_le_of_lt hs.bn bz
      have bt2 : t.2 < B ^ 12 := Nat.lt_of_le_of_lt hs.bd bd
      have no := fun i h1' h2' => btw_none (i := i) h0 h1 hs h1' h2'
      have hp1 : (mkRat t.1 t.2).num = t.1 := by rw [← r_num hs.n0]; exact rzN_co hs.co
      have hp2 : (mkRat t.1 t.2).den = t.2 := by rw [← r_den hs.n0]; exact rdenN_co hs.co
      have hS : Rr (rN t.1 t.2) (mkRat t.1 t.2) 12 := by
        have := Rr_c (p := mkRat t.1 t.2) (m := 12) (by rw [hp1]; exact bt1) (by rw [hp2]; exact bt2)
        rwa [hp1, hp2] at this
      have gd := lgood_spec (p := mkRat t.1 t.2) (m := 12) (by rw [hp1, hp2]; exact hS) (by decide)
      rw [hp1, hp2] at gd
      have hA := Rr_raw (s := s0) vb0 ve0 lb0 le0 h0
      have hB := Rr_raw (s := s1) vb1 ve1 lb1 le1 h1
      have k2 := qcmpR hA hS (by decide)
      have k3 := qcmpR hS hB (by decide)
      have g2 : ¬ 0 < cq (mkRat (zv s0 b0) (nv B e0)) (mkRat t.1 t.2) := by
        have := (le_q h0 hs.n0).2 ((rz_le (zv s0 b0) t.1 t.2 h0).1 hs.lo)
        rw [← cq_le] at this; omega
      have g3 : ¬ 0 < cq (mkRat t.1 t.2) (mkRat (zv s1 b1) (nv B e1)) := by
        have := (le_q hs.n0 h1).2 ((rz_ge (zv s1 b1) t.1 t.2 h1).1 hs.hi)
        rw [← cq_le] at this; omega
      have loop : ∀ i : Nat, 1 ≤ i → i ≤ 60 → i < t.2 → ∃ (up dn : Int) (v1 v2 : V) (x1 x2 : Int) (y1 y2 : Nat), v1 = rN x1 y1 ∧ v2 = rN x2 y2 ∧ ¬ cz up dn ≤ 0 ∧
          AFun Tryz.prog J0 19 [.i .i64 (i : Int), .i .i64 1] (.g [.b false, .l 1 (W (dg B i)), .l 1 (W (dg B 1))]) ∧
          AFun Tryz.prog J0 18 [rL s0 b0 e0, .g [.b false, .l 1 (W (dg B i)), .l 1 (W (dg B 1))]] v1 ∧ AFun Tryz.prog J0 18 [rL s1 b1 e1, .g [.b false, .l 1 (W (dg B i)), .l 1 (W (dg B 1))]] v2 ∧
          AFun Tryz.prog J0 17 [v1, .i .i64 0] (.t [zN up, .i .i64 0]) ∧ AFun Tryz.prog J0 20 [v2, .i .i64 0] (.t [zN dn, .i .i64 0]) ∧ AFun Tryz.prog J0 21 [zN up, zN dn] (.i .i64 (cz up dn)) := fun i hi1 hi2 hi3 => by
        have q1 := rP_spec (i : Int) 1 (by omega) (by omega) (by decide) (by decide)
        rw [rzN_co (Nat.gcd_one_right _), rdenN_co (Nat.gcd_one_right _), show rN (i : Int) 1 = .g [.b false, .l 1 (W (dg B i)), .l 1 (W (dg B 1))] from by show V.g [.b (decide ((i : Int) < 0)), _, _] = _; rw [decide_eq_false (by omega)]; rfl] at q1
        have bi : i < B ^ 12 := Nat.lt_of_lt_of_le (show i < B from by show i < 18446744073709551616; omega) (by decide +kernel)
        have li : (dg B i).length ≤ 12 := dlen bi
        have l1 : (dg B 1).length ≤ 12 := dlen (by decide +kernel)
        have hv0 : zv false (dg B i) = (i : Int) := zv_dg false i
        have q2 := rTimes_spec s0 false b0 (dg B i) e0 (dg B 1) 12 (by decide) vb0 (Wd_dg _) ve0 (Wd_dg _) lb0 li le0 l1 (by rw [nv_dgB, Nat.mul_one]; exact h0)
        have q3 := rTimes_spec s1 false b1 (dg B i) e1 (dg B 1) 12 (by decide) vb1 (Wd_dg _) ve1 (Wd_dg _) lb1 li le1 l1 (by rw [nv_dgB, Nat.mul_one]; exact h1)
        rw [hv0, nv_dgB, Nat.mul_one] at q2 q3
        have c1 : (zv s0 b0 * (i : Int)).natAbs < B ^ 24 := mul_lt (m := 12) (zv_lt vb0 lb0) bi
        have c2 : (zv s1 b1 * (i : Int)).natAbs < B ^ 24 := mul_lt (m := 12) (zv_lt vb1 lb1) bi
        have hn := no i hi1 hi3
        generalize zv s0 b0 * (i : Int) = x at *
        generalize zv s1 b1 * (i : Int) = y at *
        have c3 : (rz x (nv B e0)).natAbs < B ^ 24 := Nat.lt_of_le_of_lt (rz_le' _ _) c1
        have c4 : (rz y (nv B e1)).natAbs < B ^ 24 := Nat.lt_of_le_of_lt (rz_le' _ _) c2
        have c5 : rden x (nv B e0) < B ^ 24 := Nat.lt_of_le_of_lt (rden_le _ _) (pup (nvlt ve0 le0) (by decide))
        have c6 : rden y (nv B e1) < B ^ 24 := Nat.lt_of_le_of_lt (rden_le _ _) (pup (nvlt ve1 le1) (by decide))
        have q4 := qceil_spec (decide (rz x (nv B e0) < 0)) (dg B (rz x (nv B e0)).natAbs) (dg B (rden x (nv B e0))) 0 16384 (by decide) (by decide) (Wd_dg _) (Wd_dg _) (Nat.le_trans (dlen c3) (by decide)) (Nat.le_trans (dlen c5) (by decide))
        rw [zv_N, nv_dgB, ← (rz_neg x (nv B e0)).1, ← (rz_neg x (nv B e0)).2, glV_red _ _ _ h0, (rz_neg x (nv B e0)).2] at q4
        have e0' : glE (rden x (nv B e0)) 0 = 0 := by rw [glE_red _ _ _ h0]; unfold glE; rw [if_neg h0, if_neg (by decide)]
        rw [e0'] at q4
        have q5 := qfloor_spec (decide (rz y (nv B e1) < 0)) (dg B (rz y (nv B e1)).natAbs) (dg B (rden y (nv B e1))) 0 16384 (by decide) (by decide) (Wd_dg _) (Wd_dg _) (Nat.le_trans (dlen c4) (by decide)) (Nat.le_trans (dlen c6) (by decide))
        have e1' : glE (rden y (nv B e1)) 0 = 0 := by rw [glE_red _ _ _ h1]; unfold glE; rw [if_neg h1, if_neg (by decide)]
        rw [zv_N, nv_dgB, glV_red _ _ _ h1, e1'] at q5
        have v0 : ∀ (z : Int) {d : Nat}, d ≠ 0 → glV z d 0 = z.fdiv (d : Int) := fun z d h => by
          rw [show (0 : Int) = ((0 : Nat) : Int) from rfl, glV_p h (by decide), Int.pow_zero, Int.mul_one]
        rw [v0 _ h0] at q4
        rw [v0 _ h1] at q5
        have c7 : (-((-x).fdiv (nv B e0 : Int))).natAbs < B ^ 25 := by rw [Int.natAbs_neg]; exact fl_abs (m := 24) (by rw [Int.natAbs_neg]; exact c1)
        have c8 : (y.fdiv (nv B e1 : Int)).natAbs < B ^ 25 := fl_abs (m := 24) c2
        have q6 := horder_spec (decide (-((-x).fdiv (nv B e0 : Int)) < 0)) (decide (y.fdiv (nv B e1 : Int) < 0)) (dg B (-((-x).fdiv (nv B e0 : Int))).natAbs) (dg B (y.fdiv (nv B e1 : Int)).natAbs) 25 (by decide) (Wd_dg _) (Wd_dg _) (dlen c7) (dlen c8)
        rw [zv_N, zv_N] at q6
        exact ⟨_, _, _, _, _, _, _, _, rfl, rfl, by have := cz_gt (-((-x).fdiv (nv B e0 : Int))) (y.fdiv (nv B e1 : Int)); rw [← this] at hn; omega, q1, q2, q3, q4, q5, q6⟩
      have wd := fun i (h : i < 9223372036854775808) => (hword_spec i h).frozen
      have cm := fun i (h : i < B ^ 12) => hcmpN_spec (dg B i) (dg B t.2) (Wd_dg _) (Wd_dg _) (Nat.le_trans (dlen h) (by decide)) (Nat.le_trans (dlen bt2) (by decide))
      generalize cz (zv s0 b0 * (nv B e1 : Int)) (zv s1 b1 * (nv B e0 : Int)) = c at *
      generalize cq (mkRat (zv s0 b0) (nv B e0)) (mkRat t.1 t.2) = q2 at *
      generalize cq (mkRat t.1 t.2) (mkRat (zv s1 b1) (nv B e1)) = q3 at *
      obtain ⟨u, v⟩ := t
      simp only [] at *
      clear hs no hp1 hp2 hS hA hB bz bd bt1
      refine mkQ fol J0s Tryz.func3 a3 ?_
      unfold a3
      simp only [init_eq, initE, qm, qr, qn]
      refine wkQ (ai @g3 (ai @g2 (ai @hgt @bz_LQBetween))) ?_
      refine vm_loopA [] Nat (fun i => ⟨[(1, .pt 0 0), (7, .pt 1 0), (13, .i .i64 (i : Int))],
          [(0, some ⟨30, 18, [.b s0, .l 1 (W b0), .l 1 (W e0), .b s1, .l 1 (W b1), .l 1 (W e1), .b s2, .l 1 (W b2), .l 1 (W e2), .b s3, .l 1 (W b3), .b s4, .l 1 (W b4), .i .i64 n, .i .i64 m, .i .i64 k, .l 3 (RC ls), .s st], true, true⟩),
           (1, some ⟨27, 3, [.b (decide (u < 0)), .l 1 (W (dg B u.natAbs)), .l 1 (W (dg B v))], true, true⟩)], 2⟩)
        (fun i => 1 ≤ i ∧ i ≤ 61) (fun i => 61 - i) 1 ⟨Nat.le_refl _, by decide⟩ (by exact leQ) (by
        exact ltQ) ?_
      intro i ⟨hi1, hi2⟩ Q' hQ he hr
      by_cases h6 : (i : Int) ≤ 60
      · have w1 := wd i (by omega)
        have cc := cm i (Nat.lt_of_lt_of_le (show i < B from by show i < 18446744073709551616; omega) (by decide +kernel))
        rw [nv_dgB, nv_dgB] at cc
        by_cases h7 : i < v
        · obtain ⟨up, dn, v1, v2, xx1, xx2, y1, y2, rfl, rfl, gt, q1, q2', q3', q4, q5, q6⟩ := loop i hi1 (by omega) h7
          have sl : sg i v < 0 := by rw [sg_lt]; exact h7
          generalize sg i v = sv at *
          generalize cz up dn = ord at *
          have zc1 := q2'
          have zc2 := q3'
          refine wkQ (ai @gt (ai @sl (ai @h6 @bz_LQBetween))) ?_
          refine hQ _ (i + 1) ⟨by omega, by omega⟩ (by omega) ?_
          exact ltQ
        · have sl : ¬ sg i v < 0 := by rw [sg_lt]; exact h7
          generalize sg i v = sv at *
          refine wkQ (ai @sl (ai @h6 @bz_LQBetween)) ?_
          refine he _ _ ?_
          refine spQ @bz_LQBetween ?_
          exact rtQ @bz_LQBetween
      · refine spQ (ai @h6 @bz_LQBetween) ?_
        refine he _ _ ?_
        refine spQ @bz_LQBetween ?_
        exact rtQ @bz_LQBetween
end Go.Proofs.YtlhadigkmlldeaaGreatDoor
