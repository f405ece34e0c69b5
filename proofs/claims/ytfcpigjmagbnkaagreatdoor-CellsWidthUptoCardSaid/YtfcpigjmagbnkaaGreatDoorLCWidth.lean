/-
  CellsWidth: the law's walk.
-/
import Derived.Test.YtfcpigjmagbnkaaGreatDoorLCForms
namespace Go.Proofs.YtfcpigjmagbnkaaGreatDoor
open Go Go.RowKit Ab
set_option linter.unusedSimpArgs false
set_option linter.unusedVariables false
set_option maxHeartbeats 10000000
theorem bz_LCWidth : type_of% (And.intro @W_len (And.intro @D_len (And.intro @Nat.div_one (And.intro @Nat.mul_one (And.intro @tn_nat (And.intro @W_nf (And.intro @D_nf (And.intro @W_nil (And.intro @D_nil (And.intro @wi (And.intro @nf_g (And.intro @Bool.false_and (@W_cell))))))))))))) := And.intro @W_len (And.intro @D_len (And.intro @Nat.div_one (And.intro @Nat.mul_one (And.intro @tn_nat (And.intro @W_nf (And.intro @D_nf (And.intro @W_nil (And.intro @D_nil (And.intro @wi (And.intro @nf_g (And.intro @Bool.false_and (@W_cell))))))))))))
theorem twq_lo (k : Nat) : loQ 1 k = twq (-(k : Int)) := by
  unfold twq
  rcases Nat.eq_zero_or_pos k with h | h
  · subst h; rfl
  · rw [if_pos (by omega), show (-(-(k : Int))).toNat = k from by omega]
theorem loQ_0 (k : Nat) : (loQ 0 k).num = 0 := by show (mkRat 0 (2 ^ k)).num = 0; rw [Rat.zero_mkRat]; rfl
theorem cends0 (k : Nat) (hk : k ≤ 1048576) : AFun Tryz.prog J0 11 [.g [.b false, .l 1 [], .i .i64 (k : Int), .b false]] (.t [rN (loQ 0 k).num (loQ 0 k).den, rN (loQ 1 k).num (loQ 1 k).den, .i .i64 0]) ∧ Rr (rN (loQ 1 k).num (loQ 1 k).den) (loQ 1 k) (20000 + 1) := by
  obtain ⟨h1, g1, g2⟩ := cends_spec false [] k 20000 false hk Wd_nil (Nat.zero_le _) (Nat.le_refl _) (by decide)
  have e0 : zv false [] = 0 := rfl
  have e1 : hiN 0 false = 1 := rfl
  rw [e0] at h1 g2
  rw [e1] at h1 g2
  exact ⟨h1, g2⟩
def a3 : AC := .seq (.reg [qr 1 (.bx 27 (.t 0)),
 qr 2 (.mv (.k (.b false)))])
 (.seq (.seq (.reg [qr 10 (.call 7 []),
 qr 11 (.un .not (.t 10))])
 (.cond (.t 11)
 (.seq (.reg [qr 2 (.mv (.k (.b false)))])
 (.ret))
 (.skip)))
 (.seq (.reg [qr 13 (.ld true 3 (.t 1)),
 qr 14 (.call 8 [(1, (.t 13))]),
 qm 12 14,
 qr 15 (.ext (.t 12) 0),
 qr 16 (.ext (.t 12) 1),
 qm 3 15,
 qm 4 16])
 (.seq (.seq (.reg [qr 17 (.ld true 3 (.t 1)),
 qr 18 (.call 9 [(1, (.t 17))]),
 qr 19 (.un .not (.t 18))])
 (.cond (.t 19)
 (.seq (.reg [qm 20 4,
 qr 21 (.bin .eql (.t 20) (.k (.i .i64 1))),
 qm 2 21])
 (.ret))
 (.skip)))
 (.seq (.seq (.reg [qr 22 (.ld true 3 (.t 1)),
 qr 23 (.call 10 [(1, (.t 22))]),
 qr 24 (.bin .leq (.t 23) (.k (.i .i64 0)))])
 (.cond (.t 24)
 (.seq (.reg [qm 25 4,
 qr 26 (.bin .eql (.t 25) (.k (.i .i64 9))),
 qm 2 26])
 (.ret))
 (.skip)))
 (.seq (.seq (.reg [qm 27 4,
 qr 28 (.bin .neq (.t 27) (.k (.i .i64 0))),
 qm 29 28,
 ⟨some 30, some (29, false), .mv (.t 3)⟩,
 ⟨some 31, some (29, false), .bin .lss (.t 30) (.k (.i .i64 0))⟩,
 qr 32 (.pick (.t 29) (.k (.b true)) (.t 31))])
 (.cond (.t 32)
 (.seq (.reg [qm 33 4,
 qr 34 (.bin .eql (.t 33) (.k (.i .i64 13))),
 qm 2 34])
 (.ret))
 (.skip)))
 (.seq (.seq (.reg [qm 35 3,
 qr 36 (.bin .gtr (.t 35) (.k (.i .i64 3000)))])
 (.cond (.t 36)
 (.seq (.reg [qr 2 (.mv (.k (.b true)))])
 (.ret))
 (.skip)))
 (.seq (.reg [qm 38 3,
 qr 39 (.bld [(.b false), (.l 1 []), (.i .i64 0), (.b false)] [(2, 1, (.t 38))]),
 qr 40 (.call 11 [(1, (.t 39))]),
 qm 37 40,
 qr 41 (.ext (.t 37) 0),
 qr 42 (.ext (.t 37) 1),
 qr 43 (.ext (.t 37) 2),
 qr 5 (.al 27 [(.b false), (.l 1 []), (.l 1 [])]),
 qr 6 (.al 27 [(.b false), (.l 1 []), (.l 1 [])]),
 qn (.st 3 (.t 5) (.t 41)),
 qn (.st 3 (.t 6) (.t 42)),
 qm 7 43])
 (.seq (.reg [qr 45 (.ld true 3 (.t 6)),
 qr 46 (.ld true 3 (.t 1)),
 qr 47 (.call 12 [(1, (.t 45)), (1, (.t 46))]),
 qm 44 47,
 qr 48 (.ext (.t 44) 0),
 qr 49 (.ext (.t 44) 1),
 qm 8 48,
 qm 9 49])
 (.seq (.seq (.reg [qm 50 7,
 qr 51 (.bin .neq (.t 50) (.k (.i .i64 0))),
 qm 52 51,
 ⟨some 53, some (52, false), .mv (.t 9)⟩,
 ⟨some 54, some (52, false), .bin .neq (.t 53) (.k (.i .i64 0))⟩,
 qr 55 (.pick (.t 52) (.k (.b true)) (.t 54)),
 qm 56 55,
 ⟨some 57, some (56, false), .mv (.t 8)⟩,
 ⟨some 58, some (56, false), .bin .neq (.t 57) (.k (.i .i64 (-1)))⟩,
 qr 59 (.pick (.t 56) (.k (.b true)) (.t 58)),
 qm 60 59,
 ⟨some 61, some (60, false), .ld true 3 (.t 5)⟩,
 ⟨some 62, some (60, false), .call 10 [(1, (.t 61))]⟩,
 ⟨some 63, some (60, false), .bin .neq (.t 62) (.k (.i .i64 0))⟩,
 qr 64 (.pick (.t 60) (.k (.b true)) (.t 63))])
 (.cond (.t 64)
 (.seq (.reg [qr 2 (.mv (.k (.b false)))])
 (.ret))
 (.skip)))
 (.seq (.seq (.reg [qm 65 3,
 qr 66 (.bin .eql (.t 65) (.k (.i .i64 0)))])
 (.cond (.t 66)
 (.seq (.reg [qr 2 (.mv (.k (.b true)))])
 (.ret))
 (.skip)))
 (.seq (.reg [qm 68 3,
 qr 69 (.bin .sub (.t 68) (.k (.i .i64 1))),
 qr 70 (.bld [(.b false), (.l 1 []), (.i .i64 0), (.b false)] [(2, 1, (.t 69))]),
 qr 71 (.call 11 [(1, (.t 70))]),
 qm 67 71,
 qr 72 (.ext (.t 67) 0),
 qr 73 (.ext (.t 67) 1),
 qr 74 (.ext (.t 67) 2),
 qn (.st 3 (.t 6) (.t 73)),
 qm 7 74])
 (.seq (.reg [qr 76 (.ld true 3 (.t 6)),
 qr 77 (.ld true 3 (.t 1)),
 qr 78 (.call 12 [(1, (.t 76)), (1, (.t 77))]),
 qm 75 78,
 qr 79 (.ext (.t 75) 0),
 qr 80 (.ext (.t 75) 1),
 qm 8 79,
 qm 9 80])
 (.seq (.reg [qm 81 7,
 qr 82 (.bin .eql (.t 81) (.k (.i .i64 0))),
 qm 83 82,
 ⟨some 84, some (83, true), .mv (.t 9)⟩,
 ⟨some 85, some (83, true), .bin .eql (.t 84) (.k (.i .i64 0))⟩,
 qr 86 (.pick (.t 83) (.t 85) (.k (.b false))),
 qm 87 86,
 ⟨some 88, some (87, true), .mv (.t 8)⟩,
 ⟨some 89, some (87, true), .bin .geq (.t 88) (.k (.i .i64 0))⟩,
 qr 90 (.pick (.t 87) (.t 89) (.k (.b false))),
 qm 2 90])
 (.ret))))))))))))))
theorem cellsWidth_spec (s : Bool) (a d : List Nat) (ha : Wd a) (hd : Wd d) (la : a.length ≤ 1100000) (ld : d.length ≤ 1100000) : AFun Tryz.prog J0 3 [rL s a d] (.b true) := by
  have kn := cknown_spec
  have o1 := rOk_spec s a d hd (by omega)
  by_cases h0 : nv B d = 0
  · rw [decide_eq_true h0] at o1
    have x1 := cexp_0 s a d 1100000 (by decide) ha hd la ld h0
    refine mkQ fol J0s Tryz.func3 a3 ?_
    unfold a3
    simp only [init_eq, initE, qm, qr, qn]
    exact wdQ @bz_LCWidth
  · rw [decide_eq_false h0] at o1
    have s1 := rS_spec s a d ha (by omega)
    by_cases hs : 0 < zv s a
    · obtain ⟨k, hk, _⟩ := fin_ex (u := nv B a) (d := nv B d) (fun h => by rw [zv_z.2 h] at hs; omega)
      have x1 := cexp_k s a d k 1100000 (by decide) ha hd la ld h0 hs hk
      have hs1 : ¬ sgz (zv s a) ≤ 0 := by unfold sgz; rw [if_neg (by omega), if_pos hs]; decide
      by_cases g : k ≤ 1048576
      · rw [if_pos g, if_pos g] at x1
        have kp : ¬ (k : Int) < 0 := by omega
        by_cases g2 : 3000 < k
        · have g3 : (3000 : Int) < (k : Int) := by omega
          generalize (k : Int) = kk at *
          generalize sgz (zv s a) = sg0 at *
          refine mkQ fol J0s Tryz.func3 a3 ?_
          unfold a3
          simp only [init_eq, initE, qm, qr, qn]
          exact wdQ (ai @g3 (ai @kp (ai @hs1 @bz_LCWidth)))
        · have g3 : ¬ (3000 : Int) < (k : Int) := by omega
          have hA := Rr_raw (s := s) ha hd la ld h0
          obtain ⟨e1, r1⟩ := cends0 k g
          have q1 := qcmpR (Rr_up r1 (by decide : 20000 + 1 ≤ 1100000)) hA (by decide)
          have b1 := fin_below h0 hs hk
          rw [← twq_lo] at b1
          have v1 : cq (loQ 1 k) (mkRat (zv s a) (nv B d)) = -1 := by rcases cq_val (loQ 1 k) (mkRat (zv s a) (nv B d)) with h | h | h <;> omega
          rw [v1] at q1
          have s2 := rS_spec (decide ((loQ 0 k).num < 0)) (dg B (loQ 0 k).num.natAbs) (dg B (loQ 0 k).den) (Wd_dg _) (by rw [loQ_0]; decide)
          rw [zv_N, loQ_0, show sgz 0 = 0 from rfl] at s2
          rw [loQ_0] at e1
          by_cases g4 : k = 0
          · subst g4
            clear v1 b1 r1 hA hk
            generalize loQ 1 0 = H at *
            generalize (loQ 0 0).den = L at *
            generalize sgz (zv s a) = sg0 at *
            replace e1 : AFun Tryz.prog J0 11 [.g [.b false, .l 1 [], .i .i64 0, .b false]] (.t [rN 0 L, rN H.num H.den, .i .i64 0]) := e1
            replace x1 : AFun Tryz.prog J0 8 [rL s a d] (.t [.i .i64 0, .i .i64 0]) := x1
            refine mkQ fol J0s Tryz.func3 a3 ?_
            unfold a3
            simp only [init_eq, initE, qm, qr, qn]
            exact wdQ (ai @hs1 @bz_LCWidth)
          · have g5 : ¬ (k : Int) = 0 := by omega
            have wk : IntKind.i64.wrap ((k : Int) - 1) = ((k - 1 : Nat) : Int) := by rw [wi (by omega)]; omega
            obtain ⟨e2, r2⟩ := cends0 (k - 1) (by omega)
            rw [loQ_0] at e2
            have q2 := qcmpR (Rr_up r2 (by decide : 20000 + 1 ≤ 1100000)) hA (by decide)
            have b2 := fin_ahead h0 hs hk g4
            rw [show (1 : Int) - (k : Int) = -((k - 1 : Nat) : Int) from by omega, ← twq_lo] at b2
            clear v1 b1 r1 hA hk r2
            generalize cq (loQ 1 (k - 1)) (mkRat (zv s a) (nv B d)) = v2 at *
            generalize loQ 1 k = H at *
            generalize loQ 1 (k - 1) = H2 at *
            generalize (loQ 0 k).den = L at *
            generalize (loQ 0 (k - 1)).den = L2 at *
            generalize sgz (zv s a) = sg0 at *
            generalize ((k - 1 : Nat) : Int) = k1 at *
            generalize (k : Int) = kk at *
            refine mkQ fol J0s Tryz.func3 a3 ?_
            unfold a3
            simp only [init_eq, initE, qm, qr, qn]
            have zc1 := e2
            exact wdQ (ai @b2 (ai @wk (ai @g5 (ai @g3 (ai @kp (ai @hs1 @bz_LCWidth))))))
      · rw [if_neg g, if_neg g] at x1
        generalize sgz (zv s a) = sg0 at *
        refine mkQ fol J0s Tryz.func3 a3 ?_
        unfold a3
        simp only [init_eq, initE, qm, qr, qn]
        exact wdQ (ai @hs1 @bz_LCWidth)
    · have x1 := cexp_s s a d 1100000 (by decide) ha hd la ld h0 (by omega)
      have hs1 : sgz (zv s a) ≤ 0 := by unfold sgz; split <;> first | decide | (rw [if_neg hs]; decide)
      generalize sgz (zv s a) = sg0 at *
      refine mkQ fol J0s Tryz.func3 a3 ?_
      unfold a3
      simp only [init_eq, initE, qm, qr, qn]
      exact wdQ (ai @hs1 @bz_LCWidth)
end Go.Proofs.YtfcpigjmagbnkaaGreatDoor
