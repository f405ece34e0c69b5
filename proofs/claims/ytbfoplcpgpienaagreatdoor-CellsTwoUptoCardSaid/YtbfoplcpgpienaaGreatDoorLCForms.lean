/-
  CellsForms, CellsTwo: the laws' walks.
-/
import Derived.Test.YtbfoplcpgpienaaGreatDoorC6
namespace Go.Proofs.YtbfoplcpgpienaaGreatDoor
open Go Go.RowKit Ab
set_option linter.unusedSimpArgs false
set_option linter.unusedVariables false
set_option maxHeartbeats 10000000
theorem bz_LCForms : type_of% (And.intro @W_len (And.intro @D_len (And.intro @Nat.div_one (And.intro @Nat.mul_one (And.intro @tn_nat (And.intro @W_nf (And.intro @D_nf (And.intro @W_nil (And.intro @D_nil (And.intro @wi (And.intro @nf_g (And.intro @Bool.false_and (@W_cell))))))))))))) := And.intro @W_len (And.intro @D_len (And.intro @Nat.div_one (And.intro @Nat.mul_one (And.intro @tn_nat (And.intro @W_nf (And.intro @D_nf (And.intro @W_nil (And.intro @D_nil (And.intro @wi (And.intro @nf_g (And.intro @Bool.false_and (@W_cell))))))))))))
def a10 : AC := .seq (.reg [qr 0 (.mv (.k (.b false)))])
 (.seq (.reg [qr 6 (.call 50 [(1, (.k (.i .i64 1))), (1, (.k (.i .i64 3)))]),
 qr 7 (.call 36 [(1, (.t 6)), (1, (.k (.i .i64 2)))]),
 qm 5 7,
 qr 8 (.ext (.t 5) 0),
 qr 9 (.ext (.t 5) 1),
 qr 1 (.al 27 [(.b false), (.l 1 []), (.i .i64 0), (.b false)]),
 qn (.st 4 (.t 1) (.t 8)),
 qm 2 9])
 (.seq (.reg [qr 11 (.call 51 [(1, (.k (.i .i64 (-1))))]),
 qr 12 (.bld [(.b false), (.l 1 []), (.i .i64 0), (.b false)] [(0, 2, (.t 11)), (2, 1, (.k (.i .i64 1)))]),
 qr 13 (.call 49 [(1, (.t 12))]),
 qm 10 13,
 qr 14 (.ext (.t 10) 0),
 qr 15 (.ext (.t 10) 1),
 qm 3 14,
 qm 4 15])
 (.seq (.dregx [(1, 24)] [qm 16 2,
 qr 17 (.bin .eql (.t 16) (.k (.i .i64 0))),
 qm 18 17,
 ⟨some 19, some (18, true), .mv (.t 4)⟩,
 ⟨some 20, some (18, true), .bin .eql (.t 19) (.k (.i .i64 0))⟩,
 qr 21 (.pick (.t 18) (.t 20) (.k (.b false))),
 qm 22 21,
 ⟨some 23, some (22, true), .ld true 4 (.t 1)⟩,
 ⟨some 24, some (22, true), .call 51 [(1, (.k (.i .i64 1)))]⟩,
 ⟨some 25, some (22, true), .bld [(.b false), (.l 1 []), (.i .i64 0), (.b false)] [(0, 2, (.t 24)), (2, 1, (.k (.i .i64 2)))]⟩,
 ⟨some 26, some (22, true), .call 14 [(1, (.t 23)), (1, (.t 25))]⟩,
 qr 27 (.pick (.t 22) (.t 26) (.k (.b false))),
 qm 28 27,
 ⟨some 29, some (28, true), .mv (.t 3)⟩,
 ⟨some 30, some (28, true), .bin .eql (.t 29) (.k (.s [40, 45, 49, 47, 50, 44, 32, 48, 41]))⟩,
 qr 31 (.pick (.t 28) (.t 30) (.k (.b false))),
 qm 0 31])
 (.ret))))
theorem cknown_spec : AFun Tryz.prog J0 10 [] (.b true) := by
  have p1 := rP_spec 1 3 (by decide) (by decide) (by decide) (by decide)
  rw [show rz 1 3 = 1 from by decide +kernel, show rden 1 3 = 3 from by decide +kernel] at p1
  replace p1 : AFun Tryz.prog J0 50 [.i .i64 1, .i .i64 3] (.g [.b false, .l 1 (W (dg B 1)), .l 1 (W (dg B 3))]) := p1
  have o1 := cof_spec false (dg B 1) (dg B 3) 2 20000 (by decide) (Wd_dg _) (Wd_dg _) (Nat.le_trans (dlen (k := 1) (by decide)) (by decide)) (Nat.le_trans (dlen (k := 1) (by decide)) (by decide)) (by rw [nv_dgB]; decide) (by decide) (by decide)
  rw [zv_dg, nv_dgB, show plZ (zI false 1) 3 2 = 1 from by decide +kernel, show plP (zI false 1) 3 2 = false from by decide +kernel] at o1
  replace o1 : AFun Tryz.prog J0 36 [.g [.b false, .l 1 (W (dg B 1)), .l 1 (W (dg B 3))], .i .i64 2] (.t [.g [.b false, .l 1 (W (dg B 1)), .i .i64 2, .b false], .i .i64 0]) := o1
  have z1 := hZ_spec (-1) (by decide) (by decide)
  replace z1 : AFun Tryz.prog J0 51 [.i .i64 (-1)] (.g [.b true, .l 1 (W (dg B 1))]) := z1
  have z2 := hZ_spec 1 (by decide) (by decide)
  replace z2 : AFun Tryz.prog J0 51 [.i .i64 1] (.g [.b false, .l 1 (W (dg B 1))]) := z2
  have t1 := cprint_spec true (dg B 1) 1 20000 false (by decide) (Wd_dg _) (Nat.le_trans (dlen (k := 1) (by decide)) (by decide)) (by decide) (by decide)
  rw [zv_dg, show cS (zI true 1) 1 false = [40, 45, 49, 47, 50, 44, 32, 48, 41] from by decide +kernel] at t1
  replace t1 : AFun Tryz.prog J0 49 [.g [.b true, .l 1 (W (dg B 1)), .i .i64 1, .b false]] (.t [.s [40, 45, 49, 47, 50, 44, 32, 48, 41], .i .i64 0]) := t1
  have s1 := rcsame_true false (dg B 1) 2 false (Nat.le_trans (dlen (k := 1) (by decide)) (by decide))
  generalize dg B 1 = d1 at *
  generalize dg B 3 = d3 at *
  refine mkQ fol J0s Tryz.func10 a10 ?_
  unfold a10
  simp only [init_eq, initE, qm, qr, qn]
  exact wdQ @bz_LCForms
def a3 : AC := .seq (.reg [qr 1 (.bx 27 (.t 0)),
 qr 2 (.mv (.k (.b false)))])
 (.seq (.seq (.reg [qr 12 (.call 10 []),
 qr 13 (.un .not (.t 12))])
 (.cond (.t 13)
 (.seq (.reg [qr 2 (.mv (.k (.b false)))])
 (.ret))
 (.skip)))
 (.seq (.reg [qr 14 (.ld true 4 (.t 1)),
 qr 15 (.call 11 [(1, (.t 14))]),
 qm 3 15])
 (.seq (.reg [qr 17 (.ld true 4 (.t 1)),
 qr 18 (.call 12 [(1, (.t 17))]),
 qm 16 18,
 qr 19 (.ext (.t 16) 0),
 qr 20 (.ext (.t 16) 1),
 qr 4 (.al 27 [(.b false), (.l 1 []), (.i .i64 0), (.b false)]),
 qn (.st 4 (.t 4) (.t 19)),
 qm 5 20])
 (.seq (.seq (.dreg [qr 21 (.ld true 4 (.t 1)),
 qr 22 (.call 13 [(1, (.t 21))]),
 qm 23 3,
 qr 24 (.bin .neq (.t 22) (.t 23)),
 qm 25 24,
 ⟨some 26, some (25, false), .mv (.t 5)⟩,
 ⟨some 27, some (25, false), .mv (.t 3)⟩,
 ⟨some 28, some (25, false), .bin .neq (.t 26) (.t 27)⟩,
 qr 29 (.pick (.t 25) (.k (.b true)) (.t 28)),
 qm 30 29,
 ⟨some 31, some (30, false), .mv (.t 3)⟩,
 ⟨some 32, some (30, false), .bin .eql (.t 31) (.k (.i .i64 0))⟩,
 ⟨some 33, some (30, false), .mv (.t 32)⟩,
 ⟨some 34, some (33, true), .ld true 4 (.t 4)⟩,
 ⟨some 35, some (33, true), .ld true 4 (.t 1)⟩,
 ⟨some 36, some (33, true), .call 15 [(1, (.t 35))]⟩,
 ⟨some 37, some (33, true), .call 14 [(1, (.t 34)), (1, (.t 36))]⟩,
 ⟨some 38, some (33, true), .un .not (.t 37)⟩,
 ⟨some 39, some (30, false), .pick (.t 33) (.t 38) (.k (.b false))⟩,
 qr 40 (.pick (.t 30) (.k (.b true)) (.t 39)),
 qm 41 40,
 ⟨some 42, some (41, false), .mv (.t 3)⟩,
 ⟨some 43, some (41, false), .bin .neq (.t 42) (.k (.i .i64 0))⟩,
 ⟨some 44, some (41, false), .mv (.t 43)⟩,
 ⟨some 45, some (44, true), .ld true 4 (.t 4)⟩,
 ⟨some 46, some (44, true), .bld [(.b false), (.l 1 []), (.i .i64 0), (.b false)] []⟩,
 ⟨some 47, some (44, true), .call 14 [(1, (.t 45)), (1, (.t 46))]⟩,
 ⟨some 48, some (44, true), .un .not (.t 47)⟩,
 ⟨some 49, some (41, false), .pick (.t 44) (.t 48) (.k (.b false))⟩,
 qr 50 (.pick (.t 41) (.k (.b true)) (.t 49))])
 (.cond (.t 50)
 (.seq (.reg [qr 2 (.mv (.k (.b false)))])
 (.ret))
 (.skip)))
 (.seq (.reg [qr 52 (.ld true 4 (.t 1)),
 qr 53 (.call 16 [(1, (.t 52))]),
 qm 51 53,
 qr 54 (.ext (.t 51) 0),
 qr 55 (.ext (.t 51) 1),
 qr 56 (.ext (.t 51) 2),
 qr 57 (.ext (.t 51) 3),
 qr 6 (.al 27 [(.b false), (.l 1 []), (.i .i64 0), (.b false)]),
 qr 7 (.al 27 [(.b false), (.l 1 []), (.i .i64 0), (.b false)]),
 qr 8 (.al 27 [(.b false), (.l 1 []), (.i .i64 0), (.b false)]),
 qn (.st 4 (.t 6) (.t 54)),
 qn (.st 4 (.t 7) (.t 55)),
 qn (.st 4 (.t 8) (.t 56)),
 qm 3 57])
 (.seq (.reg [qr 59 (.ld true 4 (.t 1)),
 qr 60 (.call 17 [(1, (.t 59))]),
 qm 58 60,
 qr 61 (.ext (.t 58) 0),
 qr 62 (.ext (.t 58) 1),
 qr 63 (.ext (.t 58) 2),
 qr 64 (.ext (.t 58) 3),
 qr 9 (.al 27 [(.b false), (.l 1 []), (.i .i64 0), (.b false)]),
 qr 10 (.al 27 [(.b false), (.l 1 []), (.i .i64 0), (.b false)]),
 qr 11 (.al 27 [(.b false), (.l 1 []), (.i .i64 0), (.b false)]),
 qn (.st 4 (.t 9) (.t 61)),
 qn (.st 4 (.t 10) (.t 62)),
 qn (.st 4 (.t 11) (.t 63)),
 qm 5 64])
 (.seq (.reg [qr 65 (.ld true 4 (.t 6)),
 qr 66 (.ld true 4 (.t 9)),
 qr 67 (.call 14 [(1, (.t 65)), (1, (.t 66))]),
 qm 68 67,
 ⟨some 69, some (68, true), .ld true 4 (.t 7)⟩,
 ⟨some 70, some (68, true), .ld true 4 (.t 10)⟩,
 ⟨some 71, some (68, true), .call 14 [(1, (.t 69)), (1, (.t 70))]⟩,
 qr 72 (.pick (.t 68) (.t 71) (.k (.b false))),
 qm 73 72,
 ⟨some 74, some (73, true), .ld true 4 (.t 8)⟩,
 ⟨some 75, some (73, true), .ld true 4 (.t 11)⟩,
 ⟨some 76, some (73, true), .call 14 [(1, (.t 74)), (1, (.t 75))]⟩,
 qr 77 (.pick (.t 73) (.t 76) (.k (.b false))),
 qm 78 77,
 ⟨some 79, some (78, true), .mv (.t 3)⟩,
 ⟨some 80, some (78, true), .mv (.t 5)⟩,
 ⟨some 81, some (78, true), .bin .eql (.t 79) (.t 80)⟩,
 qr 82 (.pick (.t 78) (.t 81) (.k (.b false))),
 qm 2 82])
 (.ret))))))))
theorem cellsForms_spec (s : Bool) (a : List Nat) (k : Int) (p : Bool) (ha : Wd a) (la : a.length ≤ 1100000) : AFun Tryz.prog J0 3 [cL s a k p] (.b true) := by
  have kn := cknown_spec
  have e1 := rccheck_spec s a k p
  have n1 := cnorm_spec s a k p ha (by omega)
  have e2 := ccheck_spec s a k p
  have f1 := rform_spec s a k p ha (by omega)
  have r1 := rhalve_spec s a k p ha (by omega)
  have r2 := chalve_spec s a k p ha (by omega)
  obtain ⟨M, hM⟩ : ∃ M : Nat, M = 1100000 := ⟨_, rfl⟩
  have b0 : (zv s a).natAbs < B ^ M := zv_lt (s := s) ha (by omega)
  have b1 : (zv s a * 2).natAbs < B ^ (M + 1) := by
    rw [Int.natAbs_mul, show (2 : Int).natAbs = 2 from rfl, Nat.mul_two]
    exact padd b0 b0
  have b2 : (zv s a * 2 + 1).natAbs < B ^ (M + 1 + 1) := hiN_abs (p := false) b1
  have s1 := rcsame_true (decide (zv s a < 0)) (dg B (zv s a).natAbs) k p (Nat.le_trans (dlen b0) (by omega))
  have s0 := rcsame_true false [] 0 false (by decide)
  replace s0 : AFun Tryz.prog J0 14 [(.g [.b false, .l 1 [], .i .i64 0, .b false]), (.g [.b false, .l 1 [], .i .i64 0, .b false])] (.b true) := s0
  have s2 := rcsame_true (decide (zv s a * 2 < 0)) (dg B (zv s a * 2).natAbs) (k + 1) false (Nat.le_trans (dlen b1) (by omega))
  have s3 := rcsame_true (decide (zv s a * 2 + 1 < 0)) (dg B (zv s a * 2 + 1).natAbs) (k + 1) true (Nat.le_trans (dlen b2) (by omega))
  have s4 := rcsame_true (decide (zv s a * 2 + 1 < 0)) (dg B (zv s a * 2 + 1).natAbs) (k + 1) false (Nat.le_trans (dlen b2) (by omega))
  clear b0 b1 b2
  by_cases h0 : ckE k = 0
  · rw [if_pos h0, h0] at n1
    rw [h0] at e1 e2
    by_cases h1 : hvE k p = 0
    · rw [if_pos h1, if_pos h1, if_pos h1, h1] at r1 r2
      clear h0 h1
      generalize zv s a * 2 + 1 = z3 at *
      generalize zv s a * 2 = z2 at *
      generalize zv s a = z1 at *
      generalize k + 1 = k1 at *
      refine mkQ fol J0s Tryz.func3 a3 ?_
      unfold a3
      simp only [init_eq, initE, qm, qr, qn]
      exact wdQ (ai @eqsA @bz_LCForms)
    · rw [if_neg h1, if_neg h1, if_neg h1] at r1 r2
      clear h0
      generalize hvE k p = e at *
      generalize zv s a = z1 at *
      refine mkQ fol J0s Tryz.func3 a3 ?_
      unfold a3
      simp only [init_eq, initE, qm, qr, qn]
      exact wdQ (ai @eqsA @bz_LCForms)
  · have h1 : hvE k p = ckE k := if_pos h0
    rw [if_neg h0] at n1
    rw [h1] at r1 r2
    rw [if_neg h0, if_neg h0, if_neg h0] at r1 r2
    clear h1
    generalize ckE k = e at *
    refine mkQ fol J0s Tryz.func3 a3 ?_
    unfold a3
    simp only [init_eq, initE, qm, qr, qn]
    exact wdQ (ai @h0 (ai @eqsA @bz_LCForms))
def nrc (k : Int) : Int := if 3000 < k ∧ k ≤ 1048576 then k.tmod 3000 else k
theorem nrc_0 {k : Int} (h : ckE (nrc k) = 0) : 0 ≤ nrc k ∧ nrc k ≤ 3000 := by
  have h1 := ckE_z.1 h
  unfold nrc at *
  split at h1
  · rename_i h2
    have := Int.tmod_lt_of_pos k (show (0 : Int) < 3000 by decide)
    rw [if_pos h2]; omega
  · rename_i h2
    rw [if_neg h2]; omega
def a18 : AC := .seq (.reg [qr 1 (.bx 27 (.t 0)),
 qr 2 (.al 27 [(.b false), (.l 1 []), (.i .i64 0), (.b false)])])
 (.seq (.seq (.reg [qr 3 (.fad 2 (.t 1)),
 qr 4 (.ld false 1 (.t 3)),
 qr 5 (.bin .gtr (.t 4) (.k (.i .i64 3000))),
 qm 6 5,
 ⟨some 7, some (6, true), .fad 2 (.t 1)⟩,
 ⟨some 8, some (6, true), .ld false 1 (.t 7)⟩,
 ⟨some 9, some (6, true), .bin .leq (.t 8) (.k (.i .i64 1048576))⟩,
 qr 10 (.pick (.t 6) (.t 9) (.k (.b false)))])
 (.cond (.t 10)
 (.reg [qr 11 (.fad 2 (.t 1)),
 qr 12 (.ld false 1 (.t 11)),
 qr 13 (.bin .rem (.t 12) (.k (.i .i64 3000))),
 qr 14 (.fad 2 (.t 1)),
 qn (.st 1 (.t 14) (.t 13))])
 (.skip)))
 (.seq (.reg [qr 15 (.ld true 4 (.t 1)),
 qn (.st 4 (.t 2) (.t 15))])
 (.ret)))
theorem cnear_spec (s : Bool) (a : List Nat) (k : Int) (p : Bool) (h1 : -9223372036854775808 ≤ k) (h2 : k < 9223372036854775808) : AFun Tryz.prog J0 18 [cL s a k p] (cL s a (nrc k) p) := by
  by_cases g1 : 3000 < k
  · by_cases g2 : k ≤ 1048576
    · rw [show nrc k = k.tmod 3000 from if_pos ⟨g1, g2⟩]
      generalize hx : k.tmod 3000 = x
      refine mkcQ fol J0s Tryz.func18 a18 [.c 2 true 4] ?_
      unfold a18
      simp only [init_eq, initE, qm, qr, qn]
      exact pcQ (ai @hx (ai @g2 (ai @g1 @bz_LCForms)))
    · rw [show nrc k = k from if_neg (by omega)]
      refine mkcQ fol J0s Tryz.func18 a18 [.c 2 true 4] ?_
      unfold a18
      simp only [init_eq, initE, qm, qr, qn]
      exact pcQ (ai @g2 (ai @g1 @bz_LCForms))
  · rw [show nrc k = k from if_neg (by omega)]
    refine mkcQ fol J0s Tryz.func18 a18 [.c 2 true 4] ?_
    unfold a18
    simp only [init_eq, initE, qm, qr, qn]
    exact pcQ (ai @g1 @bz_LCForms)
def a4 : AC := .seq (.reg [qr 2 (.bx 27 (.t 0)),
 qr 3 (.bx 27 (.t 1)),
 qr 4 (.mv (.k (.b false)))])
 (.seq (.seq (.reg [qr 11 (.call 10 []),
 qr 12 (.un .not (.t 11))])
 (.cond (.t 12)
 (.seq (.reg [qr 4 (.mv (.k (.b false)))])
 (.ret))
 (.skip)))
 (.seq (.dreg [qr 13 (.ld true 4 (.t 2)),
 qr 14 (.call 18 [(1, (.t 13))]),
 qr 15 (.ld true 4 (.t 3)),
 qr 16 (.call 18 [(1, (.t 15))]),
 qn (.st 4 (.t 2) (.t 14)),
 qn (.st 4 (.t 3) (.t 16))])
 (.seq (.reg [qr 18 (.ld true 4 (.t 2)),
 qr 19 (.ld true 4 (.t 3)),
 qr 20 (.call 19 [(1, (.t 18)), (1, (.t 19))]),
 qm 17 20,
 qr 21 (.ext (.t 17) 0),
 qr 22 (.ext (.t 17) 1),
 qm 5 21,
 qm 6 22])
 (.seq (.reg [qr 24 (.ld true 4 (.t 2)),
 qr 25 (.ld true 4 (.t 3)),
 qr 26 (.call 20 [(1, (.t 24)), (1, (.t 25))]),
 qm 23 26,
 qr 27 (.ext (.t 23) 0),
 qr 28 (.ext (.t 23) 1),
 qm 7 27,
 qm 8 28])
 (.seq (.seq (.reg [qm 29 5,
 qm 30 7,
 qr 31 (.eqb true (.t 29) (.t 30)),
 qm 32 31,
 ⟨some 33, some (32, false), .mv (.t 6)⟩,
 ⟨some 34, some (32, false), .mv (.t 8)⟩,
 ⟨some 35, some (32, false), .bin .neq (.t 33) (.t 34)⟩,
 qr 36 (.pick (.t 32) (.k (.b true)) (.t 35))])
 (.cond (.t 36)
 (.seq (.reg [qr 4 (.mv (.k (.b false)))])
 (.ret))
 (.skip)))
 (.seq (.reg [qr 38 (.ld true 4 (.t 2)),
 qr 39 (.ld true 4 (.t 3)),
 qr 40 (.call 21 [(1, (.t 38)), (1, (.t 39))]),
 qm 37 40,
 qr 41 (.ext (.t 37) 0),
 qr 42 (.ext (.t 37) 1),
 qm 9 41,
 qm 6 42])
 (.seq (.reg [qr 44 (.ld true 4 (.t 2)),
 qr 45 (.ld true 4 (.t 3)),
 qr 46 (.call 22 [(1, (.t 44)), (1, (.t 45))]),
 qm 43 46,
 qr 47 (.ext (.t 43) 0),
 qr 48 (.ext (.t 43) 1),
 qm 10 47,
 qm 8 48])
 (.seq (.seq (.reg [qm 49 9,
 qm 50 10,
 qr 51 (.bin .neq (.t 49) (.t 50)),
 qm 52 51,
 ⟨some 53, some (52, false), .mv (.t 6)⟩,
 ⟨some 54, some (52, false), .mv (.t 8)⟩,
 ⟨some 55, some (52, false), .bin .neq (.t 53) (.t 54)⟩,
 qr 56 (.pick (.t 52) (.k (.b true)) (.t 55))])
 (.cond (.t 56)
 (.seq (.reg [qr 4 (.mv (.k (.b false)))])
 (.ret))
 (.skip)))
 (.seq (.reg [qr 58 (.ld true 4 (.t 2)),
 qr 59 (.ld true 4 (.t 3)),
 qr 60 (.call 23 [(1, (.t 58)), (1, (.t 59))]),
 qm 57 60,
 qr 61 (.ext (.t 57) 0),
 qr 62 (.ext (.t 57) 1),
 qm 5 61,
 qm 6 62])
 (.seq (.reg [qr 64 (.ld true 4 (.t 2)),
 qr 65 (.ld true 4 (.t 3)),
 qr 66 (.call 24 [(1, (.t 64)), (1, (.t 65))]),
 qm 63 66,
 qr 67 (.ext (.t 63) 0),
 qr 68 (.ext (.t 63) 1),
 qm 7 67,
 qm 8 68])
 (.seq (.seq (.reg [qm 69 5,
 qm 70 7,
 qr 71 (.eqb true (.t 69) (.t 70)),
 qm 72 71,
 ⟨some 73, some (72, false), .mv (.t 6)⟩,
 ⟨some 74, some (72, false), .mv (.t 8)⟩,
 ⟨some 75, some (72, false), .bin .neq (.t 73) (.t 74)⟩,
 qr 76 (.pick (.t 72) (.k (.b true)) (.t 75))])
 (.cond (.t 76)
 (.seq (.reg [qr 4 (.mv (.k (.b false)))])
 (.ret))
 (.skip)))
 (.seq (.reg [qr 78 (.ld true 4 (.t 2)),
 qr 79 (.ld true 4 (.t 3)),
 qr 80 (.call 25 [(1, (.t 78)), (1, (.t 79))]),
 qm 77 80,
 qr 81 (.ext (.t 77) 0),
 qr 82 (.ext (.t 77) 1),
 qm 5 81,
 qm 6 82])
 (.seq (.reg [qr 84 (.ld true 4 (.t 2)),
 qr 85 (.ld true 4 (.t 3)),
 qr 86 (.call 26 [(1, (.t 84)), (1, (.t 85))]),
 qm 83 86,
 qr 87 (.ext (.t 83) 0),
 qr 88 (.ext (.t 83) 1),
 qm 7 87,
 qm 8 88])
 (.seq (.reg [qm 89 5,
 qm 90 7,
 qr 91 (.eqb false (.t 89) (.t 90)),
 qm 92 91,
 ⟨some 93, some (92, true), .mv (.t 6)⟩,
 ⟨some 94, some (92, true), .mv (.t 8)⟩,
 ⟨some 95, some (92, true), .bin .eql (.t 93) (.t 94)⟩,
 qr 96 (.pick (.t 92) (.t 95) (.k (.b false))),
 qm 4 96])
 (.ret)))))))))))))))
theorem cellsTwo_spec (s t : Bool) (a b : List Nat) (k j : Int) (p q : Bool) (ha : Wd a) (hb : Wd b) (la : a.length ≤ 1100000) (lb : b.length ≤ 1100000) (k1 : -9223372036854775808 ≤ k) (k2 : k < 9223372036854775808) (j1 : -9223372036854775808 ≤ j) (j2 : j < 9223372036854775808) :
    AFun Tryz.prog J0 4 [cL s a k p, cL t b j q] (.b true) := by
  have kn := cknown_spec
  have c1 := cnear_spec s a k p k1 k2
  have c2 := cnear_spec t b j q j1 j2
  generalize nrc k = k' at *
  generalize nrc j = j' at *
  by_cases h0 : ck2 k' j' = 0
  · obtain ⟨x, y, rfl, rfl, hx, hy⟩ := ck2_in h0
    have r1 := requal_spec s t a b x y 1100000 p q hx hy ha hb la lb (by decide) (by decide)
    have g1 := csame_spec s t a b x y 1100000 p q hx hy ha hb la lb (by decide)
    have r2 := rccmp_spec s t a b x y 1100000 p q hx hy ha hb la lb (by decide) (by decide)
    have g2 := ccmp_spec s t a b x y 1100000 p q hx hy ha hb la lb (by decide)
    have r3 := rtouch_spec s t a b x y 1100000 p q hx hy ha hb la lb (by decide) (by decide)
    have g3 := ctouch_spec s t a b x y 1100000 p q hx hy ha hb la lb (by decide)
    have r4 := rwithin_spec s t a b x y 1100000 p q hx hy ha hb la lb (by decide) (by decide)
    have g4 := cwithin_spec s t a b x y 1100000 p q hx hy ha hb la lb (by decide)
    have bb : ∀ u : Bool, (u == u) = true := fun u => by cases u <;> rfl
    generalize eqV p q (loQ (zv s a) x) (loQ (hiN (zv s a) p) x) (loQ (zv t b) y) (loQ (hiN (zv t b) q) y) = v1 at *
    generalize cpV (cq (loQ (hiN (zv s a) p) x) (loQ (zv t b) y)) (cq (loQ (zv s a) x) (loQ (hiN (zv t b) q) y)) (!p || !q) = v2 at *
    generalize (decide (0 ≤ cq (loQ (hiN (zv s a) p) x) (loQ (zv t b) y)) && decide (cq (loQ (zv s a) x) (loQ (hiN (zv t b) q) y) ≤ 0)) = v3 at *
    generalize wiV p q (loQ (zv s a) x) (loQ (hiN (zv s a) p) x) (loQ (zv t b) y) (loQ (hiN (zv t b) q) y) = v4 at *
    generalize (x : Int) = xx at *
    generalize (y : Int) = yy at *
    have b1 := bb v1
    have b3 := bb v3
    have b4 := bb v4
    refine mkQ fol J0s Tryz.func4 a4 ?_
    unfold a4
    simp only [init_eq, initE, qm, qr, qn]
    exact wdQ (ai @b4 (ai @b3 (ai @b1 (ai @eqsA @bz_LCForms))))
  · have r1 := requalE_spec s t a b k' j' p q h0
    have g1 := csameE_spec s t a b k' j' p q h0
    have r2 := rccmpE_spec s t a b k' j' p q h0
    have g2 := ccmpE_spec s t a b k' j' p q h0
    have r3 := rtouchE_spec s t a b k' j' p q h0
    have g3 := ctouchE_spec s t a b k' j' p q h0
    have r4 := rwithinE_spec s t a b k' j' p q h0
    have g4 := cwithinE_spec s t a b k' j' p q h0
    generalize ck2 k' j' = e at *
    refine mkQ fol J0s Tryz.func4 a4 ?_
    unfold a4
    simp only [init_eq, initE, qm, qr, qn]
    exact wdQ (ai @eqsA @bz_LCForms)
end Go.Proofs.YtbfoplcpgpienaaGreatDoor
