/-
  gauss: squares, around.
-/
import Derived.Test.YteaiegppmbcibaaG7
namespace Go.Proofs.Yteaiegppmbcibaa
open Go Go.RowKit Ab
set_option linter.unusedSimpArgs false
set_option linter.unusedVariables false
set_option maxHeartbeats 10000000
theorem bz_G8 : type_of% (And.intro @W_len (And.intro @D_len (And.intro @Nat.div_one (And.intro @Nat.mul_one (And.intro @tn_nat (And.intro @W_nf (And.intro @D_nf (And.intro @W_nil (And.intro @D_nil (And.intro @wi (And.intro @nf_g (And.intro @Bool.false_and (And.intro @W_cell (And.intro @ZC_cell (@ZC_nil))))))))))))))) := And.intro @W_len (And.intro @D_len (And.intro @Nat.div_one (And.intro @Nat.mul_one (And.intro @tn_nat (And.intro @W_nf (And.intro @D_nf (And.intro @W_nil (And.intro @D_nil (And.intro @wi (And.intro @nf_g (And.intro @Bool.false_and (And.intro @W_cell (And.intro @ZC_cell (@ZC_nil))))))))))))))
theorem sqz {mid : GZ} {r k : Nat} (hb : gsz mid + 2 * r < SM) (hk : k ≤ 8 * r) : gsz (gadd mid (sqp r k)) < SM := by
  have h := sqp_bnd hk
  unfold gsz gadd at *
  simp only []
  omega
theorem gi_sz {s : Nat} (h : s < 4) : gsz (gpow (0, 1) s) = 1 := by
  rw [gpow_i s h]
  have : s = 0 ∨ s = 1 ∨ s = 2 ∨ s = 3 := by omega
  rcases this with rfl | rfl | rfl | rfl <;> rfl
def a9 : AC := .seq (.reg [qr 2 (.bx 38 (.t 0)),
 qr 4 (.mv (.k .nl)),
 qr 5 (.mv (.k (.i .i64 0)))])
 (.seq (.seq (.reg [qm 11 1,
 qr 12 (.bin .lss (.t 11) (.k (.i .i64 1))),
 qm 13 12,
 ⟨some 14, some (13, false), .mv (.t 1)⟩,
 ⟨some 15, some (13, false), .bin .gtr (.t 14) (.k (.i .i64 4096))⟩,
 qr 16 (.pick (.t 13) (.k (.b true)) (.t 15))])
 (.cond (.t 16)
 (.seq (.reg [qr 4 (.mv (.k .nl)),
 qr 5 (.mv (.k (.i .i64 3)))])
 (.ret))
 (.skip)))
 (.seq (.reg [qr 18 (.ld true 2 (.t 2)),
 qr 19 (.call 19 [(1, (.t 18))]),
 qm 17 19,
 qr 20 (.ext (.t 17) 0),
 qr 21 (.ext (.t 17) 1),
 qm 6 20,
 qm 7 21])
 (.seq (.seq (.reg [qm 22 7,
 qr 23 (.bin .neq (.t 22) (.k (.i .i64 0))),
 qm 24 23,
 ⟨some 25, some (24, false), .mv (.t 6)⟩,
 ⟨some 26, some (24, false), .mv (.t 1)⟩,
 ⟨some 27, some (24, false), .bin .mul (.k (.i .i64 2)) (.t 26)⟩,
 ⟨some 28, some (24, false), .bin .add (.t 25) (.t 27)⟩,
 ⟨some 29, some (24, false), .bin .geq (.t 28) (.k (.i .i64 1125899906842624))⟩,
 qr 30 (.pick (.t 24) (.k (.b true)) (.t 29))])
 (.cond (.t 30)
 (.seq (.reg [qr 4 (.mv (.k .nl)),
 qr 5 (.mv (.k (.i .i64 13)))])
 (.ret))
 (.skip)))
 (.seq (.reg [qr 31 (.ld true 2 (.t 2)),
 qr 32 (.call 20 [(1, (.t 31))]),
 qm 33 1,
 qr 34 (.pur (.nm .i2f) [(.t 33)]),
 qm 35 1,
 qr 36 (.pur (.nm .i2f) [(.t 35)]),
 qr 37 (.pur (.nm .mkz) [(.t 34), (.t 36)]),
 qr 38 (.pur (.nm .zsub) [(.t 32), (.t 37)]),
 qm 8 38,
 qr 9 (.mv (.k (.z 1 0)))])
 (.seq (.reg [qr 10 (.mv (.k .nl))])
 (.seq (.seq (.reg [qr 39 (.mv (.k (.i .i64 0)))])
 (.blk 0
 (.loop
 (.seq (.reg [qr 40 (.bin .lss (.t 39) (.k (.i .i64 4)))])
 (.seq (.cond (.t 40)
 (.skip)
 (.exit 0))
 (.seq (.blk 1
 (.seq (.seq (.reg [qm 41 1,
 qr 42 (.bin .mul (.k (.i .i64 2)) (.t 41)),
 qr 43 (.mv (.k (.i .i64 0)))])
 (.blk 2
 (.loop
 (.seq (.reg [qr 44 (.bin .lss (.t 43) (.t 42))])
 (.seq (.cond (.t 44)
 (.skip)
 (.exit 2))
 (.seq (.blk 3
 (.seq (.reg [qm 45 10,
 qm 46 8,
 qr 47 (.call 21 [(1, (.t 46))]),
 qr 48 (.bsl 38 2 1 [(.i .i64 0), (.i .i64 0)] [(0, (.t 47))]),
 qr 49 (.app 38 2 16 (.t 45) (.t 48)),
 qm 10 49])
 (.reg [qm 50 8,
 qm 51 9,
 qr 52 (.pur (.nm .zadd) [(.t 50), (.t 51)]),
 qm 8 52])))
 (.reg [qr 53 (.bin .add (.t 43) (.k (.i .i64 1))),
 qm 43 53])))))))
 (.reg [qm 54 9,
 qr 55 (.pur (.nm .zmul) [(.t 54), (.k (.z 0 1))]),
 qm 9 55])))
 (.reg [qr 56 (.bin .add (.t 39) (.k (.i .i64 1))),
 qm 39 56])))))))
 (.seq (.reg [qm 57 10,
 qm 4 57,
 qr 5 (.mv (.k (.i .i64 0)))])
 (.ret))))))))
theorem gsquareS (mid : GZ) (r : Int) (hr0 : Pi r) : AFun Try.prog J0 9 [nV mid, .i .i64 r] (.t [.l 2 (NC (sqF mid r)), .i .i64 (sqE mid r)]) := by
  by_cases h1 : r < 1
  · have e : sqE mid r = 3 := if_pos (.inl h1)
    rw [show sqF mid r = [] from if_neg (by rw [e]; decide), e]
    simp only [nV]
    refine mkQ fol J0s Try.func9 a9 ?_
    unfold a9
    simp only [init_eq, initE, qm, qr, qn]
    refine spQ (ai @h1 @bz_G8) ?_
    exact rtQ (ai @NC_nil @bz_G8)
  · by_cases h2 : 4096 < r
    · have e : sqE mid r = 3 := if_pos (.inr h2)
      rw [show sqF mid r = [] from if_neg (by rw [e]; decide), e]
      simp only [nV]
      refine mkQ fol J0s Try.func9 a9 ?_
      unfold a9
      simp only [init_eq, initE, qm, qr, qn]
      refine spQ (ai @h2 (ai @h1 @bz_G8)) ?_
      exact rtQ (ai @NC_nil @bz_G8)
    · obtain ⟨q, rfl⟩ : ∃ q : Nat, r = (q : Int) := ⟨r.toNat, by omega⟩
      by_cases h3 : gsz mid < SM
      · have p1 := gsize_ok h3
        have hin := inside_spec mid h3
        have es : sqE mid q = if (gsz mid : Int) + 2 * (q : Int) < SM then 0 else 13 := if_neg (by omega)
        by_cases h4 : gsz mid + 2 * q < SM
        · have e : sqE mid q = 0 := by rw [es]; exact if_pos (by omega)
          rw [show sqF mid q = sqs mid q (8 * q) from if_pos e, e]
          have hsz := fun k hk => sqz (k := k) h4 hk
          have hout := fun k hk => outside_spec (gadd mid (sqp q k)) (hsz k hk)
          simp only [nV, gadd] at p1 hin hout
          have h5 : ¬ (1125899906842624 : Int) ≤ (gsz mid : Int) + 2 * (q : Int) := by simp only [SM] at h4; omega
          have hq : (q : Int).natAbs < 9007199254740992 := by omega
          have hz0 : (mid.1 - (q : Int)).natAbs < 9007199254740992 ∧ (mid.2 - (q : Int)).natAbs < 9007199254740992 := by unfold gsz at h4; simp only [SM] at h4; omega
          have e01 : (sqp q 0).1 = -(q : Int) := by unfold sqp; rw [if_pos (by omega)]; simp
          have e02 : (sqp q 0).2 = -(q : Int) := by unfold sqp; rw [if_pos (by omega)]
          refine mkQ fol J0s Try.func9 a9 ?_
          unfold a9
          simp only [init_eq, initE, qm, qr, qn]
          refine wkQ (ai @hz0 (ai @hq (ai @h5 (ai @h2 (ai @h1 @bz_G8))))) ?_
          refine vm_loopA [(10, 38, 2)] Nat (fun s => ⟨[(1, .i .i64 (q : Int)), (8, .z (mid.1 + (sqp q (2 * q * s)).1) (mid.2 + (sqp q (2 * q * s)).2)), (9, .z (gpow (0, 1) s).1 (gpow (0, 1) s).2), (10, .ow 2 0 (2 * q * s)), (39, .i .i64 (s : Int))],
              [(0, some ⟨38, 2, NC (sqs mid q (2 * q * s)), true, false⟩)], 1⟩)
            (fun s => s ≤ 4) (fun s => 4 - s) 0 (Nat.zero_le _) (by exact leQ) (by
            simp (disch := (first | omega | assumption)) only [Sl, Sa, Sw, ↓reduceIte, Nat.reduceEqDiff, Nat.reduceLT, List.all_nil, List.all_cons, Nat.reduceBneDiff, Nat.reduceAdd, bne_iff_ne, ne_eq, reduceCtorEq, not_false_eq_true, not_true_eq_false, Bool.and_true, Bool.true_and, and_true, true_and, and_self, i_eq, z_eq]
            simp only [Nat.mul_zero]
            rw [e01, e02]
            repeat' first | rfl | omega | (simp only [List.length_append, List.length_cons, List.length_nil]; done) | apply And.intro) ?_
          rintro s hs Q' hQ he hr
          by_cases hs4 : (s : Int) < 4
          · have hs4' : s < 4 := by omega
            have hq2 : IntKind.i64.wrap (2 * (q : Int)) = ((2 * q : Nat) : Int) := by rw [wi (by omega)]; rfl
            refine spQ (ai @hq2 (ai @hs4 @bz_G8)) ?_
            refine vm_loopA [] Nat (fun t => ⟨[(1, .i .i64 (q : Int)), (8, .z (mid.1 + (sqp q (2 * q * s + t)).1) (mid.2 + (sqp q (2 * q * s + t)).2)), (9, .z (gpow (0, 1) s).1 (gpow (0, 1) s).2), (10, .ow 2 0 (2 * q * s + t)), (39, .i .i64 (s : Int)), (42, .i .i64 ((2 * q : Nat) : Int)), (43, .i .i64 (t : Int))],
                [(0, some ⟨38, 2, NC (sqs mid q (2 * q * s + t)), true, false⟩)], 1⟩)
              (fun t => t ≤ 2 * q) (fun t => 2 * q - t) 0 (Nat.zero_le _) (by exact leQ) (by
              simp (disch := (first | omega | assumption)) only [Sl, Sa, Sw, ↓reduceIte, Nat.reduceEqDiff, Nat.reduceLT, List.all_nil, List.all_cons, Nat.reduceBneDiff, Nat.reduceAdd, bne_iff_ne, ne_eq, reduceCtorEq, not_false_eq_true, not_true_eq_false, Bool.and_true, Bool.true_and, and_true, true_and, and_self, i_eq, z_eq]
              repeat' first | rfl | omega | (simp only [List.length_append, List.length_cons, List.length_nil]; done) | apply And.intro) ?_
            rintro t ht Q2 hQ2 he2 hr2
            have hk8 : 2 * q * s + t ≤ 8 * q := by
              have : s = 0 ∨ s = 1 ∨ s = 2 ∨ s = 3 := by omega
              rcases this with rfl | rfl | rfl | rfl <;> omega
            by_cases htq : (t : Int) < ((2 * q : Nat) : Int)
            · have htq' : t < 2 * q := by omega
              have ho := hout _ hk8
              obtain ⟨s1, s2⟩ := sqp_step (r := q) hs4' htq'
              have hk9 : 2 * q * s + t + 1 ≤ 8 * q := by
                have : s = 0 ∨ s = 1 ∨ s = 2 ∨ s = 3 := by omega
                rcases this with rfl | rfl | rfl | rfl <;> omega
              have hb1 := hsz _ hk9
              have hb0 := hsz _ hk8
              have hsu := sqs_succ mid q (2 * q * s + t)
              have hl := NC_len (sqs mid q (2 * q * s + t))
              have hl1 := NC_len (sqs mid q (2 * q * s + t + 1))
              rw [sqs_len] at hl hl1
              have hap := NC_app1 (sqs mid q (2 * q * s + t)) (mid.1 + (sqp q (2 * q * s + t)).1) (mid.2 + (sqp q (2 * q * s + t)).2)
              rw [show sqs mid q (2 * q * s + t) ++ [(mid.1 + (sqp q (2 * q * s + t)).1, mid.2 + (sqp q (2 * q * s + t)).2)] = sqs mid q (2 * q * s + t + 1) from hsu.symm] at hap
              have e1 : mid.1 + (sqp q (2 * q * s + t)).1 + (gpow (0, 1) s).1 = mid.1 + (sqp q (2 * q * s + t + 1)).1 := by rw [s1, Int.add_assoc]
              have e2 : mid.2 + (sqp q (2 * q * s + t)).2 + (gpow (0, 1) s).2 = mid.2 + (sqp q (2 * q * s + t + 1)).2 := by rw [s2, Int.add_assoc]
              have hz : (mid.1 + (sqp q (2 * q * s + t)).1 + (gpow (0, 1) s).1).natAbs < 9007199254740992 ∧ (mid.2 + (sqp q (2 * q * s + t)).2 + (gpow (0, 1) s).2).natAbs < 9007199254740992 := by
                rw [e1, e2]
                unfold gsz gadd at hb1
                simp only [SM] at hb1
                omega
              have hq0 : 2 * q * s + t ≤ 32768 := by omega
              refine wkQ (ai @hz (ai @hap (ai @htq @bz_G8))) ?_
              refine hQ2 _ (t + 1) (by omega) (by omega) ?_
              rw [← Nat.add_assoc]
              simp (disch := (first | omega | assumption)) only [Sl, Sa, Sw, ↓reduceIte, Nat.reduceEqDiff, Nat.reduceLT, List.all_nil, List.all_cons, Nat.reduceBneDiff, Nat.reduceAdd, bne_iff_ne, ne_eq, reduceCtorEq, not_false_eq_true, not_true_eq_false, Bool.and_true, Bool.true_and, and_true, true_and, and_self, i_eq, z_eq]
              repeat' first | rfl | omega | (simp only [List.length_append, List.length_cons, List.length_nil]; done) | apply And.intro
              all_goals first | exact e1 | exact e2
            · obtain rfl : t = 2 * q := by omega
              have ek : 2 * q * s + 2 * q = 2 * q * (s + 1) := by rw [Nat.mul_add, Nat.mul_one]
              have hz := gmul_ok (x := gpow (0, 1) s) (y := (0, 1)) (by rw [gi_sz hs4']; decide)
              simp only [] at hz
              refine spQ (ai @htq @bz_G8) ?_
              refine he2 _ _ ?_
              refine spQ (ai @hz @bz_G8) ?_
              refine hQ _ (s + 1) (by omega) (by omega) ?_
              rw [← ek]
              simp (disch := (first | omega | assumption)) only [Sl, Sa, Sw, ↓reduceIte, Nat.reduceEqDiff, Nat.reduceLT, List.all_nil, List.all_cons, Nat.reduceBneDiff, Nat.reduceAdd, bne_iff_ne, ne_eq, reduceCtorEq, not_false_eq_true, not_true_eq_false, Bool.and_true, Bool.true_and, and_true, true_and, and_self, i_eq, z_eq]
              repeat' first | rfl | omega | (simp only [List.length_append, List.length_cons, List.length_nil]; done) | apply And.intro
          · obtain rfl : s = 4 := by omega
            have ek : 2 * q * 4 = 8 * q := by omega
            rw [ek]
            have hl := NC_len (sqs mid q (8 * q))
            rw [sqs_len] at hl
            refine spQ (ai @hs4 @bz_G8) ?_
            refine he _ _ ?_
            refine spQ @bz_G8 ?_
            exact rtQ @bz_G8
        · have e : sqE mid q = 13 := by rw [es]; exact if_neg (by omega)
          rw [show sqF mid q = [] from if_neg (by rw [e]; decide), e]
          have h5 : (1125899906842624 : Int) ≤ (gsz mid : Int) + 2 * (q : Int) := by simp only [SM] at h4; omega
          simp only [nV] at *
          simp only [SM] at h3
          refine mkQ fol J0s Try.func9 a9 ?_
          unfold a9
          simp only [init_eq, initE, qm, qr, qn]
          refine wkQ (ai @h5 (ai @h2 (ai @h1 @bz_G8))) ?_
          exact rtQ (ai @NC_nil @bz_G8)
      · have p1 := gsize_bad h3
        have e : sqE mid q = 13 := by unfold sqE; rw [if_neg (by omega), if_neg (by omega)]
        rw [show sqF mid q = [] from if_neg (by rw [e]; decide), e]
        simp only [nV] at *
        refine mkQ fol J0s Try.func9 a9 ?_
        unfold a9
        simp only [init_eq, initE, qm, qr, qn]
        refine wkQ (ai @h2 (ai @h1 @bz_G8)) ?_
        exact rtQ (ai @NC_nil @bz_G8)
theorem sqF_len (mid : GZ) (r : Int) : (sqF mid r).length ≤ 32768 := by
  unfold sqF
  split
  · rename_i h
    rw [sqs_len]
    unfold sqE at h
    split at h
    · cases h
    · omega
  · exact Nat.zero_le _
theorem vsF_len (l : List Int) (zs : List GZ) : (vsF l zs).length ≤ zs.length := by unfold vsF; split <;> simp
def a16 : AC := .seq (.reg [qr 4 (.bx 38 (.t 1)),
 qr 6 (.mv (.k (.i .i64 0))),
 qr 7 (.mv (.k (.i .i64 0)))])
 (.seq (.reg [qr 12 (.ld true 2 (.t 4)),
 qm 13 2,
 qr 14 (.call 9 [(1, (.t 12)), (1, (.t 13))]),
 qm 11 14,
 qr 15 (.ext (.t 11) 0),
 qr 16 (.ext (.t 11) 1),
 qm 8 15,
 qm 9 16])
 (.seq (.seq (.reg [qm 17 9,
 qr 18 (.bin .neq (.t 17) (.k (.i .i64 0)))])
 (.cond (.t 18)
 (.seq (.reg [qm 19 9,
 qr 6 (.mv (.k (.i .i64 0))),
 qm 7 19])
 (.ret))
 (.skip)))
 (.seq (.reg [qm 21 0,
 qm 22 8,
 qr 23 (.call 8 [(2, (.t 21)), (2, (.t 22))]),
 qm 20 23,
 qr 24 (.ext (.t 20) 0),
 qr 25 (.ext (.t 20) 1),
 qm 10 24,
 qm 9 25])
 (.seq (.seq (.reg [qm 26 9,
 qr 27 (.bin .neq (.t 26) (.k (.i .i64 0)))])
 (.cond (.t 27)
 (.seq (.reg [qm 28 9,
 qr 6 (.mv (.k (.i .i64 0))),
 qm 7 28])
 (.ret))
 (.skip)))
 (.seq (.reg [qm 29 10,
 qr 30 (.call 10 [(2, (.t 29))]),
 qr 31 (.ext (.t 30) 0),
 qr 32 (.ext (.t 30) 1),
 qm 6 31,
 qm 7 32])
 (.ret))))))
theorem garoundS (l : List (Bool × List Nat)) (m : Nat) (hm : m ≤ 100000000) (hl : ZOk l m) (mid : GZ) (r : Int) (hr0 : Pi r) : AFun Try.prog J0 16 [.l 2 (ZC l), nV mid, .i .i64 r] (.t [.i .i64 (arF (zcs l) mid r), .i .i64 (arE (zcs l) mid r)]) := by
  have h1 := gsquareS mid r hr0
  have l1 := sqF_len mid r
  have h2 := gvalsS l m hm hl (sqF mid r) (by omega)
  have l2 := vsF_len (zcs l) (sqF mid r)
  have h3 := gturnsS (vsF (zcs l) (sqF mid r)) (by omega)
  obtain ⟨R, hR⟩ : ∃ R, R = arF (zcs l) mid r := ⟨_, rfl⟩
  obtain ⟨e, he0⟩ : ∃ e, e = arE (zcs l) mid r := ⟨_, rfl⟩
  rw [← hR, ← he0]
  have hR0 : e ≠ 0 → R = 0 := fun h => by rw [hR]; unfold arF; rw [← he0, if_neg h]
  simp only [nV] at *
  by_cases c1 : sqE mid r = 0
  · rw [c1] at h1
    by_cases c2 : vsE (zcs l) (sqF mid r) = 0
    · rw [c2] at h2
      have e3 : e = tuE (vsF (zcs l) (sqF mid r)) := by rw [he0]; unfold arE; rw [if_pos c1, if_pos c2]
      have r3 : R = tuF (vsF (zcs l) (sqF mid r)) := by
        by_cases h : e = 0
        · rw [hR]; unfold arF; rw [← he0, if_pos h]
        · rw [hR0 h]; unfold tuF; rw [← e3, if_neg h]
      rw [← e3, ← r3] at h3
      generalize vsF (zcs l) (sqF mid r) = vs at *
      generalize sqF mid r = sq at *
      refine mkQ fol J0s Try.func16 a16 ?_
      unfold a16
      simp only [init_eq, initE, qm, qr, qn]
      exact wdQ @bz_G8
    · have e3 : e = vsE (zcs l) (sqF mid r) := by rw [he0]; unfold arE; rw [if_pos c1, if_neg c2]
      rw [← e3] at h2 c2
      rw [hR0 c2]
      generalize vsF (zcs l) (sqF mid r) = vs at *
      generalize sqF mid r = sq at *
      refine mkQ fol J0s Try.func16 a16 ?_
      unfold a16
      simp only [init_eq, initE, qm, qr, qn]
      exact wdQ (ai @c2 @bz_G8)
  · have e3 : e = sqE mid r := by rw [he0]; unfold arE; rw [if_neg c1]
    rw [← e3] at h1 c1
    rw [hR0 c1]
    generalize sqF mid r = sq at *
    refine mkQ fol J0s Try.func16 a16 ?_
    unfold a16
    simp only [init_eq, initE, qm, qr, qn]
    exact wdQ (ai @c1 @bz_G8)
end Go.Proofs.Yteaiegppmbcibaa
