/-
  gauss: the values at many as a row of the caller's.
-/
import Derived.Test.YteaiegppmbcibaaG8
namespace Go.Proofs.Yteaiegppmbcibaa
open Go Go.RowKit Ab
set_option linter.unusedSimpArgs false
set_option linter.unusedVariables false
set_option maxHeartbeats 10000000
theorem bz_BG1 : type_of% (And.intro @W_len (And.intro @D_len (And.intro @Nat.div_one (And.intro @Nat.mul_one (And.intro @tn_nat (And.intro @W_nf (And.intro @D_nf (And.intro @W_nil (And.intro @D_nil (And.intro @wi (And.intro @nf_g (And.intro @Bool.false_and (And.intro @W_cell (And.intro @ZC_cell (@ZC_nil))))))))))))))) := And.intro @W_len (And.intro @D_len (And.intro @Nat.div_one (And.intro @Nat.mul_one (And.intro @tn_nat (And.intro @W_nf (And.intro @D_nf (And.intro @W_nil (And.intro @D_nil (And.intro @wi (And.intro @nf_g (And.intro @Bool.false_and (And.intro @W_cell (And.intro @ZC_cell (@ZC_nil))))))))))))))
theorem gvalsO (l : List (Bool × List Nat)) (m : Nat) (hm : m ≤ 100000000) (hl : ZOk l m) (zs : List GZ) (lz : zs.length ≤ 100000000) (hall : ∀ z, z ∈ zs → vOk (zcs l) z) : AFun Try.prog J0 8 [.l 2 (ZC l), .l 2 (NC zs)] (.to 38 2 (NC (zs.map (vF (zcs l)))) [.i .i64 0]) := by
  have hv := gvalS l m hm hl
  have hnl : (NC zs).length / 2 = zs.length := by rw [NC_len]; omega
  have hnz := NC_len zs
  obtain ⟨n, hn⟩ : ∃ n, n = zs.length := ⟨_, rfl⟩
  rw [← hn] at hnl hnz
  refine AFun.mkt fol J0s Try.func8 rfl (ac := a8) (by kernel_rfl) rfl (by decide) rfl (by decide) ?_
  apply vm_start
  unfold a8
  simp only [init_eq, initE, qm, qr, qn]
  refine spQ (ai @hnl @bz_BG1) ?_
  refine vm_loopA [(6, 38, 2)] Nat (fun i => ⟨[(0, .l 2 (ZC l)), (6, .ow 2 0 i), (11, .l 2 (NC zs)), (12, .i .i64 (n : Int)), (13, .i .i64 (i : Int))],
      [(0, some ⟨38, 2, NC ((zs.take i).map (vF (zcs l))), true, false⟩)], 1⟩)
    (fun i => i ≤ n) (fun i => n - i) 0 (Nat.zero_le _) (by exact leQ) (by
    exact ltQ) ?_
  intro i hi Q' hQ he hr
  by_cases h : (i : Int) < (n : Int)
  · have hiz : i < zs.length := by omega
    have row := NC_row zs i hiz
    have hvi := hv (zs.getD i (0, 0))
    have hsn := GZ_snoc zs i hiz
    have hok := hall _ (GZ_mem hiz)
    generalize zs.getD i (0, 0) = z at *
    simp only [nV] at hvi
    rw [show vE (zcs l) z = 0 from if_pos hok] at hvi
    have hap := NC_app1 ((zs.take i).map (vF (zcs l))) (vF (zcs l) z).1 (vF (zcs l) z).2
    have hap2 : (zs.take i).map (vF (zcs l)) ++ [((vF (zcs l) z).1, (vF (zcs l) z).2)] = (zs.take (i + 1)).map (vF (zcs l)) := by rw [hsn, List.map_append]; rfl
    rw [hap2] at hap
    have l0 := NC_len ((zs.take i).map (vF (zcs l)))
    have l1 := NC_len ((zs.take (i + 1)).map (vF (zcs l)))
    rw [List.length_map, List.length_take] at l0 l1
    refine wkQ (ai @hap (ai @row (ai @hnz (ai @h @bz_BG1)))) ?_
    refine hQ _ (i + 1) (by omega) (by omega) ?_
    exact ltQ
  · obtain rfl : i = n := by omega
    rw [show zs.take i = zs from by rw [hn, List.take_length]]
    refine spQ (ai @h @bz_BG1) ?_
    refine he _ _ ?_
    refine spQ @bz_BG1 ?_
    exact ⟨⟨_, _, rfl, rfl, rfl⟩, ⟨rfl, rfl⟩, trivial⟩
theorem gsquareO (mid : GZ) (q : Nat) (h1 : ¬ (q : Int) < 1) (h2 : ¬ 4096 < (q : Int)) (h3 : gsz mid < SM) (h4 : gsz mid + 2 * q < SM) : AFun Try.prog J0 9 [nV mid, .i .i64 (q : Int)] (.to 38 2 (NC (sqs mid q (8 * q))) [.i .i64 0]) := by
  have p1 := gsize_ok h3
  have hin := inside_spec mid h3
  have hsz := fun k hk => sqz (k := k) h4 hk
  have hout := fun k hk => outside_spec (gadd mid (sqp q k)) (hsz k hk)
  simp only [nV, gadd] at p1 hin hout
  have h5 : ¬ (1125899906842624 : Int) ≤ (gsz mid : Int) + 2 * (q : Int) := by simp only [SM] at h4; omega
  have hq : (q : Int).natAbs < 9007199254740992 := by omega
  have hz0 : (mid.1 - (q : Int)).natAbs < 9007199254740992 ∧ (mid.2 - (q : Int)).natAbs < 9007199254740992 := by unfold gsz at h4; simp only [SM] at h4; omega
  have e01 : (sqp q 0).1 = -(q : Int) := by unfold sqp; rw [if_pos (by omega)]; simp
  have e02 : (sqp q 0).2 = -(q : Int) := by unfold sqp; rw [if_pos (by omega)]
  refine AFun.mkt fol J0s Try.func9 rfl (ac := a9) (by kernel_rfl) rfl (by decide) rfl (by decide) ?_
  apply vm_start
  unfold a9
  simp only [init_eq, initE, qm, qr, qn]
  refine wkQ (ai @hz0 (ai @hq (ai @h5 (ai @h2 (ai @h1 @bz_BG1))))) ?_
  refine vm_loopA [(10, 38, 2)] Nat (fun s => ⟨[(1, .i .i64 (q : Int)), (8, .z (mid.1 + (sqp q (2 * q * s)).1) (mid.2 + (sqp q (2 * q * s)).2)), (9, .z (gpow (0, 1) s).1 (gpow (0, 1) s).2), (10, .ow 2 0 (2 * q * s)), (39, .i .i64 (s : Int))],
      [(0, some ⟨38, 2, NC (sqs mid q (2 * q * s)), true, false⟩)], 1⟩)
    (fun s => s ≤ 4) (fun s => 4 - s) 0 (Nat.zero_le _) (by exact leQ) (by
    simp (disch := (first | omega | assumption)) only [Sl, Sa, Sw, ↓reduceIte, Nat.reduceEqDiff, Nat.reduceLT, List.all_nil, List.all_cons, Nat.reduceBneDiff, Nat.reduceAdd, bne_iff_ne, ne_eq, reduceCtorEq, not_false_eq_true, not_true_eq_false, Bool.and_true, Bool.true_and, and_true, true_and, and_self, i_eq, z_eq]
    simp only [Nat.mul_zero]
    rw [e01, e02]
    repeat' first | rfl | omega | (simp only [List.length_append, List.length_cons, List.length_nil]; done) | apply And.intro) ?_
  rintro s hs Q' hQ he hr
  by_cases hs4 : (s : Int) < 4
  · have hs4' : s < 4 := by omega
    have hq2 : IntKind.i64.wrap (2 * (q : Int)) = ((2 * q : Nat) : Int) := by rw [wi (by omega)]; rfl
    refine spQ (ai @hq2 (ai @hs4 @bz_BG1)) ?_
    refine vm_loopA [] Nat (fun t => ⟨[(1, .i .i64 (q : Int)), (8, .z (mid.1 + (sqp q (2 * q * s + t)).1) (mid.2 + (sqp q (2 * q * s + t)).2)), (9, .z (gpow (0, 1) s).1 (gpow (0, 1) s).2), (10, .ow 2 0 (2 * q * s + t)), (39, .i .i64 (s : Int)), (42, .i .i64 ((2 * q : Nat) : Int)), (43, .i .i64 (t : Int))],
        [(0, some ⟨38, 2, NC (sqs mid q (2 * q * s + t)), true, false⟩)], 1⟩)
      (fun t => t ≤ 2 * q) (fun t => 2 * q - t) 0 (Nat.zero_le _) (by exact leQ) (by
      simp (disch := (first | omega | assumption)) only [Sl, Sa, Sw, ↓reduceIte, Nat.reduceEqDiff, Nat.reduceLT, List.all_nil, List.all_cons, Nat.reduceBneDiff, Nat.reduceAdd, bne_iff_ne, ne_eq, reduceCtorEq, not_false_eq_true, not_true_eq_false, Bool.and_true, Bool.true_and, and_true, true_and, and_self, i_eq, z_eq]
      repeat' first | rfl | omega | (simp only [List.length_append, List.length_cons, List.length_nil]; done) | apply And.intro) ?_
    rintro t ht Q2 hQ2 he2 hr2
    have hk8 : 2 * q * s + t ≤ 8 * q := by
      have : s = 0 ∨ s = 1 ∨ s = 2 ∨ s = 3 := by omega
      rcases this with rfl | rfl | rfl | rfl <;> omega
    by_cases htq : (t : Int) < ((2 * q : Nat) : Int)
    · have htq' : t < 2 * q := by omega
      have ho := hout _ hk8
      obtain ⟨s1, s2⟩ := sqp_step (r := q) hs4' htq'
      have hk9 : 2 * q * s + t + 1 ≤ 8 * q := by
        have : s = 0 ∨ s = 1 ∨ s = 2 ∨ s = 3 := by omega
        rcases this with rfl | rfl | rfl | rfl <;> omega
      have hb1 := hsz _ hk9
      have hb0 := hsz _ hk8
      have hsu := sqs_succ mid q (2 * q * s + t)
      have hl := NC_len (sqs mid q (2 * q * s + t))
      have hl1 := NC_len (sqs mid q (2 * q * s + t + 1))
      rw [sqs_len] at hl hl1
      have hap := NC_app1 (sqs mid q (2 * q * s + t)) (mid.1 + (sqp q (2 * q * s + t)).1) (mid.2 + (sqp q (2 * q * s + t)).2)
      rw [show sqs mid q (2 * q * s + t) ++ [(mid.1 + (sqp q (2 * q * s + t)).1, mid.2 + (sqp q (2 * q * s + t)).2)] = sqs mid q (2 * q * s + t + 1) from hsu.symm] at hap
      have e1 : mid.1 + (sqp q (2 * q * s + t)).1 + (gpow (0, 1) s).1 = mid.1 + (sqp q (2 * q * s + t + 1)).1 := by rw [s1, Int.add_assoc]
      have e2 : mid.2 + (sqp q (2 * q * s + t)).2 + (gpow (0, 1) s).2 = mid.2 + (sqp q (2 * q * s + t + 1)).2 := by rw [s2, Int.add_assoc]
      have hz : (mid.1 + (sqp q (2 * q * s + t)).1 + (gpow (0, 1) s).1).natAbs < 9007199254740992 ∧ (mid.2 + (sqp q (2 * q * s + t)).2 + (gpow (0, 1) s).2).natAbs < 9007199254740992 := by
        rw [e1, e2]
        unfold gsz gadd at hb1
        simp only [SM] at hb1
        omega
      have hq0 : 2 * q * s + t ≤ 32768 := by omega
      refine wkQ (ai @hz (ai @hap (ai @htq @bz_BG1))) ?_
      refine hQ2 _ (t + 1) (by omega) (by omega) ?_
      rw [← Nat.add_assoc]
      simp (disch := (first | omega | assumption)) only [Sl, Sa, Sw, ↓reduceIte, Nat.reduceEqDiff, Nat.reduceLT, List.all_nil, List.all_cons, Nat.reduceBneDiff, Nat.reduceAdd, bne_iff_ne, ne_eq, reduceCtorEq, not_false_eq_true, not_true_eq_false, Bool.and_true, Bool.true_and, and_true, true_and, and_self, i_eq, z_eq]
      repeat' first | rfl | omega | (simp only [List.length_append, List.length_cons, List.length_nil]; done) | apply And.intro
      all_goals first | exact e1 | exact e2
    · obtain rfl : t = 2 * q := by omega
      have ek : 2 * q * s + 2 * q = 2 * q * (s + 1) := by rw [Nat.mul_add, Nat.mul_one]
      have hz := gmul_ok (x := gpow (0, 1) s) (y := (0, 1)) (by rw [gi_sz hs4']; decide)
      simp only [] at hz
      refine spQ (ai @htq @bz_BG1) ?_
      refine he2 _ _ ?_
      refine spQ (ai @hz @bz_BG1) ?_
      refine hQ _ (s + 1) (by omega) (by omega) ?_
      rw [← ek]
      simp (disch := (first | omega | assumption)) only [Sl, Sa, Sw, ↓reduceIte, Nat.reduceEqDiff, Nat.reduceLT, List.all_nil, List.all_cons, Nat.reduceBneDiff, Nat.reduceAdd, bne_iff_ne, ne_eq, reduceCtorEq, not_false_eq_true, not_true_eq_false, Bool.and_true, Bool.true_and, and_true, true_and, and_self, i_eq, z_eq]
      repeat' first | rfl | omega | (simp only [List.length_append, List.length_cons, List.length_nil]; done) | apply And.intro
  · obtain rfl : s = 4 := by omega
    have ek : 2 * q * 4 = 8 * q := by omega
    rw [ek]
    have hl := NC_len (sqs mid q (8 * q))
    rw [sqs_len] at hl
    refine spQ (ai @hs4 @bz_BG1) ?_
    refine he _ _ ?_
    refine spQ @bz_BG1 ?_
    exact ⟨⟨_, _, rfl, rfl, rfl⟩, ⟨rfl, rfl⟩, trivial⟩
end Go.Proofs.Yteaiegppmbcibaa
