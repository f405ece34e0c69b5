/-
  slices: the turning of blocks, sorting by insertion.
-/
import Derived.Test.YtdafakcccjjpiaaNS1
namespace Go.Proofs.Ytdafakcccjjpiaa
open Go Go.RowKit Ab
set_option linter.unusedSimpArgs false
set_option linter.unusedVariables false
set_option maxHeartbeats 10000000
theorem bz_NS2 : type_of% (And.intro @W_len (And.intro @Nat.div_one (And.intro @Nat.mul_one (And.intro @tn_nat (And.intro @W_nf (@W_nil)))))) := And.intro @W_len (And.intro @Nat.div_one (And.intro @Nat.mul_one (And.intro @tn_nat (And.intro @W_nf (@W_nil)))))
theorem isub {a b : Nat} (h : a ≤ b) (hb : b ≤ 1099511627776) : IntKind.i64.wrap ((b : Int) - (a : Int)) = ((b - a : Nat) : Int) := by rw [wi (by omega)]; omega
theorem iadd {a b : Nat} (ha : a ≤ 1099511627776) (hb : b ≤ 1099511627776) : IntKind.i64.wrap ((a : Int) + (b : Int)) = ((a + b : Nat) : Int) := by rw [wi (by omega)]; omega
theorem isub1 {b : Nat} (h : 1 ≤ b) (hb : b ≤ 1099511627776) : IntKind.i64.wrap ((b : Int) - 1) = ((b - 1 : Nat) : Int) := isub h hb
theorem iadd1 {a : Nat} (ha : a ≤ 1099511627776) : IntKind.i64.wrap ((a : Int) + 1) = ((a + 1 : Nat) : Int) := iadd ha (by decide)
theorem ieqn {a b : Nat} (h : a ≠ b) : ¬ (a : Int) = (b : Int) := by omega
def a56 : AC := .seq (.reg [qm 12 2,
 qm 13 1,
 qr 14 (.bin .sub (.t 12) (.t 13)),
 qm 10 14])
 (.seq (.reg [qm 15 3,
 qm 16 2,
 qr 17 (.bin .sub (.t 15) (.t 16)),
 qm 11 17])
 (.seq (.blk 0
 (.loop
 (.seq (.seq (.reg [qm 18 10,
 qm 19 11,
 qr 20 (.bin .neq (.t 18) (.t 19))])
 (.cond (.t 20)
 (.skip)
 (.exit 0)))
 (.blk 1
 (.seq (.reg [qm 21 10,
 qm 22 11,
 qr 23 (.bin .gtr (.t 21) (.t 22))])
 (.cond (.t 23)
 (.seq (.reg [qm 24 0,
 qm 25 2,
 qm 26 10,
 qr 27 (.bin .sub (.t 25) (.t 26)),
 qm 28 2,
 qm 29 11,
 qm 30 4,
 qr 31 (.mcall 57 0 [(1, (.t 24)), (1, (.t 27)), (1, (.t 28)), (1, (.t 29)), (1, (.t 30))])])
 (.reg [qm 32 10,
 qm 33 11,
 qr 34 (.bin .sub (.t 32) (.t 33)),
 qm 10 34]))
 (.seq (.reg [qm 35 0,
 qm 36 2,
 qm 37 10,
 qr 38 (.bin .sub (.t 36) (.t 37)),
 qm 39 2,
 qm 40 11,
 qr 41 (.bin .add (.t 39) (.t 40)),
 qm 42 10,
 qr 43 (.bin .sub (.t 41) (.t 42)),
 qm 44 10,
 qm 45 4,
 qr 46 (.mcall 57 0 [(1, (.t 35)), (1, (.t 38)), (1, (.t 43)), (1, (.t 44)), (1, (.t 45))])])
 (.reg [qm 47 11,
 qm 48 10,
 qr 49 (.bin .sub (.t 47) (.t 48)),
 qm 11 49]))))))))
 (.reg [qm 50 0,
 qm 51 2,
 qm 52 10,
 qr 53 (.bin .sub (.t 51) (.t 52)),
 qm 54 2,
 qm 55 10,
 qm 56 4,
 qr 57 (.mcall 57 0 [(1, (.t 50)), (1, (.t 53)), (1, (.t 54)), (1, (.t 55)), (1, (.t 56))])])))
theorem rotate_spec (L : List Nat) (a m b : Nat) (h1 : a < m) (h2 : m < b) (h3 : b ≤ L.length) (hl : L.length ≤ 1099511627776) : AFun Try.prog J0 56 [.o 23 1 (NV L), .i .i64 (a : Int), .i .i64 (m : Int), .i .i64 (b : Int), .c (.func (.func 26) #[] #[])] (.mu (.t []) (NV (rot L a m b))) := by
  have w1 := isub (Nat.le_of_lt h1) (by omega)
  have w2 := isub (Nat.le_of_lt h2) (by omega)
  refine AFun.mkm (m := 0) fol J0s Try.func56 rfl (ac := a56) (by kernel_rfl) rfl rfl rfl rfl (by kernel_rfl) ?_
  apply vm_start
  unfold a56
  simp only [initL_eq, initE, lent, qm, qr, qn]
  rw [show (NV L).length / 1 = L.length from by rw [NV_len, Nat.div_one]]
  refine spQ (ai @w2 (ai @w1 @bz_NS2)) ?_
  refine vm_loopA [] (Nat × Nat × List Nat) (fun x => ⟨[(0, .ow 1 0 L.length), (1, .i .i64 (a : Int)), (2, .i .i64 (m : Int)), (3, .i .i64 (b : Int)), (4, .c (.func (.func 26) #[] #[])), (10, .i .i64 (x.1 : Int)), (11, .i .i64 (x.2.1 : Int))], [(0, some ⟨23, 1, NV x.2.2, true, false⟩)], 1⟩)
    (fun x => 0 < x.1 ∧ 0 < x.2.1 ∧ x.1 ≤ m ∧ m + x.2.1 ≤ L.length ∧ x.2.2.length = L.length ∧ ∀ p, rtf x.2.2 (m - x.1) m (m + x.2.1) p = rtf L a m b p)
    (fun x => x.1 + x.2.1) (m - a, b - m, L) ⟨by simp only; omega, by simp only; omega, by simp only; omega, by simp only; omega, rfl, fun p => by rw [show m - (m - a) = a from by omega, show m + (b - m) = b from by omega]⟩ (by exact leQ) (by
    exact ltQ) ?_
  rintro ⟨i, j, M⟩ ⟨hi, hj, hi2, hj2, hM, hR⟩ Q' hQ he hr
  simp only [] at hi hj hi2 hj2 hM hR ⊢
  have wa := isub hi2 (by omega)
  have kM : (NV M).length = L.length := by rw [NV_len, hM]
  by_cases h : i = j
  · subst h
    have sw := swapR_spec M (m - i) m i (by omega) (by omega) (by omega)
    have e : swr M (m - i) m i = rot L a m b := rot_eq (by rw [swr_len, hM]) fun p => by rw [rtf_end hi2 (by omega), hR]
    rw [e] at sw
    refine spQ @bz_NS2 ?_
    refine he _ _ ?_
    refine wkQ (ai @kM (ai @wa @bz_NS2)) ?_
    exact ⟨0, rfl, rfl⟩
  · have hne := ieqn h
    by_cases hg : j < i
    · have hgi : (j : Int) < (i : Int) := by omega
      have sw := swapR_spec M (m - i) m j (by omega) (by omega) (by omega)
      have ws := isub (Nat.le_of_lt hg) (by omega)
      have kS : (NV (swr M (m - i) m j)).length = L.length := by rw [NV_len, swr_len, hM]
      refine wkQ (ai @kS (ai @kM (ai @ws (ai @wa (ai @hgi (ai @hne @bz_NS2)))))) ?_
      refine hQ _ (i - j, j, swr M (m - i) m j) ⟨by simp only; omega, hj, by simp only; omega, hj2, by simp only; rw [swr_len, hM], fun p => ?_⟩ (by simp only; omega) ?_
      · simp only []
        rw [rtf_one hi2 (by omega) hg]; exact hR p
      · simp (disch := (first | omega | assumption)) only [Sl, Sa, Sw, ↓reduceIte, Nat.reduceEqDiff, Nat.reduceLT, List.all_nil, List.all_cons, Nat.reduceBneDiff, Nat.reduceAdd, bne_iff_ne, ne_eq, reduceCtorEq, not_false_eq_true, not_true_eq_false, Bool.and_true, Bool.true_and, and_true, true_and, and_self, i_eq]
        repeat' first | rfl | omega | (simp only [List.length_append, List.length_cons, List.length_nil]; done) | apply And.intro
    · have hgi : ¬ (j : Int) < (i : Int) := by omega
      have sw := swapR_spec M (m - i) (m + j - i) i (by omega) (by omega) (by omega)
      have ws := isub (show i ≤ j by omega) (by omega)
      have wb := iadd (show m ≤ 1099511627776 by omega) (show j ≤ 1099511627776 by omega)
      have wc := isub (show i ≤ m + j by omega) (by omega)
      have kS : (NV (swr M (m - i) (m + j - i) i)).length = L.length := by rw [NV_len, swr_len, hM]
      refine wkQ (ai @kS (ai @kM (ai @ws (ai @wc (ai @wb (ai @wa (ai @hgi (ai @hne @bz_NS2)))))))) ?_
      refine hQ _ (i, j - i, swr M (m - i) (m + j - i) i) ⟨hi, by simp only; omega, hi2, by simp only; omega, by simp only; rw [swr_len, hM], fun p => ?_⟩ (by simp only; omega) ?_
      · simp only []
        rw [rtf_two hi2 (by omega) (by omega)]; exact hR p
      · simp (disch := (first | omega | assumption)) only [Sl, Sa, Sw, ↓reduceIte, Nat.reduceEqDiff, Nat.reduceLT, List.all_nil, List.all_cons, Nat.reduceBneDiff, Nat.reduceAdd, bne_iff_ne, ne_eq, reduceCtorEq, not_false_eq_true, not_true_eq_false, Bool.and_true, Bool.true_and, and_true, true_and, and_self, i_eq]
        repeat' first | rfl | omega | (simp only [List.length_append, List.length_cons, List.length_nil]; done) | apply And.intro
def SmL (L : List Nat) : Prop := ∀ x, x ∈ L → (dg B x).length ≤ 1099511627776
theorem vcmp_spec {L M : List Nat} {a b : Nat} (hs : SmL L) (h : AlO L M a b) (p q : Nat) (hp : p < L.length) (hq : q < L.length) : AFun Try.prog J0 26 [.l 1 (W (dg B (M.getD p 0))), .l 1 (W (dg B (M.getD q 0)))] (.i .i64 (sg (M.getD p 0) (M.getD q 0))) := by
  have c := cmp_spec (dg B (M.getD p 0)) (dg B (M.getD q 0)) (dg_Lt B0 _) (dg_Lt B0 _) (h.mem hs p hp) (h.mem hs q hq)
  rw [nv_dg B2, nv_dg B2] at c
  exact c
theorem sg_n {x y : Nat} (h : x < y) : sg x y < 0 := by rw [sg_lt]; exact h
theorem sg_p {x y : Nat} (h : ¬ x < y) : ¬ sg x y < 0 := by rw [sg_lt]; exact h
def a54 : AC := .seq (.reg [qm 10 1,
 qr 11 (.bin .add (.t 10) (.k (.i .i64 1))),
 qm 8 11])
 (.blk 0
 (.loop
 (.seq (.seq (.reg [qm 12 8,
 qm 13 2,
 qr 14 (.bin .lss (.t 12) (.t 13))])
 (.cond (.t 14)
 (.skip)
 (.exit 0)))
 (.seq (.blk 1
 (.seq (.reg [qm 17 8,
 qm 9 17])
 (.blk 2
 (.loop
 (.seq (.seq (.dreg [qm 18 9,
 qm 19 1,
 qr 20 (.bin .gtr (.t 18) (.t 19)),
 qm 21 20,
 ⟨some 22, some (21, true), .mv (.t 3)⟩,
 ⟨some 23, some (21, true), .mv (.t 0)⟩,
 ⟨some 24, some (21, true), .mv (.t 9)⟩,
 ⟨some 25, some (21, true), .idx 1 (.t 23) (.t 24)⟩,
 ⟨some 26, some (21, true), .ld false 1 (.t 25)⟩,
 ⟨some 27, some (21, true), .mv (.t 0)⟩,
 ⟨some 28, some (21, true), .mv (.t 9)⟩,
 ⟨some 29, some (21, true), .bin .sub (.t 28) (.k (.i .i64 1))⟩,
 ⟨some 30, some (21, true), .idx 1 (.t 27) (.t 29)⟩,
 ⟨some 31, some (21, true), .ld false 1 (.t 30)⟩,
 ⟨some 32, some (21, true), .dcall (.t 22) [(1, (.t 26)), (1, (.t 31))]⟩,
 ⟨some 33, some (21, true), .bin .lss (.t 32) (.k (.i .i64 0))⟩,
 qr 34 (.pick (.t 21) (.t 33) (.k (.b false)))])
 (.cond (.t 34)
 (.skip)
 (.exit 2)))
 (.seq (.blk 3
 (.dreg [qm 37 0,
 qm 38 9,
 qm 39 0,
 qm 40 9,
 qr 41 (.bin .sub (.t 40) (.k (.i .i64 1))),
 qm 42 0,
 qm 43 9,
 qr 44 (.bin .sub (.t 43) (.k (.i .i64 1))),
 qr 45 (.idx 1 (.t 42) (.t 44)),
 qr 46 (.ld false 1 (.t 45)),
 qm 47 0,
 qm 48 9,
 qr 49 (.idx 1 (.t 47) (.t 48)),
 qr 50 (.ld false 1 (.t 49)),
 qr 51 (.idx 1 (.t 37) (.t 38)),
 qn (.st 1 (.t 51) (.t 46)),
 qr 52 (.idx 1 (.t 39) (.t 41)),
 qn (.st 1 (.t 52) (.t 50))]))
 (.reg [qm 35 9,
 qr 36 (.bin .sub (.t 35) (.k (.i .i64 1))),
 qm 9 36])))))))
 (.reg [qm 15 8,
 qr 16 (.bin .add (.t 15) (.k (.i .i64 1))),
 qm 8 16])))))
theorem insSort_spec (L : List Nat) (a b : Nat) (hs : SmL L) (h1 : a ≤ b) (h3 : b ≤ L.length) (hl : L.length ≤ 1099511627776) : AFun Try.prog J0 54 [.o 23 1 (NV L), .i .i64 (a : Int), .i .i64 (b : Int), .c (.func (.func 26) #[] #[])] (.mu (.t []) (NV (srt L a b))) := by
  have w1 := iadd1 (show a ≤ 1099511627776 by omega)
  refine AFun.mkm (m := 0) fol J0s Try.func54 rfl (ac := a54) (by kernel_rfl) rfl rfl rfl rfl (by kernel_rfl) ?_
  apply vm_start
  unfold a54
  simp only [initL_eq, initE, lent, qm, qr, qn]
  rw [show (NV L).length / 1 = L.length from by rw [NV_len, Nat.div_one]]
  refine spQ (ai @w1 @bz_NS2) ?_
  refine vm_loopA [] (Nat × List Nat) (fun x => ⟨[(0, .ow 1 0 L.length), (1, .i .i64 (a : Int)), (2, .i .i64 (b : Int)), (3, .c (.func (.func 26) #[] #[])), (8, .i .i64 (x.1 : Int))], [(0, some ⟨23, 1, NV x.2, true, false⟩)], 1⟩)
    (fun x => a + 1 ≤ x.1 ∧ (x.1 ≤ b ∨ x.1 = a + 1) ∧ AlO L x.2 a b ∧ SoB x.2 a x.1)
    (fun x => b - x.1) (a + 1, L) ⟨Nat.le_refl _, .inr rfl, AlO.rfl, fun p q hp hq hb => by simp only at hb; omega⟩ (by exact leQ) (by
    exact ltQ) ?_
  rintro ⟨i, M⟩ ⟨hi, hi2, hM, hS⟩ Q' hQ he hr
  simp only [] at hi hi2 hM hS ⊢
  by_cases h : (i : Int) < (b : Int)
  · have kM : (NV M).length = L.length := by rw [NV_len, hM.1]
    refine spQ (ai @kM (ai @h @bz_NS2)) ?_
    refine vm_loopA [] (Nat × List Nat) (fun x => ⟨[(0, .ow 1 0 L.length), (1, .i .i64 (a : Int)), (2, .i .i64 (b : Int)), (3, .c (.func (.func 26) #[] #[])), (8, .i .i64 (i : Int)), (9, .i .i64 (x.1 : Int))], [(0, some ⟨23, 1, NV x.2, true, false⟩)], 1⟩)
      (fun x => a ≤ x.1 ∧ x.1 ≤ i ∧ AlO L x.2 a b ∧ InS x.2 a i x.1)
      (fun x => x.1) (i, M) ⟨by simp only; omega, Nat.le_refl _, hM, InS.start hS⟩ (by exact leQ) (by
      exact ltQ) ?_
    clear kM hM hS
    rintro ⟨j, N⟩ ⟨hj, hj2, hN, hI⟩ Q2 hQ2 he2 hr2
    simp only [] at hj hj2 hN hI ⊢
    have kN : (NV N).length = L.length := by rw [NV_len, hN.1]
    have wi1 := iadd1 (show i ≤ 1099511627776 by omega)
    by_cases ha : (a : Int) < (j : Int)
    · have wj := isub1 (show 1 ≤ j by omega) (by omega)
      have c1 := vcmp_spec hs hN j (j - 1) (by omega) (by omega)
      have g1 := NV_get N j (by have := hN.1; omega)
      have g2 := NV_get N (j - 1) (by have := hN.1; omega)
      by_cases hc : N.getD j 0 < N.getD (j - 1) 0
      · have hst := hI.step (by omega) hj2 (by have := hN.1; omega) hc
        have hsw := hN.trans (swp_AlO (L := N) (i := j) (j := j - 1) (a := a) (b := b) (by have := hN.1; omega) (by have := hN.1; omega) (by omega) (by omega) (by omega) (by omega)) (Nat.le_refl _) (Nat.le_refl _)
        have e : NV (swp N j (j - 1)) = NV ((N.set j (N.getD (j - 1) 0)).set (j - 1) (N.getD j 0)) := rfl
        have s1 := NV_set N j (N.getD (j - 1) 0)
        have s2 := NV_set (N.set j (N.getD (j - 1) 0)) (j - 1) (N.getD j 0)
        have k2 := NV_len (N.set j (N.getD (j - 1) 0))
        rw [List.length_set, hN.1] at k2
        have n1 := sg_n hc
        generalize sg (N.getD j 0) (N.getD (j - 1) 0) = cc at *
        refine wkQ (ai @k2 (ai @s2 (ai @s1 (ai @n1 (ai @g2 (ai @g1 (ai @kN (ai @wj (ai @ha @bz_NS2))))))))) ?_
        refine hQ2 _ (j - 1, swp N j (j - 1)) ⟨by simp only; omega, by simp only; omega, hsw, hst⟩ (by simp only; omega) ?_
        simp (disch := (first | omega | assumption)) only [Sl, Sa, Sw, ↓reduceIte, Nat.reduceEqDiff, Nat.reduceLT, List.all_nil, List.all_cons, Nat.reduceBneDiff, Nat.reduceAdd, bne_iff_ne, ne_eq, reduceCtorEq, not_false_eq_true, not_true_eq_false, Bool.and_true, Bool.true_and, and_true, true_and, and_self, i_eq, e]
        repeat' first | rfl | omega | (simp only [List.length_append, List.length_cons, List.length_nil]; done) | apply And.intro
      · have n1 := sg_p hc
        generalize sg (N.getD j 0) (N.getD (j - 1) 0) = cc at *
        refine wkQ (ai @n1 (ai @g2 (ai @g1 (ai @kN (ai @wj (ai @ha @bz_NS2)))))) ?_
        refine he2 _ _ ?_
        refine spQ (ai @wi1 @bz_NS2) ?_
        refine hQ _ (i + 1, N) ⟨by simp only; omega, .inl (by simp only; omega), hN, hI.done hj hj2 (.inr (by omega))⟩ (by simp only; omega) ?_
        exact ltQ
    · refine spQ (ai @ha @bz_NS2) ?_
      refine he2 _ _ ?_
      refine spQ (ai @wi1 @bz_NS2) ?_
      refine hQ _ (i + 1, N) ⟨by simp only; omega, .inl (by simp only; omega), hN, hI.done hj hj2 (.inl (by omega))⟩ (by simp only; omega) ?_
      exact ltQ
  · have e : M = srt L a b := srt_of hM (hS.sub (Nat.le_refl _) (by omega)) h1 h3
    subst e
    refine spQ (ai @h @bz_NS2) ?_
    refine he _ _ ?_
    exact ⟨0, rfl, rfl⟩
end Go.Proofs.Ytdafakcccjjpiaa
