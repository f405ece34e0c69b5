/-
  surdref04: Digits, Undigits.
-/
import Derived.Test.YtdaedplbhpiacaaDD0
import Derived.Test.YtdaedplbhpiacaaZ3
import Derived.Test.YtdaedplbhpiacaaDG
import Derived.Test.YtdaedplbhpiacaaGE
namespace Go.Proofs.Ytdaedplbhpiacaa
open Go Go.RowKit Ab
set_option linter.unusedSimpArgs false
set_option linter.unusedVariables false
set_option maxHeartbeats 10000000
theorem bz_DD1 : type_of% (And.intro @Bl_len (And.intro @Bl_nf (And.intro @Bl_nil (And.intro @wi (And.intro @tn_nat (And.intro @Nat.div_one (And.intro @Nat.mul_one (And.intro @W_len (And.intro @W_nf (And.intro @W_cell (And.intro @W_nil (@W_get)))))))))))) := And.intro @Bl_len (And.intro @Bl_nf (And.intro @Bl_nil (And.intro @wi (And.intro @tn_nat (And.intro @Nat.div_one (And.intro @Nat.mul_one (And.intro @W_len (And.intro @W_nf (And.intro @W_cell (And.intro @W_nil (@W_get)))))))))))
theorem dd2 : 2 ≤ 2 := Nat.le_refl 2
def a20 : AC := .seq (.reg [qr 4 (.mv (.k .nl)),
 qr 5 (.mv (.k (.i .i64 0)))])
 (.seq (.seq (.reg [qm 13 1,
 qr 14 (.bin .lss (.t 13) (.k (.i .u64 2)))])
 (.cond (.t 14)
 (.seq (.reg [qr 4 (.mv (.k .nl)),
 qr 5 (.mv (.k (.i .i64 3)))])
 (.ret))
 (.skip)))
 (.seq (.reg [qr 6 (.mv (.k .nl))])
 (.seq (.reg [qm 15 0,
 qr 16 (.call 37 [(1, (.t 15))]),
 qm 7 16])
 (.seq (.seq (.reg [qm 17 7,
 qr 18 (.len (.t 17)),
 qr 19 (.bin .sub (.t 18) (.k (.i .i64 1))),
 qm 8 19])
 (.blk 0
 (.loop
 (.seq (.seq (.reg [qm 20 8,
 qr 21 (.bin .geq (.t 20) (.k (.i .i64 0)))])
 (.cond (.t 21)
 (.skip)
 (.exit 0)))
 (.seq (.blk 1
 (.seq (.reg [qr 9 (.mv (.k (.i .u64 0)))])
 (.seq (.seq (.reg [qm 24 7,
 qm 25 8,
 qr 26 (.idx 1 (.t 24) (.t 25)),
 qr 27 (.ld false 1 (.t 26))])
 (.cond (.t 27)
 (.reg [qr 9 (.mv (.k (.i .u64 1)))])
 (.skip)))
 (.seq (.seq (.reg [qr 10 (.mv (.k (.i .i64 0)))])
 (.blk 2
 (.loop
 (.seq (.seq (.reg [qm 28 10,
 qm 29 6,
 qr 30 (.len (.t 29)),
 qr 31 (.bin .lss (.t 28) (.t 30))])
 (.cond (.t 31)
 (.skip)
 (.exit 2)))
 (.seq (.blk 3
 (.seq (.reg [qr 11 (.mv (.k (.i .u64 0)))])
 (.seq (.reg [qm 34 6,
 qm 35 10,
 qr 36 (.idx 1 (.t 34) (.t 35)),
 qr 37 (.ld false 1 (.t 36)),
 qm 12 37])
 (.seq (.seq (.reg [qm 38 12,
 qm 39 1,
 qm 40 12,
 qr 41 (.bin .sub (.t 39) (.t 40)),
 qr 42 (.bin .geq (.t 38) (.t 41))])
 (.cond (.t 42)
 (.seq (.reg [qm 43 12,
 qm 44 1,
 qm 45 12,
 qr 46 (.bin .sub (.t 44) (.t 45)),
 qr 47 (.bin .sub (.t 43) (.t 46)),
 qm 12 47])
 (.reg [qr 11 (.mv (.k (.i .u64 1)))]))
 (.reg [qm 48 12,
 qm 49 12,
 qr 50 (.bin .add (.t 48) (.t 49)),
 qm 12 50])))
 (.seq (.reg [qm 51 12,
 qm 52 9,
 qr 53 (.bin .add (.t 51) (.t 52)),
 qm 12 53])
 (.seq (.seq (.reg [qm 54 12,
 qm 55 1,
 qr 56 (.bin .eql (.t 54) (.t 55))])
 (.cond (.t 56)
 (.seq (.reg [qr 12 (.mv (.k (.i .u64 0)))])
 (.reg [qr 11 (.mv (.k (.i .u64 1)))]))
 (.skip)))
 (.seq (.reg [qm 57 6,
 qm 58 10,
 qm 59 12,
 qr 60 (.idx 1 (.t 57) (.t 58)),
 qn (.st 1 (.t 60) (.t 59))])
 (.reg [qm 61 11,
 qm 9 61]))))))))
 (.reg [qm 32 10,
 qr 33 (.bin .add (.t 32) (.k (.i .i64 1))),
 qm 10 33]))))))
 (.seq (.reg [qm 62 9,
 qr 63 (.bin .gtr (.t 62) (.k (.i .u64 0)))])
 (.cond (.t 63)
 (.reg [qm 64 6,
 qm 65 9,
 qr 66 (.bsl 24 1 1 [(.i .u64 0)] [(0, (.t 65))]),
 qr 67 (.app 24 1 8 (.t 64) (.t 66)),
 qm 6 67])
 (.skip)))))))
 (.reg [qm 22 8,
 qr 23 (.bin .sub (.t 22) (.k (.i .i64 1))),
 qm 8 23]))))))
 (.seq (.reg [qm 68 6,
 qm 4 68,
 qr 5 (.mv (.k (.i .i64 0)))])
 (.ret))))))
theorem rdigs_spec (a : List Nat) (b : Nat) (ha : Wd a) (hb : b < 18446744073709551616) (la : a.length ≤ 10000000) :
    AFun Try.prog J0 20 [.l 1 (W a), .i .u64 (b : Int)] (.t [.l 1 (W (dgD (nv B a) b)), .i .i64 (dgE b)]) := by
  refine mkQ fol J0s Try.func20 a20 ?_
  unfold a20
  simp only [init_eq, initE, qm, qr, qn]
  by_cases h0 : (b : Int) < 2
  · rw [show dgD (nv B a) b = [] from if_pos (by omega), show dgE b = 3 from if_pos (by omega)]
    refine spQ (ai @h0 (ai @lconsA (ai @lnilA @bz_DD1))) ?_
    exact rtQ (ai @lconsA (ai @lnilA @bz_DD1))
  · have hb2 : 2 ≤ b := by omega
    rw [show dgD (nv B a) b = dg b (nv B a) from if_neg (by omega), show dgE b = 0 from if_neg (by omega)]
    have hrow := row_spec a ha (by omega)
    have hll := dg2_len ha
    have hR2 := dg_Lt (b := 2) (by decide) (nv B a)
    have hv := nv_lt hR2
    rw [nv_dg dd2] at hv
    have hbit := fun i => nv_digit (b := 2) (by decide) hR2 i
    simp only [nv_dg dd2] at hbit
    generalize dg 2 (nv B a) = R at *
    generalize nv B a = v at *
    have hdl : ∀ k, (dg b (v / 2 ^ k)).length ≤ R.length := fun k => dg_len hb2 (Nat.lt_of_le_of_lt (Nat.div_le_self _ _) (Nat.lt_of_lt_of_le hv (Nat.pow_le_pow_left hb2 _)))
    refine wkQ (ai @Bl_len (ai @h0 (ai @lconsA (ai @lnilA @bz_DD1)))) ?_
    refine vm_loopA [(6, 24, 1)] Nat (fun k => ⟨[(1, .i .u64 (b : Int)), (6, .ow 1 0 (dg b (v / 2 ^ k)).length), (7, .l 1 (Bl R)), (8, .i .i64 ((k : Int) - 1))], [(0, some ⟨24, 1, W (dg b (v / 2 ^ k)), true, false⟩)], 1⟩)
      (fun k => k ≤ R.length) (fun k => k) R.length (Nat.le_refl _) (by exact leQ) (by
      rw [Nat.div_eq_of_lt hv, dg_zero]
      exact ltQ) ?_
    intro k hk Q' hQ he hr
    by_cases h1 : k = 0
    · subst h1
      have hn : ¬ (0 : Int) ≤ ((0 : Nat) : Int) - 1 := by omega
      rw [Nat.pow_zero, Nat.div_one]
      refine spQ (ai @hn (ai @lconsA (ai @lnilA @bz_DD1))) ?_
      refine he _ _ ?_
      refine spQ (ai @lconsA (ai @lnilA @bz_DD1)) ?_
      exact rtQ (ai @lconsA (ai @lnilA @bz_DD1))
    · obtain ⟨i, rfl⟩ : ∃ i, k = i + 1 := ⟨k - 1, by omega⟩
      rw [show ((i + 1 : Nat) : Int) - 1 = (i : Int) from by omega]
      have hg : (0 : Int) ≤ (i : Int) := by omega
      have hlen := hdl (i + 1)
      have hdL := dg_Lt (b := b) (by omega) (v / 2 ^ (i + 1))
      have hbi := hbit i
      obtain ⟨c, hc⟩ : ∃ c, c = v / 2 ^ i % 2 := ⟨_, rfl⟩
      have hc2 : c < 2 := by rw [hc]; exact Nat.mod_lt _ (by decide)
      have hd := dbl_dg (u := v / 2 ^ (i + 1)) hb2 hc2
      rw [hc, half_bit, ← hc] at hd
      rw [← hc] at hbi
      have hilt : i < R.length := by omega
      have hget : (Bl R).getD i .un = .b (decide (c = 1)) := by rw [Bl_get R i hilt, hbi]
      generalize dg b (v / 2 ^ (i + 1)) = d at *
      obtain ⟨D, hD⟩ : ∃ D, D = dg b (v / 2 ^ i) := ⟨_, rfl⟩
      rw [← hD] at hd
      obtain ⟨n, hn⟩ : ∃ n, n = d.length := ⟨_, rfl⟩
      rw [← hn] at hlen ⊢
      have ha1 : R.length ≤ 640000000 := by omega
      by_cases hc1 : c = 1
      · have hcI : (c : Int) = 1 := by omega
        rw [decide_eq_true hc1] at hget
        refine spQ (ai @hget (ai @hg (ai @lconsA (ai @lnilA @bz_DD1)))) ?_
        refine vm_loopA [] (List Nat × Nat × List Nat) (fun s => ⟨[(1, .i .u64 (b : Int)), (6, .ow 1 0 n), (7, .l 1 (Bl R)), (8, .i .i64 (i : Int)), (9, .i .u64 (s.2.1 : Int)), (10, .i .i64 (s.1.length : Int))], [(0, some ⟨24, 1, W (s.1 ++ s.2.2), true, false⟩)], 1⟩)
          (fun s => s.1.length + s.2.2.length = n ∧ s.2.1 < 2 ∧ Lt b s.2.2 ∧ s.1 ++ dbl b s.2.1 s.2.2 = D) (fun s => s.2.2.length) ([], c, d) ⟨by simp [hn], hc2, hdL, hd⟩ (by exact leQ) (by
          simp (disch := (first | omega | assumption)) only [Sl, Sa, Sw, ↓reduceIte, Nat.reduceEqDiff, Nat.reduceLT, List.all_nil, List.all_cons, Nat.reduceBneDiff, Nat.reduceAdd, bne_iff_ne, ne_eq, reduceCtorEq, not_false_eq_true, not_true_eq_false, Bool.and_true, Bool.true_and, and_true, true_and, and_self, i_eq, hcI]
          repeat' first | rfl | omega | (simp only [List.length_append, List.length_cons, List.length_nil]; done) | apply And.intro) ?_
        rintro ⟨p, y, r⟩ ⟨hl, hy, hlt, hE⟩ Q2 hQ2 he2 hr2
        simp only [] at hl hy hlt hE ⊢
        cases r with
        | nil =>
          rw [List.length_nil] at hl
          have hz : ¬ (p.length : Int) < (n : Int) := by omega
          rw [dbl_nil] at hE
          by_cases hy0 : y = 0
          · subst hy0
            rw [if_neg (by omega), List.append_nil] at hE
            subst hE
            rw [List.append_nil]
            have hpl : n = p.length := by omega
            refine spQ (ai @hz (ai @lconsA (ai @lnilA @bz_DD1))) ?_
            refine he2 _ _ ?_
            refine spQ (ai @c0 (ai @lconsA (ai @lnilA @bz_DD1))) ?_
            refine hQ _ i (by omega) (by omega) ?_
            rw [← hD, ← hpl]
            exact ltQ
          · obtain rfl : y = 1 := by omega
            rw [if_pos (by omega)] at hE
            rw [List.append_nil]
            have hpl : n + 1 = D.length := by rw [← hE, List.length_append]; simp; omega
            have hW : W p ++ [V.i .u64 1] = W D := by rw [← hE]; exact W_app1 p 1
            refine spQ (ai @hz (ai @lconsA (ai @lnilA @bz_DD1))) ?_
            refine he2 _ _ ?_
            refine spQ (ai @hW (ai @c1 (ai @lconsA (ai @lnilA @bz_DD1)))) ?_
            refine hQ _ i (by omega) (by omega) ?_
            rw [← hD, ← hpl]
            exact ltQ
        | cons x r =>
          rw [List.length_cons] at hl
          have hz : (p.length : Int) < (n : Int) := by omega
          have hx := (Lt_cons.1 hlt).1
          have hLen : (p ++ x :: r).length = n := by rw [List.length_append, List.length_cons]; omega
          have hgx : (W (p ++ x :: r)).getD p.length .un = .i .u64 (x : Int) := by rw [W_get _ _ (by simp), get_midD]
          have hst : ∀ z : Nat, (W (p ++ x :: r)).set p.length (.i .u64 (z : Int)) = W ((p ++ [z]) ++ r) := fun z => by rw [W_set, set_midD, List.append_assoc]; rfl
          have hst0 : (W (p ++ x :: r)).set p.length (.i .u64 0) = W ((p ++ [0]) ++ r) := hst 0
          rw [dbl] at hE
          have hs1 : IntKind.u64.wrap ((b : Int) - (x : Int)) = ((b - x : Nat) : Int) := by rw [wu (by omega)]; omega
          have hpl : ∀ z : Nat, ((p ++ [z]).length : Int) = (p.length : Int) + 1 := fun z => by simp
          have hne : ∀ z : Nat, p ++ z :: dbl b ((2 * x + y) / b) r = (p ++ [z]) ++ dbl b ((2 * x + y) / b) r := fun z => by rw [List.append_assoc]; rfl
          rw [hne] at hE
          have hLr := (Lt_cons.1 hlt).2
          by_cases h2 : ((b - x : Nat) : Int) ≤ (x : Int)
          · obtain ⟨e1, e2⟩ := dbl_hi hx hy (by omega)
            rw [e1, e2] at hE
            have hs2 : IntKind.u64.wrap ((x : Int) - ((b - x : Nat) : Int)) = ((x - (b - x) : Nat) : Int) := by rw [wu (by omega)]; omega
            have hs3 : IntKind.u64.wrap (((x - (b - x) : Nat) : Int) + (y : Int)) = ((x - (b - x) + y : Nat) : Int) := by rw [wu (by omega)]; omega
            have hne2 : ¬ ((x - (b - x) + y : Nat) : Int) = (b : Int) := by omega
            refine spQ (ai @hst (ai @hne2 (ai @hs3 (ai @hs2 (ai @h2 (ai @hs1 (ai @hgx (ai @hLen (ai @hz (ai @lconsA (ai @lnilA @bz_DD1))))))))))) ?_
            refine hQ2 _ (p ++ [x - (b - x) + y], 1, r) ⟨by simp; omega, Nat.lt_succ_self 1, hLr, hE⟩ (by simp) ?_
            simp only [hpl]
            exact ltQ
          · have hs3 : IntKind.u64.wrap ((x : Int) + (x : Int)) = ((x + x : Nat) : Int) := by rw [wu (by omega)]; omega
            have hs4 : IntKind.u64.wrap (((x + x : Nat) : Int) + (y : Int)) = ((x + x + y : Nat) : Int) := by rw [wu (by omega)]; omega
            by_cases h3 : x + x + y = b
            · obtain ⟨e1, e2⟩ := dbl_eq (x := x) (c := y) hb2 (by omega)
              rw [e1, e2] at hE
              have h3' : ((x + x + y : Nat) : Int) = (b : Int) := by omega
              refine spQ (ai @hst0 (ai @h3' (ai @hs4 (ai @hs3 (ai @h2 (ai @hs1 (ai @hgx (ai @hLen (ai @hz (ai @lconsA (ai @lnilA @bz_DD1))))))))))) ?_
              refine hQ2 _ (p ++ [0], 1, r) ⟨by simp; omega, Nat.lt_succ_self 1, hLr, hE⟩ (by simp) ?_
              simp only [hpl]
              exact ltQ
            · obtain ⟨e1, e2⟩ := dbl_lo (b := b) (x := x) (c := y) (by omega)
              rw [e1, e2, show 2 * x + y = x + x + y from by omega] at hE
              have h3' : ¬ ((x + x + y : Nat) : Int) = (b : Int) := by omega
              refine spQ (ai @hst (ai @h3' (ai @hs4 (ai @hs3 (ai @h2 (ai @hs1 (ai @hgx (ai @hLen (ai @hz (ai @lconsA (ai @lnilA @bz_DD1))))))))))) ?_
              refine hQ2 _ (p ++ [x + x + y], 0, r) ⟨by simp; omega, Nat.zero_lt_two, hLr, hE⟩ (by simp) ?_
              simp only [hpl]
              exact ltQ
      · have hcI : (c : Int) = 0 := by omega
        rw [decide_eq_false hc1] at hget
        refine spQ (ai @hget (ai @hg (ai @lconsA (ai @lnilA @bz_DD1)))) ?_
        refine vm_loopA [] (List Nat × Nat × List Nat) (fun s => ⟨[(1, .i .u64 (b : Int)), (6, .ow 1 0 n), (7, .l 1 (Bl R)), (8, .i .i64 (i : Int)), (9, .i .u64 (s.2.1 : Int)), (10, .i .i64 (s.1.length : Int))], [(0, some ⟨24, 1, W (s.1 ++ s.2.2), true, false⟩)], 1⟩)
          (fun s => s.1.length + s.2.2.length = n ∧ s.2.1 < 2 ∧ Lt b s.2.2 ∧ s.1 ++ dbl b s.2.1 s.2.2 = D) (fun s => s.2.2.length) ([], c, d) ⟨by simp [hn], hc2, hdL, hd⟩ (by exact leQ) (by
          simp (disch := (first | omega | assumption)) only [Sl, Sa, Sw, ↓reduceIte, Nat.reduceEqDiff, Nat.reduceLT, List.all_nil, List.all_cons, Nat.reduceBneDiff, Nat.reduceAdd, bne_iff_ne, ne_eq, reduceCtorEq, not_false_eq_true, not_true_eq_false, Bool.and_true, Bool.true_and, and_true, true_and, and_self, i_eq, hcI]
          repeat' first | rfl | omega | (simp only [List.length_append, List.length_cons, List.length_nil]; done) | apply And.intro) ?_
        rintro ⟨p, y, r⟩ ⟨hl, hy, hlt, hE⟩ Q2 hQ2 he2 hr2
        simp only [] at hl hy hlt hE ⊢
        cases r with
        | nil =>
          rw [List.length_nil] at hl
          have hz : ¬ (p.length : Int) < (n : Int) := by omega
          rw [dbl_nil] at hE
          by_cases hy0 : y = 0
          · subst hy0
            rw [if_neg (by omega), List.append_nil] at hE
            subst hE
            rw [List.append_nil]
            have hpl : n = p.length := by omega
            refine spQ (ai @hz (ai @lconsA (ai @lnilA @bz_DD1))) ?_
            refine he2 _ _ ?_
            refine spQ (ai @c0 (ai @lconsA (ai @lnilA @bz_DD1))) ?_
            refine hQ _ i (by omega) (by omega) ?_
            rw [← hD, ← hpl]
            exact ltQ
          · obtain rfl : y = 1 := by omega
            rw [if_pos (by omega)] at hE
            rw [List.append_nil]
            have hpl : n + 1 = D.length := by rw [← hE, List.length_append]; simp; omega
            have hW : W p ++ [V.i .u64 1] = W D := by rw [← hE]; exact W_app1 p 1
            refine spQ (ai @hz (ai @lconsA (ai @lnilA @bz_DD1))) ?_
            refine he2 _ _ ?_
            refine spQ (ai @hW (ai @c1 (ai @lconsA (ai @lnilA @bz_DD1)))) ?_
            refine hQ _ i (by omega) (by omega) ?_
            rw [← hD, ← hpl]
            exact ltQ
        | cons x r =>
          rw [List.length_cons] at hl
          have hz : (p.length : Int) < (n : Int) := by omega
          have hx := (Lt_cons.1 hlt).1
          have hLen : (p ++ x :: r).length = n := by rw [List.length_append, List.length_cons]; omega
          have hgx : (W (p ++ x :: r)).getD p.length .un = .i .u64 (x : Int) := by rw [W_get _ _ (by simp), get_midD]
          have hst : ∀ z : Nat, (W (p ++ x :: r)).set p.length (.i .u64 (z : Int)) = W ((p ++ [z]) ++ r) := fun z => by rw [W_set, set_midD, List.append_assoc]; rfl
          have hst0 : (W (p ++ x :: r)).set p.length (.i .u64 0) = W ((p ++ [0]) ++ r) := hst 0
          rw [dbl] at hE
          have hs1 : IntKind.u64.wrap ((b : Int) - (x : Int)) = ((b - x : Nat) : Int) := by rw [wu (by omega)]; omega
          have hpl : ∀ z : Nat, ((p ++ [z]).length : Int) = (p.length : Int) + 1 := fun z => by simp
          have hne : ∀ z : Nat, p ++ z :: dbl b ((2 * x + y) / b) r = (p ++ [z]) ++ dbl b ((2 * x + y) / b) r := fun z => by rw [List.append_assoc]; rfl
          rw [hne] at hE
          have hLr := (Lt_cons.1 hlt).2
          by_cases h2 : ((b - x : Nat) : Int) ≤ (x : Int)
          · obtain ⟨e1, e2⟩ := dbl_hi hx hy (by omega)
            rw [e1, e2] at hE
            have hs2 : IntKind.u64.wrap ((x : Int) - ((b - x : Nat) : Int)) = ((x - (b - x) : Nat) : Int) := by rw [wu (by omega)]; omega
            have hs3 : IntKind.u64.wrap (((x - (b - x) : Nat) : Int) + (y : Int)) = ((x - (b - x) + y : Nat) : Int) := by rw [wu (by omega)]; omega
            have hne2 : ¬ ((x - (b - x) + y : Nat) : Int) = (b : Int) := by omega
            refine spQ (ai @hst (ai @hne2 (ai @hs3 (ai @hs2 (ai @h2 (ai @hs1 (ai @hgx (ai @hLen (ai @hz (ai @lconsA (ai @lnilA @bz_DD1))))))))))) ?_
            refine hQ2 _ (p ++ [x - (b - x) + y], 1, r) ⟨by simp; omega, Nat.lt_succ_self 1, hLr, hE⟩ (by simp) ?_
            simp only [hpl]
            exact ltQ
          · have hs3 : IntKind.u64.wrap ((x : Int) + (x : Int)) = ((x + x : Nat) : Int) := by rw [wu (by omega)]; omega
            have hs4 : IntKind.u64.wrap (((x + x : Nat) : Int) + (y : Int)) = ((x + x + y : Nat) : Int) := by rw [wu (by omega)]; omega
            by_cases h3 : x + x + y = b
            · obtain ⟨e1, e2⟩ := dbl_eq (x := x) (c := y) hb2 (by omega)
              rw [e1, e2] at hE
              have h3' : ((x + x + y : Nat) : Int) = (b : Int) := by omega
              refine spQ (ai @hst0 (ai @h3' (ai @hs4 (ai @hs3 (ai @h2 (ai @hs1 (ai @hgx (ai @hLen (ai @hz (ai @lconsA (ai @lnilA @bz_DD1))))))))))) ?_
              refine hQ2 _ (p ++ [0], 1, r) ⟨by simp; omega, Nat.lt_succ_self 1, hLr, hE⟩ (by simp) ?_
              simp only [hpl]
              exact ltQ
            · obtain ⟨e1, e2⟩ := dbl_lo (b := b) (x := x) (c := y) (by omega)
              rw [e1, e2, show 2 * x + y = x + x + y from by omega] at hE
              have h3' : ¬ ((x + x + y : Nat) : Int) = (b : Int) := by omega
              refine spQ (ai @hst (ai @h3' (ai @hs4 (ai @hs3 (ai @h2 (ai @hs1 (ai @hgx (ai @hLen (ai @hz (ai @lconsA (ai @lnilA @bz_DD1))))))))))) ?_
              refine hQ2 _ (p ++ [x + x + y], 0, r) ⟨by simp; omega, Nat.zero_lt_two, hLr, hE⟩ (by simp) ?_
              simp only [hpl]
              exact ltQ
end Go.Proofs.Ytdaedplbhpiacaa
