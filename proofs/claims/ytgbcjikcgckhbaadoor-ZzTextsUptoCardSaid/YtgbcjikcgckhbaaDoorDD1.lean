/-
  surdref04: Digits, Undigits.
-/
import Derived.Test.YtgbcjikcgckhbaaDoorDD0
import Derived.Test.YtgbcjikcgckhbaaDoorZ3
import Derived.Test.YtgbcjikcgckhbaaDoorDG
import Derived.Test.YtgbcjikcgckhbaaDoorGE
namespace Go.Proofs.YtgbcjikcgckhbaaDoor
open Go Go.RowKit Ab
set_option linter.unusedSimpArgs false
set_option linter.unusedVariables false
set_option maxHeartbeats 10000000
theorem bz_DD1 : type_of% (And.intro @Bl_len (And.intro @Bl_nf (And.intro @Bl_nil (And.intro @wi (And.intro @tn_nat (And.intro @Nat.div_one (And.intro @Nat.mul_one (And.intro @W_len (And.intro @W_nf (And.intro @W_cell (And.intro @W_nil (@W_get)))))))))))) := And.intro @Bl_len (And.intro @Bl_nf (And.intro @Bl_nil (And.intro @wi (And.intro @tn_nat (And.intro @Nat.div_one (And.intro @Nat.mul_one (And.intro @W_len (And.intro @W_nf (And.intro @W_cell (And.intro @W_nil (@W_get)))))))))))
theorem dd2 : 2 ≤ 2 := Nat.le_refl 2
def a21 : AC := .seq (.reg [qr 4 (.mv (.k .nl)),
 qr 5 (.mv (.k (.i .i64 0)))])
 (.seq (.seq (.reg [qm 13 1,
 qr 14 (.bin .lss (.t 13) (.k (.i .u64 2)))])
 (.cond (.t 14)
 (.seq (.reg [qr 4 (.mv (.k .nl)),
 qr 5 (.mv (.k (.i .i64 3)))])
 (.ret))
 (.skip)))
 (.seq (.reg [qr 6 (.mv (.k .nl))])
 (.seq (.reg [qm 15 0,
 qr 16 (.call 36 [(1, (.t 15))]),
 qm 7 16])
 (.seq (.seq (.reg [qm 17 7,
 qr 18 (.len (.t 17)),
 qr 19 (.bin .sub (.t 18) (.k (.i .i64 1))),
 qm 8 19])
 (.blk 0
 (.loop
 (.seq (.seq (.reg [qm 20 8,
 qr 21 (.bin .geq (.t 20) (.k (.i .i64 0)))])
 (.cond (.t 21)
 (.skip)
 (.exit 0)))
 (.seq (.blk 1
 (.seq (.reg [qr 9 (.mv (.k (.i .u64 0)))])
 (.seq (.seq (.reg [qm 24 7,
 qm 25 8,
 qr 26 (.idx 1 (.t 24) (.t 25)),
 qr 27 (.ld false 1 (.t 26))])
 (.cond (.t 27)
 (.reg [qr 9 (.mv (.k (.i .u64 1)))])
 (.skip)))
 (.seq (.seq (.reg [qr 10 (.mv (.k (.i .i64 0)))])
 (.blk 2
 (.loop
 (.seq (.seq (.reg [qm 28 10,
 qm 29 6,
 qr 30 (.len (.t 29)),
 qr 31 (.bin .lss (.t 28) (.t 30))])
 (.cond (.t 31)
 (.skip)
 (.exit 2)))
 (.seq (.blk 3
 (.seq (.reg [qr 11 (.mv (.k (.i .u64 0)))])
 (.seq (.reg [qm 34 6,
 qm 35 10,
 qr 36 (.idx 1 (.t 34) (.t 35)),
 qr 37 (.ld false 1 (.t 36)),
 qm 12 37])
 (.seq (.seq (.reg [qm 38 12,
 qm 39 1,
 qm 40 12,
 qr 41 (.bin .sub (.t 39) (.t 40)),
 qr 42 (.bin .geq (.t 38) (.t 41))])
 (.cond (.t 42)
 (.seq (.reg [qm 43 12,
 qm 44 1,
 qm 45 12,
 qr 46 (.bin .sub (.t 44) (.t 45)),
 qr 47 (.bin .sub (.t 43) (.t 46)),
 qm 12 47])
 (.reg [qr 11 (.mv (.k (.i .u64 1)))]))
 (.reg [qm 48 12,
 qm 49 12,
 qr 50 (.bin .add (.t 48) (.t 49)),
 qm 12 50])))
 (.seq (.reg [qm 51 12,
 qm 52 9,
 qr 53 (.bin .add (.t 51) (.t 52)),
 qm 12 53])
 (.seq (.seq (.reg [qm 54 12,
 qm 55 1,
 qr 56 (.bin .eql (.t 54) (.t 55))])
 (.cond (.t 56)
 (.seq (.reg [qr 12 (.mv (.k (.i .u64 0)))])
 (.reg [qr 11 (.mv (.k (.i .u64 1)))]))
 (.skip)))
 (.seq (.reg [qm 57 6,
 qm 58 10,
 qm 59 12,
 qr 60 (.idx 1 (.t 57) (.t 58)),
 qn (.st 1 (.t 60) (.t 59))])
 (.reg [qm 61 11,
 qm 9 61]))))))))
 (.reg [qm 32 10,
 qr 33 (.bin .add (.t 32) (.k (.i .i64 1))),
 qm 10 33]))))))
 (.seq (.reg [qm 62 9,
 qr 63 (.bin .gtr (.t 62) (.k (.i .u64 0)))])
 (.cond (.t 63)
 (.reg [qm 64 6,
 qm 65 9,
 qr 66 (.bsl 38 1 1 [(.i .u64 0)] [(0, (.t 65))]),
 qr 67 (.app 38 1 8 (.t 64) (.t 66)),
 qm 6 67])
 (.skip)))))))
 (.reg [qm 22 8,
 qr 23 (.bin .sub (.t 22) (.k (.i .i64 1))),
 qm 8 23]))))))
 (.seq (.reg [qm 68 6,
 qm 4 68,
 qr 5 (.mv (.k (.i .i64 0)))])
 (.ret))))))
theorem rdigs_spec (a : List Nat) (b : Nat) (ha : Wd a) (hb : b < 18446744073709551616) (la : a.length ≤ 10000000) :
    AFun Tryd.prog J0 21 [.l 1 (W a), .i .u64 (b : Int)] (.t [.l 1 (W (dgD (nv B a) b)), .i .i64 (dgE b)]) := by
  refine mkQ fol J0s Tryd.func21 a21 ?_
  unfold a21
  simp only [init_eq, initE, qm, qr, qn]
  by_cases h0 : (b : Int) < 2
  · rw [show dgD (nv B a) b = [] from if_pos (by omega), show dgE b = 3 from if_pos (by omega)]
    refine spQ (ai @h0 (ai @lconsA (ai @lnilA @bz_DD1))) ?_
    exact rtQ (ai @lconsA (ai @lnilA @bz_DD1))
  · have hb2 : 2 ≤ b := by omega
    rw [show dgD (nv B a) b = dg b (nv B a) from if_neg (by omega), show dgE b = 0 from if_neg (by omega)]
    have hrow := row_spec a ha (by omega)
    have hll := dg2_len ha
    have hR2 := dg_Lt (b := 2) (by decide) (nv B a)
    have hv := nv_lt hR2
    rw [nv_dg dd2] at hv
    have hbit := fun i => nv_digit (b := 2) (by decide) hR2 i
    simp only [nv_dg dd2] at hbit
    generalize dg 2 (nv B a) = R at *
    generalize nv B a = v at *
    have hdl : ∀ k, (dg b (v / 2 ^ k)).length ≤ R.length := fun k => dg_len hb2 (Nat.lt_of_le_of_lt (Nat.div_le_self _ _) (Nat.lt_of_lt_of_le hv (Nat.pow_le_pow_left hb2 _)))
    refine wkQ (ai @Bl_len (ai @h0 (ai @lconsA (ai @lnilA @bz_DD1)))) ?_
    refine vm_loopA [(6, 38, 1)] Nat (fun k => ⟨[(1, .i .u64 (b : Int)), (6, .ow 1 0 (dg b (v / 2 ^ k)).length), (7, .l 1 (Bl R)), (8, .i .i64 ((k : Int) - 1))], [(0, some ⟨38, 1, W (dg b (v / 2 ^ k)), true, false⟩)], 1⟩)
      (fun k => k ≤ R.length) (fun k => k) R.length (Nat.le_refl _) (by exact leQ) (by
      rw [Nat.div_eq_of_lt hv, dg_zero]
      exact ltQ) ?_
    intro k hk Q' hQ he hr
    by_cases h1 : k = 0
    · subst h1
      have hn : ¬ (0 : Int) ≤ ((0 : Nat) : Int) - 1 := by omega
      rw [Nat.pow_zero, Nat.div_one]
      refine spQ (ai @hn (ai @lconsA (ai @lnilA @bz_DD1))) ?_
      refine he _ _ ?_
      refine spQ (ai @lconsA (ai @lnilA @bz_DD1)) ?_
      exact rtQ (ai @lconsA (ai @lnilA @bz_DD1))
    · obtain ⟨i, rfl⟩ : ∃ i, k = i + 1 := ⟨k - 1, by omega⟩
      rw [show ((i + 1 : Nat) : Int) - 1 = (i : Int) from by omega]
      have hg : (0 : Int) ≤ (i : Int) := by omega
      have hlen := hdl (i + 1)
      have hdL := dg_Lt (b := b) (by omega) (v / 2 ^ (i + 1))
      have hbi := hbit i
      obtain ⟨c, hc⟩ : ∃ c, c = v / 2 ^ i % 2 := ⟨_, rfl⟩
      have hc2 : c < 2 := by rw [hc]; exact Nat.mod_lt _ (by decide)
      have hd := dbl_dg (u := v / 2 ^ (i + 1)) hb2 hc2
      rw [hc, half_bit, ← hc] at hd
      rw [← hc] at hbi
      have hilt : i < R.length := by omega
      have hget : (Bl R).getD i .un = .b (decide (c = 1)) := by rw [Bl_get R i hilt, hbi]
      generalize dg b (v / 2 ^ (i + 1)) = d at *
      obtain ⟨D, hD⟩ : ∃ D, D = dg b (v / 2 ^ i) := ⟨_, rfl⟩
      rw [← hD] at hd
      obtain ⟨n, hn⟩ : ∃ n, n = d.length := ⟨_, rfl⟩
      rw [← hn] at hlen ⊢
      have ha1 : R.length ≤ 640000000 := by omega
      by_cases hc1 : c = 1
      · have hcI : (c : Int) = 1 := by omega
        rw [decide_eq_true hc1] at hget
        refine spQ (ai @hget (ai @hg (ai @lconsA (ai @lnilA @bz_DD1)))) ?_
        refine vm_loopA [] (List Nat × Nat × List Nat) (fun s => ⟨[(1, .i .u64 (b : Int)), (6, .ow 1 0 n), (7, .l 1 (Bl R)), (8, .i .i64 (i : Int)), (9, .i .u64 (s.2.1 : Int)), (10, .i .i64 (s.1.length : Int))], [(0, some ⟨38, 1, W (s.1 ++ s.2.2), true, false⟩)], 1⟩)
          (fun s => s.1.length + s.2.2.length = n ∧ s.2.1 < 2 ∧ Lt b s.2.2 ∧ s.1 ++ dbl b s.2.1 s.2.2 = D) (fun s => s.2.2.length) ([], c, d) ⟨by simp [hn], hc2, hdL, hd⟩ (by exact leQ) (by
          simp (disch := (first | omega | assumption)) only [Sl, Sa, Sw, ↓reduceIte, Nat.reduceEqDiff, Nat.reduceLT, List.all_nil, List.all_cons, Nat.reduceBneDiff, Nat.reduceAdd, bne_iff_ne, ne_eq, reduceCtorEq, not_false_eq_true, not_true_eq_false, Bool.and_true, Bool.true_and, and_true, true_and, and_self, i_eq, hcI]
          repeat' first | rfl | omega | (simp only [List.length_append, List.length_cons, List.length_nil]; done) | apply And.intro) ?_
        rintro ⟨p, y, r⟩ ⟨hl, hy, hlt, hE⟩ Q2 hQ2 he2 hr2
        simp only [] at hl hy hlt hE ⊢
        cases r with
        | nil =>
          rw [List.length_nil] at hl
          have hz : ¬ (p.length : Int) < (n : Int) := by omega
          rw [dbl_nil] at hE
          by_cases hy0 : y = 0
          · subst hy0
            rw [if_neg (by omega), List.append_nil] at hE
            subst hE
            rw [List.append_nil]
            have hpl : n = p.length := by omega
            refine spQ (ai @hz (ai @lconsA (ai @lnilA @bz_DD1))) ?_
            refine he2 _ _ ?_
            refine spQ (ai @c0 (ai @lconsA (ai @lnilA @bz_DD1))) ?_
            refine hQ _ i (by omega) (by omega) ?_
            rw [← hD, ← hpl]
            exact ltQ
          · obtain rfl : y = 1 := by omega
            rw [if_pos (by omega)] at hE
            rw [List.append_nil]
            have hpl : n + 1 = D.length := by rw [← hE, List.length_append]; simp; omega
            have hW : W p ++ [V.i .u64 1] = W D := by rw [← hE]; exact W_app1 p 1
            refine spQ (ai @hz (ai @lconsA (ai @lnilA @bz_DD1))) ?_
            refine he2 _ _ ?_
            refine spQ (ai @hW (ai @c1 (ai @lconsA (ai @lnilA @bz_DD1)))) ?_
            refine hQ _ i (by omega) (by omega) ?_
            rw [← hD, ← hpl]
            exact ltQ
        | cons x r =>
          rw [List.length_cons] at hl
          have hz : (p.length : Int) < (n : Int) := by omega
          have hx := (Lt_cons.1 hlt).1
          have hLen : (p ++ x :: r).length = n := by rw [List.length_append, List.length_cons]; omega
          have hgx : (W (p ++ x :: r)).getD p.length .un = .i .u64 (x : Int) := by rw [W_get _ _ (by simp), get_mid]
          have hst : ∀ z : Nat, (W (p ++ x :: r)).set p.length (.i .u64 (z : Int)) = W ((p ++ [z]) ++ r) := fun z => by rw [W_set, set_mid, List.append_assoc]; rfl
          have hst0 : (W (p ++ x :: r)).set p.length (.i .u64 0) = W ((p ++ [0]) ++ r) := hst 0
          rw [dbl] at hE
          have hs1 : IntKind.u64.wrap ((b : Int) - (x : Int)) = ((b - x : Nat) : Int) := by rw [wu (by omega)]; omega
          have hpl : ∀ z : Nat, ((p ++ [z]).length : Int) = (p.length : Int) + 1 := fun z => by simp
          have hne : ∀ z : Nat, p ++ z :: dbl b ((2 * x + y) / b) r = (p ++ [z]) ++ dbl b ((2 * x + y) / b) r := fun z => by rw [List.append_assoc]; rfl
          rw [hne] at hE
          have hLr := (Lt_cons.1 hlt).2
          by_cases h2 : ((b - x : Nat) : Int) ≤ (x : Int)
          · obtain ⟨e1, e2⟩ := dbl_hi hx hy (by omega)
            rw [e1, e2] at hE
            have hs2 : IntKind.u64.wrap ((x : Int) - ((b - x : Nat) : Int)) = ((x - (b - x) : Nat) : Int) := by rw [wu (by omega)]; omega
            have hs3 : IntKind.u64.wrap (((x - (b - x) : Nat) : Int) + (y : Int)) = ((x - (b - x) + y : Nat) : Int) := by rw [wu (by omega)]; omega
            have hne2 : ¬ ((x - (b - x) + y : Nat) : Int) = (b : Int) := by omega
            refine spQ (ai @hst (ai @hne2 (ai @hs3 (ai @hs2 (ai @h2 (ai @hs1 (ai @hgx (ai @hLen (ai @hz (ai @lconsA (ai @lnilA @bz_DD1))))))))))) ?_
            refine hQ2 _ (p ++ [x - (b - x) + y], 1, r) ⟨by simp; omega, Nat.lt_succ_self 1, hLr, hE⟩ (by simp) ?_
            simp only [hpl]
            exact ltQ
          · have hs3 : IntKind.u64.wrap ((x : Int) + (x : Int)) = ((x + x : Nat) : Int) := by rw [wu (by omega)]; omega
            have hs4 : IntKind.u64.wrap (((x + x : Nat) : Int) + (y : Int)) = ((x + x + y : Nat) : Int) := by rw [wu (by omega)]; omega
            by_cases h3 : x + x + y = b
            · obtain ⟨e1, e2⟩ := dbl_eq (x := x) (c := y) hb2 (by omega)
              rw [e1, e2] at hE
              have h3' : ((x + x + y : Nat) : Int) = (b : Int) := by omega
              refine spQ (ai @hst0 (ai @h3' (ai @hs4 (ai @hs3 (ai @h2 (ai @hs1 (ai @hgx (ai @hLen (ai @hz (ai @lconsA (ai @lnilA @bz_DD1))))))))))) ?_
              refine hQ2 _ (p ++ [0], 1, r) ⟨by simp; omega, Nat.lt_succ_self 1, hLr, hE⟩ (by simp) ?_
              simp only [hpl]
              exact ltQ
            · obtain ⟨e1, e2⟩ := dbl_lo (b := b) (x := x) (c := y) (by omega)
              rw [e1, e2, show 2 * x + y = x + x + y from by omega] at hE
              have h3' : ¬ ((x + x + y : Nat) : Int) = (b : Int) := by omega
              refine spQ (ai @hst (ai @h3' (ai @hs4 (ai @hs3 (ai @h2 (ai @hs1 (ai @hgx (ai @hLen (ai @hz (ai @lconsA (ai @lnilA @bz_DD1))))))))))) ?_
              refine hQ2 _ (p ++ [x + x + y], 0, r) ⟨by simp; omega, Nat.zero_lt_two, hLr, hE⟩ (by simp) ?_
              simp only [hpl]
              exact ltQ
      · have hcI : (c : Int) = 0 := by omega
        rw [decide_eq_false hc1] at hget
        refine spQ (ai @hget (ai @hg (ai @lconsA (ai @lnilA @bz_DD1)))) ?_
        refine vm_loopA [] (List Nat × Nat × List Nat) (fun s => ⟨[(1, .i .u64 (b : Int)), (6, .ow 1 0 n), (7, .l 1 (Bl R)), (8, .i .i64 (i : Int)), (9, .i .u64 (s.2.1 : Int)), (10, .i .i64 (s.1.length : Int))], [(0, some ⟨38, 1, W (s.1 ++ s.2.2), true, false⟩)], 1⟩)
          (fun s => s.1.length + s.2.2.length = n ∧ s.2.1 < 2 ∧ Lt b s.2.2 ∧ s.1 ++ dbl b s.2.1 s.2.2 = D) (fun s => s.2.2.length) ([], c, d) ⟨by simp [hn], hc2, hdL, hd⟩ (by exact leQ) (by
          simp (disch := (first | omega | assumption)) only [Sl, Sa, Sw, ↓reduceIte, Nat.reduceEqDiff, Nat.reduceLT, List.all_nil, List.all_cons, Nat.reduceBneDiff, Nat.reduceAdd, bne_iff_ne, ne_eq, reduceCtorEq, not_false_eq_true, not_true_eq_false, Bool.and_true, Bool.true_and, and_true, true_and, and_self, i_eq, hcI]
          repeat' first | rfl | omega | (simp only [List.length_append, List.length_cons, List.length_nil]; done) | apply And.intro) ?_
        rintro ⟨p, y, r⟩ ⟨hl, hy, hlt, hE⟩ Q2 hQ2 he2 hr2
        simp only [] at hl hy hlt hE ⊢
        cases r with
        | nil =>
          rw [List.length_nil] at hl
          have hz : ¬ (p.length : Int) < (n : Int) := by omega
          rw [dbl_nil] at hE
          by_cases hy0 : y = 0
          · subst hy0
            rw [if_neg (by omega), List.append_nil] at hE
            subst hE
            rw [List.append_nil]
            have hpl : n = p.length := by omega
            refine spQ (ai @hz (ai @lconsA (ai @lnilA @bz_DD1))) ?_
            refine he2 _ _ ?_
            refine spQ (ai @c0 (ai @lconsA (ai @lnilA @bz_DD1))) ?_
            refine hQ _ i (by omega) (by omega) ?_
            rw [← hD, ← hpl]
            exact ltQ
          · obtain rfl : y = 1 := by omega
            rw [if_pos (by omega)] at hE
            rw [List.append_nil]
            have hpl : n + 1 = D.length := by rw [← hE, List.length_append]; simp; omega
            have hW : W p ++ [V.i .u64 1] = W D := by rw [← hE]; exact W_app1 p 1
            refine spQ (ai @hz (ai @lconsA (ai @lnilA @bz_DD1))) ?_
            refine he2 _ _ ?_
            refine spQ (ai @hW (ai @c1 (ai @lconsA (ai @lnilA @bz_DD1)))) ?_
            refine hQ _ i (by omega) (by omega) ?_
            rw [← hD, ← hpl]
            exact ltQ
        | cons x r =>
          rw [List.length_cons] at hl
          have hz : (p.length : Int) < (n : Int) := by omega
          have hx := (Lt_cons.1 hlt).1
          have hLen : (p ++ x :: r).length = n := by rw [List.length_append, List.length_cons]; omega
          have hgx : (W (p ++ x :: r)).getD p.length .un = .i .u64 (x : Int) := by rw [W_get _ _ (by simp), get_mid]
          have hst : ∀ z : Nat, (W (p ++ x :: r)).set p.length (.i .u64 (z : Int)) = W ((p ++ [z]) ++ r) := fun z => by rw [W_set, set_mid, List.append_assoc]; rfl
          have hst0 : (W (p ++ x :: r)).set p.length (.i .u64 0) = W ((p ++ [0]) ++ r) := hst 0
          rw [dbl] at hE
          have hs1 : IntKind.u64.wrap ((b : Int) - (x : Int)) = ((b - x : Nat) : Int) := by rw [wu (by omega)]; omega
          have hpl : ∀ z : Nat, ((p ++ [z]).length : Int) = (p.length : Int) + 1 := fun z => by simp
          have hne : ∀ z : Nat, p ++ z :: dbl b ((2 * x + y) / b) r = (p ++ [z]) ++ dbl b ((2 * x + y) / b) r := fun z => by rw [List.append_assoc]; rfl
          rw [hne] at hE
          have hLr := (Lt_cons.1 hlt).2
          by_cases h2 : ((b - x : Nat) : Int) ≤ (x : Int)
          · obtain ⟨e1, e2⟩ := dbl_hi hx hy (by omega)
            rw [e1, e2] at hE
            have hs2 : IntKind.u64.wrap ((x : Int) - ((b - x : Nat) : Int)) = ((x - (b - x) : Nat) : Int) := by rw [wu (by omega)]; omega
            have hs3 : IntKind.u64.wrap (((x - (b - x) : Nat) : Int) + (y : Int)) = ((x - (b - x) + y : Nat) : Int) := by rw [wu (by omega)]; omega
            have hne2 : ¬ ((x - (b - x) + y : Nat) : Int) = (b : Int) := by omega
            refine spQ (ai @hst (ai @hne2 (ai @hs3 (ai @hs2 (ai @h2 (ai @hs1 (ai @hgx (ai @hLen (ai @hz (ai @lconsA (ai @lnilA @bz_DD1))))))))))) ?_
            refine hQ2 _ (p ++ [x - (b - x) + y], 1, r) ⟨by simp; omega, Nat.lt_succ_self 1, hLr, hE⟩ (by simp) ?_
            simp only [hpl]
            exact ltQ
          · have hs3 : IntKind.u64.wrap ((x : Int) + (x : Int)) = ((x + x : Nat) : Int) := by rw [wu (by omega)]; omega
            have hs4 : IntKind.u64.wrap (((x + x : Nat) : Int) + (y : Int)) = ((x + x + y : Nat) : Int) := by rw [wu (by omega)]; omega
            by_cases h3 : x + x + y = b
            · obtain ⟨e1, e2⟩ := dbl_eq (x := x) (c := y) hb2 (by omega)
              rw [e1, e2] at hE
              have h3' : ((x + x + y : Nat) : Int) = (b : Int) := by omega
              refine spQ (ai @hst0 (ai @h3' (ai @hs4 (ai @hs3 (ai @h2 (ai @hs1 (ai @hgx (ai @hLen (ai @hz (ai @lconsA (ai @lnilA @bz_DD1))))))))))) ?_
              refine hQ2 _ (p ++ [0], 1, r) ⟨by simp; omega, Nat.lt_succ_self 1, hLr, hE⟩ (by simp) ?_
              simp only [hpl]
              exact ltQ
            · obtain ⟨e1, e2⟩ := dbl_lo (b := b) (x := x) (c := y) (by omega)
              rw [e1, e2, show 2 * x + y = x + x + y from by omega] at hE
              have h3' : ¬ ((x + x + y : Nat) : Int) = (b : Int) := by omega
              refine spQ (ai @hst (ai @h3' (ai @hs4 (ai @hs3 (ai @h2 (ai @hs1 (ai @hgx (ai @hLen (ai @hz (ai @lconsA (ai @lnilA @bz_DD1))))))))))) ?_
              refine hQ2 _ (p ++ [x + x + y], 0, r) ⟨by simp; omega, Nat.zero_lt_two, hLr, hE⟩ (by simp) ?_
              simp only [hpl]
              exact ltQ
def unV : Bool → Nat → V
  | false, _ => .nl
  | true, g => .l 1 (W (dg B g))
theorem leV_unV {s : St} {r : List (Nat × Nat)} {nx t : Nat} {f : Bool} {g : Nat} : leV s r nx t (unV f g) = (s.get t = unV f g) := by cases f <;> rfl
theorem unD_pos {l : List Nat} {b : Nat} (hb : 2 ≤ b) (h : Lt b l) : unD l b = dg B (nv b l) ∧ unE l b = 0 := by
  have h2 : 2 ≤ b ∧ l.all (· < b) = true := ⟨hb, List.all_eq_true.2 fun x hx => by simpa using h x hx⟩
  exact ⟨if_pos h2, if_pos h2⟩
theorem unD_neg {l : List Nat} {b : Nat} (h : ¬ (2 ≤ b ∧ Lt b l)) : unD l b = [] ∧ unE l b = 3 := by
  have h2 : ¬ (2 ≤ b ∧ l.all (· < b) = true) := fun ⟨x, y⟩ => h ⟨x, fun z hz => by simpa using List.all_eq_true.1 y z hz⟩
  exact ⟨if_neg h2, if_neg h2⟩
theorem Lt_of_get {l : List Nat} {b : Nat} (h : ∀ j, j < l.length → l.getD j 0 < b) : Lt b l := fun x hx => by
  obtain ⟨i, hi, rfl⟩ := List.mem_iff_getElem.1 hx
  have := h i hi
  rwa [List.getD_eq_getElem?_getD, List.getElem?_eq_getElem hi] at this
def a16 : AC := .seq (.reg [qr 4 (.mv (.k .nl)),
 qr 5 (.mv (.k (.i .i64 0)))])
 (.seq (.seq (.reg [qm 9 1,
 qr 10 (.bin .lss (.t 9) (.k (.i .u64 2)))])
 (.cond (.t 10)
 (.seq (.reg [qr 4 (.mv (.k .nl)),
 qr 5 (.mv (.k (.i .i64 3)))])
 (.ret))
 (.skip)))
 (.seq (.seq (.reg [qr 6 (.mv (.k (.i .i64 0)))])
 (.blk 0
 (.loop
 (.seq (.seq (.reg [qm 11 6,
 qm 12 0,
 qr 13 (.len (.t 12)),
 qr 14 (.bin .lss (.t 11) (.t 13))])
 (.cond (.t 14)
 (.skip)
 (.exit 0)))
 (.seq (.blk 1
 (.seq (.reg [qm 17 0,
 qm 18 6,
 qr 19 (.idx 1 (.t 17) (.t 18)),
 qr 20 (.ld false 1 (.t 19)),
 qm 21 1,
 qr 22 (.bin .geq (.t 20) (.t 21))])
 (.cond (.t 22)
 (.seq (.reg [qr 4 (.mv (.k .nl)),
 qr 5 (.mv (.k (.i .i64 3)))])
 (.ret))
 (.skip))))
 (.reg [qm 15 6,
 qr 16 (.bin .add (.t 15) (.k (.i .i64 1))),
 qm 6 16]))))))
 (.seq (.reg [qr 7 (.mv (.k .nl))])
 (.seq (.seq (.reg [qm 23 0,
 qr 24 (.len (.t 23)),
 qr 25 (.bin .sub (.t 24) (.k (.i .i64 1))),
 qm 8 25])
 (.blk 2
 (.loop
 (.seq (.seq (.reg [qm 26 8,
 qr 27 (.bin .geq (.t 26) (.k (.i .i64 0)))])
 (.cond (.t 27)
 (.skip)
 (.exit 2)))
 (.seq (.blk 3
 (.dregx [(30, 36), (32, 36), (30, 37), (32, 37)] [qm 30 7,
 qm 31 1,
 qr 32 (.bsl 38 1 1 [(.i .u64 0)] [(0, (.t 31))]),
 qr 33 (.call 32 [(1, (.t 30)), (1, (.t 32))]),
 qm 34 0,
 qm 35 8,
 qr 36 (.idx 1 (.t 34) (.t 35)),
 qr 37 (.ld false 1 (.t 36)),
 qr 38 (.bsl 38 1 1 [(.i .u64 0)] [(0, (.t 37))]),
 qr 39 (.call 31 [(1, (.t 33)), (1, (.t 38))]),
 qm 7 39]))
 (.reg [qm 28 8,
 qr 29 (.bin .sub (.t 28) (.k (.i .i64 1))),
 qm 8 29]))))))
 (.seq (.reg [qm 40 7,
 qm 4 40,
 qr 5 (.mv (.k (.i .i64 0)))])
 (.ret))))))
theorem rundigs_spec (l : List Nat) (b : Nat) (hl : Wd l) (hb : b < 18446744073709551616) (ll : l.length ≤ 10000000) :
    AFun Tryd.prog J0 16 [.l 1 (W l), .i .u64 (b : Int)] (.t [.l 1 (W (unD l b)), .i .i64 (unE l b)]) := by
  refine mkQ fol J0s Tryd.func16 a16 ?_
  unfold a16
  simp only [init_eq, initE, qm, qr, qn]
  by_cases h0 : (b : Int) < 2
  · obtain ⟨e1, e2⟩ := unD_neg (l := l) (b := b) (fun h => by omega)
    rw [e1, e2]
    refine spQ (ai @h0 (ai @lconsA (ai @lnilA @bz_DD1))) ?_
    exact rtQ (ai @lconsA (ai @lnilA @bz_DD1))
  · have hb2 : 2 ≤ b := by omega
    have e0 : W (dg B 0) = [] := by rw [dg_zero]; rfl
    refine spQ (ai @h0 (ai @lconsA (ai @lnilA @bz_DD1))) ?_
    refine vm_loopA [] Nat (fun i => ⟨[(0, .l 1 (W l)), (1, .i .u64 (b : Int)), (6, .i .i64 (i : Int))], [], 0⟩)
      (fun i => i ≤ l.length ∧ ∀ j, j < i → l.getD j 0 < b) (fun i => l.length - i) 0 ⟨Nat.zero_le _, fun j hj => by omega⟩ (by exact leQ) (by
      simp (disch := (first | omega | assumption)) only [Sl, Sa, Sw, ↓reduceIte, Nat.reduceEqDiff, Nat.reduceLT, List.all_nil, List.all_cons, Nat.reduceBneDiff, Nat.reduceAdd, bne_iff_ne, ne_eq, reduceCtorEq, not_false_eq_true, not_true_eq_false, Bool.and_true, Bool.true_and, and_true, true_and, and_self, i_eq]
      try rfl) ?_
    rintro i ⟨hi, hlt⟩ Q' hQ he hr
    by_cases h1 : (i : Int) < (l.length : Int)
    · by_cases h2 : (b : Int) ≤ ((l.getD i 0 : Nat) : Int)
      · obtain ⟨e1, e2⟩ := unD_neg (l := l) (b := b) (fun h => by have := Lt_get h.2 (by omega) i; omega)
        refine spQ (ai @h2 (ai @h1 (ai @lconsA (ai @lnilA @bz_DD1)))) ?_
        refine hr _ ?_
        exact pdQ (ai @e2 (ai @e1 (ai @lconsA (ai @lnilA @bz_DD1))))
      · refine spQ (ai @h2 (ai @h1 (ai @lconsA (ai @lnilA @bz_DD1)))) ?_
        refine hQ _ (i + 1) ⟨by omega, fun j hj => ?_⟩ (by omega) ?_
        · rcases Nat.lt_or_ge j i with h3 | h3
          · exact hlt j h3
          · rw [show j = i from by omega]; omega
        · simp (disch := (first | omega | assumption)) only [Sl, Sa, Sw, ↓reduceIte, Nat.reduceEqDiff, Nat.reduceLT, List.all_nil, List.all_cons, Nat.reduceBneDiff, Nat.reduceAdd, bne_iff_ne, ne_eq, reduceCtorEq, not_false_eq_true, not_true_eq_false, Bool.and_true, Bool.true_and, and_true, true_and, and_self, i_eq]
          repeat' first | rfl | omega | (simp only [List.length_append, List.length_cons, List.length_nil]; done) | apply And.intro
    · obtain rfl : i = l.length := by omega
      have hL := Lt_of_get hlt
      obtain ⟨e1, e2⟩ := unD_pos hb2 hL
      have hbw : Wd [b] := Wd1 hb
      have hb1 : b < B := hb
      have hlt2 : ∀ k, nv b (l.drop k) < B ^ l.length := fun k => Nat.lt_of_lt_of_le (nv_drop_lt hL k) (Nat.le_trans (Nat.pow_le_pow_right (by omega) (by omega : l.length - k ≤ l.length)) (Nat.pow_le_pow_left (Nat.le_of_lt hb1) _))
      have hmu := fun g (hg : g < B ^ l.length) => (rmul_spec (dg B g) [b] (Wd_dg g) hbw (by have := dlen hg; omega) (by simp)).frozen
      simp only [nv_dgB, nv_one] at hmu
      have hpr : ∀ g, g < B ^ l.length → g * b < B ^ (l.length + 1) := fun g hg => by rw [Nat.pow_succ]; exact Nat.mul_lt_mul_of_lt_of_lt hg hb1
      have had := fun g d (hg : g < B ^ l.length) (hd : d < 18446744073709551616) => (radd_spec (dg B (g * b)) [d] (Wd_dg _) (Wd1 hd) (by have := dlen (hpr g hg); omega) (by simp)).frozen
      simp only [nv_dgB, nv_one] at had
      refine spQ (ai @h1 (ai @lconsA (ai @lnilA @bz_DD1))) ?_
      refine he _ _ ?_
      refine spQ (ai @lconsA (ai @lnilA @bz_DD1)) ?_
      refine vm_loopA [] (Nat × Bool) (fun s => ⟨[(0, .l 1 (W l)), (1, .i .u64 (b : Int)), (7, unV s.2 (nv b (l.drop s.1))), (8, .i .i64 ((s.1 : Int) - 1))], [], 0⟩)
        (fun s => s.1 ≤ l.length ∧ (s.2 = false → nv b (l.drop s.1) = 0)) (fun s => s.1) (l.length, false) ⟨Nat.le_refl _, fun _ => by rw [List.drop_length]; rfl⟩ (by exact leQ) (by
        simp (disch := (first | omega | assumption)) only [Sl, Sa, Sw, ↓reduceIte, Nat.reduceEqDiff, Nat.reduceLT, List.all_nil, List.all_cons, Nat.reduceBneDiff, Nat.reduceAdd, bne_iff_ne, ne_eq, reduceCtorEq, not_false_eq_true, not_true_eq_false, Bool.and_true, Bool.true_and, and_true, true_and, and_self, i_eq, unV]
        try rfl) ?_
      rintro ⟨k, f⟩ ⟨hk, hf⟩ Q2 hQ2 he2 hr2
      simp only [] at hk hf ⊢
      by_cases hk0 : k = 0
      · subst hk0
        have hn : ¬ (0 : Int) ≤ ((0 : Nat) : Int) - 1 := by omega
        cases f with
        | false =>
          rw [List.drop_zero] at hf
          rw [hf rfl] at e1
          simp only [unV]
          refine spQ (ai @hn (ai @lconsA (ai @lnilA @bz_DD1))) ?_
          refine he2 _ _ ?_
          refine spQ (ai @lconsA (ai @lnilA @bz_DD1)) ?_
          exact rtQ (ai @e0 (ai @e2 (ai @e1 (ai @lconsA (ai @lnilA @bz_DD1)))))
        | true =>
          simp only [unV]
          refine spQ (ai @hn (ai @lconsA (ai @lnilA @bz_DD1))) ?_
          refine he2 _ _ ?_
          refine spQ (ai @lconsA (ai @lnilA @bz_DD1)) ?_
          simp (disch := (first | omega | assumption)) only [retOk, retN, ret1, retF, ret1F, V.okArg, and_true, true_and, S1, ↓reduceIte, Nat.reduceEqDiff, Nat.reduceAdd, Nat.reduceMul, Nat.reduceDiv, AOp.sb, AOp.mut, frzf, ↓Bool.false_eq_true, beq_self_eq_true, ite_self, Nat.reduceLeDiff, Int.reduceEq, Int.reduceSub, Int.reduceAdd, Int.reduceNeg, Int.reduceLT, Int.reduceLE, Nat.reduceLT, bz_DD1, List.length_nil, List.length_cons, e1, e2, List.drop_zero]
      · obtain ⟨i, rfl⟩ : ∃ i, k = i + 1 := ⟨k - 1, by omega⟩
        rw [show ((i + 1 : Nat) : Int) - 1 = (i : Int) from by omega]
        have hg : (0 : Int) ≤ (i : Int) := by omega
        have hil : i < l.length := by omega
        have hi1 : (i : Int) < (l.length : Int) := by omega
        have hG := hlt2 (i + 1)
        have hdi := Wd_get hl i
        have hm := hmu _ hG
        have hA := had _ _ hG hdi
        have hnx := nv_drop_get (b := b) l i hil
        rw [show nv b (l.drop (i + 1)) * b + l.getD i 0 = nv b (l.drop i) from by rw [hnx, Nat.mul_comm]; omega] at hA
        have hgi : (W l).getD i .un = .i .u64 ((l.getD i 0 : Nat) : Int) := W_get l i hil
        cases f with
        | false =>
          rw [hf rfl] at hm hA
          rw [e0] at hm
          simp only [unV]
          refine wkQ (ai @hgi (ai @hi1 (ai @W1 (ai @hg (ai @lconsA (ai @lnilA @bz_DD1)))))) ?_
          refine hQ2 _ (i, true) ⟨by simp only; omega, fun h => by cases h⟩ (by simp) ?_
          simp (disch := (first | omega | assumption)) only [Sl, Sa, Sw, ↓reduceIte, Nat.reduceEqDiff, Nat.reduceLT, List.all_nil, List.all_cons, Nat.reduceBneDiff, Nat.reduceAdd, bne_iff_ne, ne_eq, reduceCtorEq, not_false_eq_true, not_true_eq_false, Bool.and_true, Bool.true_and, and_true, true_and, and_self, i_eq, unV]
          repeat' first | rfl | omega | (simp only [List.length_append, List.length_cons, List.length_nil]; done) | apply And.intro
        | true =>
          simp only [unV]
          refine wkQ (ai @hgi (ai @hi1 (ai @W1 (ai @hg (ai @lconsA (ai @lnilA @bz_DD1)))))) ?_
          refine hQ2 _ (i, true) ⟨by simp only; omega, fun h => by cases h⟩ (by simp) ?_
          simp (disch := (first | omega | assumption)) only [Sl, Sa, Sw, ↓reduceIte, Nat.reduceEqDiff, Nat.reduceLT, List.all_nil, List.all_cons, Nat.reduceBneDiff, Nat.reduceAdd, bne_iff_ne, ne_eq, reduceCtorEq, not_false_eq_true, not_true_eq_false, Bool.and_true, Bool.true_and, and_true, true_and, and_self, i_eq, unV]
          repeat' first | rfl | omega | (simp only [List.length_append, List.length_cons, List.length_nil]; done) | apply And.intro
end Go.Proofs.YtgbcjikcgckhbaaDoor
