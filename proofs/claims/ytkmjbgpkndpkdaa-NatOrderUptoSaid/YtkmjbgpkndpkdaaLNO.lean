/-
  NatOrder: the law's walk.
-/
import Derived.Test.YtkmjbgpkndpkdaaLNL
namespace Go.Proofs.Ytkmjbgpkndpkdaa
open Go Go.RowKit Ab
set_option linter.unusedSimpArgs false
set_option linter.unusedVariables false
set_option maxHeartbeats 10000000
theorem bz_LNO : type_of% (And.intro @wi (And.intro @tn_nat (And.intro @Nat.div_one (And.intro @Nat.mul_one (And.intro @W_len (And.intro @W_nf (And.intro @W_cell (And.intro @W_nil (@W_get))))))))) := And.intro @wi (And.intro @tn_nat (And.intro @Nat.div_one (And.intro @Nat.mul_one (And.intro @W_len (And.intro @W_nf (And.intro @W_cell (And.intro @W_nil (@W_get))))))))
theorem NV_RV (L : List Nat) : NV L = RV (L.map (dg B)) := by simp [NV, RV]
theorem vs_dg (L : List Nat) : vs (L.map (dg B)) = L := by
  unfold vs
  rw [List.map_map]
  exact (List.map_congr_left fun x _ => nv_dg B2 x).trans (List.map_id L)
def oft (L : List Nat) (v k : Nat) : Nat := (L.take k).count v
theorem oft_s (L : List Nat) (v k : Nat) (h : k < L.length) : oft L v (k + 1) = oft L v k + (if L.getD k 0 = v then 1 else 0) := by
  unfold oft
  rw [← take_s L k h, List.count_append]
  congr 1
  by_cases e : L.getD k 0 = v
  · rw [if_pos e, e]; simp
  · have h2 : (L.getD k 0 == v) = false := beq_eq_false_iff_ne.2 e
    rw [if_neg e, List.count_singleton, h2]; rfl
theorem oft_le (L : List Nat) (v k : Nat) : oft L v k ≤ k := by
  unfold oft
  have := List.count_le_length (a := v) (l := L.take k)
  rw [List.length_take] at this; omega
theorem sg_e {x y : Nat} (h : x = y) : sg x y = 0 := by unfold sg; rw [if_neg (by omega), if_pos h]
theorem sg_ne {x y : Nat} (h : x ≠ y) : ¬ sg x y = 0 := by unfold sg; split <;> simp [h]
theorem sg_np {x y : Nat} (h : x ≤ y) : ¬ 0 < sg x y := by unfold sg; split <;> (try split) <;> omega
theorem norm_dg' {a : List Nat} (ha : Wd a) (la : a.length ≤ 1099511627776) : AFun Try.prog J0 13 [.l 1 (W a)] (.l 1 (W (dg B (nv B a)))) := by
  have h := (norm_spec a la).frozen
  rw [tz_dg B2 ha] at h
  exact h
def a4 : AC := .seq (.reg [qr 2 (.mv (.k (.b false)))])
 (.seq (.seq (.reg [qr 9 (.call 5 []),
 qr 10 (.un .not (.t 9))])
 (.cond (.t 10)
 (.seq (.reg [qr 2 (.mv (.k (.b false)))])
 (.ret))
 (.skip)))
 (.seq (.reg [qm 11 0,
 qr 12 (.call 10 [(1, (.t 11))]),
 qm 3 12])
 (.seq (.seq (.reg [qm 13 3,
 qr 14 (.len (.t 13)),
 qm 15 0,
 qr 16 (.len (.t 15)),
 qr 17 (.bin .neq (.t 14) (.t 16)),
 qm 18 17,
 ⟨some 19, some (18, false), .mv (.t 3)⟩,
 ⟨some 20, some (18, false), .call 7 [(1, (.t 19))]⟩,
 ⟨some 21, some (18, false), .mv (.t 0)⟩,
 ⟨some 22, some (18, false), .call 7 [(1, (.t 21))]⟩,
 ⟨some 23, some (18, false), .call 6 [(1, (.t 20)), (1, (.t 22))]⟩,
 ⟨some 24, some (18, false), .un .not (.t 23)⟩,
 qr 25 (.pick (.t 18) (.k (.b true)) (.t 24))])
 (.cond (.t 25)
 (.seq (.reg [qr 2 (.mv (.k (.b false)))])
 (.ret))
 (.skip)))
 (.seq (.seq (.reg [qr 4 (.mv (.k (.i .i64 0)))])
 (.blk 0
 (.loop
 (.seq (.seq (.reg [qm 26 4,
 qm 27 3,
 qr 28 (.len (.t 27)),
 qr 29 (.bin .lss (.t 26) (.t 28))])
 (.cond (.t 29)
 (.skip)
 (.exit 0)))
 (.seq (.blk 1
 (.seq (.dreg [qm 32 3,
 qm 33 4,
 qr 34 (.idx 1 (.t 32) (.t 33)),
 qr 35 (.ld false 1 (.t 34)),
 qr 36 (.call 11 [(1, (.t 35))]),
 qr 37 (.un .not (.t 36)),
 qm 38 37,
 ⟨some 39, some (38, false), .mv (.t 4)⟩,
 ⟨some 40, some (38, false), .bin .gtr (.t 39) (.k (.i .i64 0))⟩,
 ⟨some 41, some (38, false), .mv (.t 40)⟩,
 ⟨some 42, some (41, true), .mv (.t 3)⟩,
 ⟨some 43, some (41, true), .mv (.t 4)⟩,
 ⟨some 44, some (41, true), .bin .sub (.t 43) (.k (.i .i64 1))⟩,
 ⟨some 45, some (41, true), .idx 1 (.t 42) (.t 44)⟩,
 ⟨some 46, some (41, true), .ld false 1 (.t 45)⟩,
 ⟨some 47, some (41, true), .mv (.t 3)⟩,
 ⟨some 48, some (41, true), .mv (.t 4)⟩,
 ⟨some 49, some (41, true), .idx 1 (.t 47) (.t 48)⟩,
 ⟨some 50, some (41, true), .ld false 1 (.t 49)⟩,
 ⟨some 51, some (41, true), .call 12 [(1, (.t 46)), (1, (.t 50))]⟩,
 ⟨some 52, some (41, true), .bin .gtr (.t 51) (.k (.i .i64 0))⟩,
 ⟨some 53, some (38, false), .pick (.t 41) (.t 52) (.k (.b false))⟩,
 qr 54 (.pick (.t 38) (.k (.b true)) (.t 53))])
 (.cond (.t 54)
 (.seq (.reg [qr 2 (.mv (.k (.b false)))])
 (.ret))
 (.skip))))
 (.reg [qm 30 4,
 qr 31 (.bin .add (.t 30) (.k (.i .i64 1))),
 qm 4 31]))))))
 (.seq (.seq (.reg [qr 5 (.mv (.k (.i .i64 0)))])
 (.blk 2
 (.loop
 (.seq (.seq (.reg [qm 55 5,
 qm 56 0,
 qr 57 (.len (.t 56)),
 qr 58 (.bin .lss (.t 55) (.t 57))])
 (.cond (.t 58)
 (.skip)
 (.exit 2)))
 (.seq (.blk 3
 (.seq (.reg [qr 6 (.mv (.k (.i .i64 0))),
 qr 7 (.mv (.k (.i .i64 0)))])
 (.seq (.seq (.reg [qr 8 (.mv (.k (.i .i64 0)))])
 (.blk 4
 (.loop
 (.seq (.seq (.reg [qm 61 8,
 qm 62 3,
 qr 63 (.len (.t 62)),
 qr 64 (.bin .lss (.t 61) (.t 63))])
 (.cond (.t 64)
 (.skip)
 (.exit 4)))
 (.seq (.blk 5
 (.seq (.seq (.dreg [qm 67 3,
 qm 68 8,
 qr 69 (.idx 1 (.t 67) (.t 68)),
 qr 70 (.ld false 1 (.t 69)),
 qm 71 0,
 qm 72 5,
 qr 73 (.idx 1 (.t 71) (.t 72)),
 qr 74 (.ld false 1 (.t 73)),
 qr 75 (.call 12 [(1, (.t 70)), (1, (.t 74))]),
 qr 76 (.bin .eql (.t 75) (.k (.i .i64 0)))])
 (.cond (.t 76)
 (.seq (.reg [qm 77 6,
 qr 78 (.bin .add (.t 77) (.k (.i .i64 1))),
 qm 6 78])
 (.seq (.dreg [qm 79 3,
 qm 80 8,
 qr 81 (.idx 1 (.t 79) (.t 80)),
 qr 82 (.ld false 1 (.t 81)),
 qm 83 0,
 qm 84 5,
 qr 85 (.idx 1 (.t 83) (.t 84)),
 qr 86 (.ld false 1 (.t 85)),
 qr 87 (.call 13 [(1, (.t 86))]),
 qr 88 (.call 6 [(1, (.t 82)), (1, (.t 87))]),
 qr 89 (.un .not (.t 88))])
 (.cond (.t 89)
 (.seq (.reg [qr 2 (.mv (.k (.b false)))])
 (.ret))
 (.skip))))
 (.skip)))
 (.seq (.dreg [qm 90 0,
 qm 91 8,
 qr 92 (.idx 1 (.t 90) (.t 91)),
 qr 93 (.ld false 1 (.t 92)),
 qm 94 0,
 qm 95 5,
 qr 96 (.idx 1 (.t 94) (.t 95)),
 qr 97 (.ld false 1 (.t 96)),
 qr 98 (.call 12 [(1, (.t 93)), (1, (.t 97))]),
 qr 99 (.bin .eql (.t 98) (.k (.i .i64 0)))])
 (.cond (.t 99)
 (.reg [qm 100 7,
 qr 101 (.bin .add (.t 100) (.k (.i .i64 1))),
 qm 7 101])
 (.skip)))))
 (.reg [qm 65 8,
 qr 66 (.bin .add (.t 65) (.k (.i .i64 1))),
 qm 8 66]))))))
 (.seq (.reg [qm 102 6,
 qm 103 7,
 qr 104 (.bin .neq (.t 102) (.t 103))])
 (.cond (.t 104)
 (.seq (.reg [qr 2 (.mv (.k (.b false)))])
 (.ret))
 (.skip))))))
 (.reg [qm 59 5,
 qr 60 (.bin .add (.t 59) (.k (.i .i64 1))),
 qm 5 60]))))))
 (.seq (.reg [qr 2 (.mv (.k (.b true)))])
 (.ret)))))))
theorem natOrder_spec (l : List (List Nat)) (m : Nat) (h : NOk l m) (hm : m ≤ 10000000) : AFun Try.prog J0 4 [.l 1 (RV l)] (.b true) := by
  have kn := lknown_spec
  have s1 := nsum_spec l m h (by omega)
  have ls := sm_B h (by omega) l.length (Nat.le_refl _)
  have c1 := same_spec (dg B (sm (vs l) l.length)) (dg B (sm (vs l) l.length)) (by omega) (by omega)
  have q1 := (nsorted_spec l m h (by omega)).frozen
  obtain ⟨r1, r2, r3⟩ := srt_all (vs l) l.length (vs_len l).symm
  have hl := h.1
  have lv := vs_len l
  have hS : ∀ x, x ∈ srt (vs l) 0 l.length → (dg B x).length ≤ m := fun x hx => dg_len B2 (vs_lt h x (r2.mem_iff.1 hx))
  have hN : NOk ((srt (vs l) 0 l.length).map (dg B)) m := ⟨by rw [List.length_map, r1]; exact hl, fun a ha => by
    obtain ⟨x, hx, rfl⟩ := List.mem_map.1 ha
    exact ⟨dg_Lt B0 _, hS x hx⟩⟩
  have s2 := nsum_spec _ m hN (by omega)
  rw [← NV_RV, vs_dg, List.length_map, r1, show sm (srt (vs l) 0 l.length) l.length = sm (vs l) l.length from by unfold sm; rw [List.take_of_length_le (by omega), List.take_of_length_le (by omega)]; exact r2.sum_nat] at s2
  rw [decide_eq_true rfl] at c1
  have gV := fun i (hi : i < l.length) => vs_get l i hi
  have gl := fun i (hi : i < l.length) => RV_get l i hi
  have gN := fun i (hi : i < l.length) => h.get i hi
  have kl := RV_len l
  have c2 := fun i (hi : i < l.length) => norm_dg' (gN i hi).1 (Nat.le_trans (gN i hi).2 (by omega))
  have c4 := fun x (hx : x ∈ srt (vs l) 0 l.length) => isNorm_spec (dg B x) (Nat.le_trans (hS x hx) (by omega))
  have oC := fun v => r2.count_eq v
  generalize dg B (sm (vs l) l.length) = x at *
  generalize srt (vs l) 0 l.length = S at *
  generalize vs l = UU at *
  have mS : ∀ i, i < l.length → S.getD i 0 ∈ S := fun i hi => by
    rw [List.getD_eq_getElem?_getD, List.getElem?_eq_getElem (by omega)]; exact List.getElem_mem _
  have kS : (NV S).length = l.length := by rw [NV_len, r1]
  refine mkQ fol J0s Try.func4 a4 ?_
  unfold a4
  simp only [init_eq, initE, qm, qr, qn]
  refine wkQ (ai @kl (ai @kS (ai @lconsA (ai @lnilA @bz_LNO)))) ?_
  refine vm_loopA [] Nat (fun i => ⟨[(0, .l 1 (RV l)), (3, .l 1 (NV S)), (4, .i .i64 (i : Int))], [], 0⟩) (fun i => i ≤ l.length) (fun i => l.length - i) 0 (Nat.zero_le _) (by exact leQ) (by
    exact ltQ) ?_
  intro i hi Q' hQ he hr
  by_cases h1 : (i : Int) < (l.length : Int)
  · have g1 := NV_get S i (by omega)
    have c5 := c4 _ (mS i (by omega))
    rw [decide_eq_true (tz_dg' _)] at c5
    have wi1 := iadd1 (show i ≤ 1099511627776 by omega)
    by_cases h0 : 0 < (i : Int)
    · have wj := isub1 (show 1 ≤ i by omega) (by omega)
      have g2 := NV_get S (i - 1) (by omega)
      have c6 := cmp_spec (dg B (S.getD (i - 1) 0)) (dg B (S.getD i 0)) (dg_Lt B0 _) (dg_Lt B0 _) (Nat.le_trans (hS _ (mS _ (by omega))) (by omega)) (Nat.le_trans (hS _ (mS _ (by omega))) (by omega))
      rw [nv_dg B2, nv_dg B2] at c6
      have n1 := sg_np (r3 (i - 1) i (Nat.zero_le _) (by omega) (by omega))
      generalize sg (S.getD (i - 1) 0) (S.getD i 0) = cc at *
      refine wkQ (ai @wi1 (ai @n1 (ai @wj (ai @g2 (ai @g1 (ai @kS (ai @h0 (ai @h1 (ai @lconsA (ai @lnilA @bz_LNO)))))))))) ?_
      refine hQ _ (i + 1) (by omega) (by omega) ?_
      exact ltQ
    · have zc1 := c5
      refine wkQ (ai @wi1 (ai @g1 (ai @kS (ai @h0 (ai @h1 (ai @lconsA (ai @lnilA @bz_LNO))))))) ?_
      refine hQ _ (i + 1) (by omega) (by omega) ?_
      exact ltQ
  · refine spQ (ai @kS (ai @h1 (ai @lconsA (ai @lnilA @bz_LNO)))) ?_
    refine he _ _ ?_
    refine spQ (ai @lconsA (ai @lnilA @bz_LNO)) ?_
    refine vm_loopA [] Nat (fun i => ⟨[(0, .l 1 (RV l)), (3, .l 1 (NV S)), (5, .i .i64 (i : Int))], [], 0⟩) (fun i => i ≤ l.length) (fun i => l.length - i) 0 (Nat.zero_le _) (by exact leQ) (by
      exact ltQ) ?_
    clear hQ he hr h1
    intro i hi Q' hQ he hr
    by_cases h1 : (i : Int) < (l.length : Int)
    · have g3 := gl i (by omega)
      have gv := gV i (by omega)
      obtain ⟨wa, la⟩ := gN i (by omega)
      have c7 := c2 i (by omega)
      rw [← gv] at c7
      have wi1 := iadd1 (show i ≤ 1099511627776 by omega)
      refine spQ (ai @kl (ai @h1 (ai @lconsA (ai @lnilA @bz_LNO)))) ?_
      refine vm_loopA [] Nat (fun k => ⟨[(0, .l 1 (RV l)), (3, .l 1 (NV S)), (5, .i .i64 (i : Int)), (6, .i .i64 (oft S (UU.getD i 0) k : Int)), (7, .i .i64 (oft UU (UU.getD i 0) k : Int)), (8, .i .i64 (k : Int))], [], 0⟩) (fun k => k ≤ l.length) (fun k => l.length - k) 0 (Nat.zero_le _) (by exact leQ) (by
        exact ltQ) ?_
      intro k hk Q2 hQ2 he2 hr2
      by_cases h3 : (k : Int) < (l.length : Int)
      · have g1 := NV_get S k (by omega)
        have g2 := gl k (by omega)
        obtain ⟨wb, lb⟩ := gN k (by omega)
        have wk := iadd1 (show k ≤ 1099511627776 by omega)
        have w6 := iadd1 (show oft S (UU.getD i 0) k ≤ 1099511627776 by have := oft_le S (UU.getD i 0) k; omega)
        have w7 := iadd1 (show oft UU (UU.getD i 0) k ≤ 1099511627776 by have := oft_le UU (UU.getD i 0) k; omega)
        have c1 := cmp_spec (dg B (S.getD k 0)) (l.getD i []) (dg_Lt B0 _) wa (Nat.le_trans (hS _ (mS _ (by omega))) (by omega)) (by omega)
        have c3 := cmp_spec (l.getD k []) (l.getD i []) wb wa (by omega) (by omega)
        rw [nv_dg B2, ← gv] at c1
        rw [← gv, ← gV k (by omega)] at c3
        have o1 := oft_s S (UU.getD i 0) k (by omega)
        have o2 := oft_s UU (UU.getD i 0) k (by omega)
        by_cases e1 : S.getD k 0 = UU.getD i 0
        · have c8 := same_spec (dg B (S.getD k 0)) (dg B (S.getD k 0)) (Nat.le_trans (hS _ (mS _ (by omega))) (by omega)) (Nat.le_trans (hS _ (mS _ (by omega))) (by omega))
          rw [decide_eq_true rfl] at c8
          have n1 := sg_e e1
          rw [n1] at c1
          rw [← e1] at c7
          by_cases e2 : UU.getD k 0 = UU.getD i 0
          · have n2 := sg_e e2
            rw [n2] at c3
            rw [if_pos e1] at o1
            rw [if_pos e2] at o2
            refine wkQ (ai @w7 (ai @w6 (ai @wk (ai @g3 (ai @g2 (ai @g1 (ai @kl (ai @kS (ai @h3 (ai @eqsA (ai @lconsA (ai @lnilA @bz_LNO)))))))))))) ?_
            refine hQ2 _ (k + 1) (by omega) (by omega) ?_
            simp (disch := (first | omega | assumption)) only [Sl, Sa, Sw, ↓reduceIte, Nat.reduceEqDiff, Nat.reduceLT, List.all_nil, List.all_cons, Nat.reduceBneDiff, Nat.reduceAdd, bne_iff_ne, ne_eq, reduceCtorEq, not_false_eq_true, not_true_eq_false, Bool.and_true, Bool.true_and, and_true, true_and, and_self, i_eq, o1, o2]
            repeat' first | rfl | omega | (simp only [List.length_append, List.length_cons, List.length_nil]; done) | apply And.intro
          · have n2 := sg_ne e2
            rw [if_pos e1] at o1
            rw [if_neg e2] at o2
            refine wkQ (ai @n2 (ai @w7 (ai @w6 (ai @wk (ai @g3 (ai @g2 (ai @g1 (ai @kl (ai @kS (ai @h3 (ai @eqsA (ai @lconsA (ai @lnilA @bz_LNO))))))))))))) ?_
            refine hQ2 _ (k + 1) (by omega) (by omega) ?_
            simp (disch := (first | omega | assumption)) only [Sl, Sa, Sw, ↓reduceIte, Nat.reduceEqDiff, Nat.reduceLT, List.all_nil, List.all_cons, Nat.reduceBneDiff, Nat.reduceAdd, bne_iff_ne, ne_eq, reduceCtorEq, not_false_eq_true, not_true_eq_false, Bool.and_true, Bool.true_and, and_true, true_and, and_self, i_eq, o1, o2]
            repeat' first | rfl | omega | (simp only [List.length_append, List.length_cons, List.length_nil]; done) | apply And.intro
        · have n1 := sg_ne e1
          by_cases e2 : UU.getD k 0 = UU.getD i 0
          · have n2 := sg_e e2
            rw [n2] at c3
            rw [if_neg e1] at o1
            rw [if_pos e2] at o2
            refine wkQ (ai @n1 (ai @w7 (ai @w6 (ai @wk (ai @g3 (ai @g2 (ai @g1 (ai @kl (ai @kS (ai @h3 (ai @eqsA (ai @lconsA (ai @lnilA @bz_LNO))))))))))))) ?_
            refine hQ2 _ (k + 1) (by omega) (by omega) ?_
            simp (disch := (first | omega | assumption)) only [Sl, Sa, Sw, ↓reduceIte, Nat.reduceEqDiff, Nat.reduceLT, List.all_nil, List.all_cons, Nat.reduceBneDiff, Nat.reduceAdd, bne_iff_ne, ne_eq, reduceCtorEq, not_false_eq_true, not_true_eq_false, Bool.and_true, Bool.true_and, and_true, true_and, and_self, i_eq, o1, o2]
            repeat' first | rfl | omega | (simp only [List.length_append, List.length_cons, List.length_nil]; done) | apply And.intro
          · have n2 := sg_ne e2
            rw [if_neg e1] at o1
            rw [if_neg e2] at o2
            refine wkQ (ai @n2 (ai @n1 (ai @w7 (ai @w6 (ai @wk (ai @g3 (ai @g2 (ai @g1 (ai @kl (ai @kS (ai @h3 (ai @eqsA (ai @lconsA (ai @lnilA @bz_LNO)))))))))))))) ?_
            refine hQ2 _ (k + 1) (by omega) (by omega) ?_
            simp (disch := (first | omega | assumption)) only [Sl, Sa, Sw, ↓reduceIte, Nat.reduceEqDiff, Nat.reduceLT, List.all_nil, List.all_cons, Nat.reduceBneDiff, Nat.reduceAdd, bne_iff_ne, ne_eq, reduceCtorEq, not_false_eq_true, not_true_eq_false, Bool.and_true, Bool.true_and, and_true, true_and, and_self, i_eq, o1, o2]
            repeat' first | rfl | omega | (simp only [List.length_append, List.length_cons, List.length_nil]; done) | apply And.intro
      · obtain rfl : k = l.length := by omega
        have ee : oft S (UU.getD i 0) l.length = oft UU (UU.getD i 0) l.length := by
          unfold oft
          rw [List.take_of_length_le (by omega), List.take_of_length_le (by omega)]
          exact oC _
        rw [ee]
        generalize oft UU (UU.getD i 0) l.length = cc at *
        refine spQ (ai @kS (ai @h3 (ai @lconsA (ai @lnilA @bz_LNO)))) ?_
        refine he2 _ _ ?_
        refine spQ (ai @wi1 (ai @lconsA (ai @lnilA @bz_LNO))) ?_
        refine hQ _ (i + 1) (by omega) (by omega) ?_
        exact ltQ
    · refine spQ (ai @kl (ai @h1 (ai @lconsA (ai @lnilA @bz_LNO)))) ?_
      refine he _ _ ?_
      refine spQ (ai @lconsA (ai @lnilA @bz_LNO)) ?_
      exact rtQ (ai @lconsA (ai @lnilA @bz_LNO))
end Go.Proofs.Ytkmjbgpkndpkdaa
