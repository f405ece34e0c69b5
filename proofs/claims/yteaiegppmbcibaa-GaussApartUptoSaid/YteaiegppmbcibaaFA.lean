/-
  The texts F1, F2, F3, F4.
-/
import Derived.Test.YteaiegppmbcibaaGD
import Derived.Test.YteaiegppmbcibaaGC
import Derived.Test.YteaiegppmbcibaaNM8
import Derived.Test.YteaiegppmbcibaaGG
namespace Go.Proofs.Yteaiegppmbcibaa
open Go Go.RowKit Ab
set_option linter.unusedSimpArgs false
set_option linter.unusedVariables false
set_option maxHeartbeats 10000000
theorem bz_F1 : type_of% (And.intro @W_len (And.intro @D_len (And.intro @Nat.div_one (And.intro @Nat.mul_one (And.intro @tn_nat (And.intro @W_nf (And.intro @D_nf (And.intro @W_nil (And.intro @D_nil (And.intro @wi (@D_get))))))))))) := And.intro @W_len (And.intro @D_len (And.intro @Nat.div_one (And.intro @Nat.mul_one (And.intro @tn_nat (And.intro @W_nf (And.intro @D_nf (And.intro @W_nil (And.intro @D_nil (And.intro @wi (@D_get))))))))))
theorem H2 : 2 ≤ 65536 := by decide
theorem B_H (i : Nat) : B ^ i = 65536 ^ (4 * i) := by rw [Nat.pow_mul]; rfl
theorem tmod_H (a : Nat) : (a : Int).tmod 65536 = ((a % 65536 : Nat) : Int) := rfl
theorem tdiv_H (a : Nat) : (a : Int).tdiv 65536 = ((a / 65536 : Nat) : Int) := rfl
theorem D_cat5 (a : List Nat) (x : Nat) : D a ++ [V.i .i64 (x : Int)] = D (a ++ [x]) := by simp [D]
theorem D_set5 (a : List Nat) (i x : Nat) : (D a).set i (.i .i64 (x : Int)) = D (a.set i x) := by simp [D]
theorem mk_D5 (n : Nat) : (List.replicate n [V.i .i64 0]).flatten = D (List.replicate n 0) := by
  induction n with
  | zero => rfl
  | succ n ih => rw [List.replicate_succ, List.flatten_cons, ih, List.replicate_succ]; rfl
theorem mk_W5 (n : Nat) : (List.replicate n [V.i .u64 0]).flatten = W (List.replicate n 0) := by
  induction n with
  | zero => rfl
  | succ n ih => rw [List.replicate_succ, List.flatten_cons, ih, List.replicate_succ]; rfl
theorem dgH_len {a : List Nat} (ha : Wd a) : (dg 65536 (nv B a)).length ≤ 4 * a.length := dg_len H2 (by rw [← B_H]; exact nv_lt ha)
def a57 : AC := .seq (.reg [qr 2 (.mv (.k .nl))])
 (.seq (.reg [qm 4 0,
 qr 5 (.len (.t 4)),
 qm 3 5])
 (.seq (.blk 0
 (.loop
 (.seq (.seq (.reg [qm 6 3,
 qr 7 (.bin .gtr (.t 6) (.k (.i .i64 0))),
 qm 8 7,
 ⟨some 9, some (8, true), .mv (.t 0)⟩,
 ⟨some 10, some (8, true), .mv (.t 3)⟩,
 ⟨some 11, some (8, true), .bin .sub (.t 10) (.k (.i .i64 1))⟩,
 ⟨some 12, some (8, true), .idx 1 (.t 9) (.t 11)⟩,
 ⟨some 13, some (8, true), .ld false 1 (.t 12)⟩,
 ⟨some 14, some (8, true), .bin .eql (.t 13) (.k (.i .i64 0))⟩,
 qr 15 (.pick (.t 8) (.t 14) (.k (.b false)))])
 (.cond (.t 15)
 (.skip)
 (.exit 0)))
 (.blk 1
 (.reg [qm 16 3,
 qr 17 (.bin .sub (.t 16) (.k (.i .i64 1))),
 qm 3 17])))))
 (.seq (.reg [qm 18 0,
 qm 19 3,
 qr 20 (.sub 1 (.t 18) none (some (.t 19))),
 qm 2 20])
 (.ret))))
theorem hcut_spec (a : List Nat) (ha : a.length ≤ 9223372036854775807) : AFun Try.prog J0 57 [.l 1 (D a)] (.l 1 (D (tz a))) := by
  refine mkQ fol J0s Try.func57 a57 ?_
  unfold a57
  simp only [init_eq, initE, qm, qr, qn]
  refine spQ @bz_F1 ?_
  refine vm_loopA [] Nat (fun n => ⟨[(0, .l 1 (D a)), (3, .i .i64 (n : Int))], [], 0⟩) (fun n => n ≤ a.length ∧ tz a = tz (a.take n)) (fun n => n) a.length ⟨by omega, by rw [List.take_length]⟩ (by exact leQ) (by
    simp (disch := (first | omega | assumption)) only [Sl, Sa, Sw, ↓reduceIte, Nat.reduceEqDiff, Nat.reduceLT, List.all_nil, List.all_cons, Nat.reduceBneDiff, Nat.reduceAdd, bne_iff_ne, ne_eq, reduceCtorEq, not_false_eq_true, not_true_eq_false, Bool.and_true, Bool.true_and, and_true, true_and, and_self, i_eq]
    try rfl) ?_
  intro n ⟨hn, ht⟩ Q' hQ he hr
  by_cases h0 : 0 < (n : Int)
  · obtain ⟨m, rfl⟩ : ∃ m, n = m + 1 := ⟨n - 1, by omega⟩
    by_cases h1 : ((a.getD m 0 : Nat) : Int) = 0
    · refine spQ (ai @Nat.add_sub_cancel (ai @tn_sub1 (ai @wi (ai @D_get (ai @h1 (ai @h0 @bz_F1)))))) ?_
      refine hQ _ m ⟨by omega, ?_⟩ (by omega) ?_
      · rw [ht]; exact tz_zero a m (by omega) (by omega)
      · simp (disch := (first | omega | assumption)) only [Sl, Sa, Sw, ↓reduceIte, Nat.reduceEqDiff, Nat.reduceLT, List.all_nil, List.all_cons, Nat.reduceBneDiff, Nat.reduceAdd, bne_iff_ne, ne_eq, reduceCtorEq, not_false_eq_true, not_true_eq_false, Bool.and_true, Bool.true_and, and_true, true_and, and_self, i_eq]
        omega
    · refine spQ (ai @Nat.add_sub_cancel (ai @tn_sub1 (ai @wi (ai @D_get (ai @h1 (ai @h0 @bz_F1)))))) ?_
      refine he _ _ ?_
      refine spQ (ai @D_take @bz_F1) ?_
      have e := tz_take a
      rw [ht, tz_top a m (by omega) (by omega)] at e
      refine rtO @bz_F1 ?_
      rw [e, ht]
  · refine spQ (ai @h0 @bz_F1) ?_
    refine he _ _ ?_
    obtain rfl : n = 0 := by omega
    refine spQ (ai @D_take @bz_F1) ?_
    refine rtO (ai @ht @bz_F1) ?_
    rfl
def a58 : AC := .seq (.reg [qr 2 (.mv (.k .nl))])
 (.seq (.reg [qr 3 (.mv (.k .nl))])
 (.seq (.seq (.reg [qr 4 (.mv (.k (.i .i64 0)))])
 (.blk 0
 (.loop
 (.seq (.seq (.reg [qm 7 4,
 qm 8 0,
 qr 9 (.len (.t 8)),
 qr 10 (.bin .lss (.t 7) (.t 9))])
 (.cond (.t 10)
 (.skip)
 (.exit 0)))
 (.seq (.blk 1
 (.seq (.reg [qm 13 0,
 qm 14 4,
 qr 15 (.idx 1 (.t 13) (.t 14)),
 qr 16 (.ld false 1 (.t 15)),
 qm 5 16])
 (.seq (.reg [qr 6 (.mv (.k (.i .i64 0)))])
 (.blk 2
 (.loop
 (.seq (.seq (.reg [qm 17 6,
 qr 18 (.bin .lss (.t 17) (.k (.i .i64 4)))])
 (.cond (.t 18)
 (.skip)
 (.exit 2)))
 (.seq (.blk 3
 (.seq (.reg [qm 21 3,
 qm 22 5,
 qr 23 (.bin .rem (.t 22) (.k (.i .u64 65536))),
 qr 24 (.cvt .i64 (.t 23)),
 qr 25 (.bsl 3 1 1 [(.i .i64 0)] [(0, (.t 24))]),
 qr 26 (.app 3 1 8 (.t 21) (.t 25)),
 qm 3 26])
 (.reg [qm 27 5,
 qr 28 (.bin .quo (.t 27) (.k (.i .u64 65536))),
 qm 5 28])))
 (.reg [qm 19 6,
 qr 20 (.bin .add (.t 19) (.k (.i .i64 1))),
 qm 6 20]))))))))
 (.reg [qm 11 4,
 qr 12 (.bin .add (.t 11) (.k (.i .i64 1))),
 qm 4 12]))))))
 (.seq (.reg [qm 29 3,
 qm 2 29])
 (.ret))))
theorem hDigits_spec (a : List Nat) (ha : Wd a) (la : a.length ≤ 100000000000) : AFun Try.prog J0 58 [.l 1 (W a)] (.l 1 (D (fl 65536 (4 * a.length) (nv B a)))) := by
  refine mkQ fol J0s Try.func58 a58 ?_
  unfold a58
  simp only [init_eq, initE, qm, qr, qn]
  refine spQ @bz_F1 ?_
  refine vm_loopA [(3, 3, 1)] Nat (fun i => ⟨[(0, .l 1 (W a)), (3, .ow 1 0 (4 * i)), (4, .i .i64 (i : Int))], [(0, some ⟨3, 1, D (fl 65536 (4 * i) (nv B (a.take i))), true, false⟩)], 1⟩)
    (fun i => i ≤ a.length) (fun i => a.length - i) 0 (Nat.zero_le _) (by exact leQ) (by
    simp (disch := (first | omega | assumption)) only [Sl, Sa, Sw, ↓reduceIte, Nat.reduceEqDiff, Nat.reduceLT, List.all_nil, List.all_cons, Nat.reduceBneDiff, Nat.reduceAdd, bne_iff_ne, ne_eq, reduceCtorEq, not_false_eq_true, not_true_eq_false, Bool.and_true, Bool.true_and, and_true, true_and, and_self, i_eq]
    exact ⟨rfl, rfl⟩) ?_
  intro i hi Q' hQ he hr
  by_cases h : (i : Int) < a.length
  · refine spQ (ai @W_get (ai @h @bz_F1)) ?_
    refine vm_loopA [] Nat (fun k => ⟨[(0, .l 1 (W a)), (3, .ow 1 0 (4 * i + k)), (4, .i .i64 (i : Int)), (5, .i .u64 ((a.getD i 0 / 65536 ^ k : Nat) : Int)), (6, .i .i64 (k : Int))], [(0, some ⟨3, 1, D (fl 65536 (4 * i) (nv B (a.take i)) ++ fl 65536 k (a.getD i 0)), true, false⟩)], 1⟩)
      (fun k => k ≤ 4) (fun k => 4 - k) 0 (Nat.zero_le _) (by exact leQ) (by
      simp (disch := (first | omega | assumption)) only [Sl, Sa, Sw, ↓reduceIte, Nat.reduceEqDiff, Nat.reduceLT, List.all_nil, List.all_cons, Nat.reduceBneDiff, Nat.reduceAdd, bne_iff_ne, ne_eq, reduceCtorEq, not_false_eq_true, not_true_eq_false, Bool.and_true, Bool.true_and, and_true, true_and, and_self, i_eq]
      exact ⟨⟨rfl, by simp, rfl⟩, by simp [fl]⟩) ?_
    intro k hk Q'' hQ' he' hr'
    by_cases h1 : (k : Int) < 4
    · have hq : a.getD i 0 / 65536 ^ k < 18446744073709551616 := Nat.lt_of_le_of_lt (Nat.div_le_self _ _) (Wd_get ha i)
      have hw : IntKind.u64.wrap ((a.getD i 0 / 65536 ^ k / 65536 : Nat) : Int) = ((a.getD i 0 / 65536 ^ k / 65536 : Nat) : Int) := by
        generalize a.getD i 0 / 65536 ^ k = q at hq ⊢
        exact wu (by omega)
      refine spQ (ai @D_cat5 (ai @hw (ai @wi (ai @tdiv_H (ai @tmod_H (ai @h1 @bz_F1)))))) ?_
      refine hQ' _ (k + 1) (by omega) (by omega) ?_
      simp (disch := (first | omega | assumption)) only [Sl, Sa, Sw, ↓reduceIte, Nat.reduceEqDiff, Nat.reduceLT, List.all_nil, List.all_cons, Nat.reduceBneDiff, Nat.reduceAdd, bne_iff_ne, ne_eq, reduceCtorEq, not_false_eq_true, not_true_eq_false, Bool.and_true, Bool.true_and, and_true, true_and, and_self, i_eq]
      exact ⟨⟨by omega, by rw [Nat.div_div_eq_div_mul, ← Nat.pow_succ], rfl⟩, by rw [fl_succ, List.append_assoc]⟩
    · obtain rfl : k = 4 := by omega
      refine spQ (ai @h1 @bz_F1) ?_
      refine he' _ _ ?_
      refine spQ (ai @wi @bz_F1) ?_
      refine hQ _ (i + 1) (by omega) (by omega) ?_
      simp (disch := (first | omega | assumption)) only [Sl, Sa, Sw, ↓reduceIte, Nat.reduceEqDiff, Nat.reduceLT, List.all_nil, List.all_cons, Nat.reduceBneDiff, Nat.reduceAdd, bne_iff_ne, ne_eq, reduceCtorEq, not_false_eq_true, not_true_eq_false, Bool.and_true, Bool.true_and, and_true, true_and, and_self, i_eq]
      refine ⟨⟨by omega, rfl⟩, ?_⟩
      rw [show 4 * (i + 1) = 4 * i + 4 from by omega, fl_add, nv_take_succ', B_H]
      have hlt := nv_take_lt (b := B) (by decide) ha i
      rw [B_H] at hlt
      rw [Nat.add_mul_div_left _ _ (Nat.pow_pos (by decide)), Nat.div_eq_of_lt hlt, Nat.zero_add, fl_congr (b := 65536) (by decide) (n := 4 * i) (v := nv B (a.take i) + 65536 ^ (4 * i) * a.getD i 0) (u := nv B (a.take i)) (by rw [Nat.add_mul_mod_self_left])]
  · obtain rfl : i = a.length := by omega
    refine spQ (ai @h @bz_F1) ?_
    refine he _ _ ?_
    refine spQ @bz_F1 ?_
    refine rtO @bz_F1 ?_
    rw [List.take_length]
def a42 : AC := .seq (.reg [qr 2 (.mv (.k .nl))])
 (.seq (.reg [qm 3 0,
 qr 4 (.call 58 [(1, (.t 3))]),
 qr 5 (.call 57 [(1, (.t 4))]),
 qm 2 5])
 (.ret))
theorem hdigits_spec (a : List Nat) (ha : Wd a) (la : a.length ≤ 100000000000) : AFun Try.prog J0 42 [.l 1 (W a)] (.l 1 (D (dg 65536 (nv B a)))) := by
  have h1 := hDigits_spec a ha la
  have h2 := hcut_spec (fl 65536 (4 * a.length) (nv B a)) (by rw [fl_len]; omega)
  rw [dg_fl H2 (by rw [← B_H]; exact nv_lt ha)] at h2
  refine mkQ fol J0s Try.func42 a42 ?_
  unfold a42
  simp only [init_eq, initE, qm, qr, qn]
  exact wdQ @bz_F1
def a61 : AC := .seq (.reg [qr 4 (.mv (.k (.i .i64 0)))])
 (.seq (.seq (.reg [qm 5 1,
 qm 6 0,
 qr 7 (.len (.t 6)),
 qr 8 (.bin .lss (.t 5) (.t 7))])
 (.cond (.t 8)
 (.seq (.reg [qm 9 0,
 qm 10 1,
 qr 11 (.idx 1 (.t 9) (.t 10)),
 qr 12 (.ld false 1 (.t 11)),
 qm 4 12])
 (.ret))
 (.skip)))
 (.seq (.reg [qr 4 (.mv (.k (.i .i64 0)))])
 (.ret)))
theorem hdigit_spec (a : List Nat) (i : Nat) : AFun Try.prog J0 61 [.l 1 (D a), .i .i64 i] (.i .i64 ((a.getD i 0 : Nat) : Int)) := by
  refine mkQ fol J0s Try.func61 a61 ?_
  unfold a61
  simp only [init_eq, initE, qm, qr, qn]
  by_cases h : (i : Int) < a.length
  · refine spQ (ai @D_get (ai @h @bz_F1)) ?_
    exact rtQ @bz_F1
  · refine spQ (ai @h @bz_F1) ?_
    refine rtO (ai @i_eq @bz_F1) ?_
    rw [List.getD_eq_getElem?_getD, List.getElem?_eq_none (by omega)]; rfl
def a56 : AC := .seq (.reg [qr 4 (.mv (.k (.i .i64 0)))])
 (.seq (.seq (.reg [qm 8 0,
 qr 9 (.len (.t 8)),
 qm 10 1,
 qr 11 (.len (.t 10)),
 qr 12 (.mm true (.t 9) (.t 11)),
 qr 13 (.bin .sub (.t 12) (.k (.i .i64 1))),
 qm 5 13])
 (.blk 0
 (.loop
 (.seq (.seq (.reg [qm 14 5,
 qr 15 (.bin .geq (.t 14) (.k (.i .i64 0)))])
 (.cond (.t 15)
 (.skip)
 (.exit 0)))
 (.seq (.blk 1
 (.seq (.reg [qm 18 0,
 qm 19 5,
 qr 20 (.call 61 [(1, (.t 18)), (1, (.t 19))]),
 qm 21 1,
 qm 22 5,
 qr 23 (.call 61 [(1, (.t 21)), (1, (.t 22))]),
 qm 6 20,
 qm 7 23])
 (.seq (.seq (.reg [qm 24 6,
 qm 25 7,
 qr 26 (.bin .lss (.t 24) (.t 25))])
 (.cond (.t 26)
 (.seq (.reg [qr 4 (.mv (.k (.i .i64 (-1))))])
 (.ret))
 (.skip)))
 (.seq (.reg [qm 27 6,
 qm 28 7,
 qr 29 (.bin .gtr (.t 27) (.t 28))])
 (.cond (.t 29)
 (.seq (.reg [qr 4 (.mv (.k (.i .i64 1)))])
 (.ret))
 (.skip))))))
 (.reg [qm 16 5,
 qr 17 (.bin .sub (.t 16) (.k (.i .i64 1))),
 qm 5 17]))))))
 (.seq (.reg [qr 4 (.mv (.k (.i .i64 0)))])
 (.ret)))
theorem hcmp_spec (a b : List Nat) (ha : Lt 65536 a) (hb : Lt 65536 b) (la : a.length ≤ 1099511627776) (lb : b.length ≤ 1099511627776) :
    AFun Try.prog J0 56 [.l 1 (D a), .l 1 (D b)] (.i .i64 (sg (nv 65536 a) (nv 65536 b))) := by
  have hda := hdigit_spec a
  have hdb := hdigit_spec b
  obtain ⟨z, hz⟩ : ∃ z, z = sg (nv 65536 a) (nv 65536 b) := ⟨_, rfl⟩
  rw [← hz]
  refine mkQ fol J0s Try.func56 a56 ?_
  unfold a56
  simp only [init_eq, initE, qm, qr, qn]
  generalize hm : max a.length b.length = m
  refine spQ (ai @wi (ai @hm (ai @mx @bz_F1))) ?_
  refine vm_loopA [] Nat (fun i => ⟨[(0, .l 1 (D a)), (1, .l 1 (D b)), (5, .i .i64 ((i : Int) - 1))], [], 0⟩)
    (fun i => i ≤ m ∧ ∀ j, i ≤ j → a.getD j 0 = b.getD j 0) (fun i => i) m ⟨Nat.le_refl _, fun j hj => by rw [List.getD_eq_getElem?_getD, List.getD_eq_getElem?_getD, List.getElem?_eq_none (by omega), List.getElem?_eq_none (by omega)]⟩ (by exact leQ) (by
    simp (disch := (first | omega | assumption)) only [Sl, Sa, Sw, ↓reduceIte, Nat.reduceEqDiff, Nat.reduceLT, List.all_nil, List.all_cons, Nat.reduceBneDiff, Nat.reduceAdd, bne_iff_ne, ne_eq, reduceCtorEq, not_false_eq_true, not_true_eq_false, Bool.and_true, Bool.true_and, and_true, true_and, and_self, i_eq]
    try rfl) ?_
  intro i ⟨hi, hj⟩ Q' hQ he hr
  by_cases h : (0 : Int) ≤ (i : Int) - 1
  · obtain ⟨n, rfl⟩ : ∃ n, i = n + 1 := ⟨i - 1, by omega⟩
    have e : ((n + 1 : Nat) : Int) - 1 = (n : Int) := by omega
    have h : (0 : Int) ≤ (n : Int) := by omega
    simp only [e]
    have h1 := hda n
    have h2 := hdb n
    obtain ⟨c1, c2⟩ := nv_eq_of (B := 65536) (n + 1) hj
    rcases Nat.lt_trichotomy (a.getD n 0) (b.getD n 0) with k | k | k
    · have c3 := c1.1 (cmp_lt (b := 65536) (by decide) ha hb n k)
      obtain rfl : z = -1 := by rw [hz]; simp [sg, c3]
      generalize a.getD n 0 = x at *
      generalize b.getD n 0 = y at *
      have kI : (x : Int) < (y : Int) := by omega
      refine wkQ (ai @kI (ai @h @bz_F1)) ?_
      refine hr _ ?_
      exact rtQ @bz_F1
    · have hj' : ∀ j, n ≤ j → a.getD j 0 = b.getD j 0 := fun j h3 => by
        rcases Nat.lt_or_ge n j with h4 | h4
        · exact hj j h4
        · obtain rfl : j = n := by omega
          exact k
      generalize a.getD n 0 = x at *
      generalize b.getD n 0 = y at *
      subst k
      refine wkQ (ai @Int.lt_irrefl (ai @h @bz_F1)) ?_
      refine hQ _ n ⟨by omega, hj'⟩ (by omega) ?_
      simp (disch := (first | omega | assumption)) only [Sl, Sa, Sw, ↓reduceIte, Nat.reduceEqDiff, Nat.reduceLT, List.all_nil, List.all_cons, Nat.reduceBneDiff, Nat.reduceAdd, bne_iff_ne, ne_eq, reduceCtorEq, not_false_eq_true, not_true_eq_false, Bool.and_true, Bool.true_and, and_true, true_and, and_self, i_eq]
      try omega
    · have c3 := cmp_lt (b := 65536) (by decide) hb ha n k
      have c4 : ¬ nv 65536 a < nv 65536 b := fun h => by have := c1.2 h; omega
      have c5 : ¬ nv 65536 a = nv 65536 b := fun h => by have := c2.2 h; omega
      obtain rfl : z = 1 := by rw [hz]; simp [sg, c4, c5]
      generalize a.getD n 0 = x at *
      generalize b.getD n 0 = y at *
      have kI : ¬ (x : Int) < (y : Int) := by omega
      have kJ : (y : Int) < (x : Int) := by omega
      refine wkQ (ai @kJ (ai @kI (ai @h @bz_F1))) ?_
      refine hr _ ?_
      exact rtQ @bz_F1
  · obtain rfl : i = 0 := by omega
    have c2 := (nv_eq_of (B := 65536) 0 hj).2.1 rfl
    obtain rfl : z = 0 := by rw [hz]; simp [sg, c2]
    refine spQ (ai @h @bz_F1) ?_
    refine he _ _ ?_
    refine spQ @bz_F1 ?_
    exact rtQ @bz_F1
end Go.Proofs.Yteaiegppmbcibaa
namespace Go.Proofs.Yteaiegppmbcibaa
open Go Go.RowKit Ab
set_option linter.unusedSimpArgs false
set_option linter.unusedVariables false
set_option maxHeartbeats 10000000
theorem bz_F2 : type_of% (And.intro @W_len (And.intro @D_len (And.intro @Nat.div_one (And.intro @Nat.mul_one (And.intro @tn_nat (And.intro @W_nf (And.intro @D_nf (And.intro @W_nil (And.intro @D_nil (And.intro @wi (@D_get))))))))))) := And.intro @W_len (And.intro @D_len (And.intro @Nat.div_one (And.intro @Nat.mul_one (And.intro @tn_nat (And.intro @W_nf (And.intro @D_nf (And.intro @W_nil (And.intro @D_nil (And.intro @wi (@D_get))))))))))
theorem get_mid (l r : List Nat) (x n : Nat) (h : l.length = n) : (l ++ x :: r).getD n 0 = x := by
  rw [List.getD_eq_getElem?_getD, List.getElem?_append_right (by omega), h, Nat.sub_self]; rfl
theorem set_mid (l r : List Nat) (x y n : Nat) (h : l.length = n) : (l ++ x :: r).set n y = l ++ y :: r := by
  rw [List.set_append_right _ _ (by omega), h, Nat.sub_self, List.set_cons_zero]
def a59 : AC := .seq (.reg [qr 4 (.mv (.k .nl))])
 (.seq (.reg [qm 8 1,
 qr 9 (.mk 60 1 8 [(.i .u64 0)] (.t 8) (.t 8)),
 qm 5 9])
 (.seq (.seq (.reg [qr 6 (.mv (.k (.i .i64 0)))])
 (.blk 0
 (.loop
 (.seq (.seq (.reg [qm 10 6,
 qm 11 1,
 qr 12 (.bin .lss (.t 10) (.t 11))])
 (.cond (.t 12)
 (.skip)
 (.exit 0)))
 (.seq (.blk 1
 (.seq (.reg [qr 7 (.mv (.k (.i .i64 3)))])
 (.blk 2
 (.loop
 (.seq (.seq (.reg [qm 15 7,
 qr 16 (.bin .geq (.t 15) (.k (.i .i64 0)))])
 (.cond (.t 16)
 (.skip)
 (.exit 2)))
 (.seq (.blk 3
 (.dreg [qm 19 5,
 qm 20 6,
 qm 21 5,
 qm 22 6,
 qr 23 (.idx 1 (.t 21) (.t 22)),
 qr 24 (.ld false 1 (.t 23)),
 qr 25 (.bin .mul (.t 24) (.k (.i .u64 65536))),
 qm 26 0,
 qm 27 6,
 qr 28 (.bin .mul (.k (.i .i64 4)) (.t 27)),
 qm 29 7,
 qr 30 (.bin .add (.t 28) (.t 29)),
 qr 31 (.call 61 [(1, (.t 26)), (1, (.t 30))]),
 qr 32 (.cvt .u64 (.t 31)),
 qr 33 (.bin .add (.t 25) (.t 32)),
 qr 34 (.idx 1 (.t 19) (.t 20)),
 qn (.st 1 (.t 34) (.t 33))]))
 (.reg [qm 17 7,
 qr 18 (.bin .sub (.t 17) (.k (.i .i64 1))),
 qm 7 18])))))))
 (.reg [qm 13 6,
 qr 14 (.bin .add (.t 13) (.k (.i .i64 1))),
 qm 6 14]))))))
 (.seq (.reg [qm 35 5,
 qm 4 35])
 (.ret))))
theorem hwords_spec (d : List Nat) (n : Nat) (hd : Lt 65536 d) (ld : d.length ≤ 1099511627776) (ln : n ≤ 100000000000) :
    AFun Try.prog J0 59 [.l 1 (D d), .i .i64 (n : Int)] (.o 60 1 (W (fl B n (nv 65536 d)))) := by
  have hdi := hdigit_spec d
  have hn0 : (0 : Int) ≤ (n : Int) := by omega
  obtain ⟨v, hv⟩ : ∃ v, v = nv 65536 d := ⟨_, rfl⟩
  rw [← hv]
  refine mkQ fol J0s Try.func59 a59 ?_
  unfold a59
  simp only [init_eq, initE, qm, qr, qn]
  refine spQ (ai @mk_W5 (ai @hn0 @bz_F2)) ?_
  refine vm_loopA [] Nat (fun i => ⟨[(0, .l 1 (D d)), (1, .i .i64 (n : Int)), (5, .ow 1 0 n), (6, .i .i64 (i : Int))], [(0, some ⟨60, 1, W (fl B i v ++ List.replicate (n - i) 0), true, false⟩)], 1⟩)
    (fun i => i ≤ n) (fun i => n - i) 0 (Nat.zero_le _) (by exact leQ) (by
    exact ltQ) ?_
  intro i hi Q' hQ he hr
  by_cases h : (i : Int) < (n : Int)
  · obtain ⟨w, hw⟩ : ∃ w, w = v / B ^ i % B := ⟨_, rfl⟩
    have hwl : w < 18446744073709551616 := by rw [hw]; exact Nat.mod_lt _ B0
    obtain ⟨r, hr0⟩ : ∃ r, r = List.replicate (n - (i + 1)) 0 := ⟨_, rfl⟩
    have hrl : r.length = n - (i + 1) := by rw [hr0, List.length_replicate]
    have fli : (fl B i v).length = i := fl_len _ _
    have er : List.replicate (n - i) 0 = 0 :: r := by rw [hr0, show n - i = (n - (i + 1)) + 1 from by omega, List.replicate_succ]
    refine spQ (ai @h @bz_F2) ?_
    refine vm_loopA [] Nat (fun k => ⟨[(0, .l 1 (D d)), (1, .i .i64 (n : Int)), (5, .ow 1 0 n), (6, .i .i64 (i : Int)), (7, .i .i64 ((k : Int) - 1))], [(0, some ⟨60, 1, W (fl B i v ++ (w / 65536 ^ k) :: r), true, false⟩)], 1⟩)
      (fun k => k ≤ 4) (fun k => k) 4 (by omega) (by exact leQ) (by
      simp (disch := (first | omega | assumption)) only [Sl, Sa, Sw, ↓reduceIte, Nat.reduceEqDiff, Nat.reduceLT, List.all_nil, List.all_cons, Nat.reduceBneDiff, Nat.reduceAdd, bne_iff_ne, ne_eq, reduceCtorEq, not_false_eq_true, not_true_eq_false, Bool.and_true, Bool.true_and, and_true, true_and, and_self, i_eq]
      rw [er, Nat.div_eq_of_lt hwl]
      repeat' first | rfl | omega | (simp only [List.length_append, List.length_cons, List.length_nil]; done) | apply And.intro) ?_
    intro k hk Q'' hQ' he' hr'
    have lenk : ∀ x, (fl B i v ++ x :: r).length = n := fun x => by rw [List.length_append, fli, List.length_cons, hrl]; omega
    by_cases h1 : (0 : Int) ≤ (k : Int) - 1
    · obtain ⟨m, rfl⟩ : ∃ m, k = m + 1 := ⟨k - 1, by omega⟩
      have e : ((m + 1 : Nat) : Int) - 1 = (m : Int) := by omega
      have h1 : (0 : Int) ≤ (m : Int) := by omega
      have dig : d.getD (4 * i + m) 0 = w / 65536 ^ m % 65536 := by
        rw [nv_digit (b := 65536) (by decide) hd, hw, ← hv, Nat.pow_add, ← Nat.div_div_eq_div_mul, ← B_H]
        rw [show B = 65536 ^ m * 65536 ^ (4 - m) from by rw [← Nat.pow_add, show m + (4 - m) = 4 from by omega]; rfl, Nat.mod_mul_right_div_self]
        rw [show 65536 ^ (4 - m) = 65536 * 65536 ^ (3 - m) from by rw [Nat.mul_comm, ← Nat.pow_succ]; congr 1; omega, Nat.mod_mul_right_mod]
      have hx : w / 65536 ^ m < 18446744073709551616 := Nat.lt_of_le_of_lt (Nat.div_le_self _ _) hwl
      have hdm := hdi (4 * i + m)
      rw [dig] at hdm
      have ei : (4 : Int) * (i : Int) + (m : Int) = ((4 * i + m : Nat) : Int) := by omega
      have w4 : IntKind.i64.wrap (4 * (i : Int)) = 4 * (i : Int) := wi (by omega)
      have gm := get_mid (fl B i v) r (w / 65536 ^ (m + 1)) i fli
      have sm := fun y => set_mid (fl B i v) r (w / 65536 ^ (m + 1)) y i fli
      have lk := lenk (w / 65536 ^ (m + 1))
      have ex : w / 65536 ^ (m + 1) = w / 65536 ^ m / 65536 := by rw [Nat.pow_succ, Nat.div_div_eq_div_mul]
      obtain ⟨x, hx0⟩ : ∃ x, x = w / 65536 ^ m := ⟨_, rfl⟩
      rw [← hx0] at hdm hx ex
      rw [ex] at gm sm lk ⊢
      simp only [e]
      have wd : IntKind.u64.wrap ((x % 65536 : Nat) : Int) = ((x % 65536 : Nat) : Int) := wu (by omega)
      have wm : IntKind.u64.wrap (((x / 65536 : Nat) : Int) * 65536) = ((x / 65536 : Nat) : Int) * 65536 := wu (by omega)
      have ws : IntKind.u64.wrap (((x / 65536 : Nat) : Int) * 65536 + ((x % 65536 : Nat) : Int)) = (x : Int) := by rw [wu (by omega)]; omega
      repeat first | (refine hK _ ?_; clear hK K) | simp only [Sv, ↓reduceIte, Nat.reduceEqDiff] | ((first | refine vm_reg (fun K hK => ?_) | refine vm_dreg (fun K hK => ?_) | refine vm_dregx (fun K hK => ?_) | refine clp_q ?_ | refine clq_mk (by assumption) ?_ | refine mcq_q ?_ | (apply mcr_mk; assumption) | (apply ocr_mk; assumption)); simp (disch := (first | omega | assumption)) only [S1, ↓reduceIte, Nat.reduceEqDiff, Nat.reduceAdd, Nat.reduceMul, Nat.reduceDiv, AOp.sb, AOp.mut, frzf, ↓Bool.false_eq_true, beq_self_eq_true, ite_self, Nat.reduceLeDiff, Int.reduceEq, Int.reduceSub, Int.reduceAdd, Int.reduceNeg, Int.reduceLT, Int.reduceLE, Nat.reduceLT, bz_F2, h1, W_get, gm, lk, w4, ei, wd, wm, ws, W_set, sm])
      refine hQ' _ m (by omega) (by omega) ?_
      simp (disch := (first | omega | assumption)) only [Sl, Sa, Sw, ↓reduceIte, Nat.reduceEqDiff, Nat.reduceLT, List.all_nil, List.all_cons, Nat.reduceBneDiff, Nat.reduceAdd, bne_iff_ne, ne_eq, reduceCtorEq, not_false_eq_true, not_true_eq_false, Bool.and_true, Bool.true_and, and_true, true_and, and_self, i_eq]
      try rw [hx0]
      repeat' first | rfl | omega | (simp only [List.length_append, List.length_cons, List.length_nil]; done) | apply And.intro
    · obtain rfl : k = 0 := by omega
      refine spQ (ai @h1 @bz_F2) ?_
      refine he' _ _ ?_
      refine spQ @bz_F2 ?_
      refine hQ _ (i + 1) (by omega) (by omega) ?_
      simp (disch := (first | omega | assumption)) only [Sl, Sa, Sw, ↓reduceIte, Nat.reduceEqDiff, Nat.reduceLT, List.all_nil, List.all_cons, Nat.reduceBneDiff, Nat.reduceAdd, bne_iff_ne, ne_eq, reduceCtorEq, not_false_eq_true, not_true_eq_false, Bool.and_true, Bool.true_and, and_true, true_and, and_self, i_eq]
      rw [fl_succ, ← hw, List.append_assoc]
      refine ⟨by omega, ?_⟩
      (first | rw [Nat.pow_zero, Nat.div_one, hr0] | rw [hr0]); rfl
  · obtain rfl : i = n := by omega
    refine spQ (ai @h @bz_F2) ?_
    refine he _ _ ?_
    refine spQ @bz_F2 ?_
    refine rtO @bz_F2 ?_
    rw [Nat.sub_self]; simp
theorem words_of {d : List Nat} (hd : Lt 65536 d) : fl B (((tz d).length + 3) / 4) (nv 65536 d) = dg B (nv 65536 d) := by
  have h0 : nv 65536 (tz d) = nv 65536 d := nv_tz d
  have ht := tz_tz d
  have hl := Lt_tz hd
  have h1 := nv_lt hl
  rw [h0] at h1
  generalize tz d = t at *
  generalize hi : (t.length + 3) / 4 = i
  refine fl_full B2 ?_ ?_
  · rcases Nat.eq_zero_or_pos i with h | h
    · exact .inl h
    · refine .inr ?_
      have h3 : t ≠ [] := fun h4 => by rw [h4] at hi; simp at hi; omega
      have h4 := nv_top (b := 65536) ht h3
      rw [h0] at h4
      rw [B_H]
      exact Nat.le_trans (Nat.pow_le_pow_right (by decide) (by omega)) h4
  · rw [B_H]
    exact Nat.lt_of_lt_of_le h1 (Nat.pow_le_pow_right (by decide) (by omega))
def a43 : AC := .seq (.reg [qr 2 (.mv (.k .nl))])
 (.seq (.reg [qm 3 0,
 qr 4 (.call 57 [(1, (.t 3))]),
 qm 0 4])
 (.seq (.reg [qm 5 0,
 qm 6 0,
 qr 7 (.len (.t 6)),
 qr 8 (.bin .add (.t 7) (.k (.i .i64 3))),
 qr 9 (.bin .quo (.t 8) (.k (.i .i64 4))),
 qr 10 (.call 59 [(1, (.t 5)), (1, (.t 9))]),
 qm 2 10])
 (.ret)))
theorem hnumber_spec (d : List Nat) (hd : Lt 65536 d) (ld : d.length ≤ 100000000000) : AFun Try.prog J0 43 [.l 1 (D d)] (.o 60 1 (W (dg B (nv 65536 d)))) := by
  have h1 := hcut_spec d (by omega)
  have hl := tz_len d
  have h2 := hwords_spec (tz d) (((tz d).length + 3) / 4) (Lt_tz hd) (by omega) (by omega)
  rw [nv_tz, words_of hd] at h2
  have e1 : (((tz d).length : Int) + 3).tdiv 4 = ((((tz d).length + 3) / 4 : Nat) : Int) := by
    rw [show ((tz d).length : Int) + 3 = (((tz d).length + 3 : Nat) : Int) from rfl]; rfl
  have w1 : IntKind.i64.wrap ((((tz d).length + 3) / 4 : Nat) : Int) = ((((tz d).length + 3) / 4 : Nat) : Int) := wi (by omega)
  generalize tz d = t at *
  refine mkQ fol J0s Try.func43 a43 ?_
  unfold a43
  simp only [init_eq, initE, qm, qr, qn]
  exact wdQ (ai @w1 (ai @e1 @bz_F2))
def a55 : AC := .seq (.reg [qr 2 (.mv (.k .nl))])
 (.seq (.reg [qm 3 0,
 qr 4 (.call 42 [(1, (.t 3))]),
 qr 5 (.call 43 [(1, (.t 4))]),
 qm 2 5])
 (.ret))
theorem hnorm_spec (a : List Nat) (ha : Wd a) (la : a.length ≤ 10000000000) : AFun Try.prog J0 55 [.l 1 (W a)] (.o 60 1 (W (dg B (nv B a)))) := by
  have h1 := hdigits_spec a ha (by omega)
  have hl := dgH_len ha
  have h2 := hnumber_spec (dg 65536 (nv B a)) (dg_Lt (by decide) _) (by omega)
  rw [nv_dg H2] at h2
  refine mkQ fol J0s Try.func55 a55 ?_
  unfold a55
  simp only [init_eq, initE, qm, qr, qn]
  exact wdQ @bz_F2
theorem dgH_z {v : Nat} : ((((dg 65536 v).length : Nat) : Int) = 0) = (v = 0) := propext ⟨fun h => (dg_nil H2).1 (List.eq_nil_of_length_eq_zero (by omega)), fun h => by rw [h]; rfl⟩
def a27 : AC := .seq (.reg [qr 2 (.mv (.k (.b false)))])
 (.seq (.reg [qm 3 0,
 qr 4 (.call 42 [(1, (.t 3))]),
 qr 5 (.len (.t 4)),
 qr 6 (.bin .eql (.t 5) (.k (.i .i64 0))),
 qm 2 6])
 (.ret))
theorem hzero_spec (a : List Nat) (ha : Wd a) (la : a.length ≤ 10000000000) : AFun Try.prog J0 27 [.l 1 (W a)] (.b (decide (nv B a = 0))) := by
  have h1 := hdigits_spec a ha (by omega)
  refine mkQ fol J0s Try.func27 a27 ?_
  unfold a27
  simp only [init_eq, initE, qm, qr, qn]
  exact wdQ (ai @dgH_z @bz_F2)
def a28 : AC := .seq (.reg [qr 2 (.mv (.k .nl))])
 (.seq (.reg [qm 3 0,
 qr 4 (.bin .rem (.t 3) (.k (.i .i64 65536))),
 qm 5 0,
 qr 6 (.bin .quo (.t 5) (.k (.i .i64 65536))),
 qr 7 (.bin .rem (.t 6) (.k (.i .i64 65536))),
 qm 8 0,
 qr 9 (.bin .quo (.t 8) (.k (.i .i64 65536))),
 qr 10 (.bin .quo (.t 9) (.k (.i .i64 65536))),
 qr 11 (.bin .rem (.t 10) (.k (.i .i64 65536))),
 qm 12 0,
 qr 13 (.bin .quo (.t 12) (.k (.i .i64 65536))),
 qr 14 (.bin .quo (.t 13) (.k (.i .i64 65536))),
 qr 15 (.bin .quo (.t 14) (.k (.i .i64 65536))),
 qr 16 (.bsl 3 1 4 [(.i .i64 0), (.i .i64 0), (.i .i64 0), (.i .i64 0)] [(0, (.t 4)), (1, (.t 7)), (2, (.t 11)), (3, (.t 15))]),
 qr 17 (.call 43 [(1, (.t 16))]),
 qm 2 17])
 (.ret))
theorem hword_spec (n : Nat) (hn : n < 9223372036854775808) : AFun Try.prog J0 28 [.i .i64 (n : Int)] (.o 60 1 (W (dg B n))) := by
  obtain ⟨a, ha⟩ : ∃ a, a = n / 65536 := ⟨_, rfl⟩
  obtain ⟨b, hb⟩ : ∃ b, b = a / 65536 := ⟨_, rfl⟩
  obtain ⟨c, hc⟩ : ∃ c, c = b / 65536 := ⟨_, rfl⟩
  have h1 := hnumber_spec [n % 65536, a % 65536, b % 65536, c] (by
    intro x hx
    simp only [List.mem_cons, List.not_mem_nil, or_false] at hx
    omega) (by simp)
  rw [show nv 65536 [n % 65536, a % 65536, b % 65536, c] = n from by simp only [nv]; omega] at h1
  have e : D [n % 65536, a % 65536, b % 65536, c] = [.i .i64 ((n % 65536 : Nat) : Int), .i .i64 ((a % 65536 : Nat) : Int), .i .i64 ((b % 65536 : Nat) : Int), .i .i64 (c : Int)] := rfl
  have wa : IntKind.i64.wrap (((n / 65536 : Nat)) : Int) = (a : Int) := by rw [← ha]; exact wi (by omega)
  have wb : IntKind.i64.wrap (((a / 65536 : Nat)) : Int) = (b : Int) := by rw [← hb]; exact wi (by omega)
  have wc : IntKind.i64.wrap (((b / 65536 : Nat)) : Int) = (c : Int) := by rw [← hc]; exact wi (by omega)
  rw [e] at h1
  refine mkQ fol J0s Try.func28 a28 ?_
  unfold a28
  simp only [init_eq, initE, qm, qr, qn]
  exact wdQ (ai @wc (ai @wb (ai @wa (ai @tdiv_H (ai @tmod_H @bz_F2)))))
def a41 : AC := .seq (.reg [qr 4 (.mv (.k (.i .i64 0)))])
 (.seq (.reg [qm 5 0,
 qr 6 (.call 42 [(1, (.t 5))]),
 qm 7 1,
 qr 8 (.call 42 [(1, (.t 7))]),
 qr 9 (.call 56 [(1, (.t 6)), (1, (.t 8))]),
 qm 4 9])
 (.ret))
theorem hcmpN_spec (a b : List Nat) (ha : Wd a) (hb : Wd b) (la : a.length ≤ 10000000000) (lb : b.length ≤ 10000000000) : AFun Try.prog J0 41 [.l 1 (W a), .l 1 (W b)] (.i .i64 (sg (nv B a) (nv B b))) := by
  have h1 := hdigits_spec a ha (by omega)
  have h2 := hdigits_spec b hb (by omega)
  have hla := dgH_len ha
  have hlb := dgH_len hb
  have h3 := hcmp_spec (dg 65536 (nv B a)) (dg 65536 (nv B b)) (dg_Lt (by decide) _) (dg_Lt (by decide) _) (by omega) (by omega)
  rw [nv_dg H2, nv_dg H2] at h3
  refine mkQ fol J0s Try.func41 a41 ?_
  unfold a41
  simp only [init_eq, initE, qm, qr, qn]
  exact wdQ @bz_F2
def a45 : AC := .seq (.reg [qr 2 (.mv (.k .nl))])
 (.seq (.seq (.reg [qm 3 0,
 qr 4 (.bin .eql (.t 3) (.k (.i .u64 0)))])
 (.cond (.t 4)
 (.seq (.reg [qr 5 (.bsl 60 1 0 [] []),
 qm 2 5])
 (.ret))
 (.skip)))
 (.seq (.reg [qm 6 0,
 qr 7 (.bsl 60 1 1 [(.i .u64 0)] [(0, (.t 6))]),
 qm 2 7])
 (.ret)))
theorem hof_spec (w : Nat) (hw : w < 18446744073709551616) : AFun Try.prog J0 45 [.i .u64 (w : Int)] (.o 60 1 (W (dg B w))) := by
  rcases Nat.eq_zero_or_pos w with h | h
  · subst h
    rw [dg_zero]
    refine mkQ fol J0s Try.func45 a45 ?_
    unfold a45
    simp only [init_eq, initE, qm, qr, qn]
    refine spQ @bz_F2 ?_
    exact rtQ @bz_F2
  · rw [dg_one h hw]
    have h0 : ¬ (w : Int) = 0 := by omega
    refine mkQ fol J0s Try.func45 a45 ?_
    unfold a45
    simp only [init_eq, initE, qm, qr, qn]
    refine spQ (ai @h0 @bz_F2) ?_
    exact rtQ (ai @W1 @bz_F2)
theorem one_val {a : List Nat} {m : Nat} (ha : Wd a) (h : tz a = tz (a.take (m + 1))) (hm : m < a.length) (h1 : a.getD m 0 ≠ 0) :
    a.getD 0 0 = nv B a % B ∧ (decide (((m + 1 : Nat) : Int) = 1)) = decide (nv B a < 18446744073709551616) := by
  have h0 := nv_digit (b := B) (by decide) ha 0
  rw [Nat.pow_zero, Nat.div_one] at h0
  refine ⟨h0, ?_⟩
  have e : nv B a = nv B (a.take (m + 1)) := by rw [← nv_tz, h, nv_tz]
  have ht : tz (a.take (m + 1)) = a.take (m + 1) := by
    have h2 := tz_top a m hm h1
    have h3 := tz_take (a.take (m + 1))
    rw [h2, List.take_take, Nat.min_self] at h3
    exact h3.symm
  have hne : a.take (m + 1) ≠ [] := fun h => by have := congrArg List.length h; rw [List.length_take, List.length_nil] at this; omega
  have h4 := nv_top (b := B) ht hne
  rw [List.length_take, Nat.min_eq_left (by omega), Nat.add_sub_cancel, ← e] at h4
  have h5 := nv_take_lt (b := B) (by decide) ha (m + 1)
  rw [← e] at h5
  rcases Nat.eq_zero_or_pos m with h6 | h6
  · subst h6
    rw [decide_eq_true (by omega), decide_eq_true]
    exact h5
  · rw [decide_eq_false (by omega), decide_eq_false]
    have h7 : B ^ 1 ≤ B ^ m := Nat.pow_le_pow_right (by decide) h6
    rw [Nat.pow_one] at h7
    have : B = 18446744073709551616 := rfl
    omega
def a60 : AC := .seq (.reg [qr 2 (.mv (.k (.i .u64 0))),
 qr 3 (.mv (.k (.b false)))])
 (.seq (.reg [qm 5 0,
 qr 6 (.len (.t 5)),
 qm 4 6])
 (.seq (.blk 0
 (.loop
 (.seq (.seq (.reg [qm 7 4,
 qr 8 (.bin .gtr (.t 7) (.k (.i .i64 0))),
 qm 9 8,
 ⟨some 10, some (9, true), .mv (.t 0)⟩,
 ⟨some 11, some (9, true), .mv (.t 4)⟩,
 ⟨some 12, some (9, true), .bin .sub (.t 11) (.k (.i .i64 1))⟩,
 ⟨some 13, some (9, true), .idx 1 (.t 10) (.t 12)⟩,
 ⟨some 14, some (9, true), .ld false 1 (.t 13)⟩,
 ⟨some 15, some (9, true), .bin .eql (.t 14) (.k (.i .u64 0))⟩,
 qr 16 (.pick (.t 9) (.t 15) (.k (.b false)))])
 (.cond (.t 16)
 (.skip)
 (.exit 0)))
 (.blk 1
 (.reg [qm 17 4,
 qr 18 (.bin .sub (.t 17) (.k (.i .i64 1))),
 qm 4 18])))))
 (.seq (.seq (.reg [qm 19 4,
 qr 20 (.bin .eql (.t 19) (.k (.i .i64 0)))])
 (.cond (.t 20)
 (.seq (.reg [qr 2 (.mv (.k (.i .u64 0))),
 qr 3 (.mv (.k (.b true)))])
 (.ret))
 (.skip)))
 (.seq (.reg [qm 21 0,
 qr 22 (.idx 1 (.t 21) (.k (.i .i64 0))),
 qr 23 (.ld false 1 (.t 22)),
 qm 24 4,
 qr 25 (.bin .eql (.t 24) (.k (.i .i64 1))),
 qm 2 23,
 qm 3 25])
 (.ret)))))
theorem hone_spec (a : List Nat) (ha : Wd a) (la : a.length ≤ 10000000000) : AFun Try.prog J0 60 [.l 1 (W a)] (.t [.i .u64 ((nv B a % B : Nat) : Int), .b (decide (nv B a < 18446744073709551616))]) := by
  obtain ⟨x, hx⟩ : ∃ x, x = nv B a % B := ⟨_, rfl⟩
  obtain ⟨y, hy⟩ : ∃ y, y = decide (nv B a < 18446744073709551616) := ⟨_, rfl⟩
  rw [← hx, ← hy]
  refine mkQ fol J0s Try.func60 a60 ?_
  unfold a60
  simp only [init_eq, initE, qm, qr, qn]
  refine spQ @bz_F2 ?_
  refine vm_loopA [] Nat (fun n => ⟨[(0, .l 1 (W a)), (4, .i .i64 (n : Int))], [], 0⟩) (fun n => n ≤ a.length ∧ tz a = tz (a.take n)) (fun n => n) a.length ⟨by omega, by rw [List.take_length]⟩ (by exact leQ) (by
    simp (disch := (first | omega | assumption)) only [Sl, Sa, Sw, ↓reduceIte, Nat.reduceEqDiff, Nat.reduceLT, List.all_nil, List.all_cons, Nat.reduceBneDiff, Nat.reduceAdd, bne_iff_ne, ne_eq, reduceCtorEq, not_false_eq_true, not_true_eq_false, Bool.and_true, Bool.true_and, and_true, true_and, and_self, i_eq]
    try rfl) ?_
  intro n ⟨hn, ht⟩ Q' hQ he hr
  by_cases h0 : 0 < (n : Int)
  · obtain ⟨m, rfl⟩ : ∃ m, n = m + 1 := ⟨n - 1, by omega⟩
    have hml : m < a.length := by omega
    by_cases h1 : a.getD m 0 = 0
    · have h1I : ((a.getD m 0 : Nat) : Int) = 0 := by omega
      refine spQ (ai @Nat.add_sub_cancel (ai @tn_sub1 (ai @wi (ai @W_get (ai @h1I (ai @h0 @bz_F2)))))) ?_
      refine hQ _ m ⟨by omega, ?_⟩ (by omega) ?_
      · rw [ht]; exact tz_zero a m (by omega) (by omega)
      · simp (disch := (first | omega | assumption)) only [Sl, Sa, Sw, ↓reduceIte, Nat.reduceEqDiff, Nat.reduceLT, List.all_nil, List.all_cons, Nat.reduceBneDiff, Nat.reduceAdd, bne_iff_ne, ne_eq, reduceCtorEq, not_false_eq_true, not_true_eq_false, Bool.and_true, Bool.true_and, and_true, true_and, and_self, i_eq]
        omega
    · have h1I : ¬ ((a.getD m 0 : Nat) : Int) = 0 := by omega
      obtain ⟨o1, o2⟩ := one_val ha ht hml h1
      rw [← hx] at o1
      rw [← hy] at o2
      have m0 : ¬ ((m + 1 : Nat) : Int) = 0 := by omega
      refine spQ (ai @Nat.add_sub_cancel (ai @tn_sub1 (ai @wi (ai @W_get (ai @h1I (ai @h0 @bz_F2)))))) ?_
      refine he _ _ ?_
      refine spQ (ai @o2 (ai @o1 (ai @W_get (ai @Int.toNat_zero (ai @m0 @bz_F2))))) ?_
      exact rtQ @bz_F2
  · obtain rfl : n = 0 := by omega
    have e0 : nv B a = 0 := by rw [← nv_tz, ht]; rfl
    rw [e0] at hx hy
    obtain rfl : x = 0 := hx
    obtain rfl : y = true := hy
    refine spQ (ai @h0 @bz_F2) ?_
    refine he _ _ ?_
    refine spQ @bz_F2 ?_
    exact rtQ @bz_F2
theorem shr_zero (x m : Nat) : ((((x / 2 ^ m : Nat)) : Int) = 0) = (x < 2 ^ m) := propext ⟨fun h => by
  rcases Nat.lt_or_ge x (2 ^ m) with h1 | h1
  · exact h1
  · have := (Nat.le_div_iff_mul_le (Nat.pow_pos (by decide : 0 < 2))).2 (by rw [Nat.one_mul]; exact h1 : 1 * 2 ^ m ≤ x)
    omega, fun h => by rw [Nat.div_eq_of_lt h]; rfl⟩
def a44 : AC := .seq (.reg [qr 6 (.mv (.k (.i .u64 0))),
 qr 7 (.mv (.k (.i .u64 0))),
 qr 8 (.mv (.k (.b false)))])
 (.seq (.reg [qm 14 0,
 qr 15 (.call 60 [(1, (.t 14))]),
 qm 13 15,
 qr 16 (.ext (.t 13) 0),
 qr 17 (.ext (.t 13) 1),
 qm 9 16,
 qm 10 17])
 (.seq (.reg [qm 19 1,
 qr 20 (.call 60 [(1, (.t 19))]),
 qm 18 20,
 qr 21 (.ext (.t 18) 0),
 qr 22 (.ext (.t 18) 1),
 qm 11 21,
 qm 12 22])
 (.seq (.dreg [qm 23 9,
 qm 24 11,
 qm 25 10,
 qm 26 25,
 ⟨some 27, some (26, true), .mv (.t 12)⟩,
 qr 28 (.pick (.t 26) (.t 27) (.k (.b false))),
 qm 29 28,
 ⟨some 30, some (29, true), .mv (.t 9)⟩,
 ⟨some 31, some (29, true), .mv (.t 2)⟩,
 ⟨some 32, some (29, true), .bin .shr (.t 30) (.t 31)⟩,
 ⟨some 33, some (29, true), .bin .eql (.t 32) (.k (.i .u64 0))⟩,
 qr 34 (.pick (.t 29) (.t 33) (.k (.b false))),
 qm 35 34,
 ⟨some 36, some (35, true), .mv (.t 11)⟩,
 ⟨some 37, some (35, true), .mv (.t 2)⟩,
 ⟨some 38, some (35, true), .bin .shr (.t 36) (.t 37)⟩,
 ⟨some 39, some (35, true), .bin .eql (.t 38) (.k (.i .u64 0))⟩,
 qr 40 (.pick (.t 35) (.t 39) (.k (.b false))),
 qm 6 23,
 qm 7 24,
 qm 8 40])
 (.ret))))
theorem hones_spec (a b : List Nat) (m : Nat) (hm : m ≤ 64) (ha : Wd a) (hb : Wd b) (la : a.length ≤ 10000000000) (lb : b.length ≤ 10000000000) :
    AFun Try.prog J0 44 [.l 1 (W a), .l 1 (W b), .i .i64 (m : Int)] (.t [.i .u64 ((nv B a % B : Nat) : Int), .i .u64 ((nv B b % B : Nat) : Int), .b (decide (nv B a < 2 ^ m ∧ nv B b < 2 ^ m))]) := by
  have h1 := hone_spec a ha la
  have h2 := hone_spec b hb lb
  have hP : 2 ^ m ≤ 18446744073709551616 := by have : 2 ^ m ≤ 2 ^ 64 := Nat.pow_le_pow_right (by decide) hm; omega
  have hB : B = 18446744073709551616 := rfl
  have sx := fun x => shr64 x m hm
  have sz := fun x => shr_zero x m
  have m0 : (0 : Int) ≤ (m : Int) := by omega
  generalize nv B a = u at *
  generalize nv B b = v at *
  generalize 2 ^ m = P at *
  by_cases c1 : u < 18446744073709551616
  · rw [decide_eq_true c1] at h1
    rw [Nat.mod_eq_of_lt (by omega : u < B)] at h1 ⊢
    by_cases c2 : v < 18446744073709551616
    · rw [decide_eq_true c2] at h2
      rw [Nat.mod_eq_of_lt (by omega : v < B)] at h2 ⊢
      by_cases c3 : u < P
      · by_cases c4 : v < P
        · rw [decide_eq_true ⟨c3, c4⟩]
          refine mkQ fol J0s Try.func44 a44 ?_
          unfold a44
          simp only [init_eq, initE, qm, qr, qn]
          refine wkQ (ai @c4 (ai @c3 (ai @sz (ai @sx (ai @tn_nat (ai @m0 @bz_F2)))))) ?_
          exact rtQ @bz_F2
        · rw [decide_eq_false (fun h => c4 h.2)]
          refine mkQ fol J0s Try.func44 a44 ?_
          unfold a44
          simp only [init_eq, initE, qm, qr, qn]
          refine wkQ (ai @c4 (ai @c3 (ai @sz (ai @sx (ai @tn_nat (ai @m0 @bz_F2)))))) ?_
          exact rtQ @bz_F2
      · rw [decide_eq_false (fun h => c3 h.1)]
        refine mkQ fol J0s Try.func44 a44 ?_
        unfold a44
        simp only [init_eq, initE, qm, qr, qn]
        refine wkQ (ai @c3 (ai @sz (ai @sx (ai @tn_nat (ai @m0 @bz_F2))))) ?_
        exact rtQ @bz_F2
    · rw [decide_eq_false c2] at h2
      rw [decide_eq_false (fun h => c2 (by omega))]
      refine mkQ fol J0s Try.func44 a44 ?_
      unfold a44
      simp only [init_eq, initE, qm, qr, qn]
      refine wkQ @bz_F2 ?_
      exact rtQ @bz_F2
  · rw [decide_eq_false c1] at h1
    rw [decide_eq_false (fun h => c1 (by omega))]
    refine mkQ fol J0s Try.func44 a44 ?_
    unfold a44
    simp only [init_eq, initE, qm, qr, qn]
    refine wkQ @bz_F2 ?_
    exact rtQ @bz_F2
end Go.Proofs.Yteaiegppmbcibaa
namespace Go.Proofs.Yteaiegppmbcibaa
open Go Go.RowKit Ab
set_option linter.unusedSimpArgs false
set_option linter.unusedVariables false
set_option maxHeartbeats 10000000
theorem bz_F3 : type_of% (And.intro @W_len (And.intro @D_len (And.intro @Nat.div_one (And.intro @Nat.mul_one (And.intro @tn_nat (And.intro @W_nf (And.intro @D_nf (And.intro @W_nil (And.intro @D_nil (And.intro @wi (@D_get))))))))))) := And.intro @W_len (And.intro @D_len (And.intro @Nat.div_one (And.intro @Nat.mul_one (And.intro @tn_nat (And.intro @W_nf (And.intro @D_nf (And.intro @W_nil (And.intro @D_nil (And.intro @wi (@D_get))))))))))
def a46 : AC := .seq (.reg [qr 4 (.mv (.k .nl))])
 (.seq (.reg [qr 5 (.mv (.k .nl))])
 (.seq (.reg [qr 6 (.mv (.k (.i .i64 0)))])
 (.seq (.seq (.reg [qr 7 (.mv (.k (.i .i64 0)))])
 (.blk 0
 (.loop
 (.seq (.seq (.reg [qm 8 7,
 qm 9 0,
 qr 10 (.len (.t 9)),
 qr 11 (.bin .lss (.t 8) (.t 10)),
 qm 12 11,
 ⟨some 13, some (12, false), .mv (.t 7)⟩,
 ⟨some 14, some (12, false), .mv (.t 1)⟩,
 ⟨some 15, some (12, false), .len (.t 14)⟩,
 ⟨some 16, some (12, false), .bin .lss (.t 13) (.t 15)⟩,
 qr 17 (.pick (.t 12) (.k (.b true)) (.t 16)),
 qm 18 17,
 ⟨some 19, some (18, false), .mv (.t 6)⟩,
 ⟨some 20, some (18, false), .bin .gtr (.t 19) (.k (.i .i64 0))⟩,
 qr 21 (.pick (.t 18) (.k (.b true)) (.t 20))])
 (.cond (.t 21)
 (.skip)
 (.exit 0)))
 (.seq (.blk 1
 (.seq (.reg [qm 24 6,
 qm 25 0,
 qm 26 7,
 qr 27 (.call 61 [(1, (.t 25)), (1, (.t 26))]),
 qm 28 1,
 qm 29 7,
 qr 30 (.call 61 [(1, (.t 28)), (1, (.t 29))]),
 qr 31 (.bin .add (.t 27) (.t 30)),
 qr 32 (.bin .add (.t 24) (.t 31)),
 qm 6 32])
 (.seq (.reg [qm 33 5,
 qm 34 6,
 qr 35 (.bin .rem (.t 34) (.k (.i .i64 65536))),
 qr 36 (.bsl 3 1 1 [(.i .i64 0)] [(0, (.t 35))]),
 qr 37 (.app 3 1 8 (.t 33) (.t 36)),
 qm 5 37])
 (.reg [qm 38 6,
 qr 39 (.bin .quo (.t 38) (.k (.i .i64 65536))),
 qm 6 39]))))
 (.reg [qm 22 7,
 qr 23 (.bin .add (.t 22) (.k (.i .i64 1))),
 qm 7 23]))))))
 (.seq (.reg [qm 40 5,
 qm 4 40])
 (.ret)))))
def addh (x y : List Nat) : Nat := if (nv 65536 x + nv 65536 y) / 65536 ^ (max x.length y.length) = 0 then max x.length y.length else max x.length y.length + 1
theorem hplus_spec (x y : List Nat) (hx : Lt 65536 x) (hy : Lt 65536 y) (lx : x.length ≤ 1000000000000) (ly : y.length ≤ 1000000000000) :
    AFun Try.prog J0 46 [.l 1 (D x), .l 1 (D y)] (.o 3 1 (D (fl 65536 (addh x y) (nv 65536 x + nv 65536 y)))) := by
  refine mkQ fol J0s Try.func46 a46 ?_
  unfold a46
  simp only [init_eq, initE, qm, qr, qn]
  generalize hm : max x.length y.length = m
  have han : addh x y = if (nv 65536 x + nv 65536 y) / 65536 ^ m = 0 then m else m + 1 := by unfold addh; rw [hm]
  refine spQ @bz_F3 ?_
  refine vm_loopA [(5, 3, 1)] Nat (fun i => ⟨[(0, .l 1 (D x)), (1, .l 1 (D y)), (5, .ow 1 0 i), (6, .i .i64 (((nv 65536 (x.take i) + nv 65536 (y.take i)) / 65536 ^ i : Nat) : Int)), (7, .i .i64 (i : Int))], [(0, some ⟨3, 1, D (fl 65536 i (nv 65536 (x.take i) + nv 65536 (y.take i))), true, false⟩)], 1⟩)
    (fun i => i ≤ m + 1 ∧ (i = m + 1 → (nv 65536 x + nv 65536 y) / 65536 ^ m ≠ 0)) (fun i => m + 1 - i) 0 ⟨by omega, by omega⟩ (by exact leQ) (by
    simp (disch := (first | omega | assumption)) only [Sl, Sa, Sw, ↓reduceIte, Nat.reduceEqDiff, Nat.reduceLT, List.all_nil, List.all_cons, Nat.reduceBneDiff, Nat.reduceAdd, bne_iff_ne, ne_eq, reduceCtorEq, not_false_eq_true, not_true_eq_false, Bool.and_true, Bool.true_and, and_true, true_and, and_self, i_eq]
    exact ⟨⟨by simp [nv], rfl⟩, rfl⟩) ?_
  intro i ⟨hi, hi2⟩ Q' hQ he hr
  generalize hc : (nv 65536 (x.take i) + nv 65536 (y.take i)) / 65536 ^ i = c
  have hcB : c ≤ 1 := by
    have h1 := nv_take_lt (b := 65536) (by decide) hx i
    have h2 := nv_take_lt (b := 65536) (by decide) hy i
    rw [← hc]
    exact Nat.le_of_lt_succ ((Nat.div_lt_iff_lt_mul (Nat.pow_pos (by decide))).2 (by omega))
  have gx := Lt_get hx (by decide : 0 < 65536) i
  have gy := Lt_get hy (by decide : 0 < 65536) i
  obtain ⟨n, hn⟩ : ∃ n, n = x.getD i 0 + y.getD i 0 + c := ⟨_, rfl⟩
  have hs : (c : Int) + (((x.getD i 0 : Nat) : Int) + ((y.getD i 0 : Nat) : Int)) = (n : Int) := by omega
  obtain ⟨s1, s2, s3⟩ := add_step (b := 65536) (P := 65536 ^ i) (A := nv 65536 (x.take i)) (Y := nv 65536 (y.take i)) (x := x.getD i 0) (y := y.getD i 0) (Nat.pow_pos (by decide)) (by decide)
  rw [hc, ← hn] at s1 s3
  have full : m ≤ i → c = (nv 65536 x + nv 65536 y) / 65536 ^ i := fun h => by
    rw [← hc, List.take_of_length_le (by omega), List.take_of_length_le (by omega)]
  have small : nv 65536 x + nv 65536 y < 65536 ^ (m + 1) := by
    have h1 := nv_lt hx
    have h2 := nv_lt hy
    have h3 : 65536 ^ x.length ≤ 65536 ^ m := Nat.pow_le_pow_right (by decide) (by omega)
    have h4 : 65536 ^ y.length ≤ 65536 ^ m := Nat.pow_le_pow_right (by decide) (by omega)
    rw [Nat.pow_succ]; omega
  by_cases h1 : (i : Int) < x.length
  · refine spQ (ai @h1 @bz_F3) ?_
    try simp only [Sv, ↓reduceIte, Nat.reduceEqDiff]
    refine vm_reg (fun K hK => ?_)
    refine smQ @bz_F3 ?_
    refine clp_mk _ _ ?_ ?_ ?_ (hdigit_spec x i) ?_
    · simp (disch := (first | omega | assumption)) only [S1, ↓reduceIte, Nat.reduceEqDiff, Nat.reduceAdd, Nat.reduceMul, Nat.reduceDiv, AOp.sb, AOp.mut, frzf, ↓Bool.false_eq_true, beq_self_eq_true, ite_self, Nat.reduceLeDiff, Int.reduceEq, Int.reduceSub, Int.reduceAdd, Int.reduceNeg, Int.reduceLT, Int.reduceLE, Nat.reduceLT, bz_F3]
    · simp (disch := (first | omega | assumption)) only [S1, ↓reduceIte, Nat.reduceEqDiff, Nat.reduceAdd, Nat.reduceMul, Nat.reduceDiv, AOp.sb, AOp.mut, frzf, ↓Bool.false_eq_true, beq_self_eq_true, ite_self, Nat.reduceLeDiff, Int.reduceEq, Int.reduceSub, Int.reduceAdd, Int.reduceNeg, Int.reduceLT, Int.reduceLE, Nat.reduceLT, bz_F3]
    · first | rfl | (simp (disch := (first | omega | assumption)) only [S1, ↓reduceIte, Nat.reduceEqDiff, Nat.reduceAdd, Nat.reduceMul, Nat.reduceDiv, AOp.sb, AOp.mut, frzf, ↓Bool.false_eq_true, beq_self_eq_true, ite_self, Nat.reduceLeDiff, Int.reduceEq, Int.reduceSub, Int.reduceAdd, Int.reduceNeg, Int.reduceLT, Int.reduceLE, Nat.reduceLT, bz_F3])
    refine smQ @bz_F3 ?_
    refine clp_mk _ _ ?_ ?_ ?_ (hdigit_spec y i) ?_
    · simp (disch := (first | omega | assumption)) only [S1, ↓reduceIte, Nat.reduceEqDiff, Nat.reduceAdd, Nat.reduceMul, Nat.reduceDiv, AOp.sb, AOp.mut, frzf, ↓Bool.false_eq_true, beq_self_eq_true, ite_self, Nat.reduceLeDiff, Int.reduceEq, Int.reduceSub, Int.reduceAdd, Int.reduceNeg, Int.reduceLT, Int.reduceLE, Nat.reduceLT, bz_F3]
    · simp (disch := (first | omega | assumption)) only [S1, ↓reduceIte, Nat.reduceEqDiff, Nat.reduceAdd, Nat.reduceMul, Nat.reduceDiv, AOp.sb, AOp.mut, frzf, ↓Bool.false_eq_true, beq_self_eq_true, ite_self, Nat.reduceLeDiff, Int.reduceEq, Int.reduceSub, Int.reduceAdd, Int.reduceNeg, Int.reduceLT, Int.reduceLE, Nat.reduceLT, bz_F3]
    · first | rfl | (simp (disch := (first | omega | assumption)) only [S1, ↓reduceIte, Nat.reduceEqDiff, Nat.reduceAdd, Nat.reduceMul, Nat.reduceDiv, AOp.sb, AOp.mut, frzf, ↓Bool.false_eq_true, beq_self_eq_true, ite_self, Nat.reduceLeDiff, Int.reduceEq, Int.reduceSub, Int.reduceAdd, Int.reduceNeg, Int.reduceLT, Int.reduceLE, Nat.reduceLT, bz_F3])
    refine smQ (ai @hs (ai @wi @bz_F3)) ?_
    refine hK _ ?_
    clear hK K
    try (refine hK _ ?_; clear hK K)
    refine spQ (ai @D_cat5 (ai @wi (ai @tdiv_H (ai @tmod_H @bz_F3)))) ?_
    refine hQ _ (i + 1) ⟨by omega, by omega⟩ (by omega) ?_
    simp (disch := (first | omega | assumption)) only [Sl, Sa, Sw, ↓reduceIte, Nat.reduceEqDiff, Nat.reduceLT, List.all_nil, List.all_cons, Nat.reduceBneDiff, Nat.reduceAdd, bne_iff_ne, ne_eq, reduceCtorEq, not_false_eq_true, not_true_eq_false, Bool.and_true, Bool.true_and, and_true, true_and, and_self, i_eq]
    refine ⟨⟨?_, by omega⟩, ?_⟩
    · rw [nv_take_succ', nv_take_succ', Nat.pow_succ, s3]
    · rw [nv_take_succ', nv_take_succ', fl_succ, fl_congr (by decide) s2, s1]
  · by_cases h2 : (i : Int) < y.length
    · try (refine hK _ ?_; clear hK K)
      refine spQ (ai @h2 (ai @h1 @bz_F3)) ?_
      try simp only [Sv, ↓reduceIte, Nat.reduceEqDiff]
      refine vm_reg (fun K hK => ?_)
      refine smQ @bz_F3 ?_
      refine clp_mk _ _ ?_ ?_ ?_ (hdigit_spec x i) ?_
      · simp (disch := (first | omega | assumption)) only [S1, ↓reduceIte, Nat.reduceEqDiff, Nat.reduceAdd, Nat.reduceMul, Nat.reduceDiv, AOp.sb, AOp.mut, frzf, ↓Bool.false_eq_true, beq_self_eq_true, ite_self, Nat.reduceLeDiff, Int.reduceEq, Int.reduceSub, Int.reduceAdd, Int.reduceNeg, Int.reduceLT, Int.reduceLE, Nat.reduceLT, bz_F3]
      · simp (disch := (first | omega | assumption)) only [S1, ↓reduceIte, Nat.reduceEqDiff, Nat.reduceAdd, Nat.reduceMul, Nat.reduceDiv, AOp.sb, AOp.mut, frzf, ↓Bool.false_eq_true, beq_self_eq_true, ite_self, Nat.reduceLeDiff, Int.reduceEq, Int.reduceSub, Int.reduceAdd, Int.reduceNeg, Int.reduceLT, Int.reduceLE, Nat.reduceLT, bz_F3]
      · first | rfl | (simp (disch := (first | omega | assumption)) only [S1, ↓reduceIte, Nat.reduceEqDiff, Nat.reduceAdd, Nat.reduceMul, Nat.reduceDiv, AOp.sb, AOp.mut, frzf, ↓Bool.false_eq_true, beq_self_eq_true, ite_self, Nat.reduceLeDiff, Int.reduceEq, Int.reduceSub, Int.reduceAdd, Int.reduceNeg, Int.reduceLT, Int.reduceLE, Nat.reduceLT, bz_F3])
      refine smQ @bz_F3 ?_
      refine clp_mk _ _ ?_ ?_ ?_ (hdigit_spec y i) ?_
      · simp (disch := (first | omega | assumption)) only [S1, ↓reduceIte, Nat.reduceEqDiff, Nat.reduceAdd, Nat.reduceMul, Nat.reduceDiv, AOp.sb, AOp.mut, frzf, ↓Bool.false_eq_true, beq_self_eq_true, ite_self, Nat.reduceLeDiff, Int.reduceEq, Int.reduceSub, Int.reduceAdd, Int.reduceNeg, Int.reduceLT, Int.reduceLE, Nat.reduceLT, bz_F3]
      · simp (disch := (first | omega | assumption)) only [S1, ↓reduceIte, Nat.reduceEqDiff, Nat.reduceAdd, Nat.reduceMul, Nat.reduceDiv, AOp.sb, AOp.mut, frzf, ↓Bool.false_eq_true, beq_self_eq_true, ite_self, Nat.reduceLeDiff, Int.reduceEq, Int.reduceSub, Int.reduceAdd, Int.reduceNeg, Int.reduceLT, Int.reduceLE, Nat.reduceLT, bz_F3]
      · first | rfl | (simp (disch := (first | omega | assumption)) only [S1, ↓reduceIte, Nat.reduceEqDiff, Nat.reduceAdd, Nat.reduceMul, Nat.reduceDiv, AOp.sb, AOp.mut, frzf, ↓Bool.false_eq_true, beq_self_eq_true, ite_self, Nat.reduceLeDiff, Int.reduceEq, Int.reduceSub, Int.reduceAdd, Int.reduceNeg, Int.reduceLT, Int.reduceLE, Nat.reduceLT, bz_F3])
      refine smQ (ai @hs (ai @wi @bz_F3)) ?_
      refine hK _ ?_
      clear hK K
      try (refine hK _ ?_; clear hK K)
      refine spQ (ai @D_cat5 (ai @wi (ai @tdiv_H (ai @tmod_H @bz_F3)))) ?_
      refine hQ _ (i + 1) ⟨by omega, by omega⟩ (by omega) ?_
      simp (disch := (first | omega | assumption)) only [Sl, Sa, Sw, ↓reduceIte, Nat.reduceEqDiff, Nat.reduceLT, List.all_nil, List.all_cons, Nat.reduceBneDiff, Nat.reduceAdd, bne_iff_ne, ne_eq, reduceCtorEq, not_false_eq_true, not_true_eq_false, Bool.and_true, Bool.true_and, and_true, true_and, and_self, i_eq]
      refine ⟨⟨?_, by omega⟩, ?_⟩
      · rw [nv_take_succ', nv_take_succ', Nat.pow_succ, s3]
      · rw [nv_take_succ', nv_take_succ', fl_succ, fl_congr (by decide) s2, s1]
    · by_cases h3 : (0 : Int) < c
      · have hne : i ≠ m + 1 := fun h => by
          have := full (by omega)
          rw [h, Nat.div_eq_of_lt small] at this
          omega
        try (refine hK _ ?_; clear hK K)
        refine spQ (ai @h3 (ai @h2 (ai @h1 @bz_F3))) ?_
        try simp only [Sv, ↓reduceIte, Nat.reduceEqDiff]
        refine vm_reg (fun K hK => ?_)
        refine smQ @bz_F3 ?_
        refine clp_mk _ _ ?_ ?_ ?_ (hdigit_spec x i) ?_
        · simp (disch := (first | omega | assumption)) only [S1, ↓reduceIte, Nat.reduceEqDiff, Nat.reduceAdd, Nat.reduceMul, Nat.reduceDiv, AOp.sb, AOp.mut, frzf, ↓Bool.false_eq_true, beq_self_eq_true, ite_self, Nat.reduceLeDiff, Int.reduceEq, Int.reduceSub, Int.reduceAdd, Int.reduceNeg, Int.reduceLT, Int.reduceLE, Nat.reduceLT, bz_F3]
        · simp (disch := (first | omega | assumption)) only [S1, ↓reduceIte, Nat.reduceEqDiff, Nat.reduceAdd, Nat.reduceMul, Nat.reduceDiv, AOp.sb, AOp.mut, frzf, ↓Bool.false_eq_true, beq_self_eq_true, ite_self, Nat.reduceLeDiff, Int.reduceEq, Int.reduceSub, Int.reduceAdd, Int.reduceNeg, Int.reduceLT, Int.reduceLE, Nat.reduceLT, bz_F3]
        · first | rfl | (simp (disch := (first | omega | assumption)) only [S1, ↓reduceIte, Nat.reduceEqDiff, Nat.reduceAdd, Nat.reduceMul, Nat.reduceDiv, AOp.sb, AOp.mut, frzf, ↓Bool.false_eq_true, beq_self_eq_true, ite_self, Nat.reduceLeDiff, Int.reduceEq, Int.reduceSub, Int.reduceAdd, Int.reduceNeg, Int.reduceLT, Int.reduceLE, Nat.reduceLT, bz_F3])
        refine smQ @bz_F3 ?_
        refine clp_mk _ _ ?_ ?_ ?_ (hdigit_spec y i) ?_
        · simp (disch := (first | omega | assumption)) only [S1, ↓reduceIte, Nat.reduceEqDiff, Nat.reduceAdd, Nat.reduceMul, Nat.reduceDiv, AOp.sb, AOp.mut, frzf, ↓Bool.false_eq_true, beq_self_eq_true, ite_self, Nat.reduceLeDiff, Int.reduceEq, Int.reduceSub, Int.reduceAdd, Int.reduceNeg, Int.reduceLT, Int.reduceLE, Nat.reduceLT, bz_F3]
        · simp (disch := (first | omega | assumption)) only [S1, ↓reduceIte, Nat.reduceEqDiff, Nat.reduceAdd, Nat.reduceMul, Nat.reduceDiv, AOp.sb, AOp.mut, frzf, ↓Bool.false_eq_true, beq_self_eq_true, ite_self, Nat.reduceLeDiff, Int.reduceEq, Int.reduceSub, Int.reduceAdd, Int.reduceNeg, Int.reduceLT, Int.reduceLE, Nat.reduceLT, bz_F3]
        · first | rfl | (simp (disch := (first | omega | assumption)) only [S1, ↓reduceIte, Nat.reduceEqDiff, Nat.reduceAdd, Nat.reduceMul, Nat.reduceDiv, AOp.sb, AOp.mut, frzf, ↓Bool.false_eq_true, beq_self_eq_true, ite_self, Nat.reduceLeDiff, Int.reduceEq, Int.reduceSub, Int.reduceAdd, Int.reduceNeg, Int.reduceLT, Int.reduceLE, Nat.reduceLT, bz_F3])
        refine smQ (ai @hs (ai @wi @bz_F3)) ?_
        refine hK _ ?_
        clear hK K
        try (refine hK _ ?_; clear hK K)
        refine spQ (ai @D_cat5 (ai @wi (ai @tdiv_H (ai @tmod_H @bz_F3)))) ?_
        refine hQ _ (i + 1) ⟨by omega, fun h => by have := full (by omega); rw [show m = i from by omega, ← this]; omega⟩ (by omega) ?_
        simp (disch := (first | omega | assumption)) only [Sl, Sa, Sw, ↓reduceIte, Nat.reduceEqDiff, Nat.reduceLT, List.all_nil, List.all_cons, Nat.reduceBneDiff, Nat.reduceAdd, bne_iff_ne, ne_eq, reduceCtorEq, not_false_eq_true, not_true_eq_false, Bool.and_true, Bool.true_and, and_true, true_and, and_self, i_eq]
        refine ⟨⟨?_, by omega⟩, ?_⟩
        · rw [nv_take_succ', nv_take_succ', Nat.pow_succ, s3]
        · rw [nv_take_succ', nv_take_succ', fl_succ, fl_congr (by decide) s2, s1]
      · try (refine hK _ ?_; clear hK K)
        refine spQ (ai @h3 (ai @h2 (ai @h1 @bz_F3))) ?_
        refine he _ _ ?_
        try (refine hK _ ?_; clear hK K)
        refine spQ @bz_F3 ?_
        have e : fl 65536 i (nv 65536 (x.take i) + nv 65536 (y.take i)) = fl 65536 (addh x y) (nv 65536 x + nv 65536 y) := by
          rw [List.take_of_length_le (by omega), List.take_of_length_le (by omega), han]
          have h4 := full (by omega)
          congr 1
          split
          · rename_i h5
            rcases Nat.lt_or_ge m i with h6 | h6
            · exact absurd h5 (hi2 (by omega))
            · omega
          · rename_i h5
            rcases Nat.lt_or_ge m i with h6 | h6
            · omega
            · exfalso; apply h5; rw [show m = i from by omega, ← h4]; omega
        exact rtQ (ai @e @bz_F3)
def a68 : AC := .seq (.reg [qr 4 (.mv (.k .nl))])
 (.seq (.reg [qr 5 (.mv (.k .nl))])
 (.seq (.reg [qr 6 (.mv (.k (.i .i64 0)))])
 (.seq (.seq (.reg [qr 7 (.mv (.k (.i .i64 0)))])
 (.blk 0
 (.loop
 (.seq (.seq (.reg [qm 9 7,
 qm 10 0,
 qr 11 (.len (.t 10)),
 qr 12 (.bin .lss (.t 9) (.t 11))])
 (.cond (.t 12)
 (.skip)
 (.exit 0)))
 (.seq (.blk 1
 (.seq (.reg [qm 15 0,
 qm 16 7,
 qr 17 (.call 61 [(1, (.t 15)), (1, (.t 16))]),
 qm 18 1,
 qm 19 7,
 qr 20 (.call 61 [(1, (.t 18)), (1, (.t 19))]),
 qr 21 (.bin .sub (.t 17) (.t 20)),
 qm 22 6,
 qr 23 (.bin .sub (.t 21) (.t 22)),
 qm 8 23])
 (.seq (.reg [qr 6 (.mv (.k (.i .i64 0)))])
 (.seq (.seq (.reg [qm 24 8,
 qr 25 (.bin .lss (.t 24) (.k (.i .i64 0)))])
 (.cond (.t 25)
 (.seq (.reg [qm 26 8,
 qr 27 (.bin .add (.t 26) (.k (.i .i64 65536))),
 qm 8 27])
 (.reg [qr 6 (.mv (.k (.i .i64 1)))]))
 (.skip)))
 (.reg [qm 28 5,
 qm 29 8,
 qr 30 (.bsl 3 1 1 [(.i .i64 0)] [(0, (.t 29))]),
 qr 31 (.app 3 1 8 (.t 28) (.t 30)),
 qm 5 31])))))
 (.reg [qm 13 7,
 qr 14 (.bin .add (.t 13) (.k (.i .i64 1))),
 qm 7 14]))))))
 (.seq (.reg [qm 32 5,
 qm 4 32])
 (.ret)))))
theorem hminus_spec (x y : List Nat) (hx : Lt 65536 x) (hy : Lt 65536 y) (lx : x.length ≤ 1000000000000) :
    AFun Try.prog J0 68 [.l 1 (D x), .l 1 (D y)] (.o 3 1 (D (fl 65536 x.length (nv 65536 x + 65536 ^ x.length - nv 65536 (y.take x.length))))) := by
  refine mkQ fol J0s Try.func68 a68 ?_
  unfold a68
  simp only [init_eq, initE, qm, qr, qn]
  refine spQ @bz_F3 ?_
  refine vm_loopA [(5, 3, 1)] Nat (fun i => ⟨[(0, .l 1 (D x)), (1, .l 1 (D y)), (5, .ow 1 0 i), (6, .i .i64 ((if nv 65536 (x.take i) < nv 65536 (y.take i) then 1 else 0 : Nat) : Int)), (7, .i .i64 (i : Int))], [(0, some ⟨3, 1, D (fl 65536 i (nv 65536 (x.take i) + 65536 ^ i - nv 65536 (y.take i))), true, false⟩)], 1⟩)
    (fun i => i ≤ x.length) (fun i => x.length - i) 0 (by omega) (by exact leQ) (by
    simp (disch := (first | omega | assumption)) only [Sl, Sa, Sw, ↓reduceIte, Nat.reduceEqDiff, Nat.reduceLT, List.all_nil, List.all_cons, Nat.reduceBneDiff, Nat.reduceAdd, bne_iff_ne, ne_eq, reduceCtorEq, not_false_eq_true, not_true_eq_false, Bool.and_true, Bool.true_and, and_true, true_and, and_self, i_eq]
    exact ⟨⟨by simp [nv], rfl⟩, rfl⟩) ?_
  intro i hi Q' hQ he hr
  have gx := Lt_get hx (by decide : 0 < 65536) i
  have gy := Lt_get hy (by decide : 0 < 65536) i
  have st := sub_step (b := 65536) (P := 65536 ^ i) (Nat.pow_pos (by decide)) (nv_take_lt (b := 65536) (by decide) hx i) (nv_take_lt (b := 65536) (by decide) hy i) gx gy
  obtain ⟨c, hc⟩ : ∃ c, c = (if nv 65536 (x.take i) < nv 65536 (y.take i) then 1 else 0 : Nat) := ⟨_, rfl⟩
  rw [← hc] at st
  obtain ⟨s1, s2, s3⟩ := st
  have hc1 : c ≤ 1 := by rw [hc]; split <;> omega
  have e : nv 65536 (x.take (i + 1)) + 65536 ^ (i + 1) - nv 65536 (y.take (i + 1)) = nv 65536 (x.take i) + 65536 ^ i * x.getD i 0 + 65536 ^ i * 65536 - (nv 65536 (y.take i) + 65536 ^ i * y.getD i 0) := by rw [nv_take_succ', nv_take_succ', Nat.pow_succ]
  have nxt : fl 65536 (i + 1) (nv 65536 (x.take (i + 1)) + 65536 ^ (i + 1) - nv 65536 (y.take (i + 1))) = fl 65536 i (nv 65536 (x.take i) + 65536 ^ i - nv 65536 (y.take i)) ++ [(x.getD i 0 + 65536 - (y.getD i 0 + c)) % 65536] := by
    rw [e, fl_succ, fl_congr (by decide) s2, s1]
  simp only [← hc]
  have d1 := hdigit_spec x i
  have d2 := hdigit_spec y i
  by_cases h : (i : Int) < x.length
  · by_cases h2 : ((x.getD i 0 : Nat) : Int) - ((y.getD i 0 : Nat) : Int) - (c : Int) < 0
    · obtain ⟨d, hd⟩ : ∃ d : Nat, d = x.getD i 0 + 65536 - (y.getD i 0 + c) := ⟨_, rfl⟩
      have hd2 : ((x.getD i 0 : Nat) : Int) - ((y.getD i 0 : Nat) : Int) - (c : Int) + 65536 = (d : Int) := by omega
      refine wkQ (ai @D_cat5 (ai @hd2 (ai @wi (ai @h2 (ai @h @bz_F3))))) ?_
      refine hQ _ (i + 1) (by omega) (by omega) ?_
      simp (disch := (first | omega | assumption)) only [Sl, Sa, Sw, ↓reduceIte, Nat.reduceEqDiff, Nat.reduceLT, List.all_nil, List.all_cons, Nat.reduceBneDiff, Nat.reduceAdd, bne_iff_ne, ne_eq, reduceCtorEq, not_false_eq_true, not_true_eq_false, Bool.and_true, Bool.true_and, and_true, true_and, and_self, i_eq]
      refine ⟨⟨?_, by omega⟩, ?_⟩
      · rw [nv_take_succ', nv_take_succ']; simp only [s3]; split <;> omega
      · rw [nxt]; congr 3; omega
    · obtain ⟨d, hd⟩ : ∃ d : Nat, d = x.getD i 0 - (y.getD i 0 + c) := ⟨_, rfl⟩
      have hd2 : ((x.getD i 0 : Nat) : Int) - ((y.getD i 0 : Nat) : Int) - (c : Int) = (d : Int) := by omega
      have h3 : ¬ (d : Int) < 0 := by omega
      refine wkQ (ai @D_cat5 (ai @hd2 (ai @wi (ai @h3 (ai @h2 (ai @h @bz_F3)))))) ?_
      refine hQ _ (i + 1) (by omega) (by omega) ?_
      simp (disch := (first | omega | assumption)) only [Sl, Sa, Sw, ↓reduceIte, Nat.reduceEqDiff, Nat.reduceLT, List.all_nil, List.all_cons, Nat.reduceBneDiff, Nat.reduceAdd, bne_iff_ne, ne_eq, reduceCtorEq, not_false_eq_true, not_true_eq_false, Bool.and_true, Bool.true_and, and_true, true_and, and_self, i_eq]
      refine ⟨⟨?_, by omega⟩, ?_⟩
      · rw [nv_take_succ', nv_take_succ']; simp only [s3]; split <;> omega
      · rw [nxt]; congr 3; omega
  · obtain rfl : i = x.length := by omega
    refine spQ (ai @h @bz_F3) ?_
    refine he _ _ ?_
    refine spQ @bz_F3 ?_
    refine rtO @bz_F3 ?_
    rw [List.take_length]
end Go.Proofs.Yteaiegppmbcibaa
namespace Go.Proofs.Yteaiegppmbcibaa
open Go Go.RowKit Ab
set_option linter.unusedSimpArgs false
set_option linter.unusedVariables false
set_option maxHeartbeats 10000000
theorem bz_F4 : type_of% (And.intro @W_len (And.intro @D_len (And.intro @Nat.div_one (And.intro @Nat.mul_one (And.intro @tn_nat (And.intro @W_nf (And.intro @D_nf (And.intro @W_nil (And.intro @D_nil (And.intro @wi (@D_get))))))))))) := And.intro @W_len (And.intro @D_len (And.intro @Nat.div_one (And.intro @Nat.mul_one (And.intro @tn_nat (And.intro @W_nf (And.intro @D_nf (And.intro @W_nil (And.intro @D_nil (And.intro @wi (@D_get))))))))))
theorem addh_len (x y : List Nat) : addh x y ≤ max x.length y.length + 1 := by unfold addh; split <;> omega
theorem addh_val {x y : List Nat} (kx : Lt 65536 x) (ky : Lt 65536 y) : nv 65536 (fl 65536 (addh x y) (nv 65536 x + nv 65536 y)) = nv 65536 x + nv 65536 y := by
  rw [nv_fl, Nat.mod_eq_of_lt]
  unfold addh
  have h1 := nv_lt kx
  have h2 := nv_lt ky
  have h3 : 65536 ^ x.length ≤ 65536 ^ max x.length y.length := Nat.pow_le_pow_right (by decide) (by omega)
  have h4 : 65536 ^ y.length ≤ 65536 ^ max x.length y.length := Nat.pow_le_pow_right (by decide) (by omega)
  split
  · rename_i h
    rcases Nat.lt_or_ge (nv 65536 x + nv 65536 y) (65536 ^ max x.length y.length) with h5 | h5
    · exact h5
    · have := (Nat.le_div_iff_mul_le (Nat.pow_pos (by decide : 0 < 65536))).2 (by rw [Nat.one_mul]; exact h5 : 1 * 65536 ^ max x.length y.length ≤ _)
      omega
  · rw [Nat.pow_succ]; omega
theorem hsub_val {x y : List Nat} (hx : Lt 65536 x) (h : nv 65536 y ≤ nv 65536 x) (t : tz y = y) : nv 65536 (fl 65536 x.length (nv 65536 x + 65536 ^ x.length - nv 65536 (y.take x.length))) = nv 65536 x - nv 65536 y := by
  have h1 := nv_lt hx
  have hl : y.length ≤ x.length := by
    rcases Nat.eq_zero_or_pos y.length with h0 | h0
    · omega
    · have h2 := nv_top (b := 65536) t (fun h => by rw [h] at h0; simp at h0)
      have h3 : 65536 ^ (y.length - 1) < 65536 ^ x.length := by omega
      have := (Nat.pow_lt_pow_iff_right (by decide : 1 < 65536)).1 h3
      omega
  rw [nv_fl, List.take_of_length_le hl, show nv 65536 x + 65536 ^ x.length - nv 65536 y = (nv 65536 x - nv 65536 y) + 65536 ^ x.length from by omega, Nat.add_mod_right, Nat.mod_eq_of_lt (by omega)]
def a29 : AC := .seq (.reg [qr 4 (.mv (.k .nl))])
 (.seq (.reg [qm 9 0,
 qm 10 1,
 qr 11 (.call 44 [(1, (.t 9)), (1, (.t 10)), (1, (.k (.i .i64 63)))]),
 qm 8 11,
 qr 12 (.ext (.t 8) 0),
 qr 13 (.ext (.t 8) 1),
 qr 14 (.ext (.t 8) 2),
 qm 5 12,
 qm 6 13,
 qm 7 14])
 (.seq (.seq (.reg [qm 15 7])
 (.cond (.t 15)
 (.seq (.reg [qm 16 5,
 qm 17 6,
 qr 18 (.bin .add (.t 16) (.t 17)),
 qr 19 (.call 45 [(1, (.t 18))]),
 qm 4 19])
 (.ret))
 (.skip)))
 (.seq (.reg [qm 20 0,
 qr 21 (.call 42 [(1, (.t 20))]),
 qm 22 1,
 qr 23 (.call 42 [(1, (.t 22))]),
 qr 24 (.call 46 [(1, (.t 21)), (1, (.t 23))]),
 qr 25 (.call 43 [(1, (.t 24))]),
 qm 4 25])
 (.ret))))
theorem hadd_spec (a b : List Nat) (ha : Wd a) (hb : Wd b) (la : a.length ≤ 1000000000) (lb : b.length ≤ 1000000000) : AFun Try.prog J0 29 [.l 1 (W a), .l 1 (W b)] (.o 60 1 (W (dg B (nv B a + nv B b)))) := by
  have ho := hones_spec a b 63 (by decide) ha hb (by omega) (by omega)
  have d1 := hdigits_spec a ha (by omega)
  have d2 := hdigits_spec b hb (by omega)
  have l1 := dgH_len ha
  have l2 := dgH_len hb
  have e1 := nv_dg H2 (nv B a)
  have e2 := nv_dg H2 (nv B b)
  have k1 := dg_Lt (b := 65536) (by decide) (nv B a)
  have k2 := dg_Lt (b := 65536) (by decide) (nv B b)
  generalize dg 65536 (nv B a) = x at *
  generalize dg 65536 (nv B b) = y at *
  generalize nv B a = u at *
  generalize nv B b = v at *
  have hB : B = 18446744073709551616 := rfl
  have hal := addh_len x y
  have hp := (hplus_spec x y k1 k2 (by omega) (by omega)).frozen
  have hn := hnumber_spec (fl 65536 (addh x y) (nv 65536 x + nv 65536 y)) (fl_Lt (by decide) _ _) (by rw [fl_len]; omega)
  rw [addh_val k1 k2, e1, e2] at hn
  rw [e1, e2] at hp
  by_cases h : u < 9223372036854775808 ∧ v < 9223372036854775808
  · rw [decide_eq_true (show u < 2 ^ 63 ∧ v < 2 ^ 63 from h), Nat.mod_eq_of_lt (by omega : u < B), Nat.mod_eq_of_lt (by omega : v < B)] at ho
    have hof := hof_spec (u + v) (by omega)
    have w1 : IntKind.u64.wrap ((u : Int) + (v : Int)) = ((u + v : Nat) : Int) := by rw [wu (by omega)]; rfl
    refine mkQ fol J0s Try.func29 a29 ?_
    unfold a29
    simp only [init_eq, initE, qm, qr, qn]
    exact wdQ (ai @w1 @bz_F4)
  · rw [decide_eq_false (show ¬ (u < 2 ^ 63 ∧ v < 2 ^ 63) from h)] at ho
    refine mkQ fol J0s Try.func29 a29 ?_
    unfold a29
    simp only [init_eq, initE, qm, qr, qn]
    exact wdQ @bz_F4
def a62 : AC := .seq (.reg [qr 4 (.mv (.k .nl))])
 (.seq (.reg [qm 9 0,
 qm 10 1,
 qr 11 (.call 44 [(1, (.t 9)), (1, (.t 10)), (1, (.k (.i .i64 63)))]),
 qm 8 11,
 qr 12 (.ext (.t 8) 0),
 qr 13 (.ext (.t 8) 1),
 qr 14 (.ext (.t 8) 2),
 qm 5 12,
 qm 6 13,
 qm 7 14])
 (.seq (.seq (.reg [qm 15 7])
 (.cond (.t 15)
 (.seq (.reg [qm 16 5,
 qm 17 6,
 qr 18 (.bin .sub (.t 16) (.t 17)),
 qr 19 (.call 45 [(1, (.t 18))]),
 qm 4 19])
 (.ret))
 (.skip)))
 (.seq (.reg [qm 20 0,
 qr 21 (.call 42 [(1, (.t 20))]),
 qm 22 1,
 qr 23 (.call 42 [(1, (.t 22))]),
 qr 24 (.call 68 [(1, (.t 21)), (1, (.t 23))]),
 qr 25 (.call 43 [(1, (.t 24))]),
 qm 4 25])
 (.ret))))
theorem hsub_spec (a b : List Nat) (ha : Wd a) (hb : Wd b) (la : a.length ≤ 1000000000) (lb : b.length ≤ 1000000000) (hle : nv B b ≤ nv B a) : AFun Try.prog J0 62 [.l 1 (W a), .l 1 (W b)] (.o 60 1 (W (dg B (nv B a - nv B b)))) := by
  have ho := hones_spec a b 63 (by decide) ha hb (by omega) (by omega)
  have d1 := hdigits_spec a ha (by omega)
  have d2 := hdigits_spec b hb (by omega)
  have l1 := dgH_len ha
  have l2 := dgH_len hb
  have e1 := nv_dg H2 (nv B a)
  have e2 := nv_dg H2 (nv B b)
  have t2 := tz_dg' (b := 65536) (nv B b)
  have k1 := dg_Lt (b := 65536) (by decide) (nv B a)
  have k2 := dg_Lt (b := 65536) (by decide) (nv B b)
  generalize dg 65536 (nv B a) = x at *
  generalize dg 65536 (nv B b) = y at *
  generalize nv B a = u at *
  generalize nv B b = v at *
  have hB : B = 18446744073709551616 := rfl
  have hp := (hminus_spec x y k1 k2 (by omega)).frozen
  have hn := hnumber_spec (fl 65536 x.length (nv 65536 x + 65536 ^ x.length - nv 65536 (y.take x.length))) (fl_Lt (by decide) _ _) (by rw [fl_len]; omega)
  rw [hsub_val k1 (by omega) t2, e1, e2] at hn
  rw [e1] at hp
  by_cases h : u < 9223372036854775808 ∧ v < 9223372036854775808
  · rw [decide_eq_true (show u < 2 ^ 63 ∧ v < 2 ^ 63 from h), Nat.mod_eq_of_lt (by omega : u < B), Nat.mod_eq_of_lt (by omega : v < B)] at ho
    have hof := hof_spec (u - v) (by omega)
    have w1 : IntKind.u64.wrap ((u : Int) - (v : Int)) = ((u - v : Nat) : Int) := by rw [wu (by omega)]; omega
    refine mkQ fol J0s Try.func62 a62 ?_
    unfold a62
    simp only [init_eq, initE, qm, qr, qn]
    exact wdQ (ai @w1 @bz_F4)
  · rw [decide_eq_false (show ¬ (u < 2 ^ 63 ∧ v < 2 ^ 63) from h)] at ho
    refine mkQ fol J0s Try.func62 a62 ?_
    unfold a62
    simp only [init_eq, initE, qm, qr, qn]
    exact wdQ @bz_F4
theorem times_bnd {s x y c : Nat} (hs : s < 65536) (hx : x < 65536) (hy : y < 65536) (hc : c < 65536) : c + (s + x * y) < 4294967296 := by
  have h1 : x * y ≤ 65535 * 65535 := Nat.mul_le_mul (by omega) (by omega)
  omega
def a47 : AC := .seq (.reg [qr 4 (.mv (.k .nl))])
 (.seq (.reg [qm 9 0,
 qr 10 (.len (.t 9)),
 qm 11 1,
 qr 12 (.len (.t 11)),
 qr 13 (.bin .add (.t 10) (.t 12)),
 qr 14 (.mk 3 1 8 [(.i .i64 0)] (.t 13) (.t 13)),
 qm 5 14])
 (.seq (.seq (.reg [qr 6 (.mv (.k (.i .i64 0)))])
 (.blk 0
 (.loop
 (.seq (.seq (.reg [qm 15 6,
 qm 16 0,
 qr 17 (.len (.t 16)),
 qr 18 (.bin .lss (.t 15) (.t 17))])
 (.cond (.t 18)
 (.skip)
 (.exit 0)))
 (.seq (.blk 1
 (.seq (.reg [qr 7 (.mv (.k (.i .i64 0)))])
 (.seq (.seq (.reg [qr 8 (.mv (.k (.i .i64 0)))])
 (.blk 2
 (.loop
 (.seq (.seq (.reg [qm 21 8,
 qm 22 1,
 qr 23 (.len (.t 22)),
 qr 24 (.bin .lss (.t 21) (.t 23))])
 (.cond (.t 24)
 (.skip)
 (.exit 2)))
 (.seq (.blk 3
 (.seq (.dreg [qm 27 7,
 qm 28 5,
 qm 29 6,
 qm 30 8,
 qr 31 (.bin .add (.t 29) (.t 30)),
 qr 32 (.idx 1 (.t 28) (.t 31)),
 qr 33 (.ld false 1 (.t 32)),
 qm 34 0,
 qm 35 6,
 qr 36 (.idx 1 (.t 34) (.t 35)),
 qr 37 (.ld false 1 (.t 36)),
 qm 38 1,
 qm 39 8,
 qr 40 (.idx 1 (.t 38) (.t 39)),
 qr 41 (.ld false 1 (.t 40)),
 qr 42 (.bin .mul (.t 37) (.t 41)),
 qr 43 (.bin .add (.t 33) (.t 42)),
 qr 44 (.bin .add (.t 27) (.t 43)),
 qm 7 44])
 (.seq (.reg [qm 45 5,
 qm 46 6,
 qm 47 8,
 qr 48 (.bin .add (.t 46) (.t 47)),
 qm 49 7,
 qr 50 (.bin .rem (.t 49) (.k (.i .i64 65536))),
 qr 51 (.idx 1 (.t 45) (.t 48)),
 qn (.st 1 (.t 51) (.t 50))])
 (.reg [qm 52 7,
 qr 53 (.bin .quo (.t 52) (.k (.i .i64 65536))),
 qm 7 53]))))
 (.reg [qm 25 8,
 qr 26 (.bin .add (.t 25) (.k (.i .i64 1))),
 qm 8 26]))))))
 (.reg [qm 54 5,
 qm 55 6,
 qm 56 1,
 qr 57 (.len (.t 56)),
 qr 58 (.bin .add (.t 55) (.t 57)),
 qm 59 7,
 qr 60 (.idx 1 (.t 54) (.t 58)),
 qn (.st 1 (.t 60) (.t 59))]))))
 (.reg [qm 19 6,
 qr 20 (.bin .add (.t 19) (.k (.i .i64 1))),
 qm 6 20]))))))
 (.seq (.reg [qm 61 5,
 qm 4 61])
 (.ret))))
theorem htimes_spec (x y : List Nat) (hx : Lt 65536 x) (hy : Lt 65536 y) (lx : x.length ≤ 10000000000) (ly : y.length ≤ 10000000000) :
    AFun Try.prog J0 47 [.l 1 (D x), .l 1 (D y)] (.o 3 1 (D (fl 65536 (x.length + y.length) (nv 65536 x * nv 65536 y)))) := by
  obtain ⟨p, hp⟩ : ∃ p, p = x.length := ⟨_, rfl⟩
  obtain ⟨q, hq⟩ : ∃ q, q = y.length := ⟨_, rfl⟩
  obtain ⟨n, hn⟩ : ∃ n, n = p + q := ⟨_, rfl⟩
  have hnI : (p : Int) + (q : Int) = (n : Int) := by omega
  have hn0 : (0 : Int) ≤ (n : Int) := by omega
  obtain ⟨T, hT⟩ : ∃ T, T = nv 65536 x * nv 65536 y := ⟨_, rfl⟩
  rw [← hp, ← hq, ← hn, ← hT]
  refine mkQ fol J0s Try.func47 a47 ?_
  unfold a47
  simp only [init_eq, initE, qm, qr, qn]
  repeat first
    | (refine hK _ ?_; clear hK K)
    | ((first | refine vm_reg (fun K hK => ?_) | refine vm_dreg (fun K hK => ?_) | refine vm_dregx (fun K hK => ?_)); simp (disch := (first | omega | assumption)) only [S1, ↓reduceIte, Nat.reduceEqDiff, Nat.reduceAdd, Nat.reduceMul, Nat.reduceDiv, AOp.sb, AOp.mut, frzf, ↓Bool.false_eq_true, beq_self_eq_true, ite_self, Nat.reduceLeDiff, Int.reduceEq, Int.reduceSub, Int.reduceAdd, Int.reduceNeg, Int.reduceLT, Int.reduceLE, Nat.reduceLT, bz_F4, ← hp, ← hq, hnI, mk_D5]; refine hK _ ?_; clear hK K)
    | simp only [Sv, ↓reduceIte, Nat.reduceEqDiff]
  refine vm_loopA [] (Nat × List Nat) (fun s => ⟨[(0, .l 1 (D x)), (1, .l 1 (D y)), (5, .ow 1 0 n), (6, .i .i64 (s.1 : Int))],
      [(0, some ⟨3, 1, D s.2, true, false⟩)], 1⟩)
    (fun s => s.1 ≤ p ∧ s.2.length = n ∧ nv 65536 s.2 = nv 65536 (x.take s.1) * nv 65536 y ∧ Lt 65536 s.2 ∧ ∀ j, s.1 + q ≤ j → s.2.getD j 0 = 0) (fun s => p - s.1) (0, List.replicate n 0)
    ⟨Nat.zero_le _, by simp, by rw [nv_rep, List.take_zero, show nv 65536 [] = 0 from rfl, Nat.zero_mul], Lt_rep (by decide), fun j hj => by simp only [List.getD_eq_getElem?_getD, List.getElem?_replicate]; split <;> simp⟩ (by exact leQ) (by
    exact ltQ) ?_
  rintro ⟨i, S⟩ ⟨hi, lS, vS, wS, zS⟩ Q' hQ he hr
  simp only [] at hi lS vS wS zS ⊢
  by_cases hil : (i : Int) < (p : Int)
  · have hxi := Lt_get hx (by decide) i
    repeat first
      | (refine hK _ ?_; clear hK K)
      | ((first | refine vm_reg (fun K hK => ?_) | refine vm_dreg (fun K hK => ?_) | refine vm_dregx (fun K hK => ?_)); simp (disch := (first | omega | assumption)) only [S1, ↓reduceIte, Nat.reduceEqDiff, Nat.reduceAdd, Nat.reduceMul, Nat.reduceDiv, AOp.sb, AOp.mut, frzf, ↓Bool.false_eq_true, beq_self_eq_true, ite_self, Nat.reduceLeDiff, Int.reduceEq, Int.reduceSub, Int.reduceAdd, Int.reduceNeg, Int.reduceLT, Int.reduceLE, Nat.reduceLT, bz_F4, hil, ← hp, ← hq]; refine hK _ ?_; clear hK K)
      | simp only [Sv, ↓reduceIte, Nat.reduceEqDiff]
    refine vm_loopA [] (Nat × Nat × List Nat) (fun s => ⟨[(0, .l 1 (D x)), (1, .l 1 (D y)), (5, .ow 1 0 n), (6, .i .i64 (i : Int)), (7, .i .i64 (s.2.1 : Int)), (8, .i .i64 (s.1 : Int))],
        [(0, some ⟨3, 1, D s.2.2, true, false⟩)], 1⟩)
      (fun s => s.1 ≤ q ∧ s.2.2.length = n ∧ s.2.1 < 65536 ∧ nv 65536 s.2.2 + 65536 ^ (i + s.1) * s.2.1 = nv 65536 (x.take i) * nv 65536 y + 65536 ^ i * (x.getD i 0 * nv 65536 (y.take s.1)) ∧ Lt 65536 s.2.2 ∧ ∀ j, i + q ≤ j → s.2.2.getD j 0 = 0) (fun s => q - s.1) (0, 0, S)
      ⟨Nat.zero_le _, lS, by simp only; omega, by simp only [List.take_zero, show nv 65536 [] = 0 from rfl, Nat.mul_zero, Nat.add_zero]; exact vS, wS, zS⟩ (by exact leQ) (by
      exact ltQ) ?_
    rintro ⟨k, c, U⟩ ⟨hk, lU, hc, vU, wU, zU⟩ Q'' hQ' he' hr'
    simp only [] at hk lU hc vU wU zU ⊢
    by_cases hkl : (k : Int) < (q : Int)
    · have hyk := Lt_get hy (by decide) k
      have hUk := Lt_get wU (by decide) (i + k)
      have hb := times_bnd hUk hxi hyk hc
      have htk := nv_take_succ (b := 65536) y k (by omega)
      obtain ⟨z, hz⟩ : ∃ z, z = x.getD i 0 * y.getD k 0 := ⟨_, rfl⟩
      have hzI : ((x.getD i 0 : Nat) : Int) * ((y.getD k 0 : Nat) : Int) = (z : Int) := by rw [hz, Int.natCast_mul]
      rw [← hz] at hb
      obtain ⟨m, hm⟩ : ∃ m, m = c + (U.getD (i + k) 0 + z) := ⟨_, rfl⟩
      have hmI : (c : Int) + (((U.getD (i + k) 0 : Nat) : Int) + (z : Int)) = (m : Int) := by omega
      have hst := nv_set (b := 65536) U (i + k) (m % 65536) (by omega)
      have tpq : ((i : Int) + (k : Int)).toNat = i + k := by omega
      repeat first
        | (refine hK _ ?_; clear hK K)
        | ((first | refine vm_reg (fun K hK => ?_) | refine vm_dreg (fun K hK => ?_) | refine vm_dregx (fun K hK => ?_)); simp (disch := (first | omega | assumption)) only [S1, ↓reduceIte, Nat.reduceEqDiff, Nat.reduceAdd, Nat.reduceMul, Nat.reduceDiv, AOp.sb, AOp.mut, frzf, ↓Bool.false_eq_true, beq_self_eq_true, ite_self, Nat.reduceLeDiff, Int.reduceEq, Int.reduceSub, Int.reduceAdd, Int.reduceNeg, Int.reduceLT, Int.reduceLE, Nat.reduceLT, bz_F4, hkl, ← hp, ← hq, tpq, lU, hzI, hmI, D_set5, tmod_H, tdiv_H]; refine hK _ ?_; clear hK K)
        | simp only [Sv, ↓reduceIte, Nat.reduceEqDiff]
      refine hQ' _ (k + 1, m / 65536, U.set (i + k) (m % 65536)) ⟨by simp only; omega, by simp only [List.length_set]; exact lU, by simp only; omega, ?_, Lt_set wU _ _ (Nat.mod_lt _ (by decide)), fun j hj => ?_⟩ (by simp only; omega) ?_
      · simp only []
        have e : 65536 ^ i * (x.getD i 0 * (65536 ^ k * y.getD k 0)) = 65536 ^ (i + k) * z := by rw [hz, Nat.pow_add, Nat.mul_assoc, Nat.mul_left_comm (x.getD i 0)]
        have e2 : 65536 ^ (i + (k + 1)) * (m / 65536) + 65536 ^ (i + k) * (m % 65536) = 65536 ^ (i + k) * m := by
          rw [← Nat.add_assoc, Nat.pow_succ, Nat.mul_assoc, ← Nat.mul_add, Nat.div_add_mod]
        rw [htk, Nat.mul_add, Nat.mul_add, e]
        have e3 : 65536 ^ (i + k) * m = 65536 ^ (i + k) * c + 65536 ^ (i + k) * U.getD (i + k) 0 + 65536 ^ (i + k) * z := by rw [hm, Nat.mul_add, Nat.mul_add, Nat.add_assoc]
        omega
      · simp only [] at hj ⊢
        rw [getD_set_ne _ _ _ _ (by omega)]; exact zU j hj
      · simp (disch := (first | omega | assumption)) only [Sl, Sa, Sw, ↓reduceIte, Nat.reduceEqDiff, Nat.reduceLT, List.all_nil, List.all_cons, Nat.reduceBneDiff, Nat.reduceAdd, bne_iff_ne, ne_eq, reduceCtorEq, not_false_eq_true, not_true_eq_false, Bool.and_true, Bool.true_and, and_true, true_and, and_self, i_eq]
        repeat' first | rfl | omega | (simp only [List.length_append, List.length_cons, List.length_nil]; done) | apply And.intro
    · obtain rfl : k = q := by omega
      rw [show y.take k = y from by rw [hq, List.take_length]] at vU
      have hst := nv_set (b := 65536) U (i + k) c (by omega)
      rw [zU (i + k) (by omega), Nat.mul_zero, Nat.add_zero] at hst
      have tpq : ((i : Int) + (k : Int)).toNat = i + k := by omega
      repeat first
        | (refine hK _ ?_; clear hK K)
        | ((first | refine vm_reg (fun K hK => ?_) | refine vm_dreg (fun K hK => ?_) | refine vm_dregx (fun K hK => ?_)); simp (disch := (first | omega | assumption)) only [S1, ↓reduceIte, Nat.reduceEqDiff, Nat.reduceAdd, Nat.reduceMul, Nat.reduceDiv, AOp.sb, AOp.mut, frzf, ↓Bool.false_eq_true, beq_self_eq_true, ite_self, Nat.reduceLeDiff, Int.reduceEq, Int.reduceSub, Int.reduceAdd, Int.reduceNeg, Int.reduceLT, Int.reduceLE, Nat.reduceLT, bz_F4, hkl, ← hp, ← hq]; refine hK _ ?_; clear hK K)
        | simp only [Sv, ↓reduceIte, Nat.reduceEqDiff]
      refine he' _ _ ?_
      repeat first
        | (refine hK _ ?_; clear hK K)
        | ((first | refine vm_reg (fun K hK => ?_) | refine vm_dreg (fun K hK => ?_) | refine vm_dregx (fun K hK => ?_)); simp (disch := (first | omega | assumption)) only [S1, ↓reduceIte, Nat.reduceEqDiff, Nat.reduceAdd, Nat.reduceMul, Nat.reduceDiv, AOp.sb, AOp.mut, frzf, ↓Bool.false_eq_true, beq_self_eq_true, ite_self, Nat.reduceLeDiff, Int.reduceEq, Int.reduceSub, Int.reduceAdd, Int.reduceNeg, Int.reduceLT, Int.reduceLE, Nat.reduceLT, bz_F4, ← hp, ← hq, tpq, lU, D_set5]; refine hK _ ?_; clear hK K)
        | simp only [Sv, ↓reduceIte, Nat.reduceEqDiff]
      refine hQ _ (i + 1, U.set (i + k) c) ⟨by simp only; omega, by simp only [List.length_set]; exact lU, ?_, Lt_set wU _ _ hc, fun j hj => ?_⟩ (by simp only; omega) ?_
      · simp only []
        rw [hst, vU, nv_take_succ (b := 65536) x i (by omega), Nat.add_mul, Nat.mul_assoc]
      · simp only [] at hj ⊢
        rw [getD_set_ne _ _ _ _ (by omega)]; exact zU j (by omega)
      · simp (disch := (first | omega | assumption)) only [Sl, Sa, Sw, ↓reduceIte, Nat.reduceEqDiff, Nat.reduceLT, List.all_nil, List.all_cons, Nat.reduceBneDiff, Nat.reduceAdd, bne_iff_ne, ne_eq, reduceCtorEq, not_false_eq_true, not_true_eq_false, Bool.and_true, Bool.true_and, and_true, true_and, and_self, i_eq]
        repeat' first | rfl | omega | (simp only [List.length_append, List.length_cons, List.length_nil]; done) | apply And.intro
  · obtain rfl : i = p := by omega
    rw [show x.take i = x from by rw [hp, List.take_length], ← hT] at vS
    have e : S = fl 65536 n T := by rw [← vS, ← lS]; exact (fl_nv wS).symm
    repeat first
      | (refine hK _ ?_; clear hK K)
      | ((first | refine vm_reg (fun K hK => ?_) | refine vm_dreg (fun K hK => ?_) | refine vm_dregx (fun K hK => ?_)); simp (disch := (first | omega | assumption)) only [S1, ↓reduceIte, Nat.reduceEqDiff, Nat.reduceAdd, Nat.reduceMul, Nat.reduceDiv, AOp.sb, AOp.mut, frzf, ↓Bool.false_eq_true, beq_self_eq_true, ite_self, Nat.reduceLeDiff, Int.reduceEq, Int.reduceSub, Int.reduceAdd, Int.reduceNeg, Int.reduceLT, Int.reduceLE, Nat.reduceLT, bz_F4, hil, ← hp, ← hq]; refine hK _ ?_; clear hK K)
      | simp only [Sv, ↓reduceIte, Nat.reduceEqDiff]
    refine he _ _ ?_
    refine spQ @bz_F4 ?_
    exact rtQ (ai @e @bz_F4)
def a30 : AC := .seq (.reg [qr 4 (.mv (.k .nl))])
 (.seq (.reg [qm 9 0,
 qm 10 1,
 qr 11 (.call 44 [(1, (.t 9)), (1, (.t 10)), (1, (.k (.i .i64 32)))]),
 qm 8 11,
 qr 12 (.ext (.t 8) 0),
 qr 13 (.ext (.t 8) 1),
 qr 14 (.ext (.t 8) 2),
 qm 5 12,
 qm 6 13,
 qm 7 14])
 (.seq (.seq (.reg [qm 15 7])
 (.cond (.t 15)
 (.seq (.reg [qm 16 5,
 qm 17 6,
 qr 18 (.bin .mul (.t 16) (.t 17)),
 qr 19 (.call 45 [(1, (.t 18))]),
 qm 4 19])
 (.ret))
 (.skip)))
 (.seq (.reg [qm 20 0,
 qr 21 (.call 42 [(1, (.t 20))]),
 qm 22 1,
 qr 23 (.call 42 [(1, (.t 22))]),
 qr 24 (.call 47 [(1, (.t 21)), (1, (.t 23))]),
 qr 25 (.call 43 [(1, (.t 24))]),
 qm 4 25])
 (.ret))))
theorem hmul_spec (a b : List Nat) (ha : Wd a) (hb : Wd b) (la : a.length ≤ 1000000000) (lb : b.length ≤ 1000000000) : AFun Try.prog J0 30 [.l 1 (W a), .l 1 (W b)] (.o 60 1 (W (dg B (nv B a * nv B b)))) := by
  have ho := hones_spec a b 32 (by decide) ha hb (by omega) (by omega)
  have d1 := hdigits_spec a ha (by omega)
  have d2 := hdigits_spec b hb (by omega)
  have l1 := dgH_len ha
  have l2 := dgH_len hb
  have e1 := nv_dg H2 (nv B a)
  have e2 := nv_dg H2 (nv B b)
  have k1 := dg_Lt (b := 65536) (by decide) (nv B a)
  have k2 := dg_Lt (b := 65536) (by decide) (nv B b)
  generalize dg 65536 (nv B a) = x at *
  generalize dg 65536 (nv B b) = y at *
  generalize nv B a = u at *
  generalize nv B b = v at *
  have hB : B = 18446744073709551616 := rfl
  have hp := (htimes_spec x y k1 k2 (by omega) (by omega)).frozen
  have hn := hnumber_spec (fl 65536 (x.length + y.length) (nv 65536 x * nv 65536 y)) (fl_Lt (by decide) _ _) (by rw [fl_len]; omega)
  rw [nv_fl, Nat.mod_eq_of_lt (by rw [Nat.pow_add]; exact Nat.mul_lt_mul_of_lt_of_lt (nv_lt k1) (nv_lt k2)), e1, e2] at hn
  rw [e1, e2] at hp
  by_cases h : u < 4294967296 ∧ v < 4294967296
  · rw [decide_eq_true (show u < 2 ^ 32 ∧ v < 2 ^ 32 from h), Nat.mod_eq_of_lt (by omega : u < B), Nat.mod_eq_of_lt (by omega : v < B)] at ho
    have hlt : u * v < 18446744073709551616 := Nat.mul_lt_mul_of_lt_of_lt h.1 h.2
    have hof := hof_spec (u * v) hlt
    have w1 : IntKind.u64.wrap ((u : Int) * (v : Int)) = ((u * v : Nat) : Int) := by rw [← Int.natCast_mul, wu (by omega)]
    refine mkQ fol J0s Try.func30 a30 ?_
    unfold a30
    simp only [init_eq, initE, qm, qr, qn]
    exact wdQ (ai @w1 @bz_F4)
  · rw [decide_eq_false (show ¬ (u < 2 ^ 32 ∧ v < 2 ^ 32) from h)] at ho
    refine mkQ fol J0s Try.func30 a30 ?_
    unfold a30
    simp only [init_eq, initE, qm, qr, qn]
    exact wdQ @bz_F4
end Go.Proofs.Yteaiegppmbcibaa
