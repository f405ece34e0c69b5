/-
  surdref04.Mul: at school, in base 256.
-/
import Derived.Test.YtdaedplbhpiacaaGH
import Derived.Test.YtdaedplbhpiacaaNM8
namespace Go.Proofs.Ytdaedplbhpiacaa
open Go Go.RowKit Ab
set_option linter.unusedSimpArgs false
set_option linter.unusedVariables false
set_option maxHeartbeats 10000000
theorem bz_Z3 : type_of% (And.intro @W_len (And.intro @D_len (And.intro @Nat.div_one (And.intro @Nat.mul_one (And.intro @tn_nat (And.intro @W_nf (And.intro @D_nf (And.intro @W_nil (And.intro @D_nil (And.intro @wi (@D_get))))))))))) := And.intro @W_len (And.intro @D_len (And.intro @Nat.div_one (And.intro @Nat.mul_one (And.intro @tn_nat (And.intro @W_nf (And.intro @D_nf (And.intro @W_nil (And.intro @D_nil (And.intro @wi (@D_get))))))))))
theorem tn_pq (a b : Nat) : ((a : Int) + (b : Int)).toNat = a + b := by omega
theorem acc_bnd {s i x y : Nat} (h : s ≤ 65025 * i) (hx : x < 256) (hy : y < 256) : s + x * y ≤ 65025 * (i + 1) := by
  have h1 : x * y ≤ 255 * 255 := Nat.mul_le_mul (by omega) (by omega)
  omega
def a46 : AC := .seq (.reg [qr 4 (.mv (.k .nl))])
 (.seq (.reg [qm 13 0,
 qr 14 (.call 36 [(1, (.t 13))]),
 qm 15 1,
 qr 16 (.call 36 [(1, (.t 15))]),
 qm 5 14,
 qm 6 16])
 (.seq (.reg [qm 17 5,
 qr 18 (.len (.t 17)),
 qm 19 6,
 qr 20 (.len (.t 19)),
 qr 21 (.bin .add (.t 18) (.t 20)),
 qr 22 (.bin .add (.t 21) (.k (.i .i64 1))),
 qr 23 (.mk 3 1 8 [(.i .i64 0)] (.t 22) (.t 22)),
 qm 7 23])
 (.seq (.seq (.reg [qr 8 (.mv (.k (.i .i64 0)))])
 (.blk 0
 (.loop
 (.seq (.seq (.reg [qm 24 8,
 qm 25 5,
 qr 26 (.len (.t 25)),
 qr 27 (.bin .lss (.t 24) (.t 26))])
 (.cond (.t 27)
 (.skip)
 (.exit 0)))
 (.seq (.blk 1
 (.seq (.reg [qr 9 (.mv (.k (.i .i64 0)))])
 (.blk 2
 (.loop
 (.seq (.seq (.reg [qm 30 9,
 qm 31 6,
 qr 32 (.len (.t 31)),
 qr 33 (.bin .lss (.t 30) (.t 32))])
 (.cond (.t 33)
 (.skip)
 (.exit 2)))
 (.seq (.blk 3
 (.dreg [qm 36 7,
 qm 37 8,
 qm 38 9,
 qr 39 (.bin .add (.t 37) (.t 38)),
 qm 40 7,
 qm 41 8,
 qm 42 9,
 qr 43 (.bin .add (.t 41) (.t 42)),
 qr 44 (.idx 1 (.t 40) (.t 43)),
 qr 45 (.ld false 1 (.t 44)),
 qm 46 5,
 qm 47 8,
 qr 48 (.idx 1 (.t 46) (.t 47)),
 qr 49 (.ld false 1 (.t 48)),
 qm 50 6,
 qm 51 9,
 qr 52 (.idx 1 (.t 50) (.t 51)),
 qr 53 (.ld false 1 (.t 52)),
 qr 54 (.bin .mul (.t 49) (.t 53)),
 qr 55 (.bin .add (.t 45) (.t 54)),
 qr 56 (.idx 1 (.t 36) (.t 39)),
 qn (.st 1 (.t 56) (.t 55))]))
 (.reg [qm 34 9,
 qr 35 (.bin .add (.t 34) (.k (.i .i64 1))),
 qm 9 35])))))))
 (.reg [qm 28 8,
 qr 29 (.bin .add (.t 28) (.k (.i .i64 1))),
 qm 8 29]))))))
 (.seq (.reg [qr 10 (.mv (.k (.i .i64 0)))])
 (.seq (.seq (.reg [qr 11 (.mv (.k (.i .i64 0)))])
 (.blk 4
 (.loop
 (.seq (.seq (.reg [qm 57 11,
 qm 58 7,
 qr 59 (.len (.t 58)),
 qr 60 (.bin .lss (.t 57) (.t 59))])
 (.cond (.t 60)
 (.skip)
 (.exit 4)))
 (.seq (.blk 5
 (.seq (.reg [qm 63 7,
 qm 64 11,
 qr 65 (.idx 1 (.t 63) (.t 64)),
 qr 66 (.ld false 1 (.t 65)),
 qm 67 10,
 qr 68 (.bin .add (.t 66) (.t 67)),
 qm 12 68])
 (.seq (.reg [qm 69 7,
 qm 70 11,
 qm 71 12,
 qr 72 (.bin .rem (.t 71) (.k (.i .i64 256))),
 qr 73 (.idx 1 (.t 69) (.t 70)),
 qn (.st 1 (.t 73) (.t 72))])
 (.reg [qm 74 12,
 qr 75 (.bin .quo (.t 74) (.k (.i .i64 256))),
 qm 10 75]))))
 (.reg [qm 61 11,
 qr 62 (.bin .add (.t 61) (.k (.i .i64 1))),
 qm 11 62]))))))
 (.seq (.reg [qm 76 7,
 qr 77 (.call 40 [(1, (.t 76))]),
 qm 4 77])
 (.ret)))))))
theorem rmul_spec (a b : List Nat) (ha : Wd a) (hb : Wd b) (la : a.length ≤ 100000000) (lb : b.length ≤ 100000000) :
    AFun Try.prog J0 46 [.l 1 (W a), .l 1 (W b)] (.o 24 1 (W (dg B (nv B a * nv B b)))) := by
  have da := digits_spec a ha (by omega)
  have db := digits_spec b hb (by omega)
  have lda := dg256_len ha
  have ldb := dg256_len hb
  have ea := nv_dg D2 (nv B a)
  have eb := nv_dg D2 (nv B b)
  have wa := dg_Lt (b := 256) (by decide) (nv B a)
  have wb := dg_Lt (b := 256) (by decide) (nv B b)
  generalize dg 256 (nv B a) = x at *
  generalize dg 256 (nv B b) = y at *
  rw [← ea, ← eb]
  obtain ⟨p, hp⟩ : ∃ p, p = x.length := ⟨_, rfl⟩
  obtain ⟨q, hq⟩ : ∃ q, q = y.length := ⟨_, rfl⟩
  obtain ⟨n, hn⟩ : ∃ n, n = p + q + 1 := ⟨_, rfl⟩
  have hnI : (p : Int) + (q : Int) + 1 = (n : Int) := by omega
  have hn0 : (0 : Int) ≤ (n : Int) := by omega
  have hT : nv 256 x * nv 256 y < 256 ^ n := by
    have h1 := nv_lt wa
    have h2 := nv_lt wb
    have h3 := Nat.mul_lt_mul_of_lt_of_lt h1 h2
    rw [← Nat.pow_add] at h3
    exact Nat.lt_of_lt_of_le h3 (Nat.pow_le_pow_right (by decide) (by omega))
  obtain ⟨T, hTe⟩ : ∃ T, T = nv 256 x * nv 256 y := ⟨_, rfl⟩
  rw [← hTe] at hT ⊢
  refine mkQ fol J0s Try.func46 a46 ?_
  unfold a46
  simp only [init_eq, initE, qm, qr, qn]
  repeat first | (refine hK _ ?_; clear hK K) | simp only [Sv, ↓reduceIte, Nat.reduceEqDiff] | ((first | refine vm_reg (fun K hK => ?_) | refine vm_dreg (fun K hK => ?_) | refine vm_dregx (fun K hK => ?_) | refine clp_q ?_ | refine clq_mk (by assumption) ?_ | refine mcq_q ?_ | (apply mcr_mk; assumption) | (apply ocr_mk; assumption)); simp (disch := (first | omega | assumption)) only [S1, ↓reduceIte, Nat.reduceEqDiff, Nat.reduceAdd, Nat.reduceMul, Nat.reduceDiv, AOp.sb, AOp.mut, frzf, ↓Bool.false_eq_true, beq_self_eq_true, ite_self, Nat.reduceLeDiff, Int.reduceEq, Int.reduceSub, Int.reduceAdd, Int.reduceNeg, Int.reduceLT, Int.reduceLE, Nat.reduceLT, bz_Z3, ← hp, ← hq, hnI, mk_D])
  refine vm_loopA [] (Nat × List Nat) (fun s => ⟨[(5, .l 1 (D x)), (6, .l 1 (D y)), (7, .ow 1 0 n), (8, .i .i64 (s.1 : Int))],
      [(0, some ⟨3, 1, D s.2, true, false⟩)], 1⟩)
    (fun s => s.1 ≤ p ∧ s.2.length = n ∧ nv 256 s.2 = nv 256 (x.take s.1) * nv 256 y ∧ ∀ j, s.2.getD j 0 ≤ 65025 * s.1) (fun s => p - s.1) (0, List.replicate n 0)
    ⟨Nat.zero_le _, by simp, by rw [nv_rep, List.take_zero, show nv 256 [] = 0 from rfl, Nat.zero_mul], fun j => by simp only [List.getD_eq_getElem?_getD, List.getElem?_replicate]; split <;> simp⟩ (by exact leQ) (by
    exact ltQ) ?_
  rintro ⟨i, S⟩ ⟨hi, lS, vS, bS⟩ Q' hQ he hr
  simp only [] at hi lS vS bS ⊢
  by_cases hil : (i : Int) < (p : Int)
  · have hxi := Lt_get wa (by decide) i
    repeat first
      | (refine hK _ ?_; clear hK K)
      | ((first | refine vm_reg (fun K hK => ?_) | refine vm_dreg (fun K hK => ?_) | refine vm_dregx (fun K hK => ?_)); simp (disch := (first | omega | assumption)) only [S1, ↓reduceIte, Nat.reduceEqDiff, Nat.reduceAdd, Nat.reduceMul, Nat.reduceDiv, AOp.sb, AOp.mut, frzf, ↓Bool.false_eq_true, beq_self_eq_true, ite_self, Nat.reduceLeDiff, Int.reduceEq, Int.reduceSub, Int.reduceAdd, Int.reduceNeg, Int.reduceLT, Int.reduceLE, Nat.reduceLT, bz_Z3, hil, ← hp, ← hq]; refine hK _ ?_; clear hK K)
      | simp only [Sv, ↓reduceIte, Nat.reduceEqDiff]
    refine vm_loopA [] (Nat × List Nat) (fun s => ⟨[(5, .l 1 (D x)), (6, .l 1 (D y)), (7, .ow 1 0 n), (8, .i .i64 (i : Int)), (9, .i .i64 (s.1 : Int))],
        [(0, some ⟨3, 1, D s.2, true, false⟩)], 1⟩)
      (fun s => s.1 ≤ q ∧ s.2.length = n ∧ nv 256 s.2 = nv 256 (x.take i) * nv 256 y + 256 ^ i * (x.getD i 0 * nv 256 (y.take s.1)) ∧ (∀ j, s.2.getD j 0 ≤ 65025 * (i + 1)) ∧ ∀ j, i + s.1 ≤ j → s.2.getD j 0 ≤ 65025 * i) (fun s => q - s.1) (0, S)
      ⟨Nat.zero_le _, lS, by simp only [List.take_zero, show nv 256 [] = 0 from rfl, Nat.mul_zero, Nat.add_zero]; exact vS, fun j => by have := bS j; simp only; omega, fun j _ => bS j⟩ (by exact leQ) (by
      exact ltQ) ?_
    rintro ⟨k, U⟩ ⟨hk, lU, vU, bU, cU⟩ Q'' hQ' he' hr'
    simp only [] at hk lU vU bU cU ⊢
    by_cases hkl : (k : Int) < (q : Int)
    · have hyk := Lt_get wb (by decide) k
      have hik := cU (i + k) (Nat.le_refl _)
      have hab := acc_bnd hik hxi hyk
      have htk := nv_take_succ (b := 256) y k (by omega)
      have hst := nv_set (b := 256) U (i + k) (U.getD (i + k) 0 + x.getD i 0 * y.getD k 0) (by omega)
      have hmI : (((U.getD (i + k) 0 : Nat)) : Int) + ((x.getD i 0 : Nat) : Int) * ((y.getD k 0 : Nat) : Int) = ((U.getD (i + k) 0 + x.getD i 0 * y.getD k 0 : Nat) : Int) := by rw [Int.natCast_add, Int.natCast_mul]
      have hxy : x.getD i 0 * y.getD k 0 ≤ 65025 := by have := acc_bnd (s := 0) (i := 0) (by omega) hxi hyk; omega
      obtain ⟨z, hz⟩ : ∃ z, z = x.getD i 0 * y.getD k 0 := ⟨_, rfl⟩
      have hzI : ((x.getD i 0 : Nat) : Int) * ((y.getD k 0 : Nat) : Int) = (z : Int) := by rw [hz, Int.natCast_mul]
      rw [← hz] at hab hst hmI hxy
      rw [hzI] at hmI
      repeat first
        | (refine hK _ ?_; clear hK K)
        | ((first | refine vm_reg (fun K hK => ?_) | refine vm_dreg (fun K hK => ?_) | refine vm_dregx (fun K hK => ?_)); simp (disch := (first | omega | assumption)) only [S1, ↓reduceIte, Nat.reduceEqDiff, Nat.reduceAdd, Nat.reduceMul, Nat.reduceDiv, AOp.sb, AOp.mut, frzf, ↓Bool.false_eq_true, beq_self_eq_true, ite_self, Nat.reduceLeDiff, Int.reduceEq, Int.reduceSub, Int.reduceAdd, Int.reduceNeg, Int.reduceLT, Int.reduceLE, Nat.reduceLT, bz_Z3, hkl, ← hp, ← hq, tn_pq, lU, hzI, hmI, D_set]; refine hK _ ?_; clear hK K)
        | simp only [Sv, ↓reduceIte, Nat.reduceEqDiff]
      refine hQ' _ (k + 1, U.set (i + k) (U.getD (i + k) 0 + z)) ⟨by simp only; omega, by simp only [List.length_set]; exact lU, ?_, fun j => ?_, fun j hj => ?_⟩ (by simp only; omega) ?_
      · simp only []
        have e : 256 ^ i * (x.getD i 0 * (256 ^ k * y.getD k 0)) = 256 ^ (i + k) * z := by rw [hz, Nat.pow_add, Nat.mul_assoc, Nat.mul_left_comm (x.getD i 0)]
        rw [htk, Nat.mul_add, Nat.mul_add, e, ← Nat.add_assoc, ← vU]
        rw [Nat.mul_add] at hst
        omega
      · simp only []
        by_cases hj : i + k = j
        · subst hj; rw [getD_set _ _ _ (by omega)]; exact hab
        · rw [getD_set_ne _ _ _ _ hj]; exact bU j
      · simp only [] at hj ⊢
        rw [getD_set_ne _ _ _ _ (by omega)]; exact cU j (by omega)
      · simp (disch := (first | omega | assumption)) only [Sl, Sa, Sw, ↓reduceIte, Nat.reduceEqDiff, Nat.reduceLT, List.all_nil, List.all_cons, Nat.reduceBneDiff, Nat.reduceAdd, bne_iff_ne, ne_eq, reduceCtorEq, not_false_eq_true, not_true_eq_false, Bool.and_true, Bool.true_and, and_true, true_and, and_self, i_eq]
        repeat' first | rfl | omega | (simp only [List.length_append, List.length_cons, List.length_nil]; done) | apply And.intro
    · obtain rfl : k = q := by omega
      rw [show y.take k = y from by rw [hq, List.take_length]] at vU
      repeat first
        | (refine hK _ ?_; clear hK K)
        | ((first | refine vm_reg (fun K hK => ?_) | refine vm_dreg (fun K hK => ?_) | refine vm_dregx (fun K hK => ?_)); simp (disch := (first | omega | assumption)) only [S1, ↓reduceIte, Nat.reduceEqDiff, Nat.reduceAdd, Nat.reduceMul, Nat.reduceDiv, AOp.sb, AOp.mut, frzf, ↓Bool.false_eq_true, beq_self_eq_true, ite_self, Nat.reduceLeDiff, Int.reduceEq, Int.reduceSub, Int.reduceAdd, Int.reduceNeg, Int.reduceLT, Int.reduceLE, Nat.reduceLT, bz_Z3, hkl, ← hp, ← hq]; refine hK _ ?_; clear hK K)
        | simp only [Sv, ↓reduceIte, Nat.reduceEqDiff]
      refine he' _ _ ?_
      refine spQ @bz_Z3 ?_
      refine hQ _ (i + 1, U) ⟨by simp only; omega, lU, ?_, bU⟩ (by simp only; omega) ?_
      · simp only []
        rw [vU, nv_take_succ (b := 256) x i (by omega), Nat.add_mul, Nat.mul_assoc]
      · simp (disch := (first | omega | assumption)) only [Sl, Sa, Sw, ↓reduceIte, Nat.reduceEqDiff, Nat.reduceLT, List.all_nil, List.all_cons, Nat.reduceBneDiff, Nat.reduceAdd, bne_iff_ne, ne_eq, reduceCtorEq, not_false_eq_true, not_true_eq_false, Bool.and_true, Bool.true_and, and_true, true_and, and_self, i_eq]
        repeat' first | rfl | omega | (simp only [List.length_append, List.length_cons, List.length_nil]; done) | apply And.intro
  · obtain rfl : i = p := by omega
    rw [show x.take i = x from by rw [hp, List.take_length]] at vS
    rw [← hTe] at vS
    obtain ⟨M, hM⟩ : ∃ M, M = 65025 * i := ⟨_, rfl⟩
    have hMb : M ≤ 65025 * 800000000 := by omega
    rw [← hM] at bS
    repeat first
      | (refine hK _ ?_; clear hK K)
      | ((first | refine vm_reg (fun K hK => ?_) | refine vm_dreg (fun K hK => ?_) | refine vm_dregx (fun K hK => ?_)); simp (disch := (first | omega | assumption)) only [S1, ↓reduceIte, Nat.reduceEqDiff, Nat.reduceAdd, Nat.reduceMul, Nat.reduceDiv, AOp.sb, AOp.mut, frzf, ↓Bool.false_eq_true, beq_self_eq_true, ite_self, Nat.reduceLeDiff, Int.reduceEq, Int.reduceSub, Int.reduceAdd, Int.reduceNeg, Int.reduceLT, Int.reduceLE, Nat.reduceLT, bz_Z3, hil, ← hp, ← hq]; refine hK _ ?_; clear hK K)
      | simp only [Sv, ↓reduceIte, Nat.reduceEqDiff]
    refine he _ _ ?_
    refine spQ @bz_Z3 ?_
    refine vm_loopA [] (Nat × List Nat × Nat) (fun s => ⟨[(7, .ow 1 0 n), (10, .i .i64 (s.2.2 : Int)), (11, .i .i64 (s.1 : Int))],
        [(0, some ⟨3, 1, D (s.2.1 ++ S.drop s.1), true, false⟩)], 1⟩)
      (fun s => s.1 ≤ n ∧ s.2.1.length = s.1 ∧ Lt 256 s.2.1 ∧ s.2.2 ≤ M ∧ nv 256 s.2.1 + 256 ^ s.1 * (s.2.2 + nv 256 (S.drop s.1)) = T) (fun s => n - s.1) (0, [], 0)
      ⟨Nat.zero_le _, rfl, Lt_nil, Nat.zero_le _, by simp [nv, vS]⟩ (by exact leQ) (by
      exact ltQ) ?_
    rintro ⟨j, E, c⟩ ⟨hj, lE, wE, hc, vE⟩ Q'' hQ' he' hr'
    simp only [] at hj lE wE hc vE ⊢
    by_cases hjl : (j : Int) < (n : Int)
    · have hjS : j < S.length := by omega
      have hll : (E ++ S.drop j).length = n := by rw [List.length_append, lE, List.length_drop]; omega
      have hget : (E ++ S.drop j).getD j 0 = S.getD j 0 := by rw [List.getD_eq_getElem?_getD, List.getElem?_append_right (by omega), lE, Nat.sub_self, List.getElem?_drop, Nat.add_zero, List.getD_eq_getElem?_getD]
      have hbj := bS j
      obtain ⟨t, ht⟩ : ∃ t, t = S.getD j 0 + c := ⟨_, rfl⟩
      have htI : ((S.getD j 0 : Nat) : Int) + (c : Int) = (t : Int) := by omega
      have hset : (E ++ S.drop j).set j (t % 256) = (E ++ [t % 256]) ++ S.drop (j + 1) := by
        rw [List.drop_eq_getElem_cons hjS, List.set_append_right _ _ (by omega), lE, Nat.sub_self, List.set_cons_zero, List.append_assoc]; rfl
      have hdr := nv_drop_get (b := 256) S j hjS
      refine spQ (ai @hset (ai @D_set (ai @tdiv_256 (ai @tmod_256 (ai @htI (ai @hget (ai @hll (ai @hjl @bz_Z3)))))))) ?_
      refine hQ' _ (j + 1, E ++ [t % 256], t / 256) ⟨by simp only; omega, by simp [lE], Lt_app.2 ⟨wE, fun z hz => by rw [List.mem_singleton] at hz; omega⟩, by simp only; omega, ?_⟩ (by simp only; omega) ?_
      · simp only []
        rw [nv_app, nv_one, lE, Nat.pow_succ, Nat.mul_assoc, Nat.add_assoc, ← Nat.mul_add, ← vE, hdr]
        rw [show t % 256 + 256 * (t / 256 + nv 256 (S.drop (j + 1))) = c + (S.getD j 0 + 256 * nv 256 (S.drop (j + 1))) from by rw [Nat.mul_add]; omega]
      · simp (disch := (first | omega | assumption)) only [Sl, Sa, Sw, ↓reduceIte, Nat.reduceEqDiff, Nat.reduceLT, List.all_nil, List.all_cons, Nat.reduceBneDiff, Nat.reduceAdd, bne_iff_ne, ne_eq, reduceCtorEq, not_false_eq_true, not_true_eq_false, Bool.and_true, Bool.true_and, and_true, true_and, and_self, i_eq]
        repeat' first | rfl | omega | (simp only [List.length_append, List.length_cons, List.length_nil]; done) | apply And.intro
    · obtain rfl : j = n := by omega
      have hd0 : S.drop j = [] := List.drop_of_length_le (by omega)
      rw [hd0, show nv 256 [] = 0 from rfl, Nat.add_zero] at vE
      have hc0 : c = 0 := by
        rcases Nat.eq_zero_or_pos c with h | h
        · exact h
        · have := Nat.mul_le_mul_left (256 ^ j) (show 1 ≤ c from h)
          omega
      rw [hc0, Nat.mul_zero, Nat.add_zero] at vE
      have hof := of_spec E wE (by omega)
      rw [vE] at hof
      refine spQ (ai @hjl @bz_Z3) ?_
      refine he' _ _ ?_
      repeat first | (refine hK _ ?_; clear hK K) | simp only [Sv, ↓reduceIte, Nat.reduceEqDiff] | ((first | refine vm_reg (fun K hK => ?_) | refine vm_dreg (fun K hK => ?_) | refine vm_dregx (fun K hK => ?_) | refine clp_q ?_ | refine clq_mk (by assumption) ?_ | refine mcq_q ?_ | (apply mcr_mk; assumption) | (apply ocr_mk; assumption)); simp (disch := (first | omega | assumption)) only [S1, ↓reduceIte, Nat.reduceEqDiff, Nat.reduceAdd, Nat.reduceMul, Nat.reduceDiv, AOp.sb, AOp.mut, frzf, ↓Bool.false_eq_true, beq_self_eq_true, ite_self, Nat.reduceLeDiff, Int.reduceEq, Int.reduceSub, Int.reduceAdd, Int.reduceNeg, Int.reduceLT, Int.reduceLE, Nat.reduceLT, bz_Z3, hd0, List.append_nil])
      simp (disch := (first | omega | assumption)) only [retOk, retN, ret1, retF, ret1F, V.okArg, and_true, true_and, S1, ↓reduceIte, Nat.reduceEqDiff, Nat.reduceAdd, Nat.reduceMul, Nat.reduceDiv, AOp.sb, AOp.mut, frzf, ↓Bool.false_eq_true, beq_self_eq_true, ite_self, Nat.reduceLeDiff, Int.reduceEq, Int.reduceSub, Int.reduceAdd, Int.reduceNeg, Int.reduceLT, Int.reduceLE, Nat.reduceLT, bz_Z3, hd0, List.append_nil]
end Go.Proofs.Ytdaedplbhpiacaa
