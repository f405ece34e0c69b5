/-
  surdref02: shifts.
-/
import Derived.Test.YtnjjeephbeoakaaDoorGH
import Derived.Test.YtnjjeephbeoakaaDoorGE
namespace Go.Proofs.YtnjjeephbeoakaaDoor
open Go Go.RowKit Ab
set_option linter.unusedSimpArgs false
set_option linter.unusedVariables false
set_option maxHeartbeats 10000000
theorem bz_RSh : type_of% (And.intro @W_len (And.intro @D_len (And.intro @Bl_len (And.intro @Nat.div_one (And.intro @Nat.mul_one (And.intro @tn_nat (And.intro @W_nf (And.intro @D_nf (And.intro @Bl_nf (And.intro @W_nil (And.intro @D_nil (And.intro @Bl_nil (And.intro @wi (@nv_dgB)))))))))))))) := And.intro @W_len (And.intro @D_len (And.intro @Bl_len (And.intro @Nat.div_one (And.intro @Nat.mul_one (And.intro @tn_nat (And.intro @W_nf (And.intro @D_nf (And.intro @Bl_nf (And.intro @W_nil (And.intro @D_nil (And.intro @Bl_nil (And.intro @wi (@nv_dgB)))))))))))))

theorem mn (a b : Nat) : min (a : Int) (b : Int) = ((min a b : Nat) : Int) := by omega

-- surd/surdref02.Shl
def a36 : AC := .seq (.reg [⟨some 4, none, .mv (.k .nl)⟩, 
      ⟨some 5, none, .mv (.k (.i .i64 0))⟩])
  (.seq (.seq (.reg [⟨some 7, none, .mv (.t 1)⟩, 
        ⟨some 8, none, .bin .lss (.t 7) (.k (.i .i64 0))⟩, 
        ⟨some 9, none, .mv (.t 8)⟩, 
        ⟨some 10, some (9, false), .mv (.t 1)⟩, 
        ⟨some 11, some (9, false), .bin .gtr (.t 10) (.k (.i .i64 1048576))⟩, 
        ⟨some 12, none, .pick (.t 9) (.k (.b true)) (.t 11)⟩])
    (.cond (.t 12)
    (.seq (.reg [⟨some 4, none, .mv (.k .nl)⟩, 
          ⟨some 5, none, .mv (.k (.i .i64 3))⟩])
      (.ret))
    (.skip)))
  (.seq (.reg [⟨some 13, none, .mv (.t 0)⟩, 
      ⟨some 14, none, .call 28 [(1, (.t 13))]⟩, 
      ⟨some 6, none, .mv (.t 14)⟩])
  (.seq (.seq (.reg [⟨some 15, none, .mv (.t 6)⟩, 
        ⟨some 16, none, .len (.t 15)⟩, 
        ⟨some 17, none, .bin .eql (.t 16) (.k (.i .i64 0))⟩])
    (.cond (.t 17)
    (.seq (.reg [⟨some 4, none, .mv (.k .nl)⟩, 
          ⟨some 5, none, .mv (.k (.i .i64 0))⟩])
      (.ret))
    (.skip)))
  (.seq (.reg [⟨some 18, none, .mv (.t 1)⟩, 
      ⟨some 19, none, .mk 4 1 1 [(.b false)] (.t 18) (.t 18)⟩, 
      ⟨some 20, none, .mv (.t 6)⟩, 
      ⟨some 21, none, .app 4 1 1 (.t 19) (.t 20)⟩, 
      ⟨some 22, none, .call 56 [(1, (.t 21))]⟩, 
      ⟨some 4, none, .mv (.t 22)⟩, 
      ⟨some 5, none, .mv (.k (.i .i64 0))⟩])
  (.ret)))))
theorem rshl_spec (a : List Nat) (n : Int) (ha : Wd a) (la : a.length ≤ 1000000000) : AFun Tryd.prog J0 36 [.l 1 (W a), .i .i64 n] (.t [.l 1 (W (shlR (nv B a) n).1), .i .i64 (shlR (nv B a) n).2]) := by
  refine AFun.mk fol J0s Tryd.func36 rfl (ac := a36) (by kernel_rfl) rfl rfl ?_
  apply vm_start
  unfold a36
  simp only [init_eq, initE]
  by_cases h1 : n < 0
  · rw [show shlR (nv B a) n = ([], 3) from if_pos (.inl h1)]
    repeat first | (refine hK _ ?_; clear hK K) | simp only [Sv, ↓reduceIte, Nat.reduceEqDiff] | ((first | refine vm_reg (fun K hK => ?_) | refine vm_dreg (fun K hK => ?_) | refine vm_dregx (fun K hK => ?_)); simp (disch := (first | omega | assumption)) only [S1, ↓reduceIte, Nat.reduceEqDiff, Nat.reduceAdd, Nat.reduceMul, Nat.reduceDiv, AOp.sb, AOp.mut, ↓Bool.false_eq_true, beq_self_eq_true, ite_self, Nat.reduceLeDiff, Int.reduceEq, Int.reduceSub, Int.reduceAdd, Int.reduceNeg, Int.reduceLT, Int.reduceLE, Nat.reduceLT, bz_RSh, h1])
    simp (disch := (first | omega | assumption)) only [retOk, retN, ret1, retF, ret1F, V.okArg, and_true, true_and, S1, ↓reduceIte, Nat.reduceEqDiff, Nat.reduceAdd, Nat.reduceMul, Nat.reduceDiv, AOp.sb, AOp.mut, ↓Bool.false_eq_true, beq_self_eq_true, ite_self, Nat.reduceLeDiff, Int.reduceEq, Int.reduceSub, Int.reduceAdd, Int.reduceNeg, Int.reduceLT, Int.reduceLE, Nat.reduceLT, bz_RSh, h1]
  · by_cases h2 : 1048576 < n
    · rw [show shlR (nv B a) n = ([], 3) from if_pos (.inr h2)]
      repeat first | (refine hK _ ?_; clear hK K) | simp only [Sv, ↓reduceIte, Nat.reduceEqDiff] | ((first | refine vm_reg (fun K hK => ?_) | refine vm_dreg (fun K hK => ?_) | refine vm_dregx (fun K hK => ?_)); simp (disch := (first | omega | assumption)) only [S1, ↓reduceIte, Nat.reduceEqDiff, Nat.reduceAdd, Nat.reduceMul, Nat.reduceDiv, AOp.sb, AOp.mut, ↓Bool.false_eq_true, beq_self_eq_true, ite_self, Nat.reduceLeDiff, Int.reduceEq, Int.reduceSub, Int.reduceAdd, Int.reduceNeg, Int.reduceLT, Int.reduceLE, Nat.reduceLT, bz_RSh, h1, h2])
      simp (disch := (first | omega | assumption)) only [retOk, retN, ret1, retF, ret1F, V.okArg, and_true, true_and, S1, ↓reduceIte, Nat.reduceEqDiff, Nat.reduceAdd, Nat.reduceMul, Nat.reduceDiv, AOp.sb, AOp.mut, ↓Bool.false_eq_true, beq_self_eq_true, ite_self, Nat.reduceLeDiff, Int.reduceEq, Int.reduceSub, Int.reduceAdd, Int.reduceNeg, Int.reduceLT, Int.reduceLE, Nat.reduceLT, bz_RSh, h1, h2]
    · rw [show shlR (nv B a) n = (dg B (nv B a * 2 ^ n.toNat), 0) from if_neg (by omega)]
      obtain ⟨k, rfl⟩ : ∃ k : Nat, n = (k : Int) := ⟨n.toNat, by omega⟩
      rw [show ((k : Nat) : Int).toNat = k from rfl]
      have hl := dg2_len ha
      have hr := row_spec a ha (by omega)
      have hb : Lt 2 (dg 2 (nv B a)) := dg_Lt (by decide) _
      have hv : nv 2 (dg 2 (nv B a)) = nv B a := nv_dg (by decide) _
      generalize dg 2 (nv B a) = row at hl hr hb hv
      by_cases h0 : (row.length : Int) = 0
      · have hn : row = [] := List.eq_nil_of_length_eq_zero (by omega)
        have e : dg B (nv B a * 2 ^ k) = [] := by rw [← hv, hn]; simp [nv, dg_zero]
        have zc1 := hr
        repeat first | (refine hK _ ?_; clear hK K) | simp only [Sv, ↓reduceIte, Nat.reduceEqDiff] | ((first | refine vm_reg (fun K hK => ?_) | refine vm_dreg (fun K hK => ?_) | refine vm_dregx (fun K hK => ?_) | refine clp_q ?_ | refine clq_mk (by assumption) ?_); simp (disch := (first | omega | assumption)) only [S1, ↓reduceIte, Nat.reduceEqDiff, Nat.reduceAdd, Nat.reduceMul, Nat.reduceDiv, AOp.sb, AOp.mut, ↓Bool.false_eq_true, beq_self_eq_true, ite_self, Nat.reduceLeDiff, Int.reduceEq, Int.reduceSub, Int.reduceAdd, Int.reduceNeg, Int.reduceLT, Int.reduceLE, Nat.reduceLT, bz_RSh, h1, h2, h0, e])
        simp (disch := (first | omega | assumption)) only [retOk, retN, ret1, retF, ret1F, V.okArg, and_true, true_and, S1, ↓reduceIte, Nat.reduceEqDiff, Nat.reduceAdd, Nat.reduceMul, Nat.reduceDiv, AOp.sb, AOp.mut, ↓Bool.false_eq_true, beq_self_eq_true, ite_self, Nat.reduceLeDiff, Int.reduceEq, Int.reduceSub, Int.reduceAdd, Int.reduceNeg, Int.reduceLT, Int.reduceLE, Nat.reduceLT, bz_RSh, h1, h2, h0, e]
      · have e : nv 2 (List.replicate k 0 ++ row) = nv B a * 2 ^ k := by rw [nv_app, nv_rep, List.length_replicate, hv, Nat.zero_add, Nat.mul_comm]
        have lrep : (List.replicate k 0).length = k := by simp
        have zc2 := hr
        have zc3 := ofRow_spec (List.replicate k 0 ++ row) (Lt_app.2 ⟨Lt_rep (by decide), hb⟩) (by rw [List.length_append, lrep]; omega)
        repeat first | (refine hK _ ?_; clear hK K) | simp only [Sv, ↓reduceIte, Nat.reduceEqDiff] | ((first | refine vm_reg (fun K hK => ?_) | refine vm_dreg (fun K hK => ?_) | refine vm_dregx (fun K hK => ?_) | refine clp_q ?_ | refine clq_mk (by assumption) ?_); simp (disch := (first | omega | assumption)) only [S1, ↓reduceIte, Nat.reduceEqDiff, Nat.reduceAdd, Nat.reduceMul, Nat.reduceDiv, AOp.sb, AOp.mut, ↓Bool.false_eq_true, beq_self_eq_true, ite_self, Nat.reduceLeDiff, Int.reduceEq, Int.reduceSub, Int.reduceAdd, Int.reduceNeg, Int.reduceLT, Int.reduceLE, Nat.reduceLT, bz_RSh, h1, h2, h0, mk_Bl, lrep, Bl_app, Bl_cell, e])
        simp (disch := (first | omega | assumption)) only [retOk, retN, ret1, retF, ret1F, V.okArg, and_true, true_and, S1, ↓reduceIte, Nat.reduceEqDiff, Nat.reduceAdd, Nat.reduceMul, Nat.reduceDiv, AOp.sb, AOp.mut, ↓Bool.false_eq_true, beq_self_eq_true, ite_self, Nat.reduceLeDiff, Int.reduceEq, Int.reduceSub, Int.reduceAdd, Int.reduceNeg, Int.reduceLT, Int.reduceLE, Nat.reduceLT, bz_RSh, h1, h2, h0, mk_Bl, lrep, Bl_app, Bl_cell, e]

-- surd/surdref02.Cut
def a39 : AC := .seq (.reg [⟨some 4, none, .mv (.k .nl)⟩, 
      ⟨some 5, none, .mv (.k .nl)⟩, 
      ⟨some 6, none, .mv (.k (.i .i64 0))⟩])
  (.seq (.seq (.reg [⟨some 8, none, .mv (.t 1)⟩, 
        ⟨some 9, none, .bin .lss (.t 8) (.k (.i .i64 0))⟩])
    (.cond (.t 9)
    (.seq (.reg [⟨some 4, none, .mv (.k .nl)⟩, 
          ⟨some 5, none, .mv (.k .nl)⟩, 
          ⟨some 6, none, .mv (.k (.i .i64 3))⟩])
      (.ret))
    (.skip)))
  (.seq (.reg [⟨some 10, none, .mv (.t 0)⟩, 
      ⟨some 11, none, .call 28 [(1, (.t 10))]⟩, 
      ⟨some 7, none, .mv (.t 11)⟩])
  (.seq (.reg [⟨some 12, none, .mv (.t 1)⟩, 
      ⟨some 13, none, .mv (.t 7)⟩, 
      ⟨some 14, none, .len (.t 13)⟩, 
      ⟨some 15, none, .mm false (.t 12) (.t 14)⟩, 
      ⟨some 1, none, .mv (.t 15)⟩])
  (.seq (.dreg [⟨some 16, none, .mv (.t 7)⟩, 
      ⟨some 17, none, .mv (.t 1)⟩, 
      ⟨some 18, none, .sub 1 (.t 16) (some (.t 17)) none⟩, 
      ⟨some 19, none, .call 56 [(1, (.t 18))]⟩, 
      ⟨some 20, none, .mv (.t 7)⟩, 
      ⟨some 21, none, .mv (.t 1)⟩, 
      ⟨some 22, none, .sub 1 (.t 20) none (some (.t 21))⟩, 
      ⟨some 23, none, .call 56 [(1, (.t 22))]⟩, 
      ⟨some 4, none, .mv (.t 19)⟩, 
      ⟨some 5, none, .mv (.t 23)⟩, 
      ⟨some 6, none, .mv (.k (.i .i64 0))⟩])
  (.ret)))))
theorem rcut_spec (a : List Nat) (n : Int) (ha : Wd a) (la : a.length ≤ 1000000000) (hn : n < 9223372036854775808) : AFun Tryd.prog J0 39 [.l 1 (W a), .i .i64 n] (.t [.l 1 (W (shrR (nv B a) n).1), .l 1 (W (lowR (nv B a) n)), .i .i64 (shrR (nv B a) n).2]) := by
  refine AFun.mk fol J0s Tryd.func39 rfl (ac := a39) (by kernel_rfl) rfl rfl ?_
  apply vm_start
  unfold a39
  simp only [init_eq, initE]
  by_cases h1 : n < 0
  · have e : shrR (nv B a) n = ([], 3) := if_pos h1
    have e2 : lowR (nv B a) n = [] := if_pos h1
    rw [e, e2]
    repeat first | (refine hK _ ?_; clear hK K) | simp only [Sv, ↓reduceIte, Nat.reduceEqDiff] | ((first | refine vm_reg (fun K hK => ?_) | refine vm_dreg (fun K hK => ?_) | refine vm_dregx (fun K hK => ?_)); simp (disch := (first | omega | assumption)) only [S1, ↓reduceIte, Nat.reduceEqDiff, Nat.reduceAdd, Nat.reduceMul, Nat.reduceDiv, AOp.sb, AOp.mut, ↓Bool.false_eq_true, beq_self_eq_true, ite_self, Nat.reduceLeDiff, Int.reduceEq, Int.reduceSub, Int.reduceAdd, Int.reduceNeg, Int.reduceLT, Int.reduceLE, Nat.reduceLT, bz_RSh, h1])
    simp (disch := (first | omega | assumption)) only [retOk, retN, ret1, retF, ret1F, V.okArg, and_true, true_and, S1, ↓reduceIte, Nat.reduceEqDiff, Nat.reduceAdd, Nat.reduceMul, Nat.reduceDiv, AOp.sb, AOp.mut, ↓Bool.false_eq_true, beq_self_eq_true, ite_self, Nat.reduceLeDiff, Int.reduceEq, Int.reduceSub, Int.reduceAdd, Int.reduceNeg, Int.reduceLT, Int.reduceLE, Nat.reduceLT, bz_RSh, h1]
  · have e : shrR (nv B a) n = (dg B (nv B a / 2 ^ n.toNat), 0) := if_neg h1
    have e2 : lowR (nv B a) n = dg B (nv B a % 2 ^ n.toNat) := if_neg h1
    rw [e, e2]
    obtain ⟨k, rfl⟩ : ∃ k : Nat, n = (k : Int) := ⟨n.toNat, by omega⟩
    rw [show ((k : Nat) : Int).toNat = k from rfl]
    have hl := dg2_len ha
    have hr := row_spec a ha (by omega)
    have hb : Lt 2 (dg 2 (nv B a)) := dg_Lt (by decide) _
    have hv : nv 2 (dg 2 (nv B a)) = nv B a := nv_dg (by decide) _
    generalize dg 2 (nv B a) = row at hl hr hb hv
    have hvl := nv_lt hb
    have f1 : nv 2 (row.drop (min k row.length)) = nv B a / 2 ^ k := by
      rw [← hv]
      rcases Nat.le_total k row.length with h | h
      · rw [Nat.min_eq_left h, nv_div (by decide) hb]
      · rw [Nat.min_eq_right h, List.drop_length, Nat.div_eq_of_lt (Nat.lt_of_lt_of_le hvl (Nat.pow_le_pow_right (by decide) h))]; rfl
    have f2 : nv 2 (row.take (min k row.length)) = nv B a % 2 ^ k := by
      rw [← hv]
      rcases Nat.le_total k row.length with h | h
      · rw [Nat.min_eq_left h, nv_mod (by decide) hb]
      · rw [Nat.min_eq_right h, List.take_length, Nat.mod_eq_of_lt (Nat.lt_of_lt_of_le hvl (Nat.pow_le_pow_right (by decide) h))]
    have hml : min k row.length ≤ row.length := Nat.min_le_right _ _
    generalize hm : min k row.length = m at f1 f2 hml
    have zc4 := hr
    have zc5 := ofRow_spec (row.drop m) (Lt_drop hb _) (by rw [List.length_drop]; omega)
    have zc6 := ofRow_spec (row.take m) (Lt_take hb _) (by rw [List.length_take]; omega)
    repeat first | (refine hK _ ?_; clear hK K) | simp only [Sv, ↓reduceIte, Nat.reduceEqDiff] | ((first | refine vm_reg (fun K hK => ?_) | refine vm_dreg (fun K hK => ?_) | refine vm_dregx (fun K hK => ?_) | refine clp_q ?_ | refine clq_mk (by assumption) ?_); simp (disch := (first | omega | assumption)) only [S1, ↓reduceIte, Nat.reduceEqDiff, Nat.reduceAdd, Nat.reduceMul, Nat.reduceDiv, AOp.sb, AOp.mut, ↓Bool.false_eq_true, beq_self_eq_true, ite_self, Nat.reduceLeDiff, Int.reduceEq, Int.reduceSub, Int.reduceAdd, Int.reduceNeg, Int.reduceLT, Int.reduceLE, Nat.reduceLT, bz_RSh, h1, mn, hm, Bl_drop, f1, Bl_take, f2])
    simp (disch := (first | omega | assumption)) only [retOk, retN, ret1, retF, ret1F, V.okArg, and_true, true_and, S1, ↓reduceIte, Nat.reduceEqDiff, Nat.reduceAdd, Nat.reduceMul, Nat.reduceDiv, AOp.sb, AOp.mut, ↓Bool.false_eq_true, beq_self_eq_true, ite_self, Nat.reduceLeDiff, Int.reduceEq, Int.reduceSub, Int.reduceAdd, Int.reduceNeg, Int.reduceLT, Int.reduceLE, Nat.reduceLT, bz_RSh, h1, mn, hm, Bl_drop, f1, Bl_take, f2]

end Go.Proofs.YtnjjeephbeoakaaDoor
