/-
  NatShifts: the reference's shifts; the law's walk.
-/
import Derived.Test.YtjabgieajkgkfaaShift2
namespace Go.Proofs.Ytjabgieajkgkfaa
open Go Go.RowKit Ab
set_option linter.unusedSimpArgs false
set_option linter.unusedVariables false
set_option maxHeartbeats 10000000

theorem mk_Bl (n : Nat) : (List.replicate n [V.b false]).flatten = Bl (List.replicate n 0) := by
  induction n with
  | zero => rfl
  | succ n ih => rw [List.replicate_succ, List.flatten_cons, ih, List.replicate_succ]; rfl
theorem dg2_len {a : List Nat} (ha : Wd a) : (dg 2 (nv B a)).length ≤ 64 * a.length := dg_len (by decide) (by
  have := nv_lt ha
  rwa [B64, ← Nat.pow_mul] at this)
theorem mn (a b : Nat) : min (a : Int) (b : Int) = ((min a b : Nat) : Int) := by omega

-- surd/surdref02.Shl
def a21 : AC := .seq (.reg [⟨some 4, none, .mv (.k .nl)⟩, 
      ⟨some 5, none, .mv (.k (.i .i64 0))⟩])
  (.seq (.seq (.reg [⟨some 7, none, .mv (.t 1)⟩, 
        ⟨some 8, none, .bin .lss (.t 7) (.k (.i .i64 0))⟩, 
        ⟨some 9, none, .mv (.t 8)⟩, 
        ⟨some 10, some (9, false), .mv (.t 1)⟩, 
        ⟨some 11, some (9, false), .bin .gtr (.t 10) (.k (.i .i64 1048576))⟩, 
        ⟨some 12, none, .pick (.t 9) (.k (.b true)) (.t 11)⟩])
    (.cond (.t 12)
    (.seq (.reg [⟨some 4, none, .mv (.k .nl)⟩, 
          ⟨some 5, none, .mv (.k (.i .i64 3))⟩])
      (.ret))
    (.skip)))
  (.seq (.reg [⟨some 13, none, .mv (.t 0)⟩, 
      ⟨some 14, none, .call 47 [(1, (.t 13))]⟩, 
      ⟨some 6, none, .mv (.t 14)⟩])
  (.seq (.seq (.reg [⟨some 15, none, .mv (.t 6)⟩, 
        ⟨some 16, none, .len (.t 15)⟩, 
        ⟨some 17, none, .bin .eql (.t 16) (.k (.i .i64 0))⟩])
    (.cond (.t 17)
    (.seq (.reg [⟨some 4, none, .mv (.k .nl)⟩, 
          ⟨some 5, none, .mv (.k (.i .i64 0))⟩])
      (.ret))
    (.skip)))
  (.seq (.reg [⟨some 18, none, .mv (.t 1)⟩, 
      ⟨some 19, none, .mk 4 1 1 [(.b false)] (.t 18) (.t 18)⟩, 
      ⟨some 20, none, .mv (.t 6)⟩, 
      ⟨some 21, none, .app 4 1 1 (.t 19) (.t 20)⟩, 
      ⟨some 22, none, .call 48 [(1, (.t 21))]⟩, 
      ⟨some 4, none, .mv (.t 22)⟩, 
      ⟨some 5, none, .mv (.k (.i .i64 0))⟩])
  (.ret)))))
theorem rshl_spec (a : List Nat) (n : Int) (ha : Wd a) (la : a.length ≤ 1000000000) : AFun Try.prog J0 21 [.l 1 (W a), .i .i64 n] (.t [.l 1 (W (shlR (nv B a) n).1), .i .i64 (shlR (nv B a) n).2]) := by
  refine AFun.mk fol J0s Try.func21 rfl (ac := a21) (by kernel_rfl) rfl rfl ?_
  apply vm_start
  unfold a21
  by_cases h1 : n < 0
  · rw [show shlR (nv B a) n = ([], 3) from if_pos (.inl h1)]
    repeat first | (refine hK _ ?_; clear hK K) | simp only [Sv, ↓reduceIte, Nat.reduceEqDiff] | ((first | refine vm_reg (fun K hK => ?_) | refine vm_dreg (fun K hK => ?_)); simp (disch := (first | omega | assumption)) only [initS, initE, Sw, Sx, Sb, pure_s2b, ↓reduceIte, Nat.reduceEqDiff, Nat.reduceAdd, Nat.reduceMul, Nat.reduceDiv, AOp.sb, AOp.mut, ↓Bool.false_eq_true, beq_self_eq_true, ite_self, decide_eq_true_eq, decide_true, decide_false, Nat.reduceLeDiff, c0, c1, c2, c3, c13, Int.cast_ofNat_Int, Int.reduceEq, Int.reduceSub, Int.reduceAdd, Int.reduceNeg, Int.reduceLT, Int.reduceLE, Nat.reduceLT, W_len, D_len, Bl_len, Nat.div_one, Nat.mul_one, tn_nat, W_nf, D_nf, Bl_nf, W_nil, D_nil, Bl_nil, wi, nv_dgB, chk_of, h1])
    simp (disch := (first | omega | assumption)) only [retOk, retN, ret1, V.okArg, and_true, true_and, initS, initE, Sw, Sx, Sb, pure_s2b, ↓reduceIte, Nat.reduceEqDiff, Nat.reduceAdd, Nat.reduceMul, Nat.reduceDiv, AOp.sb, AOp.mut, ↓Bool.false_eq_true, beq_self_eq_true, ite_self, decide_eq_true_eq, decide_true, decide_false, Nat.reduceLeDiff, c0, c1, c2, c3, c13, Int.cast_ofNat_Int, Int.reduceEq, Int.reduceSub, Int.reduceAdd, Int.reduceNeg, Int.reduceLT, Int.reduceLE, Nat.reduceLT, W_len, D_len, Bl_len, Nat.div_one, Nat.mul_one, tn_nat, W_nf, D_nf, Bl_nf, W_nil, D_nil, Bl_nil, wi, nv_dgB, chk_of, h1]
  · by_cases h2 : 1048576 < n
    · rw [show shlR (nv B a) n = ([], 3) from if_pos (.inr h2)]
      repeat first | (refine hK _ ?_; clear hK K) | simp only [Sv, ↓reduceIte, Nat.reduceEqDiff] | ((first | refine vm_reg (fun K hK => ?_) | refine vm_dreg (fun K hK => ?_)); simp (disch := (first | omega | assumption)) only [initS, initE, Sw, Sx, Sb, pure_s2b, ↓reduceIte, Nat.reduceEqDiff, Nat.reduceAdd, Nat.reduceMul, Nat.reduceDiv, AOp.sb, AOp.mut, ↓Bool.false_eq_true, beq_self_eq_true, ite_self, decide_eq_true_eq, decide_true, decide_false, Nat.reduceLeDiff, c0, c1, c2, c3, c13, Int.cast_ofNat_Int, Int.reduceEq, Int.reduceSub, Int.reduceAdd, Int.reduceNeg, Int.reduceLT, Int.reduceLE, Nat.reduceLT, W_len, D_len, Bl_len, Nat.div_one, Nat.mul_one, tn_nat, W_nf, D_nf, Bl_nf, W_nil, D_nil, Bl_nil, wi, nv_dgB, chk_of, h1, h2])
      simp (disch := (first | omega | assumption)) only [retOk, retN, ret1, V.okArg, and_true, true_and, initS, initE, Sw, Sx, Sb, pure_s2b, ↓reduceIte, Nat.reduceEqDiff, Nat.reduceAdd, Nat.reduceMul, Nat.reduceDiv, AOp.sb, AOp.mut, ↓Bool.false_eq_true, beq_self_eq_true, ite_self, decide_eq_true_eq, decide_true, decide_false, Nat.reduceLeDiff, c0, c1, c2, c3, c13, Int.cast_ofNat_Int, Int.reduceEq, Int.reduceSub, Int.reduceAdd, Int.reduceNeg, Int.reduceLT, Int.reduceLE, Nat.reduceLT, W_len, D_len, Bl_len, Nat.div_one, Nat.mul_one, tn_nat, W_nf, D_nf, Bl_nf, W_nil, D_nil, Bl_nil, wi, nv_dgB, chk_of, h1, h2]
    · rw [show shlR (nv B a) n = (dg B (nv B a * 2 ^ n.toNat), 0) from if_neg (by omega)]
      obtain ⟨k, rfl⟩ : ∃ k : Nat, n = (k : Int) := ⟨n.toNat, by omega⟩
      rw [show ((k : Nat) : Int).toNat = k from rfl]
      have hl := dg2_len ha
      have hr := row_spec a ha (by omega)
      have hb : Lt 2 (dg 2 (nv B a)) := dg_Lt (by decide) _
      have hv : nv 2 (dg 2 (nv B a)) = nv B a := nv_dg (by decide) _
      generalize dg 2 (nv B a) = row at hl hr hb hv
      by_cases h0 : (row.length : Int) = 0
      · have hn : row = [] := List.eq_nil_of_length_eq_zero (by omega)
        have e : dg B (nv B a * 2 ^ k) = [] := by rw [← hv, hn]; simp [nv, dg_zero]
        repeat first | (refine hK _ ?_; clear hK K) | simp only [Sv, ↓reduceIte, Nat.reduceEqDiff] | ((first | refine vm_reg (fun K hK => ?_) | refine vm_dreg (fun K hK => ?_)); simp (disch := (first | omega | assumption)) only [initS, initE, Sw, Sx, Sb, pure_s2b, ↓reduceIte, Nat.reduceEqDiff, Nat.reduceAdd, Nat.reduceMul, Nat.reduceDiv, AOp.sb, AOp.mut, ↓Bool.false_eq_true, beq_self_eq_true, ite_self, decide_eq_true_eq, decide_true, decide_false, Nat.reduceLeDiff, c0, c1, c2, c3, c13, Int.cast_ofNat_Int, Int.reduceEq, Int.reduceSub, Int.reduceAdd, Int.reduceNeg, Int.reduceLT, Int.reduceLE, Nat.reduceLT, W_len, D_len, Bl_len, Nat.div_one, Nat.mul_one, tn_nat, W_nf, D_nf, Bl_nf, W_nil, D_nil, Bl_nil, wi, nv_dgB, chk_of, h1, h2])
        refine clp_of _ _ (hr) ?_ ?_
        · first | rfl | (simp (disch := (first | omega | assumption)) only [initS, initE, Sw, Sx, Sb, pure_s2b, ↓reduceIte, Nat.reduceEqDiff, Nat.reduceAdd, Nat.reduceMul, Nat.reduceDiv, AOp.sb, AOp.mut, ↓Bool.false_eq_true, beq_self_eq_true, ite_self, decide_eq_true_eq, decide_true, decide_false, Nat.reduceLeDiff, c0, c1, c2, c3, c13, Int.cast_ofNat_Int, Int.reduceEq, Int.reduceSub, Int.reduceAdd, Int.reduceNeg, Int.reduceLT, Int.reduceLE, Nat.reduceLT, W_len, D_len, Bl_len, Nat.div_one, Nat.mul_one, tn_nat, W_nf, D_nf, Bl_nf, W_nil, D_nil, Bl_nil, wi, nv_dgB, chk_of, h1, h2])
        simp (disch := (first | omega | assumption)) only [initS, initE, Sw, Sx, Sb, pure_s2b, ↓reduceIte, Nat.reduceEqDiff, Nat.reduceAdd, Nat.reduceMul, Nat.reduceDiv, AOp.sb, AOp.mut, ↓Bool.false_eq_true, beq_self_eq_true, ite_self, decide_eq_true_eq, decide_true, decide_false, Nat.reduceLeDiff, c0, c1, c2, c3, c13, Int.cast_ofNat_Int, Int.reduceEq, Int.reduceSub, Int.reduceAdd, Int.reduceNeg, Int.reduceLT, Int.reduceLE, Nat.reduceLT, W_len, D_len, Bl_len, Nat.div_one, Nat.mul_one, tn_nat, W_nf, D_nf, Bl_nf, W_nil, D_nil, Bl_nil, wi, nv_dgB, chk_of, h1, h2]
        repeat first | (refine hK _ ?_; clear hK K) | simp only [Sv, ↓reduceIte, Nat.reduceEqDiff] | ((first | refine vm_reg (fun K hK => ?_) | refine vm_dreg (fun K hK => ?_)); simp (disch := (first | omega | assumption)) only [initS, initE, Sw, Sx, Sb, pure_s2b, ↓reduceIte, Nat.reduceEqDiff, Nat.reduceAdd, Nat.reduceMul, Nat.reduceDiv, AOp.sb, AOp.mut, ↓Bool.false_eq_true, beq_self_eq_true, ite_self, decide_eq_true_eq, decide_true, decide_false, Nat.reduceLeDiff, c0, c1, c2, c3, c13, Int.cast_ofNat_Int, Int.reduceEq, Int.reduceSub, Int.reduceAdd, Int.reduceNeg, Int.reduceLT, Int.reduceLE, Nat.reduceLT, W_len, D_len, Bl_len, Nat.div_one, Nat.mul_one, tn_nat, W_nf, D_nf, Bl_nf, W_nil, D_nil, Bl_nil, wi, nv_dgB, chk_of, h0, e])
        simp (disch := (first | omega | assumption)) only [retOk, retN, ret1, V.okArg, and_true, true_and, initS, initE, Sw, Sx, Sb, pure_s2b, ↓reduceIte, Nat.reduceEqDiff, Nat.reduceAdd, Nat.reduceMul, Nat.reduceDiv, AOp.sb, AOp.mut, ↓Bool.false_eq_true, beq_self_eq_true, ite_self, decide_eq_true_eq, decide_true, decide_false, Nat.reduceLeDiff, c0, c1, c2, c3, c13, Int.cast_ofNat_Int, Int.reduceEq, Int.reduceSub, Int.reduceAdd, Int.reduceNeg, Int.reduceLT, Int.reduceLE, Nat.reduceLT, W_len, D_len, Bl_len, Nat.div_one, Nat.mul_one, tn_nat, W_nf, D_nf, Bl_nf, W_nil, D_nil, Bl_nil, wi, nv_dgB, chk_of, h0, e]
      · have e : nv 2 (List.replicate k 0 ++ row) = nv B a * 2 ^ k := by rw [nv_app, nv_rep, List.length_replicate, hv, Nat.zero_add, Nat.mul_comm]
        have lrep : (List.replicate k 0).length = k := by simp
        repeat first | (refine hK _ ?_; clear hK K) | simp only [Sv, ↓reduceIte, Nat.reduceEqDiff] | ((first | refine vm_reg (fun K hK => ?_) | refine vm_dreg (fun K hK => ?_)); simp (disch := (first | omega | assumption)) only [initS, initE, Sw, Sx, Sb, pure_s2b, ↓reduceIte, Nat.reduceEqDiff, Nat.reduceAdd, Nat.reduceMul, Nat.reduceDiv, AOp.sb, AOp.mut, ↓Bool.false_eq_true, beq_self_eq_true, ite_self, decide_eq_true_eq, decide_true, decide_false, Nat.reduceLeDiff, c0, c1, c2, c3, c13, Int.cast_ofNat_Int, Int.reduceEq, Int.reduceSub, Int.reduceAdd, Int.reduceNeg, Int.reduceLT, Int.reduceLE, Nat.reduceLT, W_len, D_len, Bl_len, Nat.div_one, Nat.mul_one, tn_nat, W_nf, D_nf, Bl_nf, W_nil, D_nil, Bl_nil, wi, nv_dgB, chk_of, h1, h2])
        refine clp_of _ _ (hr) ?_ ?_
        · first | rfl | (simp (disch := (first | omega | assumption)) only [initS, initE, Sw, Sx, Sb, pure_s2b, ↓reduceIte, Nat.reduceEqDiff, Nat.reduceAdd, Nat.reduceMul, Nat.reduceDiv, AOp.sb, AOp.mut, ↓Bool.false_eq_true, beq_self_eq_true, ite_self, decide_eq_true_eq, decide_true, decide_false, Nat.reduceLeDiff, c0, c1, c2, c3, c13, Int.cast_ofNat_Int, Int.reduceEq, Int.reduceSub, Int.reduceAdd, Int.reduceNeg, Int.reduceLT, Int.reduceLE, Nat.reduceLT, W_len, D_len, Bl_len, Nat.div_one, Nat.mul_one, tn_nat, W_nf, D_nf, Bl_nf, W_nil, D_nil, Bl_nil, wi, nv_dgB, chk_of, h1, h2])
        simp (disch := (first | omega | assumption)) only [initS, initE, Sw, Sx, Sb, pure_s2b, ↓reduceIte, Nat.reduceEqDiff, Nat.reduceAdd, Nat.reduceMul, Nat.reduceDiv, AOp.sb, AOp.mut, ↓Bool.false_eq_true, beq_self_eq_true, ite_self, decide_eq_true_eq, decide_true, decide_false, Nat.reduceLeDiff, c0, c1, c2, c3, c13, Int.cast_ofNat_Int, Int.reduceEq, Int.reduceSub, Int.reduceAdd, Int.reduceNeg, Int.reduceLT, Int.reduceLE, Nat.reduceLT, W_len, D_len, Bl_len, Nat.div_one, Nat.mul_one, tn_nat, W_nf, D_nf, Bl_nf, W_nil, D_nil, Bl_nil, wi, nv_dgB, chk_of, h1, h2]
        repeat first | (refine hK _ ?_; clear hK K) | simp only [Sv, ↓reduceIte, Nat.reduceEqDiff] | ((first | refine vm_reg (fun K hK => ?_) | refine vm_dreg (fun K hK => ?_)); simp (disch := (first | omega | assumption)) only [initS, initE, Sw, Sx, Sb, pure_s2b, ↓reduceIte, Nat.reduceEqDiff, Nat.reduceAdd, Nat.reduceMul, Nat.reduceDiv, AOp.sb, AOp.mut, ↓Bool.false_eq_true, beq_self_eq_true, ite_self, decide_eq_true_eq, decide_true, decide_false, Nat.reduceLeDiff, c0, c1, c2, c3, c13, Int.cast_ofNat_Int, Int.reduceEq, Int.reduceSub, Int.reduceAdd, Int.reduceNeg, Int.reduceLT, Int.reduceLE, Nat.reduceLT, W_len, D_len, Bl_len, Nat.div_one, Nat.mul_one, tn_nat, W_nf, D_nf, Bl_nf, W_nil, D_nil, Bl_nil, wi, nv_dgB, chk_of, h0, mk_Bl, lrep, Bl_app, Bl_cell, e])
        refine clp_of _ _ (ofRow_spec (List.replicate k 0 ++ row) (Lt_app.2 ⟨Lt_rep (by decide), hb⟩) (by rw [List.length_append, lrep]; omega)) ?_ ?_
        · first | rfl | (simp (disch := (first | omega | assumption)) only [initS, initE, Sw, Sx, Sb, pure_s2b, ↓reduceIte, Nat.reduceEqDiff, Nat.reduceAdd, Nat.reduceMul, Nat.reduceDiv, AOp.sb, AOp.mut, ↓Bool.false_eq_true, beq_self_eq_true, ite_self, decide_eq_true_eq, decide_true, decide_false, Nat.reduceLeDiff, c0, c1, c2, c3, c13, Int.cast_ofNat_Int, Int.reduceEq, Int.reduceSub, Int.reduceAdd, Int.reduceNeg, Int.reduceLT, Int.reduceLE, Nat.reduceLT, W_len, D_len, Bl_len, Nat.div_one, Nat.mul_one, tn_nat, W_nf, D_nf, Bl_nf, W_nil, D_nil, Bl_nil, wi, nv_dgB, chk_of, h0, mk_Bl, lrep, Bl_app, Bl_cell, e])
        simp (disch := (first | omega | assumption)) only [initS, initE, Sw, Sx, Sb, pure_s2b, ↓reduceIte, Nat.reduceEqDiff, Nat.reduceAdd, Nat.reduceMul, Nat.reduceDiv, AOp.sb, AOp.mut, ↓Bool.false_eq_true, beq_self_eq_true, ite_self, decide_eq_true_eq, decide_true, decide_false, Nat.reduceLeDiff, c0, c1, c2, c3, c13, Int.cast_ofNat_Int, Int.reduceEq, Int.reduceSub, Int.reduceAdd, Int.reduceNeg, Int.reduceLT, Int.reduceLE, Nat.reduceLT, W_len, D_len, Bl_len, Nat.div_one, Nat.mul_one, tn_nat, W_nf, D_nf, Bl_nf, W_nil, D_nil, Bl_nil, wi, nv_dgB, chk_of, h0, mk_Bl, lrep, Bl_app, Bl_cell, e]
        repeat first | (refine hK _ ?_; clear hK K) | simp only [Sv, ↓reduceIte, Nat.reduceEqDiff] | ((first | refine vm_reg (fun K hK => ?_) | refine vm_dreg (fun K hK => ?_)); simp (disch := (first | omega | assumption)) only [initS, initE, Sw, Sx, Sb, pure_s2b, ↓reduceIte, Nat.reduceEqDiff, Nat.reduceAdd, Nat.reduceMul, Nat.reduceDiv, AOp.sb, AOp.mut, ↓Bool.false_eq_true, beq_self_eq_true, ite_self, decide_eq_true_eq, decide_true, decide_false, Nat.reduceLeDiff, c0, c1, c2, c3, c13, Int.cast_ofNat_Int, Int.reduceEq, Int.reduceSub, Int.reduceAdd, Int.reduceNeg, Int.reduceLT, Int.reduceLE, Nat.reduceLT, W_len, D_len, Bl_len, Nat.div_one, Nat.mul_one, tn_nat, W_nf, D_nf, Bl_nf, W_nil, D_nil, Bl_nil, wi, nv_dgB, chk_of])
        simp (disch := (first | omega | assumption)) only [retOk, retN, ret1, V.okArg, and_true, true_and, initS, initE, Sw, Sx, Sb, pure_s2b, ↓reduceIte, Nat.reduceEqDiff, Nat.reduceAdd, Nat.reduceMul, Nat.reduceDiv, AOp.sb, AOp.mut, ↓Bool.false_eq_true, beq_self_eq_true, ite_self, decide_eq_true_eq, decide_true, decide_false, Nat.reduceLeDiff, c0, c1, c2, c3, c13, Int.cast_ofNat_Int, Int.reduceEq, Int.reduceSub, Int.reduceAdd, Int.reduceNeg, Int.reduceLT, Int.reduceLE, Nat.reduceLT, W_len, D_len, Bl_len, Nat.div_one, Nat.mul_one, tn_nat, W_nf, D_nf, Bl_nf, W_nil, D_nil, Bl_nil, wi, nv_dgB, chk_of]

-- surd/surdref02.Cut
def a25 : AC := .seq (.reg [⟨some 4, none, .mv (.k .nl)⟩, 
      ⟨some 5, none, .mv (.k .nl)⟩, 
      ⟨some 6, none, .mv (.k (.i .i64 0))⟩])
  (.seq (.seq (.reg [⟨some 8, none, .mv (.t 1)⟩, 
        ⟨some 9, none, .bin .lss (.t 8) (.k (.i .i64 0))⟩])
    (.cond (.t 9)
    (.seq (.reg [⟨some 4, none, .mv (.k .nl)⟩, 
          ⟨some 5, none, .mv (.k .nl)⟩, 
          ⟨some 6, none, .mv (.k (.i .i64 3))⟩])
      (.ret))
    (.skip)))
  (.seq (.reg [⟨some 10, none, .mv (.t 0)⟩, 
      ⟨some 11, none, .call 47 [(1, (.t 10))]⟩, 
      ⟨some 7, none, .mv (.t 11)⟩])
  (.seq (.reg [⟨some 12, none, .mv (.t 1)⟩, 
      ⟨some 13, none, .mv (.t 7)⟩, 
      ⟨some 14, none, .len (.t 13)⟩, 
      ⟨some 15, none, .mm false (.t 12) (.t 14)⟩, 
      ⟨some 1, none, .mv (.t 15)⟩])
  (.seq (.dreg [⟨some 16, none, .mv (.t 7)⟩, 
      ⟨some 17, none, .mv (.t 1)⟩, 
      ⟨some 18, none, .sub 1 (.t 16) (some (.t 17)) none⟩, 
      ⟨some 19, none, .call 48 [(1, (.t 18))]⟩, 
      ⟨some 20, none, .mv (.t 7)⟩, 
      ⟨some 21, none, .mv (.t 1)⟩, 
      ⟨some 22, none, .sub 1 (.t 20) none (some (.t 21))⟩, 
      ⟨some 23, none, .call 48 [(1, (.t 22))]⟩, 
      ⟨some 4, none, .mv (.t 19)⟩, 
      ⟨some 5, none, .mv (.t 23)⟩, 
      ⟨some 6, none, .mv (.k (.i .i64 0))⟩])
  (.ret)))))
theorem rcut_spec (a : List Nat) (n : Int) (ha : Wd a) (la : a.length ≤ 1000000000) (hn : n < 9223372036854775808) : AFun Try.prog J0 25 [.l 1 (W a), .i .i64 n] (.t [.l 1 (W (shrR (nv B a) n).1), .l 1 (W (lowR (nv B a) n)), .i .i64 (shrR (nv B a) n).2]) := by
  refine AFun.mk fol J0s Try.func25 rfl (ac := a25) (by kernel_rfl) rfl rfl ?_
  apply vm_start
  unfold a25
  by_cases h1 : n < 0
  · have e : shrR (nv B a) n = ([], 3) := if_pos h1
    have e2 : lowR (nv B a) n = [] := if_pos h1
    rw [e, e2]
    repeat first | (refine hK _ ?_; clear hK K) | simp only [Sv, ↓reduceIte, Nat.reduceEqDiff] | ((first | refine vm_reg (fun K hK => ?_) | refine vm_dreg (fun K hK => ?_)); simp (disch := (first | omega | assumption)) only [initS, initE, Sw, Sx, Sb, pure_s2b, ↓reduceIte, Nat.reduceEqDiff, Nat.reduceAdd, Nat.reduceMul, Nat.reduceDiv, AOp.sb, AOp.mut, ↓Bool.false_eq_true, beq_self_eq_true, ite_self, decide_eq_true_eq, decide_true, decide_false, Nat.reduceLeDiff, c0, c1, c2, c3, c13, Int.cast_ofNat_Int, Int.reduceEq, Int.reduceSub, Int.reduceAdd, Int.reduceNeg, Int.reduceLT, Int.reduceLE, Nat.reduceLT, W_len, D_len, Bl_len, Nat.div_one, Nat.mul_one, tn_nat, W_nf, D_nf, Bl_nf, W_nil, D_nil, Bl_nil, wi, nv_dgB, chk_of, h1])
    simp (disch := (first | omega | assumption)) only [retOk, retN, ret1, V.okArg, and_true, true_and, initS, initE, Sw, Sx, Sb, pure_s2b, ↓reduceIte, Nat.reduceEqDiff, Nat.reduceAdd, Nat.reduceMul, Nat.reduceDiv, AOp.sb, AOp.mut, ↓Bool.false_eq_true, beq_self_eq_true, ite_self, decide_eq_true_eq, decide_true, decide_false, Nat.reduceLeDiff, c0, c1, c2, c3, c13, Int.cast_ofNat_Int, Int.reduceEq, Int.reduceSub, Int.reduceAdd, Int.reduceNeg, Int.reduceLT, Int.reduceLE, Nat.reduceLT, W_len, D_len, Bl_len, Nat.div_one, Nat.mul_one, tn_nat, W_nf, D_nf, Bl_nf, W_nil, D_nil, Bl_nil, wi, nv_dgB, chk_of, h1]
  · have e : shrR (nv B a) n = (dg B (nv B a / 2 ^ n.toNat), 0) := if_neg h1
    have e2 : lowR (nv B a) n = dg B (nv B a % 2 ^ n.toNat) := if_neg h1
    rw [e, e2]
    obtain ⟨k, rfl⟩ : ∃ k : Nat, n = (k : Int) := ⟨n.toNat, by omega⟩
    rw [show ((k : Nat) : Int).toNat = k from rfl]
    have hl := dg2_len ha
    have hr := row_spec a ha (by omega)
    have hb : Lt 2 (dg 2 (nv B a)) := dg_Lt (by decide) _
    have hv : nv 2 (dg 2 (nv B a)) = nv B a := nv_dg (by decide) _
    generalize dg 2 (nv B a) = row at hl hr hb hv
    have hvl := nv_lt hb
    have f1 : nv 2 (row.drop (min k row.length)) = nv B a / 2 ^ k := by
      rw [← hv]
      rcases Nat.le_total k row.length with h | h
      · rw [Nat.min_eq_left h, nv_div (by decide) hb]
      · rw [Nat.min_eq_right h, List.drop_length, Nat.div_eq_of_lt (Nat.lt_of_lt_of_le hvl (Nat.pow_le_pow_right (by decide) h))]; rfl
    have f2 : nv 2 (row.take (min k row.length)) = nv B a % 2 ^ k := by
      rw [← hv]
      rcases Nat.le_total k row.length with h | h
      · rw [Nat.min_eq_left h, nv_mod (by decide) hb]
      · rw [Nat.min_eq_right h, List.take_length, Nat.mod_eq_of_lt (Nat.lt_of_lt_of_le hvl (Nat.pow_le_pow_right (by decide) h))]
    have hml : min k row.length ≤ row.length := Nat.min_le_right _ _
    generalize hm : min k row.length = m at f1 f2 hml
    repeat first | (refine hK _ ?_; clear hK K) | simp only [Sv, ↓reduceIte, Nat.reduceEqDiff] | ((first | refine vm_reg (fun K hK => ?_) | refine vm_dreg (fun K hK => ?_)); simp (disch := (first | omega | assumption)) only [initS, initE, Sw, Sx, Sb, pure_s2b, ↓reduceIte, Nat.reduceEqDiff, Nat.reduceAdd, Nat.reduceMul, Nat.reduceDiv, AOp.sb, AOp.mut, ↓Bool.false_eq_true, beq_self_eq_true, ite_self, decide_eq_true_eq, decide_true, decide_false, Nat.reduceLeDiff, c0, c1, c2, c3, c13, Int.cast_ofNat_Int, Int.reduceEq, Int.reduceSub, Int.reduceAdd, Int.reduceNeg, Int.reduceLT, Int.reduceLE, Nat.reduceLT, W_len, D_len, Bl_len, Nat.div_one, Nat.mul_one, tn_nat, W_nf, D_nf, Bl_nf, W_nil, D_nil, Bl_nil, wi, nv_dgB, chk_of, h1])
    refine clp_of _ _ (hr) ?_ ?_
    · first | rfl | (simp (disch := (first | omega | assumption)) only [initS, initE, Sw, Sx, Sb, pure_s2b, ↓reduceIte, Nat.reduceEqDiff, Nat.reduceAdd, Nat.reduceMul, Nat.reduceDiv, AOp.sb, AOp.mut, ↓Bool.false_eq_true, beq_self_eq_true, ite_self, decide_eq_true_eq, decide_true, decide_false, Nat.reduceLeDiff, c0, c1, c2, c3, c13, Int.cast_ofNat_Int, Int.reduceEq, Int.reduceSub, Int.reduceAdd, Int.reduceNeg, Int.reduceLT, Int.reduceLE, Nat.reduceLT, W_len, D_len, Bl_len, Nat.div_one, Nat.mul_one, tn_nat, W_nf, D_nf, Bl_nf, W_nil, D_nil, Bl_nil, wi, nv_dgB, chk_of, h1])
    simp (disch := (first | omega | assumption)) only [initS, initE, Sw, Sx, Sb, pure_s2b, ↓reduceIte, Nat.reduceEqDiff, Nat.reduceAdd, Nat.reduceMul, Nat.reduceDiv, AOp.sb, AOp.mut, ↓Bool.false_eq_true, beq_self_eq_true, ite_self, decide_eq_true_eq, decide_true, decide_false, Nat.reduceLeDiff, c0, c1, c2, c3, c13, Int.cast_ofNat_Int, Int.reduceEq, Int.reduceSub, Int.reduceAdd, Int.reduceNeg, Int.reduceLT, Int.reduceLE, Nat.reduceLT, W_len, D_len, Bl_len, Nat.div_one, Nat.mul_one, tn_nat, W_nf, D_nf, Bl_nf, W_nil, D_nil, Bl_nil, wi, nv_dgB, chk_of, h1]
    repeat first | (refine hK _ ?_; clear hK K) | simp only [Sv, ↓reduceIte, Nat.reduceEqDiff] | ((first | refine vm_reg (fun K hK => ?_) | refine vm_dreg (fun K hK => ?_)); simp (disch := (first | omega | assumption)) only [initS, initE, Sw, Sx, Sb, pure_s2b, ↓reduceIte, Nat.reduceEqDiff, Nat.reduceAdd, Nat.reduceMul, Nat.reduceDiv, AOp.sb, AOp.mut, ↓Bool.false_eq_true, beq_self_eq_true, ite_self, decide_eq_true_eq, decide_true, decide_false, Nat.reduceLeDiff, c0, c1, c2, c3, c13, Int.cast_ofNat_Int, Int.reduceEq, Int.reduceSub, Int.reduceAdd, Int.reduceNeg, Int.reduceLT, Int.reduceLE, Nat.reduceLT, W_len, D_len, Bl_len, Nat.div_one, Nat.mul_one, tn_nat, W_nf, D_nf, Bl_nf, W_nil, D_nil, Bl_nil, wi, nv_dgB, chk_of, mn, hm, Bl_drop, f1])
    refine clp_of _ _ (ofRow_spec (row.drop m) (Lt_drop hb _) (by rw [List.length_drop]; omega)) ?_ ?_
    · first | rfl | (simp (disch := (first | omega | assumption)) only [initS, initE, Sw, Sx, Sb, pure_s2b, ↓reduceIte, Nat.reduceEqDiff, Nat.reduceAdd, Nat.reduceMul, Nat.reduceDiv, AOp.sb, AOp.mut, ↓Bool.false_eq_true, beq_self_eq_true, ite_self, decide_eq_true_eq, decide_true, decide_false, Nat.reduceLeDiff, c0, c1, c2, c3, c13, Int.cast_ofNat_Int, Int.reduceEq, Int.reduceSub, Int.reduceAdd, Int.reduceNeg, Int.reduceLT, Int.reduceLE, Nat.reduceLT, W_len, D_len, Bl_len, Nat.div_one, Nat.mul_one, tn_nat, W_nf, D_nf, Bl_nf, W_nil, D_nil, Bl_nil, wi, nv_dgB, chk_of, mn, hm, Bl_drop, f1])
    simp (disch := (first | omega | assumption)) only [initS, initE, Sw, Sx, Sb, pure_s2b, ↓reduceIte, Nat.reduceEqDiff, Nat.reduceAdd, Nat.reduceMul, Nat.reduceDiv, AOp.sb, AOp.mut, ↓Bool.false_eq_true, beq_self_eq_true, ite_self, decide_eq_true_eq, decide_true, decide_false, Nat.reduceLeDiff, c0, c1, c2, c3, c13, Int.cast_ofNat_Int, Int.reduceEq, Int.reduceSub, Int.reduceAdd, Int.reduceNeg, Int.reduceLT, Int.reduceLE, Nat.reduceLT, W_len, D_len, Bl_len, Nat.div_one, Nat.mul_one, tn_nat, W_nf, D_nf, Bl_nf, W_nil, D_nil, Bl_nil, wi, nv_dgB, chk_of, mn, hm, Bl_drop, f1]
    repeat first | (refine hK _ ?_; clear hK K) | simp only [Sv, ↓reduceIte, Nat.reduceEqDiff] | ((first | refine vm_reg (fun K hK => ?_) | refine vm_dreg (fun K hK => ?_)); simp (disch := (first | omega | assumption)) only [initS, initE, Sw, Sx, Sb, pure_s2b, ↓reduceIte, Nat.reduceEqDiff, Nat.reduceAdd, Nat.reduceMul, Nat.reduceDiv, AOp.sb, AOp.mut, ↓Bool.false_eq_true, beq_self_eq_true, ite_self, decide_eq_true_eq, decide_true, decide_false, Nat.reduceLeDiff, c0, c1, c2, c3, c13, Int.cast_ofNat_Int, Int.reduceEq, Int.reduceSub, Int.reduceAdd, Int.reduceNeg, Int.reduceLT, Int.reduceLE, Nat.reduceLT, W_len, D_len, Bl_len, Nat.div_one, Nat.mul_one, tn_nat, W_nf, D_nf, Bl_nf, W_nil, D_nil, Bl_nil, wi, nv_dgB, chk_of, mn, hm, Bl_take, f2])
    refine clp_of _ _ (ofRow_spec (row.take m) (Lt_take hb _) (by rw [List.length_take]; omega)) ?_ ?_
    · first | rfl | (simp (disch := (first | omega | assumption)) only [initS, initE, Sw, Sx, Sb, pure_s2b, ↓reduceIte, Nat.reduceEqDiff, Nat.reduceAdd, Nat.reduceMul, Nat.reduceDiv, AOp.sb, AOp.mut, ↓Bool.false_eq_true, beq_self_eq_true, ite_self, decide_eq_true_eq, decide_true, decide_false, Nat.reduceLeDiff, c0, c1, c2, c3, c13, Int.cast_ofNat_Int, Int.reduceEq, Int.reduceSub, Int.reduceAdd, Int.reduceNeg, Int.reduceLT, Int.reduceLE, Nat.reduceLT, W_len, D_len, Bl_len, Nat.div_one, Nat.mul_one, tn_nat, W_nf, D_nf, Bl_nf, W_nil, D_nil, Bl_nil, wi, nv_dgB, chk_of, mn, hm, Bl_take, f2])
    simp (disch := (first | omega | assumption)) only [initS, initE, Sw, Sx, Sb, pure_s2b, ↓reduceIte, Nat.reduceEqDiff, Nat.reduceAdd, Nat.reduceMul, Nat.reduceDiv, AOp.sb, AOp.mut, ↓Bool.false_eq_true, beq_self_eq_true, ite_self, decide_eq_true_eq, decide_true, decide_false, Nat.reduceLeDiff, c0, c1, c2, c3, c13, Int.cast_ofNat_Int, Int.reduceEq, Int.reduceSub, Int.reduceAdd, Int.reduceNeg, Int.reduceLT, Int.reduceLE, Nat.reduceLT, W_len, D_len, Bl_len, Nat.div_one, Nat.mul_one, tn_nat, W_nf, D_nf, Bl_nf, W_nil, D_nil, Bl_nil, wi, nv_dgB, chk_of, mn, hm, Bl_take, f2]
    repeat first | (refine hK _ ?_; clear hK K) | simp only [Sv, ↓reduceIte, Nat.reduceEqDiff] | ((first | refine vm_reg (fun K hK => ?_) | refine vm_dreg (fun K hK => ?_)); simp (disch := (first | omega | assumption)) only [initS, initE, Sw, Sx, Sb, pure_s2b, ↓reduceIte, Nat.reduceEqDiff, Nat.reduceAdd, Nat.reduceMul, Nat.reduceDiv, AOp.sb, AOp.mut, ↓Bool.false_eq_true, beq_self_eq_true, ite_self, decide_eq_true_eq, decide_true, decide_false, Nat.reduceLeDiff, c0, c1, c2, c3, c13, Int.cast_ofNat_Int, Int.reduceEq, Int.reduceSub, Int.reduceAdd, Int.reduceNeg, Int.reduceLT, Int.reduceLE, Nat.reduceLT, W_len, D_len, Bl_len, Nat.div_one, Nat.mul_one, tn_nat, W_nf, D_nf, Bl_nf, W_nil, D_nil, Bl_nil, wi, nv_dgB, chk_of])
    simp (disch := (first | omega | assumption)) only [retOk, retN, ret1, V.okArg, and_true, true_and, initS, initE, Sw, Sx, Sb, pure_s2b, ↓reduceIte, Nat.reduceEqDiff, Nat.reduceAdd, Nat.reduceMul, Nat.reduceDiv, AOp.sb, AOp.mut, ↓Bool.false_eq_true, beq_self_eq_true, ite_self, decide_eq_true_eq, decide_true, decide_false, Nat.reduceLeDiff, c0, c1, c2, c3, c13, Int.cast_ofNat_Int, Int.reduceEq, Int.reduceSub, Int.reduceAdd, Int.reduceNeg, Int.reduceLT, Int.reduceLE, Nat.reduceLT, W_len, D_len, Bl_len, Nat.div_one, Nat.mul_one, tn_nat, W_nf, D_nf, Bl_nf, W_nil, D_nil, Bl_nil, wi, nv_dgB, chk_of]

-- surd/surdref02.Shr
def a23 : AC := .seq (.reg [⟨some 4, none, .mv (.k .nl)⟩, 
      ⟨some 5, none, .mv (.k (.i .i64 0))⟩])
  (.seq (.reg [⟨some 10, none, .mv (.t 0)⟩, 
      ⟨some 11, none, .mv (.t 1)⟩, 
      ⟨some 12, none, .call 25 [(1, (.t 10)), (1, (.t 11))]⟩, 
      ⟨some 9, none, .mv (.t 12)⟩, 
      ⟨some 13, none, .ext (.t 9) 0⟩, 
      ⟨some 14, none, .ext (.t 9) 1⟩, 
      ⟨some 15, none, .ext (.t 9) 2⟩, 
      ⟨some 6, none, .mv (.t 13)⟩, 
      ⟨some 7, none, .mv (.t 14)⟩, 
      ⟨some 8, none, .mv (.t 15)⟩])
  (.seq (.reg [⟨some 16, none, .mv (.t 6)⟩, 
      ⟨some 17, none, .mv (.t 8)⟩, 
      ⟨some 4, none, .mv (.t 16)⟩, 
      ⟨some 5, none, .mv (.t 17)⟩])
  (.ret)))
theorem rshr_spec (a : List Nat) (n : Int) (ha : Wd a) (la : a.length ≤ 1000000000) (hn : n < 9223372036854775808) : AFun Try.prog J0 23 [.l 1 (W a), .i .i64 n] (.t [.l 1 (W (shrR (nv B a) n).1), .i .i64 (shrR (nv B a) n).2]) := by
  refine AFun.mk fol J0s Try.func23 rfl (ac := a23) (by kernel_rfl) rfl rfl ?_
  apply vm_start
  unfold a23
  repeat first | (refine hK _ ?_; clear hK K) | simp only [Sv, ↓reduceIte, Nat.reduceEqDiff] | ((first | refine vm_reg (fun K hK => ?_) | refine vm_dreg (fun K hK => ?_)); simp (disch := (first | omega | assumption)) only [initS, initE, Sw, Sx, Sb, pure_s2b, ↓reduceIte, Nat.reduceEqDiff, Nat.reduceAdd, Nat.reduceMul, Nat.reduceDiv, AOp.sb, AOp.mut, ↓Bool.false_eq_true, beq_self_eq_true, ite_self, decide_eq_true_eq, decide_true, decide_false, Nat.reduceLeDiff, c0, c1, c2, c3, c13, Int.cast_ofNat_Int, Int.reduceEq, Int.reduceSub, Int.reduceAdd, Int.reduceNeg, Int.reduceLT, Int.reduceLE, Nat.reduceLT, W_len, D_len, Bl_len, Nat.div_one, Nat.mul_one, tn_nat, W_nf, D_nf, Bl_nf, W_nil, D_nil, Bl_nil, wi, nv_dgB, chk_of])
  refine clp_of _ _ (rcut_spec a n ha la hn) ?_ ?_
  · first | rfl | (simp (disch := (first | omega | assumption)) only [initS, initE, Sw, Sx, Sb, pure_s2b, ↓reduceIte, Nat.reduceEqDiff, Nat.reduceAdd, Nat.reduceMul, Nat.reduceDiv, AOp.sb, AOp.mut, ↓Bool.false_eq_true, beq_self_eq_true, ite_self, decide_eq_true_eq, decide_true, decide_false, Nat.reduceLeDiff, c0, c1, c2, c3, c13, Int.cast_ofNat_Int, Int.reduceEq, Int.reduceSub, Int.reduceAdd, Int.reduceNeg, Int.reduceLT, Int.reduceLE, Nat.reduceLT, W_len, D_len, Bl_len, Nat.div_one, Nat.mul_one, tn_nat, W_nf, D_nf, Bl_nf, W_nil, D_nil, Bl_nil, wi, nv_dgB, chk_of])
  simp (disch := (first | omega | assumption)) only [initS, initE, Sw, Sx, Sb, pure_s2b, ↓reduceIte, Nat.reduceEqDiff, Nat.reduceAdd, Nat.reduceMul, Nat.reduceDiv, AOp.sb, AOp.mut, ↓Bool.false_eq_true, beq_self_eq_true, ite_self, decide_eq_true_eq, decide_true, decide_false, Nat.reduceLeDiff, c0, c1, c2, c3, c13, Int.cast_ofNat_Int, Int.reduceEq, Int.reduceSub, Int.reduceAdd, Int.reduceNeg, Int.reduceLT, Int.reduceLE, Nat.reduceLT, W_len, D_len, Bl_len, Nat.div_one, Nat.mul_one, tn_nat, W_nf, D_nf, Bl_nf, W_nil, D_nil, Bl_nil, wi, nv_dgB, chk_of]
  repeat first | (refine hK _ ?_; clear hK K) | simp only [Sv, ↓reduceIte, Nat.reduceEqDiff] | ((first | refine vm_reg (fun K hK => ?_) | refine vm_dreg (fun K hK => ?_)); simp (disch := (first | omega | assumption)) only [initS, initE, Sw, Sx, Sb, pure_s2b, ↓reduceIte, Nat.reduceEqDiff, Nat.reduceAdd, Nat.reduceMul, Nat.reduceDiv, AOp.sb, AOp.mut, ↓Bool.false_eq_true, beq_self_eq_true, ite_self, decide_eq_true_eq, decide_true, decide_false, Nat.reduceLeDiff, c0, c1, c2, c3, c13, Int.cast_ofNat_Int, Int.reduceEq, Int.reduceSub, Int.reduceAdd, Int.reduceNeg, Int.reduceLT, Int.reduceLE, Nat.reduceLT, W_len, D_len, Bl_len, Nat.div_one, Nat.mul_one, tn_nat, W_nf, D_nf, Bl_nf, W_nil, D_nil, Bl_nil, wi, nv_dgB, chk_of])
  simp (disch := (first | omega | assumption)) only [retOk, retN, ret1, V.okArg, and_true, true_and, initS, initE, Sw, Sx, Sb, pure_s2b, ↓reduceIte, Nat.reduceEqDiff, Nat.reduceAdd, Nat.reduceMul, Nat.reduceDiv, AOp.sb, AOp.mut, ↓Bool.false_eq_true, beq_self_eq_true, ite_self, decide_eq_true_eq, decide_true, decide_false, Nat.reduceLeDiff, c0, c1, c2, c3, c13, Int.cast_ofNat_Int, Int.reduceEq, Int.reduceSub, Int.reduceAdd, Int.reduceNeg, Int.reduceLT, Int.reduceLE, Nat.reduceLT, W_len, D_len, Bl_len, Nat.div_one, Nat.mul_one, tn_nat, W_nf, D_nf, Bl_nf, W_nil, D_nil, Bl_nil, wi, nv_dgB, chk_of]

theorem shlR_len {a : List Nat} {m : Nat} (ha : Wd a) (la : a.length ≤ m) (n : Int) : (shlR (nv B a) n).1.length ≤ m + 16385 := by
  unfold shlR
  split
  · simp
  · rename_i h
    refine dlen ?_
    have h1 := nvlt ha la
    obtain ⟨q, hq⟩ : ∃ q, q = 16385 := ⟨_, rfl⟩
    have h2 : (2 : Nat) ^ n.toNat ≤ B ^ q := by rw [B64, ← Nat.pow_mul]; exact Nat.pow_le_pow_right (by decide) (by omega)
    rw [← hq, Nat.pow_add]
    exact Nat.lt_of_lt_of_le (Nat.mul_lt_mul_of_pos_right h1 (Nat.pow_pos (by decide))) (Nat.mul_le_mul_left _ h2)
theorem shrR_len {a : List Nat} {m : Nat} (ha : Wd a) (la : a.length ≤ m) (n : Int) : (shrR (nv B a) n).1.length ≤ m := by
  unfold shrR
  split
  · simp
  · exact dlen (Nat.lt_of_le_of_lt (Nat.div_le_self _ _) (nvlt ha la))
theorem lowR_len {a : List Nat} {m : Nat} (ha : Wd a) (la : a.length ≤ m) (n : Int) : (lowR (nv B a) n).length ≤ m := by
  unfold lowR
  split
  · simp
  · exact dlen (Nat.lt_of_le_of_lt (Nat.mod_le _ _) (nvlt ha la))

-- surd/surdlaw02.NatShifts
def a5 : AC := .seq (.reg [⟨some 4, none, .mv (.k (.b false))⟩])
  (.seq (.seq (.reg [⟨some 13, none, .call 9 []⟩, 
        ⟨some 14, none, .un .not (.t 13)⟩])
    (.cond (.t 14)
    (.seq (.reg [⟨some 4, none, .mv (.k (.b false))⟩])
      (.ret))
    (.skip)))
  (.seq (.reg [⟨some 16, none, .mv (.t 0)⟩, 
      ⟨some 17, none, .mv (.t 1)⟩, 
      ⟨some 18, none, .call 21 [(1, (.t 16)), (1, (.t 17))]⟩, 
      ⟨some 15, none, .mv (.t 18)⟩, 
      ⟨some 19, none, .ext (.t 15) 0⟩, 
      ⟨some 20, none, .ext (.t 15) 1⟩, 
      ⟨some 5, none, .mv (.t 19)⟩, 
      ⟨some 6, none, .mv (.t 20)⟩])
  (.seq (.reg [⟨some 22, none, .mv (.t 0)⟩, 
      ⟨some 23, none, .mv (.t 1)⟩, 
      ⟨some 24, none, .call 22 [(1, (.t 22)), (1, (.t 23))]⟩, 
      ⟨some 21, none, .mv (.t 24)⟩, 
      ⟨some 25, none, .ext (.t 21) 0⟩, 
      ⟨some 26, none, .ext (.t 21) 1⟩, 
      ⟨some 7, none, .mv (.t 25)⟩, 
      ⟨some 8, none, .mv (.t 26)⟩])
  (.seq (.seq (.reg [⟨some 27, none, .mv (.t 5)⟩, 
        ⟨some 28, none, .mv (.t 7)⟩, 
        ⟨some 29, none, .call 14 [(1, (.t 27)), (1, (.t 28))]⟩, 
        ⟨some 30, none, .un .not (.t 29)⟩, 
        ⟨some 31, none, .mv (.t 30)⟩, 
        ⟨some 32, some (31, false), .mv (.t 6)⟩, 
        ⟨some 33, some (31, false), .mv (.t 8)⟩, 
        ⟨some 34, some (31, false), .bin .neq (.t 32) (.t 33)⟩, 
        ⟨some 35, none, .pick (.t 31) (.k (.b true)) (.t 34)⟩])
    (.cond (.t 35)
    (.seq (.reg [⟨some 4, none, .mv (.k (.b false))⟩])
      (.ret))
    (.skip)))
  (.seq (.reg [⟨some 37, none, .mv (.t 0)⟩, 
      ⟨some 38, none, .mv (.t 1)⟩, 
      ⟨some 39, none, .call 23 [(1, (.t 37)), (1, (.t 38))]⟩, 
      ⟨some 36, none, .mv (.t 39)⟩, 
      ⟨some 40, none, .ext (.t 36) 0⟩, 
      ⟨some 41, none, .ext (.t 36) 1⟩, 
      ⟨some 5, none, .mv (.t 40)⟩, 
      ⟨some 6, none, .mv (.t 41)⟩])
  (.seq (.reg [⟨some 43, none, .mv (.t 0)⟩, 
      ⟨some 44, none, .mv (.t 1)⟩, 
      ⟨some 45, none, .call 24 [(1, (.t 43)), (1, (.t 44))]⟩, 
      ⟨some 42, none, .mv (.t 45)⟩, 
      ⟨some 46, none, .ext (.t 42) 0⟩, 
      ⟨some 47, none, .ext (.t 42) 1⟩, 
      ⟨some 7, none, .mv (.t 46)⟩, 
      ⟨some 8, none, .mv (.t 47)⟩])
  (.seq (.seq (.reg [⟨some 48, none, .mv (.t 5)⟩, 
        ⟨some 49, none, .mv (.t 7)⟩, 
        ⟨some 50, none, .call 14 [(1, (.t 48)), (1, (.t 49))]⟩, 
        ⟨some 51, none, .un .not (.t 50)⟩, 
        ⟨some 52, none, .mv (.t 51)⟩, 
        ⟨some 53, some (52, false), .mv (.t 6)⟩, 
        ⟨some 54, some (52, false), .mv (.t 8)⟩, 
        ⟨some 55, some (52, false), .bin .neq (.t 53) (.t 54)⟩, 
        ⟨some 56, none, .pick (.t 52) (.k (.b true)) (.t 55)⟩])
    (.cond (.t 56)
    (.seq (.reg [⟨some 4, none, .mv (.k (.b false))⟩])
      (.ret))
    (.skip)))
  (.seq (.reg [⟨some 58, none, .mv (.t 0)⟩, 
      ⟨some 59, none, .mv (.t 1)⟩, 
      ⟨some 60, none, .call 25 [(1, (.t 58)), (1, (.t 59))]⟩, 
      ⟨some 57, none, .mv (.t 60)⟩, 
      ⟨some 61, none, .ext (.t 57) 0⟩, 
      ⟨some 62, none, .ext (.t 57) 1⟩, 
      ⟨some 63, none, .ext (.t 57) 2⟩, 
      ⟨some 9, none, .mv (.t 61)⟩, 
      ⟨some 10, none, .mv (.t 62)⟩, 
      ⟨some 6, none, .mv (.t 63)⟩])
  (.seq (.reg [⟨some 65, none, .mv (.t 0)⟩, 
      ⟨some 66, none, .mv (.t 1)⟩, 
      ⟨some 67, none, .call 26 [(1, (.t 65)), (1, (.t 66))]⟩, 
      ⟨some 64, none, .mv (.t 67)⟩, 
      ⟨some 68, none, .ext (.t 64) 0⟩, 
      ⟨some 69, none, .ext (.t 64) 1⟩, 
      ⟨some 70, none, .ext (.t 64) 2⟩, 
      ⟨some 11, none, .mv (.t 68)⟩, 
      ⟨some 12, none, .mv (.t 69)⟩, 
      ⟨some 8, none, .mv (.t 70)⟩])
  (.seq (.reg [⟨some 71, none, .mv (.t 9)⟩, 
      ⟨some 72, none, .mv (.t 11)⟩, 
      ⟨some 73, none, .call 14 [(1, (.t 71)), (1, (.t 72))]⟩, 
      ⟨some 74, none, .mv (.t 73)⟩, 
      ⟨some 75, some (74, true), .mv (.t 10)⟩, 
      ⟨some 76, some (74, true), .mv (.t 12)⟩, 
      ⟨some 77, some (74, true), .call 14 [(1, (.t 75)), (1, (.t 76))]⟩, 
      ⟨some 78, none, .pick (.t 74) (.t 77) (.k (.b false))⟩, 
      ⟨some 79, none, .mv (.t 78)⟩, 
      ⟨some 80, some (79, true), .mv (.t 6)⟩, 
      ⟨some 81, some (79, true), .mv (.t 8)⟩, 
      ⟨some 82, some (79, true), .bin .eql (.t 80) (.t 81)⟩, 
      ⟨some 83, none, .pick (.t 79) (.t 82) (.k (.b false))⟩, 
      ⟨some 4, none, .mv (.t 83)⟩])
  (.ret)))))))))))
theorem natShifts_spec (a : List Nat) (n : Int) (m : Nat) (ha : Wd a) (la : a.length ≤ m) (hm : m ≤ 100000000) (hn : n < 9223372036854775808) : AFun Try.prog J0 5 [.l 1 (W a), .i .i64 n] (.b true) := by
  refine AFun.mk fol J0s Try.func5 rfl (ac := a5) (by kernel_rfl) rfl rfl ?_
  apply vm_start
  unfold a5
  have l1 := shlR_len ha la n
  have l2 := shrR_len ha la n
  have l3 := lowR_len ha la n
  have s1 := rshl_spec a n ha (by omega)
  have s2 := shl_spec a n ha (by omega)
  have s3 := rshr_spec a n ha (by omega) hn
  have s4 := shr_spec a n ha (by omega) hn
  have s5 := rcut_spec a n ha (by omega) hn
  have s6 := cut_spec a n ha (by omega) hn
  generalize shlR (nv B a) n = x at *
  generalize shrR (nv B a) n = y at *
  generalize lowR (nv B a) n = z at *
  repeat first | (refine hK _ ?_; clear hK K) | simp only [Sv, ↓reduceIte, Nat.reduceEqDiff] | ((first | refine vm_reg (fun K hK => ?_) | refine vm_dreg (fun K hK => ?_)); simp (disch := (first | omega | assumption)) only [initS, initE, Sw, Sx, Sb, pure_s2b, ↓reduceIte, Nat.reduceEqDiff, Nat.reduceAdd, Nat.reduceMul, Nat.reduceDiv, AOp.sb, AOp.mut, ↓Bool.false_eq_true, beq_self_eq_true, ite_self, decide_eq_true_eq, decide_true, decide_false, Nat.reduceLeDiff, c0, c1, c2, c3, c13, Int.cast_ofNat_Int, Int.reduceEq, Int.reduceSub, Int.reduceAdd, Int.reduceNeg, Int.reduceLT, Int.reduceLE, Nat.reduceLT, W_len, D_len, Bl_len, Nat.div_one, Nat.mul_one, tn_nat, W_nf, D_nf, Bl_nf, W_nil, D_nil, Bl_nil, wi, nv_dgB, chk_of])
  refine clp_of _ _ (known_spec) ?_ ?_
  · first | rfl | (simp (disch := (first | omega | assumption)) only [initS, initE, Sw, Sx, Sb, pure_s2b, ↓reduceIte, Nat.reduceEqDiff, Nat.reduceAdd, Nat.reduceMul, Nat.reduceDiv, AOp.sb, AOp.mut, ↓Bool.false_eq_true, beq_self_eq_true, ite_self, decide_eq_true_eq, decide_true, decide_false, Nat.reduceLeDiff, c0, c1, c2, c3, c13, Int.cast_ofNat_Int, Int.reduceEq, Int.reduceSub, Int.reduceAdd, Int.reduceNeg, Int.reduceLT, Int.reduceLE, Nat.reduceLT, W_len, D_len, Bl_len, Nat.div_one, Nat.mul_one, tn_nat, W_nf, D_nf, Bl_nf, W_nil, D_nil, Bl_nil, wi, nv_dgB, chk_of])
  simp (disch := (first | omega | assumption)) only [initS, initE, Sw, Sx, Sb, pure_s2b, ↓reduceIte, Nat.reduceEqDiff, Nat.reduceAdd, Nat.reduceMul, Nat.reduceDiv, AOp.sb, AOp.mut, ↓Bool.false_eq_true, beq_self_eq_true, ite_self, decide_eq_true_eq, decide_true, decide_false, Nat.reduceLeDiff, c0, c1, c2, c3, c13, Int.cast_ofNat_Int, Int.reduceEq, Int.reduceSub, Int.reduceAdd, Int.reduceNeg, Int.reduceLT, Int.reduceLE, Nat.reduceLT, W_len, D_len, Bl_len, Nat.div_one, Nat.mul_one, tn_nat, W_nf, D_nf, Bl_nf, W_nil, D_nil, Bl_nil, wi, nv_dgB, chk_of]
  repeat first | (refine hK _ ?_; clear hK K) | simp only [Sv, ↓reduceIte, Nat.reduceEqDiff] | ((first | refine vm_reg (fun K hK => ?_) | refine vm_dreg (fun K hK => ?_)); simp (disch := (first | omega | assumption)) only [initS, initE, Sw, Sx, Sb, pure_s2b, ↓reduceIte, Nat.reduceEqDiff, Nat.reduceAdd, Nat.reduceMul, Nat.reduceDiv, AOp.sb, AOp.mut, ↓Bool.false_eq_true, beq_self_eq_true, ite_self, decide_eq_true_eq, decide_true, decide_false, Nat.reduceLeDiff, c0, c1, c2, c3, c13, Int.cast_ofNat_Int, Int.reduceEq, Int.reduceSub, Int.reduceAdd, Int.reduceNeg, Int.reduceLT, Int.reduceLE, Nat.reduceLT, W_len, D_len, Bl_len, Nat.div_one, Nat.mul_one, tn_nat, W_nf, D_nf, Bl_nf, W_nil, D_nil, Bl_nil, wi, nv_dgB, chk_of])
  refine clp_of _ _ (s1) ?_ ?_
  · first | rfl | (simp (disch := (first | omega | assumption)) only [initS, initE, Sw, Sx, Sb, pure_s2b, ↓reduceIte, Nat.reduceEqDiff, Nat.reduceAdd, Nat.reduceMul, Nat.reduceDiv, AOp.sb, AOp.mut, ↓Bool.false_eq_true, beq_self_eq_true, ite_self, decide_eq_true_eq, decide_true, decide_false, Nat.reduceLeDiff, c0, c1, c2, c3, c13, Int.cast_ofNat_Int, Int.reduceEq, Int.reduceSub, Int.reduceAdd, Int.reduceNeg, Int.reduceLT, Int.reduceLE, Nat.reduceLT, W_len, D_len, Bl_len, Nat.div_one, Nat.mul_one, tn_nat, W_nf, D_nf, Bl_nf, W_nil, D_nil, Bl_nil, wi, nv_dgB, chk_of])
  simp (disch := (first | omega | assumption)) only [initS, initE, Sw, Sx, Sb, pure_s2b, ↓reduceIte, Nat.reduceEqDiff, Nat.reduceAdd, Nat.reduceMul, Nat.reduceDiv, AOp.sb, AOp.mut, ↓Bool.false_eq_true, beq_self_eq_true, ite_self, decide_eq_true_eq, decide_true, decide_false, Nat.reduceLeDiff, c0, c1, c2, c3, c13, Int.cast_ofNat_Int, Int.reduceEq, Int.reduceSub, Int.reduceAdd, Int.reduceNeg, Int.reduceLT, Int.reduceLE, Nat.reduceLT, W_len, D_len, Bl_len, Nat.div_one, Nat.mul_one, tn_nat, W_nf, D_nf, Bl_nf, W_nil, D_nil, Bl_nil, wi, nv_dgB, chk_of]
  repeat first | (refine hK _ ?_; clear hK K) | simp only [Sv, ↓reduceIte, Nat.reduceEqDiff] | ((first | refine vm_reg (fun K hK => ?_) | refine vm_dreg (fun K hK => ?_)); simp (disch := (first | omega | assumption)) only [initS, initE, Sw, Sx, Sb, pure_s2b, ↓reduceIte, Nat.reduceEqDiff, Nat.reduceAdd, Nat.reduceMul, Nat.reduceDiv, AOp.sb, AOp.mut, ↓Bool.false_eq_true, beq_self_eq_true, ite_self, decide_eq_true_eq, decide_true, decide_false, Nat.reduceLeDiff, c0, c1, c2, c3, c13, Int.cast_ofNat_Int, Int.reduceEq, Int.reduceSub, Int.reduceAdd, Int.reduceNeg, Int.reduceLT, Int.reduceLE, Nat.reduceLT, W_len, D_len, Bl_len, Nat.div_one, Nat.mul_one, tn_nat, W_nf, D_nf, Bl_nf, W_nil, D_nil, Bl_nil, wi, nv_dgB, chk_of])
  refine clp_of _ _ (s2) ?_ ?_
  · first | rfl | (simp (disch := (first | omega | assumption)) only [initS, initE, Sw, Sx, Sb, pure_s2b, ↓reduceIte, Nat.reduceEqDiff, Nat.reduceAdd, Nat.reduceMul, Nat.reduceDiv, AOp.sb, AOp.mut, ↓Bool.false_eq_true, beq_self_eq_true, ite_self, decide_eq_true_eq, decide_true, decide_false, Nat.reduceLeDiff, c0, c1, c2, c3, c13, Int.cast_ofNat_Int, Int.reduceEq, Int.reduceSub, Int.reduceAdd, Int.reduceNeg, Int.reduceLT, Int.reduceLE, Nat.reduceLT, W_len, D_len, Bl_len, Nat.div_one, Nat.mul_one, tn_nat, W_nf, D_nf, Bl_nf, W_nil, D_nil, Bl_nil, wi, nv_dgB, chk_of])
  simp (disch := (first | omega | assumption)) only [initS, initE, Sw, Sx, Sb, pure_s2b, ↓reduceIte, Nat.reduceEqDiff, Nat.reduceAdd, Nat.reduceMul, Nat.reduceDiv, AOp.sb, AOp.mut, ↓Bool.false_eq_true, beq_self_eq_true, ite_self, decide_eq_true_eq, decide_true, decide_false, Nat.reduceLeDiff, c0, c1, c2, c3, c13, Int.cast_ofNat_Int, Int.reduceEq, Int.reduceSub, Int.reduceAdd, Int.reduceNeg, Int.reduceLT, Int.reduceLE, Nat.reduceLT, W_len, D_len, Bl_len, Nat.div_one, Nat.mul_one, tn_nat, W_nf, D_nf, Bl_nf, W_nil, D_nil, Bl_nil, wi, nv_dgB, chk_of]
  repeat first | (refine hK _ ?_; clear hK K) | simp only [Sv, ↓reduceIte, Nat.reduceEqDiff] | ((first | refine vm_reg (fun K hK => ?_) | refine vm_dreg (fun K hK => ?_)); simp (disch := (first | omega | assumption)) only [initS, initE, Sw, Sx, Sb, pure_s2b, ↓reduceIte, Nat.reduceEqDiff, Nat.reduceAdd, Nat.reduceMul, Nat.reduceDiv, AOp.sb, AOp.mut, ↓Bool.false_eq_true, beq_self_eq_true, ite_self, decide_eq_true_eq, decide_true, decide_false, Nat.reduceLeDiff, c0, c1, c2, c3, c13, Int.cast_ofNat_Int, Int.reduceEq, Int.reduceSub, Int.reduceAdd, Int.reduceNeg, Int.reduceLT, Int.reduceLE, Nat.reduceLT, W_len, D_len, Bl_len, Nat.div_one, Nat.mul_one, tn_nat, W_nf, D_nf, Bl_nf, W_nil, D_nil, Bl_nil, wi, nv_dgB, chk_of])
  refine clp_of _ _ (same_true (rfl : x.1 = x.1) (by omega)) ?_ ?_
  · first | rfl | (simp (disch := (first | omega | assumption)) only [initS, initE, Sw, Sx, Sb, pure_s2b, ↓reduceIte, Nat.reduceEqDiff, Nat.reduceAdd, Nat.reduceMul, Nat.reduceDiv, AOp.sb, AOp.mut, ↓Bool.false_eq_true, beq_self_eq_true, ite_self, decide_eq_true_eq, decide_true, decide_false, Nat.reduceLeDiff, c0, c1, c2, c3, c13, Int.cast_ofNat_Int, Int.reduceEq, Int.reduceSub, Int.reduceAdd, Int.reduceNeg, Int.reduceLT, Int.reduceLE, Nat.reduceLT, W_len, D_len, Bl_len, Nat.div_one, Nat.mul_one, tn_nat, W_nf, D_nf, Bl_nf, W_nil, D_nil, Bl_nil, wi, nv_dgB, chk_of])
  simp (disch := (first | omega | assumption)) only [initS, initE, Sw, Sx, Sb, pure_s2b, ↓reduceIte, Nat.reduceEqDiff, Nat.reduceAdd, Nat.reduceMul, Nat.reduceDiv, AOp.sb, AOp.mut, ↓Bool.false_eq_true, beq_self_eq_true, ite_self, decide_eq_true_eq, decide_true, decide_false, Nat.reduceLeDiff, c0, c1, c2, c3, c13, Int.cast_ofNat_Int, Int.reduceEq, Int.reduceSub, Int.reduceAdd, Int.reduceNeg, Int.reduceLT, Int.reduceLE, Nat.reduceLT, W_len, D_len, Bl_len, Nat.div_one, Nat.mul_one, tn_nat, W_nf, D_nf, Bl_nf, W_nil, D_nil, Bl_nil, wi, nv_dgB, chk_of]
  repeat first | (refine hK _ ?_; clear hK K) | simp only [Sv, ↓reduceIte, Nat.reduceEqDiff] | ((first | refine vm_reg (fun K hK => ?_) | refine vm_dreg (fun K hK => ?_)); simp (disch := (first | omega | assumption)) only [initS, initE, Sw, Sx, Sb, pure_s2b, ↓reduceIte, Nat.reduceEqDiff, Nat.reduceAdd, Nat.reduceMul, Nat.reduceDiv, AOp.sb, AOp.mut, ↓Bool.false_eq_true, beq_self_eq_true, ite_self, decide_eq_true_eq, decide_true, decide_false, Nat.reduceLeDiff, c0, c1, c2, c3, c13, Int.cast_ofNat_Int, Int.reduceEq, Int.reduceSub, Int.reduceAdd, Int.reduceNeg, Int.reduceLT, Int.reduceLE, Nat.reduceLT, W_len, D_len, Bl_len, Nat.div_one, Nat.mul_one, tn_nat, W_nf, D_nf, Bl_nf, W_nil, D_nil, Bl_nil, wi, nv_dgB, chk_of])
  refine clp_of _ _ (s3) ?_ ?_
  · first | rfl | (simp (disch := (first | omega | assumption)) only [initS, initE, Sw, Sx, Sb, pure_s2b, ↓reduceIte, Nat.reduceEqDiff, Nat.reduceAdd, Nat.reduceMul, Nat.reduceDiv, AOp.sb, AOp.mut, ↓Bool.false_eq_true, beq_self_eq_true, ite_self, decide_eq_true_eq, decide_true, decide_false, Nat.reduceLeDiff, c0, c1, c2, c3, c13, Int.cast_ofNat_Int, Int.reduceEq, Int.reduceSub, Int.reduceAdd, Int.reduceNeg, Int.reduceLT, Int.reduceLE, Nat.reduceLT, W_len, D_len, Bl_len, Nat.div_one, Nat.mul_one, tn_nat, W_nf, D_nf, Bl_nf, W_nil, D_nil, Bl_nil, wi, nv_dgB, chk_of])
  simp (disch := (first | omega | assumption)) only [initS, initE, Sw, Sx, Sb, pure_s2b, ↓reduceIte, Nat.reduceEqDiff, Nat.reduceAdd, Nat.reduceMul, Nat.reduceDiv, AOp.sb, AOp.mut, ↓Bool.false_eq_true, beq_self_eq_true, ite_self, decide_eq_true_eq, decide_true, decide_false, Nat.reduceLeDiff, c0, c1, c2, c3, c13, Int.cast_ofNat_Int, Int.reduceEq, Int.reduceSub, Int.reduceAdd, Int.reduceNeg, Int.reduceLT, Int.reduceLE, Nat.reduceLT, W_len, D_len, Bl_len, Nat.div_one, Nat.mul_one, tn_nat, W_nf, D_nf, Bl_nf, W_nil, D_nil, Bl_nil, wi, nv_dgB, chk_of]
  repeat first | (refine hK _ ?_; clear hK K) | simp only [Sv, ↓reduceIte, Nat.reduceEqDiff] | ((first | refine vm_reg (fun K hK => ?_) | refine vm_dreg (fun K hK => ?_)); simp (disch := (first | omega | assumption)) only [initS, initE, Sw, Sx, Sb, pure_s2b, ↓reduceIte, Nat.reduceEqDiff, Nat.reduceAdd, Nat.reduceMul, Nat.reduceDiv, AOp.sb, AOp.mut, ↓Bool.false_eq_true, beq_self_eq_true, ite_self, decide_eq_true_eq, decide_true, decide_false, Nat.reduceLeDiff, c0, c1, c2, c3, c13, Int.cast_ofNat_Int, Int.reduceEq, Int.reduceSub, Int.reduceAdd, Int.reduceNeg, Int.reduceLT, Int.reduceLE, Nat.reduceLT, W_len, D_len, Bl_len, Nat.div_one, Nat.mul_one, tn_nat, W_nf, D_nf, Bl_nf, W_nil, D_nil, Bl_nil, wi, nv_dgB, chk_of])
  refine clp_of _ _ (s4) ?_ ?_
  · first | rfl | (simp (disch := (first | omega | assumption)) only [initS, initE, Sw, Sx, Sb, pure_s2b, ↓reduceIte, Nat.reduceEqDiff, Nat.reduceAdd, Nat.reduceMul, Nat.reduceDiv, AOp.sb, AOp.mut, ↓Bool.false_eq_true, beq_self_eq_true, ite_self, decide_eq_true_eq, decide_true, decide_false, Nat.reduceLeDiff, c0, c1, c2, c3, c13, Int.cast_ofNat_Int, Int.reduceEq, Int.reduceSub, Int.reduceAdd, Int.reduceNeg, Int.reduceLT, Int.reduceLE, Nat.reduceLT, W_len, D_len, Bl_len, Nat.div_one, Nat.mul_one, tn_nat, W_nf, D_nf, Bl_nf, W_nil, D_nil, Bl_nil, wi, nv_dgB, chk_of])
  simp (disch := (first | omega | assumption)) only [initS, initE, Sw, Sx, Sb, pure_s2b, ↓reduceIte, Nat.reduceEqDiff, Nat.reduceAdd, Nat.reduceMul, Nat.reduceDiv, AOp.sb, AOp.mut, ↓Bool.false_eq_true, beq_self_eq_true, ite_self, decide_eq_true_eq, decide_true, decide_false, Nat.reduceLeDiff, c0, c1, c2, c3, c13, Int.cast_ofNat_Int, Int.reduceEq, Int.reduceSub, Int.reduceAdd, Int.reduceNeg, Int.reduceLT, Int.reduceLE, Nat.reduceLT, W_len, D_len, Bl_len, Nat.div_one, Nat.mul_one, tn_nat, W_nf, D_nf, Bl_nf, W_nil, D_nil, Bl_nil, wi, nv_dgB, chk_of]
  repeat first | (refine hK _ ?_; clear hK K) | simp only [Sv, ↓reduceIte, Nat.reduceEqDiff] | ((first | refine vm_reg (fun K hK => ?_) | refine vm_dreg (fun K hK => ?_)); simp (disch := (first | omega | assumption)) only [initS, initE, Sw, Sx, Sb, pure_s2b, ↓reduceIte, Nat.reduceEqDiff, Nat.reduceAdd, Nat.reduceMul, Nat.reduceDiv, AOp.sb, AOp.mut, ↓Bool.false_eq_true, beq_self_eq_true, ite_self, decide_eq_true_eq, decide_true, decide_false, Nat.reduceLeDiff, c0, c1, c2, c3, c13, Int.cast_ofNat_Int, Int.reduceEq, Int.reduceSub, Int.reduceAdd, Int.reduceNeg, Int.reduceLT, Int.reduceLE, Nat.reduceLT, W_len, D_len, Bl_len, Nat.div_one, Nat.mul_one, tn_nat, W_nf, D_nf, Bl_nf, W_nil, D_nil, Bl_nil, wi, nv_dgB, chk_of])
  refine clp_of _ _ (same_true (rfl : y.1 = y.1) (by omega)) ?_ ?_
  · first | rfl | (simp (disch := (first | omega | assumption)) only [initS, initE, Sw, Sx, Sb, pure_s2b, ↓reduceIte, Nat.reduceEqDiff, Nat.reduceAdd, Nat.reduceMul, Nat.reduceDiv, AOp.sb, AOp.mut, ↓Bool.false_eq_true, beq_self_eq_true, ite_self, decide_eq_true_eq, decide_true, decide_false, Nat.reduceLeDiff, c0, c1, c2, c3, c13, Int.cast_ofNat_Int, Int.reduceEq, Int.reduceSub, Int.reduceAdd, Int.reduceNeg, Int.reduceLT, Int.reduceLE, Nat.reduceLT, W_len, D_len, Bl_len, Nat.div_one, Nat.mul_one, tn_nat, W_nf, D_nf, Bl_nf, W_nil, D_nil, Bl_nil, wi, nv_dgB, chk_of])
  simp (disch := (first | omega | assumption)) only [initS, initE, Sw, Sx, Sb, pure_s2b, ↓reduceIte, Nat.reduceEqDiff, Nat.reduceAdd, Nat.reduceMul, Nat.reduceDiv, AOp.sb, AOp.mut, ↓Bool.false_eq_true, beq_self_eq_true, ite_self, decide_eq_true_eq, decide_true, decide_false, Nat.reduceLeDiff, c0, c1, c2, c3, c13, Int.cast_ofNat_Int, Int.reduceEq, Int.reduceSub, Int.reduceAdd, Int.reduceNeg, Int.reduceLT, Int.reduceLE, Nat.reduceLT, W_len, D_len, Bl_len, Nat.div_one, Nat.mul_one, tn_nat, W_nf, D_nf, Bl_nf, W_nil, D_nil, Bl_nil, wi, nv_dgB, chk_of]
  repeat first | (refine hK _ ?_; clear hK K) | simp only [Sv, ↓reduceIte, Nat.reduceEqDiff] | ((first | refine vm_reg (fun K hK => ?_) | refine vm_dreg (fun K hK => ?_)); simp (disch := (first | omega | assumption)) only [initS, initE, Sw, Sx, Sb, pure_s2b, ↓reduceIte, Nat.reduceEqDiff, Nat.reduceAdd, Nat.reduceMul, Nat.reduceDiv, AOp.sb, AOp.mut, ↓Bool.false_eq_true, beq_self_eq_true, ite_self, decide_eq_true_eq, decide_true, decide_false, Nat.reduceLeDiff, c0, c1, c2, c3, c13, Int.cast_ofNat_Int, Int.reduceEq, Int.reduceSub, Int.reduceAdd, Int.reduceNeg, Int.reduceLT, Int.reduceLE, Nat.reduceLT, W_len, D_len, Bl_len, Nat.div_one, Nat.mul_one, tn_nat, W_nf, D_nf, Bl_nf, W_nil, D_nil, Bl_nil, wi, nv_dgB, chk_of])
  refine clp_of _ _ (s5) ?_ ?_
  · first | rfl | (simp (disch := (first | omega | assumption)) only [initS, initE, Sw, Sx, Sb, pure_s2b, ↓reduceIte, Nat.reduceEqDiff, Nat.reduceAdd, Nat.reduceMul, Nat.reduceDiv, AOp.sb, AOp.mut, ↓Bool.false_eq_true, beq_self_eq_true, ite_self, decide_eq_true_eq, decide_true, decide_false, Nat.reduceLeDiff, c0, c1, c2, c3, c13, Int.cast_ofNat_Int, Int.reduceEq, Int.reduceSub, Int.reduceAdd, Int.reduceNeg, Int.reduceLT, Int.reduceLE, Nat.reduceLT, W_len, D_len, Bl_len, Nat.div_one, Nat.mul_one, tn_nat, W_nf, D_nf, Bl_nf, W_nil, D_nil, Bl_nil, wi, nv_dgB, chk_of])
  simp (disch := (first | omega | assumption)) only [initS, initE, Sw, Sx, Sb, pure_s2b, ↓reduceIte, Nat.reduceEqDiff, Nat.reduceAdd, Nat.reduceMul, Nat.reduceDiv, AOp.sb, AOp.mut, ↓Bool.false_eq_true, beq_self_eq_true, ite_self, decide_eq_true_eq, decide_true, decide_false, Nat.reduceLeDiff, c0, c1, c2, c3, c13, Int.cast_ofNat_Int, Int.reduceEq, Int.reduceSub, Int.reduceAdd, Int.reduceNeg, Int.reduceLT, Int.reduceLE, Nat.reduceLT, W_len, D_len, Bl_len, Nat.div_one, Nat.mul_one, tn_nat, W_nf, D_nf, Bl_nf, W_nil, D_nil, Bl_nil, wi, nv_dgB, chk_of]
  repeat first | (refine hK _ ?_; clear hK K) | simp only [Sv, ↓reduceIte, Nat.reduceEqDiff] | ((first | refine vm_reg (fun K hK => ?_) | refine vm_dreg (fun K hK => ?_)); simp (disch := (first | omega | assumption)) only [initS, initE, Sw, Sx, Sb, pure_s2b, ↓reduceIte, Nat.reduceEqDiff, Nat.reduceAdd, Nat.reduceMul, Nat.reduceDiv, AOp.sb, AOp.mut, ↓Bool.false_eq_true, beq_self_eq_true, ite_self, decide_eq_true_eq, decide_true, decide_false, Nat.reduceLeDiff, c0, c1, c2, c3, c13, Int.cast_ofNat_Int, Int.reduceEq, Int.reduceSub, Int.reduceAdd, Int.reduceNeg, Int.reduceLT, Int.reduceLE, Nat.reduceLT, W_len, D_len, Bl_len, Nat.div_one, Nat.mul_one, tn_nat, W_nf, D_nf, Bl_nf, W_nil, D_nil, Bl_nil, wi, nv_dgB, chk_of])
  refine clp_of _ _ (s6) ?_ ?_
  · first | rfl | (simp (disch := (first | omega | assumption)) only [initS, initE, Sw, Sx, Sb, pure_s2b, ↓reduceIte, Nat.reduceEqDiff, Nat.reduceAdd, Nat.reduceMul, Nat.reduceDiv, AOp.sb, AOp.mut, ↓Bool.false_eq_true, beq_self_eq_true, ite_self, decide_eq_true_eq, decide_true, decide_false, Nat.reduceLeDiff, c0, c1, c2, c3, c13, Int.cast_ofNat_Int, Int.reduceEq, Int.reduceSub, Int.reduceAdd, Int.reduceNeg, Int.reduceLT, Int.reduceLE, Nat.reduceLT, W_len, D_len, Bl_len, Nat.div_one, Nat.mul_one, tn_nat, W_nf, D_nf, Bl_nf, W_nil, D_nil, Bl_nil, wi, nv_dgB, chk_of])
  simp (disch := (first | omega | assumption)) only [initS, initE, Sw, Sx, Sb, pure_s2b, ↓reduceIte, Nat.reduceEqDiff, Nat.reduceAdd, Nat.reduceMul, Nat.reduceDiv, AOp.sb, AOp.mut, ↓Bool.false_eq_true, beq_self_eq_true, ite_self, decide_eq_true_eq, decide_true, decide_false, Nat.reduceLeDiff, c0, c1, c2, c3, c13, Int.cast_ofNat_Int, Int.reduceEq, Int.reduceSub, Int.reduceAdd, Int.reduceNeg, Int.reduceLT, Int.reduceLE, Nat.reduceLT, W_len, D_len, Bl_len, Nat.div_one, Nat.mul_one, tn_nat, W_nf, D_nf, Bl_nf, W_nil, D_nil, Bl_nil, wi, nv_dgB, chk_of]
  repeat first | (refine hK _ ?_; clear hK K) | simp only [Sv, ↓reduceIte, Nat.reduceEqDiff] | ((first | refine vm_reg (fun K hK => ?_) | refine vm_dreg (fun K hK => ?_)); simp (disch := (first | omega | assumption)) only [initS, initE, Sw, Sx, Sb, pure_s2b, ↓reduceIte, Nat.reduceEqDiff, Nat.reduceAdd, Nat.reduceMul, Nat.reduceDiv, AOp.sb, AOp.mut, ↓Bool.false_eq_true, beq_self_eq_true, ite_self, decide_eq_true_eq, decide_true, decide_false, Nat.reduceLeDiff, c0, c1, c2, c3, c13, Int.cast_ofNat_Int, Int.reduceEq, Int.reduceSub, Int.reduceAdd, Int.reduceNeg, Int.reduceLT, Int.reduceLE, Nat.reduceLT, W_len, D_len, Bl_len, Nat.div_one, Nat.mul_one, tn_nat, W_nf, D_nf, Bl_nf, W_nil, D_nil, Bl_nil, wi, nv_dgB, chk_of])
  refine clp_of _ _ (same_true (rfl : y.1 = y.1) (by omega)) ?_ ?_
  · first | rfl | (simp (disch := (first | omega | assumption)) only [initS, initE, Sw, Sx, Sb, pure_s2b, ↓reduceIte, Nat.reduceEqDiff, Nat.reduceAdd, Nat.reduceMul, Nat.reduceDiv, AOp.sb, AOp.mut, ↓Bool.false_eq_true, beq_self_eq_true, ite_self, decide_eq_true_eq, decide_true, decide_false, Nat.reduceLeDiff, c0, c1, c2, c3, c13, Int.cast_ofNat_Int, Int.reduceEq, Int.reduceSub, Int.reduceAdd, Int.reduceNeg, Int.reduceLT, Int.reduceLE, Nat.reduceLT, W_len, D_len, Bl_len, Nat.div_one, Nat.mul_one, tn_nat, W_nf, D_nf, Bl_nf, W_nil, D_nil, Bl_nil, wi, nv_dgB, chk_of])
  simp (disch := (first | omega | assumption)) only [initS, initE, Sw, Sx, Sb, pure_s2b, ↓reduceIte, Nat.reduceEqDiff, Nat.reduceAdd, Nat.reduceMul, Nat.reduceDiv, AOp.sb, AOp.mut, ↓Bool.false_eq_true, beq_self_eq_true, ite_self, decide_eq_true_eq, decide_true, decide_false, Nat.reduceLeDiff, c0, c1, c2, c3, c13, Int.cast_ofNat_Int, Int.reduceEq, Int.reduceSub, Int.reduceAdd, Int.reduceNeg, Int.reduceLT, Int.reduceLE, Nat.reduceLT, W_len, D_len, Bl_len, Nat.div_one, Nat.mul_one, tn_nat, W_nf, D_nf, Bl_nf, W_nil, D_nil, Bl_nil, wi, nv_dgB, chk_of]
  repeat first | (refine hK _ ?_; clear hK K) | simp only [Sv, ↓reduceIte, Nat.reduceEqDiff] | ((first | refine vm_reg (fun K hK => ?_) | refine vm_dreg (fun K hK => ?_)); simp (disch := (first | omega | assumption)) only [initS, initE, Sw, Sx, Sb, pure_s2b, ↓reduceIte, Nat.reduceEqDiff, Nat.reduceAdd, Nat.reduceMul, Nat.reduceDiv, AOp.sb, AOp.mut, ↓Bool.false_eq_true, beq_self_eq_true, ite_self, decide_eq_true_eq, decide_true, decide_false, Nat.reduceLeDiff, c0, c1, c2, c3, c13, Int.cast_ofNat_Int, Int.reduceEq, Int.reduceSub, Int.reduceAdd, Int.reduceNeg, Int.reduceLT, Int.reduceLE, Nat.reduceLT, W_len, D_len, Bl_len, Nat.div_one, Nat.mul_one, tn_nat, W_nf, D_nf, Bl_nf, W_nil, D_nil, Bl_nil, wi, nv_dgB, chk_of])
  refine clp_of _ _ (same_true (rfl : z = z) (by omega)) ?_ ?_
  · first | rfl | (simp (disch := (first | omega | assumption)) only [initS, initE, Sw, Sx, Sb, pure_s2b, ↓reduceIte, Nat.reduceEqDiff, Nat.reduceAdd, Nat.reduceMul, Nat.reduceDiv, AOp.sb, AOp.mut, ↓Bool.false_eq_true, beq_self_eq_true, ite_self, decide_eq_true_eq, decide_true, decide_false, Nat.reduceLeDiff, c0, c1, c2, c3, c13, Int.cast_ofNat_Int, Int.reduceEq, Int.reduceSub, Int.reduceAdd, Int.reduceNeg, Int.reduceLT, Int.reduceLE, Nat.reduceLT, W_len, D_len, Bl_len, Nat.div_one, Nat.mul_one, tn_nat, W_nf, D_nf, Bl_nf, W_nil, D_nil, Bl_nil, wi, nv_dgB, chk_of])
  simp (disch := (first | omega | assumption)) only [initS, initE, Sw, Sx, Sb, pure_s2b, ↓reduceIte, Nat.reduceEqDiff, Nat.reduceAdd, Nat.reduceMul, Nat.reduceDiv, AOp.sb, AOp.mut, ↓Bool.false_eq_true, beq_self_eq_true, ite_self, decide_eq_true_eq, decide_true, decide_false, Nat.reduceLeDiff, c0, c1, c2, c3, c13, Int.cast_ofNat_Int, Int.reduceEq, Int.reduceSub, Int.reduceAdd, Int.reduceNeg, Int.reduceLT, Int.reduceLE, Nat.reduceLT, W_len, D_len, Bl_len, Nat.div_one, Nat.mul_one, tn_nat, W_nf, D_nf, Bl_nf, W_nil, D_nil, Bl_nil, wi, nv_dgB, chk_of]
  repeat first | (refine hK _ ?_; clear hK K) | simp only [Sv, ↓reduceIte, Nat.reduceEqDiff] | ((first | refine vm_reg (fun K hK => ?_) | refine vm_dreg (fun K hK => ?_)); simp (disch := (first | omega | assumption)) only [initS, initE, Sw, Sx, Sb, pure_s2b, ↓reduceIte, Nat.reduceEqDiff, Nat.reduceAdd, Nat.reduceMul, Nat.reduceDiv, AOp.sb, AOp.mut, ↓Bool.false_eq_true, beq_self_eq_true, ite_self, decide_eq_true_eq, decide_true, decide_false, Nat.reduceLeDiff, c0, c1, c2, c3, c13, Int.cast_ofNat_Int, Int.reduceEq, Int.reduceSub, Int.reduceAdd, Int.reduceNeg, Int.reduceLT, Int.reduceLE, Nat.reduceLT, W_len, D_len, Bl_len, Nat.div_one, Nat.mul_one, tn_nat, W_nf, D_nf, Bl_nf, W_nil, D_nil, Bl_nil, wi, nv_dgB, chk_of])
  simp (disch := (first | omega | assumption)) only [retOk, retN, ret1, V.okArg, and_true, true_and, initS, initE, Sw, Sx, Sb, pure_s2b, ↓reduceIte, Nat.reduceEqDiff, Nat.reduceAdd, Nat.reduceMul, Nat.reduceDiv, AOp.sb, AOp.mut, ↓Bool.false_eq_true, beq_self_eq_true, ite_self, decide_eq_true_eq, decide_true, decide_false, Nat.reduceLeDiff, c0, c1, c2, c3, c13, Int.cast_ofNat_Int, Int.reduceEq, Int.reduceSub, Int.reduceAdd, Int.reduceNeg, Int.reduceLT, Int.reduceLE, Nat.reduceLT, W_len, D_len, Bl_len, Nat.div_one, Nat.mul_one, tn_nat, W_nf, D_nf, Bl_nf, W_nil, D_nil, Bl_nil, wi, nv_dgB, chk_of]
end Go.Proofs.Ytjabgieajkgkfaa
