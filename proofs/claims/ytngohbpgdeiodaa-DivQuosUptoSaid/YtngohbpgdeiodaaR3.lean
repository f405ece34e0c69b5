/-
  surdref04.Often.
-/
import Derived.Test.YtngohbpgdeiodaaR2
namespace Go.Proofs.Ytngohbpgdeiodaa
open Go Go.RowKit Ab
set_option linter.unusedSimpArgs false
set_option linter.unusedVariables false
set_option maxHeartbeats 10000000

-- surd/surdref04.Often
def a12 : AC := .seq (.reg [⟨some 4, none, .mv (.k (.i .i64 0))⟩, 
      ⟨some 5, none, .mv (.k .nl)⟩, 
      ⟨some 6, none, .mv (.k (.i .i64 0))⟩])
  (.seq (.seq (.reg [⟨some 11, none, .mv (.t 0)⟩, 
        ⟨some 12, none, .call 48 [(1, (.t 11))]⟩])
    (.cond (.t 12)
    (.seq (.reg [⟨some 4, none, .mv (.k (.i .i64 0))⟩, 
          ⟨some 5, none, .mv (.k .nl)⟩, 
          ⟨some 6, none, .mv (.k (.i .i64 1))⟩])
      (.ret))
    (.skip)))
  (.seq (.seq (.reg [⟨some 13, none, .mv (.t 1)⟩, 
        ⟨some 14, none, .call 50 []⟩, 
        ⟨some 15, none, .call 49 [(1, (.t 13)), (1, (.t 14))]⟩, 
        ⟨some 16, none, .bin .leq (.t 15) (.k (.i .i64 0))⟩])
    (.cond (.t 16)
    (.seq (.reg [⟨some 4, none, .mv (.k (.i .i64 0))⟩, 
          ⟨some 5, none, .mv (.k .nl)⟩, 
          ⟨some 6, none, .mv (.k (.i .i64 3))⟩])
      (.ret))
    (.skip)))
  (.seq (.reg [⟨some 7, none, .mv (.k (.i .i64 0))⟩])
  (.seq (.reg [⟨some 17, none, .mv (.t 0)⟩, 
      ⟨some 18, none, .call 33 [(1, (.t 17))]⟩, 
      ⟨some 0, none, .mv (.t 18)⟩])
  (.blk 0
  (.loop
    (.blk 1
      (.seq (.reg [⟨some 20, none, .mv (.t 0)⟩, 
            ⟨some 21, none, .mv (.t 1)⟩, 
            ⟨some 22, none, .call 15 [(1, (.t 20)), (1, (.t 21))]⟩, 
            ⟨some 19, none, .mv (.t 22)⟩, 
            ⟨some 23, none, .ext (.t 19) 0⟩, 
            ⟨some 24, none, .ext (.t 19) 1⟩, 
            ⟨some 25, none, .ext (.t 19) 2⟩, 
            ⟨some 8, none, .mv (.t 23)⟩, 
            ⟨some 9, none, .mv (.t 24)⟩, 
            ⟨some 10, none, .mv (.t 25)⟩])
        (.seq (.seq (.reg [⟨some 26, none, .mv (.t 9)⟩, 
              ⟨some 27, none, .call 48 [(1, (.t 26))]⟩, 
              ⟨some 28, none, .un .not (.t 27)⟩])
          (.cond (.t 28)
          (.seq (.reg [⟨some 29, none, .mv (.t 7)⟩, 
                ⟨some 30, none, .mv (.t 0)⟩, 
                ⟨some 4, none, .mv (.t 29)⟩, 
                ⟨some 5, none, .mv (.t 30)⟩, 
                ⟨some 6, none, .mv (.k (.i .i64 0))⟩])
            (.ret))
          (.skip)))
        (.seq (.reg [⟨some 31, none, .mv (.t 8)⟩, 
            ⟨some 0, none, .mv (.t 31)⟩])
        (.reg [⟨some 32, none, .mv (.t 7)⟩, 
          ⟨some 33, none, .bin .add (.t 32) (.k (.i .i64 1))⟩, 
          ⟨some 7, none, .mv (.t 33)⟩])))))))))))
theorem roften_spec (a b : List Nat) (ha : Wd a) (hb : Wd b) (la : a.length ≤ 100000000) (lb : b.length ≤ 100000000) :
    AFun Try.prog J0 12 [.l 1 (W a), .l 1 (W b)] (.t [.i .i64 ((ofN (nv B a) (nv B b) : Nat) : Int), .l 1 (W (ofL (nv B a) (nv B b))), .i .i64 (ofE (nv B a) (nv B b))]) := by
  have hz := rzero_spec a ha (by omega)
  have hn := (rnorm_spec a ha (by omega)).frozen
  have hcm := rcmp_spec b [1] hb (Wd1 (by decide)) (by omega) (by simp)
  rw [nv_one] at hcm
  have hA := nv_lt ha
  have hdl : ∀ x, x < B ^ a.length → (dg B x).length ≤ a.length := fun x hx => dlen hx
  have hqu := fun x (hx : x < B ^ a.length) => rquo_spec (dg B x) b (Wd_dg x) hb (by have := hdl x hx; omega) (by omega)
  have hzr := fun x (hx : x < B ^ a.length) => rzero_spec (qR x (nv B b)) (qR_Wd _ _) (by have := qR_len (v := nv B b) hx; omega)
  simp only [nv_dgB] at hqu
  generalize nv B a = u at *
  generalize nv B b = v at *
  refine AFun.mk fol J0s Try.func12 rfl (ac := a12) (by kernel_rfl) rfl rfl ?_
  apply vm_start
  unfold a12
  simp only [init_eq, initE]
  by_cases h0 : u = 0
  · rw [show ofN u v = 0 from if_pos (.inl h0), show ofL u v = [] from if_pos (.inl h0), show ofE u v = 1 from if_pos h0]
    have zc1 := hz
    repeat first | (refine hK _ ?_; clear hK K) | simp only [Sv, ↓reduceIte, Nat.reduceEqDiff] | ((first | refine vm_reg (fun K hK => ?_) | refine vm_dreg (fun K hK => ?_) | refine clp_q ?_ | refine clq_mk (by assumption) ?_); simp (disch := (first | omega | assumption)) only [S1, ↓reduceIte, Nat.reduceEqDiff, Nat.reduceAdd, Nat.reduceMul, Nat.reduceDiv, AOp.sb, AOp.mut, ↓Bool.false_eq_true, beq_self_eq_true, ite_self, Nat.reduceLeDiff, Int.reduceEq, Int.reduceSub, Int.reduceAdd, Int.reduceNeg, Int.reduceLT, Int.reduceLE, Nat.reduceLT, wi, tn_nat, Nat.div_one, Nat.mul_one, W_len, W_nf, W_cell, W_nil, W_get, List.length_nil, List.length_cons, h0])
    simp (disch := (first | omega | assumption)) only [retOk, retN, ret1, retF, ret1F, V.okArg, and_true, true_and, S1, ↓reduceIte, Nat.reduceEqDiff, Nat.reduceAdd, Nat.reduceMul, Nat.reduceDiv, AOp.sb, AOp.mut, ↓Bool.false_eq_true, beq_self_eq_true, ite_self, Nat.reduceLeDiff, Int.reduceEq, Int.reduceSub, Int.reduceAdd, Int.reduceNeg, Int.reduceLT, Int.reduceLE, Nat.reduceLT, wi, tn_nat, Nat.div_one, Nat.mul_one, W_len, W_nf, W_cell, W_nil, W_get, List.length_nil, List.length_cons, h0]
  · by_cases h1 : v ≤ 1
    · rw [show ofN u v = 0 from if_pos (.inr h1), show ofL u v = [] from if_pos (.inr h1), show ofE u v = 3 from (if_neg h0).trans (if_pos h1)]
      have zc2 := hz
      have zc3 := one_spec
      have zc4 := hcm
      repeat first | (refine hK _ ?_; clear hK K) | simp only [Sv, ↓reduceIte, Nat.reduceEqDiff] | ((first | refine vm_reg (fun K hK => ?_) | refine vm_dreg (fun K hK => ?_) | refine clp_q ?_ | refine clq_mk (by assumption) ?_); simp (disch := (first | omega | assumption)) only [S1, ↓reduceIte, Nat.reduceEqDiff, Nat.reduceAdd, Nat.reduceMul, Nat.reduceDiv, AOp.sb, AOp.mut, ↓Bool.false_eq_true, beq_self_eq_true, ite_self, Nat.reduceLeDiff, Int.reduceEq, Int.reduceSub, Int.reduceAdd, Int.reduceNeg, Int.reduceLT, Int.reduceLE, Nat.reduceLT, wi, tn_nat, Nat.div_one, Nat.mul_one, W_len, W_nf, W_cell, W_nil, W_get, List.length_nil, List.length_cons, h0, sg_le, h1])
      simp (disch := (first | omega | assumption)) only [retOk, retN, ret1, retF, ret1F, V.okArg, and_true, true_and, S1, ↓reduceIte, Nat.reduceEqDiff, Nat.reduceAdd, Nat.reduceMul, Nat.reduceDiv, AOp.sb, AOp.mut, ↓Bool.false_eq_true, beq_self_eq_true, ite_self, Nat.reduceLeDiff, Int.reduceEq, Int.reduceSub, Int.reduceAdd, Int.reduceNeg, Int.reduceLT, Int.reduceLE, Nat.reduceLT, wi, tn_nat, Nat.div_one, Nat.mul_one, W_len, W_nf, W_cell, W_nil, W_get, List.length_nil, List.length_cons, h0, sg_le, h1]
    · rw [show ofN u v = (oft v u u).1 from if_neg (by omega), show ofL u v = dg B (oft v u u).2 from if_neg (by omega), show ofE u v = 0 from (if_neg h0).trans (if_neg h1)]
      have zc5 := hz
      have zc6 := one_spec
      have zc7 := hcm
      have zc8 := hn
      repeat first | (refine hK _ ?_; clear hK K) | simp only [Sv, ↓reduceIte, Nat.reduceEqDiff] | ((first | refine vm_reg (fun K hK => ?_) | refine vm_dreg (fun K hK => ?_) | refine clp_q ?_ | refine clq_mk (by assumption) ?_); simp (disch := (first | omega | assumption)) only [S1, ↓reduceIte, Nat.reduceEqDiff, Nat.reduceAdd, Nat.reduceMul, Nat.reduceDiv, AOp.sb, AOp.mut, ↓Bool.false_eq_true, beq_self_eq_true, ite_self, Nat.reduceLeDiff, Int.reduceEq, Int.reduceSub, Int.reduceAdd, Int.reduceNeg, Int.reduceLT, Int.reduceLE, Nat.reduceLT, wi, tn_nat, Nat.div_one, Nat.mul_one, W_len, W_nf, W_cell, W_nil, W_get, List.length_nil, List.length_cons, h0, sg_le, h1])
      refine vm_loopA [] (Nat × Nat) (fun s => ⟨[(1, .l 1 (W b)), (0, .l 1 (W (dg B s.2))), (7, .i .i64 (s.1 : Int))], [], 0⟩) (OfI u v) (fun s => s.2) (0, u) (OfI_0 (by omega)) (by simp (disch := (first | omega | assumption)) only [Sl, Sa, Sw, ↓reduceIte, Nat.reduceEqDiff, Nat.reduceLT, List.all_nil, List.all_cons, Nat.reduceBneDiff, Nat.reduceAdd, bne_iff_ne, ne_eq, reduceCtorEq, not_false_eq_true, not_true_eq_false, Bool.and_true, Bool.true_and, and_true, true_and, and_self]) (by
        simp (disch := (first | omega | assumption)) only [Sl, Sa, Sw, ↓reduceIte, Nat.reduceEqDiff, Nat.reduceLT, List.all_nil, List.all_cons, Nat.reduceBneDiff, Nat.reduceAdd, bne_iff_ne, ne_eq, reduceCtorEq, not_false_eq_true, not_true_eq_false, Bool.and_true, Bool.true_and, and_true, true_and, and_self, i_eq]
        try rfl) ?_
      rintro ⟨n, x⟩ hI Q' hQ he hr
      simp only []
      obtain ⟨b1, b2⟩ := OfI_bnd (by omega) hI hA
      have hq := hqu x b2
      have hr2 := hzr x b2
      have hR : nv B (qR x v) = x % v := by rw [qR_p (by omega), nv_dgB]
      rw [hR] at hr2
      by_cases h2 : x % v = 0
      · obtain ⟨s1, s2⟩ := OfI_step (by omega) hI h2
        have zc9 := hq
        have zc10 := hr2
        repeat first | (refine hK _ ?_; clear hK K) | simp only [Sv, ↓reduceIte, Nat.reduceEqDiff] | ((first | refine vm_reg (fun K hK => ?_) | refine vm_dreg (fun K hK => ?_) | refine clp_q ?_ | refine clq_mk (by assumption) ?_); simp (disch := (first | omega | assumption)) only [S1, ↓reduceIte, Nat.reduceEqDiff, Nat.reduceAdd, Nat.reduceMul, Nat.reduceDiv, AOp.sb, AOp.mut, ↓Bool.false_eq_true, beq_self_eq_true, ite_self, Nat.reduceLeDiff, Int.reduceEq, Int.reduceSub, Int.reduceAdd, Int.reduceNeg, Int.reduceLT, Int.reduceLE, Nat.reduceLT, wi, tn_nat, Nat.div_one, Nat.mul_one, W_len, W_nf, W_cell, W_nil, W_get, List.length_nil, List.length_cons, h2, wi])
        refine hQ _ (n + 1, x / v) s1 s2 ?_
        simp (disch := (first | omega | assumption)) only [Sl, Sa, Sw, ↓reduceIte, Nat.reduceEqDiff, Nat.reduceLT, List.all_nil, List.all_cons, Nat.reduceBneDiff, Nat.reduceAdd, bne_iff_ne, ne_eq, reduceCtorEq, not_false_eq_true, not_true_eq_false, Bool.and_true, Bool.true_and, and_true, true_and, and_self, i_eq]
        repeat' first | rfl | omega | (simp only [List.length_append, List.length_cons, List.length_nil]; done) | apply And.intro
      · obtain ⟨s1, s2⟩ := OfI_end hI h2
        rw [← s1, ← s2] at hr
        have zc11 := hq
        have zc12 := hr2
        repeat first | (refine hK _ ?_; clear hK K) | simp only [Sv, ↓reduceIte, Nat.reduceEqDiff] | ((first | refine vm_reg (fun K hK => ?_) | refine vm_dreg (fun K hK => ?_) | refine clp_q ?_ | refine clq_mk (by assumption) ?_); simp (disch := (first | omega | assumption)) only [S1, ↓reduceIte, Nat.reduceEqDiff, Nat.reduceAdd, Nat.reduceMul, Nat.reduceDiv, AOp.sb, AOp.mut, ↓Bool.false_eq_true, beq_self_eq_true, ite_self, Nat.reduceLeDiff, Int.reduceEq, Int.reduceSub, Int.reduceAdd, Int.reduceNeg, Int.reduceLT, Int.reduceLE, Nat.reduceLT, wi, tn_nat, Nat.div_one, Nat.mul_one, W_len, W_nf, W_cell, W_nil, W_get, List.length_nil, List.length_cons, h2])
        refine hr _ ?_
        repeat first | (refine hK _ ?_; clear hK K) | simp only [Sv, ↓reduceIte, Nat.reduceEqDiff] | ((first | refine vm_reg (fun K hK => ?_) | refine vm_dreg (fun K hK => ?_)); simp (disch := (first | omega | assumption)) only [S1, ↓reduceIte, Nat.reduceEqDiff, Nat.reduceAdd, Nat.reduceMul, Nat.reduceDiv, AOp.sb, AOp.mut, ↓Bool.false_eq_true, beq_self_eq_true, ite_self, Nat.reduceLeDiff, Int.reduceEq, Int.reduceSub, Int.reduceAdd, Int.reduceNeg, Int.reduceLT, Int.reduceLE, Nat.reduceLT, wi, tn_nat, Nat.div_one, Nat.mul_one, W_len, W_nf, W_cell, W_nil, W_get, List.length_nil, List.length_cons])
        simp (disch := (first | omega | assumption)) only [retOk, retN, ret1, retF, ret1F, V.okArg, and_true, true_and, S1, ↓reduceIte, Nat.reduceEqDiff, Nat.reduceAdd, Nat.reduceMul, Nat.reduceDiv, AOp.sb, AOp.mut, ↓Bool.false_eq_true, beq_self_eq_true, ite_self, Nat.reduceLeDiff, Int.reduceEq, Int.reduceSub, Int.reduceAdd, Int.reduceNeg, Int.reduceLT, Int.reduceLE, Nat.reduceLT, wi, tn_nat, Nat.div_one, Nat.mul_one, W_len, W_nf, W_cell, W_nil, W_get, List.length_nil, List.length_cons]
end Go.Proofs.Ytngohbpgdeiodaa
