/-
  A row by a word.
-/
import Derived.Test.YtngohbpgdeiodaaM3
namespace Go.Proofs.Ytngohbpgdeiodaa
open Go Go.RowKit Ab
set_option linter.unusedSimpArgs false
set_option linter.unusedVariables false
set_option maxHeartbeats 10000000

theorem divOne_step {V x w : Nat} (hw : 0 < w) (hx : x < B) :
    (x + B * V) / w % B = (V % w * B + x) / w ∧ (x + B * V) / w / B = V / w ∧ (x + B * V) % w = (V % w * B + x) % w ∧ (V % w * B + x) / w < B := by
  have e := Nat.div_add_mod V w
  have hm := Nat.mod_lt V hw
  generalize V / w = q at *
  generalize V % w = r at *
  have h : x + B * V = (r * B + x) + w * (q * B) := by rw [← e, Nat.mul_add, ← Nat.mul_assoc, Nat.mul_comm B w, Nat.mul_assoc, Nat.mul_comm B q, Nat.mul_comm B r]; omega
  have hlt : (r * B + x) / w < B := by
    refine (Nat.div_lt_iff_lt_mul hw).2 ?_
    have := Nat.mul_le_mul_right B (show r + 1 ≤ w from hm)
    rw [Nat.add_mul, Nat.one_mul] at this
    rw [Nat.mul_comm B w]; omega
  rw [h, Nat.add_mul_div_left _ _ hw, Nat.add_mul_mod_self_left, Nat.add_mul_mod_self_right, Nat.mod_eq_of_lt hlt, Nat.add_mul_div_right _ _ (by decide : 0 < B), Nat.div_eq_of_lt hlt]
  exact ⟨rfl, by omega, rfl, hlt⟩

-- surd/limb.DivOne
def a60 : AC := .seq (.reg [⟨some 4, none, .mv (.k .nl)⟩, 
      ⟨some 5, none, .mv (.k (.i .u64 0))⟩, 
      ⟨some 6, none, .mv (.k (.i .i64 0))⟩])
  (.seq (.seq (.reg [⟨some 10, none, .mv (.t 1)⟩, 
        ⟨some 11, none, .bin .eql (.t 10) (.k (.i .u64 0))⟩])
    (.cond (.t 11)
    (.seq (.reg [⟨some 4, none, .mv (.k .nl)⟩, 
          ⟨some 5, none, .mv (.k (.i .u64 0))⟩, 
          ⟨some 6, none, .mv (.k (.i .i64 1))⟩])
      (.ret))
    (.skip)))
  (.seq (.reg [⟨some 12, none, .mv (.t 0)⟩, 
      ⟨some 13, none, .len (.t 12)⟩, 
      ⟨some 14, none, .mk 29 1 8 [(.i .u64 0)] (.t 13) (.t 13)⟩, 
      ⟨some 7, none, .mv (.t 14)⟩])
  (.seq (.reg [⟨some 8, none, .mv (.k (.i .u64 0))⟩])
  (.seq (.seq (.reg [⟨some 15, none, .mv (.t 0)⟩, 
        ⟨some 16, none, .len (.t 15)⟩, 
        ⟨some 17, none, .bin .sub (.t 16) (.k (.i .i64 1))⟩, 
        ⟨some 9, none, .mv (.t 17)⟩])
    (.blk 0
    (.loop
      (.seq (.seq (.reg [⟨some 18, none, .mv (.t 9)⟩, 
              ⟨some 19, none, .bin .geq (.t 18) (.k (.i .i64 0))⟩])
          (.cond (.t 19)
          (.skip)
          (.exit 0)))
        (.seq (.blk 1
          (.reg [⟨some 23, none, .mv (.t 7)⟩, 
              ⟨some 24, none, .mv (.t 9)⟩, 
              ⟨some 25, none, .mv (.t 8)⟩, 
              ⟨some 26, none, .mv (.t 0)⟩, 
              ⟨some 27, none, .mv (.t 9)⟩, 
              ⟨some 28, none, .idx 1 (.t 26) (.t 27)⟩, 
              ⟨some 29, none, .ld false 1 (.t 28)⟩, 
              ⟨some 30, none, .mv (.t 1)⟩, 
              ⟨some 31, none, .call 85 [(1, (.t 25)), (1, (.t 29)), (1, (.t 30))]⟩, 
              ⟨some 22, none, .mv (.t 31)⟩, 
              ⟨some 32, none, .ext (.t 22) 0⟩, 
              ⟨some 33, none, .ext (.t 22) 1⟩, 
              ⟨some 34, none, .idx 1 (.t 23) (.t 24)⟩, 
              ⟨none, none, .st 1 (.t 34) (.t 32)⟩, 
              ⟨some 8, none, .mv (.t 33)⟩]))
        (.reg [⟨some 20, none, .mv (.t 9)⟩, 
          ⟨some 21, none, .bin .sub (.t 20) (.k (.i .i64 1))⟩, 
          ⟨some 9, none, .mv (.t 21)⟩]))))))
  (.seq (.reg [⟨some 35, none, .mv (.t 7)⟩, 
      ⟨some 36, none, .mv (.t 8)⟩, 
      ⟨some 4, none, .mv (.t 35)⟩, 
      ⟨some 5, none, .mv (.t 36)⟩, 
      ⟨some 6, none, .mv (.k (.i .i64 0))⟩])
  (.ret))))))
theorem divOne_zero (a : List Nat) : AFun Try.prog J0 60 [.l 1 (W a), .i .u64 0] (.t [.l 1 [], .i .u64 0, .i .i64 1]) := by
  refine AFun.mk fol J0s Try.func60 rfl (ac := a60) (by kernel_rfl) rfl rfl ?_
  apply vm_start
  unfold a60
  simp only [init_eq, initE]
  repeat first | (refine hK _ ?_; clear hK K) | simp only [Sv, ↓reduceIte, Nat.reduceEqDiff] | ((first | refine vm_reg (fun K hK => ?_) | refine vm_dreg (fun K hK => ?_)); simp (disch := (first | omega | assumption)) only [S1, ↓reduceIte, Nat.reduceEqDiff, Nat.reduceAdd, Nat.reduceMul, Nat.reduceDiv, AOp.sb, AOp.mut, ↓Bool.false_eq_true, beq_self_eq_true, ite_self, Nat.reduceLeDiff, Int.reduceEq, Int.reduceSub, Int.reduceAdd, Int.reduceNeg, Int.reduceLT, Int.reduceLE, Nat.reduceLT, wi, tn_nat, Nat.div_one, Nat.mul_one, W_len])
  simp (disch := (first | omega | assumption)) only [retOk, retN, ret1, retF, ret1F, V.okArg, and_true, true_and, S1, ↓reduceIte, Nat.reduceEqDiff, Nat.reduceAdd, Nat.reduceMul, Nat.reduceDiv, AOp.sb, AOp.mut, ↓Bool.false_eq_true, beq_self_eq_true, ite_self, Nat.reduceLeDiff, Int.reduceEq, Int.reduceSub, Int.reduceAdd, Int.reduceNeg, Int.reduceLT, Int.reduceLE, Nat.reduceLT, wi, tn_nat, Nat.div_one, Nat.mul_one, W_len]
theorem divOne_spec (a : List Nat) (w : Nat) (ha : Wd a) (hw0 : 0 < w) (hw : w < 18446744073709551616) (la : a.length ≤ 1099511627776) :
    AFun Try.prog J0 60 [.l 1 (W a), .i .u64 (w : Int)] (.t [.l 1 (W (fl B a.length (nv B a / w))), .i .u64 ((nv B a % w : Nat) : Int), .i .i64 0]) := by
  refine AFun.mk fol J0s Try.func60 rfl (ac := a60) (by kernel_rfl) rfl rfl ?_
  apply vm_start
  unfold a60
  simp only [init_eq, initE]
  have g0 : ¬ (w : Int) = 0 := by omega
  repeat first
    | (refine hK _ ?_; clear hK K)
    | ((first | refine vm_reg (fun K hK => ?_) | refine vm_dreg (fun K hK => ?_)); simp (disch := (first | omega | assumption)) only [S1, ↓reduceIte, Nat.reduceEqDiff, Nat.reduceAdd, Nat.reduceMul, Nat.reduceDiv, AOp.sb, AOp.mut, ↓Bool.false_eq_true, beq_self_eq_true, ite_self, Nat.reduceLeDiff, Int.reduceEq, Int.reduceSub, Int.reduceAdd, Int.reduceNeg, Int.reduceLT, Int.reduceLE, Nat.reduceLT, wi, tn_nat, Nat.div_one, Nat.mul_one, W_len, g0]; refine hK _ ?_; clear hK K)
    | simp only [Sv, ↓reduceIte, Nat.reduceEqDiff]
  refine vm_loopA [] Nat (fun i => ⟨[(0, .l 1 (W a)), (1, .i .u64 (w : Int)), (7, .ow 1 0 a.length), (8, .i .u64 ((nv B (a.drop i) % w : Nat) : Int)), (9, .i .i64 ((i : Int) - 1))],
      [(0, some ⟨29, 1, W (List.replicate i 0 ++ fl B (a.length - i) (nv B (a.drop i) / w)), true, false⟩)], 1⟩)
    (fun i => i ≤ a.length) (fun i => i) a.length (Nat.le_refl _) (by simp (disch := (first | omega | assumption)) only [Sl, Sa, Sw, ↓reduceIte, Nat.reduceEqDiff, Nat.reduceLT, List.all_nil, List.all_cons, Nat.reduceBneDiff, Nat.reduceAdd, bne_iff_ne, ne_eq, reduceCtorEq, not_false_eq_true, not_true_eq_false, Bool.and_true, Bool.true_and, and_true, true_and, and_self]) (by
    simp (disch := (first | omega | assumption)) only [Sl, Sa, Sw, ↓reduceIte, Nat.reduceEqDiff, Nat.reduceLT, List.all_nil, List.all_cons, Nat.reduceBneDiff, Nat.reduceAdd, bne_iff_ne, ne_eq, reduceCtorEq, not_false_eq_true, not_true_eq_false, Bool.and_true, Bool.true_and, and_true, true_and, and_self, i_eq]
    refine ⟨by rw [List.drop_length]; simp [nv], ?_⟩
    rw [Nat.sub_self, fl, List.append_nil]; exact mk_W _) ?_
  intro i hi Q' hQ he hr
  cases i with
  | zero =>
    repeat first
      | (refine hK _ ?_; clear hK K)
      | ((first | refine vm_reg (fun K hK => ?_) | refine vm_dreg (fun K hK => ?_)); simp (disch := (first | omega | assumption)) only [S1, ↓reduceIte, Nat.reduceEqDiff, Nat.reduceAdd, Nat.reduceMul, Nat.reduceDiv, AOp.sb, AOp.mut, ↓Bool.false_eq_true, beq_self_eq_true, ite_self, Nat.reduceLeDiff, Int.reduceEq, Int.reduceSub, Int.reduceAdd, Int.reduceNeg, Int.reduceLT, Int.reduceLE, Nat.reduceLT, wi, tn_nat, Nat.div_one, Nat.mul_one, W_len]; refine hK _ ?_; clear hK K)
      | simp only [Sv, ↓reduceIte, Nat.reduceEqDiff]
    refine he _ _ ?_
    repeat first
      | (refine hK _ ?_; clear hK K)
      | ((first | refine vm_reg (fun K hK => ?_) | refine vm_dreg (fun K hK => ?_)); simp (disch := (first | omega | assumption)) only [S1, ↓reduceIte, Nat.reduceEqDiff, Nat.reduceAdd, Nat.reduceMul, Nat.reduceDiv, AOp.sb, AOp.mut, ↓Bool.false_eq_true, beq_self_eq_true, ite_self, Nat.reduceLeDiff, Int.reduceEq, Int.reduceSub, Int.reduceAdd, Int.reduceNeg, Int.reduceLT, Int.reduceLE, Nat.reduceLT, wi, tn_nat, Nat.div_one, Nat.mul_one, W_len]; refine hK _ ?_; clear hK K)
      | simp only [Sv, ↓reduceIte, Nat.reduceEqDiff]
    simp (disch := (first | omega | assumption)) only [retOk, retN, ret1, retF, ret1F, V.okArg, and_true, true_and, S1, ↓reduceIte, Nat.reduceEqDiff, Nat.reduceAdd, Nat.reduceMul, Nat.reduceDiv, AOp.sb, AOp.mut, ↓Bool.false_eq_true, beq_self_eq_true, ite_self, Nat.reduceLeDiff, Int.reduceEq, Int.reduceSub, Int.reduceAdd, Int.reduceNeg, Int.reduceLT, Int.reduceLE, Nat.reduceLT, wi, tn_nat, Nat.div_one, Nat.mul_one, W_len, List.nil_append, Nat.sub_zero]
  | succ k =>
    have hk : k < a.length := by omega
    have g1 : (0 : Int) ≤ ((k + 1 : Nat) : Int) - 1 := by omega
    have g2 : (((k + 1 : Nat) : Int) - 1).toNat = k := by omega
    have hx := Wd_get ha k
    have hm := Nat.mod_lt (nv B (a.drop (k + 1))) hw0
    obtain ⟨s1, s2, s3, s4⟩ := divOne_step (V := nv B (a.drop (k + 1))) hw0 hx
    have hll : (List.replicate (k + 1) 0 ++ fl B (a.length - (k + 1)) (nv B (a.drop (k + 1)) / w)).length = a.length := by rw [List.length_append, List.length_replicate, fl_len]; omega
    have hset : (List.replicate (k + 1) 0 ++ fl B (a.length - (k + 1)) (nv B (a.drop (k + 1)) / w)).set k ((nv B (a.drop (k + 1)) % w * 18446744073709551616 + a.getD k 0) / w) = List.replicate k 0 ++ fl B (a.length - k) (nv B (a.drop k) / w) := by
      rw [nv_drop_get a k hk, show a.length - k = (a.length - (k + 1)) + 1 from by omega, fl, s1, s2, List.replicate_succ', List.append_assoc, List.set_append_right _ _ (by rw [List.length_replicate]; exact Nat.le_refl _), List.length_replicate, Nat.sub_self]
      rfl
    have zc1 := div64_spec (nv B (a.drop (k + 1)) % w) (a.getD k 0) w hm hw hx
    repeat first | (refine hK _ ?_; clear hK K) | simp only [Sv, ↓reduceIte, Nat.reduceEqDiff] | ((first | refine vm_reg (fun K hK => ?_) | refine vm_dreg (fun K hK => ?_) | refine clp_q ?_ | refine clq_mk (by assumption) ?_); simp (disch := (first | omega | assumption)) only [S1, ↓reduceIte, Nat.reduceEqDiff, Nat.reduceAdd, Nat.reduceMul, Nat.reduceDiv, AOp.sb, AOp.mut, ↓Bool.false_eq_true, beq_self_eq_true, ite_self, Nat.reduceLeDiff, Int.reduceEq, Int.reduceSub, Int.reduceAdd, Int.reduceNeg, Int.reduceLT, Int.reduceLE, Nat.reduceLT, wi, tn_nat, Nat.div_one, Nat.mul_one, W_len, g1, g2, W_get, hll, W_set, hset])
    refine hQ _ k (by omega) (by omega) ?_
    simp (disch := (first | omega | assumption)) only [Sl, Sa, Sw, ↓reduceIte, Nat.reduceEqDiff, Nat.reduceLT, List.all_nil, List.all_cons, Nat.reduceBneDiff, Nat.reduceAdd, bne_iff_ne, ne_eq, reduceCtorEq, not_false_eq_true, not_true_eq_false, Bool.and_true, Bool.true_and, and_true, true_and, and_self, i_eq]
    rw [nv_drop_get a k hk, s3]
    repeat' first | rfl | omega | (simp only [List.length_append, List.length_cons, List.length_nil]; done) | apply And.intro
end Go.Proofs.Ytngohbpgdeiodaa
