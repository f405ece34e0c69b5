/-
  LexNests: the law's walk.
-/
import Derived.Test.YtebcheabahajaaaL9
namespace Go.Proofs.Ytebcheabahajaaa
open Go Go.RowKit Ab
set_option linter.unusedSimpArgs false
set_option linter.unusedVariables false
set_option maxHeartbeats 10000000

theorem matchG_code : ∀ (ts : List Tk) (k : Nat) (d : Int), (matchG ts k d).2 = 0 ∨ (matchG ts k d).2 = 5
  | [], _, _ => .inr rfl
  | t :: r, k, d => by
    simp only [matchG]
    split
    · exact .inl rfl
    · exact matchG_code r _ _
theorem matchR_code (ts : List Tk) (n : Int) : (matchR ts n).2 = 0 ∨ (matchR ts n).2 = 5 ∨ (matchR ts n).2 = 3 := by
  unfold matchR
  split
  · rcases matchG_code (ts.drop n.toNat) n.toNat 0 with h | h
    · exact .inl h
    · exact .inr (.inl h)
  · exact .inr (.inr rfl)
theorem splitR_code (ts : List Tk) (s : List UInt8) : (splitR ts s).2 = 0 ∨ (splitR ts s).2 = 5 ∨ (splitR ts s).2 = 3 := by
  unfold splitR
  split
  · split
    · exact .inl rfl
    · rcases nest_code ts 0 0 with h | h
      · exact .inl h
      · exact .inr (.inl h)
  · exact .inr (.inr rfl)
theorem splitR_len (ts : List Tk) (s : List UInt8) : (splitR ts s).1.length ≤ ts.length + 1 := by
  unfold splitR
  split
  · split
    · exact splitG_len s ts 0 []
    · simp
  · simp
theorem splitG_each (s : List UInt8) : ∀ (ts : List Tk) (d : Int) (p : List Tk) (n : Nat), ts.length + p.length ≤ n → ∀ q, q ∈ splitG s ts d p → q.length ≤ n
  | [], d, p, n, h, q, hq => by simp [splitG] at hq; subst hq; simp at h; exact h
  | t :: r, d, p, n, h, q, hq => by
    simp only [splitG] at hq
    simp only [List.length_cons] at h
    split at hq
    · rcases List.mem_cons.1 hq with rfl | hq
      · omega
      · exact splitG_each s r _ [] n (by simp; omega) q hq
    · exact splitG_each s r _ _ n (by simp; omega) q hq
theorem splitR_each (ts : List Tk) (s : List UInt8) (i : Nat) : ((splitR ts s).1.getD i []).length ≤ ts.length := by
  rw [List.getD_eq_getElem?_getD]
  cases h : (splitR ts s).1[i]? with
  | none => simp
  | some q =>
    have hq := List.mem_of_getElem? h
    unfold splitR at hq
    split at hq
    · split at hq
      · exact splitG_each s ts 0 [] ts.length (by simp) q hq
      · simp at hq
    · simp at hq

-- surd/surdlaw24.LexNests
def a7 : AC := .seq (.reg [⟨some 6, none, .mv (.k (.b false))⟩])
  (.seq (.seq (.reg [⟨some 17, none, .call 10 []⟩, 
        ⟨some 18, none, .un .not (.t 17)⟩])
    (.cond (.t 18)
    (.seq (.reg [⟨some 6, none, .mv (.k (.b false))⟩])
      (.ret))
    (.skip)))
  (.seq (.reg [⟨some 20, none, .mv (.t 0)⟩, 
      ⟨some 21, none, .call 23 [(3, (.t 20))]⟩, 
      ⟨some 19, none, .mv (.t 21)⟩, 
      ⟨some 22, none, .ext (.t 19) 0⟩, 
      ⟨some 23, none, .ext (.t 19) 1⟩, 
      ⟨some 7, none, .mv (.t 22)⟩, 
      ⟨some 8, none, .mv (.t 23)⟩])
  (.seq (.reg [⟨some 25, none, .mv (.t 0)⟩, 
      ⟨some 26, none, .mv (.t 1)⟩, 
      ⟨some 27, none, .call 24 [(3, (.t 25)), (1, (.t 26))]⟩, 
      ⟨some 24, none, .mv (.t 27)⟩, 
      ⟨some 28, none, .ext (.t 24) 0⟩, 
      ⟨some 29, none, .ext (.t 24) 1⟩, 
      ⟨some 9, none, .mv (.t 28)⟩, 
      ⟨some 10, none, .mv (.t 29)⟩])
  (.seq (.reg [⟨some 31, none, .mv (.t 0)⟩, 
      ⟨some 32, none, .mv (.t 2)⟩, 
      ⟨some 33, none, .call 25 [(3, (.t 31)), (1, (.t 32))]⟩, 
      ⟨some 30, none, .mv (.t 33)⟩, 
      ⟨some 34, none, .ext (.t 30) 0⟩, 
      ⟨some 35, none, .ext (.t 30) 1⟩, 
      ⟨some 11, none, .mv (.t 34)⟩, 
      ⟨some 12, none, .mv (.t 35)⟩])
  (.seq (.reg [⟨some 37, none, .mv (.t 0)⟩, 
      ⟨some 38, none, .call 22 [(3, (.t 37))]⟩, 
      ⟨some 39, none, .call 26 [(3, (.t 38))]⟩, 
      ⟨some 36, none, .mv (.t 39)⟩, 
      ⟨some 40, none, .ext (.t 36) 0⟩, 
      ⟨some 41, none, .ext (.t 36) 1⟩, 
      ⟨some 13, none, .mv (.t 40)⟩, 
      ⟨some 14, none, .mv (.t 41)⟩])
  (.seq (.seq (.reg [⟨some 42, none, .mv (.t 14)⟩, 
        ⟨some 43, none, .mv (.t 8)⟩, 
        ⟨some 44, none, .call 14 [(1, (.t 42)), (1, (.t 43))]⟩, 
        ⟨some 45, none, .un .not (.t 44)⟩, 
        ⟨some 46, none, .mv (.t 45)⟩, 
        ⟨some 47, some (46, false), .mv (.t 13)⟩, 
        ⟨some 48, some (46, false), .mv (.t 7)⟩, 
        ⟨some 49, some (46, false), .bin .neq (.t 47) (.t 48)⟩, 
        ⟨some 50, none, .pick (.t 46) (.k (.b true)) (.t 49)⟩])
    (.cond (.t 50)
    (.seq (.reg [⟨some 6, none, .mv (.k (.b false))⟩])
      (.ret))
    (.skip)))
  (.seq (.reg [⟨some 52, none, .mv (.t 0)⟩, 
      ⟨some 53, none, .call 22 [(3, (.t 52))]⟩, 
      ⟨some 54, none, .mv (.t 1)⟩, 
      ⟨some 55, none, .call 27 [(3, (.t 53)), (1, (.t 54))]⟩, 
      ⟨some 51, none, .mv (.t 55)⟩, 
      ⟨some 56, none, .ext (.t 51) 0⟩, 
      ⟨some 57, none, .ext (.t 51) 1⟩, 
      ⟨some 13, none, .mv (.t 56)⟩, 
      ⟨some 14, none, .mv (.t 57)⟩])
  (.seq (.seq (.reg [⟨some 58, none, .mv (.t 14)⟩, 
        ⟨some 59, none, .mv (.t 10)⟩, 
        ⟨some 60, none, .call 14 [(1, (.t 58)), (1, (.t 59))]⟩, 
        ⟨some 61, none, .un .not (.t 60)⟩, 
        ⟨some 62, none, .mv (.t 61)⟩, 
        ⟨some 63, some (62, false), .mv (.t 13)⟩, 
        ⟨some 64, some (62, false), .mv (.t 9)⟩, 
        ⟨some 65, some (62, false), .bin .neq (.t 63) (.t 64)⟩, 
        ⟨some 66, none, .pick (.t 62) (.k (.b true)) (.t 65)⟩])
    (.cond (.t 66)
    (.seq (.reg [⟨some 6, none, .mv (.k (.b false))⟩])
      (.ret))
    (.skip)))
  (.seq (.reg [⟨some 68, none, .mv (.t 0)⟩, 
      ⟨some 69, none, .call 22 [(3, (.t 68))]⟩, 
      ⟨some 70, none, .mv (.t 2)⟩, 
      ⟨some 71, none, .call 28 [(3, (.t 69)), (1, (.t 70))]⟩, 
      ⟨some 67, none, .mv (.t 71)⟩, 
      ⟨some 72, none, .ext (.t 67) 0⟩, 
      ⟨some 73, none, .ext (.t 67) 1⟩, 
      ⟨some 15, none, .mv (.t 72)⟩, 
      ⟨some 14, none, .mv (.t 73)⟩])
  (.seq (.seq (.reg [⟨some 74, none, .mv (.t 14)⟩, 
        ⟨some 75, none, .mv (.t 12)⟩, 
        ⟨some 76, none, .call 14 [(1, (.t 74)), (1, (.t 75))]⟩, 
        ⟨some 77, none, .un .not (.t 76)⟩, 
        ⟨some 78, none, .mv (.t 77)⟩, 
        ⟨some 79, some (78, false), .mv (.t 15)⟩, 
        ⟨some 80, some (78, false), .len (.t 79)⟩, 
        ⟨some 81, some (78, false), .mv (.t 11)⟩, 
        ⟨some 82, some (78, false), .len (.t 81)⟩, 
        ⟨some 83, some (78, false), .bin .neq (.t 80) (.t 82)⟩, 
        ⟨some 84, none, .pick (.t 78) (.k (.b true)) (.t 83)⟩])
    (.cond (.t 84)
    (.seq (.reg [⟨some 6, none, .mv (.k (.b false))⟩])
      (.ret))
    (.skip)))
  (.seq (.seq (.reg [⟨some 85, none, .mv (.t 11)⟩, 
        ⟨some 86, none, .len (.t 85)⟩, 
        ⟨some 87, none, .mv (.k (.i .i64 0))⟩])
    (.blk 0
    (.loop
      (.seq (.reg [⟨some 88, none, .bin .lss (.t 87) (.t 86)⟩])
        (.seq (.cond (.t 88)
          (.skip)
          (.exit 0))
        (.seq (.blk 1
          (.seq (.reg [⟨some 89, none, .mv (.t 87)⟩, 
                ⟨some 16, none, .mv (.t 89)⟩])
            (.seq (.dreg [⟨some 90, none, .mv (.t 15)⟩, 
                ⟨some 91, none, .mv (.t 16)⟩, 
                ⟨some 92, none, .idx 1 (.t 90) (.t 91)⟩, 
                ⟨some 93, none, .ld false 1 (.t 92)⟩, 
                ⟨some 94, none, .call 16 [(3, (.t 93))]⟩, 
                ⟨some 95, none, .mv (.t 11)⟩, 
                ⟨some 96, none, .mv (.t 16)⟩, 
                ⟨some 97, none, .idx 1 (.t 95) (.t 96)⟩, 
                ⟨some 98, none, .ld false 1 (.t 97)⟩, 
                ⟨some 99, none, .call 15 [(3, (.t 94)), (3, (.t 98))]⟩, 
                ⟨some 100, none, .un .not (.t 99)⟩])
            (.cond (.t 100)
            (.seq (.reg [⟨some 6, none, .mv (.k (.b false))⟩])
              (.ret))
            (.skip)))))
        (.reg [⟨some 101, none, .bin .add (.t 87) (.k (.i .i64 1))⟩, 
          ⟨some 87, none, .mv (.t 101)⟩])))))))
  (.seq (.reg [⟨some 6, none, .mv (.k (.b true))⟩])
  (.ret)))))))))))))
theorem lexNests_spec (ts : List Tk) (n : Int) (s : List UInt8) (hl : ts.length ≤ 10000000) (hm : s.length ≤ 9223372036854775807) : AFun Try.prog J0 7 [.l 3 (T ts), .i .i64 n, .s s] (.b true) := by
  refine AFun.mk fol J0s Try.func7 rfl (ac := a7) (by kernel_rfl) rfl rfl ?_
  apply vm_start
  unfold a7
  have c1 : -9223372036854775808 ≤ (nestG ts 0 0).2 ∧ (nestG ts 0 0).2 < 9223372036854775808 := by rcases nest_code ts 0 0 with h | h <;> omega
  have c2 : -9223372036854775808 ≤ (matchR ts n).2 ∧ (matchR ts n).2 < 9223372036854775808 := by rcases matchR_code ts n with h | h | h <;> omega
  have c3 : -9223372036854775808 ≤ (splitR ts s).2 ∧ (splitR ts s).2 < 9223372036854775808 := by rcases splitR_code ts s with h | h | h <;> omega
  have hsl := splitR_len ts s
  have hse := splitR_each ts s
  have sp1 := rsplit_spec ts s hl hm
  have sp2 := split_spec ts s hl hm
  generalize splitR ts s = sp at *
  obtain ⟨ps, c⟩ := sp
  simp only [] at c3 hsl hse sp1 sp2
  repeat first | (refine hK _ ?_; clear hK K) | simp only [Sv, ↓reduceIte, Nat.reduceEqDiff] | ((first | refine vm_reg (fun K hK => ?_) | refine vm_dreg (fun K hK => ?_)); simp (disch := (first | omega | assumption)) only [initS, initE, Sw, Sx, Sb, pure_s2b, ↓reduceIte, Nat.reduceEqDiff, Nat.reduceAdd, Nat.reduceMul, Nat.reduceDiv, AOp.sb, AOp.mut, ↓Bool.false_eq_true, beq_self_eq_true, ite_self, decide_eq_true_eq, decide_true, decide_false, Nat.reduceLeDiff, c0, c1, c2, c3, c13, Int.cast_ofNat_Int, Int.reduceEq, Int.reduceSub, Int.reduceAdd, Int.reduceNeg, Int.reduceLT, Int.reduceLE, Nat.reduceLT, wi, tn_nat, tn0, Nat.div_one, Nat.mul_one, T_len, m3, T_row, T_nf, T_app1, Tv_nf, PT_len, PT_app1, chk_of])
  refine clp_of _ _ (awake_spec) ?_ ?_
  · first | rfl | (simp (disch := (first | omega | assumption)) only [initS, initE, Sw, Sx, Sb, pure_s2b, ↓reduceIte, Nat.reduceEqDiff, Nat.reduceAdd, Nat.reduceMul, Nat.reduceDiv, AOp.sb, AOp.mut, ↓Bool.false_eq_true, beq_self_eq_true, ite_self, decide_eq_true_eq, decide_true, decide_false, Nat.reduceLeDiff, c0, c1, c2, c3, c13, Int.cast_ofNat_Int, Int.reduceEq, Int.reduceSub, Int.reduceAdd, Int.reduceNeg, Int.reduceLT, Int.reduceLE, Nat.reduceLT, wi, tn_nat, tn0, Nat.div_one, Nat.mul_one, T_len, m3, T_row, T_nf, T_app1, Tv_nf, PT_len, PT_app1, chk_of])
  simp (disch := (first | omega | assumption)) only [initS, initE, Sw, Sx, Sb, pure_s2b, ↓reduceIte, Nat.reduceEqDiff, Nat.reduceAdd, Nat.reduceMul, Nat.reduceDiv, AOp.sb, AOp.mut, ↓Bool.false_eq_true, beq_self_eq_true, ite_self, decide_eq_true_eq, decide_true, decide_false, Nat.reduceLeDiff, c0, c1, c2, c3, c13, Int.cast_ofNat_Int, Int.reduceEq, Int.reduceSub, Int.reduceAdd, Int.reduceNeg, Int.reduceLT, Int.reduceLE, Nat.reduceLT, wi, tn_nat, tn0, Nat.div_one, Nat.mul_one, T_len, m3, T_row, T_nf, T_app1, Tv_nf, PT_len, PT_app1, chk_of]
  repeat first | (refine hK _ ?_; clear hK K) | simp only [Sv, ↓reduceIte, Nat.reduceEqDiff] | ((first | refine vm_reg (fun K hK => ?_) | refine vm_dreg (fun K hK => ?_)); simp (disch := (first | omega | assumption)) only [initS, initE, Sw, Sx, Sb, pure_s2b, ↓reduceIte, Nat.reduceEqDiff, Nat.reduceAdd, Nat.reduceMul, Nat.reduceDiv, AOp.sb, AOp.mut, ↓Bool.false_eq_true, beq_self_eq_true, ite_self, decide_eq_true_eq, decide_true, decide_false, Nat.reduceLeDiff, c0, c1, c2, c3, c13, Int.cast_ofNat_Int, Int.reduceEq, Int.reduceSub, Int.reduceAdd, Int.reduceNeg, Int.reduceLT, Int.reduceLE, Nat.reduceLT, wi, tn_nat, tn0, Nat.div_one, Nat.mul_one, T_len, m3, T_row, T_nf, T_app1, Tv_nf, PT_len, PT_app1, chk_of])
  refine clp_of _ _ (rnest_spec ts (by omega)) ?_ ?_
  · first | rfl | (simp (disch := (first | omega | assumption)) only [initS, initE, Sw, Sx, Sb, pure_s2b, ↓reduceIte, Nat.reduceEqDiff, Nat.reduceAdd, Nat.reduceMul, Nat.reduceDiv, AOp.sb, AOp.mut, ↓Bool.false_eq_true, beq_self_eq_true, ite_self, decide_eq_true_eq, decide_true, decide_false, Nat.reduceLeDiff, c0, c1, c2, c3, c13, Int.cast_ofNat_Int, Int.reduceEq, Int.reduceSub, Int.reduceAdd, Int.reduceNeg, Int.reduceLT, Int.reduceLE, Nat.reduceLT, wi, tn_nat, tn0, Nat.div_one, Nat.mul_one, T_len, m3, T_row, T_nf, T_app1, Tv_nf, PT_len, PT_app1, chk_of])
  simp (disch := (first | omega | assumption)) only [initS, initE, Sw, Sx, Sb, pure_s2b, ↓reduceIte, Nat.reduceEqDiff, Nat.reduceAdd, Nat.reduceMul, Nat.reduceDiv, AOp.sb, AOp.mut, ↓Bool.false_eq_true, beq_self_eq_true, ite_self, decide_eq_true_eq, decide_true, decide_false, Nat.reduceLeDiff, c0, c1, c2, c3, c13, Int.cast_ofNat_Int, Int.reduceEq, Int.reduceSub, Int.reduceAdd, Int.reduceNeg, Int.reduceLT, Int.reduceLE, Nat.reduceLT, wi, tn_nat, tn0, Nat.div_one, Nat.mul_one, T_len, m3, T_row, T_nf, T_app1, Tv_nf, PT_len, PT_app1, chk_of]
  repeat first | (refine hK _ ?_; clear hK K) | simp only [Sv, ↓reduceIte, Nat.reduceEqDiff] | ((first | refine vm_reg (fun K hK => ?_) | refine vm_dreg (fun K hK => ?_)); simp (disch := (first | omega | assumption)) only [initS, initE, Sw, Sx, Sb, pure_s2b, ↓reduceIte, Nat.reduceEqDiff, Nat.reduceAdd, Nat.reduceMul, Nat.reduceDiv, AOp.sb, AOp.mut, ↓Bool.false_eq_true, beq_self_eq_true, ite_self, decide_eq_true_eq, decide_true, decide_false, Nat.reduceLeDiff, c0, c1, c2, c3, c13, Int.cast_ofNat_Int, Int.reduceEq, Int.reduceSub, Int.reduceAdd, Int.reduceNeg, Int.reduceLT, Int.reduceLE, Nat.reduceLT, wi, tn_nat, tn0, Nat.div_one, Nat.mul_one, T_len, m3, T_row, T_nf, T_app1, Tv_nf, PT_len, PT_app1, chk_of])
  refine clp_of _ _ (rmatch_spec ts n (by omega)) ?_ ?_
  · first | rfl | (simp (disch := (first | omega | assumption)) only [initS, initE, Sw, Sx, Sb, pure_s2b, ↓reduceIte, Nat.reduceEqDiff, Nat.reduceAdd, Nat.reduceMul, Nat.reduceDiv, AOp.sb, AOp.mut, ↓Bool.false_eq_true, beq_self_eq_true, ite_self, decide_eq_true_eq, decide_true, decide_false, Nat.reduceLeDiff, c0, c1, c2, c3, c13, Int.cast_ofNat_Int, Int.reduceEq, Int.reduceSub, Int.reduceAdd, Int.reduceNeg, Int.reduceLT, Int.reduceLE, Nat.reduceLT, wi, tn_nat, tn0, Nat.div_one, Nat.mul_one, T_len, m3, T_row, T_nf, T_app1, Tv_nf, PT_len, PT_app1, chk_of])
  simp (disch := (first | omega | assumption)) only [initS, initE, Sw, Sx, Sb, pure_s2b, ↓reduceIte, Nat.reduceEqDiff, Nat.reduceAdd, Nat.reduceMul, Nat.reduceDiv, AOp.sb, AOp.mut, ↓Bool.false_eq_true, beq_self_eq_true, ite_self, decide_eq_true_eq, decide_true, decide_false, Nat.reduceLeDiff, c0, c1, c2, c3, c13, Int.cast_ofNat_Int, Int.reduceEq, Int.reduceSub, Int.reduceAdd, Int.reduceNeg, Int.reduceLT, Int.reduceLE, Nat.reduceLT, wi, tn_nat, tn0, Nat.div_one, Nat.mul_one, T_len, m3, T_row, T_nf, T_app1, Tv_nf, PT_len, PT_app1, chk_of]
  repeat first | (refine hK _ ?_; clear hK K) | simp only [Sv, ↓reduceIte, Nat.reduceEqDiff] | ((first | refine vm_reg (fun K hK => ?_) | refine vm_dreg (fun K hK => ?_)); simp (disch := (first | omega | assumption)) only [initS, initE, Sw, Sx, Sb, pure_s2b, ↓reduceIte, Nat.reduceEqDiff, Nat.reduceAdd, Nat.reduceMul, Nat.reduceDiv, AOp.sb, AOp.mut, ↓Bool.false_eq_true, beq_self_eq_true, ite_self, decide_eq_true_eq, decide_true, decide_false, Nat.reduceLeDiff, c0, c1, c2, c3, c13, Int.cast_ofNat_Int, Int.reduceEq, Int.reduceSub, Int.reduceAdd, Int.reduceNeg, Int.reduceLT, Int.reduceLE, Nat.reduceLT, wi, tn_nat, tn0, Nat.div_one, Nat.mul_one, T_len, m3, T_row, T_nf, T_app1, Tv_nf, PT_len, PT_app1, chk_of])
  refine clp_of _ _ (sp1) ?_ ?_
  · first | rfl | (simp (disch := (first | omega | assumption)) only [initS, initE, Sw, Sx, Sb, pure_s2b, ↓reduceIte, Nat.reduceEqDiff, Nat.reduceAdd, Nat.reduceMul, Nat.reduceDiv, AOp.sb, AOp.mut, ↓Bool.false_eq_true, beq_self_eq_true, ite_self, decide_eq_true_eq, decide_true, decide_false, Nat.reduceLeDiff, c0, c1, c2, c3, c13, Int.cast_ofNat_Int, Int.reduceEq, Int.reduceSub, Int.reduceAdd, Int.reduceNeg, Int.reduceLT, Int.reduceLE, Nat.reduceLT, wi, tn_nat, tn0, Nat.div_one, Nat.mul_one, T_len, m3, T_row, T_nf, T_app1, Tv_nf, PT_len, PT_app1, chk_of])
  simp (disch := (first | omega | assumption)) only [initS, initE, Sw, Sx, Sb, pure_s2b, ↓reduceIte, Nat.reduceEqDiff, Nat.reduceAdd, Nat.reduceMul, Nat.reduceDiv, AOp.sb, AOp.mut, ↓Bool.false_eq_true, beq_self_eq_true, ite_self, decide_eq_true_eq, decide_true, decide_false, Nat.reduceLeDiff, c0, c1, c2, c3, c13, Int.cast_ofNat_Int, Int.reduceEq, Int.reduceSub, Int.reduceAdd, Int.reduceNeg, Int.reduceLT, Int.reduceLE, Nat.reduceLT, wi, tn_nat, tn0, Nat.div_one, Nat.mul_one, T_len, m3, T_row, T_nf, T_app1, Tv_nf, PT_len, PT_app1, chk_of]
  repeat first | (refine hK _ ?_; clear hK K) | simp only [Sv, ↓reduceIte, Nat.reduceEqDiff] | ((first | refine vm_reg (fun K hK => ?_) | refine vm_dreg (fun K hK => ?_)); simp (disch := (first | omega | assumption)) only [initS, initE, Sw, Sx, Sb, pure_s2b, ↓reduceIte, Nat.reduceEqDiff, Nat.reduceAdd, Nat.reduceMul, Nat.reduceDiv, AOp.sb, AOp.mut, ↓Bool.false_eq_true, beq_self_eq_true, ite_self, decide_eq_true_eq, decide_true, decide_false, Nat.reduceLeDiff, c0, c1, c2, c3, c13, Int.cast_ofNat_Int, Int.reduceEq, Int.reduceSub, Int.reduceAdd, Int.reduceNeg, Int.reduceLT, Int.reduceLE, Nat.reduceLT, wi, tn_nat, tn0, Nat.div_one, Nat.mul_one, T_len, m3, T_row, T_nf, T_app1, Tv_nf, PT_len, PT_app1, chk_of])
  refine clp_of _ _ (to_spec ts (by omega)) ?_ ?_
  · first | rfl | (simp (disch := (first | omega | assumption)) only [initS, initE, Sw, Sx, Sb, pure_s2b, ↓reduceIte, Nat.reduceEqDiff, Nat.reduceAdd, Nat.reduceMul, Nat.reduceDiv, AOp.sb, AOp.mut, ↓Bool.false_eq_true, beq_self_eq_true, ite_self, decide_eq_true_eq, decide_true, decide_false, Nat.reduceLeDiff, c0, c1, c2, c3, c13, Int.cast_ofNat_Int, Int.reduceEq, Int.reduceSub, Int.reduceAdd, Int.reduceNeg, Int.reduceLT, Int.reduceLE, Nat.reduceLT, wi, tn_nat, tn0, Nat.div_one, Nat.mul_one, T_len, m3, T_row, T_nf, T_app1, Tv_nf, PT_len, PT_app1, chk_of])
  simp (disch := (first | omega | assumption)) only [initS, initE, Sw, Sx, Sb, pure_s2b, ↓reduceIte, Nat.reduceEqDiff, Nat.reduceAdd, Nat.reduceMul, Nat.reduceDiv, AOp.sb, AOp.mut, ↓Bool.false_eq_true, beq_self_eq_true, ite_self, decide_eq_true_eq, decide_true, decide_false, Nat.reduceLeDiff, c0, c1, c2, c3, c13, Int.cast_ofNat_Int, Int.reduceEq, Int.reduceSub, Int.reduceAdd, Int.reduceNeg, Int.reduceLT, Int.reduceLE, Nat.reduceLT, wi, tn_nat, tn0, Nat.div_one, Nat.mul_one, T_len, m3, T_row, T_nf, T_app1, Tv_nf, PT_len, PT_app1, chk_of]
  repeat first | (refine hK _ ?_; clear hK K) | simp only [Sv, ↓reduceIte, Nat.reduceEqDiff] | ((first | refine vm_reg (fun K hK => ?_) | refine vm_dreg (fun K hK => ?_)); simp (disch := (first | omega | assumption)) only [initS, initE, Sw, Sx, Sb, pure_s2b, ↓reduceIte, Nat.reduceEqDiff, Nat.reduceAdd, Nat.reduceMul, Nat.reduceDiv, AOp.sb, AOp.mut, ↓Bool.false_eq_true, beq_self_eq_true, ite_self, decide_eq_true_eq, decide_true, decide_false, Nat.reduceLeDiff, c0, c1, c2, c3, c13, Int.cast_ofNat_Int, Int.reduceEq, Int.reduceSub, Int.reduceAdd, Int.reduceNeg, Int.reduceLT, Int.reduceLE, Nat.reduceLT, wi, tn_nat, tn0, Nat.div_one, Nat.mul_one, T_len, m3, T_row, T_nf, T_app1, Tv_nf, PT_len, PT_app1, chk_of])
  refine clp_of _ _ (nest_spec ts (by omega)) ?_ ?_
  · first | rfl | (simp (disch := (first | omega | assumption)) only [initS, initE, Sw, Sx, Sb, pure_s2b, ↓reduceIte, Nat.reduceEqDiff, Nat.reduceAdd, Nat.reduceMul, Nat.reduceDiv, AOp.sb, AOp.mut, ↓Bool.false_eq_true, beq_self_eq_true, ite_self, decide_eq_true_eq, decide_true, decide_false, Nat.reduceLeDiff, c0, c1, c2, c3, c13, Int.cast_ofNat_Int, Int.reduceEq, Int.reduceSub, Int.reduceAdd, Int.reduceNeg, Int.reduceLT, Int.reduceLE, Nat.reduceLT, wi, tn_nat, tn0, Nat.div_one, Nat.mul_one, T_len, m3, T_row, T_nf, T_app1, Tv_nf, PT_len, PT_app1, chk_of])
  simp (disch := (first | omega | assumption)) only [initS, initE, Sw, Sx, Sb, pure_s2b, ↓reduceIte, Nat.reduceEqDiff, Nat.reduceAdd, Nat.reduceMul, Nat.reduceDiv, AOp.sb, AOp.mut, ↓Bool.false_eq_true, beq_self_eq_true, ite_self, decide_eq_true_eq, decide_true, decide_false, Nat.reduceLeDiff, c0, c1, c2, c3, c13, Int.cast_ofNat_Int, Int.reduceEq, Int.reduceSub, Int.reduceAdd, Int.reduceNeg, Int.reduceLT, Int.reduceLE, Nat.reduceLT, wi, tn_nat, tn0, Nat.div_one, Nat.mul_one, T_len, m3, T_row, T_nf, T_app1, Tv_nf, PT_len, PT_app1, chk_of]
  repeat first | (refine hK _ ?_; clear hK K) | simp only [Sv, ↓reduceIte, Nat.reduceEqDiff] | ((first | refine vm_reg (fun K hK => ?_) | refine vm_dreg (fun K hK => ?_)); simp (disch := (first | omega | assumption)) only [initS, initE, Sw, Sx, Sb, pure_s2b, ↓reduceIte, Nat.reduceEqDiff, Nat.reduceAdd, Nat.reduceMul, Nat.reduceDiv, AOp.sb, AOp.mut, ↓Bool.false_eq_true, beq_self_eq_true, ite_self, decide_eq_true_eq, decide_true, decide_false, Nat.reduceLeDiff, c0, c1, c2, c3, c13, Int.cast_ofNat_Int, Int.reduceEq, Int.reduceSub, Int.reduceAdd, Int.reduceNeg, Int.reduceLT, Int.reduceLE, Nat.reduceLT, wi, tn_nat, tn0, Nat.div_one, Nat.mul_one, T_len, m3, T_row, T_nf, T_app1, Tv_nf, PT_len, PT_app1, chk_of])
  refine clp_of _ _ (plain_spec (nestG ts 0 0).2 (nestG ts 0 0).2 c1) ?_ ?_
  · first | rfl | (simp (disch := (first | omega | assumption)) only [initS, initE, Sw, Sx, Sb, pure_s2b, ↓reduceIte, Nat.reduceEqDiff, Nat.reduceAdd, Nat.reduceMul, Nat.reduceDiv, AOp.sb, AOp.mut, ↓Bool.false_eq_true, beq_self_eq_true, ite_self, decide_eq_true_eq, decide_true, decide_false, Nat.reduceLeDiff, c0, c1, c2, c3, c13, Int.cast_ofNat_Int, Int.reduceEq, Int.reduceSub, Int.reduceAdd, Int.reduceNeg, Int.reduceLT, Int.reduceLE, Nat.reduceLT, wi, tn_nat, tn0, Nat.div_one, Nat.mul_one, T_len, m3, T_row, T_nf, T_app1, Tv_nf, PT_len, PT_app1, chk_of])
  simp (disch := (first | omega | assumption)) only [initS, initE, Sw, Sx, Sb, pure_s2b, ↓reduceIte, Nat.reduceEqDiff, Nat.reduceAdd, Nat.reduceMul, Nat.reduceDiv, AOp.sb, AOp.mut, ↓Bool.false_eq_true, beq_self_eq_true, ite_self, decide_eq_true_eq, decide_true, decide_false, Nat.reduceLeDiff, c0, c1, c2, c3, c13, Int.cast_ofNat_Int, Int.reduceEq, Int.reduceSub, Int.reduceAdd, Int.reduceNeg, Int.reduceLT, Int.reduceLE, Nat.reduceLT, wi, tn_nat, tn0, Nat.div_one, Nat.mul_one, T_len, m3, T_row, T_nf, T_app1, Tv_nf, PT_len, PT_app1, chk_of]
  repeat first | (refine hK _ ?_; clear hK K) | simp only [Sv, ↓reduceIte, Nat.reduceEqDiff] | ((first | refine vm_reg (fun K hK => ?_) | refine vm_dreg (fun K hK => ?_)); simp (disch := (first | omega | assumption)) only [initS, initE, Sw, Sx, Sb, pure_s2b, ↓reduceIte, Nat.reduceEqDiff, Nat.reduceAdd, Nat.reduceMul, Nat.reduceDiv, AOp.sb, AOp.mut, ↓Bool.false_eq_true, beq_self_eq_true, ite_self, decide_eq_true_eq, decide_true, decide_false, Nat.reduceLeDiff, c0, c1, c2, c3, c13, Int.cast_ofNat_Int, Int.reduceEq, Int.reduceSub, Int.reduceAdd, Int.reduceNeg, Int.reduceLT, Int.reduceLE, Nat.reduceLT, wi, tn_nat, tn0, Nat.div_one, Nat.mul_one, T_len, m3, T_row, T_nf, T_app1, Tv_nf, PT_len, PT_app1, chk_of])
  refine clp_of _ _ (to_spec ts (by omega)) ?_ ?_
  · first | rfl | (simp (disch := (first | omega | assumption)) only [initS, initE, Sw, Sx, Sb, pure_s2b, ↓reduceIte, Nat.reduceEqDiff, Nat.reduceAdd, Nat.reduceMul, Nat.reduceDiv, AOp.sb, AOp.mut, ↓Bool.false_eq_true, beq_self_eq_true, ite_self, decide_eq_true_eq, decide_true, decide_false, Nat.reduceLeDiff, c0, c1, c2, c3, c13, Int.cast_ofNat_Int, Int.reduceEq, Int.reduceSub, Int.reduceAdd, Int.reduceNeg, Int.reduceLT, Int.reduceLE, Nat.reduceLT, wi, tn_nat, tn0, Nat.div_one, Nat.mul_one, T_len, m3, T_row, T_nf, T_app1, Tv_nf, PT_len, PT_app1, chk_of])
  simp (disch := (first | omega | assumption)) only [initS, initE, Sw, Sx, Sb, pure_s2b, ↓reduceIte, Nat.reduceEqDiff, Nat.reduceAdd, Nat.reduceMul, Nat.reduceDiv, AOp.sb, AOp.mut, ↓Bool.false_eq_true, beq_self_eq_true, ite_self, decide_eq_true_eq, decide_true, decide_false, Nat.reduceLeDiff, c0, c1, c2, c3, c13, Int.cast_ofNat_Int, Int.reduceEq, Int.reduceSub, Int.reduceAdd, Int.reduceNeg, Int.reduceLT, Int.reduceLE, Nat.reduceLT, wi, tn_nat, tn0, Nat.div_one, Nat.mul_one, T_len, m3, T_row, T_nf, T_app1, Tv_nf, PT_len, PT_app1, chk_of]
  repeat first | (refine hK _ ?_; clear hK K) | simp only [Sv, ↓reduceIte, Nat.reduceEqDiff] | ((first | refine vm_reg (fun K hK => ?_) | refine vm_dreg (fun K hK => ?_)); simp (disch := (first | omega | assumption)) only [initS, initE, Sw, Sx, Sb, pure_s2b, ↓reduceIte, Nat.reduceEqDiff, Nat.reduceAdd, Nat.reduceMul, Nat.reduceDiv, AOp.sb, AOp.mut, ↓Bool.false_eq_true, beq_self_eq_true, ite_self, decide_eq_true_eq, decide_true, decide_false, Nat.reduceLeDiff, c0, c1, c2, c3, c13, Int.cast_ofNat_Int, Int.reduceEq, Int.reduceSub, Int.reduceAdd, Int.reduceNeg, Int.reduceLT, Int.reduceLE, Nat.reduceLT, wi, tn_nat, tn0, Nat.div_one, Nat.mul_one, T_len, m3, T_row, T_nf, T_app1, Tv_nf, PT_len, PT_app1, chk_of])
  refine clp_of _ _ (match_spec ts n (by omega)) ?_ ?_
  · first | rfl | (simp (disch := (first | omega | assumption)) only [initS, initE, Sw, Sx, Sb, pure_s2b, ↓reduceIte, Nat.reduceEqDiff, Nat.reduceAdd, Nat.reduceMul, Nat.reduceDiv, AOp.sb, AOp.mut, ↓Bool.false_eq_true, beq_self_eq_true, ite_self, decide_eq_true_eq, decide_true, decide_false, Nat.reduceLeDiff, c0, c1, c2, c3, c13, Int.cast_ofNat_Int, Int.reduceEq, Int.reduceSub, Int.reduceAdd, Int.reduceNeg, Int.reduceLT, Int.reduceLE, Nat.reduceLT, wi, tn_nat, tn0, Nat.div_one, Nat.mul_one, T_len, m3, T_row, T_nf, T_app1, Tv_nf, PT_len, PT_app1, chk_of])
  simp (disch := (first | omega | assumption)) only [initS, initE, Sw, Sx, Sb, pure_s2b, ↓reduceIte, Nat.reduceEqDiff, Nat.reduceAdd, Nat.reduceMul, Nat.reduceDiv, AOp.sb, AOp.mut, ↓Bool.false_eq_true, beq_self_eq_true, ite_self, decide_eq_true_eq, decide_true, decide_false, Nat.reduceLeDiff, c0, c1, c2, c3, c13, Int.cast_ofNat_Int, Int.reduceEq, Int.reduceSub, Int.reduceAdd, Int.reduceNeg, Int.reduceLT, Int.reduceLE, Nat.reduceLT, wi, tn_nat, tn0, Nat.div_one, Nat.mul_one, T_len, m3, T_row, T_nf, T_app1, Tv_nf, PT_len, PT_app1, chk_of]
  repeat first | (refine hK _ ?_; clear hK K) | simp only [Sv, ↓reduceIte, Nat.reduceEqDiff] | ((first | refine vm_reg (fun K hK => ?_) | refine vm_dreg (fun K hK => ?_)); simp (disch := (first | omega | assumption)) only [initS, initE, Sw, Sx, Sb, pure_s2b, ↓reduceIte, Nat.reduceEqDiff, Nat.reduceAdd, Nat.reduceMul, Nat.reduceDiv, AOp.sb, AOp.mut, ↓Bool.false_eq_true, beq_self_eq_true, ite_self, decide_eq_true_eq, decide_true, decide_false, Nat.reduceLeDiff, c0, c1, c2, c3, c13, Int.cast_ofNat_Int, Int.reduceEq, Int.reduceSub, Int.reduceAdd, Int.reduceNeg, Int.reduceLT, Int.reduceLE, Nat.reduceLT, wi, tn_nat, tn0, Nat.div_one, Nat.mul_one, T_len, m3, T_row, T_nf, T_app1, Tv_nf, PT_len, PT_app1, chk_of])
  refine clp_of _ _ (plain_spec (matchR ts n).2 (matchR ts n).2 c2) ?_ ?_
  · first | rfl | (simp (disch := (first | omega | assumption)) only [initS, initE, Sw, Sx, Sb, pure_s2b, ↓reduceIte, Nat.reduceEqDiff, Nat.reduceAdd, Nat.reduceMul, Nat.reduceDiv, AOp.sb, AOp.mut, ↓Bool.false_eq_true, beq_self_eq_true, ite_self, decide_eq_true_eq, decide_true, decide_false, Nat.reduceLeDiff, c0, c1, c2, c3, c13, Int.cast_ofNat_Int, Int.reduceEq, Int.reduceSub, Int.reduceAdd, Int.reduceNeg, Int.reduceLT, Int.reduceLE, Nat.reduceLT, wi, tn_nat, tn0, Nat.div_one, Nat.mul_one, T_len, m3, T_row, T_nf, T_app1, Tv_nf, PT_len, PT_app1, chk_of])
  simp (disch := (first | omega | assumption)) only [initS, initE, Sw, Sx, Sb, pure_s2b, ↓reduceIte, Nat.reduceEqDiff, Nat.reduceAdd, Nat.reduceMul, Nat.reduceDiv, AOp.sb, AOp.mut, ↓Bool.false_eq_true, beq_self_eq_true, ite_self, decide_eq_true_eq, decide_true, decide_false, Nat.reduceLeDiff, c0, c1, c2, c3, c13, Int.cast_ofNat_Int, Int.reduceEq, Int.reduceSub, Int.reduceAdd, Int.reduceNeg, Int.reduceLT, Int.reduceLE, Nat.reduceLT, wi, tn_nat, tn0, Nat.div_one, Nat.mul_one, T_len, m3, T_row, T_nf, T_app1, Tv_nf, PT_len, PT_app1, chk_of]
  repeat first | (refine hK _ ?_; clear hK K) | simp only [Sv, ↓reduceIte, Nat.reduceEqDiff] | ((first | refine vm_reg (fun K hK => ?_) | refine vm_dreg (fun K hK => ?_)); simp (disch := (first | omega | assumption)) only [initS, initE, Sw, Sx, Sb, pure_s2b, ↓reduceIte, Nat.reduceEqDiff, Nat.reduceAdd, Nat.reduceMul, Nat.reduceDiv, AOp.sb, AOp.mut, ↓Bool.false_eq_true, beq_self_eq_true, ite_self, decide_eq_true_eq, decide_true, decide_false, Nat.reduceLeDiff, c0, c1, c2, c3, c13, Int.cast_ofNat_Int, Int.reduceEq, Int.reduceSub, Int.reduceAdd, Int.reduceNeg, Int.reduceLT, Int.reduceLE, Nat.reduceLT, wi, tn_nat, tn0, Nat.div_one, Nat.mul_one, T_len, m3, T_row, T_nf, T_app1, Tv_nf, PT_len, PT_app1, chk_of])
  refine clp_of _ _ (to_spec ts (by omega)) ?_ ?_
  · first | rfl | (simp (disch := (first | omega | assumption)) only [initS, initE, Sw, Sx, Sb, pure_s2b, ↓reduceIte, Nat.reduceEqDiff, Nat.reduceAdd, Nat.reduceMul, Nat.reduceDiv, AOp.sb, AOp.mut, ↓Bool.false_eq_true, beq_self_eq_true, ite_self, decide_eq_true_eq, decide_true, decide_false, Nat.reduceLeDiff, c0, c1, c2, c3, c13, Int.cast_ofNat_Int, Int.reduceEq, Int.reduceSub, Int.reduceAdd, Int.reduceNeg, Int.reduceLT, Int.reduceLE, Nat.reduceLT, wi, tn_nat, tn0, Nat.div_one, Nat.mul_one, T_len, m3, T_row, T_nf, T_app1, Tv_nf, PT_len, PT_app1, chk_of])
  simp (disch := (first | omega | assumption)) only [initS, initE, Sw, Sx, Sb, pure_s2b, ↓reduceIte, Nat.reduceEqDiff, Nat.reduceAdd, Nat.reduceMul, Nat.reduceDiv, AOp.sb, AOp.mut, ↓Bool.false_eq_true, beq_self_eq_true, ite_self, decide_eq_true_eq, decide_true, decide_false, Nat.reduceLeDiff, c0, c1, c2, c3, c13, Int.cast_ofNat_Int, Int.reduceEq, Int.reduceSub, Int.reduceAdd, Int.reduceNeg, Int.reduceLT, Int.reduceLE, Nat.reduceLT, wi, tn_nat, tn0, Nat.div_one, Nat.mul_one, T_len, m3, T_row, T_nf, T_app1, Tv_nf, PT_len, PT_app1, chk_of]
  repeat first | (refine hK _ ?_; clear hK K) | simp only [Sv, ↓reduceIte, Nat.reduceEqDiff] | ((first | refine vm_reg (fun K hK => ?_) | refine vm_dreg (fun K hK => ?_)); simp (disch := (first | omega | assumption)) only [initS, initE, Sw, Sx, Sb, pure_s2b, ↓reduceIte, Nat.reduceEqDiff, Nat.reduceAdd, Nat.reduceMul, Nat.reduceDiv, AOp.sb, AOp.mut, ↓Bool.false_eq_true, beq_self_eq_true, ite_self, decide_eq_true_eq, decide_true, decide_false, Nat.reduceLeDiff, c0, c1, c2, c3, c13, Int.cast_ofNat_Int, Int.reduceEq, Int.reduceSub, Int.reduceAdd, Int.reduceNeg, Int.reduceLT, Int.reduceLE, Nat.reduceLT, wi, tn_nat, tn0, Nat.div_one, Nat.mul_one, T_len, m3, T_row, T_nf, T_app1, Tv_nf, PT_len, PT_app1, chk_of])
  refine clp_of _ _ (sp2) ?_ ?_
  · first | rfl | (simp (disch := (first | omega | assumption)) only [initS, initE, Sw, Sx, Sb, pure_s2b, ↓reduceIte, Nat.reduceEqDiff, Nat.reduceAdd, Nat.reduceMul, Nat.reduceDiv, AOp.sb, AOp.mut, ↓Bool.false_eq_true, beq_self_eq_true, ite_self, decide_eq_true_eq, decide_true, decide_false, Nat.reduceLeDiff, c0, c1, c2, c3, c13, Int.cast_ofNat_Int, Int.reduceEq, Int.reduceSub, Int.reduceAdd, Int.reduceNeg, Int.reduceLT, Int.reduceLE, Nat.reduceLT, wi, tn_nat, tn0, Nat.div_one, Nat.mul_one, T_len, m3, T_row, T_nf, T_app1, Tv_nf, PT_len, PT_app1, chk_of])
  simp (disch := (first | omega | assumption)) only [initS, initE, Sw, Sx, Sb, pure_s2b, ↓reduceIte, Nat.reduceEqDiff, Nat.reduceAdd, Nat.reduceMul, Nat.reduceDiv, AOp.sb, AOp.mut, ↓Bool.false_eq_true, beq_self_eq_true, ite_self, decide_eq_true_eq, decide_true, decide_false, Nat.reduceLeDiff, c0, c1, c2, c3, c13, Int.cast_ofNat_Int, Int.reduceEq, Int.reduceSub, Int.reduceAdd, Int.reduceNeg, Int.reduceLT, Int.reduceLE, Nat.reduceLT, wi, tn_nat, tn0, Nat.div_one, Nat.mul_one, T_len, m3, T_row, T_nf, T_app1, Tv_nf, PT_len, PT_app1, chk_of]
  repeat first | (refine hK _ ?_; clear hK K) | simp only [Sv, ↓reduceIte, Nat.reduceEqDiff] | ((first | refine vm_reg (fun K hK => ?_) | refine vm_dreg (fun K hK => ?_)); simp (disch := (first | omega | assumption)) only [initS, initE, Sw, Sx, Sb, pure_s2b, ↓reduceIte, Nat.reduceEqDiff, Nat.reduceAdd, Nat.reduceMul, Nat.reduceDiv, AOp.sb, AOp.mut, ↓Bool.false_eq_true, beq_self_eq_true, ite_self, decide_eq_true_eq, decide_true, decide_false, Nat.reduceLeDiff, c0, c1, c2, c3, c13, Int.cast_ofNat_Int, Int.reduceEq, Int.reduceSub, Int.reduceAdd, Int.reduceNeg, Int.reduceLT, Int.reduceLE, Nat.reduceLT, wi, tn_nat, tn0, Nat.div_one, Nat.mul_one, T_len, m3, T_row, T_nf, T_app1, Tv_nf, PT_len, PT_app1, chk_of])
  refine clp_of _ _ (plain_spec c c c3) ?_ ?_
  · first | rfl | (simp (disch := (first | omega | assumption)) only [initS, initE, Sw, Sx, Sb, pure_s2b, ↓reduceIte, Nat.reduceEqDiff, Nat.reduceAdd, Nat.reduceMul, Nat.reduceDiv, AOp.sb, AOp.mut, ↓Bool.false_eq_true, beq_self_eq_true, ite_self, decide_eq_true_eq, decide_true, decide_false, Nat.reduceLeDiff, c0, c1, c2, c3, c13, Int.cast_ofNat_Int, Int.reduceEq, Int.reduceSub, Int.reduceAdd, Int.reduceNeg, Int.reduceLT, Int.reduceLE, Nat.reduceLT, wi, tn_nat, tn0, Nat.div_one, Nat.mul_one, T_len, m3, T_row, T_nf, T_app1, Tv_nf, PT_len, PT_app1, chk_of])
  simp (disch := (first | omega | assumption)) only [initS, initE, Sw, Sx, Sb, pure_s2b, ↓reduceIte, Nat.reduceEqDiff, Nat.reduceAdd, Nat.reduceMul, Nat.reduceDiv, AOp.sb, AOp.mut, ↓Bool.false_eq_true, beq_self_eq_true, ite_self, decide_eq_true_eq, decide_true, decide_false, Nat.reduceLeDiff, c0, c1, c2, c3, c13, Int.cast_ofNat_Int, Int.reduceEq, Int.reduceSub, Int.reduceAdd, Int.reduceNeg, Int.reduceLT, Int.reduceLE, Nat.reduceLT, wi, tn_nat, tn0, Nat.div_one, Nat.mul_one, T_len, m3, T_row, T_nf, T_app1, Tv_nf, PT_len, PT_app1, chk_of]
  repeat first
    | (refine hK _ ?_; clear hK K)
    | ((first | refine vm_reg (fun K hK => ?_) | refine vm_dreg (fun K hK => ?_)); simp (disch := (first | omega | assumption)) only [initS, initE, Sw, Sx, Sb, pure_s2b, ↓reduceIte, Nat.reduceEqDiff, Nat.reduceAdd, Nat.reduceMul, Nat.reduceDiv, AOp.sb, AOp.mut, ↓Bool.false_eq_true, beq_self_eq_true, ite_self, decide_eq_true_eq, decide_true, decide_false, Nat.reduceLeDiff, c0, c1, c2, c3, c13, Int.cast_ofNat_Int, Int.reduceEq, Int.reduceSub, Int.reduceAdd, Int.reduceNeg, Int.reduceLT, Int.reduceLE, Nat.reduceLT, wi, tn_nat, tn0, Nat.div_one, Nat.mul_one, T_len, m3, T_row, T_nf, T_app1, Tv_nf, PT_len, PT_app1, chk_of]; refine hK _ ?_; clear hK K)
    | simp only [Sv, ↓reduceIte, Nat.reduceEqDiff]
  refine vm_loopA [] Nat (fun k => ⟨[(11, .l 1 (PT ps)), (15, .l 1 (PT ps)), (86, .i .i64 (ps.length : Int)), (87, .i .i64 (k : Int))], [], 0⟩) (fun k => k ≤ ps.length) (fun k => ps.length - k) 0 (Nat.zero_le _) (by simp (disch := (first | omega | assumption)) only [Sl, Sa, Sw, ↓reduceIte, Nat.reduceEqDiff, Nat.reduceLT, List.all_nil, List.all_cons, Nat.reduceBneDiff, Nat.reduceAdd, bne_iff_ne, ne_eq, reduceCtorEq, not_false_eq_true, not_true_eq_false, Bool.and_true, Bool.true_and, and_true, true_and, and_self]) (by
    simp (disch := (first | omega | assumption)) only [Sl, Sa, Sw, ↓reduceIte, Nat.reduceEqDiff, Nat.reduceLT, List.all_nil, List.all_cons, Nat.reduceBneDiff, Nat.reduceAdd, bne_iff_ne, ne_eq, reduceCtorEq, not_false_eq_true, not_true_eq_false, Bool.and_true, Bool.true_and, and_true, true_and, and_self, i_eq]
    repeat' first | rfl | omega | (simp only [List.length_append, List.length_cons, List.length_nil]; done) | apply And.intro) ?_
  intro k hk Q' hQ he hr
  by_cases hlt : (k : Int) < ps.length
  · have hpk := hse k
    repeat first | (refine hK _ ?_; clear hK K) | simp only [Sv, ↓reduceIte, Nat.reduceEqDiff] | ((first | refine vm_reg (fun K hK => ?_) | refine vm_dreg (fun K hK => ?_)); simp (disch := (first | omega | assumption)) only [initS, initE, Sw, Sx, Sb, pure_s2b, ↓reduceIte, Nat.reduceEqDiff, Nat.reduceAdd, Nat.reduceMul, Nat.reduceDiv, AOp.sb, AOp.mut, ↓Bool.false_eq_true, beq_self_eq_true, ite_self, decide_eq_true_eq, decide_true, decide_false, Nat.reduceLeDiff, c0, c1, c2, c3, c13, Int.cast_ofNat_Int, Int.reduceEq, Int.reduceSub, Int.reduceAdd, Int.reduceNeg, Int.reduceLT, Int.reduceLE, Nat.reduceLT, wi, tn_nat, tn0, Nat.div_one, Nat.mul_one, T_len, m3, T_row, T_nf, T_app1, Tv_nf, PT_len, PT_app1, chk_of, hlt, PT_get])
    refine clp_of _ _ (from_spec (ps.getD k []) (by omega)) ?_ ?_
    · first | rfl | (simp (disch := (first | omega | assumption)) only [initS, initE, Sw, Sx, Sb, pure_s2b, ↓reduceIte, Nat.reduceEqDiff, Nat.reduceAdd, Nat.reduceMul, Nat.reduceDiv, AOp.sb, AOp.mut, ↓Bool.false_eq_true, beq_self_eq_true, ite_self, decide_eq_true_eq, decide_true, decide_false, Nat.reduceLeDiff, c0, c1, c2, c3, c13, Int.cast_ofNat_Int, Int.reduceEq, Int.reduceSub, Int.reduceAdd, Int.reduceNeg, Int.reduceLT, Int.reduceLE, Nat.reduceLT, wi, tn_nat, tn0, Nat.div_one, Nat.mul_one, T_len, m3, T_row, T_nf, T_app1, Tv_nf, PT_len, PT_app1, chk_of, hlt, PT_get])
    simp (disch := (first | omega | assumption)) only [initS, initE, Sw, Sx, Sb, pure_s2b, ↓reduceIte, Nat.reduceEqDiff, Nat.reduceAdd, Nat.reduceMul, Nat.reduceDiv, AOp.sb, AOp.mut, ↓Bool.false_eq_true, beq_self_eq_true, ite_self, decide_eq_true_eq, decide_true, decide_false, Nat.reduceLeDiff, c0, c1, c2, c3, c13, Int.cast_ofNat_Int, Int.reduceEq, Int.reduceSub, Int.reduceAdd, Int.reduceNeg, Int.reduceLT, Int.reduceLE, Nat.reduceLT, wi, tn_nat, tn0, Nat.div_one, Nat.mul_one, T_len, m3, T_row, T_nf, T_app1, Tv_nf, PT_len, PT_app1, chk_of, hlt, PT_get]
    repeat first | (refine hK _ ?_; clear hK K) | simp only [Sv, ↓reduceIte, Nat.reduceEqDiff] | ((first | refine vm_reg (fun K hK => ?_) | refine vm_dreg (fun K hK => ?_)); simp (disch := (first | omega | assumption)) only [initS, initE, Sw, Sx, Sb, pure_s2b, ↓reduceIte, Nat.reduceEqDiff, Nat.reduceAdd, Nat.reduceMul, Nat.reduceDiv, AOp.sb, AOp.mut, ↓Bool.false_eq_true, beq_self_eq_true, ite_self, decide_eq_true_eq, decide_true, decide_false, Nat.reduceLeDiff, c0, c1, c2, c3, c13, Int.cast_ofNat_Int, Int.reduceEq, Int.reduceSub, Int.reduceAdd, Int.reduceNeg, Int.reduceLT, Int.reduceLE, Nat.reduceLT, wi, tn_nat, tn0, Nat.div_one, Nat.mul_one, T_len, m3, T_row, T_nf, T_app1, Tv_nf, PT_len, PT_app1, chk_of, PT_get])
    refine clp_of _ _ (same_spec (ps.getD k []) (ps.getD k []) (by omega) (by omega)) ?_ ?_
    · first | rfl | (simp (disch := (first | omega | assumption)) only [initS, initE, Sw, Sx, Sb, pure_s2b, ↓reduceIte, Nat.reduceEqDiff, Nat.reduceAdd, Nat.reduceMul, Nat.reduceDiv, AOp.sb, AOp.mut, ↓Bool.false_eq_true, beq_self_eq_true, ite_self, decide_eq_true_eq, decide_true, decide_false, Nat.reduceLeDiff, c0, c1, c2, c3, c13, Int.cast_ofNat_Int, Int.reduceEq, Int.reduceSub, Int.reduceAdd, Int.reduceNeg, Int.reduceLT, Int.reduceLE, Nat.reduceLT, wi, tn_nat, tn0, Nat.div_one, Nat.mul_one, T_len, m3, T_row, T_nf, T_app1, Tv_nf, PT_len, PT_app1, chk_of, PT_get])
    simp (disch := (first | omega | assumption)) only [initS, initE, Sw, Sx, Sb, pure_s2b, ↓reduceIte, Nat.reduceEqDiff, Nat.reduceAdd, Nat.reduceMul, Nat.reduceDiv, AOp.sb, AOp.mut, ↓Bool.false_eq_true, beq_self_eq_true, ite_self, decide_eq_true_eq, decide_true, decide_false, Nat.reduceLeDiff, c0, c1, c2, c3, c13, Int.cast_ofNat_Int, Int.reduceEq, Int.reduceSub, Int.reduceAdd, Int.reduceNeg, Int.reduceLT, Int.reduceLE, Nat.reduceLT, wi, tn_nat, tn0, Nat.div_one, Nat.mul_one, T_len, m3, T_row, T_nf, T_app1, Tv_nf, PT_len, PT_app1, chk_of, PT_get]
    repeat first
      | (refine hK _ ?_; clear hK K)
      | ((first | refine vm_reg (fun K hK => ?_) | refine vm_dreg (fun K hK => ?_)); simp (disch := (first | omega | assumption)) only [initS, initE, Sw, Sx, Sb, pure_s2b, ↓reduceIte, Nat.reduceEqDiff, Nat.reduceAdd, Nat.reduceMul, Nat.reduceDiv, AOp.sb, AOp.mut, ↓Bool.false_eq_true, beq_self_eq_true, ite_self, decide_eq_true_eq, decide_true, decide_false, Nat.reduceLeDiff, c0, c1, c2, c3, c13, Int.cast_ofNat_Int, Int.reduceEq, Int.reduceSub, Int.reduceAdd, Int.reduceNeg, Int.reduceLT, Int.reduceLE, Nat.reduceLT, wi, tn_nat, tn0, Nat.div_one, Nat.mul_one, T_len, m3, T_row, T_nf, T_app1, Tv_nf, PT_len, PT_app1, chk_of]; refine hK _ ?_; clear hK K)
      | simp only [Sv, ↓reduceIte, Nat.reduceEqDiff]
    refine hQ _ (k + 1) (by omega) (by omega) ?_
    simp (disch := (first | omega | assumption)) only [Sl, Sa, Sw, ↓reduceIte, Nat.reduceEqDiff, Nat.reduceLT, List.all_nil, List.all_cons, Nat.reduceBneDiff, Nat.reduceAdd, bne_iff_ne, ne_eq, reduceCtorEq, not_false_eq_true, not_true_eq_false, Bool.and_true, Bool.true_and, and_true, true_and, and_self, i_eq]
    repeat' first | rfl | omega | (simp only [List.length_append, List.length_cons, List.length_nil]; done) | apply And.intro
  · repeat first
      | (refine hK _ ?_; clear hK K)
      | ((first | refine vm_reg (fun K hK => ?_) | refine vm_dreg (fun K hK => ?_)); simp (disch := (first | omega | assumption)) only [initS, initE, Sw, Sx, Sb, pure_s2b, ↓reduceIte, Nat.reduceEqDiff, Nat.reduceAdd, Nat.reduceMul, Nat.reduceDiv, AOp.sb, AOp.mut, ↓Bool.false_eq_true, beq_self_eq_true, ite_self, decide_eq_true_eq, decide_true, decide_false, Nat.reduceLeDiff, c0, c1, c2, c3, c13, Int.cast_ofNat_Int, Int.reduceEq, Int.reduceSub, Int.reduceAdd, Int.reduceNeg, Int.reduceLT, Int.reduceLE, Nat.reduceLT, wi, tn_nat, tn0, Nat.div_one, Nat.mul_one, T_len, m3, T_row, T_nf, T_app1, Tv_nf, PT_len, PT_app1, chk_of, hlt]; refine hK _ ?_; clear hK K)
      | simp only [Sv, ↓reduceIte, Nat.reduceEqDiff]
    refine he _ _ ?_
    repeat first
      | (refine hK _ ?_; clear hK K)
      | ((first | refine vm_reg (fun K hK => ?_) | refine vm_dreg (fun K hK => ?_)); simp (disch := (first | omega | assumption)) only [initS, initE, Sw, Sx, Sb, pure_s2b, ↓reduceIte, Nat.reduceEqDiff, Nat.reduceAdd, Nat.reduceMul, Nat.reduceDiv, AOp.sb, AOp.mut, ↓Bool.false_eq_true, beq_self_eq_true, ite_self, decide_eq_true_eq, decide_true, decide_false, Nat.reduceLeDiff, c0, c1, c2, c3, c13, Int.cast_ofNat_Int, Int.reduceEq, Int.reduceSub, Int.reduceAdd, Int.reduceNeg, Int.reduceLT, Int.reduceLE, Nat.reduceLT, wi, tn_nat, tn0, Nat.div_one, Nat.mul_one, T_len, m3, T_row, T_nf, T_app1, Tv_nf, PT_len, PT_app1, chk_of]; refine hK _ ?_; clear hK K)
      | simp only [Sv, ↓reduceIte, Nat.reduceEqDiff]
    simp (disch := (first | omega | assumption)) only [retOk, retN, ret1, V.okArg, and_true, true_and, initS, initE, Sw, Sx, Sb, pure_s2b, ↓reduceIte, Nat.reduceEqDiff, Nat.reduceAdd, Nat.reduceMul, Nat.reduceDiv, AOp.sb, AOp.mut, ↓Bool.false_eq_true, beq_self_eq_true, ite_self, decide_eq_true_eq, decide_true, decide_false, Nat.reduceLeDiff, c0, c1, c2, c3, c13, Int.cast_ofNat_Int, Int.reduceEq, Int.reduceSub, Int.reduceAdd, Int.reduceNeg, Int.reduceLT, Int.reduceLE, Nat.reduceLT, wi, tn_nat, tn0, Nat.div_one, Nat.mul_one, T_len, m3, T_row, T_nf, T_app1, Tv_nf, PT_len, PT_app1, chk_of]
end Go.Proofs.Ytebcheabahajaaa
