/-
  lex: cutting into pieces; LexNests, the law's walk.
-/
import Derived.Test.YtjfbkegdnljfjaaL8
namespace Go.Proofs.Ytjfbkegdnljfjaa
open Go Go.RowKit Ab
set_option linter.unusedSimpArgs false
set_option linter.unusedVariables false
set_option maxHeartbeats 10000000
theorem bz_L9 : type_of% (And.intro @wi (And.intro @tn_nat (And.intro @tn0 (And.intro @Nat.div_one (And.intro @Nat.mul_one (And.intro @T_len (And.intro @m3 (And.intro @T_row (And.intro @T_nf (And.intro @T_app1 (@Tv_nf))))))))))) := And.intro @wi (And.intro @tn_nat (And.intro @tn0 (And.intro @Nat.div_one (And.intro @Nat.mul_one (And.intro @T_len (And.intro @m3 (And.intro @T_row (And.intro @T_nf (And.intro @T_app1 (@Tv_nf))))))))))
def PT (ps : List (List Tk)) : List V := ps.map fun p => V.l 3 (T p)
theorem PT_len (ps : List (List Tk)) : (PT ps).length = ps.length := by simp [PT]
theorem PT_app1 (ps : List (List Tk)) (p : List Tk) : PT ps ++ [V.l 3 (T p)] = PT (ps ++ [p]) := by simp [PT]
theorem PT_get (ps : List (List Tk)) (i : Nat) (h : i < ps.length) : (PT ps).getD i .un = V.l 3 (T (ps.getD i [])) := by simp [PT, List.getD_eq_getElem?_getD, h]
theorem PT_nil : PT [] = [] := rfl
theorem kind5 (s : List UInt8) : kind s = 5 ↔ ∃ c, s = [c] ∧ isSym c = true := by
  constructor
  · intro h
    unfold kind at h
    split at h
    · omega
    · rename_i h1
      split at h
      · split at h <;> omega
      · split at h
        · split at h
          · omega
          · split at h <;> omega
        · rename_i h2 h3
          cases s with
          | nil => exact absurd (.inl rfl) h1
          | cons c r =>
            have g0 : (c :: r).getD 0 0 = c := rfl
            rw [g0] at h2 h3
            have h4 : rowLen (c :: r) = (c :: r).length := Classical.byContradiction fun h => h1 (.inr h)
            simp only [rowLen, if_neg h2, if_neg h3] at h4
            split at h4
            · rename_i h5
              simp only [List.length_cons] at h4
              have : r = [] := List.eq_nil_of_length_eq_zero (by omega)
              exact ⟨c, by rw [this], h5⟩
            · simp at h4
  · rintro ⟨c, rfl, hc⟩
    have hd : isDig c = false := by
      cases h : isDig c
      · rfl
      · have := dig_sym (c := c) (by simp only [isAl, h, Bool.true_or]); rw [hc] at this; cases this
    have hl : isLet c = false := by
      cases h : isLet c
      · rfl
      · have := dig_sym (c := c) (by simp only [isAl, h, Bool.or_true]); rw [hc] at this; cases this
    have hr : rowLen [c] = 1 := by simp [rowLen, hd, hl, hc]
    unfold kind
    rw [if_neg (by rw [hr]; simp)]
    have g0 : [c].getD 0 0 = c := rfl
    rw [g0, hd, hl]; rfl
def splitR (ts : List Tk) (s : List UInt8) : List (List Tk) × Int :=
  if kind s = 5 ∧ s ≠ [40] ∧ s ≠ [41] then (if (nestG ts 0 0).2 = 0 then (splitG s ts 0 [], 0) else ([], (nestG ts 0 0).2)) else ([], 3)
def a26 : AC := .seq (.reg [⟨some 2, none, .mv (.k .nl)⟩])
 (.seq (.seq (.reg [⟨some 3, none, .mv (.t 0)⟩,
 ⟨some 4, none, .isn false (.t 3)⟩])
 (.cond (.t 4)
 (.seq (.reg [⟨some 2, none, .mv (.k .nl)⟩])
 (.ret))
 (.skip)))
 (.seq (.reg [⟨some 5, none, .bsl 27 3 0 [] []⟩,
 ⟨some 6, none, .mv (.t 0)⟩,
 ⟨some 7, none, .app 27 3 32 (.t 5) (.t 6)⟩,
 ⟨some 2, none, .mv (.t 7)⟩])
 (.ret)))
theorem cloneT_spec (a : List Tk) (ha : a.length ≤ 1000000000) : AFun Try.prog J0 26 [.l 3 (T a)] (.o 27 3 (T a)) := by
  refine AFun.mk fol J0s Try.func26 rfl (ac := a26) (by kernel_rfl) rfl rfl rfl ?_
  apply vm_start
  unfold a26
  simp only [init_eq, initE]
  rw [vm_seq]
  try simp only [Sv, ↓reduceIte, Nat.reduceEqDiff]
  refine vm_reg (fun K hK => ?_)
  simp (disch := (first | omega | assumption)) only [S1, ↓reduceIte, Nat.reduceEqDiff, Nat.reduceAdd, Nat.reduceMul, Nat.reduceDiv, AOp.sb, AOp.mut, frzf, ↓Bool.false_eq_true, beq_self_eq_true, ite_self, Nat.reduceLeDiff, Int.reduceEq, Int.reduceSub, Int.reduceAdd, Int.reduceNeg, Int.reduceLT, Int.reduceLE, Nat.reduceLT, bz_L9, PT_len, PT_app1]
  refine hK _ ?_
  clear hK K
  simp only [Sv]
  try simp only [Sv, ↓reduceIte, Nat.reduceEqDiff]
  refine vm_reg (fun K hK => ?_)
  simp (disch := (first | omega | assumption)) only [S1, ↓reduceIte, Nat.reduceEqDiff, Nat.reduceAdd, Nat.reduceMul, Nat.reduceDiv, AOp.sb, AOp.mut, frzf, ↓Bool.false_eq_true, beq_self_eq_true, ite_self, Nat.reduceLeDiff, Int.reduceEq, Int.reduceSub, Int.reduceAdd, Int.reduceNeg, Int.reduceLT, Int.reduceLE, Nat.reduceLT, bz_L9, PT_len, PT_app1]
  refine isp_mk fun t ht => ?_
  simp (disch := (first | omega | assumption)) only [S1, ↓reduceIte, Nat.reduceEqDiff, Nat.reduceAdd, Nat.reduceMul, Nat.reduceDiv, AOp.sb, AOp.mut, frzf, ↓Bool.false_eq_true, beq_self_eq_true, ite_self, Nat.reduceLeDiff, Int.reduceEq, Int.reduceSub, Int.reduceAdd, Int.reduceNeg, Int.reduceLT, Int.reduceLE, Nat.reduceLT, bz_L9, PT_len, PT_app1]
  refine hK _ ?_
  clear hK K
  simp only [Sv, ↓reduceIte]
  refine vmc_mk (fun hc => ?_) (fun hc => ?_)
  · repeat first
      | (refine hK _ ?_; clear hK K)
      | ((first | refine vm_reg (fun K hK => ?_) | refine vm_dreg (fun K hK => ?_) | refine vm_dregx (fun K hK => ?_)); simp (disch := (first | omega | assumption)) only [S1, ↓reduceIte, Nat.reduceEqDiff, Nat.reduceAdd, Nat.reduceMul, Nat.reduceDiv, AOp.sb, AOp.mut, frzf, ↓Bool.false_eq_true, beq_self_eq_true, ite_self, Nat.reduceLeDiff, Int.reduceEq, Int.reduceSub, Int.reduceAdd, Int.reduceNeg, Int.reduceLT, Int.reduceLE, Nat.reduceLT, bz_L9, PT_len, PT_app1]; refine hK _ ?_; clear hK K)
      | simp only [Sv, ↓reduceIte, Nat.reduceEqDiff]
    simp only [bne_eq_false_iff_eq, ne_eq, bne_iff_ne, Bool.not_eq_false] at hc
    have := ht hc
    simp (disch := (first | omega | assumption)) only [retOk, retN, ret1, retF, ret1F, V.okArg, and_true, true_and, S1, ↓reduceIte, Nat.reduceEqDiff, Nat.reduceAdd, Nat.reduceMul, Nat.reduceDiv, AOp.sb, AOp.mut, frzf, ↓Bool.false_eq_true, beq_self_eq_true, ite_self, Nat.reduceLeDiff, Int.reduceEq, Int.reduceSub, Int.reduceAdd, Int.reduceNeg, Int.reduceLT, Int.reduceLE, Nat.reduceLT, bz_L9, PT_len, PT_app1, this]
  · repeat first
      | (refine hK _ ?_; clear hK K)
      | ((first | refine vm_reg (fun K hK => ?_) | refine vm_dreg (fun K hK => ?_) | refine vm_dregx (fun K hK => ?_)); simp (disch := (first | omega | assumption)) only [S1, ↓reduceIte, Nat.reduceEqDiff, Nat.reduceAdd, Nat.reduceMul, Nat.reduceDiv, AOp.sb, AOp.mut, frzf, ↓Bool.false_eq_true, beq_self_eq_true, ite_self, Nat.reduceLeDiff, Int.reduceEq, Int.reduceSub, Int.reduceAdd, Int.reduceNeg, Int.reduceLT, Int.reduceLE, Nat.reduceLT, bz_L9, PT_len, PT_app1, T_cell, List.nil_append]; refine hK _ ?_; clear hK K)
      | simp only [Sv, ↓reduceIte, Nat.reduceEqDiff]
    simp (disch := (first | omega | assumption)) only [retOk, retN, ret1, retF, ret1F, V.okArg, and_true, true_and, S1, ↓reduceIte, Nat.reduceEqDiff, Nat.reduceAdd, Nat.reduceMul, Nat.reduceDiv, AOp.sb, AOp.mut, frzf, ↓Bool.false_eq_true, beq_self_eq_true, ite_self, Nat.reduceLeDiff, Int.reduceEq, Int.reduceSub, Int.reduceAdd, Int.reduceNeg, Int.reduceLT, Int.reduceLE, Nat.reduceLT, bz_L9, PT_len, PT_app1]
theorem sym_ne (c : UInt8) : ([c] == symbols) = false := by rw [seq_dec]; exact decide_eq_false (by simp [symbols])
def a44 : AC := .seq (.reg [⟨some 4, none, .mv (.k (.i .i64 0))⟩])
 (.seq (.reg [⟨some 14, none, .mv (.t 1)⟩,
 ⟨some 15, none, .slen (.t 14)⟩,
 ⟨some 5, none, .mv (.t 15)⟩])
 (.seq (.blk 0
 (.seq (.reg [⟨some 17, none, .mv (.t 5)⟩,
 ⟨some 18, none, .bin .eql (.t 17) (.k (.i .i64 0))⟩,
 ⟨some 19, none, .mv (.t 18)⟩,
 ⟨some 20, some (19, false), .mv (.t 1)⟩,
 ⟨some 21, some (19, false), .mv (.t 0)⟩,
 ⟨some 22, some (19, false), .bin .eql (.t 20) (.t 21)⟩,
 ⟨some 23, none, .pick (.t 19) (.k (.b true)) (.t 22)⟩,
 ⟨some 16, none, .mv (.t 23)⟩])
 (.cond (.t 16)
 (.seq (.reg [⟨some 4, none, .mv (.k (.i .i64 0))⟩])
 (.ret))
 (.seq (.reg [⟨some 25, none, .mv (.t 5)⟩,
 ⟨some 26, none, .bin .eql (.t 25) (.k (.i .i64 1))⟩,
 ⟨some 24, none, .mv (.t 26)⟩])
 (.cond (.t 24)
 (.seq (.reg [⟨some 27, none, .mv (.t 0)⟩,
 ⟨some 28, none, .mv (.t 1)⟩,
 ⟨some 29, none, .six (.t 28) (.k (.i .i64 0))⟩,
 ⟨some 30, none, .call 43 [(1, (.t 27)), (1, (.t 29))]⟩,
 ⟨some 4, none, .mv (.t 30)⟩])
 (.ret))
 (.seq (.reg [⟨some 32, none, .mv (.t 5)⟩,
 ⟨some 33, none, .mv (.t 0)⟩,
 ⟨some 34, none, .slen (.t 33)⟩,
 ⟨some 35, none, .bin .geq (.t 32) (.t 34)⟩,
 ⟨some 31, none, .mv (.t 35)⟩])
 (.cond (.t 31)
 (.seq (.reg [⟨some 4, none, .mv (.k (.i .i64 (-1)))⟩])
 (.ret))
 (.seq (.reg [⟨some 37, none, .mv (.t 5)⟩,
 ⟨some 38, none, .ld false 1 (.k .any)⟩,
 ⟨some 39, none, .bin .leq (.t 37) (.t 38)⟩,
 ⟨some 40, none, .mv (.t 39)⟩,
 ⟨some 41, some (40, true), .mv (.t 0)⟩,
 ⟨some 42, some (40, true), .slen (.t 41)⟩,
 ⟨some 43, some (40, true), .bin .leq (.t 42) (.k (.i .i64 64))⟩,
 ⟨some 44, none, .pick (.t 40) (.t 43) (.k (.b false))⟩,
 ⟨some 36, none, .mv (.t 44)⟩])
 (.cond (.t 36)
 (.seq (.reg [⟨some 45, none, .mv (.t 0)⟩,
 ⟨some 46, none, .mv (.t 1)⟩,
 ⟨some 47, none, .xcall 47 [(.t 45), (.t 46)]⟩,
 ⟨some 4, none, .mv (.t 47)⟩])
 (.ret))
 (.skip))))))))))
 (.seq (.reg [⟨some 48, none, .mv (.t 1)⟩,
 ⟨some 49, none, .six (.t 48) (.k (.i .i64 0))⟩,
 ⟨some 6, none, .mv (.t 49)⟩])
 (.seq (.reg [⟨some 50, none, .mv (.t 1)⟩,
 ⟨some 51, none, .six (.t 50) (.k (.i .i64 1))⟩,
 ⟨some 7, none, .mv (.t 51)⟩])
 (.seq (.reg [⟨some 8, none, .mv (.k (.i .i64 0))⟩])
 (.seq (.reg [⟨some 52, none, .mv (.t 0)⟩,
 ⟨some 53, none, .slen (.t 52)⟩,
 ⟨some 54, none, .mv (.t 5)⟩,
 ⟨some 55, none, .bin .sub (.t 53) (.t 54)⟩,
 ⟨some 56, none, .bin .add (.t 55) (.k (.i .i64 1))⟩,
 ⟨some 9, none, .mv (.t 56)⟩])
 (.seq (.reg [⟨some 10, none, .mv (.k (.i .i64 0))⟩])
 (.seq (.blk 1
 (.loop
 (.seq (.seq (.reg [⟨some 57, none, .mv (.t 8)⟩,
 ⟨some 58, none, .mv (.t 9)⟩,
 ⟨some 59, none, .bin .lss (.t 57) (.t 58)⟩])
 (.cond (.t 59)
 (.skip)
 (.exit 1)))
 (.blk 2
 (.seq (.seq (.reg [⟨some 60, none, .mv (.t 0)⟩,
 ⟨some 61, none, .mv (.t 8)⟩,
 ⟨some 62, none, .six (.t 60) (.t 61)⟩,
 ⟨some 63, none, .mv (.t 6)⟩,
 ⟨some 64, none, .bin .neq (.t 62) (.t 63)⟩])
 (.cond (.t 64)
 (.seq (.reg [⟨some 65, none, .mv (.t 0)⟩,
 ⟨some 66, none, .mv (.t 8)⟩,
 ⟨some 67, none, .bin .add (.t 66) (.k (.i .i64 1))⟩,
 ⟨some 68, none, .mv (.t 9)⟩,
 ⟨some 69, none, .ssub (.t 65) (some (.t 67)) (some (.t 68))⟩,
 ⟨some 70, none, .mv (.t 6)⟩,
 ⟨some 71, none, .call 43 [(1, (.t 69)), (1, (.t 70))]⟩,
 ⟨some 11, none, .mv (.t 71)⟩])
 (.seq (.seq (.reg [⟨some 72, none, .mv (.t 11)⟩,
 ⟨some 73, none, .bin .lss (.t 72) (.k (.i .i64 0))⟩])
 (.cond (.t 73)
 (.seq (.reg [⟨some 4, none, .mv (.k (.i .i64 (-1)))⟩])
 (.ret))
 (.skip)))
 (.reg [⟨some 74, none, .mv (.t 8)⟩,
 ⟨some 75, none, .mv (.t 11)⟩,
 ⟨some 76, none, .bin .add (.t 75) (.k (.i .i64 1))⟩,
 ⟨some 77, none, .bin .add (.t 74) (.t 76)⟩,
 ⟨some 8, none, .mv (.t 77)⟩])))
 (.skip)))
 (.seq (.seq (.reg [⟨some 78, none, .mv (.t 0)⟩,
 ⟨some 79, none, .mv (.t 8)⟩,
 ⟨some 80, none, .bin .add (.t 79) (.k (.i .i64 1))⟩,
 ⟨some 81, none, .six (.t 78) (.t 80)⟩,
 ⟨some 82, none, .mv (.t 7)⟩,
 ⟨some 83, none, .bin .eql (.t 81) (.t 82)⟩,
 ⟨some 84, none, .mv (.t 83)⟩,
 ⟨some 85, some (84, true), .mv (.t 0)⟩,
 ⟨some 86, some (84, true), .mv (.t 8)⟩,
 ⟨some 87, some (84, true), .mv (.t 8)⟩,
 ⟨some 88, some (84, true), .mv (.t 5)⟩,
 ⟨some 89, some (84, true), .bin .add (.t 87) (.t 88)⟩,
 ⟨some 90, some (84, true), .ssub (.t 85) (some (.t 86)) (some (.t 89))⟩,
 ⟨some 91, some (84, true), .mv (.t 1)⟩,
 ⟨some 92, some (84, true), .bin .eql (.t 90) (.t 91)⟩,
 ⟨some 93, none, .pick (.t 84) (.t 92) (.k (.b false))⟩])
 (.cond (.t 93)
 (.seq (.reg [⟨some 94, none, .mv (.t 8)⟩,
 ⟨some 4, none, .mv (.t 94)⟩])
 (.ret))
 (.skip)))
 (.seq (.reg [⟨some 95, none, .mv (.t 8)⟩,
 ⟨some 96, none, .bin .add (.t 95) (.k (.i .i64 1))⟩,
 ⟨some 8, none, .mv (.t 96)⟩])
 (.seq (.reg [⟨some 97, none, .mv (.t 10)⟩,
 ⟨some 98, none, .bin .add (.t 97) (.k (.i .i64 1))⟩,
 ⟨some 10, none, .mv (.t 98)⟩])
 (.seq (.reg [⟨some 99, none, .mv (.t 5)⟩,
 ⟨some 100, none, .ld false 1 (.k .any)⟩,
 ⟨some 101, none, .bin .leq (.t 99) (.t 100)⟩,
 ⟨some 102, none, .mv (.t 101)⟩,
 ⟨some 103, some (102, true), .mv (.t 10)⟩,
 ⟨some 104, some (102, true), .mv (.t 8)⟩,
 ⟨some 105, some (102, true), .call 48 [(1, (.t 104))]⟩,
 ⟨some 106, some (102, true), .bin .gtr (.t 103) (.t 105)⟩,
 ⟨some 107, none, .pick (.t 102) (.t 106) (.k (.b false))⟩])
 (.cond (.t 107)
 (.seq (.reg [⟨some 108, none, .mv (.t 0)⟩,
 ⟨some 109, none, .mv (.t 8)⟩,
 ⟨some 110, none, .ssub (.t 108) (some (.t 109)) none⟩,
 ⟨some 111, none, .mv (.t 1)⟩,
 ⟨some 112, none, .xcall 47 [(.t 110), (.t 111)]⟩,
 ⟨some 12, none, .mv (.t 112)⟩])
 (.seq (.seq (.reg [⟨some 113, none, .mv (.t 12)⟩,
 ⟨some 114, none, .bin .geq (.t 113) (.k (.i .i64 0))⟩])
 (.cond (.t 114)
 (.seq (.reg [⟨some 115, none, .mv (.t 12)⟩,
 ⟨some 116, none, .mv (.t 8)⟩,
 ⟨some 117, none, .bin .add (.t 115) (.t 116)⟩,
 ⟨some 4, none, .mv (.t 117)⟩])
 (.ret))
 (.skip)))
 (.seq (.reg [⟨some 4, none, .mv (.k (.i .i64 (-1)))⟩])
 (.ret))))
 (.seq (.reg [⟨some 118, none, .mv (.t 5)⟩,
 ⟨some 119, none, .ld false 1 (.k .any)⟩,
 ⟨some 120, none, .bin .gtr (.t 118) (.t 119)⟩,
 ⟨some 121, none, .mv (.t 120)⟩,
 ⟨some 122, some (121, true), .mv (.t 10)⟩,
 ⟨some 123, some (121, true), .mv (.t 8)⟩,
 ⟨some 124, some (121, true), .bin .shr (.t 123) (.k (.i .u64 4))⟩,
 ⟨some 125, some (121, true), .bin .add (.k (.i .i64 4)) (.t 124)⟩,
 ⟨some 126, some (121, true), .bin .geq (.t 122) (.t 125)⟩,
 ⟨some 127, none, .pick (.t 121) (.t 126) (.k (.b false))⟩,
 ⟨some 128, none, .mv (.t 127)⟩,
 ⟨some 129, some (128, true), .mv (.t 8)⟩,
 ⟨some 130, some (128, true), .mv (.t 9)⟩,
 ⟨some 131, some (128, true), .bin .lss (.t 129) (.t 130)⟩,
 ⟨some 132, none, .pick (.t 128) (.t 131) (.k (.b false))⟩])
 (.cond (.t 132)
 (.seq (.reg [⟨some 133, none, .mv (.t 0)⟩,
 ⟨some 134, none, .mv (.t 8)⟩,
 ⟨some 135, none, .ssub (.t 133) (some (.t 134)) none⟩,
 ⟨some 136, none, .mv (.t 1)⟩,
 ⟨some 137, none, .call 49 [(1, (.t 135)), (1, (.t 136))]⟩,
 ⟨some 13, none, .mv (.t 137)⟩])
 (.seq (.seq (.reg [⟨some 138, none, .mv (.t 13)⟩,
 ⟨some 139, none, .bin .lss (.t 138) (.k (.i .i64 0))⟩])
 (.cond (.t 139)
 (.seq (.reg [⟨some 4, none, .mv (.k (.i .i64 (-1)))⟩])
 (.ret))
 (.skip)))
 (.seq (.reg [⟨some 140, none, .mv (.t 8)⟩,
 ⟨some 141, none, .mv (.t 13)⟩,
 ⟨some 142, none, .bin .add (.t 140) (.t 141)⟩,
 ⟨some 4, none, .mv (.t 142)⟩])
 (.ret))))
 (.skip)))))))))))))
 (.seq (.reg [⟨some 4, none, .mv (.k (.i .i64 (-1)))⟩])
 (.ret))))))))))
theorem sliteIndex_spec (c : UInt8) : AFun Try.prog J0 44 [.s symbols, .s [c]] (.i .i64 (firstIdx ⟨symbols.toArray⟩ c)) := by
  have hl : ([c] : List UInt8).length = 1 := rfl
  refine AFun.mk fol J0s Try.func44 rfl (ac := a44) (by kernel_rfl) rfl rfl rfl ?_
  apply vm_start
  unfold a44
  simp only [init_eq, initE]
  have zc1 := sliteIndexByte_spec symbols c
  repeat first | (refine hK _ ?_; clear hK K) | simp only [Sv, ↓reduceIte, Nat.reduceEqDiff] | ((first | refine vm_reg (fun K hK => ?_) | refine vm_dreg (fun K hK => ?_) | refine vm_dregx (fun K hK => ?_) | refine clp_q ?_ | refine clq_mk (by assumption) ?_ | refine mcq_q ?_ | (apply mcr_mk; assumption) | (apply ocr_mk; assumption)); simp (disch := (first | omega | assumption)) only [S1, ↓reduceIte, Nat.reduceEqDiff, Nat.reduceAdd, Nat.reduceMul, Nat.reduceDiv, AOp.sb, AOp.mut, frzf, ↓Bool.false_eq_true, beq_self_eq_true, ite_self, Nat.reduceLeDiff, Int.reduceEq, Int.reduceSub, Int.reduceAdd, Int.reduceNeg, Int.reduceLT, Int.reduceLE, Nat.reduceLT, bz_L9, PT_len, PT_app1, hl, sym_ne])
  simp (disch := (first | omega | assumption)) only [retOk, retN, ret1, retF, ret1F, V.okArg, and_true, true_and, S1, ↓reduceIte, Nat.reduceEqDiff, Nat.reduceAdd, Nat.reduceMul, Nat.reduceDiv, AOp.sb, AOp.mut, frzf, ↓Bool.false_eq_true, beq_self_eq_true, ite_self, Nat.reduceLeDiff, Int.reduceEq, Int.reduceSub, Int.reduceAdd, Int.reduceNeg, Int.reduceLT, Int.reduceLE, Nat.reduceLT, bz_L9, PT_len, PT_app1, hl, sym_ne]
def a41 : AC := .seq (.reg [⟨some 4, none, .mv (.k (.i .i64 0))⟩])
 (.seq (.reg [⟨some 5, none, .mv (.t 0)⟩,
 ⟨some 6, none, .mv (.t 1)⟩,
 ⟨some 7, none, .call 44 [(1, (.t 5)), (1, (.t 6))]⟩,
 ⟨some 4, none, .mv (.t 7)⟩])
 (.ret))
theorem index_spec (c : UInt8) : AFun Try.prog J0 41 [.s symbols, .s [c]] (.i .i64 (firstIdx ⟨symbols.toArray⟩ c)) := by
  refine AFun.mk fol J0s Try.func41 rfl (ac := a41) (by kernel_rfl) rfl rfl rfl ?_
  apply vm_start
  unfold a41
  simp only [init_eq, initE]
  have zc2 := sliteIndex_spec c
  repeat first | (refine hK _ ?_; clear hK K) | simp only [Sv, ↓reduceIte, Nat.reduceEqDiff] | ((first | refine vm_reg (fun K hK => ?_) | refine vm_dreg (fun K hK => ?_) | refine vm_dregx (fun K hK => ?_) | refine clp_q ?_ | refine clq_mk (by assumption) ?_ | refine mcq_q ?_ | (apply mcr_mk; assumption) | (apply ocr_mk; assumption)); simp (disch := (first | omega | assumption)) only [S1, ↓reduceIte, Nat.reduceEqDiff, Nat.reduceAdd, Nat.reduceMul, Nat.reduceDiv, AOp.sb, AOp.mut, frzf, ↓Bool.false_eq_true, beq_self_eq_true, ite_self, Nat.reduceLeDiff, Int.reduceEq, Int.reduceSub, Int.reduceAdd, Int.reduceNeg, Int.reduceLT, Int.reduceLE, Nat.reduceLT, bz_L9, PT_len, PT_app1])
  simp (disch := (first | omega | assumption)) only [retOk, retN, ret1, retF, ret1F, V.okArg, and_true, true_and, S1, ↓reduceIte, Nat.reduceEqDiff, Nat.reduceAdd, Nat.reduceMul, Nat.reduceDiv, AOp.sb, AOp.mut, frzf, ↓Bool.false_eq_true, beq_self_eq_true, ite_self, Nat.reduceLeDiff, Int.reduceEq, Int.reduceSub, Int.reduceAdd, Int.reduceNeg, Int.reduceLT, Int.reduceLE, Nat.reduceLT, bz_L9, PT_len, PT_app1]
def a23 : AC := .seq (.reg [⟨some 4, none, .mv (.k (.b false))⟩])
 (.seq (.reg [⟨some 5, none, .mv (.t 0)⟩,
 ⟨some 6, none, .mv (.t 1)⟩,
 ⟨some 7, none, .call 41 [(1, (.t 5)), (1, (.t 6))]⟩,
 ⟨some 8, none, .bin .geq (.t 7) (.k (.i .i64 0))⟩,
 ⟨some 4, none, .mv (.t 8)⟩])
 (.ret))
theorem contains_spec (c : UInt8) : AFun Try.prog J0 23 [.s symbols, .s [c]] (.b (isSym c)) := by
  have h := sym_idx c
  refine AFun.mk fol J0s Try.func23 rfl (ac := a23) (by kernel_rfl) rfl rfl rfl ?_
  apply vm_start
  unfold a23
  simp only [init_eq, initE]
  cases hc : isSym c
  · rw [hc] at h
    simp only [Bool.not_false, decide_eq_true_eq] at h
    have h' : ¬ (0 : Int) ≤ firstIdx ⟨symbols.toArray⟩ c := by omega
    have zc3 := index_spec c
    repeat first | (refine hK _ ?_; clear hK K) | simp only [Sv, ↓reduceIte, Nat.reduceEqDiff] | ((first | refine vm_reg (fun K hK => ?_) | refine vm_dreg (fun K hK => ?_) | refine vm_dregx (fun K hK => ?_) | refine clp_q ?_ | refine clq_mk (by assumption) ?_ | refine mcq_q ?_ | (apply mcr_mk; assumption) | (apply ocr_mk; assumption)); simp (disch := (first | omega | assumption)) only [S1, ↓reduceIte, Nat.reduceEqDiff, Nat.reduceAdd, Nat.reduceMul, Nat.reduceDiv, AOp.sb, AOp.mut, frzf, ↓Bool.false_eq_true, beq_self_eq_true, ite_self, Nat.reduceLeDiff, Int.reduceEq, Int.reduceSub, Int.reduceAdd, Int.reduceNeg, Int.reduceLT, Int.reduceLE, Nat.reduceLT, bz_L9, PT_len, PT_app1, h'])
    simp (disch := (first | omega | assumption)) only [retOk, retN, ret1, retF, ret1F, V.okArg, and_true, true_and, S1, ↓reduceIte, Nat.reduceEqDiff, Nat.reduceAdd, Nat.reduceMul, Nat.reduceDiv, AOp.sb, AOp.mut, frzf, ↓Bool.false_eq_true, beq_self_eq_true, ite_self, Nat.reduceLeDiff, Int.reduceEq, Int.reduceSub, Int.reduceAdd, Int.reduceNeg, Int.reduceLT, Int.reduceLE, Nat.reduceLT, bz_L9, PT_len, PT_app1, h']
  · rw [hc] at h
    simp only [Bool.not_true, decide_eq_false_iff_not] at h
    have h' : (0 : Int) ≤ firstIdx ⟨symbols.toArray⟩ c := by omega
    have zc4 := index_spec c
    repeat first | (refine hK _ ?_; clear hK K) | simp only [Sv, ↓reduceIte, Nat.reduceEqDiff] | ((first | refine vm_reg (fun K hK => ?_) | refine vm_dreg (fun K hK => ?_) | refine vm_dregx (fun K hK => ?_) | refine clp_q ?_ | refine clq_mk (by assumption) ?_ | refine mcq_q ?_ | (apply mcr_mk; assumption) | (apply ocr_mk; assumption)); simp (disch := (first | omega | assumption)) only [S1, ↓reduceIte, Nat.reduceEqDiff, Nat.reduceAdd, Nat.reduceMul, Nat.reduceDiv, AOp.sb, AOp.mut, frzf, ↓Bool.false_eq_true, beq_self_eq_true, ite_self, Nat.reduceLeDiff, Int.reduceEq, Int.reduceSub, Int.reduceAdd, Int.reduceNeg, Int.reduceLT, Int.reduceLE, Nat.reduceLT, bz_L9, PT_len, PT_app1, h'])
    simp (disch := (first | omega | assumption)) only [retOk, retN, ret1, retF, ret1F, V.okArg, and_true, true_and, S1, ↓reduceIte, Nat.reduceEqDiff, Nat.reduceAdd, Nat.reduceMul, Nat.reduceDiv, AOp.sb, AOp.mut, frzf, ↓Bool.false_eq_true, beq_self_eq_true, ite_self, Nat.reduceLeDiff, Int.reduceEq, Int.reduceSub, Int.reduceAdd, Int.reduceNeg, Int.reduceLT, Int.reduceLE, Nat.reduceLT, bz_L9, PT_len, PT_app1, h']
theorem splitG_len (s : List UInt8) : ∀ (ts : List Tk) (d : Int) (p : List Tk), (splitG s ts d p).length ≤ ts.length + 1
  | [], d, p => by simp [splitG]
  | t :: r, d, p => by
    simp only [splitG]
    split
    · have := splitG_len s r (d + way t) []
      simp only [List.length_cons]; omega
    · have := splitG_len s r (d + way t) (p ++ [t])
      simp only [List.length_cons]; omega
theorem nest_code (ts : List Tk) : ∀ d m, (nestG ts d m).2 = 0 ∨ (nestG ts d m).2 = 5 := by
  induction ts with
  | nil => intro d m; simp only [nestG]; split <;> simp
  | cons t r ih => intro d m; simp only [nestG]; split
                   · simp
                   · exact ih _ _
def a9 : AC := .seq (.reg [⟨some 4, none, .mv (.k .nl)⟩,
 ⟨some 5, none, .mv (.k (.i .i64 0))⟩])
 (.seq (.seq (.reg [⟨some 13, none, .mv (.t 1)⟩,
 ⟨some 14, none, .slen (.t 13)⟩,
 ⟨some 15, none, .bin .neq (.t 14) (.k (.i .i64 1))⟩,
 ⟨some 16, none, .mv (.t 15)⟩,
 ⟨some 17, some (16, false), .mv (.t 1)⟩,
 ⟨some 18, some (16, false), .call 23 [(1, (.k (.s [43, 45, 42, 47, 94, 40, 41, 61]))), (1, (.t 17))]⟩,
 ⟨some 19, some (16, false), .un .not (.t 18)⟩,
 ⟨some 20, none, .pick (.t 16) (.k (.b true)) (.t 19)⟩,
 ⟨some 21, none, .mv (.t 20)⟩,
 ⟨some 22, some (21, false), .mv (.t 1)⟩,
 ⟨some 23, some (21, false), .bin .eql (.t 22) (.k (.s [40]))⟩,
 ⟨some 24, none, .pick (.t 21) (.k (.b true)) (.t 23)⟩,
 ⟨some 25, none, .mv (.t 24)⟩,
 ⟨some 26, some (25, false), .mv (.t 1)⟩,
 ⟨some 27, some (25, false), .bin .eql (.t 26) (.k (.s [41]))⟩,
 ⟨some 28, none, .pick (.t 25) (.k (.b true)) (.t 27)⟩])
 (.cond (.t 28)
 (.seq (.reg [⟨some 4, none, .mv (.k .nl)⟩,
 ⟨some 5, none, .mv (.k (.i .i64 3))⟩])
 (.ret))
 (.skip)))
 (.seq (.seq (.reg [⟨some 30, none, .mv (.t 0)⟩,
 ⟨some 31, none, .call 11 [(3, (.t 30))]⟩,
 ⟨some 29, none, .mv (.t 31)⟩,
 ⟨some 32, none, .ext (.t 29) 0⟩,
 ⟨some 33, none, .ext (.t 29) 1⟩,
 ⟨some 6, none, .mv (.t 32)⟩,
 ⟨some 7, none, .mv (.t 33)⟩])
 (.seq (.reg [⟨some 34, none, .mv (.t 7)⟩,
 ⟨some 35, none, .bin .neq (.t 34) (.k (.i .i64 0))⟩])
 (.cond (.t 35)
 (.seq (.reg [⟨some 36, none, .mv (.t 7)⟩,
 ⟨some 4, none, .mv (.k .nl)⟩,
 ⟨some 5, none, .mv (.t 36)⟩])
 (.ret))
 (.skip))))
 (.seq (.reg [⟨some 8, none, .mv (.k .nl)⟩])
 (.seq (.reg [⟨some 9, none, .mv (.k (.i .i64 0))⟩,
 ⟨some 10, none, .mv (.k (.i .i64 0))⟩])
 (.seq (.seq (.reg [⟨some 37, none, .mv (.t 0)⟩,
 ⟨some 38, none, .len (.t 37)⟩,
 ⟨some 39, none, .mv (.k (.i .i64 0))⟩])
 (.blk 0
 (.loop
 (.seq (.reg [⟨some 40, none, .bin .lss (.t 39) (.t 38)⟩])
 (.seq (.cond (.t 40)
 (.skip)
 (.exit 0))
 (.seq (.blk 1
 (.seq (.reg [⟨some 41, none, .mv (.t 39)⟩,
 ⟨some 42, none, .idx 3 (.t 37) (.t 39)⟩,
 ⟨some 43, none, .ld true 3 (.t 42)⟩,
 ⟨some 12, none, .al 27 [(.i .i64 0), (.s []), (.i .i64 0)]⟩,
 ⟨some 11, none, .mv (.t 41)⟩,
 ⟨none, none, .st 3 (.t 12) (.t 43)⟩])
 (.seq (.reg [⟨some 44, none, .mv (.t 9)⟩,
 ⟨some 45, none, .ld true 3 (.t 12)⟩,
 ⟨some 46, none, .call 24 [(1, (.t 45))]⟩,
 ⟨some 47, none, .bin .add (.t 44) (.t 46)⟩,
 ⟨some 9, none, .mv (.t 47)⟩])
 (.seq (.reg [⟨some 48, none, .mv (.t 9)⟩,
 ⟨some 49, none, .bin .eql (.t 48) (.k (.i .i64 0))⟩,
 ⟨some 50, none, .mv (.t 49)⟩,
 ⟨some 51, some (50, true), .ld true 3 (.t 12)⟩,
 ⟨some 52, some (50, true), .mv (.t 1)⟩,
 ⟨some 53, some (50, true), .call 25 [(1, (.t 51)), (1, (.t 52))]⟩,
 ⟨some 54, none, .pick (.t 50) (.t 53) (.k (.b false))⟩])
 (.cond (.t 54)
 (.seq (.reg [⟨some 55, none, .mv (.t 8)⟩,
 ⟨some 56, none, .mv (.t 0)⟩,
 ⟨some 57, none, .mv (.t 10)⟩,
 ⟨some 58, none, .mv (.t 11)⟩,
 ⟨some 59, none, .sub 3 (.t 56) (some (.t 57)) (some (.t 58))⟩,
 ⟨some 60, none, .call 26 [(3, (.t 59))]⟩,
 ⟨some 61, none, .bsl 24 1 1 [(.l 1 [])] [(0, (.t 60))]⟩,
 ⟨some 62, none, .app 24 1 24 (.t 55) (.t 61)⟩,
 ⟨some 8, none, .mv (.t 62)⟩])
 (.reg [⟨some 63, none, .mv (.t 11)⟩,
 ⟨some 64, none, .bin .add (.t 63) (.k (.i .i64 1))⟩,
 ⟨some 10, none, .mv (.t 64)⟩]))
 (.skip))))))
 (.reg [⟨some 65, none, .bin .add (.t 39) (.k (.i .i64 1))⟩,
 ⟨some 39, none, .mv (.t 65)⟩])))))))
 (.seq (.reg [⟨some 66, none, .mv (.t 8)⟩,
 ⟨some 67, none, .mv (.t 0)⟩,
 ⟨some 68, none, .mv (.t 10)⟩,
 ⟨some 69, none, .sub 3 (.t 67) (some (.t 68)) none⟩,
 ⟨some 70, none, .call 26 [(3, (.t 69))]⟩,
 ⟨some 71, none, .bsl 24 1 1 [(.l 1 [])] [(0, (.t 70))]⟩,
 ⟨some 72, none, .app 24 1 24 (.t 66) (.t 71)⟩,
 ⟨some 4, none, .mv (.t 72)⟩,
 ⟨some 5, none, .mv (.k (.i .i64 0))⟩])
 (.ret)))))))
def a7 : AC := .seq (.reg [⟨some 4, none, .mv (.k .nl)⟩,
 ⟨some 5, none, .mv (.k (.i .i64 0))⟩])
 (.seq (.seq (.reg [⟨some 12, none, .mv (.t 1)⟩,
 ⟨some 13, none, .call 17 [(1, (.t 12))]⟩,
 ⟨some 14, none, .bin .neq (.t 13) (.k (.i .i64 5))⟩,
 ⟨some 15, none, .mv (.t 14)⟩,
 ⟨some 16, some (15, false), .mv (.t 1)⟩,
 ⟨some 17, some (15, false), .bin .eql (.t 16) (.k (.s [40]))⟩,
 ⟨some 18, none, .pick (.t 15) (.k (.b true)) (.t 17)⟩,
 ⟨some 19, none, .mv (.t 18)⟩,
 ⟨some 20, some (19, false), .mv (.t 1)⟩,
 ⟨some 21, some (19, false), .bin .eql (.t 20) (.k (.s [41]))⟩,
 ⟨some 22, none, .pick (.t 19) (.k (.b true)) (.t 21)⟩])
 (.cond (.t 22)
 (.seq (.reg [⟨some 4, none, .mv (.k .nl)⟩,
 ⟨some 5, none, .mv (.k (.i .i64 3))⟩])
 (.ret))
 (.skip)))
 (.seq (.reg [⟨some 24, none, .mv (.t 0)⟩,
 ⟨some 25, none, .call 18 [(3, (.t 24))]⟩,
 ⟨some 23, none, .mv (.t 25)⟩,
 ⟨some 26, none, .ext (.t 23) 0⟩,
 ⟨some 27, none, .ext (.t 23) 1⟩,
 ⟨some 6, none, .mv (.t 26)⟩,
 ⟨some 7, none, .mv (.t 27)⟩])
 (.seq (.seq (.reg [⟨some 28, none, .mv (.t 7)⟩,
 ⟨some 29, none, .bin .neq (.t 28) (.k (.i .i64 0))⟩])
 (.cond (.t 29)
 (.seq (.reg [⟨some 30, none, .mv (.t 7)⟩,
 ⟨some 4, none, .mv (.k .nl)⟩,
 ⟨some 5, none, .mv (.t 30)⟩])
 (.ret))
 (.skip)))
 (.seq (.reg [⟨some 8, none, .mv (.k .nl)⟩])
 (.seq (.reg [⟨some 9, none, .mv (.k .nl)⟩])
 (.seq (.reg [⟨some 10, none, .mv (.k (.i .i64 0))⟩])
 (.seq (.seq (.reg [⟨some 11, none, .mv (.k (.i .i64 0))⟩])
 (.blk 0
 (.loop
 (.seq (.seq (.reg [⟨some 31, none, .mv (.t 11)⟩,
 ⟨some 32, none, .mv (.t 0)⟩,
 ⟨some 33, none, .len (.t 32)⟩,
 ⟨some 34, none, .bin .lss (.t 31) (.t 33)⟩])
 (.cond (.t 34)
 (.skip)
 (.exit 0)))
 (.seq (.blk 1
 (.seq (.reg [⟨some 37, none, .mv (.t 10)⟩,
 ⟨some 38, none, .mv (.t 0)⟩,
 ⟨some 39, none, .mv (.t 11)⟩,
 ⟨some 40, none, .idx 3 (.t 38) (.t 39)⟩,
 ⟨some 41, none, .ld true 3 (.t 40)⟩,
 ⟨some 42, none, .call 19 [(1, (.t 41))]⟩,
 ⟨some 43, none, .bin .add (.t 37) (.t 42)⟩,
 ⟨some 10, none, .mv (.t 43)⟩])
 (.seq (.seq (.reg [⟨some 44, none, .mv (.t 10)⟩,
 ⟨some 45, none, .bin .eql (.t 44) (.k (.i .i64 0))⟩,
 ⟨some 46, none, .mv (.t 45)⟩,
 ⟨some 47, some (46, true), .mv (.t 0)⟩,
 ⟨some 48, some (46, true), .mv (.t 11)⟩,
 ⟨some 49, some (46, true), .idx 3 (.t 47) (.t 48)⟩,
 ⟨some 50, some (46, true), .fad 0 (.t 49)⟩,
 ⟨some 51, some (46, true), .ld false 1 (.t 50)⟩,
 ⟨some 52, some (46, true), .bin .eql (.t 51) (.k (.i .i64 5))⟩,
 ⟨some 53, none, .pick (.t 46) (.t 52) (.k (.b false))⟩,
 ⟨some 54, none, .mv (.t 53)⟩,
 ⟨some 55, some (54, true), .mv (.t 0)⟩,
 ⟨some 56, some (54, true), .mv (.t 11)⟩,
 ⟨some 57, some (54, true), .idx 3 (.t 55) (.t 56)⟩,
 ⟨some 58, some (54, true), .fad 1 (.t 57)⟩,
 ⟨some 59, some (54, true), .ld false 1 (.t 58)⟩,
 ⟨some 60, some (54, true), .mv (.t 1)⟩,
 ⟨some 61, some (54, true), .bin .eql (.t 59) (.t 60)⟩,
 ⟨some 62, none, .pick (.t 54) (.t 61) (.k (.b false))⟩])
 (.cond (.t 62)
 (.seq (.reg [⟨some 63, none, .mv (.t 8)⟩,
 ⟨some 64, none, .mv (.t 9)⟩,
 ⟨some 65, none, .bsl 22 1 1 [(.l 1 [])] [(0, (.t 64))]⟩,
 ⟨some 66, none, .app 22 1 24 (.t 63) (.t 65)⟩,
 ⟨some 8, none, .mv (.t 66)⟩])
 (.seq (.reg [⟨some 9, none, .mv (.k .nl)⟩])
 (.exit 1)))
 (.skip)))
 (.reg [⟨some 67, none, .mv (.t 9)⟩,
 ⟨some 68, none, .mv (.t 0)⟩,
 ⟨some 69, none, .mv (.t 11)⟩,
 ⟨some 70, none, .idx 3 (.t 68) (.t 69)⟩,
 ⟨some 71, none, .ld true 3 (.t 70)⟩,
 ⟨some 72, none, .bsl 47 3 1 [(.i .i64 0), (.s []), (.i .i64 0)] [(0, (.t 71))]⟩,
 ⟨some 73, none, .app 47 3 32 (.t 67) (.t 72)⟩,
 ⟨some 9, none, .mv (.t 73)⟩]))))
 (.reg [⟨some 35, none, .mv (.t 11)⟩,
 ⟨some 36, none, .bin .add (.t 35) (.k (.i .i64 1))⟩,
 ⟨some 11, none, .mv (.t 36)⟩]))))))
 (.seq (.reg [⟨some 74, none, .mv (.t 8)⟩,
 ⟨some 75, none, .mv (.t 9)⟩,
 ⟨some 76, none, .bsl 22 1 1 [(.l 1 [])] [(0, (.t 75))]⟩,
 ⟨some 77, none, .app 22 1 24 (.t 74) (.t 76)⟩,
 ⟨some 4, none, .mv (.t 77)⟩,
 ⟨some 5, none, .mv (.k (.i .i64 0))⟩])
 (.ret)))))))))
theorem rsplit_spec (ts : List Tk) (s : List UInt8) (hl : ts.length ≤ 10000000) (hm : s.length ≤ 9223372036854775807) : AFun Try.prog J0 7 [.l 3 (T ts), .s s] (.t [.l 1 (PT (splitR ts s).1), .i .i64 (splitR ts s).2]) := by
  refine AFun.mk fol J0s Try.func7 rfl (ac := a7) (by kernel_rfl) rfl rfl rfl ?_
  apply vm_start
  unfold a7
  simp only [init_eq, initE]
  by_cases h2 : kind s = 5
  · have h2' : ((kind s : Nat) : Int) = 5 := by omega
    by_cases h3 : s = [40]
    · have e : splitR ts s = ([], 3) := if_neg fun h => h.2.1 h3
      subst h3
      have zc19 := rKind_spec [40] hm
      repeat first | (refine hK _ ?_; clear hK K) | simp only [Sv, ↓reduceIte, Nat.reduceEqDiff] | ((first | refine vm_reg (fun K hK => ?_) | refine vm_dreg (fun K hK => ?_) | refine vm_dregx (fun K hK => ?_) | refine clp_q ?_ | refine clq_mk (by assumption) ?_ | refine mcq_q ?_ | (apply mcr_mk; assumption) | (apply ocr_mk; assumption)); simp (disch := (first | omega | assumption)) only [S1, ↓reduceIte, Nat.reduceEqDiff, Nat.reduceAdd, Nat.reduceMul, Nat.reduceDiv, AOp.sb, AOp.mut, frzf, ↓Bool.false_eq_true, beq_self_eq_true, ite_self, Nat.reduceLeDiff, Int.reduceEq, Int.reduceSub, Int.reduceAdd, Int.reduceNeg, Int.reduceLT, Int.reduceLE, Nat.reduceLT, bz_L9, PT_len, PT_app1, h2', e, PT_nil])
      simp (disch := (first | omega | assumption)) only [retOk, retN, ret1, retF, ret1F, V.okArg, and_true, true_and, S1, ↓reduceIte, Nat.reduceEqDiff, Nat.reduceAdd, Nat.reduceMul, Nat.reduceDiv, AOp.sb, AOp.mut, frzf, ↓Bool.false_eq_true, beq_self_eq_true, ite_self, Nat.reduceLeDiff, Int.reduceEq, Int.reduceSub, Int.reduceAdd, Int.reduceNeg, Int.reduceLT, Int.reduceLE, Nat.reduceLT, bz_L9, PT_len, PT_app1, h2', e, PT_nil]
    · by_cases h4 : s = [41]
      · have e : splitR ts s = ([], 3) := if_neg fun h => h.2.2 h4
        subst h4
        have h5 : (([41] : List UInt8) == [40]) = false := by decide
        have zc20 := rKind_spec [41] hm
        repeat first | (refine hK _ ?_; clear hK K) | simp only [Sv, ↓reduceIte, Nat.reduceEqDiff] | ((first | refine vm_reg (fun K hK => ?_) | refine vm_dreg (fun K hK => ?_) | refine vm_dregx (fun K hK => ?_) | refine clp_q ?_ | refine clq_mk (by assumption) ?_ | refine mcq_q ?_ | (apply mcr_mk; assumption) | (apply ocr_mk; assumption)); simp (disch := (first | omega | assumption)) only [S1, ↓reduceIte, Nat.reduceEqDiff, Nat.reduceAdd, Nat.reduceMul, Nat.reduceDiv, AOp.sb, AOp.mut, frzf, ↓Bool.false_eq_true, beq_self_eq_true, ite_self, Nat.reduceLeDiff, Int.reduceEq, Int.reduceSub, Int.reduceAdd, Int.reduceNeg, Int.reduceLT, Int.reduceLE, Nat.reduceLT, bz_L9, PT_len, PT_app1, h2', h5, e, PT_nil])
        simp (disch := (first | omega | assumption)) only [retOk, retN, ret1, retF, ret1F, V.okArg, and_true, true_and, S1, ↓reduceIte, Nat.reduceEqDiff, Nat.reduceAdd, Nat.reduceMul, Nat.reduceDiv, AOp.sb, AOp.mut, frzf, ↓Bool.false_eq_true, beq_self_eq_true, ite_self, Nat.reduceLeDiff, Int.reduceEq, Int.reduceSub, Int.reduceAdd, Int.reduceNeg, Int.reduceLT, Int.reduceLE, Nat.reduceLT, bz_L9, PT_len, PT_app1, h2', h5, e, PT_nil]
      · rcases nest_code ts 0 0 with hn | hn
        · have e : splitR ts s = (splitG s ts 0 [], 0) := by unfold splitR; rw [if_pos ⟨h2, h3, h4⟩, if_pos hn]
          rw [e]
          have zc21 := rKind_spec s hm
          have zc22 := rnest_spec ts (by omega)
          repeat first | (refine hK _ ?_; clear hK K) | simp only [Sv, ↓reduceIte, Nat.reduceEqDiff] | ((first | refine vm_reg (fun K hK => ?_) | refine vm_dreg (fun K hK => ?_) | refine vm_dregx (fun K hK => ?_) | refine clp_q ?_ | refine clq_mk (by assumption) ?_ | refine mcq_q ?_ | (apply mcr_mk; assumption) | (apply ocr_mk; assumption)); simp (disch := (first | omega | assumption)) only [S1, ↓reduceIte, Nat.reduceEqDiff, Nat.reduceAdd, Nat.reduceMul, Nat.reduceDiv, AOp.sb, AOp.mut, frzf, ↓Bool.false_eq_true, beq_self_eq_true, ite_self, Nat.reduceLeDiff, Int.reduceEq, Int.reduceSub, Int.reduceAdd, Int.reduceNeg, Int.reduceLT, Int.reduceLE, Nat.reduceLT, bz_L9, PT_len, PT_app1, h2', seq_dec, h3, h4, hn])
          refine vm_loopN [(8, 22, 1), (9, 47, 3)] (Nat × Int × List (List Tk) × List Tk) (fun x => ⟨[(0, .l 3 (T ts)), (1, .s s), (8, .ow 1 0 x.2.2.1.length), (9, .ow 3 1 x.2.2.2.length), (10, .i .i64 x.2.1), (11, .i .i64 (x.1 : Int))], [(0, some ⟨22, 1, PT x.2.2.1, true, false⟩), (1, some ⟨47, 3, T x.2.2.2, true, false⟩)], 2⟩)
            (fun x => x.1 ≤ ts.length ∧ -(x.1 : Int) ≤ x.2.1 ∧ x.2.1 ≤ x.1 ∧ x.2.2.1.length ≤ x.1 ∧ x.2.2.2.length ≤ x.1 ∧ splitG s ts 0 [] = x.2.2.1 ++ splitG s (ts.drop x.1) x.2.1 x.2.2.2) (fun x => ts.length - x.1) (0, 0, [], [])
            ⟨Nat.zero_le _, Int.le_refl _, Int.le_refl _, Nat.le_refl _, Nat.le_refl _, rfl⟩ (by simp (disch := (first | omega | assumption)) only [Sl, Sa, Sw, ↓reduceIte, Nat.reduceEqDiff, Nat.reduceLT, List.all_nil, List.all_cons, Nat.reduceBneDiff, Nat.reduceAdd, bne_iff_ne, ne_eq, reduceCtorEq, not_false_eq_true, not_true_eq_false, Bool.and_true, Bool.true_and, and_true, true_and, and_self]) (by
            simp (disch := (first | omega | assumption)) only [Sl, Sa, Sw, ↓reduceIte, Nat.reduceEqDiff, Nat.reduceLT, List.all_nil, List.all_cons, Nat.reduceBneDiff, Nat.reduceAdd, bne_iff_ne, ne_eq, reduceCtorEq, not_false_eq_true, not_true_eq_false, Bool.and_true, Bool.true_and, and_true, true_and, and_self, i_eq]
            repeat' first | rfl | omega | (simp only [List.length_append, List.length_cons, List.length_nil]; done) | apply And.intro) ?_
          rintro ⟨i, d, acc, p⟩ ⟨hi, hd0, hd1, hacc, hp, hsp⟩ Q' hQ he hr
          simp only [] at hi hd0 hd1 hacc hp hsp ⊢
          by_cases hlt : (i : Int) < ts.length
          · have hlt' : i < ts.length := by omega
            have hw := way_le (ts.getD i default)
            rw [tk_drop hlt', splitG] at hsp
            by_cases hz : d + way (ts.getD i default) = 0
            · by_cases hk : (ts.getD i default).k = 5
              · by_cases ht : (ts.getD i default).t = s
                · rw [if_pos ⟨hz, by unfold isS; rw [decide_eq_true_eq]; exact ⟨hk, ht⟩⟩] at hsp
                  have hw2 := rway_spec (ts.getD i default)
                  rw [hk, ht] at hw2
                  have zc23 := hw2
                  repeat first | (refine hK _ ?_; clear hK K) | simp only [Sv, ↓reduceIte, Nat.reduceEqDiff] | ((first | refine vm_reg (fun K hK => ?_) | refine vm_dreg (fun K hK => ?_) | refine vm_dregx (fun K hK => ?_) | refine clp_q ?_ | refine clq_mk (by assumption) ?_ | refine mcq_q ?_ | (apply mcr_mk; assumption) | (apply ocr_mk; assumption)); simp (disch := (first | omega | assumption)) only [S1, ↓reduceIte, Nat.reduceEqDiff, Nat.reduceAdd, Nat.reduceMul, Nat.reduceDiv, AOp.sb, AOp.mut, frzf, ↓Bool.false_eq_true, beq_self_eq_true, ite_self, Nat.reduceLeDiff, Int.reduceEq, Int.reduceSub, Int.reduceAdd, Int.reduceNeg, Int.reduceLT, Int.reduceLE, Nat.reduceLT, bz_L9, PT_len, PT_app1, hlt, hz, T_k, T_t, hk, ht])
                  refine hQ _ [(9, 47, 3)] (i + 1, d + way (ts.getD i default), acc ++ [p], []) ⟨by simp only; omega, by simp only; omega, by simp only; omega, by simp only [List.length_append, List.length_singleton]; omega, Nat.zero_le _, by simp only; rw [hsp, List.append_assoc]; rfl⟩ (by simp only; omega) (by simp (disch := (first | omega | assumption)) only [Sl, Sa, Sw, ↓reduceIte, Nat.reduceEqDiff, Nat.reduceLT, List.all_nil, List.all_cons, Nat.reduceBneDiff, Nat.reduceAdd, bne_iff_ne, ne_eq, reduceCtorEq, not_false_eq_true, not_true_eq_false, Bool.and_true, Bool.true_and, and_true, true_and, and_self]) ?_
                  simp (disch := (first | omega | assumption)) only [Sl, Sa, Sw, ↓reduceIte, Nat.reduceEqDiff, Nat.reduceLT, List.all_nil, List.all_cons, Nat.reduceBneDiff, Nat.reduceAdd, bne_iff_ne, ne_eq, reduceCtorEq, not_false_eq_true, not_true_eq_false, Bool.and_true, Bool.true_and, and_true, true_and, and_self, i_eq, hz]
                  repeat' first | rfl | omega | (simp only [List.length_append, List.length_cons, List.length_nil]; done) | apply And.intro
                · rw [if_neg (fun h => by have := h.2; unfold isS at this; rw [decide_eq_true_eq] at this; exact ht this.2)] at hsp
                  repeat first | (refine hK _ ?_; clear hK K) | simp only [Sv, ↓reduceIte, Nat.reduceEqDiff] | ((first | refine vm_reg (fun K hK => ?_) | refine vm_dreg (fun K hK => ?_) | refine vm_dregx (fun K hK => ?_)); simp (disch := (first | omega | assumption)) only [S1, ↓reduceIte, Nat.reduceEqDiff, Nat.reduceAdd, Nat.reduceMul, Nat.reduceDiv, AOp.sb, AOp.mut, frzf, ↓Bool.false_eq_true, beq_self_eq_true, ite_self, Nat.reduceLeDiff, Int.reduceEq, Int.reduceSub, Int.reduceAdd, Int.reduceNeg, Int.reduceLT, Int.reduceLE, Nat.reduceLT, bz_L9, PT_len, PT_app1, hlt])
                  refine clp_of _ _ (rway_spec (ts.getD i default)) ?_ ?_
                  · first | rfl | (simp (disch := (first | omega | assumption)) only [S1, ↓reduceIte, Nat.reduceEqDiff, Nat.reduceAdd, Nat.reduceMul, Nat.reduceDiv, AOp.sb, AOp.mut, frzf, ↓Bool.false_eq_true, beq_self_eq_true, ite_self, Nat.reduceLeDiff, Int.reduceEq, Int.reduceSub, Int.reduceAdd, Int.reduceNeg, Int.reduceLT, Int.reduceLE, Nat.reduceLT, bz_L9, PT_len, PT_app1, hlt])
                  simp (disch := (first | omega | assumption)) only [S1, ↓reduceIte, Nat.reduceEqDiff, Nat.reduceAdd, Nat.reduceMul, Nat.reduceDiv, AOp.sb, AOp.mut, frzf, ↓Bool.false_eq_true, beq_self_eq_true, ite_self, Nat.reduceLeDiff, Int.reduceEq, Int.reduceSub, Int.reduceAdd, Int.reduceNeg, Int.reduceLT, Int.reduceLE, Nat.reduceLT, bz_L9, PT_len, PT_app1, hlt]
                  have hg : T (p ++ [⟨5, (ts.getD i default).t, (ts.getD i default).a⟩]) = T (p ++ [ts.getD i default]) := by rw [← hk]
                  repeat first
                    | (refine hK _ ?_; clear hK K)
                    | ((first | refine vm_reg (fun K hK => ?_) | refine vm_dreg (fun K hK => ?_) | refine vm_dregx (fun K hK => ?_)); simp (disch := (first | omega | assumption)) only [S1, ↓reduceIte, Nat.reduceEqDiff, Nat.reduceAdd, Nat.reduceMul, Nat.reduceDiv, AOp.sb, AOp.mut, frzf, ↓Bool.false_eq_true, beq_self_eq_true, ite_self, Nat.reduceLeDiff, Int.reduceEq, Int.reduceSub, Int.reduceAdd, Int.reduceNeg, Int.reduceLT, Int.reduceLE, Nat.reduceLT, bz_L9, PT_len, PT_app1, hz, T_k, T_t, hk, ht, hlt, seq_dec]; refine hK _ ?_; clear hK K)
                    | simp only [Sv, ↓reduceIte, Nat.reduceEqDiff]
                  repeat first
                    | (refine hK _ ?_; clear hK K)
                    | ((first | refine vm_reg (fun K hK => ?_) | refine vm_dreg (fun K hK => ?_) | refine vm_dregx (fun K hK => ?_)); simp (disch := (first | omega | assumption)) only [S1, ↓reduceIte, Nat.reduceEqDiff, Nat.reduceAdd, Nat.reduceMul, Nat.reduceDiv, AOp.sb, AOp.mut, frzf, ↓Bool.false_eq_true, beq_self_eq_true, ite_self, Nat.reduceLeDiff, Int.reduceEq, Int.reduceSub, Int.reduceAdd, Int.reduceNeg, Int.reduceLT, Int.reduceLE, Nat.reduceLT, bz_L9, PT_len, PT_app1, hlt]; refine hK _ ?_; clear hK K)
                    | simp only [Sv, ↓reduceIte, Nat.reduceEqDiff]
                  refine hQ _ [] (i + 1, d + way (ts.getD i default), acc, p ++ [ts.getD i default]) ⟨by simp only; omega, by simp only; omega, by simp only; omega, by simp only; omega, by simp only [List.length_append, List.length_singleton]; omega, hsp⟩ (by simp only; omega) (by trivial) ?_
                  simp (disch := (first | omega | assumption)) only [Sl, Sa, Sw, ↓reduceIte, Nat.reduceEqDiff, Nat.reduceLT, List.all_nil, List.all_cons, Nat.reduceBneDiff, Nat.reduceAdd, bne_iff_ne, ne_eq, reduceCtorEq, not_false_eq_true, not_true_eq_false, Bool.and_true, Bool.true_and, and_true, true_and, and_self, i_eq, hz, hg]
                  repeat' first | rfl | omega | (simp only [List.length_append, List.length_cons, List.length_nil]; done) | apply And.intro
              · rw [if_neg (fun h => by have := h.2; unfold isS at this; rw [decide_eq_true_eq] at this; exact hk this.1)] at hsp
                have zc24 := rway_spec (ts.getD i default)
                repeat first | (refine hK _ ?_; clear hK K) | simp only [Sv, ↓reduceIte, Nat.reduceEqDiff] | ((first | refine vm_reg (fun K hK => ?_) | refine vm_dreg (fun K hK => ?_) | refine vm_dregx (fun K hK => ?_) | refine clp_q ?_ | refine clq_mk (by assumption) ?_ | refine mcq_q ?_ | (apply mcr_mk; assumption) | (apply ocr_mk; assumption)); simp (disch := (first | omega | assumption)) only [S1, ↓reduceIte, Nat.reduceEqDiff, Nat.reduceAdd, Nat.reduceMul, Nat.reduceDiv, AOp.sb, AOp.mut, frzf, ↓Bool.false_eq_true, beq_self_eq_true, ite_self, Nat.reduceLeDiff, Int.reduceEq, Int.reduceSub, Int.reduceAdd, Int.reduceNeg, Int.reduceLT, Int.reduceLE, Nat.reduceLT, bz_L9, PT_len, PT_app1, hlt, hz, T_k, hk])
                repeat first
                  | (refine hK _ ?_; clear hK K)
                  | ((first | refine vm_reg (fun K hK => ?_) | refine vm_dreg (fun K hK => ?_) | refine vm_dregx (fun K hK => ?_)); simp (disch := (first | omega | assumption)) only [S1, ↓reduceIte, Nat.reduceEqDiff, Nat.reduceAdd, Nat.reduceMul, Nat.reduceDiv, AOp.sb, AOp.mut, frzf, ↓Bool.false_eq_true, beq_self_eq_true, ite_self, Nat.reduceLeDiff, Int.reduceEq, Int.reduceSub, Int.reduceAdd, Int.reduceNeg, Int.reduceLT, Int.reduceLE, Nat.reduceLT, bz_L9, PT_len, PT_app1, hlt]; refine hK _ ?_; clear hK K)
                  | simp only [Sv, ↓reduceIte, Nat.reduceEqDiff]
                refine hQ _ [] (i + 1, d + way (ts.getD i default), acc, p ++ [ts.getD i default]) ⟨by simp only; omega, by simp only; omega, by simp only; omega, by simp only; omega, by simp only [List.length_append, List.length_singleton]; omega, hsp⟩ (by simp only; omega) (by trivial) ?_
                simp (disch := (first | omega | assumption)) only [Sl, Sa, Sw, ↓reduceIte, Nat.reduceEqDiff, Nat.reduceLT, List.all_nil, List.all_cons, Nat.reduceBneDiff, Nat.reduceAdd, bne_iff_ne, ne_eq, reduceCtorEq, not_false_eq_true, not_true_eq_false, Bool.and_true, Bool.true_and, and_true, true_and, and_self, i_eq, hz, hk]
                repeat' first | rfl | omega | (simp only [List.length_append, List.length_cons, List.length_nil]; done) | apply And.intro
            · rw [if_neg (fun h => hz h.1)] at hsp
              have zc25 := rway_spec (ts.getD i default)
              repeat first | (refine hK _ ?_; clear hK K) | simp only [Sv, ↓reduceIte, Nat.reduceEqDiff] | ((first | refine vm_reg (fun K hK => ?_) | refine vm_dreg (fun K hK => ?_) | refine vm_dregx (fun K hK => ?_) | refine clp_q ?_ | refine clq_mk (by assumption) ?_ | refine mcq_q ?_ | (apply mcr_mk; assumption) | (apply ocr_mk; assumption)); simp (disch := (first | omega | assumption)) only [S1, ↓reduceIte, Nat.reduceEqDiff, Nat.reduceAdd, Nat.reduceMul, Nat.reduceDiv, AOp.sb, AOp.mut, frzf, ↓Bool.false_eq_true, beq_self_eq_true, ite_self, Nat.reduceLeDiff, Int.reduceEq, Int.reduceSub, Int.reduceAdd, Int.reduceNeg, Int.reduceLT, Int.reduceLE, Nat.reduceLT, bz_L9, PT_len, PT_app1, hlt, hz])
              repeat first
                | (refine hK _ ?_; clear hK K)
                | ((first | refine vm_reg (fun K hK => ?_) | refine vm_dreg (fun K hK => ?_) | refine vm_dregx (fun K hK => ?_)); simp (disch := (first | omega | assumption)) only [S1, ↓reduceIte, Nat.reduceEqDiff, Nat.reduceAdd, Nat.reduceMul, Nat.reduceDiv, AOp.sb, AOp.mut, frzf, ↓Bool.false_eq_true, beq_self_eq_true, ite_self, Nat.reduceLeDiff, Int.reduceEq, Int.reduceSub, Int.reduceAdd, Int.reduceNeg, Int.reduceLT, Int.reduceLE, Nat.reduceLT, bz_L9, PT_len, PT_app1, hlt]; refine hK _ ?_; clear hK K)
                | simp only [Sv, ↓reduceIte, Nat.reduceEqDiff]
              refine hQ _ [] (i + 1, d + way (ts.getD i default), acc, p ++ [ts.getD i default]) ⟨by simp only; omega, by simp only; omega, by simp only; omega, by simp only; omega, by simp only [List.length_append, List.length_singleton]; omega, hsp⟩ (by simp only; omega) (by trivial) ?_
              simp (disch := (first | omega | assumption)) only [Sl, Sa, Sw, ↓reduceIte, Nat.reduceEqDiff, Nat.reduceLT, List.all_nil, List.all_cons, Nat.reduceBneDiff, Nat.reduceAdd, bne_iff_ne, ne_eq, reduceCtorEq, not_false_eq_true, not_true_eq_false, Bool.and_true, Bool.true_and, and_true, true_and, and_self, i_eq, hz, hz]
              repeat' first | rfl | omega | (simp only [List.length_append, List.length_cons, List.length_nil]; done) | apply And.intro
          · obtain rfl : i = ts.length := by omega
            rw [List.drop_length, splitG] at hsp
            repeat first
              | (refine hK _ ?_; clear hK K)
              | ((first | refine vm_reg (fun K hK => ?_) | refine vm_dreg (fun K hK => ?_) | refine vm_dregx (fun K hK => ?_)); simp (disch := (first | omega | assumption)) only [S1, ↓reduceIte, Nat.reduceEqDiff, Nat.reduceAdd, Nat.reduceMul, Nat.reduceDiv, AOp.sb, AOp.mut, frzf, ↓Bool.false_eq_true, beq_self_eq_true, ite_self, Nat.reduceLeDiff, Int.reduceEq, Int.reduceSub, Int.reduceAdd, Int.reduceNeg, Int.reduceLT, Int.reduceLE, Nat.reduceLT, bz_L9, PT_len, PT_app1, hlt]; refine hK _ ?_; clear hK K)
              | simp only [Sv, ↓reduceIte, Nat.reduceEqDiff]
            refine he _ _ ?_
            rw [hsp]
            repeat first
              | (refine hK _ ?_; clear hK K)
              | ((first | refine vm_reg (fun K hK => ?_) | refine vm_dreg (fun K hK => ?_) | refine vm_dregx (fun K hK => ?_)); simp (disch := (first | omega | assumption)) only [S1, ↓reduceIte, Nat.reduceEqDiff, Nat.reduceAdd, Nat.reduceMul, Nat.reduceDiv, AOp.sb, AOp.mut, frzf, ↓Bool.false_eq_true, beq_self_eq_true, ite_self, Nat.reduceLeDiff, Int.reduceEq, Int.reduceSub, Int.reduceAdd, Int.reduceNeg, Int.reduceLT, Int.reduceLE, Nat.reduceLT, bz_L9, PT_len, PT_app1]; refine hK _ ?_; clear hK K)
              | simp only [Sv, ↓reduceIte, Nat.reduceEqDiff]
            simp (disch := (first | omega | assumption)) only [retOk, retN, ret1, retF, ret1F, V.okArg, and_true, true_and, S1, ↓reduceIte, Nat.reduceEqDiff, Nat.reduceAdd, Nat.reduceMul, Nat.reduceDiv, AOp.sb, AOp.mut, frzf, ↓Bool.false_eq_true, beq_self_eq_true, ite_self, Nat.reduceLeDiff, Int.reduceEq, Int.reduceSub, Int.reduceAdd, Int.reduceNeg, Int.reduceLT, Int.reduceLE, Nat.reduceLT, bz_L9, PT_len, PT_app1]
        · have e : splitR ts s = ([], 5) := by unfold splitR; rw [if_pos ⟨h2, h3, h4⟩, hn, if_neg (by decide)]
          have zc26 := rKind_spec s hm
          have zc27 := rnest_spec ts (by omega)
          repeat first | (refine hK _ ?_; clear hK K) | simp only [Sv, ↓reduceIte, Nat.reduceEqDiff] | ((first | refine vm_reg (fun K hK => ?_) | refine vm_dreg (fun K hK => ?_) | refine vm_dregx (fun K hK => ?_) | refine clp_q ?_ | refine clq_mk (by assumption) ?_ | refine mcq_q ?_ | (apply mcr_mk; assumption) | (apply ocr_mk; assumption)); simp (disch := (first | omega | assumption)) only [S1, ↓reduceIte, Nat.reduceEqDiff, Nat.reduceAdd, Nat.reduceMul, Nat.reduceDiv, AOp.sb, AOp.mut, frzf, ↓Bool.false_eq_true, beq_self_eq_true, ite_self, Nat.reduceLeDiff, Int.reduceEq, Int.reduceSub, Int.reduceAdd, Int.reduceNeg, Int.reduceLT, Int.reduceLE, Nat.reduceLT, bz_L9, PT_len, PT_app1, h2', seq_dec, h3, h4, hn, e, PT_nil])
          simp (disch := (first | omega | assumption)) only [retOk, retN, ret1, retF, ret1F, V.okArg, and_true, true_and, S1, ↓reduceIte, Nat.reduceEqDiff, Nat.reduceAdd, Nat.reduceMul, Nat.reduceDiv, AOp.sb, AOp.mut, frzf, ↓Bool.false_eq_true, beq_self_eq_true, ite_self, Nat.reduceLeDiff, Int.reduceEq, Int.reduceSub, Int.reduceAdd, Int.reduceNeg, Int.reduceLT, Int.reduceLE, Nat.reduceLT, bz_L9, PT_len, PT_app1, h2', seq_dec, h3, h4, hn, e, PT_nil]
  · have h2' : ¬ ((kind s : Nat) : Int) = 5 := by omega
    have e : splitR ts s = ([], 3) := if_neg fun h => h2 h.1
    have zc28 := rKind_spec s hm
    repeat first | (refine hK _ ?_; clear hK K) | simp only [Sv, ↓reduceIte, Nat.reduceEqDiff] | ((first | refine vm_reg (fun K hK => ?_) | refine vm_dreg (fun K hK => ?_) | refine vm_dregx (fun K hK => ?_) | refine clp_q ?_ | refine clq_mk (by assumption) ?_ | refine mcq_q ?_ | (apply mcr_mk; assumption) | (apply ocr_mk; assumption)); simp (disch := (first | omega | assumption)) only [S1, ↓reduceIte, Nat.reduceEqDiff, Nat.reduceAdd, Nat.reduceMul, Nat.reduceDiv, AOp.sb, AOp.mut, frzf, ↓Bool.false_eq_true, beq_self_eq_true, ite_self, Nat.reduceLeDiff, Int.reduceEq, Int.reduceSub, Int.reduceAdd, Int.reduceNeg, Int.reduceLT, Int.reduceLE, Nat.reduceLT, bz_L9, PT_len, PT_app1, h2', e, PT_nil])
    simp (disch := (first | omega | assumption)) only [retOk, retN, ret1, retF, ret1F, V.okArg, and_true, true_and, S1, ↓reduceIte, Nat.reduceEqDiff, Nat.reduceAdd, Nat.reduceMul, Nat.reduceDiv, AOp.sb, AOp.mut, frzf, ↓Bool.false_eq_true, beq_self_eq_true, ite_self, Nat.reduceLeDiff, Int.reduceEq, Int.reduceSub, Int.reduceAdd, Int.reduceNeg, Int.reduceLT, Int.reduceLE, Nat.reduceLT, bz_L9, PT_len, PT_app1, h2', e, PT_nil]
end Go.Proofs.Ytjfbkegdnljfjaa
