/-
  LexPieces: the law's walk.
-/
import Derived.Test.YtebcheabahajaaaL11
namespace Go.Proofs.Ytebcheabahajaaa
open Go Go.RowKit Ab
set_option linter.unusedSimpArgs false
set_option linter.unusedVariables false
set_option maxHeartbeats 10000000

theorem isS_t {t : Tk} {s : List UInt8} (h : isS t s = true) : t.k = 5 ∧ t.t = s := by
  unfold isS at h; rwa [decide_eq_true_eq] at h
theorem rem_drop {s : List UInt8} {ps : List (List Tk)} {i : Nat} (hi : i < ps.length) {row : List Tk} (h : Rem s (ps.drop i) row) :
    ∃ t row', row = t :: (ps.getD i [] ++ row') ∧ isS t s = true ∧ Rem s (ps.drop (i + 1)) row' := by
  rw [List.drop_eq_getElem_cons hi] at h
  rw [List.getD_eq_getElem?_getD, List.getElem?_eq_getElem hi]
  exact h
theorem getD_mid {α : Type} (a : List α) (t : α) (b : List α) (d : α) : (a ++ t :: b).getD a.length d = t := by simp [List.getD_eq_getElem?_getD]
theorem tn_succ (i : Nat) : ((i : Int) + 1).toNat = i + 1 := rfl
theorem T_subn (ts : List Tk) (i k : Nat) : ((T ts).take (k * 3)).drop (i * 3) = T ((ts.drop i).take (k - i)) := T_sub ts i k

-- surd/surdlaw24.LexPieces
def a8 : AC := .seq (.reg [⟨some 4, none, .mv (.k (.b false))⟩])
  (.seq (.seq (.reg [⟨some 22, none, .call 10 []⟩, 
        ⟨some 23, none, .un .not (.t 22)⟩])
    (.cond (.t 23)
    (.seq (.reg [⟨some 4, none, .mv (.k (.b false))⟩])
      (.ret))
    (.skip)))
  (.seq (.reg [⟨some 25, none, .mv (.t 0)⟩, 
      ⟨some 26, none, .call 11 [(1, (.t 25))]⟩, 
      ⟨some 24, none, .mv (.t 26)⟩, 
      ⟨some 27, none, .ext (.t 24) 0⟩, 
      ⟨some 28, none, .ext (.t 24) 1⟩, 
      ⟨some 5, none, .mv (.t 27)⟩, 
      ⟨some 6, none, .mv (.t 28)⟩])
  (.seq (.seq (.reg [⟨some 29, none, .mv (.t 6)⟩, 
        ⟨some 30, none, .bin .neq (.t 29) (.k (.i .i64 0))⟩])
    (.cond (.t 30)
    (.seq (.reg [⟨some 4, none, .mv (.k (.b true))⟩])
      (.ret))
    (.skip)))
  (.seq (.reg [⟨some 32, none, .mv (.t 5)⟩, 
      ⟨some 33, none, .call 26 [(3, (.t 32))]⟩, 
      ⟨some 31, none, .mv (.t 33)⟩, 
      ⟨some 34, none, .ext (.t 31) 0⟩, 
      ⟨some 35, none, .ext (.t 31) 1⟩, 
      ⟨some 7, none, .mv (.t 34)⟩, 
      ⟨some 6, none, .mv (.t 35)⟩])
  (.seq (.reg [⟨some 37, none, .mv (.t 5)⟩, 
      ⟨some 38, none, .mv (.t 1)⟩, 
      ⟨some 39, none, .call 28 [(3, (.t 37)), (1, (.t 38))]⟩, 
      ⟨some 36, none, .mv (.t 39)⟩, 
      ⟨some 40, none, .ext (.t 36) 0⟩, 
      ⟨some 41, none, .ext (.t 36) 1⟩, 
      ⟨some 8, none, .mv (.t 40)⟩, 
      ⟨some 9, none, .mv (.t 41)⟩])
  (.seq (.seq (.reg [⟨some 42, none, .mv (.t 6)⟩, 
        ⟨some 43, none, .bin .neq (.t 42) (.k (.i .i64 0))⟩, 
        ⟨some 44, none, .mv (.t 43)⟩, 
        ⟨some 45, some (44, false), .mv (.t 9)⟩, 
        ⟨some 46, some (44, false), .bin .neq (.t 45) (.k (.i .i64 0))⟩, 
        ⟨some 47, none, .pick (.t 44) (.k (.b true)) (.t 46)⟩])
    (.cond (.t 47)
    (.seq (.reg [⟨some 48, none, .mv (.t 8)⟩, 
          ⟨some 49, none, .len (.t 48)⟩, 
          ⟨some 50, none, .bin .eql (.t 49) (.k (.i .i64 0))⟩, 
          ⟨some 4, none, .mv (.t 50)⟩])
      (.ret))
    (.skip)))
  (.seq (.reg [⟨some 10, none, .mv (.k .nl)⟩])
  (.seq (.seq (.reg [⟨some 51, none, .mv (.t 8)⟩, 
        ⟨some 52, none, .len (.t 51)⟩, 
        ⟨some 53, none, .mv (.k (.i .i64 0))⟩])
    (.blk 0
    (.loop
      (.seq (.reg [⟨some 54, none, .bin .lss (.t 53) (.t 52)⟩])
        (.seq (.cond (.t 54)
          (.skip)
          (.exit 0))
        (.seq (.blk 1
          (.seq (.reg [⟨some 55, none, .mv (.t 53)⟩, 
                ⟨some 56, none, .idx 1 (.t 51) (.t 53)⟩, 
                ⟨some 57, none, .ld false 1 (.t 56)⟩, 
                ⟨some 11, none, .mv (.t 55)⟩, 
                ⟨some 12, none, .mv (.t 57)⟩])
            (.seq (.seq (.reg [⟨some 58, none, .mv (.t 11)⟩, 
                  ⟨some 59, none, .bin .gtr (.t 58) (.k (.i .i64 0))⟩])
              (.cond (.t 59)
              (.seq (.reg [⟨some 60, none, .mv (.t 10)⟩, 
                    ⟨some 61, none, .len (.t 60)⟩, 
                    ⟨some 13, none, .mv (.t 61)⟩])
                (.seq (.seq (.reg [⟨some 62, none, .mv (.t 13)⟩, 
                      ⟨some 63, none, .mv (.t 5)⟩, 
                      ⟨some 64, none, .len (.t 63)⟩, 
                      ⟨some 65, none, .bin .geq (.t 62) (.t 64)⟩, 
                      ⟨some 66, none, .mv (.t 65)⟩, 
                      ⟨some 67, some (66, false), .mv (.t 5)⟩, 
                      ⟨some 68, some (66, false), .mv (.t 13)⟩, 
                      ⟨some 69, some (66, false), .idx 3 (.t 67) (.t 68)⟩, 
                      ⟨some 70, some (66, false), .fad 0 (.t 69)⟩, 
                      ⟨some 71, some (66, false), .ld false 1 (.t 70)⟩, 
                      ⟨some 72, some (66, false), .bin .neq (.t 71) (.k (.i .i64 5))⟩, 
                      ⟨some 73, none, .pick (.t 66) (.k (.b true)) (.t 72)⟩, 
                      ⟨some 74, none, .mv (.t 73)⟩, 
                      ⟨some 75, some (74, false), .mv (.t 5)⟩, 
                      ⟨some 76, some (74, false), .mv (.t 13)⟩, 
                      ⟨some 77, some (74, false), .idx 3 (.t 75) (.t 76)⟩, 
                      ⟨some 78, some (74, false), .fad 1 (.t 77)⟩, 
                      ⟨some 79, some (74, false), .ld false 1 (.t 78)⟩, 
                      ⟨some 80, some (74, false), .mv (.t 1)⟩, 
                      ⟨some 81, some (74, false), .bin .neq (.t 79) (.t 80)⟩, 
                      ⟨some 82, none, .pick (.t 74) (.k (.b true)) (.t 81)⟩])
                  (.cond (.t 82)
                  (.seq (.reg [⟨some 4, none, .mv (.k (.b false))⟩])
                    (.ret))
                  (.skip)))
                (.reg [⟨some 83, none, .mv (.t 10)⟩, 
                  ⟨some 84, none, .mv (.t 5)⟩, 
                  ⟨some 85, none, .mv (.t 13)⟩, 
                  ⟨some 86, none, .idx 3 (.t 84) (.t 85)⟩, 
                  ⟨some 87, none, .ld true 3 (.t 86)⟩, 
                  ⟨some 88, none, .bsl 28 3 1 [(.i .i64 0), (.s []), (.i .i64 0)] [(0, (.t 87))]⟩, 
                  ⟨some 89, none, .app 28 3 32 (.t 83) (.t 88)⟩, 
                  ⟨some 10, none, .mv (.t 89)⟩])))
              (.skip)))
            (.seq (.reg [⟨some 90, none, .mv (.t 10)⟩, 
                ⟨some 91, none, .mv (.t 12)⟩, 
                ⟨some 92, none, .app 28 3 32 (.t 90) (.t 91)⟩, 
                ⟨some 10, none, .mv (.t 92)⟩])
            (.seq (.reg [⟨some 94, none, .mv (.t 12)⟩, 
                ⟨some 95, none, .call 26 [(3, (.t 94))]⟩, 
                ⟨some 93, none, .mv (.t 95)⟩, 
                ⟨some 96, none, .ext (.t 93) 0⟩, 
                ⟨some 97, none, .ext (.t 93) 1⟩, 
                ⟨some 14, none, .mv (.t 96)⟩, 
                ⟨some 15, none, .mv (.t 97)⟩])
            (.seq (.reg [⟨some 99, none, .mv (.t 12)⟩, 
                ⟨some 100, none, .mv (.t 1)⟩, 
                ⟨some 101, none, .call 28 [(3, (.t 99)), (1, (.t 100))]⟩, 
                ⟨some 98, none, .mv (.t 101)⟩, 
                ⟨some 102, none, .ext (.t 98) 0⟩, 
                ⟨some 103, none, .ext (.t 98) 1⟩, 
                ⟨some 16, none, .mv (.t 102)⟩, 
                ⟨some 17, none, .mv (.t 103)⟩])
            (.seq (.reg [⟨some 104, none, .mv (.t 15)⟩, 
                ⟨some 105, none, .bin .neq (.t 104) (.k (.i .i64 0))⟩, 
                ⟨some 106, none, .mv (.t 105)⟩, 
                ⟨some 107, some (106, false), .mv (.t 17)⟩, 
                ⟨some 108, some (106, false), .bin .neq (.t 107) (.k (.i .i64 0))⟩, 
                ⟨some 109, none, .pick (.t 106) (.k (.b true)) (.t 108)⟩, 
                ⟨some 110, none, .mv (.t 109)⟩, 
                ⟨some 111, some (110, false), .mv (.t 14)⟩, 
                ⟨some 112, some (110, false), .mv (.t 7)⟩, 
                ⟨some 113, some (110, false), .bin .gtr (.t 111) (.t 112)⟩, 
                ⟨some 114, none, .pick (.t 110) (.k (.b true)) (.t 113)⟩, 
                ⟨some 115, none, .mv (.t 114)⟩, 
                ⟨some 116, some (115, false), .mv (.t 16)⟩, 
                ⟨some 117, some (115, false), .len (.t 116)⟩, 
                ⟨some 118, some (115, false), .bin .neq (.t 117) (.k (.i .i64 1))⟩, 
                ⟨some 119, none, .pick (.t 115) (.k (.b true)) (.t 118)⟩])
            (.cond (.t 119)
            (.seq (.reg [⟨some 4, none, .mv (.k (.b false))⟩])
              (.ret))
            (.skip)))))))))
        (.reg [⟨some 120, none, .bin .add (.t 53) (.k (.i .i64 1))⟩, 
          ⟨some 53, none, .mv (.t 120)⟩])))))))
  (.seq (.seq (.reg [⟨some 121, none, .mv (.t 10)⟩, 
        ⟨some 122, none, .call 16 [(3, (.t 121))]⟩, 
        ⟨some 123, none, .mv (.t 5)⟩, 
        ⟨some 124, none, .call 16 [(3, (.t 123))]⟩, 
        ⟨some 125, none, .call 15 [(3, (.t 122)), (3, (.t 124))]⟩, 
        ⟨some 126, none, .un .not (.t 125)⟩])
    (.cond (.t 126)
    (.seq (.reg [⟨some 4, none, .mv (.k (.b false))⟩])
      (.ret))
    (.skip)))
  (.seq (.seq (.reg [⟨some 127, none, .mv (.t 5)⟩, 
        ⟨some 128, none, .len (.t 127)⟩, 
        ⟨some 129, none, .mv (.k (.i .i64 0))⟩])
    (.blk 2
    (.loop
      (.seq (.reg [⟨some 130, none, .bin .lss (.t 129) (.t 128)⟩])
        (.seq (.cond (.t 130)
          (.skip)
          (.exit 2))
        (.seq (.blk 3
          (.seq (.reg [⟨some 131, none, .mv (.t 129)⟩, 
                ⟨some 18, none, .mv (.t 131)⟩])
            (.seq (.reg [⟨some 133, none, .mv (.t 5)⟩, 
                ⟨some 134, none, .mv (.t 18)⟩, 
                ⟨some 135, none, .call 27 [(3, (.t 133)), (1, (.t 134))]⟩, 
                ⟨some 132, none, .mv (.t 135)⟩, 
                ⟨some 136, none, .ext (.t 132) 0⟩, 
                ⟨some 137, none, .ext (.t 132) 1⟩, 
                ⟨some 19, none, .mv (.t 136)⟩, 
                ⟨some 20, none, .mv (.t 137)⟩])
            (.seq (.seq (.reg [⟨some 138, none, .mv (.t 5)⟩, 
                  ⟨some 139, none, .mv (.t 18)⟩, 
                  ⟨some 140, none, .idx 3 (.t 138) (.t 139)⟩, 
                  ⟨some 141, none, .fad 0 (.t 140)⟩, 
                  ⟨some 142, none, .ld false 1 (.t 141)⟩, 
                  ⟨some 143, none, .bin .neq (.t 142) (.k (.i .i64 5))⟩, 
                  ⟨some 144, none, .mv (.t 143)⟩, 
                  ⟨some 145, some (144, false), .mv (.t 5)⟩, 
                  ⟨some 146, some (144, false), .mv (.t 18)⟩, 
                  ⟨some 147, some (144, false), .idx 3 (.t 145) (.t 146)⟩, 
                  ⟨some 148, some (144, false), .fad 1 (.t 147)⟩, 
                  ⟨some 149, some (144, false), .ld false 1 (.t 148)⟩, 
                  ⟨some 150, some (144, false), .bin .neq (.t 149) (.k (.s [40]))⟩, 
                  ⟨some 151, none, .pick (.t 144) (.k (.b true)) (.t 150)⟩])
              (.cond (.t 151)
              (.seq (.seq (.reg [⟨some 152, none, .mv (.t 20)⟩, 
                      ⟨some 153, none, .call 14 [(1, (.t 152)), (1, (.k (.i .i64 3)))]⟩, 
                      ⟨some 154, none, .un .not (.t 153)⟩])
                  (.cond (.t 154)
                  (.seq (.reg [⟨some 4, none, .mv (.k (.b false))⟩])
                    (.ret))
                  (.skip)))
                (.exit 3))
              (.skip)))
            (.seq (.seq (.reg [⟨some 155, none, .mv (.t 20)⟩, 
                  ⟨some 156, none, .bin .neq (.t 155) (.k (.i .i64 0))⟩, 
                  ⟨some 157, none, .mv (.t 156)⟩, 
                  ⟨some 158, some (157, false), .mv (.t 19)⟩, 
                  ⟨some 159, some (157, false), .mv (.t 18)⟩, 
                  ⟨some 160, some (157, false), .bin .leq (.t 158) (.t 159)⟩, 
                  ⟨some 161, none, .pick (.t 157) (.k (.b true)) (.t 160)⟩, 
                  ⟨some 162, none, .mv (.t 161)⟩, 
                  ⟨some 163, some (162, false), .mv (.t 19)⟩, 
                  ⟨some 164, some (162, false), .mv (.t 5)⟩, 
                  ⟨some 165, some (162, false), .len (.t 164)⟩, 
                  ⟨some 166, some (162, false), .bin .geq (.t 163) (.t 165)⟩, 
                  ⟨some 167, none, .pick (.t 162) (.k (.b true)) (.t 166)⟩, 
                  ⟨some 168, none, .mv (.t 167)⟩, 
                  ⟨some 169, some (168, false), .mv (.t 5)⟩, 
                  ⟨some 170, some (168, false), .mv (.t 19)⟩, 
                  ⟨some 171, some (168, false), .idx 3 (.t 169) (.t 170)⟩, 
                  ⟨some 172, some (168, false), .fad 1 (.t 171)⟩, 
                  ⟨some 173, some (168, false), .ld false 1 (.t 172)⟩, 
                  ⟨some 174, some (168, false), .bin .neq (.t 173) (.k (.s [41]))⟩, 
                  ⟨some 175, none, .pick (.t 168) (.k (.b true)) (.t 174)⟩])
              (.cond (.t 175)
              (.seq (.reg [⟨some 4, none, .mv (.k (.b false))⟩])
                (.ret))
              (.skip)))
            (.seq (.reg [⟨some 177, none, .mv (.t 5)⟩, 
                ⟨some 178, none, .mv (.t 18)⟩, 
                ⟨some 179, none, .bin .add (.t 178) (.k (.i .i64 1))⟩, 
                ⟨some 180, none, .mv (.t 19)⟩, 
                ⟨some 181, none, .sub 3 (.t 177) (some (.t 179)) (some (.t 180))⟩, 
                ⟨some 182, none, .call 26 [(3, (.t 181))]⟩, 
                ⟨some 176, none, .mv (.t 182)⟩, 
                ⟨some 183, none, .ext (.t 176) 0⟩, 
                ⟨some 184, none, .ext (.t 176) 1⟩, 
                ⟨some 21, none, .mv (.t 183)⟩, 
                ⟨some 20, none, .mv (.t 184)⟩])
            (.seq (.reg [⟨some 185, none, .mv (.t 20)⟩, 
                ⟨some 186, none, .bin .neq (.t 185) (.k (.i .i64 0))⟩, 
                ⟨some 187, none, .mv (.t 186)⟩, 
                ⟨some 188, some (187, false), .mv (.t 21)⟩, 
                ⟨some 189, some (187, false), .mv (.t 7)⟩, 
                ⟨some 190, some (187, false), .bin .add (.t 189) (.k (.i .i64 1))⟩, 
                ⟨some 191, some (187, false), .bin .geq (.t 188) (.t 190)⟩, 
                ⟨some 192, none, .pick (.t 187) (.k (.b true)) (.t 191)⟩])
            (.cond (.t 192)
            (.seq (.reg [⟨some 4, none, .mv (.k (.b false))⟩])
              (.ret))
            (.skip)))))))))
        (.reg [⟨some 193, none, .bin .add (.t 129) (.k (.i .i64 1))⟩, 
          ⟨some 129, none, .mv (.t 193)⟩])))))))
  (.seq (.reg [⟨some 4, none, .mv (.k (.b true))⟩])
  (.ret))))))))))))
theorem lexPieces_spec (line s : List UInt8) (hm : s.length ≤ 9223372036854775807) : AFun Try.prog J0 8 [.s line, .s s] (.b true) := by
  have hl := scanR_len line
  refine AFun.mk fol J0s Try.func8 rfl (ac := a8) (by kernel_rfl) rfl rfl ?_
  apply vm_start
  unfold a8
  repeat first | (refine hK _ ?_; clear hK K) | simp only [Sv, ↓reduceIte, Nat.reduceEqDiff] | ((first | refine vm_reg (fun K hK => ?_) | refine vm_dreg (fun K hK => ?_)); simp (disch := (first | omega | assumption)) only [initS, initE, Sw, Sx, Sb, pure_s2b, ↓reduceIte, Nat.reduceEqDiff, Nat.reduceAdd, Nat.reduceMul, Nat.reduceDiv, AOp.sb, AOp.mut, ↓Bool.false_eq_true, beq_self_eq_true, ite_self, decide_eq_true_eq, decide_true, decide_false, Nat.reduceLeDiff, c0, c1, c2, c3, c13, Int.cast_ofNat_Int, Int.reduceEq, Int.reduceSub, Int.reduceAdd, Int.reduceNeg, Int.reduceLT, Int.reduceLE, Nat.reduceLT, wi, tn_nat, tn0, Nat.div_one, Nat.mul_one, T_len, m3, T_row, T_nf, T_app1, Tv_nf, PT_len, PT_app1, T_app, T_cell, List.length_nil, Nat.zero_add, seq_dec, chk_of])
  refine clp_of _ _ (awake_spec) ?_ ?_
  · first | rfl | (simp (disch := (first | omega | assumption)) only [initS, initE, Sw, Sx, Sb, pure_s2b, ↓reduceIte, Nat.reduceEqDiff, Nat.reduceAdd, Nat.reduceMul, Nat.reduceDiv, AOp.sb, AOp.mut, ↓Bool.false_eq_true, beq_self_eq_true, ite_self, decide_eq_true_eq, decide_true, decide_false, Nat.reduceLeDiff, c0, c1, c2, c3, c13, Int.cast_ofNat_Int, Int.reduceEq, Int.reduceSub, Int.reduceAdd, Int.reduceNeg, Int.reduceLT, Int.reduceLE, Nat.reduceLT, wi, tn_nat, tn0, Nat.div_one, Nat.mul_one, T_len, m3, T_row, T_nf, T_app1, Tv_nf, PT_len, PT_app1, T_app, T_cell, List.length_nil, Nat.zero_add, seq_dec, chk_of])
  simp (disch := (first | omega | assumption)) only [initS, initE, Sw, Sx, Sb, pure_s2b, ↓reduceIte, Nat.reduceEqDiff, Nat.reduceAdd, Nat.reduceMul, Nat.reduceDiv, AOp.sb, AOp.mut, ↓Bool.false_eq_true, beq_self_eq_true, ite_self, decide_eq_true_eq, decide_true, decide_false, Nat.reduceLeDiff, c0, c1, c2, c3, c13, Int.cast_ofNat_Int, Int.reduceEq, Int.reduceSub, Int.reduceAdd, Int.reduceNeg, Int.reduceLT, Int.reduceLE, Nat.reduceLT, wi, tn_nat, tn0, Nat.div_one, Nat.mul_one, T_len, m3, T_row, T_nf, T_app1, Tv_nf, PT_len, PT_app1, T_app, T_cell, List.length_nil, Nat.zero_add, seq_dec, chk_of]
  rcases scanR_code line with ⟨h2, ts, hs, h1, hL⟩ | ⟨h2, h1⟩ | ⟨h2, h1⟩
  · rw [h1] at hl
    have sp1 := split_spec ts s (by omega) hm
    have hpn := nest_spec ts (by omega)
    have hbad := @split_bad ts s
    have hfirst := @split_first ts s
    have hpiece := @split_piece ts s
    have hsl := splitR_len ts s
    have hse := splitR_each ts s
    have hok := nest_ok ts
    have hcd := nest_code ts 0 0
    have hmt := match_ok ts
    generalize splitR ts s = sp at *
    generalize nestG ts 0 0 = ns at *
    obtain ⟨ps, c⟩ := sp
    obtain ⟨dp, e⟩ := ns
    simp only [] at sp1 hpn hbad hfirst hpiece hsl hse hok hcd hmt
    repeat first | (refine hK _ ?_; clear hK K) | simp only [Sv, ↓reduceIte, Nat.reduceEqDiff] | ((first | refine vm_reg (fun K hK => ?_) | refine vm_dreg (fun K hK => ?_)); simp (disch := (first | omega | assumption)) only [initS, initE, Sw, Sx, Sb, pure_s2b, ↓reduceIte, Nat.reduceEqDiff, Nat.reduceAdd, Nat.reduceMul, Nat.reduceDiv, AOp.sb, AOp.mut, ↓Bool.false_eq_true, beq_self_eq_true, ite_self, decide_eq_true_eq, decide_true, decide_false, Nat.reduceLeDiff, c0, c1, c2, c3, c13, Int.cast_ofNat_Int, Int.reduceEq, Int.reduceSub, Int.reduceAdd, Int.reduceNeg, Int.reduceLT, Int.reduceLE, Nat.reduceLT, wi, tn_nat, tn0, Nat.div_one, Nat.mul_one, T_len, m3, T_row, T_nf, T_app1, Tv_nf, PT_len, PT_app1, T_app, T_cell, List.length_nil, Nat.zero_add, seq_dec, chk_of, h2, h1])
    refine clp_of _ _ (scan_spec line) ?_ ?_
    · first | rfl | (simp (disch := (first | omega | assumption)) only [initS, initE, Sw, Sx, Sb, pure_s2b, ↓reduceIte, Nat.reduceEqDiff, Nat.reduceAdd, Nat.reduceMul, Nat.reduceDiv, AOp.sb, AOp.mut, ↓Bool.false_eq_true, beq_self_eq_true, ite_self, decide_eq_true_eq, decide_true, decide_false, Nat.reduceLeDiff, c0, c1, c2, c3, c13, Int.cast_ofNat_Int, Int.reduceEq, Int.reduceSub, Int.reduceAdd, Int.reduceNeg, Int.reduceLT, Int.reduceLE, Nat.reduceLT, wi, tn_nat, tn0, Nat.div_one, Nat.mul_one, T_len, m3, T_row, T_nf, T_app1, Tv_nf, PT_len, PT_app1, T_app, T_cell, List.length_nil, Nat.zero_add, seq_dec, chk_of, h2, h1])
    simp (disch := (first | omega | assumption)) only [initS, initE, Sw, Sx, Sb, pure_s2b, ↓reduceIte, Nat.reduceEqDiff, Nat.reduceAdd, Nat.reduceMul, Nat.reduceDiv, AOp.sb, AOp.mut, ↓Bool.false_eq_true, beq_self_eq_true, ite_self, decide_eq_true_eq, decide_true, decide_false, Nat.reduceLeDiff, c0, c1, c2, c3, c13, Int.cast_ofNat_Int, Int.reduceEq, Int.reduceSub, Int.reduceAdd, Int.reduceNeg, Int.reduceLT, Int.reduceLE, Nat.reduceLT, wi, tn_nat, tn0, Nat.div_one, Nat.mul_one, T_len, m3, T_row, T_nf, T_app1, Tv_nf, PT_len, PT_app1, T_app, T_cell, List.length_nil, Nat.zero_add, seq_dec, chk_of, h2, h1]
    repeat first | (refine hK _ ?_; clear hK K) | simp only [Sv, ↓reduceIte, Nat.reduceEqDiff] | ((first | refine vm_reg (fun K hK => ?_) | refine vm_dreg (fun K hK => ?_)); simp (disch := (first | omega | assumption)) only [initS, initE, Sw, Sx, Sb, pure_s2b, ↓reduceIte, Nat.reduceEqDiff, Nat.reduceAdd, Nat.reduceMul, Nat.reduceDiv, AOp.sb, AOp.mut, ↓Bool.false_eq_true, beq_self_eq_true, ite_self, decide_eq_true_eq, decide_true, decide_false, Nat.reduceLeDiff, c0, c1, c2, c3, c13, Int.cast_ofNat_Int, Int.reduceEq, Int.reduceSub, Int.reduceAdd, Int.reduceNeg, Int.reduceLT, Int.reduceLE, Nat.reduceLT, wi, tn_nat, tn0, Nat.div_one, Nat.mul_one, T_len, m3, T_row, T_nf, T_app1, Tv_nf, PT_len, PT_app1, T_app, T_cell, List.length_nil, Nat.zero_add, seq_dec, chk_of])
    refine clp_of _ _ (hpn) ?_ ?_
    · first | rfl | (simp (disch := (first | omega | assumption)) only [initS, initE, Sw, Sx, Sb, pure_s2b, ↓reduceIte, Nat.reduceEqDiff, Nat.reduceAdd, Nat.reduceMul, Nat.reduceDiv, AOp.sb, AOp.mut, ↓Bool.false_eq_true, beq_self_eq_true, ite_self, decide_eq_true_eq, decide_true, decide_false, Nat.reduceLeDiff, c0, c1, c2, c3, c13, Int.cast_ofNat_Int, Int.reduceEq, Int.reduceSub, Int.reduceAdd, Int.reduceNeg, Int.reduceLT, Int.reduceLE, Nat.reduceLT, wi, tn_nat, tn0, Nat.div_one, Nat.mul_one, T_len, m3, T_row, T_nf, T_app1, Tv_nf, PT_len, PT_app1, T_app, T_cell, List.length_nil, Nat.zero_add, seq_dec, chk_of])
    simp (disch := (first | omega | assumption)) only [initS, initE, Sw, Sx, Sb, pure_s2b, ↓reduceIte, Nat.reduceEqDiff, Nat.reduceAdd, Nat.reduceMul, Nat.reduceDiv, AOp.sb, AOp.mut, ↓Bool.false_eq_true, beq_self_eq_true, ite_self, decide_eq_true_eq, decide_true, decide_false, Nat.reduceLeDiff, c0, c1, c2, c3, c13, Int.cast_ofNat_Int, Int.reduceEq, Int.reduceSub, Int.reduceAdd, Int.reduceNeg, Int.reduceLT, Int.reduceLE, Nat.reduceLT, wi, tn_nat, tn0, Nat.div_one, Nat.mul_one, T_len, m3, T_row, T_nf, T_app1, Tv_nf, PT_len, PT_app1, T_app, T_cell, List.length_nil, Nat.zero_add, seq_dec, chk_of]
    repeat first | (refine hK _ ?_; clear hK K) | simp only [Sv, ↓reduceIte, Nat.reduceEqDiff] | ((first | refine vm_reg (fun K hK => ?_) | refine vm_dreg (fun K hK => ?_)); simp (disch := (first | omega | assumption)) only [initS, initE, Sw, Sx, Sb, pure_s2b, ↓reduceIte, Nat.reduceEqDiff, Nat.reduceAdd, Nat.reduceMul, Nat.reduceDiv, AOp.sb, AOp.mut, ↓Bool.false_eq_true, beq_self_eq_true, ite_self, decide_eq_true_eq, decide_true, decide_false, Nat.reduceLeDiff, c0, c1, c2, c3, c13, Int.cast_ofNat_Int, Int.reduceEq, Int.reduceSub, Int.reduceAdd, Int.reduceNeg, Int.reduceLT, Int.reduceLE, Nat.reduceLT, wi, tn_nat, tn0, Nat.div_one, Nat.mul_one, T_len, m3, T_row, T_nf, T_app1, Tv_nf, PT_len, PT_app1, T_app, T_cell, List.length_nil, Nat.zero_add, seq_dec, chk_of])
    refine clp_of _ _ (sp1) ?_ ?_
    · first | rfl | (simp (disch := (first | omega | assumption)) only [initS, initE, Sw, Sx, Sb, pure_s2b, ↓reduceIte, Nat.reduceEqDiff, Nat.reduceAdd, Nat.reduceMul, Nat.reduceDiv, AOp.sb, AOp.mut, ↓Bool.false_eq_true, beq_self_eq_true, ite_self, decide_eq_true_eq, decide_true, decide_false, Nat.reduceLeDiff, c0, c1, c2, c3, c13, Int.cast_ofNat_Int, Int.reduceEq, Int.reduceSub, Int.reduceAdd, Int.reduceNeg, Int.reduceLT, Int.reduceLE, Nat.reduceLT, wi, tn_nat, tn0, Nat.div_one, Nat.mul_one, T_len, m3, T_row, T_nf, T_app1, Tv_nf, PT_len, PT_app1, T_app, T_cell, List.length_nil, Nat.zero_add, seq_dec, chk_of])
    simp (disch := (first | omega | assumption)) only [initS, initE, Sw, Sx, Sb, pure_s2b, ↓reduceIte, Nat.reduceEqDiff, Nat.reduceAdd, Nat.reduceMul, Nat.reduceDiv, AOp.sb, AOp.mut, ↓Bool.false_eq_true, beq_self_eq_true, ite_self, decide_eq_true_eq, decide_true, decide_false, Nat.reduceLeDiff, c0, c1, c2, c3, c13, Int.cast_ofNat_Int, Int.reduceEq, Int.reduceSub, Int.reduceAdd, Int.reduceNeg, Int.reduceLT, Int.reduceLE, Nat.reduceLT, wi, tn_nat, tn0, Nat.div_one, Nat.mul_one, T_len, m3, T_row, T_nf, T_app1, Tv_nf, PT_len, PT_app1, T_app, T_cell, List.length_nil, Nat.zero_add, seq_dec, chk_of]
    by_cases he0 : e = 0
    · by_cases hc0 : c = 0
      · subst he0 hc0
        obtain ⟨_, hd0, hdl⟩ := hok rfl
        obtain ⟨hps, row0, hrow0, hrem0⟩ := hfirst rfl
        repeat first
          | (refine hK _ ?_; clear hK K)
          | ((first | refine vm_reg (fun K hK => ?_) | refine vm_dreg (fun K hK => ?_)); simp (disch := (first | omega | assumption)) only [initS, initE, Sw, Sx, Sb, pure_s2b, ↓reduceIte, Nat.reduceEqDiff, Nat.reduceAdd, Nat.reduceMul, Nat.reduceDiv, AOp.sb, AOp.mut, ↓Bool.false_eq_true, beq_self_eq_true, ite_self, decide_eq_true_eq, decide_true, decide_false, Nat.reduceLeDiff, c0, c1, c2, c3, c13, Int.cast_ofNat_Int, Int.reduceEq, Int.reduceSub, Int.reduceAdd, Int.reduceNeg, Int.reduceLT, Int.reduceLE, Nat.reduceLT, wi, tn_nat, tn0, Nat.div_one, Nat.mul_one, T_len, m3, T_row, T_nf, T_app1, Tv_nf, PT_len, PT_app1, T_app, T_cell, List.length_nil, Nat.zero_add, seq_dec, chk_of]; refine hK _ ?_; clear hK K)
          | simp only [Sv, ↓reduceIte, Nat.reduceEqDiff]
        refine vm_loopA [(10, 28, 3)] (Nat × List Tk) (fun x => ⟨[(1, .s s), (5, .l 3 (T ts)), (7, .i .i64 dp), (10, .ow 3 0 x.2.length), (51, .l 1 (PT ps)), (52, .i .i64 (ps.length : Int)), (53, .i .i64 (x.1 : Int))], [(0, some ⟨28, 3, T x.2, true, false⟩)], 1⟩)
          (fun x => x.1 ≤ ps.length ∧ (x.1 = 0 ∧ x.2 = [] ∨ 0 < x.1 ∧ ∃ row, ts = x.2 ++ row ∧ Rem s (ps.drop x.1) row)) (fun x => ps.length - x.1) (0, []) ⟨Nat.zero_le _, .inl ⟨rfl, rfl⟩⟩ (by simp (disch := (first | omega | assumption)) only [Sl, Sa, Sw, ↓reduceIte, Nat.reduceEqDiff, Nat.reduceLT, List.all_nil, List.all_cons, Nat.reduceBneDiff, Nat.reduceAdd, bne_iff_ne, ne_eq, reduceCtorEq, not_false_eq_true, not_true_eq_false, Bool.and_true, Bool.true_and, and_true, true_and, and_self]) (by
          simp (disch := (first | omega | assumption)) only [Sl, Sa, Sw, ↓reduceIte, Nat.reduceEqDiff, Nat.reduceLT, List.all_nil, List.all_cons, Nat.reduceBneDiff, Nat.reduceAdd, bne_iff_ne, ne_eq, reduceCtorEq, not_false_eq_true, not_true_eq_false, Bool.and_true, Bool.true_and, and_true, true_and, and_self, i_eq]
          repeat' first | rfl | omega | (simp only [List.length_append, List.length_cons, List.length_nil]; done) | apply And.intro) ?_
        rintro ⟨i, back⟩ ⟨hi, hinv⟩ Q' hQ he hr
        simp only [] at hi hinv ⊢
        by_cases hlt : (i : Int) < ps.length
        · have hlt' : i < ps.length := by omega
          have hpl := hse i
          obtain ⟨p1, p2, p3⟩ := hpiece rfl i hlt'
          have hn := nest_spec (ps.getD i []) (by omega)
          have hsp := split_spec (ps.getD i []) s (by omega) hm
          rw [p3] at hsp
          generalize nestG (ps.getD i []) 0 0 = np at *
          obtain ⟨n, en⟩ := np
          simp only [] at p1 p2 hn hsp
          subst p1
          have p4 : ¬ dp < n := by omega
          have hsl1 : ([ps.getD i []] : List (List Tk)).length = 1 := rfl
          rcases hinv with ⟨hi0, hb⟩ | ⟨hi0, row, hrow, hrem⟩
          · subst hi0 hb
            have hll := congrArg List.length hrow0
            rw [List.length_append] at hll
            have hlt0 : (0 : Int) < ps.length := by omega
            repeat first | (refine hK _ ?_; clear hK K) | simp only [Sv, ↓reduceIte, Nat.reduceEqDiff] | ((first | refine vm_reg (fun K hK => ?_) | refine vm_dreg (fun K hK => ?_)); simp (disch := (first | omega | assumption)) only [initS, initE, Sw, Sx, Sb, pure_s2b, ↓reduceIte, Nat.reduceEqDiff, Nat.reduceAdd, Nat.reduceMul, Nat.reduceDiv, AOp.sb, AOp.mut, ↓Bool.false_eq_true, beq_self_eq_true, ite_self, decide_eq_true_eq, decide_true, decide_false, Nat.reduceLeDiff, c0, c1, c2, c3, c13, Int.cast_ofNat_Int, Int.reduceEq, Int.reduceSub, Int.reduceAdd, Int.reduceNeg, Int.reduceLT, Int.reduceLE, Nat.reduceLT, wi, tn_nat, tn0, Nat.div_one, Nat.mul_one, T_len, m3, T_row, T_nf, T_app1, Tv_nf, PT_len, PT_app1, T_app, T_cell, List.length_nil, Nat.zero_add, seq_dec, chk_of, hlt0, PT_get])
            refine clp_of _ _ (hn) ?_ ?_
            · first | rfl | (simp (disch := (first | omega | assumption)) only [initS, initE, Sw, Sx, Sb, pure_s2b, ↓reduceIte, Nat.reduceEqDiff, Nat.reduceAdd, Nat.reduceMul, Nat.reduceDiv, AOp.sb, AOp.mut, ↓Bool.false_eq_true, beq_self_eq_true, ite_self, decide_eq_true_eq, decide_true, decide_false, Nat.reduceLeDiff, c0, c1, c2, c3, c13, Int.cast_ofNat_Int, Int.reduceEq, Int.reduceSub, Int.reduceAdd, Int.reduceNeg, Int.reduceLT, Int.reduceLE, Nat.reduceLT, wi, tn_nat, tn0, Nat.div_one, Nat.mul_one, T_len, m3, T_row, T_nf, T_app1, Tv_nf, PT_len, PT_app1, T_app, T_cell, List.length_nil, Nat.zero_add, seq_dec, chk_of, hlt0, PT_get])
            simp (disch := (first | omega | assumption)) only [initS, initE, Sw, Sx, Sb, pure_s2b, ↓reduceIte, Nat.reduceEqDiff, Nat.reduceAdd, Nat.reduceMul, Nat.reduceDiv, AOp.sb, AOp.mut, ↓Bool.false_eq_true, beq_self_eq_true, ite_self, decide_eq_true_eq, decide_true, decide_false, Nat.reduceLeDiff, c0, c1, c2, c3, c13, Int.cast_ofNat_Int, Int.reduceEq, Int.reduceSub, Int.reduceAdd, Int.reduceNeg, Int.reduceLT, Int.reduceLE, Nat.reduceLT, wi, tn_nat, tn0, Nat.div_one, Nat.mul_one, T_len, m3, T_row, T_nf, T_app1, Tv_nf, PT_len, PT_app1, T_app, T_cell, List.length_nil, Nat.zero_add, seq_dec, chk_of, hlt0, PT_get]
            repeat first | (refine hK _ ?_; clear hK K) | simp only [Sv, ↓reduceIte, Nat.reduceEqDiff] | ((first | refine vm_reg (fun K hK => ?_) | refine vm_dreg (fun K hK => ?_)); simp (disch := (first | omega | assumption)) only [initS, initE, Sw, Sx, Sb, pure_s2b, ↓reduceIte, Nat.reduceEqDiff, Nat.reduceAdd, Nat.reduceMul, Nat.reduceDiv, AOp.sb, AOp.mut, ↓Bool.false_eq_true, beq_self_eq_true, ite_self, decide_eq_true_eq, decide_true, decide_false, Nat.reduceLeDiff, c0, c1, c2, c3, c13, Int.cast_ofNat_Int, Int.reduceEq, Int.reduceSub, Int.reduceAdd, Int.reduceNeg, Int.reduceLT, Int.reduceLE, Nat.reduceLT, wi, tn_nat, tn0, Nat.div_one, Nat.mul_one, T_len, m3, T_row, T_nf, T_app1, Tv_nf, PT_len, PT_app1, T_app, T_cell, List.length_nil, Nat.zero_add, seq_dec, chk_of, PT_get])
            refine clp_of _ _ (hsp) ?_ ?_
            · first | rfl | (simp (disch := (first | omega | assumption)) only [initS, initE, Sw, Sx, Sb, pure_s2b, ↓reduceIte, Nat.reduceEqDiff, Nat.reduceAdd, Nat.reduceMul, Nat.reduceDiv, AOp.sb, AOp.mut, ↓Bool.false_eq_true, beq_self_eq_true, ite_self, decide_eq_true_eq, decide_true, decide_false, Nat.reduceLeDiff, c0, c1, c2, c3, c13, Int.cast_ofNat_Int, Int.reduceEq, Int.reduceSub, Int.reduceAdd, Int.reduceNeg, Int.reduceLT, Int.reduceLE, Nat.reduceLT, wi, tn_nat, tn0, Nat.div_one, Nat.mul_one, T_len, m3, T_row, T_nf, T_app1, Tv_nf, PT_len, PT_app1, T_app, T_cell, List.length_nil, Nat.zero_add, seq_dec, chk_of, PT_get])
            simp (disch := (first | omega | assumption)) only [initS, initE, Sw, Sx, Sb, pure_s2b, ↓reduceIte, Nat.reduceEqDiff, Nat.reduceAdd, Nat.reduceMul, Nat.reduceDiv, AOp.sb, AOp.mut, ↓Bool.false_eq_true, beq_self_eq_true, ite_self, decide_eq_true_eq, decide_true, decide_false, Nat.reduceLeDiff, c0, c1, c2, c3, c13, Int.cast_ofNat_Int, Int.reduceEq, Int.reduceSub, Int.reduceAdd, Int.reduceNeg, Int.reduceLT, Int.reduceLE, Nat.reduceLT, wi, tn_nat, tn0, Nat.div_one, Nat.mul_one, T_len, m3, T_row, T_nf, T_app1, Tv_nf, PT_len, PT_app1, T_app, T_cell, List.length_nil, Nat.zero_add, seq_dec, chk_of, PT_get]
            repeat first
              | (refine hK _ ?_; clear hK K)
              | ((first | refine vm_reg (fun K hK => ?_) | refine vm_dreg (fun K hK => ?_)); simp (disch := (first | omega | assumption)) only [initS, initE, Sw, Sx, Sb, pure_s2b, ↓reduceIte, Nat.reduceEqDiff, Nat.reduceAdd, Nat.reduceMul, Nat.reduceDiv, AOp.sb, AOp.mut, ↓Bool.false_eq_true, beq_self_eq_true, ite_self, decide_eq_true_eq, decide_true, decide_false, Nat.reduceLeDiff, c0, c1, c2, c3, c13, Int.cast_ofNat_Int, Int.reduceEq, Int.reduceSub, Int.reduceAdd, Int.reduceNeg, Int.reduceLT, Int.reduceLE, Nat.reduceLT, wi, tn_nat, tn0, Nat.div_one, Nat.mul_one, T_len, m3, T_row, T_nf, T_app1, Tv_nf, PT_len, PT_app1, T_app, T_cell, List.length_nil, Nat.zero_add, seq_dec, chk_of, p4, hsl1]; refine hK _ ?_; clear hK K)
              | simp only [Sv, ↓reduceIte, Nat.reduceEqDiff]
            refine hQ _ (1, ps.getD 0 []) ⟨by simp only; omega, .inr ⟨by simp only; omega, row0, hrow0, hrem0⟩⟩ (by simp only; omega) ?_
            simp (disch := (first | omega | assumption)) only [Sl, Sa, Sw, ↓reduceIte, Nat.reduceEqDiff, Nat.reduceLT, List.all_nil, List.all_cons, Nat.reduceBneDiff, Nat.reduceAdd, bne_iff_ne, ne_eq, reduceCtorEq, not_false_eq_true, not_true_eq_false, Bool.and_true, Bool.true_and, and_true, true_and, and_self, i_eq]
            repeat' first | rfl | omega | (simp only [List.length_append, List.length_cons, List.length_nil]; done) | apply And.intro
          · obtain ⟨t, row', hr1, hr2, hr3⟩ := rem_drop hlt' hrem
            rw [hr1] at hrow
            have hll := congrArg List.length hrow
            rw [List.length_append, List.length_cons, List.length_append] at hll
            obtain ⟨k5, kt⟩ := isS_t hr2
            have hg : ts.getD back.length default = t := by rw [hrow]; exact getD_mid _ _ _ _
            have g1 : (0 : Int) < (i : Int) := by omega
            have g2 : ¬ (ts.length : Int) ≤ (back.length : Int) := by omega
            have g3 : ts = back ++ [t] ++ ps.getD i [] ++ row' := by rw [hrow]; simp
            have g4 : back ++ [⟨5, s, t.a⟩] = back ++ [t] := by rw [← k5, ← kt]
            repeat first | (refine hK _ ?_; clear hK K) | simp only [Sv, ↓reduceIte, Nat.reduceEqDiff] | ((first | refine vm_reg (fun K hK => ?_) | refine vm_dreg (fun K hK => ?_)); simp (disch := (first | omega | assumption)) only [initS, initE, Sw, Sx, Sb, pure_s2b, ↓reduceIte, Nat.reduceEqDiff, Nat.reduceAdd, Nat.reduceMul, Nat.reduceDiv, AOp.sb, AOp.mut, ↓Bool.false_eq_true, beq_self_eq_true, ite_self, decide_eq_true_eq, decide_true, decide_false, Nat.reduceLeDiff, c0, c1, c2, c3, c13, Int.cast_ofNat_Int, Int.reduceEq, Int.reduceSub, Int.reduceAdd, Int.reduceNeg, Int.reduceLT, Int.reduceLE, Nat.reduceLT, wi, tn_nat, tn0, Nat.div_one, Nat.mul_one, T_len, m3, T_row, T_nf, T_app1, Tv_nf, PT_len, PT_app1, T_app, T_cell, List.length_nil, Nat.zero_add, seq_dec, chk_of, hlt, PT_get, g1, g2, T_k, T_t, hg, k5, kt, g4])
            refine clp_of _ _ (hn) ?_ ?_
            · first | rfl | (simp (disch := (first | omega | assumption)) only [initS, initE, Sw, Sx, Sb, pure_s2b, ↓reduceIte, Nat.reduceEqDiff, Nat.reduceAdd, Nat.reduceMul, Nat.reduceDiv, AOp.sb, AOp.mut, ↓Bool.false_eq_true, beq_self_eq_true, ite_self, decide_eq_true_eq, decide_true, decide_false, Nat.reduceLeDiff, c0, c1, c2, c3, c13, Int.cast_ofNat_Int, Int.reduceEq, Int.reduceSub, Int.reduceAdd, Int.reduceNeg, Int.reduceLT, Int.reduceLE, Nat.reduceLT, wi, tn_nat, tn0, Nat.div_one, Nat.mul_one, T_len, m3, T_row, T_nf, T_app1, Tv_nf, PT_len, PT_app1, T_app, T_cell, List.length_nil, Nat.zero_add, seq_dec, chk_of, hlt, PT_get, g1, g2, T_k, T_t, hg, k5, kt, g4])
            simp (disch := (first | omega | assumption)) only [initS, initE, Sw, Sx, Sb, pure_s2b, ↓reduceIte, Nat.reduceEqDiff, Nat.reduceAdd, Nat.reduceMul, Nat.reduceDiv, AOp.sb, AOp.mut, ↓Bool.false_eq_true, beq_self_eq_true, ite_self, decide_eq_true_eq, decide_true, decide_false, Nat.reduceLeDiff, c0, c1, c2, c3, c13, Int.cast_ofNat_Int, Int.reduceEq, Int.reduceSub, Int.reduceAdd, Int.reduceNeg, Int.reduceLT, Int.reduceLE, Nat.reduceLT, wi, tn_nat, tn0, Nat.div_one, Nat.mul_one, T_len, m3, T_row, T_nf, T_app1, Tv_nf, PT_len, PT_app1, T_app, T_cell, List.length_nil, Nat.zero_add, seq_dec, chk_of, hlt, PT_get, g1, g2, T_k, T_t, hg, k5, kt, g4]
            repeat first | (refine hK _ ?_; clear hK K) | simp only [Sv, ↓reduceIte, Nat.reduceEqDiff] | ((first | refine vm_reg (fun K hK => ?_) | refine vm_dreg (fun K hK => ?_)); simp (disch := (first | omega | assumption)) only [initS, initE, Sw, Sx, Sb, pure_s2b, ↓reduceIte, Nat.reduceEqDiff, Nat.reduceAdd, Nat.reduceMul, Nat.reduceDiv, AOp.sb, AOp.mut, ↓Bool.false_eq_true, beq_self_eq_true, ite_self, decide_eq_true_eq, decide_true, decide_false, Nat.reduceLeDiff, c0, c1, c2, c3, c13, Int.cast_ofNat_Int, Int.reduceEq, Int.reduceSub, Int.reduceAdd, Int.reduceNeg, Int.reduceLT, Int.reduceLE, Nat.reduceLT, wi, tn_nat, tn0, Nat.div_one, Nat.mul_one, T_len, m3, T_row, T_nf, T_app1, Tv_nf, PT_len, PT_app1, T_app, T_cell, List.length_nil, Nat.zero_add, seq_dec, chk_of, PT_get])
            refine clp_of _ _ (hsp) ?_ ?_
            · first | rfl | (simp (disch := (first | omega | assumption)) only [initS, initE, Sw, Sx, Sb, pure_s2b, ↓reduceIte, Nat.reduceEqDiff, Nat.reduceAdd, Nat.reduceMul, Nat.reduceDiv, AOp.sb, AOp.mut, ↓Bool.false_eq_true, beq_self_eq_true, ite_self, decide_eq_true_eq, decide_true, decide_false, Nat.reduceLeDiff, c0, c1, c2, c3, c13, Int.cast_ofNat_Int, Int.reduceEq, Int.reduceSub, Int.reduceAdd, Int.reduceNeg, Int.reduceLT, Int.reduceLE, Nat.reduceLT, wi, tn_nat, tn0, Nat.div_one, Nat.mul_one, T_len, m3, T_row, T_nf, T_app1, Tv_nf, PT_len, PT_app1, T_app, T_cell, List.length_nil, Nat.zero_add, seq_dec, chk_of, PT_get])
            simp (disch := (first | omega | assumption)) only [initS, initE, Sw, Sx, Sb, pure_s2b, ↓reduceIte, Nat.reduceEqDiff, Nat.reduceAdd, Nat.reduceMul, Nat.reduceDiv, AOp.sb, AOp.mut, ↓Bool.false_eq_true, beq_self_eq_true, ite_self, decide_eq_true_eq, decide_true, decide_false, Nat.reduceLeDiff, c0, c1, c2, c3, c13, Int.cast_ofNat_Int, Int.reduceEq, Int.reduceSub, Int.reduceAdd, Int.reduceNeg, Int.reduceLT, Int.reduceLE, Nat.reduceLT, wi, tn_nat, tn0, Nat.div_one, Nat.mul_one, T_len, m3, T_row, T_nf, T_app1, Tv_nf, PT_len, PT_app1, T_app, T_cell, List.length_nil, Nat.zero_add, seq_dec, chk_of, PT_get]
            repeat first
              | (refine hK _ ?_; clear hK K)
              | ((first | refine vm_reg (fun K hK => ?_) | refine vm_dreg (fun K hK => ?_)); simp (disch := (first | omega | assumption)) only [initS, initE, Sw, Sx, Sb, pure_s2b, ↓reduceIte, Nat.reduceEqDiff, Nat.reduceAdd, Nat.reduceMul, Nat.reduceDiv, AOp.sb, AOp.mut, ↓Bool.false_eq_true, beq_self_eq_true, ite_self, decide_eq_true_eq, decide_true, decide_false, Nat.reduceLeDiff, c0, c1, c2, c3, c13, Int.cast_ofNat_Int, Int.reduceEq, Int.reduceSub, Int.reduceAdd, Int.reduceNeg, Int.reduceLT, Int.reduceLE, Nat.reduceLT, wi, tn_nat, tn0, Nat.div_one, Nat.mul_one, T_len, m3, T_row, T_nf, T_app1, Tv_nf, PT_len, PT_app1, T_app, T_cell, List.length_nil, Nat.zero_add, seq_dec, chk_of, p4, hsl1]; refine hK _ ?_; clear hK K)
              | simp only [Sv, ↓reduceIte, Nat.reduceEqDiff]
            refine hQ _ (i + 1, back ++ [t] ++ ps.getD i []) ⟨by simp only; omega, .inr ⟨by simp only; omega, row', g3, hr3⟩⟩ (by simp only; omega) ?_
            simp (disch := (first | omega | assumption)) only [Sl, Sa, Sw, ↓reduceIte, Nat.reduceEqDiff, Nat.reduceLT, List.all_nil, List.all_cons, Nat.reduceBneDiff, Nat.reduceAdd, bne_iff_ne, ne_eq, reduceCtorEq, not_false_eq_true, not_true_eq_false, Bool.and_true, Bool.true_and, and_true, true_and, and_self, i_eq]
            repeat' first | rfl | omega | (simp only [List.length_append, List.length_cons, List.length_nil]; done) | apply And.intro
        · obtain rfl : i = ps.length := by omega
          have hb : back = ts := by
            rcases hinv with ⟨h, _⟩ | ⟨_, row, h, hr'⟩
            · omega
            · rw [List.drop_length] at hr'
              rw [h, hr', List.append_nil]
          subst hb
          repeat first
            | (refine hK _ ?_; clear hK K)
            | ((first | refine vm_reg (fun K hK => ?_) | refine vm_dreg (fun K hK => ?_)); simp (disch := (first | omega | assumption)) only [initS, initE, Sw, Sx, Sb, pure_s2b, ↓reduceIte, Nat.reduceEqDiff, Nat.reduceAdd, Nat.reduceMul, Nat.reduceDiv, AOp.sb, AOp.mut, ↓Bool.false_eq_true, beq_self_eq_true, ite_self, decide_eq_true_eq, decide_true, decide_false, Nat.reduceLeDiff, c0, c1, c2, c3, c13, Int.cast_ofNat_Int, Int.reduceEq, Int.reduceSub, Int.reduceAdd, Int.reduceNeg, Int.reduceLT, Int.reduceLE, Nat.reduceLT, wi, tn_nat, tn0, Nat.div_one, Nat.mul_one, T_len, m3, T_row, T_nf, T_app1, Tv_nf, PT_len, PT_app1, T_app, T_cell, List.length_nil, Nat.zero_add, seq_dec, chk_of, hlt]; refine hK _ ?_; clear hK K)
            | simp only [Sv, ↓reduceIte, Nat.reduceEqDiff]
          refine he _ _ ?_
          repeat first | (refine hK _ ?_; clear hK K) | simp only [Sv, ↓reduceIte, Nat.reduceEqDiff] | ((first | refine vm_reg (fun K hK => ?_) | refine vm_dreg (fun K hK => ?_)); simp (disch := (first | omega | assumption)) only [initS, initE, Sw, Sx, Sb, pure_s2b, ↓reduceIte, Nat.reduceEqDiff, Nat.reduceAdd, Nat.reduceMul, Nat.reduceDiv, AOp.sb, AOp.mut, ↓Bool.false_eq_true, beq_self_eq_true, ite_self, decide_eq_true_eq, decide_true, decide_false, Nat.reduceLeDiff, c0, c1, c2, c3, c13, Int.cast_ofNat_Int, Int.reduceEq, Int.reduceSub, Int.reduceAdd, Int.reduceNeg, Int.reduceLT, Int.reduceLE, Nat.reduceLT, wi, tn_nat, tn0, Nat.div_one, Nat.mul_one, T_len, m3, T_row, T_nf, T_app1, Tv_nf, PT_len, PT_app1, T_app, T_cell, List.length_nil, Nat.zero_add, seq_dec, chk_of])
          refine clp_of _ _ (from_spec back (by omega)) ?_ ?_
          · first | rfl | (simp (disch := (first | omega | assumption)) only [initS, initE, Sw, Sx, Sb, pure_s2b, ↓reduceIte, Nat.reduceEqDiff, Nat.reduceAdd, Nat.reduceMul, Nat.reduceDiv, AOp.sb, AOp.mut, ↓Bool.false_eq_true, beq_self_eq_true, ite_self, decide_eq_true_eq, decide_true, decide_false, Nat.reduceLeDiff, c0, c1, c2, c3, c13, Int.cast_ofNat_Int, Int.reduceEq, Int.reduceSub, Int.reduceAdd, Int.reduceNeg, Int.reduceLT, Int.reduceLE, Nat.reduceLT, wi, tn_nat, tn0, Nat.div_one, Nat.mul_one, T_len, m3, T_row, T_nf, T_app1, Tv_nf, PT_len, PT_app1, T_app, T_cell, List.length_nil, Nat.zero_add, seq_dec, chk_of])
          simp (disch := (first | omega | assumption)) only [initS, initE, Sw, Sx, Sb, pure_s2b, ↓reduceIte, Nat.reduceEqDiff, Nat.reduceAdd, Nat.reduceMul, Nat.reduceDiv, AOp.sb, AOp.mut, ↓Bool.false_eq_true, beq_self_eq_true, ite_self, decide_eq_true_eq, decide_true, decide_false, Nat.reduceLeDiff, c0, c1, c2, c3, c13, Int.cast_ofNat_Int, Int.reduceEq, Int.reduceSub, Int.reduceAdd, Int.reduceNeg, Int.reduceLT, Int.reduceLE, Nat.reduceLT, wi, tn_nat, tn0, Nat.div_one, Nat.mul_one, T_len, m3, T_row, T_nf, T_app1, Tv_nf, PT_len, PT_app1, T_app, T_cell, List.length_nil, Nat.zero_add, seq_dec, chk_of]
          repeat first | (refine hK _ ?_; clear hK K) | simp only [Sv, ↓reduceIte, Nat.reduceEqDiff] | ((first | refine vm_reg (fun K hK => ?_) | refine vm_dreg (fun K hK => ?_)); simp (disch := (first | omega | assumption)) only [initS, initE, Sw, Sx, Sb, pure_s2b, ↓reduceIte, Nat.reduceEqDiff, Nat.reduceAdd, Nat.reduceMul, Nat.reduceDiv, AOp.sb, AOp.mut, ↓Bool.false_eq_true, beq_self_eq_true, ite_self, decide_eq_true_eq, decide_true, decide_false, Nat.reduceLeDiff, c0, c1, c2, c3, c13, Int.cast_ofNat_Int, Int.reduceEq, Int.reduceSub, Int.reduceAdd, Int.reduceNeg, Int.reduceLT, Int.reduceLE, Nat.reduceLT, wi, tn_nat, tn0, Nat.div_one, Nat.mul_one, T_len, m3, T_row, T_nf, T_app1, Tv_nf, PT_len, PT_app1, T_app, T_cell, List.length_nil, Nat.zero_add, seq_dec, chk_of])
          refine clp_of _ _ (from_spec back (by omega)) ?_ ?_
          · first | rfl | (simp (disch := (first | omega | assumption)) only [initS, initE, Sw, Sx, Sb, pure_s2b, ↓reduceIte, Nat.reduceEqDiff, Nat.reduceAdd, Nat.reduceMul, Nat.reduceDiv, AOp.sb, AOp.mut, ↓Bool.false_eq_true, beq_self_eq_true, ite_self, decide_eq_true_eq, decide_true, decide_false, Nat.reduceLeDiff, c0, c1, c2, c3, c13, Int.cast_ofNat_Int, Int.reduceEq, Int.reduceSub, Int.reduceAdd, Int.reduceNeg, Int.reduceLT, Int.reduceLE, Nat.reduceLT, wi, tn_nat, tn0, Nat.div_one, Nat.mul_one, T_len, m3, T_row, T_nf, T_app1, Tv_nf, PT_len, PT_app1, T_app, T_cell, List.length_nil, Nat.zero_add, seq_dec, chk_of])
          simp (disch := (first | omega | assumption)) only [initS, initE, Sw, Sx, Sb, pure_s2b, ↓reduceIte, Nat.reduceEqDiff, Nat.reduceAdd, Nat.reduceMul, Nat.reduceDiv, AOp.sb, AOp.mut, ↓Bool.false_eq_true, beq_self_eq_true, ite_self, decide_eq_true_eq, decide_true, decide_false, Nat.reduceLeDiff, c0, c1, c2, c3, c13, Int.cast_ofNat_Int, Int.reduceEq, Int.reduceSub, Int.reduceAdd, Int.reduceNeg, Int.reduceLT, Int.reduceLE, Nat.reduceLT, wi, tn_nat, tn0, Nat.div_one, Nat.mul_one, T_len, m3, T_row, T_nf, T_app1, Tv_nf, PT_len, PT_app1, T_app, T_cell, List.length_nil, Nat.zero_add, seq_dec, chk_of]
          repeat first | (refine hK _ ?_; clear hK K) | simp only [Sv, ↓reduceIte, Nat.reduceEqDiff] | ((first | refine vm_reg (fun K hK => ?_) | refine vm_dreg (fun K hK => ?_)); simp (disch := (first | omega | assumption)) only [initS, initE, Sw, Sx, Sb, pure_s2b, ↓reduceIte, Nat.reduceEqDiff, Nat.reduceAdd, Nat.reduceMul, Nat.reduceDiv, AOp.sb, AOp.mut, ↓Bool.false_eq_true, beq_self_eq_true, ite_self, decide_eq_true_eq, decide_true, decide_false, Nat.reduceLeDiff, c0, c1, c2, c3, c13, Int.cast_ofNat_Int, Int.reduceEq, Int.reduceSub, Int.reduceAdd, Int.reduceNeg, Int.reduceLT, Int.reduceLE, Nat.reduceLT, wi, tn_nat, tn0, Nat.div_one, Nat.mul_one, T_len, m3, T_row, T_nf, T_app1, Tv_nf, PT_len, PT_app1, T_app, T_cell, List.length_nil, Nat.zero_add, seq_dec, chk_of])
          refine clp_of _ _ (same_spec back back (by omega) (by omega)) ?_ ?_
          · first | rfl | (simp (disch := (first | omega | assumption)) only [initS, initE, Sw, Sx, Sb, pure_s2b, ↓reduceIte, Nat.reduceEqDiff, Nat.reduceAdd, Nat.reduceMul, Nat.reduceDiv, AOp.sb, AOp.mut, ↓Bool.false_eq_true, beq_self_eq_true, ite_self, decide_eq_true_eq, decide_true, decide_false, Nat.reduceLeDiff, c0, c1, c2, c3, c13, Int.cast_ofNat_Int, Int.reduceEq, Int.reduceSub, Int.reduceAdd, Int.reduceNeg, Int.reduceLT, Int.reduceLE, Nat.reduceLT, wi, tn_nat, tn0, Nat.div_one, Nat.mul_one, T_len, m3, T_row, T_nf, T_app1, Tv_nf, PT_len, PT_app1, T_app, T_cell, List.length_nil, Nat.zero_add, seq_dec, chk_of])
          simp (disch := (first | omega | assumption)) only [initS, initE, Sw, Sx, Sb, pure_s2b, ↓reduceIte, Nat.reduceEqDiff, Nat.reduceAdd, Nat.reduceMul, Nat.reduceDiv, AOp.sb, AOp.mut, ↓Bool.false_eq_true, beq_self_eq_true, ite_self, decide_eq_true_eq, decide_true, decide_false, Nat.reduceLeDiff, c0, c1, c2, c3, c13, Int.cast_ofNat_Int, Int.reduceEq, Int.reduceSub, Int.reduceAdd, Int.reduceNeg, Int.reduceLT, Int.reduceLE, Nat.reduceLT, wi, tn_nat, tn0, Nat.div_one, Nat.mul_one, T_len, m3, T_row, T_nf, T_app1, Tv_nf, PT_len, PT_app1, T_app, T_cell, List.length_nil, Nat.zero_add, seq_dec, chk_of]
          repeat first
            | (refine hK _ ?_; clear hK K)
            | ((first | refine vm_reg (fun K hK => ?_) | refine vm_dreg (fun K hK => ?_)); simp (disch := (first | omega | assumption)) only [initS, initE, Sw, Sx, Sb, pure_s2b, ↓reduceIte, Nat.reduceEqDiff, Nat.reduceAdd, Nat.reduceMul, Nat.reduceDiv, AOp.sb, AOp.mut, ↓Bool.false_eq_true, beq_self_eq_true, ite_self, decide_eq_true_eq, decide_true, decide_false, Nat.reduceLeDiff, c0, c1, c2, c3, c13, Int.cast_ofNat_Int, Int.reduceEq, Int.reduceSub, Int.reduceAdd, Int.reduceNeg, Int.reduceLT, Int.reduceLE, Nat.reduceLT, wi, tn_nat, tn0, Nat.div_one, Nat.mul_one, T_len, m3, T_row, T_nf, T_app1, Tv_nf, PT_len, PT_app1, T_app, T_cell, List.length_nil, Nat.zero_add, seq_dec, chk_of]; refine hK _ ?_; clear hK K)
            | simp only [Sv, ↓reduceIte, Nat.reduceEqDiff]
          refine vm_loopA [] Nat (fun k => ⟨[(5, .l 3 (T back)), (7, .i .i64 dp), (128, .i .i64 (back.length : Int)), (129, .i .i64 (k : Int))], [], 0⟩) (fun k => k ≤ back.length) (fun k => back.length - k) 0 (Nat.zero_le _) (by simp (disch := (first | omega | assumption)) only [Sl, Sa, Sw, ↓reduceIte, Nat.reduceEqDiff, Nat.reduceLT, List.all_nil, List.all_cons, Nat.reduceBneDiff, Nat.reduceAdd, bne_iff_ne, ne_eq, reduceCtorEq, not_false_eq_true, not_true_eq_false, Bool.and_true, Bool.true_and, and_true, true_and, and_self]) (by
            simp (disch := (first | omega | assumption)) only [Sl, Sa, Sw, ↓reduceIte, Nat.reduceEqDiff, Nat.reduceLT, List.all_nil, List.all_cons, Nat.reduceBneDiff, Nat.reduceAdd, bne_iff_ne, ne_eq, reduceCtorEq, not_false_eq_true, not_true_eq_false, Bool.and_true, Bool.true_and, and_true, true_and, and_self, i_eq]
            repeat' first | rfl | omega | (simp only [List.length_append, List.length_cons, List.length_nil]; done) | apply And.intro) ?_
          intro k hk Q2 hQ2 he2 hr2
          by_cases hkt : (k : Int) < back.length
          · have hkt' : k < back.length := by omega
            have hmk := match_spec back k (by omega)
            cases ho : isS (back.getD k default) [40]
            · rw [match_no back k ho] at hmk
              unfold isS at ho; rw [decide_eq_false_iff_not] at ho
              by_cases h5 : (back.getD k default).k = 5
              · have h6 : ¬ (back.getD k default).t = [40] := fun h => ho ⟨h5, h⟩
                repeat first | (refine hK _ ?_; clear hK K) | simp only [Sv, ↓reduceIte, Nat.reduceEqDiff] | ((first | refine vm_reg (fun K hK => ?_) | refine vm_dreg (fun K hK => ?_)); simp (disch := (first | omega | assumption)) only [initS, initE, Sw, Sx, Sb, pure_s2b, ↓reduceIte, Nat.reduceEqDiff, Nat.reduceAdd, Nat.reduceMul, Nat.reduceDiv, AOp.sb, AOp.mut, ↓Bool.false_eq_true, beq_self_eq_true, ite_self, decide_eq_true_eq, decide_true, decide_false, Nat.reduceLeDiff, c0, c1, c2, c3, c13, Int.cast_ofNat_Int, Int.reduceEq, Int.reduceSub, Int.reduceAdd, Int.reduceNeg, Int.reduceLT, Int.reduceLE, Nat.reduceLT, wi, tn_nat, tn0, Nat.div_one, Nat.mul_one, T_len, m3, T_row, T_nf, T_app1, Tv_nf, PT_len, PT_app1, T_app, T_cell, List.length_nil, Nat.zero_add, seq_dec, chk_of, hkt])
                refine clp_of _ _ (hmk) ?_ ?_
                · first | rfl | (simp (disch := (first | omega | assumption)) only [initS, initE, Sw, Sx, Sb, pure_s2b, ↓reduceIte, Nat.reduceEqDiff, Nat.reduceAdd, Nat.reduceMul, Nat.reduceDiv, AOp.sb, AOp.mut, ↓Bool.false_eq_true, beq_self_eq_true, ite_self, decide_eq_true_eq, decide_true, decide_false, Nat.reduceLeDiff, c0, c1, c2, c3, c13, Int.cast_ofNat_Int, Int.reduceEq, Int.reduceSub, Int.reduceAdd, Int.reduceNeg, Int.reduceLT, Int.reduceLE, Nat.reduceLT, wi, tn_nat, tn0, Nat.div_one, Nat.mul_one, T_len, m3, T_row, T_nf, T_app1, Tv_nf, PT_len, PT_app1, T_app, T_cell, List.length_nil, Nat.zero_add, seq_dec, chk_of, hkt])
                simp (disch := (first | omega | assumption)) only [initS, initE, Sw, Sx, Sb, pure_s2b, ↓reduceIte, Nat.reduceEqDiff, Nat.reduceAdd, Nat.reduceMul, Nat.reduceDiv, AOp.sb, AOp.mut, ↓Bool.false_eq_true, beq_self_eq_true, ite_self, decide_eq_true_eq, decide_true, decide_false, Nat.reduceLeDiff, c0, c1, c2, c3, c13, Int.cast_ofNat_Int, Int.reduceEq, Int.reduceSub, Int.reduceAdd, Int.reduceNeg, Int.reduceLT, Int.reduceLE, Nat.reduceLT, wi, tn_nat, tn0, Nat.div_one, Nat.mul_one, T_len, m3, T_row, T_nf, T_app1, Tv_nf, PT_len, PT_app1, T_app, T_cell, List.length_nil, Nat.zero_add, seq_dec, chk_of, hkt]
                repeat first | (refine hK _ ?_; clear hK K) | simp only [Sv, ↓reduceIte, Nat.reduceEqDiff] | ((first | refine vm_reg (fun K hK => ?_) | refine vm_dreg (fun K hK => ?_)); simp (disch := (first | omega | assumption)) only [initS, initE, Sw, Sx, Sb, pure_s2b, ↓reduceIte, Nat.reduceEqDiff, Nat.reduceAdd, Nat.reduceMul, Nat.reduceDiv, AOp.sb, AOp.mut, ↓Bool.false_eq_true, beq_self_eq_true, ite_self, decide_eq_true_eq, decide_true, decide_false, Nat.reduceLeDiff, c0, c1, c2, c3, c13, Int.cast_ofNat_Int, Int.reduceEq, Int.reduceSub, Int.reduceAdd, Int.reduceNeg, Int.reduceLT, Int.reduceLE, Nat.reduceLT, wi, tn_nat, tn0, Nat.div_one, Nat.mul_one, T_len, m3, T_row, T_nf, T_app1, Tv_nf, PT_len, PT_app1, T_app, T_cell, List.length_nil, Nat.zero_add, seq_dec, chk_of, T_k, T_t, h5, h6])
                refine clp_of _ _ (plain_spec 3 3 (by omega)) ?_ ?_
                · first | rfl | (simp (disch := (first | omega | assumption)) only [initS, initE, Sw, Sx, Sb, pure_s2b, ↓reduceIte, Nat.reduceEqDiff, Nat.reduceAdd, Nat.reduceMul, Nat.reduceDiv, AOp.sb, AOp.mut, ↓Bool.false_eq_true, beq_self_eq_true, ite_self, decide_eq_true_eq, decide_true, decide_false, Nat.reduceLeDiff, c0, c1, c2, c3, c13, Int.cast_ofNat_Int, Int.reduceEq, Int.reduceSub, Int.reduceAdd, Int.reduceNeg, Int.reduceLT, Int.reduceLE, Nat.reduceLT, wi, tn_nat, tn0, Nat.div_one, Nat.mul_one, T_len, m3, T_row, T_nf, T_app1, Tv_nf, PT_len, PT_app1, T_app, T_cell, List.length_nil, Nat.zero_add, seq_dec, chk_of, T_k, T_t, h5, h6])
                simp (disch := (first | omega | assumption)) only [initS, initE, Sw, Sx, Sb, pure_s2b, ↓reduceIte, Nat.reduceEqDiff, Nat.reduceAdd, Nat.reduceMul, Nat.reduceDiv, AOp.sb, AOp.mut, ↓Bool.false_eq_true, beq_self_eq_true, ite_self, decide_eq_true_eq, decide_true, decide_false, Nat.reduceLeDiff, c0, c1, c2, c3, c13, Int.cast_ofNat_Int, Int.reduceEq, Int.reduceSub, Int.reduceAdd, Int.reduceNeg, Int.reduceLT, Int.reduceLE, Nat.reduceLT, wi, tn_nat, tn0, Nat.div_one, Nat.mul_one, T_len, m3, T_row, T_nf, T_app1, Tv_nf, PT_len, PT_app1, T_app, T_cell, List.length_nil, Nat.zero_add, seq_dec, chk_of, T_k, T_t, h5, h6]
                repeat first
                  | (refine hK _ ?_; clear hK K)
                  | ((first | refine vm_reg (fun K hK => ?_) | refine vm_dreg (fun K hK => ?_)); simp (disch := (first | omega | assumption)) only [initS, initE, Sw, Sx, Sb, pure_s2b, ↓reduceIte, Nat.reduceEqDiff, Nat.reduceAdd, Nat.reduceMul, Nat.reduceDiv, AOp.sb, AOp.mut, ↓Bool.false_eq_true, beq_self_eq_true, ite_self, decide_eq_true_eq, decide_true, decide_false, Nat.reduceLeDiff, c0, c1, c2, c3, c13, Int.cast_ofNat_Int, Int.reduceEq, Int.reduceSub, Int.reduceAdd, Int.reduceNeg, Int.reduceLT, Int.reduceLE, Nat.reduceLT, wi, tn_nat, tn0, Nat.div_one, Nat.mul_one, T_len, m3, T_row, T_nf, T_app1, Tv_nf, PT_len, PT_app1, T_app, T_cell, List.length_nil, Nat.zero_add, seq_dec, chk_of]; refine hK _ ?_; clear hK K)
                  | simp only [Sv, ↓reduceIte, Nat.reduceEqDiff]
                refine hQ2 _ (k + 1) (by omega) (by omega) ?_
                simp (disch := (first | omega | assumption)) only [Sl, Sa, Sw, ↓reduceIte, Nat.reduceEqDiff, Nat.reduceLT, List.all_nil, List.all_cons, Nat.reduceBneDiff, Nat.reduceAdd, bne_iff_ne, ne_eq, reduceCtorEq, not_false_eq_true, not_true_eq_false, Bool.and_true, Bool.true_and, and_true, true_and, and_self, i_eq]
                repeat' first | rfl | omega | (simp only [List.length_append, List.length_cons, List.length_nil]; done) | apply And.intro
              · repeat first | (refine hK _ ?_; clear hK K) | simp only [Sv, ↓reduceIte, Nat.reduceEqDiff] | ((first | refine vm_reg (fun K hK => ?_) | refine vm_dreg (fun K hK => ?_)); simp (disch := (first | omega | assumption)) only [initS, initE, Sw, Sx, Sb, pure_s2b, ↓reduceIte, Nat.reduceEqDiff, Nat.reduceAdd, Nat.reduceMul, Nat.reduceDiv, AOp.sb, AOp.mut, ↓Bool.false_eq_true, beq_self_eq_true, ite_self, decide_eq_true_eq, decide_true, decide_false, Nat.reduceLeDiff, c0, c1, c2, c3, c13, Int.cast_ofNat_Int, Int.reduceEq, Int.reduceSub, Int.reduceAdd, Int.reduceNeg, Int.reduceLT, Int.reduceLE, Nat.reduceLT, wi, tn_nat, tn0, Nat.div_one, Nat.mul_one, T_len, m3, T_row, T_nf, T_app1, Tv_nf, PT_len, PT_app1, T_app, T_cell, List.length_nil, Nat.zero_add, seq_dec, chk_of, hkt])
                refine clp_of _ _ (hmk) ?_ ?_
                · first | rfl | (simp (disch := (first | omega | assumption)) only [initS, initE, Sw, Sx, Sb, pure_s2b, ↓reduceIte, Nat.reduceEqDiff, Nat.reduceAdd, Nat.reduceMul, Nat.reduceDiv, AOp.sb, AOp.mut, ↓Bool.false_eq_true, beq_self_eq_true, ite_self, decide_eq_true_eq, decide_true, decide_false, Nat.reduceLeDiff, c0, c1, c2, c3, c13, Int.cast_ofNat_Int, Int.reduceEq, Int.reduceSub, Int.reduceAdd, Int.reduceNeg, Int.reduceLT, Int.reduceLE, Nat.reduceLT, wi, tn_nat, tn0, Nat.div_one, Nat.mul_one, T_len, m3, T_row, T_nf, T_app1, Tv_nf, PT_len, PT_app1, T_app, T_cell, List.length_nil, Nat.zero_add, seq_dec, chk_of, hkt])
                simp (disch := (first | omega | assumption)) only [initS, initE, Sw, Sx, Sb, pure_s2b, ↓reduceIte, Nat.reduceEqDiff, Nat.reduceAdd, Nat.reduceMul, Nat.reduceDiv, AOp.sb, AOp.mut, ↓Bool.false_eq_true, beq_self_eq_true, ite_self, decide_eq_true_eq, decide_true, decide_false, Nat.reduceLeDiff, c0, c1, c2, c3, c13, Int.cast_ofNat_Int, Int.reduceEq, Int.reduceSub, Int.reduceAdd, Int.reduceNeg, Int.reduceLT, Int.reduceLE, Nat.reduceLT, wi, tn_nat, tn0, Nat.div_one, Nat.mul_one, T_len, m3, T_row, T_nf, T_app1, Tv_nf, PT_len, PT_app1, T_app, T_cell, List.length_nil, Nat.zero_add, seq_dec, chk_of, hkt]
                repeat first | (refine hK _ ?_; clear hK K) | simp only [Sv, ↓reduceIte, Nat.reduceEqDiff] | ((first | refine vm_reg (fun K hK => ?_) | refine vm_dreg (fun K hK => ?_)); simp (disch := (first | omega | assumption)) only [initS, initE, Sw, Sx, Sb, pure_s2b, ↓reduceIte, Nat.reduceEqDiff, Nat.reduceAdd, Nat.reduceMul, Nat.reduceDiv, AOp.sb, AOp.mut, ↓Bool.false_eq_true, beq_self_eq_true, ite_self, decide_eq_true_eq, decide_true, decide_false, Nat.reduceLeDiff, c0, c1, c2, c3, c13, Int.cast_ofNat_Int, Int.reduceEq, Int.reduceSub, Int.reduceAdd, Int.reduceNeg, Int.reduceLT, Int.reduceLE, Nat.reduceLT, wi, tn_nat, tn0, Nat.div_one, Nat.mul_one, T_len, m3, T_row, T_nf, T_app1, Tv_nf, PT_len, PT_app1, T_app, T_cell, List.length_nil, Nat.zero_add, seq_dec, chk_of, T_k, T_t, h5])
                refine clp_of _ _ (plain_spec 3 3 (by omega)) ?_ ?_
                · first | rfl | (simp (disch := (first | omega | assumption)) only [initS, initE, Sw, Sx, Sb, pure_s2b, ↓reduceIte, Nat.reduceEqDiff, Nat.reduceAdd, Nat.reduceMul, Nat.reduceDiv, AOp.sb, AOp.mut, ↓Bool.false_eq_true, beq_self_eq_true, ite_self, decide_eq_true_eq, decide_true, decide_false, Nat.reduceLeDiff, c0, c1, c2, c3, c13, Int.cast_ofNat_Int, Int.reduceEq, Int.reduceSub, Int.reduceAdd, Int.reduceNeg, Int.reduceLT, Int.reduceLE, Nat.reduceLT, wi, tn_nat, tn0, Nat.div_one, Nat.mul_one, T_len, m3, T_row, T_nf, T_app1, Tv_nf, PT_len, PT_app1, T_app, T_cell, List.length_nil, Nat.zero_add, seq_dec, chk_of, T_k, T_t, h5])
                simp (disch := (first | omega | assumption)) only [initS, initE, Sw, Sx, Sb, pure_s2b, ↓reduceIte, Nat.reduceEqDiff, Nat.reduceAdd, Nat.reduceMul, Nat.reduceDiv, AOp.sb, AOp.mut, ↓Bool.false_eq_true, beq_self_eq_true, ite_self, decide_eq_true_eq, decide_true, decide_false, Nat.reduceLeDiff, c0, c1, c2, c3, c13, Int.cast_ofNat_Int, Int.reduceEq, Int.reduceSub, Int.reduceAdd, Int.reduceNeg, Int.reduceLT, Int.reduceLE, Nat.reduceLT, wi, tn_nat, tn0, Nat.div_one, Nat.mul_one, T_len, m3, T_row, T_nf, T_app1, Tv_nf, PT_len, PT_app1, T_app, T_cell, List.length_nil, Nat.zero_add, seq_dec, chk_of, T_k, T_t, h5]
                repeat first
                  | (refine hK _ ?_; clear hK K)
                  | ((first | refine vm_reg (fun K hK => ?_) | refine vm_dreg (fun K hK => ?_)); simp (disch := (first | omega | assumption)) only [initS, initE, Sw, Sx, Sb, pure_s2b, ↓reduceIte, Nat.reduceEqDiff, Nat.reduceAdd, Nat.reduceMul, Nat.reduceDiv, AOp.sb, AOp.mut, ↓Bool.false_eq_true, beq_self_eq_true, ite_self, decide_eq_true_eq, decide_true, decide_false, Nat.reduceLeDiff, c0, c1, c2, c3, c13, Int.cast_ofNat_Int, Int.reduceEq, Int.reduceSub, Int.reduceAdd, Int.reduceNeg, Int.reduceLT, Int.reduceLE, Nat.reduceLT, wi, tn_nat, tn0, Nat.div_one, Nat.mul_one, T_len, m3, T_row, T_nf, T_app1, Tv_nf, PT_len, PT_app1, T_app, T_cell, List.length_nil, Nat.zero_add, seq_dec, chk_of]; refine hK _ ?_; clear hK K)
                  | simp only [Sv, ↓reduceIte, Nat.reduceEqDiff]
                refine hQ2 _ (k + 1) (by omega) (by omega) ?_
                simp (disch := (first | omega | assumption)) only [Sl, Sa, Sw, ↓reduceIte, Nat.reduceEqDiff, Nat.reduceLT, List.all_nil, List.all_cons, Nat.reduceBneDiff, Nat.reduceAdd, bne_iff_ne, ne_eq, reduceCtorEq, not_false_eq_true, not_true_eq_false, Bool.and_true, Bool.true_and, and_true, true_and, and_self, i_eq]
                repeat' first | rfl | omega | (simp only [List.length_append, List.length_cons, List.length_nil]; done) | apply And.intro
            · obtain ⟨j, m1, m2, m3', m4, m5, m6⟩ := hmt k hkt' rfl ho
              rw [m1] at hmk
              obtain ⟨h5, h6⟩ := isS_t ho
              have hn := nest_spec ((back.drop (k + 1)).take (j - (k + 1))) (by rw [List.length_take, List.length_drop]; omega)
              generalize nestG ((back.drop (k + 1)).take (j - (k + 1))) 0 0 = np at *
              obtain ⟨n, en⟩ := np
              simp only [] at m5 m6 hn
              subst m5
              have g1 : ¬ (j : Int) ≤ (k : Int) := by omega
              have g2 : ¬ (back.length : Int) ≤ (j : Int) := by omega
              have g3 : ¬ dp + 1 ≤ n := by omega
              repeat first | (refine hK _ ?_; clear hK K) | simp only [Sv, ↓reduceIte, Nat.reduceEqDiff] | ((first | refine vm_reg (fun K hK => ?_) | refine vm_dreg (fun K hK => ?_)); simp (disch := (first | omega | assumption)) only [initS, initE, Sw, Sx, Sb, pure_s2b, ↓reduceIte, Nat.reduceEqDiff, Nat.reduceAdd, Nat.reduceMul, Nat.reduceDiv, AOp.sb, AOp.mut, ↓Bool.false_eq_true, beq_self_eq_true, ite_self, decide_eq_true_eq, decide_true, decide_false, Nat.reduceLeDiff, c0, c1, c2, c3, c13, Int.cast_ofNat_Int, Int.reduceEq, Int.reduceSub, Int.reduceAdd, Int.reduceNeg, Int.reduceLT, Int.reduceLE, Nat.reduceLT, wi, tn_nat, tn0, Nat.div_one, Nat.mul_one, T_len, m3, T_row, T_nf, T_app1, Tv_nf, PT_len, PT_app1, T_app, T_cell, List.length_nil, Nat.zero_add, seq_dec, chk_of, hkt])
              refine clp_of _ _ (hmk) ?_ ?_
              · first | rfl | (simp (disch := (first | omega | assumption)) only [initS, initE, Sw, Sx, Sb, pure_s2b, ↓reduceIte, Nat.reduceEqDiff, Nat.reduceAdd, Nat.reduceMul, Nat.reduceDiv, AOp.sb, AOp.mut, ↓Bool.false_eq_true, beq_self_eq_true, ite_self, decide_eq_true_eq, decide_true, decide_false, Nat.reduceLeDiff, c0, c1, c2, c3, c13, Int.cast_ofNat_Int, Int.reduceEq, Int.reduceSub, Int.reduceAdd, Int.reduceNeg, Int.reduceLT, Int.reduceLE, Nat.reduceLT, wi, tn_nat, tn0, Nat.div_one, Nat.mul_one, T_len, m3, T_row, T_nf, T_app1, Tv_nf, PT_len, PT_app1, T_app, T_cell, List.length_nil, Nat.zero_add, seq_dec, chk_of, hkt])
              simp (disch := (first | omega | assumption)) only [initS, initE, Sw, Sx, Sb, pure_s2b, ↓reduceIte, Nat.reduceEqDiff, Nat.reduceAdd, Nat.reduceMul, Nat.reduceDiv, AOp.sb, AOp.mut, ↓Bool.false_eq_true, beq_self_eq_true, ite_self, decide_eq_true_eq, decide_true, decide_false, Nat.reduceLeDiff, c0, c1, c2, c3, c13, Int.cast_ofNat_Int, Int.reduceEq, Int.reduceSub, Int.reduceAdd, Int.reduceNeg, Int.reduceLT, Int.reduceLE, Nat.reduceLT, wi, tn_nat, tn0, Nat.div_one, Nat.mul_one, T_len, m3, T_row, T_nf, T_app1, Tv_nf, PT_len, PT_app1, T_app, T_cell, List.length_nil, Nat.zero_add, seq_dec, chk_of, hkt]
              repeat first | (refine hK _ ?_; clear hK K) | simp only [Sv, ↓reduceIte, Nat.reduceEqDiff] | ((first | refine vm_reg (fun K hK => ?_) | refine vm_dreg (fun K hK => ?_)); simp (disch := (first | omega | assumption)) only [initS, initE, Sw, Sx, Sb, pure_s2b, ↓reduceIte, Nat.reduceEqDiff, Nat.reduceAdd, Nat.reduceMul, Nat.reduceDiv, AOp.sb, AOp.mut, ↓Bool.false_eq_true, beq_self_eq_true, ite_self, decide_eq_true_eq, decide_true, decide_false, Nat.reduceLeDiff, c0, c1, c2, c3, c13, Int.cast_ofNat_Int, Int.reduceEq, Int.reduceSub, Int.reduceAdd, Int.reduceNeg, Int.reduceLT, Int.reduceLE, Nat.reduceLT, wi, tn_nat, tn0, Nat.div_one, Nat.mul_one, T_len, m3, T_row, T_nf, T_app1, Tv_nf, PT_len, PT_app1, T_app, T_cell, List.length_nil, Nat.zero_add, seq_dec, chk_of, T_k, T_t, h5, h6, g1, g2, m4, tn_succ, T_subn])
              refine clp_of _ _ (hn) ?_ ?_
              · first | rfl | (simp (disch := (first | omega | assumption)) only [initS, initE, Sw, Sx, Sb, pure_s2b, ↓reduceIte, Nat.reduceEqDiff, Nat.reduceAdd, Nat.reduceMul, Nat.reduceDiv, AOp.sb, AOp.mut, ↓Bool.false_eq_true, beq_self_eq_true, ite_self, decide_eq_true_eq, decide_true, decide_false, Nat.reduceLeDiff, c0, c1, c2, c3, c13, Int.cast_ofNat_Int, Int.reduceEq, Int.reduceSub, Int.reduceAdd, Int.reduceNeg, Int.reduceLT, Int.reduceLE, Nat.reduceLT, wi, tn_nat, tn0, Nat.div_one, Nat.mul_one, T_len, m3, T_row, T_nf, T_app1, Tv_nf, PT_len, PT_app1, T_app, T_cell, List.length_nil, Nat.zero_add, seq_dec, chk_of, T_k, T_t, h5, h6, g1, g2, m4, tn_succ, T_subn])
              simp (disch := (first | omega | assumption)) only [initS, initE, Sw, Sx, Sb, pure_s2b, ↓reduceIte, Nat.reduceEqDiff, Nat.reduceAdd, Nat.reduceMul, Nat.reduceDiv, AOp.sb, AOp.mut, ↓Bool.false_eq_true, beq_self_eq_true, ite_self, decide_eq_true_eq, decide_true, decide_false, Nat.reduceLeDiff, c0, c1, c2, c3, c13, Int.cast_ofNat_Int, Int.reduceEq, Int.reduceSub, Int.reduceAdd, Int.reduceNeg, Int.reduceLT, Int.reduceLE, Nat.reduceLT, wi, tn_nat, tn0, Nat.div_one, Nat.mul_one, T_len, m3, T_row, T_nf, T_app1, Tv_nf, PT_len, PT_app1, T_app, T_cell, List.length_nil, Nat.zero_add, seq_dec, chk_of, T_k, T_t, h5, h6, g1, g2, m4, tn_succ, T_subn]
              repeat first
                | (refine hK _ ?_; clear hK K)
                | ((first | refine vm_reg (fun K hK => ?_) | refine vm_dreg (fun K hK => ?_)); simp (disch := (first | omega | assumption)) only [initS, initE, Sw, Sx, Sb, pure_s2b, ↓reduceIte, Nat.reduceEqDiff, Nat.reduceAdd, Nat.reduceMul, Nat.reduceDiv, AOp.sb, AOp.mut, ↓Bool.false_eq_true, beq_self_eq_true, ite_self, decide_eq_true_eq, decide_true, decide_false, Nat.reduceLeDiff, c0, c1, c2, c3, c13, Int.cast_ofNat_Int, Int.reduceEq, Int.reduceSub, Int.reduceAdd, Int.reduceNeg, Int.reduceLT, Int.reduceLE, Nat.reduceLT, wi, tn_nat, tn0, Nat.div_one, Nat.mul_one, T_len, m3, T_row, T_nf, T_app1, Tv_nf, PT_len, PT_app1, T_app, T_cell, List.length_nil, Nat.zero_add, seq_dec, chk_of, g3]; refine hK _ ?_; clear hK K)
                | simp only [Sv, ↓reduceIte, Nat.reduceEqDiff]
              refine hQ2 _ (k + 1) (by omega) (by omega) ?_
              simp (disch := (first | omega | assumption)) only [Sl, Sa, Sw, ↓reduceIte, Nat.reduceEqDiff, Nat.reduceLT, List.all_nil, List.all_cons, Nat.reduceBneDiff, Nat.reduceAdd, bne_iff_ne, ne_eq, reduceCtorEq, not_false_eq_true, not_true_eq_false, Bool.and_true, Bool.true_and, and_true, true_and, and_self, i_eq]
              repeat' first | rfl | omega | (simp only [List.length_append, List.length_cons, List.length_nil]; done) | apply And.intro
          · repeat first
              | (refine hK _ ?_; clear hK K)
              | ((first | refine vm_reg (fun K hK => ?_) | refine vm_dreg (fun K hK => ?_)); simp (disch := (first | omega | assumption)) only [initS, initE, Sw, Sx, Sb, pure_s2b, ↓reduceIte, Nat.reduceEqDiff, Nat.reduceAdd, Nat.reduceMul, Nat.reduceDiv, AOp.sb, AOp.mut, ↓Bool.false_eq_true, beq_self_eq_true, ite_self, decide_eq_true_eq, decide_true, decide_false, Nat.reduceLeDiff, c0, c1, c2, c3, c13, Int.cast_ofNat_Int, Int.reduceEq, Int.reduceSub, Int.reduceAdd, Int.reduceNeg, Int.reduceLT, Int.reduceLE, Nat.reduceLT, wi, tn_nat, tn0, Nat.div_one, Nat.mul_one, T_len, m3, T_row, T_nf, T_app1, Tv_nf, PT_len, PT_app1, T_app, T_cell, List.length_nil, Nat.zero_add, seq_dec, chk_of, hkt]; refine hK _ ?_; clear hK K)
              | simp only [Sv, ↓reduceIte, Nat.reduceEqDiff]
            refine he2 _ _ ?_
            repeat first
              | (refine hK _ ?_; clear hK K)
              | ((first | refine vm_reg (fun K hK => ?_) | refine vm_dreg (fun K hK => ?_)); simp (disch := (first | omega | assumption)) only [initS, initE, Sw, Sx, Sb, pure_s2b, ↓reduceIte, Nat.reduceEqDiff, Nat.reduceAdd, Nat.reduceMul, Nat.reduceDiv, AOp.sb, AOp.mut, ↓Bool.false_eq_true, beq_self_eq_true, ite_self, decide_eq_true_eq, decide_true, decide_false, Nat.reduceLeDiff, c0, c1, c2, c3, c13, Int.cast_ofNat_Int, Int.reduceEq, Int.reduceSub, Int.reduceAdd, Int.reduceNeg, Int.reduceLT, Int.reduceLE, Nat.reduceLT, wi, tn_nat, tn0, Nat.div_one, Nat.mul_one, T_len, m3, T_row, T_nf, T_app1, Tv_nf, PT_len, PT_app1, T_app, T_cell, List.length_nil, Nat.zero_add, seq_dec, chk_of]; refine hK _ ?_; clear hK K)
              | simp only [Sv, ↓reduceIte, Nat.reduceEqDiff]
            simp (disch := (first | omega | assumption)) only [retOk, retN, ret1, V.okArg, and_true, true_and, initS, initE, Sw, Sx, Sb, pure_s2b, ↓reduceIte, Nat.reduceEqDiff, Nat.reduceAdd, Nat.reduceMul, Nat.reduceDiv, AOp.sb, AOp.mut, ↓Bool.false_eq_true, beq_self_eq_true, ite_self, decide_eq_true_eq, decide_true, decide_false, Nat.reduceLeDiff, c0, c1, c2, c3, c13, Int.cast_ofNat_Int, Int.reduceEq, Int.reduceSub, Int.reduceAdd, Int.reduceNeg, Int.reduceLT, Int.reduceLE, Nat.reduceLT, wi, tn_nat, tn0, Nat.div_one, Nat.mul_one, T_len, m3, T_row, T_nf, T_app1, Tv_nf, PT_len, PT_app1, T_app, T_cell, List.length_nil, Nat.zero_add, seq_dec, chk_of]
      · have hz := hbad (.inr hc0)
        subst hz
        repeat first | (refine hK _ ?_; clear hK K) | simp only [Sv, ↓reduceIte, Nat.reduceEqDiff] | ((first | refine vm_reg (fun K hK => ?_) | refine vm_dreg (fun K hK => ?_)); simp (disch := (first | omega | assumption)) only [initS, initE, Sw, Sx, Sb, pure_s2b, ↓reduceIte, Nat.reduceEqDiff, Nat.reduceAdd, Nat.reduceMul, Nat.reduceDiv, AOp.sb, AOp.mut, ↓Bool.false_eq_true, beq_self_eq_true, ite_self, decide_eq_true_eq, decide_true, decide_false, Nat.reduceLeDiff, c0, c1, c2, c3, c13, Int.cast_ofNat_Int, Int.reduceEq, Int.reduceSub, Int.reduceAdd, Int.reduceNeg, Int.reduceLT, Int.reduceLE, Nat.reduceLT, wi, tn_nat, tn0, Nat.div_one, Nat.mul_one, T_len, m3, T_row, T_nf, T_app1, Tv_nf, PT_len, PT_app1, T_app, T_cell, List.length_nil, Nat.zero_add, seq_dec, chk_of, he0, hc0])
        simp (disch := (first | omega | assumption)) only [retOk, retN, ret1, V.okArg, and_true, true_and, initS, initE, Sw, Sx, Sb, pure_s2b, ↓reduceIte, Nat.reduceEqDiff, Nat.reduceAdd, Nat.reduceMul, Nat.reduceDiv, AOp.sb, AOp.mut, ↓Bool.false_eq_true, beq_self_eq_true, ite_self, decide_eq_true_eq, decide_true, decide_false, Nat.reduceLeDiff, c0, c1, c2, c3, c13, Int.cast_ofNat_Int, Int.reduceEq, Int.reduceSub, Int.reduceAdd, Int.reduceNeg, Int.reduceLT, Int.reduceLE, Nat.reduceLT, wi, tn_nat, tn0, Nat.div_one, Nat.mul_one, T_len, m3, T_row, T_nf, T_app1, Tv_nf, PT_len, PT_app1, T_app, T_cell, List.length_nil, Nat.zero_add, seq_dec, chk_of, he0, hc0]
        try rfl
    · have hz := hbad (.inl he0)
      subst hz
      repeat first | (refine hK _ ?_; clear hK K) | simp only [Sv, ↓reduceIte, Nat.reduceEqDiff] | ((first | refine vm_reg (fun K hK => ?_) | refine vm_dreg (fun K hK => ?_)); simp (disch := (first | omega | assumption)) only [initS, initE, Sw, Sx, Sb, pure_s2b, ↓reduceIte, Nat.reduceEqDiff, Nat.reduceAdd, Nat.reduceMul, Nat.reduceDiv, AOp.sb, AOp.mut, ↓Bool.false_eq_true, beq_self_eq_true, ite_self, decide_eq_true_eq, decide_true, decide_false, Nat.reduceLeDiff, c0, c1, c2, c3, c13, Int.cast_ofNat_Int, Int.reduceEq, Int.reduceSub, Int.reduceAdd, Int.reduceNeg, Int.reduceLT, Int.reduceLE, Nat.reduceLT, wi, tn_nat, tn0, Nat.div_one, Nat.mul_one, T_len, m3, T_row, T_nf, T_app1, Tv_nf, PT_len, PT_app1, T_app, T_cell, List.length_nil, Nat.zero_add, seq_dec, chk_of, he0])
      simp (disch := (first | omega | assumption)) only [retOk, retN, ret1, V.okArg, and_true, true_and, initS, initE, Sw, Sx, Sb, pure_s2b, ↓reduceIte, Nat.reduceEqDiff, Nat.reduceAdd, Nat.reduceMul, Nat.reduceDiv, AOp.sb, AOp.mut, ↓Bool.false_eq_true, beq_self_eq_true, ite_self, decide_eq_true_eq, decide_true, decide_false, Nat.reduceLeDiff, c0, c1, c2, c3, c13, Int.cast_ofNat_Int, Int.reduceEq, Int.reduceSub, Int.reduceAdd, Int.reduceNeg, Int.reduceLT, Int.reduceLE, Nat.reduceLT, wi, tn_nat, tn0, Nat.div_one, Nat.mul_one, T_len, m3, T_row, T_nf, T_app1, Tv_nf, PT_len, PT_app1, T_app, T_cell, List.length_nil, Nat.zero_add, seq_dec, chk_of, he0]
      try rfl
  · repeat first | (refine hK _ ?_; clear hK K) | simp only [Sv, ↓reduceIte, Nat.reduceEqDiff] | ((first | refine vm_reg (fun K hK => ?_) | refine vm_dreg (fun K hK => ?_)); simp (disch := (first | omega | assumption)) only [initS, initE, Sw, Sx, Sb, pure_s2b, ↓reduceIte, Nat.reduceEqDiff, Nat.reduceAdd, Nat.reduceMul, Nat.reduceDiv, AOp.sb, AOp.mut, ↓Bool.false_eq_true, beq_self_eq_true, ite_self, decide_eq_true_eq, decide_true, decide_false, Nat.reduceLeDiff, c0, c1, c2, c3, c13, Int.cast_ofNat_Int, Int.reduceEq, Int.reduceSub, Int.reduceAdd, Int.reduceNeg, Int.reduceLT, Int.reduceLE, Nat.reduceLT, wi, tn_nat, tn0, Nat.div_one, Nat.mul_one, T_len, m3, T_row, T_nf, T_app1, Tv_nf, PT_len, PT_app1, T_app, T_cell, List.length_nil, Nat.zero_add, seq_dec, chk_of, h2, h1])
    refine clp_of _ _ (scan_spec line) ?_ ?_
    · first | rfl | (simp (disch := (first | omega | assumption)) only [initS, initE, Sw, Sx, Sb, pure_s2b, ↓reduceIte, Nat.reduceEqDiff, Nat.reduceAdd, Nat.reduceMul, Nat.reduceDiv, AOp.sb, AOp.mut, ↓Bool.false_eq_true, beq_self_eq_true, ite_self, decide_eq_true_eq, decide_true, decide_false, Nat.reduceLeDiff, c0, c1, c2, c3, c13, Int.cast_ofNat_Int, Int.reduceEq, Int.reduceSub, Int.reduceAdd, Int.reduceNeg, Int.reduceLT, Int.reduceLE, Nat.reduceLT, wi, tn_nat, tn0, Nat.div_one, Nat.mul_one, T_len, m3, T_row, T_nf, T_app1, Tv_nf, PT_len, PT_app1, T_app, T_cell, List.length_nil, Nat.zero_add, seq_dec, chk_of, h2, h1])
    simp (disch := (first | omega | assumption)) only [initS, initE, Sw, Sx, Sb, pure_s2b, ↓reduceIte, Nat.reduceEqDiff, Nat.reduceAdd, Nat.reduceMul, Nat.reduceDiv, AOp.sb, AOp.mut, ↓Bool.false_eq_true, beq_self_eq_true, ite_self, decide_eq_true_eq, decide_true, decide_false, Nat.reduceLeDiff, c0, c1, c2, c3, c13, Int.cast_ofNat_Int, Int.reduceEq, Int.reduceSub, Int.reduceAdd, Int.reduceNeg, Int.reduceLT, Int.reduceLE, Nat.reduceLT, wi, tn_nat, tn0, Nat.div_one, Nat.mul_one, T_len, m3, T_row, T_nf, T_app1, Tv_nf, PT_len, PT_app1, T_app, T_cell, List.length_nil, Nat.zero_add, seq_dec, chk_of, h2, h1]
    repeat first | (refine hK _ ?_; clear hK K) | simp only [Sv, ↓reduceIte, Nat.reduceEqDiff] | ((first | refine vm_reg (fun K hK => ?_) | refine vm_dreg (fun K hK => ?_)); simp (disch := (first | omega | assumption)) only [initS, initE, Sw, Sx, Sb, pure_s2b, ↓reduceIte, Nat.reduceEqDiff, Nat.reduceAdd, Nat.reduceMul, Nat.reduceDiv, AOp.sb, AOp.mut, ↓Bool.false_eq_true, beq_self_eq_true, ite_self, decide_eq_true_eq, decide_true, decide_false, Nat.reduceLeDiff, c0, c1, c2, c3, c13, Int.cast_ofNat_Int, Int.reduceEq, Int.reduceSub, Int.reduceAdd, Int.reduceNeg, Int.reduceLT, Int.reduceLE, Nat.reduceLT, wi, tn_nat, tn0, Nat.div_one, Nat.mul_one, T_len, m3, T_row, T_nf, T_app1, Tv_nf, PT_len, PT_app1, T_app, T_cell, List.length_nil, Nat.zero_add, seq_dec, chk_of])
    simp (disch := (first | omega | assumption)) only [retOk, retN, ret1, V.okArg, and_true, true_and, initS, initE, Sw, Sx, Sb, pure_s2b, ↓reduceIte, Nat.reduceEqDiff, Nat.reduceAdd, Nat.reduceMul, Nat.reduceDiv, AOp.sb, AOp.mut, ↓Bool.false_eq_true, beq_self_eq_true, ite_self, decide_eq_true_eq, decide_true, decide_false, Nat.reduceLeDiff, c0, c1, c2, c3, c13, Int.cast_ofNat_Int, Int.reduceEq, Int.reduceSub, Int.reduceAdd, Int.reduceNeg, Int.reduceLT, Int.reduceLE, Nat.reduceLT, wi, tn_nat, tn0, Nat.div_one, Nat.mul_one, T_len, m3, T_row, T_nf, T_app1, Tv_nf, PT_len, PT_app1, T_app, T_cell, List.length_nil, Nat.zero_add, seq_dec, chk_of]
  · repeat first | (refine hK _ ?_; clear hK K) | simp only [Sv, ↓reduceIte, Nat.reduceEqDiff] | ((first | refine vm_reg (fun K hK => ?_) | refine vm_dreg (fun K hK => ?_)); simp (disch := (first | omega | assumption)) only [initS, initE, Sw, Sx, Sb, pure_s2b, ↓reduceIte, Nat.reduceEqDiff, Nat.reduceAdd, Nat.reduceMul, Nat.reduceDiv, AOp.sb, AOp.mut, ↓Bool.false_eq_true, beq_self_eq_true, ite_self, decide_eq_true_eq, decide_true, decide_false, Nat.reduceLeDiff, c0, c1, c2, c3, c13, Int.cast_ofNat_Int, Int.reduceEq, Int.reduceSub, Int.reduceAdd, Int.reduceNeg, Int.reduceLT, Int.reduceLE, Nat.reduceLT, wi, tn_nat, tn0, Nat.div_one, Nat.mul_one, T_len, m3, T_row, T_nf, T_app1, Tv_nf, PT_len, PT_app1, T_app, T_cell, List.length_nil, Nat.zero_add, seq_dec, chk_of, h2, h1])
    refine clp_of _ _ (scan_spec line) ?_ ?_
    · first | rfl | (simp (disch := (first | omega | assumption)) only [initS, initE, Sw, Sx, Sb, pure_s2b, ↓reduceIte, Nat.reduceEqDiff, Nat.reduceAdd, Nat.reduceMul, Nat.reduceDiv, AOp.sb, AOp.mut, ↓Bool.false_eq_true, beq_self_eq_true, ite_self, decide_eq_true_eq, decide_true, decide_false, Nat.reduceLeDiff, c0, c1, c2, c3, c13, Int.cast_ofNat_Int, Int.reduceEq, Int.reduceSub, Int.reduceAdd, Int.reduceNeg, Int.reduceLT, Int.reduceLE, Nat.reduceLT, wi, tn_nat, tn0, Nat.div_one, Nat.mul_one, T_len, m3, T_row, T_nf, T_app1, Tv_nf, PT_len, PT_app1, T_app, T_cell, List.length_nil, Nat.zero_add, seq_dec, chk_of, h2, h1])
    simp (disch := (first | omega | assumption)) only [initS, initE, Sw, Sx, Sb, pure_s2b, ↓reduceIte, Nat.reduceEqDiff, Nat.reduceAdd, Nat.reduceMul, Nat.reduceDiv, AOp.sb, AOp.mut, ↓Bool.false_eq_true, beq_self_eq_true, ite_self, decide_eq_true_eq, decide_true, decide_false, Nat.reduceLeDiff, c0, c1, c2, c3, c13, Int.cast_ofNat_Int, Int.reduceEq, Int.reduceSub, Int.reduceAdd, Int.reduceNeg, Int.reduceLT, Int.reduceLE, Nat.reduceLT, wi, tn_nat, tn0, Nat.div_one, Nat.mul_one, T_len, m3, T_row, T_nf, T_app1, Tv_nf, PT_len, PT_app1, T_app, T_cell, List.length_nil, Nat.zero_add, seq_dec, chk_of, h2, h1]
    repeat first | (refine hK _ ?_; clear hK K) | simp only [Sv, ↓reduceIte, Nat.reduceEqDiff] | ((first | refine vm_reg (fun K hK => ?_) | refine vm_dreg (fun K hK => ?_)); simp (disch := (first | omega | assumption)) only [initS, initE, Sw, Sx, Sb, pure_s2b, ↓reduceIte, Nat.reduceEqDiff, Nat.reduceAdd, Nat.reduceMul, Nat.reduceDiv, AOp.sb, AOp.mut, ↓Bool.false_eq_true, beq_self_eq_true, ite_self, decide_eq_true_eq, decide_true, decide_false, Nat.reduceLeDiff, c0, c1, c2, c3, c13, Int.cast_ofNat_Int, Int.reduceEq, Int.reduceSub, Int.reduceAdd, Int.reduceNeg, Int.reduceLT, Int.reduceLE, Nat.reduceLT, wi, tn_nat, tn0, Nat.div_one, Nat.mul_one, T_len, m3, T_row, T_nf, T_app1, Tv_nf, PT_len, PT_app1, T_app, T_cell, List.length_nil, Nat.zero_add, seq_dec, chk_of])
    simp (disch := (first | omega | assumption)) only [retOk, retN, ret1, V.okArg, and_true, true_and, initS, initE, Sw, Sx, Sb, pure_s2b, ↓reduceIte, Nat.reduceEqDiff, Nat.reduceAdd, Nat.reduceMul, Nat.reduceDiv, AOp.sb, AOp.mut, ↓Bool.false_eq_true, beq_self_eq_true, ite_self, decide_eq_true_eq, decide_true, decide_false, Nat.reduceLeDiff, c0, c1, c2, c3, c13, Int.cast_ofNat_Int, Int.reduceEq, Int.reduceSub, Int.reduceAdd, Int.reduceNeg, Int.reduceLT, Int.reduceLE, Nat.reduceLT, wi, tn_nat, tn0, Nat.div_one, Nat.mul_one, T_len, m3, T_row, T_nf, T_app1, Tv_nf, PT_len, PT_app1, T_app, T_cell, List.length_nil, Nat.zero_add, seq_dec, chk_of]
end Go.Proofs.Ytebcheabahajaaa
